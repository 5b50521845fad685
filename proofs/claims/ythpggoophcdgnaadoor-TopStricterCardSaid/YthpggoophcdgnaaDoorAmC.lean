/- The abstract machine, parts 19 to 25. Conditions: none. -/
import Derived.Deep.Slices
import Derived.ProofKit
import Derived.Test.YthpggoophcdgnaaDoorAmB
set_option linter.unusedVariables false
set_option linter.unusedSimpArgs false
namespace Go.Proofs.YthpggoophcdgnaaDoor.Am
open Go

section
variable {P : Program} {w0 : Cx}

def StepOp (P : Program) (w0 : Cx) (st : St) (o : Oper) (st' : St) : Prop := ∀ a w, Holds w0 st a w → OW P w0 o a w (fun a' w' => Holds w0 st' a' w')
theorem step_of_aops {st st' : St} {o : Oper} (hg : o.guard = none) (h : ∀ (ops rest : List Oper) (R : Exit → St → Prop), Aops P w0 ops rest R st' → Aops P w0 ops (o :: rest) R st) : StepOp P w0 st o st' := by
  intro a w hH F m hF
  have h1 := h [] [] (fun e s => e = .normal ∧ s = st') (aops_nil ⟨rfl, rfl⟩) F m hF a w hH
  unfold wpListIn at h1
  rw [if_pos (by simp [Region.wanted, hg])] at h1
  obtain ⟨h0, h1⟩ := h1
  refine ⟨h0, ?_⟩
  generalize (o.semAt F.round a.eval).run P w = r at *
  unfold Oper.uponIn at *
  split <;> simp_all [wpListIn, Post]
  all_goals first
    | exact h1.2.mono fun e w' h => by
        cases e with
        | returned v => simpa using h
        | panicked c => simp at h
        | outgrown => obtain ⟨_, _, _, hR, _⟩ := h; cases hR.1
    | skip

def depF (l : List Oper) : Nat → Nat → Nat → Bool
  | 0, _, _ => false
  | f + 1, i, p => match l[i]? with
    | some o => o.after.toList.any fun e => Region.binds .any e && (Nat.beq e.on p || depF l f e.on p)
    | none => false
def depB (l : List Oper) (i p : Nat) : Bool := depF l (i + 1) i p
theorem depF_done {l : List Oper} {n : Nat} {N : Nat} {L : Nat → Bool} (hr : regB l n N = true) (hD : Done l n L) : ∀ (f i p : Nat), i < n → (∀ o, l[i]? = some o → ∀ e ∈ o.after, Region.binds .any e = true → L e.on = true) → depF l f i p = true → L p = true
  | 0, _, _, _, _, h => by cases h
  | f + 1, i, p, hi, hL, h => by
    unfold depF at h
    cases ho : l[i]? with
    | none => rw [ho] at h; cases h
    | some o =>
      rw [ho] at h
      simp only [List.any_eq_true, Bool.and_eq_true, Bool.or_eq_true] at h
      obtain ⟨e, he, hb, h⟩ := h
      have hLe := hL o ho e (by simpa using he) hb
      rcases h with h | h
      · rw [← Nat.eq_of_beq_eq_true h]; exact hLe
      · have hlt := reg_before hr hi ho e (by simpa using he) hb
        exact depF_done hr hD f e.on p (by omega) (fun o' ho' e' he' hb' => hD.closed e.on o' (by omega) ho' hLe e' he' hb') h

/- sites in a region -/
def keyAt (ks : List (Option Nat)) (p : Nat) : Option Nat := (ks[p]?).bind id
def siteGo (st : St) (ks : List (Option Nat)) (zs : Nat → Site) (L : Nat → Bool) (k : Nat) : Nat → Site
  | 0 => st.s k
  | p + 1 => if L p = true ∧ keyAt ks p = some k then zs p else siteGo st ks zs L k p
def hidGo (l : List Oper) (ks : List (Option Nat)) (i : Nat) : Nat → List Nat
  | 0 => []
  | p + 1 => match keyAt ks p with
    | some k => if (Nat.blt p i && depB l i p) || Nat.beq p i || (Nat.blt i p && depB l p i) then hidGo l ks i p else k :: hidGo l ks i p
    | none => hidGo l ks i p
theorem siteGo_none {st : St} {ks : List (Option Nat)} {zs : Nat → Site} {L : Nat → Bool} {k : Nat} : ∀ {m : Nat}, (∀ p, p < m → keyAt ks p = some k → L p = false) → siteGo st ks zs L k m = st.s k
  | 0, _ => rfl
  | m + 1, h => by
    unfold siteGo
    rw [if_neg (fun hq => by have := h m (by omega) hq.2; rw [hq.1] at this; cases this), siteGo_none fun p hp hk => h p (by omega) hk]
theorem siteGo_congr {st : St} {ks : List (Option Nat)} {zs : Nat → Site} {L L' : Nat → Bool} {k : Nat} : ∀ {m : Nat}, (∀ p, p < m → keyAt ks p = some k → L p = L' p) → siteGo st ks zs L k m = siteGo st ks zs L' k m
  | 0, _ => rfl
  | m + 1, h => by
    unfold siteGo
    by_cases hk : keyAt ks m = some k
    · rw [h m (by omega) hk, siteGo_congr fun p hp hk => h p (by omega) hk]
    · rw [if_neg (fun hq => hk hq.2), if_neg (fun hq => hk hq.2), siteGo_congr fun p hp hk => h p (by omega) hk]
theorem hidGo_not {l : List Oper} {ks : List (Option Nat)} {i k : Nat} : ∀ {m : Nat}, memN k (hidGo l ks i m) = false → ∀ p, p < m → keyAt ks p = some k → (p < i ∧ depB l i p = true) ∨ p = i ∨ (i < p ∧ depB l p i = true)
  | 0, _, p, hp, _ => by omega
  | m + 1, h, p, hp, hk => by
    unfold hidGo at h
    cases hkm : keyAt ks m with
    | none =>
      rw [hkm] at h
      by_cases hpm : p = m
      · subst hpm; rw [hkm] at hk; cases hk
      · exact hidGo_not h p (by omega) hk
    | some k' =>
      rw [hkm] at h
      simp only at h
      split at h
      · rename_i hc
        by_cases hpm : p = m
        · subst hpm
          simp only [Bool.or_eq_true, Bool.and_eq_true, Nat.blt_eq] at hc
          rcases hc with (hc | hc) | hc
          · exact .inl hc
          · exact .inr (.inl (Nat.eq_of_beq_eq_true hc))
          · exact .inr (.inr hc)
        · exact hidGo_not h p (by omega) hk
      · simp only [memN, Bool.or_eq_false_iff] at h
        by_cases hpm : p = m
        · subst hpm
          rw [hkm] at hk; cases hk
          have := h.1
          simp at this
        · exact hidGo_not h.2 p (by omega) hk
open Classical in
noncomputable def stM (st : St) (l : List Oper) (n : Nat) (xs : Nat → T) (ks : List (Option Nat)) (zs : Nat → Site) (L : Nat → Bool) : St :=
  { n := st.n, t := (stOf st l n xs L).t, s := fun k => siteGo st ks zs L k n }

def visT (H : List Nat) : T → Bool
  | .ref _ _ => false
  | .rs k => !memN k H
  | .own _ _ _ _ => false
  | _ => true
def hidS (H : List Nat) : Site → Site
  | .tbox cs => if cs.all (visT H) = true then .tbox cs else .no
  | x => x
def hidT (s : Nat → Site) : T → T
  | .ref k o => match s k with | .no => .dead | _ => .ref k o
  | .rs k => match s k with | .no => .dead | _ => .rs k
  | .own k r f g => match s k with | .no => .dead | _ => .own k r f g
  | x => x
theorem hidT_refs {s : Nat → Site} {x : T} {k : Nat} (h : refs (hidT s x) k) : s k ≠ .no := by
  intro hk
  cases x with
  | ref j o =>
    simp only [hidT] at h
    cases hj : s j <;> rw [hj] at h <;> simp only [refs] at h
    · rcases h with h | ⟨_, h⟩ | ⟨_, _, _, h⟩ <;> cases h
    all_goals
      rcases h with h | ⟨_, h⟩ | ⟨_, _, _, h⟩
      · cases h
      · cases h; rw [hk] at hj; cases hj
      · cases h
  | rs j =>
    simp only [hidT] at h
    cases hj : s j <;> rw [hj] at h <;> simp only [refs] at h
    · rcases h with h | ⟨_, h⟩ | ⟨_, _, _, h⟩ <;> cases h
    all_goals
      rcases h with h | ⟨_, h⟩ | ⟨_, _, _, h⟩
      · cases h; rw [hk] at hj; cases hj
      · cases h
      · cases h
  | own j r f g =>
    simp only [hidT] at h
    cases hj : s j <;> rw [hj] at h <;> simp only [refs] at h
    · rcases h with h | ⟨_, h⟩ | ⟨_, _, _, h⟩ <;> cases h
    all_goals
      rcases h with h | ⟨_, h⟩ | ⟨_, _, _, h⟩
      · cases h
      · cases h
      · cases h; rw [hk] at hj; cases hj
  | d x => rcases h with h | ⟨_, h⟩ | ⟨_, _, _, h⟩ <;> cases h
  | un => rcases h with h | ⟨_, h⟩ | ⟨_, _, _, h⟩ <;> cases h
  | dead => rcases h with h | ⟨_, h⟩ | ⟨_, _, _, h⟩ <;> cases h
theorem hidT_or (s : Nat → Site) (x : T) : hidT s x = .dead ∨ hidT s x = x := by
  cases x with
  | ref k o => simp only [hidT]; cases s k <;> first | exact .inl rfl | exact .inr rfl
  | rs k => simp only [hidT]; cases s k <;> first | exact .inl rfl | exact .inr rfl
  | own k r f g => simp only [hidT]; cases s k <;> first | exact .inl rfl | exact .inr rfl
  | _ => exact .inr rfl
def sSee (st : St) (l : List Oper) (ks : List (Option Nat)) (zs : Nat → Site) (n i : Nat) : Nat → Site := fun k =>
  if memN k (hidGo l ks i n) = true then .no else hidS (hidGo l ks i n) (siteGo st ks zs (ltB i) k n)
def evSee (st : St) (l : List Oper) (n : Nat) (xs : Nat → T) (ks : List (Option Nat)) (zs : Nat → Site) (i : Nat) (o : Oper) (gs : List (Nat × Bool)) : Operand → T := fun y => hidT (sSee st l ks zs n i) (evAt st l n xs i o gs y)
theorem siteGo_at {st : St} {l : List Oper} {n N i k : Nat} {ks : List (Option Nat)} {zs : Nat → Site} {o : Oper} {L : Nat → Bool} (h : regB l n N = true) (hi : i < n) (ho : l[i]? = some o)
    (hD : Done l n L) (hLi : L i = false) (hLa : ∀ e ∈ o.after, Region.binds .any e = true → L e.on = true) (hk : memN k (hidGo l ks i n) = false) : siteGo st ks zs L k n = siteGo st ks zs (ltB i) k n := by
  refine siteGo_congr fun p hp hkp => ?_
  rcases hidGo_not hk p hp hkp with ⟨h1, h2⟩ | h1 | ⟨h1, h2⟩
  · rw [depF_done h hD _ i p hi (fun o' ho' => by rw [ho] at ho'; cases ho'; exact hLa) h2]
    simp [ltB, h1]
  · subst h1; rw [hLi]; simp [ltB]
  · have : L p = false := by
      rw [← Bool.not_eq_true]
      intro hLp
      have := depF_done h hD _ p i hp (fun o' ho' e he hb => hD.closed p o' hp ho' hLp e he hb) h2
      rw [hLi] at this; cases this
    rw [this]
    symm
    simp only [ltB, decide_eq_false_iff_not]; omega
theorem see_sub {st : St} {l : List Oper} {n N i : Nat} {xs : Nat → T} {ks : List (Option Nat)} {zs : Nat → Site} {o : Oper} {gs : List (Nat × Bool)} {L : Nat → Bool} {a : Act} {w : World} {blk : Nat → Option Nat} {val : Nat → Value} (h : regB l n N = true) (hi : i < n) (ho : l[i]? = some o)
    (hD : Done l n L) (hLi : L i = false) (hLa : ∀ e ∈ o.after, Region.binds .any e = true → L e.on = true) (hh : Hold w0 (stM st l n xs ks zs L) a w blk val) :
    Sub (sSee st l ks zs n i) (evSee st l n xs ks zs i o gs) (stM st l n xs ks zs L).s := by
  have key : ∀ k, memN k (hidGo l ks i n) = false → (stM st l n xs ks zs L).s k = siteGo st ks zs (ltB i) k n := fun k hk => siteGo_at h hi ho hD hLi hLa hk
  refine ⟨fun k => ?_, fun k cs hk x hx j hj => ?_⟩
  · by_cases hs : sSee st l ks zs n i k = .no
    · by_cases he : (stM st l n xs ks zs L).s k = .no
      · exact .inl (he.trans hs.symm)
      · exact .inr ⟨hs, fun y hr => hidT_refs hr hs⟩
    · left
      unfold sSee at hs ⊢
      cases hm : memN k (hidGo l ks i n) with
      | true => rw [hm, if_pos rfl] at hs; exact absurd rfl hs
      | false =>
        rw [hm] at hs
        rw [if_neg (by simp)] at hs ⊢
        rw [key k hm]
        cases hz : siteGo st ks zs (ltB i) k n with
        | tbox cs =>
          rw [hz] at hs
          simp only [hidS] at hs ⊢
          split at hs
          · rename_i hc; rw [if_pos hc]
          · exact absurd rfl hs
        | _ => rfl
  · unfold sSee at hk
    cases hm : memN k (hidGo l ks i n) with
    | true => rw [hm, if_pos rfl] at hk; cases hk
    | false =>
      rw [hm, if_neg (by simp)] at hk
      cases hz : siteGo st ks zs (ltB i) k n with
      | tbox cs' =>
        rw [hz] at hk
        simp only [hidS] at hk
        split at hk
        · rename_i hc
          cases hk
          have hv := List.all_eq_true.1 hc x hx
          rcases hj with rfl | ⟨o', rfl⟩ | ⟨_, _, _, rfl⟩
          · simp only [visT, Bool.not_eq_true'] at hv
            have hsite := hh.site k
            rw [key k hm, hz] at hsite
            obtain ⟨b, e, vals, _, _, _, h5⟩ := hsite
            obtain ⟨q, hq⟩ := List.getElem?_of_mem hx
            obtain ⟨v, _, _, ⟨⟨e', sz, es, hrow⟩, _⟩⟩ := h5 q _ hq
            rw [hrow]
            have e1 := (key j hv).symm.trans hrow
            unfold sSee
            rw [hv, if_neg (by simp), e1]; rfl
          · cases hv
          · cases hv
        · cases hk
      | no => rw [hz] at hk; cases hk
      | box cs' => rw [hz] at hk; cases hk
      | row e sz es => rw [hz] at hk; cases hk
      | mp es c => rw [hz] at hk; cases hk

def MOp (P : Program) (w0 : Cx) (n : Nat) (s : Nat → Site) (ev : Operand → T) (o : Oper) (k : Nat) (z : Site) (x : T) : Prop :=
  ∀ st, Sub s ev st.s → st.s k = s k → st.n = n → (∀ y, ev y = .dead ∨ st.ev y = ev y) → (∀ d, o.dst = some d → d < n) → StepOp P w0 st o ((st.site k z).put o.dst x)
theorem stM_set {st : St} {l : List Oper} {n N i : Nat} {xs : Nat → T} {ks : List (Option Nat)} {zs : Nat → Site} {o : Oper} {L : Nat → Bool} (h : regB l n N = true) (hi : i < n) (ho : l[i]? = some o) (hLi : L i = false) (hk : keyAt ks i = none) :
    stM st l n xs ks zs (setL L i) = (stM st l n xs ks zs L).put o.dst (by classical exact if GH xs (guardsOf l i) then xs i else .un) := by
  have ht := stOf_set (st := st) (xs := xs) h hi ho hLi
  have hs : ∀ k, siteGo st ks zs (setL L i) k n = siteGo st ks zs L k n := fun k => siteGo_congr fun p _ hp => by
    have : p ≠ i := fun e => by subst e; rw [hk] at hp; cases hp
    simp [setL, this]
  have h1 : (stOf st l n xs (setL L i)).t = ((stOf st l n xs L).put o.dst (by classical exact if GH xs (guardsOf l i) then xs i else .un)).t := by rw [ht]
  cases hd : o.dst with
  | none =>
    rw [hd] at h1
    simp only [St.put] at h1 ⊢
    simp only [stM, St.mk.injEq, true_and]
    exact ⟨h1, funext hs⟩
  | some d =>
    rw [hd] at h1
    simp only [St.put] at h1 ⊢
    simp only [stM, St.mk.injEq, true_and]
    exact ⟨h1, funext hs⟩
theorem siteGo_last {st : St} {ks : List (Option Nat)} {zs : Nat → Site} {L : Nat → Bool} {k i : Nat} (hL : L i = true) (hk : keyAt ks i = some k) : ∀ {m : Nat}, i < m → (∀ p, i < p → p < m → keyAt ks p = some k → L p = false) → siteGo st ks zs L k m = zs i
  | 0, hi, _ => by omega
  | m + 1, hi, h => by
    unfold siteGo
    by_cases hm : m = i
    · subst hm; rw [if_pos ⟨hL, hk⟩]
    · rw [if_neg (fun hq => by have := h m (by omega) (by omega) hq.2; rw [hq.1] at this; cases this), siteGo_last hL hk (by omega) fun p hp hpm => h p hp (by omega)]
theorem stM_setM {st : St} {l : List Oper} {n N i k : Nat} {xs : Nat → T} {ks : List (Option Nat)} {zs : Nat → Site} {o : Oper} {L : Nat → Bool} (h : regB l n N = true) (hi : i < n) (ho : l[i]? = some o) (hg : o.guard = none)
    (hD : Done l n L) (hLi : L i = false) (hk : keyAt ks i = some k) (hH : memN k (hidGo l ks i n) = false) :
    stM st l n xs ks zs (setL L i) = ((stM st l n xs ks zs L).site k (zs i)).put o.dst (xs i) := by
  have ht := stOf_set (st := st) (xs := xs) h hi ho hLi
  rw [guards_none ho hg, if_pos (show GH xs [] from trivial)] at ht
  have hs : (fun j => siteGo st ks zs (setL L i) j n) = fun j => bif Nat.beq j k then zs i else siteGo st ks zs L j n := by
    funext j
    cases hjk : Nat.beq j k
    · simp only [cond_false]
      refine siteGo_congr fun p _ hp => ?_
      have : p ≠ i := fun e => by subst e; rw [hk] at hp; cases hp; simp at hjk
      simp [setL, this]
    · rw [Nat.eq_of_beq_eq_true hjk]
      simp only [cond_true]
      refine siteGo_last (by simp [setL]) hk hi fun p hp hpn hpk => ?_
      have hpi : p ≠ i := by omega
      simp only [setL, beq_iff_eq, hpi, Bool.or_eq_false_iff]
      refine ⟨by simp [hpi], ?_⟩
      rcases hidGo_not hH p hpn hpk with ⟨q, _⟩ | q | ⟨_, q⟩
      · omega
      · omega
      · rw [← Bool.not_eq_true]
        intro hLp
        have := depF_done h hD _ p i hpn (fun o' ho' e he hb => hD.closed p o' hpn ho' hLp e he hb) q
        rw [hLi] at this; cases this
  have h1 : (stOf st l n xs (setL L i)).t = ((stOf st l n xs L).put o.dst (xs i)).t := by rw [ht]
  cases hd : o.dst with
  | none =>
    rw [hd] at h1
    simp only [St.put, St.site] at h1 ⊢
    simp only [stM, St.mk.injEq, true_and]
    exact ⟨h1, hs⟩
  | some d =>
    rw [hd] at h1
    simp only [St.put, St.site] at h1 ⊢
    simp only [stM, St.mk.injEq, true_and]
    exact ⟨h1, hs⟩

def SOpM (P : Program) (w0 : Cx) (st : St) (l : List Oper) (n : Nat) (xs : Nat → T) (ks : List (Option Nat)) (zs : Nat → Site) (i : Nat) (o : Oper) (gs : List (Nat × Bool)) (x : T) : Prop :=
  (keyAt ks i = none ∧ (QOp P w0 st.n (sSee st l ks zs n i) (evSee st l n xs ks zs i o gs) o x ∨
    ∃ tc a b jc cb p q, o.op = .pick (.tmp tc) a b ∧ prodIdx l n tc = some jc ∧ afterB o jc = true ∧ xs jc = T.bool cb ∧ evAt st l n xs i o gs (.tmp tc) = T.bool cb ∧
      evAt st l n xs i o ((jc, true) :: gs) a = T.bool p ∧ evAt st l n xs i o ((jc, false) :: gs) b = T.bool q ∧ x = T.bool (bif cb then p else q))) ∨
  ∃ k, keyAt ks i = some k ∧ o.guard = none ∧ memN k (hidGo l ks i n) = false ∧ siteGo st ks zs (ltB i) k n = sSee st l ks zs n i k ∧ MOp P w0 st.n (sSee st l ks zs n i) (evSee st l n xs ks zs i o gs) o k (zs i) x
theorem evSee_sound {st : St} {l : List Oper} {n N i : Nat} {xs : Nat → T} {ks : List (Option Nat)} {zs : Nat → Site} {o : Oper} {gs : List (Nat × Bool)} {L : Nat → Bool} (h : regB l n N = true) (ho : l[i]? = some o)
    (hD : Done l n L) (hLi : L i = false) (hLa : ∀ e ∈ o.after, Region.binds .any e = true → L e.on = true) (hg : GH xs gs) (y : Operand) :
    evSee st l n xs ks zs i o gs y = .dead ∨ (stM st l n xs ks zs L).ev y = evSee st l n xs ks zs i o gs y := by
  have he : (stM st l n xs ks zs L).ev y = (stOf st l n xs L).ev y := by cases y <;> rfl
  rcases hidT_or (sSee st l ks zs n i) (evAt st l n xs i o gs y) with e | e
  · exact .inl e
  · unfold evSee
    rw [e, he]
    exact evAt_sound h ho hD hLi hLa hg y
theorem sopM_wp {st : St} {l : List Oper} {n i : Nat} {xs : Nat → T} {ks : List (Option Nat)} {zs : Nat → Site} {o : Oper} {L : Nat → Bool} {a : Act} {w : World} (h : regB l n st.n = true) (hi : i < n) (ho : l[i]? = some o)
    (hD : Done l n L) (hLi : L i = false) (hLa : ∀ e ∈ o.after, Region.binds .any e = true → L e.on = true) (hH : Holds w0 (stM st l n xs ks zs L) a w) (hg : GH xs (guardsOf l i)) (hS : SOpM P w0 st l n xs ks zs i o (guardsOf l i) (xs i)) :
    OW P w0 o a w (fun a' w' => Holds w0 (stM st l n xs ks zs (setL L i)) a' w') := by
  have hdn : ∀ d, o.dst = some d → d < st.n := fun d hd => (reg_dst h hi ho hd).2
  have hsub : Sub (sSee st l ks zs n i) (evSee st l n xs ks zs i o (guardsOf l i)) (stM st l n xs ks zs L).s := by
    obtain ⟨blk, val, hh⟩ := hH
    exact see_sub h hi ho hD hLi hLa hh
  rcases hS with ⟨hk, hS⟩ | ⟨k, hk, hgn, hv, hks, hm⟩
  · rw [stM_set h hi ho hLi hk, if_pos hg]
    rcases hS with hq | ⟨tc, ya, yb, jc, cb, p, q, hop, hpj, _, hx, hc, ha, hb, hr⟩
    · exact hq _ a w hH hsub rfl (fun y => evSee_sound h ho hD hLi hLa hg y) hdn
    · obtain ⟨blk, val, hh⟩ := hH
      have he : ∀ y, (stM st l n xs ks zs L).ev y = (stOf st l n xs L).ev y := fun y => by cases y <;> rfl
      have h1 : (stM st l n xs ks zs L).ev (.tmp tc) = T.bool cb := by
        rw [he]
        rcases evAt_sound (st := st) h ho hD hLi hLa hg (.tmp tc) with e | e
        · rw [hc] at e; cases e
        · rw [e, hc]
      have hv := hh.bool h1
      have h2 : a.eval (if cb then ya else yb) = .bool (bif cb then p else q) := by
        cases cb with
        | true =>
          have hg' : GH xs ((jc, true) :: guardsOf l i) := ⟨hx, hg⟩
          rcases evAt_sound (st := st) h ho hD hLi hLa hg' ya with e | e
          · rw [ha] at e; cases e
          · exact hh.bool (by rw [if_pos rfl, he, e, ha]; rfl)
        | false =>
          have hg' : GH xs ((jc, false) :: guardsOf l i) := ⟨hx, hg⟩
          rcases evAt_sound (st := st) h ho hD hLi hLa hg' yb with e | e
          · rw [hb] at e; cases e
          · exact hh.bool (by rw [if_neg (by simp), he, e, hb]; rfl)
      refine wp_value (v := .bool (bif cb then p else q)) (w' := w) ?_ ⟨blk, val, ?_⟩
      · simp only [execOp, hop, hv]
        have : (if cb = true then a.eval ya else a.eval yb) = .bool (bif cb then p else q) := by rw [← h2]; cases cb <;> rfl
        show Sem.run P (Sem.pure (Next.value (if cb = true then a.eval ya else a.eval yb))) w = _
        rw [this]; rfl
      · exact hh.put o.dst _ _ hdn (by rw [hr]; exact Rep.v _ rfl)
  · rw [stM_setM h hi ho hgn hD hLi hk hv]
    refine hm _ hsub ?_ rfl (fun y => evSee_sound h ho hD hLi hLa hg y) hdn a w hH
    show siteGo st ks zs L k n = _
    rw [siteGo_at h hi ho hD hLi hLa hv, hks]

def OwesM (P : Program) (w0 : Cx) (st : St) (l : List Oper) (n : Nat) (xs : Nat → T) (ks : List (Option Nat)) (zs : Nat → Site) (i : Nat) (o : Oper) : Prop :=
  (∀ j b, o.guard = some (j, b) → ∃ c, xs j = T.bool c) ∧ (GH xs (guardsOf l i) → SOpM P w0 st l n xs ks zs i o (guardsOf l i) (xs i)) ∧ (o.guard ≠ none → keyAt ks i = none)
open Classical in
theorem reg_stepM {ks : List (Option Nat)} {zs : Nat → Site} {st : St} {l : List Oper} {n i : Nat} {xs : Nat → T} {o : Oper} {L : Nat → Bool} {a : Act} {w : World} (h : regB l n st.n = true) (hi : i < n) (ho : l[i]? = some o)
    (hD : Done l n L) (hLi : L i = false) (hLa : ∀ e ∈ o.after, Region.binds .any e = true → L e.on = true) (hH : Holds w0 (stM st l n xs ks zs L) a w) (hS : OwesM P w0 st l n xs ks zs i o) :
    (Region.wanted o (yielded l.toArray a.tmps) = true ∧ OW P w0 o a w (fun a' w' => Holds w0 (stM st l n xs ks zs (setL L i)) a' w')) ∨
    (Region.wanted o (yielded l.toArray a.tmps) = false ∧ Holds w0 (stM st l n xs ks zs (setL L i)) (a.put o.dst undef) w) := by
  have key : Region.wanted o (yielded l.toArray a.tmps) = decide (GH xs (guardsOf l i)) := by
    cases hg : o.guard with
    | none => simp [Region.wanted, hg, guards_none ho hg, GH]
    | some jb =>
      obtain ⟨j, b⟩ := jb
      obtain ⟨hj1, hj2⟩ := reg_guard h hi ho hg
      obtain ⟨e, he, hb, hej⟩ := afterB_spec hj1
      have hLj : L j = true := hej ▸ hLa e he hb
      obtain ⟨c, hc⟩ := hS.1 j b hg
      rw [guards_some h hi ho hg]
      simp only [Region.wanted, hg]
      obtain ⟨blk, val, hh⟩ := hH
      have hjn : j < n := by omega
      obtain ⟨oj, hoj⟩ : ∃ oj, l[j]? = some oj := by
        cases ho' : l[j]? with
        | none => have := List.getElem?_eq_none_iff.1 ho'; have := (List.getElem?_eq_some_iff.1 ho).1; omega
        | some oj => exact ⟨oj, rfl⟩
      cases hdj : oj.dst with
      | none =>
        -- a guard that yields nothing: impossible where it has a value
        have hy : yielded l.toArray a.tmps j = none := by simp [yielded, hoj, hdj]
        exfalso
        exact absurd (reg_guard_dst h hi ho hg) (by rw [hoj]; simp [hdj])
      | some d =>
        obtain ⟨hpd, hdN⟩ := reg_dst h hjn hoj hdj
        have hval := hh.tmp d
        have hst : (stM st l n xs ks zs L).t d = if GH xs (guardsOf l j) then xs j else .un := by
          simp only [stM, stOf, hpd, hLj, if_true]
        rw [hst] at hval
        have hds : d < a.tmps.size := by rw [hh.size]; exact hdN
        have hy : yielded l.toArray a.tmps j = match a.tmps.getD d undef with | .bool b => some b | _ => none := by
          simp [yielded, hoj, hdj, hds]
          cases a.tmps[d] <;> rfl
        by_cases hgj : GH xs (guardsOf l j)
        · rw [if_pos hgj, hc] at hval
          have : a.tmps.getD d undef = .bool c := Rep.v_eq hval
          rw [hy, this]
          simp only [GH, hgj, and_true, hc, T.bool, T.d.injEq, D.v.injEq, Value.bool.injEq]
          cases c <;> cases b <;> simp
        · rw [if_neg hgj] at hval
          rw [hy, show a.tmps.getD d undef = undef from hval]
          simp [GH, hgj, undef]
  rw [key]
  by_cases hg : GH xs (guardsOf l i)
  · exact .inl ⟨by simpa using hg, sopM_wp h hi ho hD hLi hLa hH hg (hS.2.1 hg)⟩
  · refine .inr ⟨by simpa using hg, ?_⟩
    obtain ⟨blk, val, hh⟩ := hH
    have hgs : o.guard ≠ none := fun e => hg (by rw [guards_none ho e]; trivial)
    rw [stM_set h hi ho hLi (hS.2.2 hgs), if_neg hg]
    exact ⟨blk, val, hh.put o.dst .un undef (fun d hd => (reg_dst h hi ho hd).2) rfl⟩

theorem stM_all {st : St} {l : List Oper} {n : Nat} {xs : Nat → T} {ks : List (Option Nat)} {zs : Nat → Site} {L : Nat → Bool} (hL : ∀ p, p < n → L p = true) : stM st l n xs ks zs L = stM st l n xs ks zs (ltB n) := by
  have ht := stOf_all (st := st) (l := l) (xs := xs) hL
  simp only [stM, St.mk.injEq, true_and]
  exact ⟨by rw [ht], funext fun k => siteGo_congr fun p hp _ => by rw [hL p hp]; simp [ltB, hp]⟩
theorem stM_none {st : St} {l : List Oper} {n : Nat} {xs : Nat → T} {ks : List (Option Nat)} {zs : Nat → Site} {L : Nat → Bool} (hL : ∀ p, p < n → L p = false) : stM st l n xs ks zs L = st := by
  have ht := stOf_none (st := st) (l := l) (xs := xs) hL
  have hs : (fun k => siteGo st ks zs L k n) = st.s := funext fun k => siteGo_none fun p hp _ => hL p hp
  cases st
  simp only [stM, St.mk.injEq, true_and]
  exact ⟨by rw [ht], hs⟩
theorem any_preM {F : Fence} {m : Nat} (hF : FAt w0 F) {ks : List (Option Nat)} {zs : Nat → Site} {st : St} {l : List Oper} {n : Nat} {xs : Nat → T} {Q : Exit → Act → World → Prop} (h : regB l n st.n = true) (hn : n ≤ l.length) (hB : tailOk l n = true)
    (hO : ∀ k o, k < n → l[k]? = some o → OwesM P w0 st l n xs ks zs k o)
    (hT : ∀ a w, Holds w0 (stM st l n xs ks zs (ltB n)) a w → wpListIn F m P l.toArray Q (l.drop n) a w) :
    ∀ (f : Nat) (listed : Array Bool) (a : Act) (w : World), HeadInv .any l.toArray n listed → cntU listed n = f → Holds w0 (stM st l n xs ks zs (listed.getD · false)) a w →
      wpAnyIn F m P .any l.toArray Q (f + (l.length - n)) listed a w := by
  simp only [tailOk, Bool.and_eq_true, Bool.or_eq_true, decide_eq_true_eq] at hB
  intro f
  induction f with
  | zero =>
    intro listed a w inv hc hH
    have hall := cntU_zero hc
    have hle : listed = preArr n l.length := by
      apply Array.ext
      · simp [inv.size, preArr]
      · intro j h1 h2
        have hjl : j < l.length := by simpa [preArr] using h2
        simp only [preArr, List.getElem_toArray, List.getElem_map, List.getElem_range]
        by_cases hj : j < n
        · have := hall j hj
          simp [h1] at this
          simp [this, hj]
        · have := inv.tail j (by omega) (by simpa using hjl)
          simp [h1] at this
          simp [this, hj]
    have hdl : (l.drop n).length = l.length - n := by simp
    have := wpAnyIn_of_seqF (md := .any) (Q' := Q) (P := P) (ops := l.toArray) (l.drop n) n listed a w (fun j => by simp [List.getElem?_drop]) (by rw [hdl, hle]; exact hB.2) (hT a w (by rw [← stM_all (L := (listed.getD · false)) hall]; exact hH))
    rw [hdl] at this
    rwa [Nat.zero_add]
  | succ f ih =>
    intro listed a w inv hc hH
    rw [show f + 1 + (l.length - n) = (f + (l.length - n)) + 1 by omega]
    obtain ⟨j, hj, hju, hjall⟩ := cntU_some (listed := listed) (k := n) (by omega)
    have hjl : j < l.length := by omega
    have hjr : j ∈ Region.ready .any l.toArray listed := mem_ready.2 ⟨getD_in (by rw [inv.size]; simpa using hjl) hju, l[j], by simp [hjl], fun e he hb => hjall e.on (reg_before h hj (List.getElem?_eq_getElem hjl) e he hb)⟩
    refine ⟨fun h0 => (by rw [h0] at hjr; cases hjr), fun i hi => ?_⟩
    obtain ⟨hiu, o, hio, hia⟩ := mem_ready.1 hi
    have ho : l[i]? = some o := by simpa using hio
    have hil : i < l.length := (List.getElem?_eq_some_iff.1 ho).1
    have hin : i < n := by
      rcases Nat.lt_or_ge i n with h' | h'
      · exact h'
      · rcases hB.1 with e | ⟨hs, hc'⟩
        · omega
        · exact absurd hi (tail_waits hs hc' (by simpa using Nat.lt_of_le_of_lt h' hil) inv _ j rfl hj (getD_in (by rw [inv.size]; simpa using hjl) hju) i h')
    have hiu' : listed.getD i false = false := getD_both hiu
    have his : i < listed.size := by rw [inv.size]; simpa using hil
    have hset : (fun j => (listed.setIfInBounds i true).getD j false) = setL (listed.getD · false) i := by
      funext k
      by_cases hk : k = i
      · subst hk; simp [setL, his]
      · rw [getD_set_ne false (Ne.symm hk)]; simp [setL, hk]
    have step := reg_stepM (L := (listed.getD · false)) h hin ho ⟨fun p op hp hop hL e he hb => inv.closed p op (by simpa using hop) hL e he hb⟩ hiu' hia hH (hO i o hin ho)
    rw [← hset] at step
    have next : ∀ a' w', Holds w0 (stM st l n xs ks zs ((listed.setIfInBounds i true).getD · false)) a' w' → wpAnyIn F m P .any l.toArray Q (f + (l.length - n)) (listed.setIfInBounds i true) a' w' :=
      fun a' w' hH' => ih _ a' w' (inv.set hi hin) (by have := (cntU_set hiu' his (k := n)).1 hin; omega) hH'
    unfold wpOpIn
    simp only [hio]
    rcases step with ⟨h1, h2⟩ | ⟨h1, h2⟩
    · rw [if_pos h1]; exact h2.to hF next
    · rw [if_neg (by simp [h1])]; exact ⟨fun f _ => hF.fn f, next _ _ h2⟩


def updS (z : Nat → Site) (i : Nat) (x : Site) : Nat → Site := fun j => bif Nat.beq j i then x else z j
def outM (ks : List (Option Nat)) (i : Nat) (o : Oper) (x : T) (z : Site) (s : St) : St := match keyAt ks i with
  | some k => (s.site k z).put o.dst (outX o x)
  | none => s.put o.dst (outX o x)
def RegWM (P : Program) (w0 : Cx) (st : St) (l : List Oper) (n : Nat) (ks : List (Option Nat)) : List Oper → Nat → (Nat → T) → (Nat → Site) → St → (St → Prop) → Prop
  | [], _, _, _, st', K => K st'
  | o :: os, i, e, z, st', K => ∃ x zi, (∀ j b, o.guard = some (j, b) → ∃ c, e j = T.bool c) ∧ (GH e (gsOf l i o) → SOpM P w0 st l n e ks (updS z i zi) i o (gsOf l i o) x) ∧ (o.guard ≠ none → keyAt ks i = none) ∧
      RegWM P w0 st l n ks os (i + 1) (upd e i x) (updS z i zi) (outM ks i o x zi st') K
def outPM (ks : List (Option Nat)) (xs : Nat → T) (zs : Nat → Site) : List Oper → Nat → St → St
  | [], _, s => s
  | o :: os, i, s => outPM ks xs zs os (i + 1) (outM ks i o (xs i) (zs i) s)
theorem siteGo_zs {st : St} {ks : List (Option Nat)} {z zs : Nat → Site} {i k : Nat} (hz : ∀ p, p < i → z p = zs p) : ∀ {m : Nat}, siteGo st ks z (ltB i) k m = siteGo st ks zs (ltB i) k m
  | 0 => rfl
  | m + 1 => by
    unfold siteGo
    by_cases hm : m < i
    · rw [hz m hm, siteGo_zs hz]
    · have : ltB i m = false := by simp [ltB, hm]
      rw [this, if_neg (by simp), if_neg (by simp), siteGo_zs hz]
theorem SOpM.congr {st : St} {l : List Oper} {n i : Nat} {e xs : Nat → T} {ks : List (Option Nat)} {z zs : Nat → Site} {o : Oper} {gs : List (Nat × Bool)} {x : T} {N : Nat} (h : regB l n N = true) (hi : i < n) (ho : l[i]? = some o)
    (he : ∀ p, p < i → e p = xs p) (hz : ∀ p, p ≤ i → z p = zs p) (hS : SOpM P w0 st l n e ks z i o gs x) : SOpM P w0 st l n xs ks zs i o gs x := by
  have hsee : sSee st l ks z n i = sSee st l ks zs n i := funext fun k => by unfold sSee; rw [siteGo_zs fun p hp => hz p (by omega)]
  have hev : evSee st l n e ks z i o gs = evSee st l n xs ks zs i o gs := funext fun y => by unfold evSee; rw [hsee, evAt_congr h hi ho he]
  rcases hS with ⟨hk, hS⟩ | ⟨k, hk, hg, hv, hs, hm⟩
  · refine .inl ⟨hk, ?_⟩
    rcases hS with hq | ⟨tc, ya, yb, jc, cb, p, q, hop, hpj, hab, hx, hc, ha, hb, hr⟩
    · exact .inl (by rw [← hsee, ← hev]; exact hq)
    · obtain ⟨ed, hed, hbd, hj⟩ := afterB_spec hab
      have := reg_before h hi ho ed hed hbd
      refine .inr ⟨tc, ya, yb, jc, cb, p, q, hop, hpj, hab, by rw [← he jc (by omega)]; exact hx, ?_, ?_, ?_, hr⟩
      · rw [← evAt_congr h hi ho he]; exact hc
      · rw [← evAt_congr h hi ho he]; exact ha
      · rw [← evAt_congr h hi ho he]; exact hb
  · exact .inr ⟨k, hk, hg, hv, by rw [← hsee, ← siteGo_zs fun p hp => hz p (by omega)]; exact hs, by rw [← hsee, ← hev, ← hz i (Nat.le_refl _)]; exact hm⟩
theorem regw_xsM {st : St} {l : List Oper} {n N : Nat} {ks : List (Option Nat)} {K : St → Prop} (h : regB l n N = true) : ∀ (os : List Oper) (i : Nat) (e : Nat → T) (z : Nat → Site) (st' : St), i + os.length = n → (∀ k, k < os.length → os[k]? = l[i + k]?) →
    RegWM P w0 st l n ks os i e z st' K → ∃ (xs : Nat → T) (zs : Nat → Site), (∀ p, p < i → xs p = e p) ∧ (∀ p, p < i → zs p = z p) ∧ (∀ k o, i ≤ k → k < n → l[k]? = some o → OwesM P w0 st l n xs ks zs k o) ∧ K (outPM ks xs zs os i st')
  | [], i, e, z, st', hl, _, hW => ⟨e, z, fun _ _ => rfl, fun _ _ => rfl, fun k o h1 h2 _ => by simp at hl; omega, hW⟩
  | o :: os, i, e, z, st', hl, hos, hW => by
    obtain ⟨x, zi, h1, h2, hgk, h3⟩ := hW
    have ho : l[i]? = some o := by have := hos 0 (by simp); simpa using this.symm
    have hi : i < n := by simp at hl; omega
    obtain ⟨xs, zs, k1, kz, k2, k3⟩ := regw_xsM h os (i + 1) _ _ _ (by simp at hl; omega) (fun k hk => by have := hos (k + 1) (by simpa using hk); simpa [Nat.add_assoc, Nat.add_comm 1 k] using this) h3
    have hxe : ∀ p, p < i → xs p = e p := fun p hp => by
      rw [k1 p (by omega)]
      have : Nat.beq p i = false := by rw [← Bool.not_eq_true]; exact fun e => by have := Nat.eq_of_beq_eq_true e; omega
      simp [upd, this]
    have hze : ∀ p, p < i → zs p = z p := fun p hp => by
      rw [kz p (by omega)]
      have : Nat.beq p i = false := by rw [← Bool.not_eq_true]; exact fun e => by have := Nat.eq_of_beq_eq_true e; omega
      simp [updS, this]
    have hxi : xs i = x := by rw [k1 i (by omega)]; simp [upd]
    have hzi : zs i = zi := by rw [kz i (by omega)]; simp [updS]
    refine ⟨xs, zs, hxe, hze, fun k o' hik hkn hok => ?_, ?_⟩
    · by_cases hk : k = i
      · subst hk
        rw [ho] at hok; cases hok
        have hgs : gsOf l k o = guardsOf l k := by
          unfold gsOf
          cases hg : o.guard with
          | none => exact (guards_none ho hg).symm
          | some _ => rfl
        rw [hgs] at h2
        refine ⟨fun j b hj => ?_, fun hG => ?_, hgk⟩
        · obtain ⟨c, hc⟩ := h1 j b hj
          exact ⟨c, by rw [hxe j (reg_guard h hi ho hj).2]; exact hc⟩
        · rw [hxi]
          refine SOpM.congr h hi ho (fun p hp => (hxe p hp).symm) (fun p hp => ?_) (h2 (GH.congr (fun g hg => hxe g.1 (guards_lt h k hi g hg)) hG))
          exact (kz p (by omega)).symm
      · exact k2 k o' (by omega) hkn hok
    · simp only [outPM]
      rw [hxi, hzi]; exact k3

theorem Wk.siteM {s s' : St} {k : Nat} {z : Site} (h : Wk s s') : Wk (s.site k z) (s'.site k z) :=
  ⟨h.1, by simp only [St.site]; rw [h.2.1], h.2.2⟩
theorem out_wkM {st : St} {l : List Oper} {n N : Nat} {xs : Nat → T} {ks : List (Option Nat)} {zs : Nat → Site} (h : regB l n N = true) (hO : ∀ k o, k < n → l[k]? = some o → OwesM P w0 st l n xs ks zs k o) : ∀ (os : List Oper) (i : Nat) (s' : St), i + os.length = n → (∀ k, k < os.length → os[k]? = l[i + k]?) →
    Wk (stM st l n xs ks zs (ltB i)) s' → Wk (stM st l n xs ks zs (ltB n)) (outPM ks xs zs os i s')
  | [], i, s', hl, _, hw => by
    have : i = n := by simpa using hl
    subst this; exact hw
  | o :: os, i, s', hl, hos, hw => by
    have ho : l[i]? = some o := by have := hos 0 (by simp); simpa using this.symm
    have hi : i < n := by simp at hl; omega
    refine out_wkM h hO os (i + 1) _ (by simp at hl; omega) (fun k hk => by have := hos (k + 1) (by simpa using hk); simpa [Nat.add_assoc, Nat.add_comm 1 k] using this) ?_
    have hOi := hO i o hi ho
    rw [← setL_ltB]
    unfold outM
    cases hk : keyAt ks i with
    | none =>
      rw [stM_set h hi ho (by simp [ltB]) hk]
      refine hw.put ?_
      unfold outX
      cases hg : o.guard with
      | none => rw [guards_none ho hg, if_pos (show GH xs [] from trivial)]; exact .inl rfl
      | some _ => exact .inr rfl
    | some k =>
      have hg : o.guard = none := by
        cases hq : o.guard with
        | none => rfl
        | some g => have := hOi.2.2 (by rw [hq]; simp); rw [hk] at this; cases this
      have hS := hOi.2.1 (by rw [guards_none ho hg]; trivial)
      rcases hS with ⟨hk', _⟩ | ⟨k', hk', _, hv, _, _⟩
      · rw [hk] at hk'; cases hk'
      · rw [hk] at hk'; cases hk'
        have hD : Done l n (ltB i) := ⟨fun p o hp hop hL e he hb => by
          have := reg_before h hp hop e he hb
          simp only [ltB, decide_eq_true_eq] at hL ⊢; omega⟩
        rw [stM_setM h hi ho hg hD (by simp [ltB]) hk hv]
        simp only
        refine (hw.siteM).put ?_
        unfold outX; rw [hg]; exact .inl rfl
theorem awp_regionM {st : St} {l : List Oper} {id : Nat} {R : Exit → St → Prop} (n : Nat) (ks : List (Option Nat)) (hm : P.follows .mixedOrders = true) (h : (regB l n st.n && decide (n ≤ l.length) && tailOk l n) = true)
    (hW : RegWM P w0 st l n ks (l.take n) 0 (fun _ => .dead) (fun _ => .no) st (fun st' => Aops P w0 l (l.drop n) R st')) : Awp P w0 (.region id l.toArray true) R st := by
  simp only [Bool.and_eq_true, decide_eq_true_eq] at h
  obtain ⟨⟨h, hn⟩, hB⟩ := h
  have htl : (l.take n).length = n := by simp; omega
  have hto : ∀ k, k < (l.take n).length → (l.take n)[k]? = l[0 + k]? := fun k hk => by rw [htl] at hk; simp [hk]
  obtain ⟨xs, zs, _, _, hO, hK⟩ := regw_xsM h (l.take n) 0 _ _ _ (by omega) hto hW
  have hO' : ∀ k o, k < n → l[k]? = some o → OwesM P w0 st l n xs ks zs k o := fun k o hk ho => hO k o (Nat.zero_le _) hk ho
  intro F m hF
  have hT : ∀ a w, Holds w0 (stM st l n xs ks zs (ltB n)) a w → wpListIn F m P l.toArray (Post w0 R) (l.drop n) a w := fun a w hH =>
    hK F m hF a w (hH.weak (out_wkM h hO' (l.take n) 0 st (by omega) hto (by rw [stM_none (fun p _ => by simp [ltB])]; exact ⟨rfl, rfl, fun _ => .inl rfl⟩)))
  intro a w hH
  refine wpIn_region_any hm ?_
  have inv0 : HeadInv .any l.toArray n (Array.replicate l.toArray.size false) :=
    ⟨by simp, fun j oj _ hl => (by rw [getD_replicate_false] at hl; cases hl), fun t _ ht => getD_in (by simpa using ht) (getD_replicate_false _ _)⟩
  have := any_preM (m := m) hF h hn hB hO' hT n _ a { w with drawn := w.drawn + 1 } inv0 cntU_none (by rw [stM_none (fun p _ => getD_replicate_false _ _)]; exact hH.drew)
  rw [show n + (l.length - n) = l.toArray.size by simp; omega] at this
  exact this
end
open Go

section
variable {P : Program} {w0 : Cx} {st st' : St} {l os : List Oper} {n i : Nat} {e : Nat → T} {ks : List (Option Nat)} {z : Nat → Site} {K : St → Prop} {dst : Option Tmp} {op : Op} {ty : TypeId} {pos : String} {after : Array Edge}

theorem outM_none {o : Oper} {x : T} {zi : Site} {s : St} (hk : keyAt ks i = none) : outM ks i o x zi s = s.put o.dst (outX o x) := by unfold outM; rw [hk]
theorem outM_some {o : Oper} {x : T} {zi : Site} {s : St} {k : Nat} (hk : keyAt ks i = some k) : outM ks i o x zi s = (s.site k zi).put o.dst (outX o x) := by unfold outM; rw [hk]
theorem rgm_nil (h : K st') : RegWM P w0 st l n ks [] i e z st' K := h
theorem rgm_q {x : T} (hk : keyAt ks i = none) (hq : QOp P w0 st.n (sSee st l ks (updS z i .no) n i) (evSee st l n e ks (updS z i .no) i ⟨dst, op, ty, pos, after, none⟩ []) ⟨dst, op, ty, pos, after, none⟩ x)
    (h : RegWM P w0 st l n ks os (i + 1) (upd e i x) (updS z i .no) (st'.put dst x) K) : RegWM P w0 st l n ks (⟨dst, op, ty, pos, after, none⟩ :: os) i e z st' K :=
  ⟨x, .no, (fun j b h => by cases h), fun _ => .inl ⟨hk, .inl hq⟩, fun _ => hk, by rw [outM_none hk]; exact h⟩
theorem rgm_m {k : Nat} {zi : Site} {x : T} (hk : keyAt ks i = some k) (hv : memN k (hidGo l ks i n) = false) (hs : siteGo st ks (updS z i zi) (ltB i) k n = sSee st l ks (updS z i zi) n i k)
    (hm : MOp P w0 st.n (sSee st l ks (updS z i zi) n i) (evSee st l n e ks (updS z i zi) i ⟨dst, op, ty, pos, after, none⟩ []) ⟨dst, op, ty, pos, after, none⟩ k zi x)
    (h : RegWM P w0 st l n ks os (i + 1) (upd e i x) (updS z i zi) ((st'.site k zi).put dst x) K) : RegWM P w0 st l n ks (⟨dst, op, ty, pos, after, none⟩ :: os) i e z st' K :=
  ⟨x, zi, (fun j b h => by cases h), fun _ => .inr ⟨k, hk, rfl, hv, hs, by rw [show updS z i zi i = zi from by simp [updS]]; exact hm⟩, (fun h => absurd rfl h), by rw [outM_some hk]; exact h⟩
end
section
variable {P : Program} {w0 : Cx} {n : Nat} {s : Nat → Site} {ev : Operand → T} {ty : TypeId} {pos : String} {after : Array Edge}
theorem live_ev {st : St} {y : Operand} {x : T} (hev : ∀ y, ev y = .dead ∨ st.ev y = ev y) (hy : ev y = x) (hx : x ≠ .dead) : st.ev y = x := by
  rcases hev y with e | e
  · rw [e] at hy; exact absurd hy.symm hx
  · rw [e]; exact hy
theorem m_alloc {d : Nat} {e : TypeId} {z : Value} (hz : zrB P e z) (h1 : z.cells.toList.all Value.oneCell' = true) (hs : s d = .no) : MOp P w0 n s ev ⟨some d, .alloc e, ty, pos, after, none⟩ d (.box (constD z)) (.ref d 0) :=
  fun st _ hk hn _ hd => step_of_aops rfl fun ops rest R h => aops_alloc hz h1 (by rw [Nat.blt_eq, hn]; exact hd d rfl) (hk.trans hs) h
theorem m_store {t : TypeId} {y x : Operand} {agg : Bool} {m k o : Nat} {X : D} {cs cs' : List D} (ht : szB P t agg m = true) (hy : ev y = .ref k o) (hx : ev x = .d X) (hX : X.sc = true ∨ ∃ cs, X = .agg cs) (hm : X.cells.length = m)
    (hk : s k = .box cs) (ho : o + m ≤ cs.length) (hcs : setCs cs o X.cells = cs') : MOp P w0 n s ev ⟨none, .store t y x, ty, pos, after, none⟩ k (.box cs') .dead :=
  fun st _ hk' _ hev _ => step_of_aops rfl fun ops rest R h => aops_store ht (live_ev hev hy (by simp)) (live_ev hev hx (by simp)) hX hm (hk'.trans hk) ho hcs h
end
open Go

section
variable {H : Type} {enc : TypeId × Value → H} {P : Program} {w : World} {base : Nat} {spare : Nat → Bool} {held : Bool}
abbrev okAll : Nat → Prop := fun _ => True
def Reads (enc : TypeId × Value → H) (P : Program) (w : World) (base : Nat) (spare : Nat → Bool) (held : Bool) (t : TypeId) {α : Type} (C : α → List D) (good : α → Prop) : Prop :=
  ∀ (fuel : Nat) (cs : List Value) (x : DataW H × List MemPlace), DataW.trod enc P w base spare held fuel t cs = some x → ∃ a, good a ∧ RepL w okAll (C a) cs ∧ ∀ d ∈ C a, d.sc = true
theorem reads_int {t : TypeId} {k : IntKind} (ht : P.underlying t = some (.int k)) : Reads enc P w base spare held t (fun n : Int => [.v (.int k n)]) (fun n => (Lit.int k n).wf = true) := by
  intro fuel cs x h
  obtain ⟨n, rfl, _, hw⟩ := DataW.trod_int ht h
  exact ⟨n, hw, ⟨.v _ rfl, trivial⟩, by simp [D.sc]⟩
theorem reads_slice {t e : TypeId} {sz : Nat} {α : Type} {C : α → List D} {good : α → Prop} (ht : P.underlying t = some (.slice e)) (hsz : P.cellsOf e = sz) (hpos : 0 < sz) (hC : ∀ a, (C a).length = sz) (hE : Reads enc P w base spare held e C good) :
    Reads enc P w base spare held t (fun l : List α => [.sl sz (l.map C)]) (fun l => ∀ a ∈ l, good a) := by
  intro fuel cs x h
  rcases Deep.open_slice ht h with ⟨rfl, _⟩ | ⟨a, len, cap, m, n, D', Pl, rfl, hb, hl, hm, hmm, rfl, hx⟩
  · exact ⟨[], (fun a h => by cases h), ⟨.emp _ _ _ (Nat.zero_le _), trivial⟩, by simp [D.sc]⟩
  · have hlm : len ≤ m := by rw [hmm]; split <;> omega
    by_cases h0 : len = 0
    · subst h0
      exact ⟨[], (fun a h => by cases h), ⟨.emp _ _ _ hm, trivial⟩, by simp [D.sc]⟩
    have each : ∀ i, i < len → ∃ p : α × List Value, good p.1 ∧ RepL w okAll (C p.1) p.2 ∧ (∀ d ∈ C p.1, d.sc = true) ∧ w.cells? base (a.add (i * P.cellsOf e)) (P.cellsOf e) = some p.2 := fun i hi => by
      obtain ⟨cs', h1, h2⟩ := hx i (by omega)
      obtain ⟨y, g, r, s⟩ := hE _ _ _ h2
      exact ⟨(y, cs'), g, r, s, h1⟩
    obtain ⟨p0, -⟩ := each 0 (by omega)
    haveI : Inhabited (α × List Value) := ⟨p0⟩
    obtain ⟨f, hf⟩ := Deep.choose_lt each
    rw [hsz] at hf
    obtain ⟨b, off, spot⟩ := a
    obtain ⟨_, hl0, hc0⟩ := World.cells?_some (hf 0 (by omega)).2.2.2
    have hspot : spot = none := by
      have h1 := hc0 0 hpos
      rw [List.getElem?_eq_getElem (by omega)] at h1
      simpa [Addr.add] using World.cell?_spot h1
    subst hspot
    refine ⟨(List.range len).map fun i => (f i).1, fun y hy => ?_, ⟨?_, trivial⟩, by simp [D.sc]⟩
    · obtain ⟨i, hi, rfl⟩ := List.mem_map.1 hy
      exact (hf i (List.mem_range.1 hi)).1
    · have hes : ∀ (i : Nat) (e' : List D), ((List.range len).map fun i => (f i).1).map C = ((List.range len).map fun i => C (f i).1) := fun _ _ => by rw [List.map_map]; rfl
      rw [hes 0 []]
      have hat : ∀ (i : Nat) (e' : List D), ((List.range len).map fun i => C (f i).1)[i]? = some e' → i < len ∧ e' = C (f i).1 := fun i e' hi => by
        rw [List.getElem?_map] at hi
        by_cases hil : i < len
        · rw [List.getElem?_range hil] at hi; cases hi; exact ⟨hil, rfl⟩
        · rw [List.getElem?_eq_none (by simp; omega)] at hi; cases hi
      have := Rep.sl (w := w) (ok := okAll) sz ((List.range len).map fun i => C (f i).1) b off cap (fun i j => (f i).2.getD j undef) (by
        have h1 := hc0 0 hpos
        rw [List.getElem?_eq_getElem (by omega)] at h1
        obtain ⟨o, ho⟩ := cell_block h1
        simpa [Addr.add] using heap_lt ho) trivial (by simpa using hl) hm
        (fun i e' hi => by obtain ⟨_, rfl⟩ := hat i e' hi; exact hC _)
        (fun i e' j d hi hd => by obtain ⟨h1, rfl⟩ := hat i e' hi; exact (hf i h1).2.2.1 d (List.mem_of_getElem? hd))
        (fun i e' j d hi hd => by
          obtain ⟨h1, rfl⟩ := hat i e' hi
          obtain ⟨_, h2, h3⟩ := World.cells?_some (hf i h1).2.2.2
          have hj : j < sz := by have := (List.getElem?_eq_some_iff.1 hd).1; rw [hC] at this; exact this
          have h4 := h3 j hj
          rw [WideShapes.add_plain, WideShapes.add_plain] at h4
          rw [h4, List.getD_eq_getElem?_getD, List.getElem?_eq_getElem (by omega)]; rfl)
        (fun i e' j d hi hd => by
          obtain ⟨h1, rfl⟩ := hat i e' hi
          obtain ⟨v, hv, hr⟩ := (hf i h1).2.1.at_ hd
          rw [List.getD_eq_getElem?_getD, hv]; exact hr)
      simpa using this
end
open Go

section
variable {H : Type} {enc : TypeId × Value → H} {P : Program} {w : World} {base : Nat} {spare : Nat → Bool} {held : Bool}
theorem Reads.map {t : TypeId} {α β : Type} {C : α → List D} {C' : β → List D} {good : α → Prop} {good' : β → Prop} (g : α → β) (h : Reads enc P w base spare held t C good) (hg : ∀ a, good a → C' (g a) = C a ∧ good' (g a)) : Reads enc P w base spare held t C' good' := by
  intro fuel cs x hx
  obtain ⟨a, h1, h2, h3⟩ := h fuel cs x hx
  obtain ⟨k1, k2⟩ := hg a h1
  exact ⟨g a, k2, k1 ▸ h2, k1 ▸ h3⟩
def chainT (enc : TypeId × Value → H) (P : Program) (w : World) (base : Nat) (spare : Nat → Bool) (held : Bool) (n : Nat) : List (TypeId × Nat) → List Value → Prop
  | [], _ => True
  | (t, s) :: ts, cs => (∃ x, DataW.trod enc P w base spare held n t (cs.take s) = some x) ∧ chainT enc P w base spare held n ts (cs.drop s)
def sumSz : List (TypeId × Nat) → Nat
  | [] => 0
  | (_, s) :: ts => s + sumSz ts
def ReadsF (enc : TypeId × Value → H) (P : Program) (w : World) (base : Nat) (spare : Nat → Bool) (held : Bool) (ts : List (TypeId × Nat)) {α : Type} (C : α → List D) (good : α → Prop) : Prop :=
  ∀ (n : Nat) (cs : List Value), cs.length = sumSz ts → chainT enc P w base spare held n ts cs → ∃ a, good a ∧ RepL w okAll (C a) cs ∧ ∀ d ∈ C a, d.sc = true
theorem readsF_nil : ReadsF enc P w base spare held [] (fun _ : Unit => []) (fun _ => True) := by
  intro n cs hl _
  have : cs = [] := List.length_eq_zero_iff.1 hl
  subst this
  exact ⟨(), trivial, trivial, by simp⟩
theorem readsF_cons {t : TypeId} {s : Nat} {ts : List (TypeId × Nat)} {α β : Type} {C : α → List D} {C' : β → List D} {good : α → Prop} {good' : β → Prop} (h : Reads enc P w base spare held t C good) (hs : ReadsF enc P w base spare held ts C' good') :
    ReadsF enc P w base spare held ((t, s) :: ts) (fun p : α × β => C p.1 ++ C' p.2) (fun p => good p.1 ∧ good' p.2) := by
  intro n cs hl ⟨⟨x, hx⟩, hc⟩
  simp only [sumSz] at hl
  obtain ⟨a, a1, a2, a3⟩ := h n _ x hx
  obtain ⟨b, b1, b2, b3⟩ := hs n (cs.drop s) (by simp; omega) hc
  refine ⟨(a, b), ⟨a1, b1⟩, ?_, fun d hd => ?_⟩
  · have := a2.append b2
    rwa [List.take_append_drop] at this
  · rcases List.mem_append.1 hd with hd | hd
    · exact a3 d hd
    · exact b3 d hd
def fieldsB (P : Program) : Nat → List Field → List (TypeId × Nat) → Bool
  | _, [], [] => true
  | o, f :: fs, (t, s) :: ts => Nat.beq f.offset o && Nat.beq f.type t && Nat.beq (P.cellsOf t) s && fieldsB P (o + s) fs ts
  | _, _, _ => false
theorem fieldsB_chain {n : Nat} {cs : List Value} : ∀ {ts : List (TypeId × Nat)} {fs : List Field} {o : Nat}, fieldsB P o fs ts = true → (∀ (i : Nat) (f : Field), fs[i]? = some f → ∃ x, DataW.trod enc P w base spare held n f.type ((cs.drop f.offset).take (P.cellsOf f.type)) = some x) →
    chainT enc P w base spare held n ts (cs.drop o)
  | [], _, _, _, _ => trivial
  | (t, s) :: ts, [], _, h, _ => by simp [fieldsB] at h
  | (t, s) :: ts, f :: fs, o, h, hx => by
    simp only [fieldsB, Bool.and_eq_true] at h
    obtain ⟨⟨⟨h1, h2⟩, h3⟩, h4⟩ := h
    have h1 := Nat.eq_of_beq_eq_true h1
    have h2 : f.type = t := Nat.eq_of_beq_eq_true h2
    have h3 := Nat.eq_of_beq_eq_true h3
    refine ⟨?_, ?_⟩
    · obtain ⟨x, hx0⟩ := hx 0 f rfl
      rw [h1, h2, h3] at hx0
      exact ⟨x, hx0⟩
    · rw [List.drop_drop]
      exact fieldsB_chain h4 fun i f hf => hx (i + 1) f (by simpa using hf)
def stB (P : Program) (t : TypeId) (ts : List (TypeId × Nat)) : Bool := match P.underlying t with | some (.struct fs) => fieldsB P 0 fs.toList ts && Nat.beq (P.cellsOf t) (sumSz ts) | _ => false
theorem reads_struct {t : TypeId} {ts : List (TypeId × Nat)} {α : Type} {C : α → List D} {good : α → Prop} (hs : stB P t ts = true) (h : ReadsF enc P w base spare held ts C good) : Reads enc P w base spare held t C good := by
  intro fuel cs x hx
  unfold stB at hs
  split at hs
  · rename_i fs ht
    simp only [Bool.and_eq_true] at hs
    obtain ⟨h1, h2⟩ := hs
    obtain ⟨xs, n, _, _, hl, hlen, hg⟩ := DataW.trod_struct ht hx
    refine h n cs (hl.trans (Nat.eq_of_beq_eq_true h2)) (fieldsB_chain (o := 0) h1 fun i f hf => ?_)
    have hf' : fs[i]? = some f := by simpa using hf
    have hi : i < xs.length := by
      have := (Array.getElem?_eq_some_iff.1 hf').1
      omega
    exact ⟨xs[i], by rw [hg i f hf', List.getElem?_eq_getElem hi]⟩
  · cases hs
theorem trod_arrayN {m : Nat} {t e : TypeId} {fuel : Nat} {cs : List Value} {x : DataW H × List MemPlace} (ht : P.underlying t = some (.array m e)) (h : DataW.trod enc P w base spare held fuel t cs = some x) :
    ∃ n, cs.length = P.cellsOf t ∧ ∀ i, i < m → ∃ y, DataW.trod enc P w base spare held n e ((cs.drop (i * P.cellsOf e)).take (P.cellsOf e)) = some y := by
  cases fuel with
  | zero => simp [DataW.trod] at h
  | succ n =>
    unfold DataW.trod at h
    rw [ht] at h
    split at h <;> simp_all
    obtain ⟨hl, xs, hp, hd⟩ := h
    refine ⟨n, fun i hi => ?_⟩
    have := mapM_some_get hp i i (by simp [hi])
    have hlen := mapM_some_length hp
    simp only [List.length_range] at hlen
    rw [List.getElem?_eq_getElem (by omega)] at this
    exact ⟨_, _, this⟩
def arT (P : Program) (t : TypeId) (m e s : Nat) : Bool := match P.underlying t with | some (.array m' e') => Nat.beq m' m && Nat.beq e' e && Nat.beq (P.cellsOf e) s && Nat.beq (P.cellsOf t) (m * s) | _ => false
theorem reads_elems {e s n : Nat} {α : Type} {C : α → List D} {good : α → Prop} (h : Reads enc P w base spare held e C good) : ∀ (m : Nat) (cs : List Value), cs.length = m * s → (∀ i, i < m → ∃ y, DataW.trod enc P w base spare held n e ((cs.drop (i * s)).take s) = some y) →
    ∃ l : List α, (l.length = m ∧ ∀ a ∈ l, good a) ∧ RepL w okAll (l.flatMap C) cs ∧ ∀ d ∈ l.flatMap C, d.sc = true
  | 0, cs, hl, _ => by
    have : cs = [] := List.length_eq_zero_iff.1 (by simpa using hl)
    subst this
    exact ⟨[], ⟨rfl, fun a h => by cases h⟩, trivial, by simp⟩
  | m + 1, cs, hl, hg => by
    obtain ⟨y, hy⟩ := hg 0 (by omega)
    obtain ⟨a, a1, a2, a3⟩ := h n _ y hy
    obtain ⟨l, ⟨l1, l2⟩, l3, l4⟩ := reads_elems (s := s) (n := n) h m (cs.drop s) (by rw [List.length_drop, hl, Nat.succ_mul]; omega) (fun i hi => by
      obtain ⟨z, hz⟩ := hg (i + 1) (by omega)
      exact ⟨z, by rw [List.drop_drop]; rwa [Nat.succ_mul, Nat.add_comm] at hz⟩)
    refine ⟨a :: l, ⟨by simp [l1], fun b hb => ?_⟩, ?_, fun d hd => ?_⟩
    · rcases List.mem_cons.1 hb with rfl | hb
      · exact a1
      · exact l2 b hb
    · simp only [Nat.zero_mul, List.drop_zero] at a2
      have := a2.append l3
      rw [List.take_append_drop] at this
      simpa using this
    · rw [List.flatMap_cons, List.mem_append] at hd
      rcases hd with hd | hd
      · exact a3 d hd
      · exact l4 d hd
theorem reads_array {t : TypeId} {m e s : Nat} {α : Type} {C : α → List D} {good : α → Prop} (hs : arT P t m e s = true) (h : Reads enc P w base spare held e C good) : Reads enc P w base spare held t (fun l : List α => l.flatMap C) (fun l => l.length = m ∧ ∀ a ∈ l, good a) := by
  intro fuel cs x hx
  unfold arT at hs
  split at hs
  · rename_i m' e' ht
    simp only [Bool.and_eq_true] at hs
    obtain ⟨⟨⟨h1, h2⟩, h3⟩, h4⟩ := hs
    have h1 := Nat.eq_of_beq_eq_true h1
    have h2 : e' = e := Nat.eq_of_beq_eq_true h2
    have h3 := Nat.eq_of_beq_eq_true h3
    have h4 := Nat.eq_of_beq_eq_true h4
    subst h1; subst h2
    obtain ⟨n, hl, hg⟩ := trod_arrayN ht hx
    rw [h3] at hg
    rw [h4] at hl
    exact reads_elems h _ cs hl hg
  · cases hs
theorem arg_one {t : TypeId} {v : Value} {d : DataW H} {p : List MemPlace} {α : Type} {c : α → D} {good : α → Prop} (h : DataW.Trod enc P w base spare held t v d p) (hR : Reads enc P w base spare held t (fun a => [c a]) good) (hv : v.cells = #[v]) : ∃ a, good a ∧ Rep w okAll (c a) v := by
  obtain ⟨fuel, hf⟩ := h
  obtain ⟨a, h1, h2, _⟩ := hR _ _ _ hf
  rw [hv] at h2
  exact ⟨a, h1, h2.1⟩
theorem arg_agg {t : TypeId} {cs : Array Value} {d : DataW H} {p : List MemPlace} {α : Type} {C : α → List D} {good : α → Prop} (h : DataW.Trod enc P w base spare held t (.agg cs) d p) (hR : Reads enc P w base spare held t C good) : ∃ a, good a ∧ Rep w okAll (.agg (C a)) (.agg cs) := by
  obtain ⟨fuel, hf⟩ := h
  obtain ⟨a, h1, h2, h3⟩ := hR _ _ _ hf
  refine ⟨a, h1, ?_⟩
  have := Rep.agg (w := w) (ok := okAll) (C a) cs.toList h2.length (fun j d hd => h3 d (List.mem_of_getElem? hd)) (fun j d v hd hv => h2.get j d v hd hv)
  simpa using this
end
open Go

theorem Out.killS {ts ms : List Nat} {s s0 : St} {k : Nat} (hO : Out ts ms s s0) (h : memN k ts = true) : Out ts ms (s.killS k) s0 := by
  have hk : ∀ ks : List Nat, (∀ j, memN j ks = true → memN j ts = true) → ∀ j, memN j (ks ++ [k]) = true → memN j ts = true := fun ks hks j hj => by
    rw [memN_app, Bool.or_eq_true] at hj
    rcases hj with hj | hj
    · exact hks j hj
    · simp only [memN, Bool.or_false] at hj
      rw [Nat.eq_of_beq_eq_true hj]; exact h
  refine ⟨hO.n, fun t ht => ?_, fun t ht hm => ?_⟩
  · obtain ⟨ks, hks, e⟩ := hO.t t ht
    exact ⟨ks ++ [k], hk ks hks, by simp only [St.killS]; rw [e, killT_app]⟩
  · obtain ⟨ks, hks, e⟩ := hO.s t ht hm
    exact ⟨ks ++ [k], hk ks hks, by simp only [St.killS]; rw [e, killSite_app]⟩
section
variable {P : Program} {w0 : Cx} {n : Nat} {s : Nat → Site} {ev : Operand → T} {dst : Option Tmp} {ty : TypeId} {pos : String} {after : Array Edge} {g : Option (Nat × Bool)}
theorem q_assign_nil : QOp P w0 n s ev ⟨dst, .assign (.const (.slice none 0 0)), ty, pos, after, g⟩ (.d (.v (.slice none 0 0))) :=
  .mk fun a w ok blk val h _ hnew => ⟨.slice none 0 0, w, by simp [execOp, Act.eval], Ext.refl w, .v _ rfl⟩
end
open Go

section
variable {P : Program} {w0 : Cx}

theorem any_preF {Fe : Fence} {m : Nat} (hFe : FAt w0 Fe) {F : (Nat → Bool) → St} {l : List Oper} {n N : Nat} {Q : Exit → Act → World → Prop} (h : regB l n N = true) (hn : n ≤ l.length) (hB : tailOk l n = true)
    (hstep : ∀ (L : Nat → Bool) (i : Nat) (o : Oper) (a : Act) (w : World), i < n → l[i]? = some o → Done l n L → L i = false → (∀ e ∈ o.after, Region.binds .any e = true → L e.on = true) → Holds w0 (F L) a w →
      (Region.wanted o (yielded l.toArray a.tmps) = true ∧ OW P w0 o a w (fun a' w' => Holds w0 (F (setL L i)) a' w')) ∨
      (Region.wanted o (yielded l.toArray a.tmps) = false ∧ Holds w0 (F (setL L i)) (a.put o.dst undef) w))
    (hF : ∀ L, (∀ p, p < n → L p = true) → F L = F (ltB n))
    (hT : ∀ a w, Holds w0 (F (ltB n)) a w → wpListIn Fe m P l.toArray Q (l.drop n) a w) :
    ∀ (f : Nat) (listed : Array Bool) (a : Act) (w : World), HeadInv .any l.toArray n listed → cntU listed n = f → Holds w0 (F (listed.getD · false)) a w →
      wpAnyIn Fe m P .any l.toArray Q (f + (l.length - n)) listed a w := by
  simp only [tailOk, Bool.and_eq_true, Bool.or_eq_true, decide_eq_true_eq] at hB
  intro f
  induction f with
  | zero =>
    intro listed a w inv hc hH
    have hall := cntU_zero hc
    have hle : listed = preArr n l.length := by
      apply Array.ext
      · simp [inv.size, preArr]
      · intro j h1 h2
        have hjl : j < l.length := by simpa [preArr] using h2
        simp only [preArr, List.getElem_toArray, List.getElem_map, List.getElem_range]
        by_cases hj : j < n
        · have := hall j hj
          simp [h1] at this
          simp [this, hj]
        · have := inv.tail j (by omega) (by simpa using hjl)
          simp [h1] at this
          simp [this, hj]
    have hdl : (l.drop n).length = l.length - n := by simp
    have := wpAnyIn_of_seqF (md := .any) (Q' := Q) (P := P) (ops := l.toArray) (l.drop n) n listed a w (fun j => by simp [List.getElem?_drop]) (by rw [hdl, hle]; exact hB.2) (hT a w (by rw [← hF (listed.getD · false) hall]; exact hH))
    rw [hdl] at this
    rwa [Nat.zero_add]
  | succ f ih =>
    intro listed a w inv hc hH
    rw [show f + 1 + (l.length - n) = (f + (l.length - n)) + 1 by omega]
    obtain ⟨j, hj, hju, hjall⟩ := cntU_some (listed := listed) (k := n) (by omega)
    have hjl : j < l.length := by omega
    have hjr : j ∈ Region.ready .any l.toArray listed := mem_ready.2 ⟨getD_in (by rw [inv.size]; simpa using hjl) hju, l[j], by simp [hjl], fun e he hb => hjall e.on (reg_before h hj (List.getElem?_eq_getElem hjl) e he hb)⟩
    refine ⟨fun h0 => (by rw [h0] at hjr; cases hjr), fun i hi => ?_⟩
    obtain ⟨hiu, o, hio, hia⟩ := mem_ready.1 hi
    have ho : l[i]? = some o := by simpa using hio
    have hil : i < l.length := (List.getElem?_eq_some_iff.1 ho).1
    have hin : i < n := by
      rcases Nat.lt_or_ge i n with h' | h'
      · exact h'
      · rcases hB.1 with e | ⟨hs, hc'⟩
        · omega
        · exact absurd hi (tail_waits hs hc' (by simpa using Nat.lt_of_le_of_lt h' hil) inv _ j rfl hj (getD_in (by rw [inv.size]; simpa using hjl) hju) i h')
    have hiu' : listed.getD i false = false := getD_both hiu
    have his : i < listed.size := by rw [inv.size]; simpa using hil
    have hset : (fun j => (listed.setIfInBounds i true).getD j false) = setL (listed.getD · false) i := by
      funext k
      by_cases hk : k = i
      · subst hk; simp [setL, his]
      · rw [getD_set_ne false (Ne.symm hk)]; simp [setL, hk]
    have step := hstep (listed.getD · false) i o a w hin ho ⟨fun p op hp hop hL e he hb => inv.closed p op (by simpa using hop) hL e he hb⟩ hiu' hia hH
    rw [← hset] at step
    have next : ∀ a' w', Holds w0 (F ((listed.setIfInBounds i true).getD · false)) a' w' → wpAnyIn Fe m P .any l.toArray Q (f + (l.length - n)) (listed.setIfInBounds i true) a' w' :=
      fun a' w' hH' => ih _ a' w' (inv.set hi hin) (by have := (cntU_set hiu' his (k := n)).1 hin; omega) hH'
    unfold wpOpIn
    simp only [hio]
    rcases step with ⟨h1, h2⟩ | ⟨h1, h2⟩
    · rw [if_pos h1]; exact h2.to hFe next
    · rw [if_neg (by simp [h1])]; exact ⟨fun f _ => hFe.fn f, next _ _ h2⟩

inductive Eff where
  | grow (k d : Nat) (z : Site)
  | set (k : Nat) (z : Site) (dst : Option Tmp) (x : T)
  | put (dst : Option Tmp) (x : T)
def Eff.keyOk (tch : List Nat) : Eff → Bool
  | .grow k _ _ => memN k tch
  | .set k _ _ _ => memN k tch
  | .put _ _ => true
def Eff.dst : Eff → Option Tmp
  | .grow _ d _ => some d
  | .set _ _ dst _ => dst
  | .put dst _ => dst
def Eff.val : Eff → T
  | .grow k _ _ => .rs k
  | .set _ _ _ x => x
  | .put _ x => x
def Eff.app : Eff → St → St
  | .grow k d z, s => ((s.killS k).site k z).put (some d) (.rs k)
  | .set k z dst x, s => (s.site k z).put dst x
  | .put dst x, s => s.put dst x
theorem Eff.app_dst {f : Eff} {s : St} {t : Tmp} (h : f.dst = some t) : (f.app s).t t = f.val := by
  cases f <;> simp only [Eff.dst] at h
  · cases h; simp [Eff.app, St.put, Eff.val]
  · subst h; simp [Eff.app, St.put, Eff.val]
  · subst h; simp [Eff.app, St.put, Eff.val]
theorem Eff.app_ne {f : Eff} {s : St} {t : Tmp} {y : D} (h : f.dst ≠ some t) (hs : s.t t = .d y) : (f.app s).t t = .d y := by
  have hb : ∀ d, f.dst = some d → Nat.beq t d = false := fun d hd => by
    rw [← Bool.not_eq_true]; intro e; rw [Nat.eq_of_beq_eq_true e] at h; exact h hd
  cases f with
  | grow k d z => simp only [Eff.app, St.put, hb d rfl, cond_false, St.site, St.killS, hs]; rfl
  | set k z dst x =>
    cases dst with
    | none => exact hs
    | some d => simp only [Eff.app, St.put, hb d rfl, cond_false, St.site, hs]
  | put dst x =>
    cases dst with
    | none => exact hs
    | some d => simp only [Eff.app, St.put, hb d rfl, cond_false, hs]
def effs (st : St) (fs : List Eff) : St := fs.foldl (fun s f => f.app s) st
theorem effs_snoc (st : St) (fs : List Eff) (f : Eff) : effs st (fs ++ [f]) = f.app (effs st fs) := by simp [effs]
def quietP (l : List Oper) (n : Nat) (cs : List Nat) (t : Tmp) : Option Nat := match prodIdx l n t with
  | some p => bif memN p cs then none else some p
  | none => none
open Classical in
noncomputable def ovS (l : List Oper) (n : Nat) (cs : List Nat) (xs : Nat → T) (L : Nat → Bool) (s : St) : St :=
  { s with t := fun t => match quietP l n cs t with
    | none => s.t t
    | some p => if L p then (if GH xs (guardsOf l p) then xs p else .un) else s.t t }
def ovD (l : List Oper) (n : Nat) (cs : List Nat) (xs : Nat → T) (s : St) : St :=
  { s with t := fun t => match quietP l n cs t with
    | none => s.t t
    | some p => match guardOf l p with
      | none => xs p
      | some _ => .dead }
def noT (tch : List Nat) : T → Bool
  | .ref k _ => !memN k tch
  | .rs k => !memN k tch
  | .own k _ _ _ => !memN k tch
  | _ => true
theorem killT_no {tch : List Nat} {k : Nat} {x : T} (h : noT tch x = true) (hk : memN k tch = true) : killT [k] x = x := by
  have key : ∀ j, memN j tch = false → memN j [k] = false := fun j hj => by
    simp only [memN, Bool.or_false]
    rw [← Bool.not_eq_true]; intro e; rw [Nat.eq_of_beq_eq_true e, hk] at hj; cases hj
  cases x with
  | ref j o => simp only [noT, Bool.not_eq_true'] at h; simp [killT, key j h]
  | rs j => simp only [noT, Bool.not_eq_true'] at h; simp [killT, key j h]
  | own j r f g => simp only [noT, Bool.not_eq_true'] at h; simp [killT, key j h]
  | _ => rfl
def EffOk (l : List Oper) (n : Nat) (cs tch : List Nat) (f : Eff) : Prop := f.keyOk tch = true ∧ ∀ d, f.dst = some d → ∃ p, prodIdx l n d = some p ∧ memN p cs = true
theorem quietP_none {l : List Oper} {n p : Nat} {cs : List Nat} {t : Tmp} (h : prodIdx l n t = some p) (hp : memN p cs = true) : quietP l n cs t = none := by
  unfold quietP; rw [h]; simp [hp]
theorem quietP_some {l : List Oper} {n p : Nat} {cs : List Nat} {t : Tmp} (h : quietP l n cs t = some p) : prodIdx l n t = some p ∧ memN p cs = false := by
  unfold quietP at h
  cases hp : prodIdx l n t with
  | none => rw [hp] at h; cases h
  | some q =>
    rw [hp] at h
    simp only at h
    cases hq : memN q cs with
    | true => rw [hq] at h; cases h
    | false => rw [hq] at h; simp only [cond_false, Option.some.injEq] at h; subst h; exact ⟨rfl, hq⟩
theorem ov_app {l : List Oper} {n : Nat} {cs tch : List Nat} {xs : Nat → T} {L : Nat → Bool} {s : St} {f : Eff} (hx : ∀ p, p < n → memN p cs = false → noT tch (xs p) = true) (hf : EffOk l n cs tch f) : ovS l n cs xs L (f.app s) = f.app (ovS l n cs xs L s) := by
  obtain ⟨hk, hd⟩ := hf
  have hdn : ∀ d, f.dst = some d → quietP l n cs d = none := fun d h => by obtain ⟨p, h1, h2⟩ := hd d h; exact quietP_none h1 h2
  have kl : ∀ p (c : Prop) [Decidable c], quietP l n cs p = quietP l n cs p → True := fun _ _ _ _ => trivial
  cases f with
  | grow k d z =>
    have hdq := hdn d rfl
    simp only [Eff.app, ovS, St.killS, St.site, St.put, St.mk.injEq, true_and, and_true]
    funext t
    cases ht : Nat.beq t d with
    | true => rw [Nat.eq_of_beq_eq_true ht, hdq]; try simp
    | false =>
      simp only [cond_false]
      cases hq : quietP l n cs t with
      | none => rfl
      | some p =>
        obtain ⟨h1, h2⟩ := quietP_some hq
        have hn := hx p (prodIdx_spec h1).1 h2
        simp only
        by_cases hL : L p = true
        · simp only [hL, if_true]
          split
          · exact (killT_no hn hk).symm
          · rfl
        · simp only [hL, if_false]; rfl
  | set k z dst x =>
    simp only [Eff.app, ovS, St.site]
    cases dst with
    | none => rfl
    | some d =>
      have hdq := hdn d rfl
      simp only [St.put, St.mk.injEq, true_and, and_true]
      funext t
      cases ht : Nat.beq t d with
      | true => rw [Nat.eq_of_beq_eq_true ht, hdq]; try simp
      | false => simp only [cond_false]
  | put dst x =>
    simp only [Eff.app, ovS]
    cases dst with
    | none => rfl
    | some d =>
      have hdq := hdn d rfl
      simp only [St.put, St.mk.injEq, true_and, and_true]
      funext t
      cases ht : Nat.beq t d with
      | true => rw [Nat.eq_of_beq_eq_true ht, hdq]; try simp
      | false => simp only [cond_false]
theorem ov_chain {l : List Oper} {n i : Nat} {cs : List Nat} {xs : Nat → T} {L : Nat → Bool} {s : St} (hi : memN i cs = true) : ovS l n cs xs (setL L i) s = ovS l n cs xs L s := by
  simp only [ovS, St.mk.injEq, true_and, and_true]
  funext t
  cases hq : quietP l n cs t with
  | none => rfl
  | some p =>
    obtain ⟨_, h2⟩ := quietP_some hq
    have : p ≠ i := fun e => by subst e; rw [hi] at h2; cases h2
    have : setL L i p = L p := by simp [setL, this]
    simp only [this]
open Classical in
theorem ov_quiet {l : List Oper} {n N i : Nat} {cs : List Nat} {xs : Nat → T} {o : Oper} {L : Nat → Bool} {s : St} (h : regB l n N = true) (hi : i < n) (ho : l[i]? = some o) (hc : memN i cs = false) :
    ovS l n cs xs (setL L i) s = (ovS l n cs xs L s).put o.dst (if GH xs (guardsOf l i) then xs i else .un) := by
  cases hd : o.dst with
  | none =>
    simp only [St.put, ovS, St.mk.injEq, true_and, and_true]
    funext t
    cases hp : quietP l n cs t with
    | none => rfl
    | some p =>
      obtain ⟨_, op, hop, hdp⟩ := prodIdx_spec (quietP_some hp).1
      have hpi : p ≠ i := fun e => by subst e; rw [hop] at ho; cases ho; rw [hd] at hdp; cases hdp
      have : setL L i p = L p := by simp [setL, hpi]
      simp only [this]
  | some d =>
    obtain ⟨hpd, _⟩ := reg_dst h hi ho hd
    have hq : quietP l n cs d = some i := by unfold quietP; rw [hpd]; simp [hc]
    simp only [St.put, ovS, St.mk.injEq, true_and, and_true]
    funext t
    by_cases htd : t = d
    · subst htd
      rw [hq]
      simp [setL]
    · have : Nat.beq t d = false := by rw [← Bool.not_eq_true]; exact fun e => htd (Nat.eq_of_beq_eq_true e)
      rw [this]
      simp only [cond_false]
      cases hp : quietP l n cs t with
      | none => rfl
      | some p =>
        obtain ⟨_, op, hop, hdp⟩ := prodIdx_spec (quietP_some hp).1
        have hpi : p ≠ i := fun e => by subst e; rw [hop] at ho; cases ho; rw [hd] at hdp; cases hdp; exact htd rfl
        have : setL L i p = L p := by simp [setL, hpi]
        simp only [this]

/- what the other operations see -/
def isTb : Site → Bool
  | .tbox _ => true
  | _ => false
def sQ (st : St) (tch : List Nat) : Nat → Site := fun k => if (memN k tch || isTb (st.s k)) = true then .no else st.s k
def visQ (st : St) (tch : List Nat) : T → Bool
  | .ref k _ => !(memN k tch || isTb (st.s k))
  | .rs k => !(memN k tch || isTb (st.s k))
  | .own k _ _ _ => !(memN k tch || isTb (st.s k))
  | _ => true
def hidQ (st : St) (tch : List Nat) (x : T) : T := if visQ st tch x = true then x else .dead
theorem hidQ_or (st : St) (tch : List Nat) (x : T) : hidQ st tch x = .dead ∨ (hidQ st tch x = x ∧ visQ st tch x = true) := by
  unfold hidQ
  by_cases h : visQ st tch x = true
  · exact .inr ⟨if_pos h, h⟩
  · exact .inl (if_neg h)
theorem vis_refs {st : St} {tch : List Nat} {x : T} {k : Nat} (h : visQ st tch x = true) (hr : refs x k) : (memN k tch || isTb (st.s k)) = false := by
  rcases hr with rfl | ⟨o, rfl⟩ | ⟨_, _, _, rfl⟩ <;> simpa [visQ] using h
theorem vis_no {st : St} {tch : List Nat} {x : T} (h : visQ st tch x = true) : noT tch x = true := by
  cases x with
  | ref k o => simp only [visQ, noT, Bool.not_eq_true', Bool.or_eq_false_iff] at h ⊢; exact h.1
  | rs k => simp only [visQ, noT, Bool.not_eq_true', Bool.or_eq_false_iff] at h ⊢; exact h.1
  | own k r f g => simp only [visQ, noT, Bool.not_eq_true', Bool.or_eq_false_iff] at h ⊢; exact h.1
  | _ => rfl
def dOf : T → T
  | .d y => .d y
  | _ => .dead
def evQ (st : St) (l : List Oper) (n : Nat) (xs : Nat → T) (cs tch : List Nat) (i : Nat) (o : Oper) (gs : List (Nat × Bool)) : Operand → T
  | .tmp t => match prodIdx l n t with
    | some p => bif memN p cs then (bif afterB o p then dOf (xs p) else .dead) else hidQ st tch (evAt st l n xs i o gs (.tmp t))
    | none => hidQ st tch (st.t t)
  | y => st.ev y
theorem constT_refs (v : Value) (k : Nat) : ¬ refs (constT v) k := by
  rintro (h | ⟨o, h⟩ | ⟨_, _, _, h⟩) <;> (unfold constT at h; split at h <;> first | (split at h <;> cases h) | cases h)
theorem evQ_refs {st : St} {l : List Oper} {n : Nat} {xs : Nat → T} {cs tch : List Nat} {i : Nat} {o : Oper} {gs : List (Nat × Bool)} {y : Operand} {k : Nat} (h : refs (evQ st l n xs cs tch i o gs y) k) : (memN k tch || isTb (st.s k)) = false := by
  have dd : ∀ x, ¬ (x = T.dead ∧ refs x k) := fun x ⟨e, h⟩ => by subst e; rcases h with h | ⟨_, h⟩ | ⟨_, _, _, h⟩ <;> cases h
  cases y with
  | tmp t =>
    simp only [evQ] at h
    cases hp : prodIdx l n t with
    | none =>
      rw [hp] at h
      simp only at h
      rcases hidQ_or st tch (st.t t) with e | ⟨e, hv⟩
      · exact absurd ⟨e, h⟩ (dd _)
      · rw [e] at h; exact vis_refs hv h
    | some p =>
      rw [hp] at h
      simp only at h
      cases hc : memN p cs with
      | true =>
        rw [hc] at h
        simp only [cond_true] at h
        cases ha : afterB o p with
        | false => rw [ha] at h; exact absurd ⟨rfl, h⟩ (dd _)
        | true =>
          rw [ha] at h
          simp only [cond_true] at h
          cases hx : xs p <;> rw [hx] at h <;> simp only [dOf] at h <;> rcases h with h | ⟨_, h⟩ | ⟨_, _, _, h⟩ <;> cases h
      | false =>
        rw [hc] at h
        simp only [cond_false] at h
        rcases hidQ_or st tch (evAt st l n xs i o gs (.tmp t)) with e | ⟨e, hv⟩
        · exact absurd ⟨e, h⟩ (dd _)
        · rw [e] at h; exact vis_refs hv h
  | const v => exact absurd h (constT_refs v k)
  | global g => rcases h with h | ⟨_, h⟩ | ⟨_, _, _, h⟩ <;> cases h
  | func f => rcases h with h | ⟨_, h⟩ | ⟨_, _, _, h⟩ <;> cases h
structure SameQ (st : St) (l : List Oper) (n : Nat) (cs tch : List Nat) (s : St) : Prop where
  qn : s.n = st.n
  qs : ∀ k, memN k tch = false → isTb (st.s k) = false → s.s k = st.s k
  qt : ∀ t, (∀ p, prodIdx l n t = some p → memN p cs = false) → visQ st tch (st.t t) = true → s.t t = st.t t
theorem SameQ.refl (st : St) (l : List Oper) (n : Nat) (cs tch : List Nat) : SameQ st l n cs tch st := ⟨rfl, fun _ _ _ => rfl, fun _ _ _ => rfl⟩
theorem SameQ.app {st s : St} {l : List Oper} {n : Nat} {cs tch : List Nat} {f : Eff} (h : SameQ st l n cs tch s) (hf : EffOk l n cs tch f) : SameQ st l n cs tch (f.app s) := by
  obtain ⟨hk, hd⟩ := hf
  have hsk : ∀ (k : Nat) (z : Site), memN k tch = true → ∀ j, memN j tch = false → Nat.beq j k = false := fun k z h1 j h2 => by
    rw [← Bool.not_eq_true]; intro e; rw [Nat.eq_of_beq_eq_true e, h1] at h2; cases h2
  have htd : ∀ d, f.dst = some d → ∀ t, (∀ p, prodIdx l n t = some p → memN p cs = false) → Nat.beq t d = false := fun d h1 t h2 => by
    rw [← Bool.not_eq_true]; intro e
    obtain ⟨p, q1, q2⟩ := hd d h1
    rw [← Nat.eq_of_beq_eq_true e] at q1
    rw [h2 p q1] at q2; cases q2
  cases f with
  | grow k d z =>
    refine ⟨h.qn, fun j hj hb => ?_, fun t ht hv => ?_⟩
    · simp only [Eff.app, St.killS, St.site, St.put, hsk k z hk j hj, cond_false]
      rw [h.qs j hj hb]
      cases hs : st.s j with
      | tbox c => rw [hs] at hb; cases hb
      | _ => rfl
    · simp only [Eff.app, St.killS, St.site, St.put, htd d rfl t ht, cond_false]
      rw [h.qt t ht hv]
      exact killT_no (vis_no hv) hk
  | set k z dst x =>
    refine ⟨by cases dst <;> exact h.qn, fun j hj hb => ?_, fun t ht hv => ?_⟩
    · have : ((s.site k z).put dst x).s j = (s.site k z).s j := by cases dst <;> rfl
      show ((s.site k z).put dst x).s j = _
      rw [this]
      simp only [St.site, hsk k z hk j hj, cond_false]
      exact h.qs j hj hb
    · cases dst with
      | none => exact h.qt t ht hv
      | some d =>
        simp only [Eff.app, St.site, St.put, htd d rfl t ht, cond_false]
        exact h.qt t ht hv
  | put dst x =>
    refine ⟨by cases dst <;> exact h.qn, fun j hj hb => ?_, fun t ht hv => ?_⟩
    · have : (s.put dst x).s j = s.s j := by cases dst <;> rfl
      show (s.put dst x).s j = _
      rw [this]; exact h.qs j hj hb
    · cases dst with
      | none => exact h.qt t ht hv
      | some d =>
        simp only [Eff.app, St.put, htd d rfl t ht, cond_false]
        exact h.qt t ht hv
theorem effs_same {st : St} {l : List Oper} {n : Nat} {cs tch : List Nat} {fs : List Eff} (h : ∀ f ∈ fs, EffOk l n cs tch f) : SameQ st l n cs tch (effs st fs) := by
  have key : ∀ (fs : List Eff) (s : St), (∀ f ∈ fs, EffOk l n cs tch f) → SameQ st l n cs tch s → SameQ st l n cs tch (effs s fs) := by
    intro fs
    induction fs with
    | nil => intro s _ h; exact h
    | cons f fs ih => intro s h1 h2; exact ih (f.app s) (fun g hg => h1 g (by simp [hg])) (h2.app (h1 f (by simp)))
  exact key fs st h (SameQ.refl _ _ _ _ _)
open Classical in
theorem evQ_sound {st s : St} {l : List Oper} {n N i : Nat} {xs : Nat → T} {cs tch : List Nat} {o : Oper} {gs : List (Nat × Bool)} {L : Nat → Bool} (h : regB l n N = true) (ho : l[i]? = some o)
    (hD : Done l n L) (hLi : L i = false) (hLa : ∀ e ∈ o.after, Region.binds .any e = true → L e.on = true) (hg : GH xs gs) (hS : SameQ st l n cs tch s) (hC : ∀ (t : Tmp) (p : Nat) (y : D), prodIdx l n t = some p → memN p cs = true → L p = true → xs p = .d y → s.t t = .d y) (y : Operand) :
    evQ st l n xs cs tch i o gs y = .dead ∨ (ovS l n cs xs L s).ev y = evQ st l n xs cs tch i o gs y := by
  cases y with
  | tmp t =>
    simp only [evQ]
    cases hp : prodIdx l n t with
    | none =>
      simp only
      rcases hidQ_or st tch (st.t t) with e | ⟨e, hv⟩
      · exact .inl e
      · right
        rw [e]
        have hq : quietP l n cs t = none := by unfold quietP; rw [hp]
        simp only [St.ev, ovS, hq]
        exact hS.qt t (fun p h => by rw [hp] at h; cases h) hv
    | some p =>
      simp only
      cases hc : memN p cs with
      | true =>
        simp only [cond_true]
        cases ha : afterB o p with
        | false => exact .inl rfl
        | true =>
          simp only [cond_true]
          cases hx : xs p with
          | d y =>
            right
            obtain ⟨ed, hed, hbd, hj⟩ := afterB_spec ha
            have hLp : L p = true := hj ▸ hLa ed hed hbd
            have hq : quietP l n cs t = none := by unfold quietP; rw [hp]; simp [hc]
            simp only [St.ev, ovS, hq, dOf]
            exact hC t p y hp hc hLp hx
          | _ => exact .inl rfl
      | false =>
        simp only [cond_false]
        rcases hidQ_or st tch (evAt st l n xs i o gs (.tmp t)) with e | ⟨e, hv⟩
        · exact .inl e
        · rw [e]
          rcases evAt_sound (st := st) h ho hD hLi hLa hg (.tmp t) with e2 | e2
          · exact .inl e2
          · right
            rw [← e2] at hv ⊢
            have hq : quietP l n cs t = some p := by unfold quietP; rw [hp]; simp [hc]
            simp only [St.ev, ovS, stOf, hq, hp] at hv ⊢
            by_cases hL : L p = true
            · simp only [hL, if_true]
            · simp only [hL, if_false] at hv ⊢
              exact hS.qt t (fun q h => by rw [hp] at h; cases h; exact hc) hv
  | const v => exact .inr rfl
  | global g => exact .inr rfl
  | func f => exact .inr rfl
theorem sQ_sub {st s : St} {l : List Oper} {n i : Nat} {xs : Nat → T} {cs tch : List Nat} {o : Oper} {gs : List (Nat × Bool)} (hS : SameQ st l n cs tch s) : Sub (sQ st tch) (evQ st l n xs cs tch i o gs) s.s := by
  refine ⟨fun k => ?_, fun k cs' hk => ?_⟩
  · unfold sQ
    by_cases h : (memN k tch || isTb (st.s k)) = true
    · rw [if_pos h]
      exact .inr ⟨rfl, fun y hr => by rw [evQ_refs hr] at h; cases h⟩
    · rw [if_neg h]
      have h' : (memN k tch || isTb (st.s k)) = false := by simpa using h
      rw [Bool.or_eq_false_iff] at h'
      exact .inl (hS.qs k h'.1 h'.2)
  · unfold sQ at hk
    by_cases h : (memN k tch || isTb (st.s k)) = true
    · rw [if_pos h] at hk; cases hk
    · rw [if_neg h] at hk
      have h' : (memN k tch || isTb (st.s k)) = false := by simpa using h
      rw [Bool.or_eq_false_iff, hk] at h'
      cases h'.2
/- the chain -/
def cntC (L : Nat → Bool) : List Nat → Nat
  | [] => 0
  | c :: cs => if L c = true then cntC L cs + 1 else 0
theorem cntC_at {L : Nat → Bool} {i : Nat} {post : List Nat} : ∀ {pre : List Nat}, (∀ c ∈ pre, L c = true) → L i = false → cntC L (pre ++ i :: post) = pre.length
  | [], _, hi => by simp [cntC, hi]
  | c :: pre, h, hi => by
    simp only [List.cons_append, cntC, h c (by simp), if_true, List.length_cons]
    rw [cntC_at (fun d hd => h d (by simp [hd])) hi]
theorem cntC_next {L : Nat → Bool} {i : Nat} {post : List Nat} (hp : ∀ c ∈ post, L c = false) : ∀ {pre : List Nat}, (∀ c ∈ pre, L c = true) → L i = true → cntC L (pre ++ i :: post) = pre.length + 1
  | [], _, hi => by
    simp only [List.nil_append, cntC, hi, if_true, List.length_nil]
    cases post with
    | nil => rfl
    | cons c cs => simp [cntC, hp c (by simp)]
  | c :: pre, h, hi => by
    simp only [List.cons_append, cntC, h c (by simp), if_true, List.length_cons]
    rw [cntC_next hp (fun d hd => h d (by simp [hd])) hi]
theorem cntC_all {L : Nat → Bool} : ∀ {cs : List Nat}, (∀ c ∈ cs, L c = true) → cntC L cs = cs.length
  | [], _ => rfl
  | c :: cs, h => by simp only [cntC, h c (by simp), if_true, List.length_cons]; rw [cntC_all fun d hd => h d (by simp [hd])]
theorem cntC_none {L : Nat → Bool} : ∀ {cs : List Nat}, (∀ c ∈ cs, L c = false) → cntC L cs = 0
  | [], _ => rfl
  | c :: cs, h => by simp [cntC, h c (by simp)]
theorem cntC_congr {L L' : Nat → Bool} : ∀ {cs : List Nat}, (∀ c ∈ cs, L c = L' c) → cntC L cs = cntC L' cs
  | [], _ => rfl
  | c :: cs, h => by simp only [cntC, h c (by simp)]; rw [cntC_congr fun d hd => h d (by simp [hd])]
def chB (l : List Oper) (n : Nat) : List Nat → Bool
  | [] => true
  | c :: cs => Nat.blt c n && cs.all (fun d => Nat.blt c d && depB l d c) && chB l n cs
theorem chB_split {l : List Oper} {n i : Nat} {post : List Nat} : ∀ {pre : List Nat}, chB l n (pre ++ i :: post) = true → (∀ c ∈ pre, c < i ∧ depB l i c = true) ∧ ∀ c ∈ post, i < c ∧ depB l c i = true
  | [], h => by
    simp only [List.nil_append, chB, Bool.and_eq_true] at h
    exact ⟨fun c hc => (by cases hc), fun c hc => by have := List.all_eq_true.1 h.1.2 c hc; simpa [Nat.blt_eq] using this⟩
  | d :: pre, h => by
    simp only [List.cons_append, chB, Bool.and_eq_true] at h
    obtain ⟨k1, k2⟩ := chB_split h.2
    refine ⟨fun c hc => ?_, k2⟩
    rcases List.mem_cons.1 hc with rfl | hc
    · have := List.all_eq_true.1 h.1.2 i (by simp); simpa [Nat.blt_eq] using this
    · exact k1 c hc
theorem chB_lt {l : List Oper} {n : Nat} : ∀ {cs : List Nat}, chB l n cs = true → ∀ c ∈ cs, c < n
  | [], _, c, hc => by cases hc
  | d :: cs, h, c, hc => by
    simp only [chB, Bool.and_eq_true] at h
    rcases List.mem_cons.1 hc with rfl | hc
    · simpa [Nat.blt_eq] using h.1.1
    · exact chB_lt h.2 c hc
theorem chB_at {l : List Oper} {n : Nat} : ∀ {cs : List Nat}, chB l n cs = true → ∀ (a b p q : Nat), a < b → cs[a]? = some p → cs[b]? = some q → p < q ∧ depB l q p = true
  | [], _, a, b, p, q, _, h, _ => by simp at h
  | d :: cs, h, a, b, p, q, hab, hp, hq => by
    simp only [chB, Bool.and_eq_true] at h
    obtain ⟨b, rfl⟩ : ∃ c, b = c + 1 := ⟨b - 1, by omega⟩
    simp only [List.getElem?_cons_succ] at hq
    cases a with
    | zero =>
      simp at hp; subst hp
      have := List.all_eq_true.1 h.1.2 q (List.mem_of_getElem? hq)
      simpa [Nat.blt_eq] using this
    | succ a => exact chB_at h.2 a b p q (by omega) (by simpa using hp) hq
theorem cntC_ge {L : Nat → Bool} : ∀ {cs : List Nat} {j : Nat}, j < cs.length → (∀ a p, a ≤ j → cs[a]? = some p → L p = true) → j < cntC L cs
  | [], j, h, _ => by simp at h
  | c :: cs, j, hj, h => by
    simp only [cntC, h 0 c (Nat.zero_le _) rfl, if_true]
    cases j with
    | zero => omega
    | succ j =>
      have := cntC_ge (L := L) (cs := cs) (j := j) (by simpa using hj) (fun a p ha hp => h (a + 1) p (by omega) (by simpa using hp))
      omega
theorem effs_val {st : St} {l : List Oper} {n : Nat} {cs : List Nat} {fs : List Eff} {xs : Nat → T} (hch : chB l n cs = true) (hfl : fs.length = cs.length)
    (hz : ∀ (j : Nat) (f : Eff) (p : Nat), fs[j]? = some f → cs[j]? = some p → (∀ d, f.dst = some d → prodIdx l n d = some p) ∧ xs p = f.val) {j p : Nat} {t : Tmp} {y : D} (hp : cs[j]? = some p) (ht : prodIdx l n t = some p) (hd : ∀ f, fs[j]? = some f → f.dst = some t) (hy : xs p = .d y) :
    ∀ c, j < c → (effs st (fs.take c)).t t = .d y := by
  intro c
  induction c with
  | zero => intro h; omega
  | succ c ih =>
    intro h
    rw [List.take_add_one]
    by_cases hjc : j = c
    · subst hjc
      have hj : j < fs.length := by rw [hfl]; exact (List.getElem?_eq_some_iff.1 hp).1
      have hf : fs[j]? = some fs[j] := List.getElem?_eq_getElem hj
      rw [hf, Option.toList_some, effs_snoc, Eff.app_dst (hd _ hf), ← (hz j _ p hf hp).2, hy]
    · have h1 := ih (by omega)
      cases hf : fs[c]? with
      | none => rw [Option.toList_none, List.append_nil]; exact h1
      | some f =>
        rw [Option.toList_some, effs_snoc]
        have hcl : c < cs.length := by rw [← hfl]; exact (List.getElem?_eq_some_iff.1 hf).1
        have hq : cs[c]? = some cs[c] := List.getElem?_eq_getElem hcl
        refine Eff.app_ne (fun e => ?_) h1
        have h2 := (hz c f _ hf hq).1 t e
        rw [ht] at h2
        have h3 := (chB_at hch j c p _ (by omega) hp hq).1
        simp only [Option.some.injEq] at h2
        omega
theorem memN_iff {k : Nat} : ∀ {ks : List Nat}, memN k ks = true ↔ k ∈ ks
  | [] => by simp [memN]
  | c :: cs => by
    simp only [memN, Bool.or_eq_true, List.mem_cons, memN_iff (ks := cs)]
    constructor
    · rintro (h | h)
      · exact .inl (Nat.eq_of_beq_eq_true h)
      · exact .inr h
    · rintro (h | h)
      · left; subst h; simp
      · exact .inr h
def evC (s : St) (l : List Oper) (n : Nat) (xs : Nat → T) (cs : List Nat) (o : Oper) : Operand → T
  | .tmp t => match quietP l n cs t with
    | some p => bif (afterB o p && (match guardOf l p with | none => true | some _ => false)) then xs p else .dead
    | none => s.t t
  | y => s.ev y
open Classical in
theorem evC_sound {s : St} {l : List Oper} {n N : Nat} {xs : Nat → T} {cs : List Nat} {o : Oper} {L : Nat → Bool} (h : regB l n N = true) (hLa : ∀ e ∈ o.after, Region.binds .any e = true → L e.on = true) (y : Operand) :
    evC s l n xs cs o y = .dead ∨ (ovS l n cs xs L s).ev y = evC s l n xs cs o y := by
  cases y with
  | tmp t =>
    simp only [evC, St.ev, ovS]
    cases hq : quietP l n cs t with
    | none => exact .inr rfl
    | some p =>
      simp only
      cases ha : afterB o p with
      | false => exact .inl rfl
      | true =>
        cases hgp : guardOf l p with
        | some jb => exact .inl rfl
        | none =>
          right
          obtain ⟨e, he, hb, hj⟩ := afterB_spec ha
          have hLp : L p = true := hj ▸ hLa e he hb
          have hgs : guardsOf l p = [] := by unfold guardsOf; rw [hgp]; rfl
          simp only [hLp, if_true, hgs, Bool.and_true, cond_true]
          rw [if_pos (show GH xs [] from trivial)]
  | const v => exact .inr rfl
  | global g => exact .inr rfl
  | func f => exact .inr rfl
def COp (P : Program) (w0 : Cx) (s : St) (ev : Operand → T) (o : Oper) (f : Eff) : Prop :=
  ∀ st, st.s = s.s → st.n = s.n → (∀ y, ev y = .dead ∨ st.ev y = ev y) → (∀ d, o.dst = some d → d < s.n) → StepOp P w0 st o (f.app st)

def OwesC (P : Program) (w0 : Cx) (st : St) (l : List Oper) (n : Nat) (cs tch : List Nat) (xs : Nat → T) (fs : List Eff) (i : Nat) (o : Oper) : Prop :=
  (∃ pre post f, cs = pre ++ i :: post ∧ o.guard = none ∧ fs[pre.length]? = some f ∧ COp P w0 (effs st (fs.take pre.length)) (evC (effs st (fs.take pre.length)) l n xs cs o) o f) ∨
  (memN i cs = false ∧ (∀ j b, o.guard = some (j, b) → memN j cs = false ∧ ∃ c, xs j = T.bool c) ∧ (GH xs (guardsOf l i) → QOp P w0 st.n (sQ st tch) (evQ st l n xs cs tch i o (guardsOf l i)) o (xs i)))
open Classical in
theorem reg_stepC {st : St} {l : List Oper} {n i : Nat} {cs tch : List Nat} {xs : Nat → T} {fs : List Eff} {o : Oper} {L : Nat → Bool} {a : Act} {w : World} (h : regB l n st.n = true) (hch : chB l n cs = true) (hfl : fs.length = cs.length) (hfo : ∀ f ∈ fs, EffOk l n cs tch f) (hx : ∀ p, p < n → memN p cs = false → noT tch (xs p) = true)
    (hz : ∀ (j : Nat) (f : Eff) (p : Nat), fs[j]? = some f → cs[j]? = some p → (∀ d, f.dst = some d → prodIdx l n d = some p) ∧ xs p = f.val) (hzd : ∀ (j : Nat) (f : Eff) (p : Nat) (o : Oper), fs[j]? = some f → cs[j]? = some p → l[p]? = some o → f.dst = o.dst)
    (hi : i < n) (ho : l[i]? = some o) (hD : Done l n L) (hLi : L i = false) (hLa : ∀ e ∈ o.after, Region.binds .any e = true → L e.on = true) (hH : Holds w0 (ovS l n cs xs L (effs st (fs.take (cntC L cs)))) a w) (hS : OwesC P w0 st l n cs tch xs fs i o) :
    (Region.wanted o (yielded l.toArray a.tmps) = true ∧ OW P w0 o a w (fun a' w' => Holds w0 (ovS l n cs xs (setL L i) (effs st (fs.take (cntC (setL L i) cs)))) a' w')) ∨
    (Region.wanted o (yielded l.toArray a.tmps) = false ∧ Holds w0 (ovS l n cs xs (setL L i) (effs st (fs.take (cntC (setL L i) cs)))) (a.put o.dst undef) w) := by
  rcases hS with ⟨pre, post, f, hcs, hg, hf, hc⟩ | ⟨hci, hgs, hq⟩
  · left
    refine ⟨by simp [Region.wanted, hg], ?_⟩
    obtain ⟨k1, k2⟩ := chB_split (hcs ▸ hch)
    have hpre : ∀ c ∈ pre, L c = true := fun c hc => by
      obtain ⟨_, hd⟩ := k1 c hc
      exact depF_done h hD _ i c hi (fun o' ho' => by rw [ho] at ho'; cases ho'; exact hLa) hd
    have hpost : ∀ c ∈ post, L c = false := fun c hc => by
      obtain ⟨hlt, hd⟩ := k2 c hc
      have hcn : c < n := chB_lt hch c (by rw [hcs]; simp [hc])
      rw [← Bool.not_eq_true]
      intro hLc
      have := depF_done h hD _ c i hcn (fun o' ho' e he hb => hD.closed c o' hcn ho' hLc e he hb) hd
      rw [hLi] at this; cases this
    have e1 : cntC L cs = pre.length := by rw [hcs]; exact cntC_at hpre hLi
    have e2 : cntC (setL L i) cs = pre.length + 1 := by
      rw [hcs]
      refine cntC_next (fun c hc => ?_) (fun c hc => ?_) (by simp [setL])
      · have : c ≠ i := by have := (k2 c hc).1; omega
        simp [setL, this, hpost c hc]
      · simp [setL, hpre c hc]
    have hmi : memN i cs = true := memN_iff.2 (by rw [hcs]; simp)
    have hfm : f ∈ fs := List.mem_of_getElem? hf
    have hok : EffOk l n cs tch f := hfo f hfm
    rw [e1] at hH
    rw [e2, List.take_add_one, hf, Option.toList_some, effs_snoc, ov_chain hmi, ov_app hx hok]
    have hsn : (ovS l n cs xs L (effs st (fs.take pre.length))).n = (effs st (fs.take pre.length)).n := rfl
    have hsm : SameQ st l n cs tch (effs st (fs.take pre.length)) := effs_same fun g hg => hfo g (List.mem_of_mem_take hg)
    exact hc (ovS l n cs xs L (effs st (fs.take pre.length))) rfl rfl (fun y => evC_sound h hLa y) (fun d hd => by rw [hsm.qn]; exact (reg_dst h hi ho hd).2) a w hH
  · have hcn : cntC (setL L i) cs = cntC L cs := cntC_congr fun c hc => by
      have : c ≠ i := fun e => by subst e; rw [memN_iff.2 hc] at hci; cases hci
      simp [setL, this]
    rw [hcn]
    have hC : ∀ (t : Tmp) (p : Nat) (y : D), prodIdx l n t = some p → memN p cs = true → L p = true → xs p = .d y → (effs st (fs.take (cntC L cs))).t t = .d y := fun t p y hp hpc hLp hy => by
      obtain ⟨j, hj⟩ := List.getElem?_of_mem (memN_iff.1 hpc)
      have hjl := (List.getElem?_eq_some_iff.1 hj).1
      obtain ⟨hpn, op, hop, hdp⟩ := prodIdx_spec hp
      refine effs_val hch hfl hz hj hp (fun f hf => by rw [hzd j f p op hf hj hop, hdp]) hy _ (cntC_ge hjl fun a q ha hq => ?_)
      by_cases haj : a = j
      · subst haj; rw [hj] at hq; cases hq; exact hLp
      · obtain ⟨h1, h2⟩ := chB_at hch a j q p (by omega) hq hj
        exact depF_done h hD _ p q hpn (fun o' ho' e he hb => hD.closed p o' hpn ho' hLp e he hb) h2
    generalize hs : effs st (fs.take (cntC L cs)) = s at *
    have hsm : SameQ st l n cs tch s := by rw [← hs]; exact effs_same fun g hg => hfo g (List.mem_of_mem_take hg)
    have key : Region.wanted o (yielded l.toArray a.tmps) = decide (GH xs (guardsOf l i)) := by
      cases hg : o.guard with
      | none => simp [Region.wanted, hg, guards_none ho hg, GH]
      | some jb =>
        obtain ⟨j, b⟩ := jb
        obtain ⟨hj1, hj2⟩ := reg_guard h hi ho hg
        obtain ⟨e, he, hb, hej⟩ := afterB_spec hj1
        have hLj : L j = true := hej ▸ hLa e he hb
        obtain ⟨hjc, c, hc⟩ := hgs j b hg
        rw [guards_some h hi ho hg]
        simp only [Region.wanted, hg]
        obtain ⟨blk, val, hh⟩ := hH
        have hjn : j < n := by omega
        obtain ⟨oj, hoj⟩ : ∃ oj, l[j]? = some oj := by
          cases ho' : l[j]? with
          | none => have := List.getElem?_eq_none_iff.1 ho'; have := (List.getElem?_eq_some_iff.1 ho).1; omega
          | some oj => exact ⟨oj, rfl⟩
        cases hdj : oj.dst with
        | none =>
          exfalso
          exact absurd (reg_guard_dst h hi ho hg) (by rw [hoj]; simp [hdj])
        | some d =>
          obtain ⟨hpd, hdN⟩ := reg_dst h hjn hoj hdj
          have hval := hh.tmp d
          have hqd : quietP l n cs d = some j := by unfold quietP; rw [hpd]; simp [hjc]
          have hst : (ovS l n cs xs L s).t d = if GH xs (guardsOf l j) then xs j else .un := by
            simp only [ovS, hqd, hLj, if_true]
          rw [hst] at hval
          have hds : d < a.tmps.size := by rw [hh.size]; show d < s.n; rw [hsm.qn]; exact hdN
          have hy : yielded l.toArray a.tmps j = match a.tmps.getD d undef with | .bool b => some b | _ => none := by
            simp [yielded, hoj, hdj, hds]
            cases a.tmps[d] <;> rfl
          by_cases hgj : GH xs (guardsOf l j)
          · rw [if_pos hgj, hc] at hval
            have : a.tmps.getD d undef = .bool c := Rep.v_eq hval
            rw [hy, this]
            simp only [GH, hgj, and_true, hc, T.bool, T.d.injEq, D.v.injEq, Value.bool.injEq]
            cases c <;> cases b <;> simp
          · rw [if_neg hgj] at hval
            rw [hy, show a.tmps.getD d undef = undef from hval]
            simp [GH, hgj, undef]
    rw [key, ov_quiet h hi ho hci]
    by_cases hg : GH xs (guardsOf l i)
    · rw [if_pos hg]
      refine .inl ⟨by simpa using hg, ?_⟩
      exact hq hg _ a w hH (sQ_sub (s := s) hsm) hsm.qn (fun y => evQ_sound h ho hD hLi hLa hg hsm hC y) (fun d hd => (reg_dst h hi ho hd).2)
    · rw [if_neg hg]
      refine .inr ⟨by simpa using hg, ?_⟩
      obtain ⟨blk, val, hh⟩ := hH
      exact ⟨blk, val, hh.put o.dst .un undef (fun d hd => by show d < s.n; rw [hsm.qn]; exact (reg_dst h hi ho hd).2) rfl⟩

def RegWC (P : Program) (w0 : Cx) (st : St) (l : List Oper) (n : Nat) (cs tch : List Nat) : List Oper → Nat → List Nat → (Nat → T) → St → ((Nat → T) → St → Prop) → Prop
  | [], _, rest, e, s, K => rest = [] ∧ K e s
  | o :: os, i, rest, e, s, K =>
    (∃ r f, rest = i :: r ∧ o.guard = none ∧ f.keyOk tch = true ∧ f.dst = o.dst ∧ COp P w0 s (evC s l n e cs o) o f ∧ RegWC P w0 st l n cs tch os (i + 1) r (upd e i f.val) (f.app s) K) ∨
    (memN i cs = false ∧ ∃ x, (∀ j b, o.guard = some (j, b) → memN j cs = false ∧ ∃ c, e j = T.bool c) ∧ (GH e (gsOf l i o) → QOp P w0 st.n (sQ st tch) (evQ st l n e cs tch i o (gsOf l i o)) o x) ∧ noT tch x = true ∧
      RegWC P w0 st l n cs tch os (i + 1) rest (upd e i x) s K)
theorem evQ_congr {st : St} {l : List Oper} {n N i : Nat} {e xs : Nat → T} {cs tch : List Nat} {o : Oper} {gs : List (Nat × Bool)} (h : regB l n N = true) (hi : i < n) (ho : l[i]? = some o)
    (he : ∀ p, p < i → e p = xs p) : evQ st l n e cs tch i o gs = evQ st l n xs cs tch i o gs := by
  funext y
  cases y with
  | tmp t =>
    simp only [evQ]
    rw [evAt_congr h hi ho he]
    cases hq : prodIdx l n t with
    | none => rfl
    | some p =>
      simp only
      cases ha : afterB o p with
      | false => rfl
      | true =>
        obtain ⟨ed, hed, hb, hj⟩ := afterB_spec ha
        have := reg_before h hi ho ed hed hb
        rw [he p (by omega)]
  | _ => rfl
theorem evC_congr {s : St} {l : List Oper} {n N i : Nat} {e xs : Nat → T} {cs : List Nat} {o : Oper} (h : regB l n N = true) (hi : i < n) (ho : l[i]? = some o)
    (he : ∀ p, p < i → e p = xs p) : evC s l n e cs o = evC s l n xs cs o := by
  funext y
  cases y with
  | tmp t =>
    simp only [evC]
    cases hq : quietP l n cs t with
    | none => rfl
    | some p =>
      simp only
      cases ha : afterB o p with
      | false => rfl
      | true =>
        obtain ⟨ed, hed, hb, hj⟩ := afterB_spec ha
        have := reg_before h hi ho ed hed hb
        rw [he p (by omega)]
  | _ => rfl
theorem regw_xsC {st : St} {l : List Oper} {n : Nat} {cs tch : List Nat} {K : (Nat → T) → St → Prop} (h : regB l n st.n = true) : ∀ (os : List Oper) (i : Nat) (pre rest : List Nat) (e : Nat → T) (fs0 : List Eff) (s : St), i + os.length = n → (∀ k, k < os.length → os[k]? = l[i + k]?) → cs = pre ++ rest → fs0.length = pre.length → s = effs st fs0 →
    RegWC P w0 st l n cs tch os i rest e s K → ∃ (xs : Nat → T) (fs : List Eff), (∀ p, p < i → xs p = e p) ∧ fs.length = cs.length ∧ fs.take fs0.length = fs0 ∧ (∀ f ∈ fs.drop fs0.length, EffOk l n cs tch f) ∧ (∀ (j : Nat) (f : Eff) (p : Nat), fs0.length ≤ j → fs[j]? = some f → cs[j]? = some p → (∀ d, f.dst = some d → prodIdx l n d = some p) ∧ xs p = f.val ∧ ∀ o, l[p]? = some o → f.dst = o.dst) ∧ (∀ k o, i ≤ k → k < n → l[k]? = some o → OwesC P w0 st l n cs tch xs fs k o) ∧ (∀ k, i ≤ k → k < n → memN k cs = false → noT tch (xs k) = true) ∧ K xs (effs st fs)
  | [], i, pre, rest, e, fs0, s, hl, _, hcs, hfl, hs, hW => by
    obtain ⟨rfl, hK⟩ := hW
    rw [List.append_nil] at hcs
    refine ⟨e, fs0, fun _ _ => rfl, by rw [hcs, hfl], by simp, by simp, fun j f p h1 h2 _ => (by have := (List.getElem?_eq_some_iff.1 h2).1; omega), fun k o h1 h2 _ => by simp at hl; omega, fun k h1 h2 => by simp at hl; omega, by rw [← hs]; exact hK⟩
  | o :: os, i, pre, rest, e, fs0, s, hl, hos, hcs, hfl, hs, hW => by
    have ho : l[i]? = some o := by have := hos 0 (by simp); simpa using this.symm
    have hi : i < n := by simp at hl; omega
    have hos' : ∀ k, k < os.length → os[k]? = l[i + 1 + k]? := fun k hk => by have := hos (k + 1) (by simpa using hk); simpa [Nat.add_assoc, Nat.add_comm 1 k] using this
    rcases hW with ⟨r, f, rfl, hg, hk, hd, hc, hW⟩ | ⟨hci, x, h1, h2, hx, hW⟩
    · have hmi : memN i cs = true := memN_iff.2 (by rw [hcs]; simp)
      have hok : EffOk l n cs tch f := ⟨hk, fun d hfd => ⟨i, (reg_dst h hi ho (hd ▸ hfd)).1, hmi⟩⟩
      obtain ⟨xs, fs, k1, k2, k3, k4, kz, k5, k6, k7⟩ := regw_xsC h os (i + 1) (pre ++ [i]) r (upd e i f.val) (fs0 ++ [f]) (f.app s) (by simp at hl; omega) hos' (by rw [hcs]; simp) (by simp [hfl]) (by rw [effs_snoc, hs]) hW
      rw [List.length_append, List.length_singleton] at k3 k4 kz
      have hxe : ∀ p, p < i → xs p = e p := fun p hp => by
        rw [k1 p (by omega)]
        have : Nat.beq p i = false := by rw [← Bool.not_eq_true]; exact fun e => by have := Nat.eq_of_beq_eq_true e; omega
        simp [upd, this]
      have hxi : xs i = f.val := by rw [k1 i (by omega)]; simp [upd]
      have htk : fs.take fs0.length = fs0 := by
        have := congrArg (List.take fs0.length) k3
        rwa [List.take_take, Nat.min_eq_left (by omega), List.take_left] at this
      have hfi : fs[fs0.length]? = some f := by
        have : (fs.take (fs0.length + 1))[fs0.length]? = some f := by rw [k3]; simp
        rwa [List.getElem?_take, if_pos (by omega)] at this
      refine ⟨xs, fs, hxe, k2, htk, fun g hg' => ?_, fun j g p hj hgj hpj => ?_, fun k o' hik hkn hok' => ?_, fun k hik hkn hkc => ?_, k7⟩
      · have hlt : fs0.length < fs.length := (List.getElem?_eq_some_iff.1 hfi).1
        rw [List.drop_eq_getElem_cons hlt] at hg'
        rcases List.mem_cons.1 hg' with rfl | hg'
        · have := (List.getElem?_eq_some_iff.1 hfi).2
          rw [this]; exact hok
        · exact k4 g hg'
      · by_cases hjf : j = fs0.length
        · subst hjf
          rw [hfi] at hgj; cases hgj
          have hpi : p = i := by
            rw [hfl, hcs] at hpj
            simpa using hpj.symm
          subst hpi
          exact ⟨fun d hdd => (reg_dst h hi ho (hd ▸ hdd)).1, hxi, fun o' ho' => by rw [ho] at ho'; cases ho'; exact hd⟩
        · exact kz j g p (by omega) hgj hpj
      · by_cases hki : k = i
        · subst hki
          rw [ho] at hok'; cases hok'
          refine .inl ⟨pre, r, f, hcs, hg, by rw [← hfl]; exact hfi, ?_⟩
          rw [← hfl, htk, ← hs, ← evC_congr h hi ho (e := e) (xs := xs) fun p hp => (hxe p hp).symm]
          exact hc
        · exact k5 k o' (by omega) hkn hok'
      · by_cases hki : k = i
        · subst hki; rw [hmi] at hkc; cases hkc
        · exact k6 k (by omega) hkn hkc
    · obtain ⟨xs, fs, k1, k2, k3, k4, kz, k5, k6, k7⟩ := regw_xsC h os (i + 1) pre rest (upd e i x) fs0 s (by simp at hl; omega) hos' hcs hfl hs hW
      have hxe : ∀ p, p < i → xs p = e p := fun p hp => by
        rw [k1 p (by omega)]
        have : Nat.beq p i = false := by rw [← Bool.not_eq_true]; exact fun e => by have := Nat.eq_of_beq_eq_true e; omega
        simp [upd, this]
      have hxi : xs i = x := by rw [k1 i (by omega)]; simp [upd]
      refine ⟨xs, fs, hxe, k2, k3, k4, kz, fun k o' hik hkn hok' => ?_, fun k hik hkn hkc => ?_, k7⟩
      · by_cases hki : k = i
        · subst hki
          rw [ho] at hok'; cases hok'
          have hgs : gsOf l k o = guardsOf l k := by
            unfold gsOf
            cases hg : o.guard with
            | none => exact (guards_none ho hg).symm
            | some _ => rfl
          rw [hgs] at h2
          refine .inr ⟨hci, fun j b hj => ?_, fun hG => ?_⟩
          · obtain ⟨q, c, hc⟩ := h1 j b hj
            exact ⟨q, c, by rw [hxe j (reg_guard h hi ho hj).2]; exact hc⟩
          · rw [hxi, ← evQ_congr h hi ho (e := e) (xs := xs) fun p hp => (hxe p hp).symm]
            exact h2 (GH.congr (fun g hg => hxe g.1 (guards_lt h k hi g hg)) hG)
        · exact k5 k o' (by omega) hkn hok'
      · by_cases hki : k = i
        · subst hki; rw [hxi]; exact hx
        · exact k6 k (by omega) hkn hkc
open Classical in
theorem ovD_wk {l : List Oper} {n : Nat} {cs : List Nat} {xs : Nat → T} {s : St} : Wk (ovS l n cs xs (ltB n) s) (ovD l n cs xs s) := by
  refine ⟨rfl, rfl, fun t => ?_⟩
  simp only [ovD, ovS]
  cases hq : quietP l n cs t with
  | none => exact .inl rfl
  | some p =>
    have hpn := (prodIdx_spec (quietP_some hq).1).1
    simp only [ltB, hpn, decide_true, if_true]
    cases hg : guardOf l p with
    | some jb => exact .inr rfl
    | none =>
      left
      have hgs : guardsOf l p = [] := by unfold guardsOf; rw [hg]; rfl
      simp only [hgs]
      rw [if_pos (show GH xs [] from trivial)]
theorem awp_regionC {st : St} {l : List Oper} {id : Nat} {R : Exit → St → Prop} (n : Nat) (cs tch : List Nat) (hm : P.follows .mixedOrders = true) (h : (regB l n st.n && decide (n ≤ l.length) && tailOk l n && chB l n cs) = true)
    (hW : RegWC P w0 st l n cs tch (l.take n) 0 cs (fun _ => .dead) st (fun xs s => Aops P w0 l (l.drop n) R (ovD l n cs xs s))) : Awp P w0 (.region id l.toArray true) R st := by
  simp only [Bool.and_eq_true, decide_eq_true_eq] at h
  obtain ⟨⟨⟨h, hn⟩, hB⟩, hch⟩ := h
  have htl : (l.take n).length = n := by simp; omega
  have hto : ∀ k, k < (l.take n).length → (l.take n)[k]? = l[0 + k]? := fun k hk => by rw [htl] at hk; simp [hk]
  obtain ⟨xs, fs, _, hfl, _, hfo, hzz, hO, hx, hK⟩ := regw_xsC (cs := cs) h (l.take n) 0 [] cs _ [] st (by omega) hto rfl rfl rfl hW
  simp only [List.length_nil, List.drop_zero] at hfo
  have hx' : ∀ p, p < n → memN p cs = false → noT tch (xs p) = true := fun p hp hc => hx p (Nat.zero_le _) hp hc
  have hcl : cntC (ltB n) cs = cs.length := cntC_all fun c hc => by simp [ltB, chB_lt hch c hc]
  intro Fe m hFe
  have hT : ∀ a w, Holds w0 (ovS l n cs xs (ltB n) (effs st (fs.take (cntC (ltB n) cs)))) a w → wpListIn Fe m P l.toArray (Post w0 R) (l.drop n) a w := fun a w hH => by
    rw [hcl, ← hfl, List.take_length] at hH
    exact hK Fe m hFe a w (hH.weak ovD_wk)
  intro a w hH
  refine wpIn_region_any hm ?_
  have inv0 : HeadInv .any l.toArray n (Array.replicate l.toArray.size false) :=
    ⟨by simp, fun j oj _ hl => (by rw [getD_replicate_false] at hl; cases hl), fun t _ ht => getD_in (by simpa using ht) (getD_replicate_false _ _)⟩
  have hF : ∀ L : Nat → Bool, (∀ p, p < n → L p = true) → ovS l n cs xs L (effs st (fs.take (cntC L cs))) = ovS l n cs xs (ltB n) (effs st (fs.take (cntC (ltB n) cs))) := fun L hL => by
    rw [cntC_congr (L := L) (L' := ltB n) fun c hc => by rw [hL c (chB_lt hch c hc)]; simp [ltB, chB_lt hch c hc]]
    generalize effs st (fs.take (cntC (ltB n) cs)) = s
    simp only [ovS, St.mk.injEq, true_and, and_true]
    funext t
    cases hq : quietP l n cs t with
    | none => rfl
    | some p =>
      have hpn := (prodIdx_spec (quietP_some hq).1).1
      simp only [hL p hpn, ltB, hpn, decide_true]
  have hF0 : ovS l n cs xs ((Array.replicate l.toArray.size false).getD · false) (effs st (fs.take (cntC ((Array.replicate l.toArray.size false).getD · false) cs))) = st := by
    rw [cntC_none fun c _ => getD_replicate_false _ _]
    have : effs st (fs.take 0) = st := rfl
    rw [this]
    cases st
    simp only [ovS, St.mk.injEq, true_and, and_true]
    funext t
    cases hq : quietP l n cs t with
    | none => rfl
    | some p => simp only [getD_replicate_false]; rfl
  have := any_preF (m := m) hFe (F := fun L => ovS l n cs xs L (effs st (fs.take (cntC L cs)))) h hn hB (fun L i o a w hi ho hD hLi hLa hH => reg_stepC h hch hfl hfo hx' (fun j f p h1 h2 => ⟨(hzz j f p (Nat.zero_le _) h1 h2).1, (hzz j f p (Nat.zero_le _) h1 h2).2.1⟩) (fun j f p o h1 h2 h3 => (hzz j f p (Nat.zero_le _) h1 h2).2.2 o h3) hi ho hD hLi hLa hH (hO i o (Nat.zero_le _) hi ho)) hF hT n _ a { w with drawn := w.drawn + 1 } inv0 cntU_none (by rw [hF0]; exact hH.drew)
  rw [show n + (l.length - n) = l.toArray.size by simp; omega] at this
  exact this
end
section
variable {P : Program} {w0 : Cx} {st s : St} {l os : List Oper} {n i : Nat} {e : Nat → T} {cs tch r : List Nat} {K : (Nat → T) → St → Prop} {dst : Option Tmp} {op : Op} {ty : TypeId} {pos : String} {after : Array Edge}
theorem rgc_nil (h : K e s) : RegWC P w0 st l n cs tch [] i [] e s K := ⟨rfl, h⟩
theorem rgc_q {x : T} (hc : memN i cs = false) (hq : QOp P w0 st.n (sQ st tch) (evQ st l n e cs tch i ⟨dst, op, ty, pos, after, none⟩ []) ⟨dst, op, ty, pos, after, none⟩ x) (hx : noT tch x = true)
    (h : RegWC P w0 st l n cs tch os (i + 1) r (upd e i x) s K) : RegWC P w0 st l n cs tch (⟨dst, op, ty, pos, after, none⟩ :: os) i r e s K :=
  .inr ⟨hc, x, (fun j b h => by cases h), fun _ => hq, hx, h⟩
theorem rgc_c {f : Eff} (hk : f.keyOk tch = true) (hd : f.dst = dst) (hc : COp P w0 s (evC s l n e cs ⟨dst, op, ty, pos, after, none⟩) ⟨dst, op, ty, pos, after, none⟩ f)
    (h : RegWC P w0 st l n cs tch os (i + 1) r (upd e i f.val) (f.app s) K) : RegWC P w0 st l n cs tch (⟨dst, op, ty, pos, after, none⟩ :: os) i (i :: r) e s K :=
  .inl ⟨r, f, rfl, rfl, hk, hd, hc, h⟩
end
section
variable {P : Program} {w0 : Cx} {s : St} {ev : Operand → T} {ty : TypeId} {pos : String} {after : Array Edge}
theorem c_q {dst : Option Tmp} {op : Op} {x : T} (hq : QOp P w0 s.n s.s ev ⟨dst, op, ty, pos, after, none⟩ x) : COp P w0 s ev ⟨dst, op, ty, pos, after, none⟩ (.put dst x) :=
  fun st hk hn hev hd a w hH => hq st a w hH (by rw [hk]; exact Sub.refl _ _) hn hev hd
theorem c_store {t : TypeId} {y x : Operand} {agg : Bool} {m k o : Nat} {X : D} {cs cs' : List D} (ht : szB P t agg m = true) (hy : ev y = .ref k o) (hx : ev x = .d X) (hX : X.sc = true ∨ ∃ cs, X = .agg cs) (hm : X.cells.length = m)
    (hk : s.s k = .box cs) (ho : o + m ≤ cs.length) (hcs : setCs cs o X.cells = cs') : COp P w0 s ev ⟨none, .store t y x, ty, pos, after, none⟩ (.set k (.box cs') none .dead) :=
  fun st hk' _ hev _ => step_of_aops rfl fun ops rest R h => aops_store ht (live_ev hev hy (by simp)) (live_ev hev hx (by simp)) hX hm (by rw [hk']; exact hk) ho hcs h
theorem c_empty {d : Nat} {t e sz : Nat} {z : Value} (ht : slB P t e sz = true) (hz : zrB P e z) (hs : s.s d = .no) : COp P w0 s ev ⟨some d, .buildSlice t 0 #[], ty, pos, after, none⟩ (.set d (.row e sz []) (some d) (.rs d)) :=
  fun st hk hn hev hd => step_of_aops rfl fun ops rest R h => aops_empty ht hz (by rw [Nat.blt_eq, hn]; exact hd d rfl) (by rw [hk]; exact hs) h
theorem c_append {d k : Nat} {t e sz b m : Nat} {z : Value} {y x : Operand} {es news es' : List (List D)} (ht : slB P t e sz = true) (hz : zrB P e z) (hb : byB P e b = true) (hzs : z.cells.size = sz) (hs0 : 0 < sz) (hy : ev y = .rs k) (hk : s.s k = .row e sz es) (hx : ev x = .d (.sl sz news))
    (hm : news.length = m) (hbm : (es.length + m) * b ≤ 140737488355328) (hmax : es.length + m ≤ 9223372036854775807) (hes : es ++ news = es') : COp P w0 s ev ⟨some d, .call ⟨.builtin .append, #[y, x], #[t, t]⟩, ty, pos, after, none⟩ (.grow k d (.row e sz es')) :=
  fun st hk' hn hev hd => step_of_aops rfl fun ops rest R h => aops_append ht hz hb hzs hs0 (live_ev hev hy (by simp)) (by rw [hk']; exact hk) (live_ev hev hx (by simp)) hm hbm hmax (by rw [Nat.blt_eq, hn]; exact hd d rfl) hes h
theorem le_freezeR {st : St} (k t : Nat) {e sz : Nat} {es : List (List D)} (hs : st.s k = .row e sz es) (ht : st.t t = .rs k) (hk : Nat.blt k st.n = true) (htn : Nat.blt t st.n = true) (hm : ∀ b, w0.mine b → w0.ok b) : Le w0 st ((headSt st [k] [] []).put (some t) (.d (.sl sz es))) := by
  intro a w ⟨blk, val, hh⟩
  have hH : Hold w0 (headSt st [k] [] []) a w (headBlk [k] [] blk) val := hold_headW (ms := []) (Out.refl st) (by simp) (by simp) (by intro k h; cases h) (by intro p h; cases h) rfl (by simpa using hk) hh
  have h1 := hh.tmp t
  rw [ht] at h1
  obtain ⟨_, hv⟩ := h1
  have h2 := hh.site k
  rw [hs] at h2
  obtain ⟨a1, a2, a3⟩ := h2
  have hok : ∀ c, okOf w0 blk c → okOf w0 (headBlk [k] [] blk) c := fun c ⟨q1, q2⟩ => ⟨q1, fun j hj => by
    simp only [headBlk, lookN] at hj
    cases hm : memN j [k] <;> rw [hm] at hj
    · exact q2 j hj
    · cases hj⟩
  rw [Nat.blt_eq] at htn
  refine ⟨_, _, Hold.same t htn (put_hold (v := a.tmps.getD t undef) hH htn ?_)⟩
  show Rep w _ (.sl sz es) _
  rcases a3 with ⟨_, he, hval⟩ | ⟨b, vals, cap, hb, hval, hn, hcap, hh', hsz, hc⟩
  · rw [hv, hval, he]; exact .emp sz none 0 (Nat.zero_le _)
  · have hokb : okOf w0 (headBlk [k] [] blk) b := by
      refine ⟨(hh.new k b hb).1.elim .inr (fun h => .inl (hm b h)), fun j hj => ?_⟩
      simp only [headBlk, lookN] at hj
      cases hmj : memN j [k] <;> rw [hmj] at hj
      · have := hh.inj j k b hj hb
        subst this
        simp [memN] at hmj
      · cases hj
    rw [hv, hval]
    exact .sl sz es b 0 cap (fun i j => vals.getD (i * sz + j) undef) (heap_lt hh') hokb hn hcap a1 a2 (fun i x j d hi hj => by
      obtain ⟨v, hv, _⟩ := hc i x j d hi hj
      rw [cell_of_block hh', Nat.zero_add, hv, getD_val hv]) (fun i x j d hi hj => by
      obtain ⟨v, hv, hr⟩ := hc i x j d hi hj
      rw [getD_val hv]; exact hr.ok fun _ _ h => hok _ h)
theorem Out.ovD {ts ms : List Nat} {s s0 : St} {l : List Oper} {n : Nat} {cs : List Nat} {xs : Nat → T} (hO : Out ts ms s s0) (h : ((l.take n).all fun o => match o.dst with | some d => memN d ts | none => true) = true) : Out ts ms (ovD l n cs xs s) s0 := by
  refine ⟨hO.n, fun t ht => ?_, hO.s⟩
  have hq : quietP l n cs t = none := by
    cases hq : quietP l n cs t with
    | none => rfl
    | some p =>
      obtain ⟨h1, _⟩ := quietP_some hq
      obtain ⟨hpn, o, ho, hd⟩ := prodIdx_spec h1
      have := List.all_eq_true.1 h o (List.mem_of_getElem? (i := p) (by rw [List.getElem?_take, if_pos hpn, ho]))
      rw [hd] at this
      simp only at this
      rw [this] at ht; cases ht
  obtain ⟨ks, hks, e⟩ := hO.t t ht
  exact ⟨ks, hks, by simp only [Am.ovD, hq]; exact e⟩
end
open Go

section
variable {P : Program} {w0 : Cx} {n : Nat} {s : Nat → Site} {ev : Operand → T} {dst : Option Tmp} {ty : TypeId} {pos : String} {after : Array Edge} {g : Option (Nat × Bool)}
end
end Go.Proofs.YthpggoophcdgnaaDoor.Am
