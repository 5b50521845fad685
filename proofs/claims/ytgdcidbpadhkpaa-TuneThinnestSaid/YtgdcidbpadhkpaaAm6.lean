/- The abstract machine, part 6: code; loops; a function's contract from its body. Conditions: none. -/
import Derived.Test.YtgdcidbpadhkpaaAm5
set_option linter.unusedVariables false
set_option linter.unusedSimpArgs false
namespace Go.Proofs.Ytgdcidbpadhkpaa.Am
open Go

section
variable {P : Program} {w0 : Cx}

def thenR (K : St → Prop) (R : Exit → St → Prop) : Exit → St → Prop
  | .normal, st => K st
  | e, st => R e st
def blockR (id : Nat) (R : Exit → St → Prop) : Exit → St → Prop
  | .exit id', st => if id' = id then R .normal st else R (.exit id') st
  | e, st => R e st
def Le (w0 : Cx) (s s' : St) : Prop := ∀ a w, Holds w0 s a w → Holds w0 s' a w

theorem Awp.le {c : Code} {R : Exit → St → Prop} {s s' : St} (hl : Le w0 s s') (h : Awp P w0 c R s') : Awp P w0 c R s := fun a w hH => h a w (hl a w hH)
theorem awp_seq {x y : Code} {R : Exit → St → Prop} {st : St} (h : Awp P w0 x (thenR (fun st' => Awp P w0 y R st') R) st) : Awp P w0 (.seq x y) R st := fun a w hH =>
  wp_seq (wp_mono (h a w hH) fun e a' w' ⟨st', hR, hH'⟩ => by
    cases e with
    | normal => exact hR a' w' hH'
    | _ => exact ⟨st', hR, hH'⟩)
theorem awp_skip {R : Exit → St → Prop} {st : St} (h : R .normal st) : Awp P w0 .skip R st := fun _ _ hH => wp_skip ⟨st, h, hH⟩
theorem awp_ret {R : Exit → St → Prop} {st : St} (h : R .ret st) : Awp P w0 .ret R st := fun _ _ hH => wp_ret ⟨st, h, hH⟩
theorem awp_exit {id : Nat} {R : Exit → St → Prop} {st : St} (h : R (.exit id) st) : Awp P w0 (.exit id) R st := fun _ _ hH => wp_exit ⟨st, h, hH⟩
theorem awp_label {l : Nat} {R : Exit → St → Prop} {st : St} (h : R .normal st) : Awp P w0 (.label l) R st := fun _ _ hH => wp_label ⟨st, h, hH⟩
theorem awp_cond {c : Operand} {x y : Code} {R : Exit → St → Prop} {st : St} {b : Bool} (hc : st.ev c = T.bool b) (ht : b = true → Awp P w0 x R st) (hf : b = false → Awp P w0 y R st) : Awp P w0 (.cond c x y) R st := by
  intro a w hH
  have hv : a.eval c = .bool b := by obtain ⟨blk, val, hh⟩ := hH; exact hh.bool hc
  exact wp_cond_split hv (fun h => ht h a w hH) (fun h => hf h a w hH)
theorem awp_block {id : Nat} {c : Code} {R : Exit → St → Prop} {st : St} (h : Awp P w0 c (blockR id R) st) : Awp P w0 (.block id c) R st := fun a w hH =>
  wp_block (wp_mono (h a w hH) fun e a' w' ⟨st', hR, hH'⟩ => by
    cases e with
    | exit id' =>
      by_cases hid : id' = id
      · simp only [blockR, hid, if_true] at hR
        simp only [Exit.inBlock, hid, if_true]
        exact ⟨st', hR, hH'⟩
      · simp only [blockR, hid, if_false] at hR
        simp only [Exit.inBlock, hid, if_false]
        exact ⟨st', hR, hH'⟩
    | _ => exact ⟨st', hR, hH'⟩)
open Classical in
theorem awp_loop {c : Code} {R : Exit → St → Prop} {st : St} (I : St → Prop) (μ : St → Nat) (h0 : I st) (hr : ∀ st, I st → Awp P w0 c (thenR (fun st' => I st' ∧ μ st' < μ st) R) st) : Awp P w0 (.loop c) R st := by
  intro a w hH
  have hex : ∀ a w, (∃ s, I s ∧ Holds w0 s a w) → ∃ n s, I s ∧ Holds w0 s a w ∧ μ s = n := fun a w ⟨s, h1, h2⟩ => ⟨μ s, s, h1, h2, rfl⟩
  have least : ∀ (p : Nat → Prop), (∃ n, p n) → ∃ n, p n ∧ ∀ m, p m → n ≤ m := by
    intro p ⟨n, hn⟩
    induction n using Nat.strongRecOn with
    | _ n ih =>
      by_cases hm : ∃ m, m < n ∧ p m
      · obtain ⟨m, hm1, hm2⟩ := hm; exact ih m hm1 hm2
      · exact ⟨n, hn, fun m hm' => by
          rcases Nat.lt_or_ge m n with h | h
          · exact absurd ⟨m, h, hm'⟩ hm
          · exact h⟩
  let M : Act → World → Nat := fun a w => if h : ∃ s, I s ∧ Holds w0 s a w then (least _ (hex a w h)).choose else 0
  have hM : ∀ a w, (∃ s, I s ∧ Holds w0 s a w) → (∃ s, I s ∧ Holds w0 s a w ∧ μ s = M a w) ∧ ∀ s, I s → Holds w0 s a w → M a w ≤ μ s := by
    intro a w h
    have h1 : M a w = (least _ (hex a w h)).choose := dif_pos h
    have h2 := (least _ (hex a w h)).choose_spec
    rw [← h1] at h2
    exact ⟨h2.1, fun s hs hH => h2.2 _ ⟨s, hs, hH, rfl⟩⟩
  refine wp_loop (fun a w => ∃ s, I s ∧ Holds w0 s a w) M ⟨st, h0, hH⟩ ?_
  intro a w h
  obtain ⟨⟨s, hs, hHs, hm⟩, _⟩ := hM a w h
  refine wp_mono (hr s hs a w hHs) fun e a' w' ⟨st', hR, hH'⟩ => ?_
  cases e with
  | normal =>
    refine ⟨⟨st', hR.1, hH'⟩, ?_⟩
    have := (hM a' w' ⟨st', hR.1, hH'⟩).2 st' hR.1 hH'
    have := hR.2
    omega
  | _ => exact ⟨st', hR, hH'⟩

/- what a loop's head knows -/
def memN (t : Nat) : List Nat → Bool
  | [] => false
  | x :: xs => Nat.beq t x || memN t xs
def killT (ts : List Nat) : T → T
  | .ref k o => if memN k ts then .dead else .ref k o
  | .rs k => if memN k ts then .dead else .rs k
  | x => x
def killSite (ts : List Nat) : Site → Site
  | .tbox cs => .tbox (cs.map (killT ts))
  | x => x
def lookN {α : Type} (t : Nat) : List (Nat × α) → Option α
  | [] => none
  | (k, v) :: xs => bif Nat.beq t k then some v else lookN t xs
def headSt (st : St) (ts : List Nat) (sl : List (Nat × T)) (ss : List (Nat × Site)) : St :=
  { n := st.n
    t := fun t => match lookN t sl with | some x => x | none => bif memN t ts then .dead else killT ts (st.t t)
    s := fun k => match lookN k ss with | some x => x | none => bif memN k ts then .no else killSite ts (st.s k) }
structure Out (ts ms : List Nat) (s s0 : St) : Prop where
  n : s.n = s0.n
  t : ∀ t, memN t ts = false → ∃ ks, (∀ k, memN k ks = true → memN k ts = true) ∧ s.t t = killT ks (s0.t t)
  s : ∀ t, memN t ts = false → memN t ms = false → ∃ ks, (∀ k, memN k ks = true → memN k ts = true) ∧ s.s t = killSite ks (s0.s t)
theorem killT_nil (x : T) : killT [] x = x := by cases x <;> rfl
theorem killSite_nil (x : Site) : killSite [] x = x := by
  cases x with
  | tbox cs =>
    simp only [killSite, Site.tbox.injEq]
    conv => rhs; rw [← List.map_id cs]
    exact List.map_congr_left fun y _ => killT_nil y
  | _ => rfl
theorem killT_sub {ks ts : List Nat} (h : ∀ k, memN k ks = true → memN k ts = true) (x : T) : killT ts (killT ks x) = killT ts x := by
  cases x with
  | ref j o =>
    simp only [killT]
    cases hk : memN j ks
    · rfl
    · simp [h j hk, killT]
  | rs j =>
    simp only [killT]
    cases hk : memN j ks
    · rfl
    · simp [h j hk, killT]
  | _ => rfl
theorem killSite_sub {ks ts : List Nat} (h : ∀ k, memN k ks = true → memN k ts = true) (x : Site) : killSite ts (killSite ks x) = killSite ts x := by
  cases x with
  | tbox cs => simp only [killSite, List.map_map, Site.tbox.injEq]; exact List.map_congr_left fun y _ => killT_sub h y
  | _ => rfl
theorem killT_app (ks js : List Nat) (x : T) : killT js (killT ks x) = killT (ks ++ js) x := by
  have ha : ∀ j, memN j (ks ++ js) = (memN j ks || memN j js) := fun j => by
    induction ks with
    | nil => rfl
    | cons x xs ih => simp [memN, ih, Bool.or_assoc]
  cases x with
  | ref j o => simp only [killT, ha]; cases hk : memN j ks <;> simp [killT]
  | rs j => simp only [killT, ha]; cases hk : memN j ks <;> simp [killT]
  | _ => rfl
theorem killSite_app (ks js : List Nat) (x : Site) : killSite js (killSite ks x) = killSite (ks ++ js) x := by
  cases x with
  | tbox cs => simp only [killSite, List.map_map, Site.tbox.injEq]; exact List.map_congr_left fun y _ => killT_app ks js y
  | _ => rfl
theorem Out.refl {ts ms : List Nat} (s : St) : Out ts ms s s := ⟨rfl, fun _ _ => ⟨[], fun _ h => (by cases h), (killT_nil _).symm⟩, fun _ _ _ => ⟨[], fun _ h => (by cases h), (killSite_nil _).symm⟩⟩
theorem Out.put {ts ms : List Nat} {s s0 : St} {d : Nat} {x : T} (hO : Out ts ms s s0) (h : memN d ts = true) : Out ts ms (s.put (some d) x) s0 :=
  ⟨hO.n, fun t ht => by
    have : Nat.beq t d = false := by rw [← Bool.not_eq_true]; intro e; rw [Nat.eq_of_beq_eq_true e, h] at ht; cases ht
    simp only [St.put, this, cond_false]; exact hO.t t ht, hO.s⟩
theorem Out.putn {ts ms : List Nat} {s s0 : St} {x : T} (hO : Out ts ms s s0) : Out ts ms (s.put none x) s0 := hO
theorem Out.site {ts ms : List Nat} {s s0 : St} {d : Nat} {x : Site} (hO : Out ts ms s s0) (h : (memN d ts || memN d ms) = true) : Out ts ms (s.site d x) s0 :=
  ⟨hO.n, hO.t, fun t ht hm => by
    have : Nat.beq t d = false := by rw [← Bool.not_eq_true]; intro e; rw [Nat.eq_of_beq_eq_true e] at ht hm; rw [ht, hm] at h; cases h
    simp only [St.site, this, cond_false]; exact hO.s t ht hm⟩
theorem killT_killT (ts : List Nat) (x : T) : killT ts (killT ts x) = killT ts x := by
  cases x with
  | ref k o => simp only [killT]; cases h : memN k ts <;> simp [killT, h]
  | rs k => simp only [killT]; cases h : memN k ts <;> simp [killT, h]
  | _ => rfl
def keysIn {α : Type} (ts : List Nat) : List (Nat × α) → Bool
  | [] => true
  | (k, _) :: xs => memN k ts && keysIn ts xs
theorem keysIn_none {α : Type} {ts : List Nat} {t : Nat} (ht : memN t ts = false) : ∀ {l : List (Nat × α)}, keysIn ts l = true → lookN t l = none
  | [], _ => rfl
  | (k, v) :: xs, h => by
    simp only [keysIn, Bool.and_eq_true] at h
    have hb : Nat.beq t k = false := by rw [← Bool.not_eq_true]; intro e; rw [Nat.eq_of_beq_eq_true e, h.1] at ht; cases ht
    simp only [lookN, hb, cond_false]; exact keysIn_none ht h.2
theorem memN_app {t : Nat} {a b : List Nat} : memN t (a ++ b) = (memN t a || memN t b) := by
  induction a with
  | nil => rfl
  | cons x xs ih => simp [memN, ih, Bool.or_assoc]
theorem Out.head {ts ms : List Nat} {s0 : St} {sl : List (Nat × T)} {ss : List (Nat × Site)} (h1 : keysIn ts sl = true) (h2 : keysIn (ts ++ ms) ss = true) : Out ts ms (headSt s0 ts sl ss) s0 := by
  refine ⟨rfl, fun t ht => ?_, fun t ht hm => ?_⟩
  · exact ⟨ts, fun _ h => h, by simp only [headSt, keysIn_none ht h1, ht, cond_false]⟩
  · have : memN t (ts ++ ms) = false := by rw [memN_app, ht, hm]; rfl
    exact ⟨ts, fun _ h => h, by simp only [headSt, keysIn_none this h2, ht, cond_false]⟩
def AllT (s : St) : List (Nat × T) → Prop
  | [] => True
  | (k, v) :: xs => s.t k = v ∧ AllT s xs
def AllS (s : St) : List (Nat × Site) → Prop
  | [] => True
  | (k, v) :: xs => s.s k = v ∧ AllS s xs
theorem AllT.mem {s : St} : ∀ {l : List (Nat × T)}, AllT s l → ∀ p ∈ l, s.t p.1 = p.2
  | [], _, p, h => by cases h
  | (k, v) :: xs, h, p, hp => by
    rcases List.mem_cons.1 hp with rfl | hp
    · exact h.1
    · exact AllT.mem h.2 p hp
theorem AllS.mem {s : St} : ∀ {l : List (Nat × Site)}, AllS s l → ∀ p ∈ l, s.s p.1 = p.2
  | [], _, p, h => by cases h
  | (k, v) :: xs, h, p, hp => by
    rcases List.mem_cons.1 hp with rfl | hp
    · exact h.1
    · exact AllS.mem h.2 p hp
def msOk (ts : List Nat) (ss : List (Nat × Site)) : List Nat → Bool
  | [] => true
  | k :: ks => (memN k ts || (lookN k ss).isSome) && msOk ts ss ks
def slOk (ts : List Nat) (ss : List (Nat × Site)) : List (Nat × T) → Bool
  | [] => true
  | (_, x) :: xs => (match x with | .rs k => !memN k ts || (lookN k ss).isSome | .ref k _ => !memN k ts || (lookN k ss).isSome | _ => true) && slOk ts ss xs
theorem lookN_mem {α : Type} {t : Nat} : ∀ {l : List (Nat × α)} {x : α}, lookN t l = some x → (t, x) ∈ l
  | [], _, h => by cases h
  | (k, v) :: xs, x, h => by
    simp only [lookN] at h
    cases hb : Nat.beq t k with
    | true =>
      rw [hb] at h
      rw [Nat.eq_of_beq_eq_true hb]
      simp only [cond_true, Option.some.injEq] at h
      subst h; simp
    | false => rw [hb] at h; exact List.mem_cons_of_mem _ (lookN_mem h)
theorem killT_or (ts : List Nat) (x : T) : killT ts x = x ∨ killT ts x = .dead := by
  cases x with
  | ref k o => simp only [killT]; split; exact .inr rfl; exact .inl rfl
  | rs k => simp only [killT]; split; exact .inr rfl; exact .inl rfl
  | _ => exact .inl rfl
theorem killT_live {ts : List Nat} {x : T} {k : Nat} (h : killT ts x = .rs k ∨ ∃ o, killT ts x = .ref k o) : memN k ts = false := by
  cases x with
  | ref j o =>
    simp only [killT] at h
    cases hj : memN j ts <;> simp [hj] at h
    rw [← h]; exact hj
  | rs j =>
    simp only [killT] at h
    cases hj : memN j ts <;> simp [hj] at h
    rw [← h]; exact hj
  | _ => simp [killT] at h
theorem killSite_rel (ts : List Nat) (x : Site) : killSite ts x = x ∨ ∃ cs cs', x = .tbox cs ∧ killSite ts x = .tbox cs' ∧ cs'.length = cs.length ∧ ∀ (j : Nat) (y : T), cs'[j]? = some y → y = .dead ∨ cs[j]? = some y := by
  cases x with
  | tbox cs =>
    refine .inr ⟨cs, cs.map (killT ts), rfl, rfl, by simp, fun j y hy => ?_⟩
    rw [List.getElem?_map] at hy
    cases hj : cs[j]? with
    | none => rw [hj] at hy; cases hy
    | some z =>
      rw [hj] at hy
      cases hy
      rcases killT_or ts z with e | e
      · exact .inr (by rw [e])
      · exact .inl e
  | _ => exact .inl rfl
theorem killSite_live {ts : List Nat} {x : Site} {cs : List T} (h : killSite ts x = .tbox cs) : ∀ y ∈ cs, ∀ k, (y = .rs k ∨ ∃ o, y = .ref k o) → memN k ts = false := by
  cases x with
  | tbox cs' =>
    simp only [killSite, Site.tbox.injEq] at h
    subst h
    intro y hy k hk
    obtain ⟨z, _, rfl⟩ := List.mem_map.1 hy
    exact killT_live hk
  | _ => simp [killSite] at h
theorem killSite_row {ts : List Nat} {x : Site} : (x ≠ .no → killSite ts x ≠ .no) ∧ ((∃ e sz es, x = .row e sz es) → ∃ e sz es, killSite ts x = .row e sz es) := by
  cases x <;> simp [killSite]
/-- From a state to a loop's head: what the round assigns is forgotten but for what the head names. -/
def ssOk (ts : List Nat) (ss : List (Nat × Site)) : List (Nat × Site) → Bool
  | [] => true
  | (_, .tbox cs) :: xs => (cs.all fun x => match x with | .rs k => !memN k ts || (lookN k ss).isSome | .ref k _ => !memN k ts || (lookN k ss).isSome | _ => true) && ssOk ts ss xs
  | _ :: xs => ssOk ts ss xs
theorem ssOk_spec {ts : List Nat} {ss : List (Nat × Site)} : ∀ {l : List (Nat × Site)}, ssOk ts ss l = true → ∀ k cs, (k, Site.tbox cs) ∈ l → ∀ y ∈ cs, ∀ j, (y = .rs j ∨ ∃ o, y = .ref j o) → memN j ts = false ∨ ∃ x, lookN j ss = some x
  | [], _, k, cs, h => by cases h
  | (q, x) :: l, h, k, cs, hm => by
    intro y hy j hj
    have hl : ssOk ts ss l = true := by
      cases x <;> simp only [ssOk, Bool.and_eq_true] at h <;> first | exact h | exact h.2
    rcases List.mem_cons.1 hm with e | hm
    · cases e
      simp only [ssOk, Bool.and_eq_true] at h
      have h1 := List.all_eq_true.1 h.1 y hy
      have key : (!memN j ts || (lookN j ss).isSome) = true := by rcases hj with rfl | ⟨o, rfl⟩ <;> exact h1
      rw [Bool.or_eq_true] at key
      rcases key with key | key
      · exact .inl (by simpa using key)
      · exact .inr (Option.isSome_iff_exists.1 key)
    · exact ssOk_spec hl k cs hm y hy j hj
theorem memN_all {p : Nat → Bool} {k : Nat} : ∀ {ts : List Nat}, memN k ts = true → ts.all p = true → p k = true
  | [], h, _ => by cases h
  | x :: xs, h, ha => by
    simp only [memN, Bool.or_eq_true] at h
    simp only [List.all_cons, Bool.and_eq_true] at ha
    rcases h with h | h
    · rw [Nat.eq_of_beq_eq_true h]; exact ha.1
    · exact memN_all h ha.2
/-- The blocks of a head's sites. -/
def headBlk (ts : List Nat) (ss : List (Nat × Site)) (blk : Nat → Option Nat) : Nat → Option Nat := fun k => match lookN k ss with | some _ => blk k | none => bif memN k ts then none else blk k
theorem hold_headW {ts ms : List Nat} {s s0 : St} {sl : List (Nat × T)} {ss : List (Nat × Site)} (hO : Out ts ms s s0) (h1 : ∀ p ∈ sl, s.t p.1 = p.2) (h2 : ∀ p ∈ ss, s.s p.1 = p.2) (h3 : ∀ k, memN k ms = true → memN k ts = false → ∃ x, lookN k ss = some x)
    (h4 : ∀ p ∈ sl, ∀ k, (p.2 = .rs k ∨ ∃ o, p.2 = .ref k o) → memN k ts = true → ∃ x, lookN k ss = some x) (h5 : ssOk ts ss ss = true) (h6 : ts.all (fun t => Nat.blt t s.n) = true) 
    {a : Act} {w : World} {blk : Nat → Option Nat} {val : Nat → Value} (hh : Hold w0 s a w blk val) : Hold w0 (headSt s0 ts sl ss) a w (headBlk ts ss blk) val := by
  let blk' : Nat → Option Nat := fun k => match lookN k ss with | some _ => blk k | none => bif memN k ts then none else blk k
  have hb : ∀ k b, blk' k = some b → blk k = some b := fun k b h => by
    simp only [blk'] at h
    split at h
    · exact h
    · cases hm : memN k ts <;> rw [hm] at h
      · exact h
      · cases h
  have hok : ∀ b, okOf w0 blk b → okOf w0 blk' b := fun b h => ⟨h.1, fun k hk => h.2 k (hb k b hk)⟩
  have hbk : ∀ k, (memN k ts = false ∨ ∃ x, lookN k ss = some x) → blk' k = blk k := fun k h => by
    simp only [blk']
    rcases h with h | ⟨x, h⟩
    · split
      · rfl
      · rw [h]; rfl
    · rw [h]
  -- what the head says of a site that stays
  have hsn : ∀ k, (memN k ts = false ∨ ∃ x, lookN k ss = some x) → (headSt s0 ts sl ss).s k = s.s k ∨ (lookN k ss = none ∧ (headSt s0 ts sl ss).s k = killSite ts (s.s k)) := fun k h => by
    simp only [headSt]
    cases hl : lookN k ss with
    | some x => exact .inl (h2 _ (lookN_mem hl)).symm
    | none =>
      rcases h with h | ⟨x, h⟩
      · rw [h]
        simp only [cond_false]
        have hms : memN k ms = false := by
          rw [← Bool.not_eq_true]
          intro hm
          obtain ⟨x, hx⟩ := h3 k hm h
          rw [hl] at hx; cases hx
        obtain ⟨ks, hks, e⟩ := hO.s k h hms
        exact .inr ⟨trivial, by rw [e, killSite_sub hks]⟩
      · rw [hl] at h; cases h
  have hrel : ∀ k, (memN k ts = false ∨ ∃ x, lookN k ss = some x) → blk' k = blk k ∧ val k = val k ∧ (s.s k ≠ .no → (headSt s0 ts sl ss).s k ≠ .no) ∧ ((∃ e sz es, s.s k = .row e sz es) → ∃ e sz es, (headSt s0 ts sl ss).s k = .row e sz es) := fun k h => by
    refine ⟨hbk k h, rfl, ?_⟩
    rcases hsn k h with e | ⟨_, e⟩
    · rw [e]; exact ⟨id, id⟩
    · rw [e]; exact killSite_row
  have hT : ∀ x v, RepT w (okOf w0 blk) blk val s.s x v → (∀ k, (x = .rs k ∨ ∃ o, x = .ref k o) → memN k ts = false ∨ ∃ y, lookN k ss = some y) → RepT w (okOf w0 blk') blk' val (headSt s0 ts sl ss).s x v := fun x v hx hk =>
    hx.to (fun b _ h => hok b h) fun k hkx => hrel k (hk k hkx)
  show Hold w0 (headSt s0 ts sl ss) a w blk' val
  refine ⟨hh.ext, hh.defers, by rw [hh.size]; exact hO.n, fun k b h => hh.new k b (hb k b h), fun k k' b h h' => hh.inj k k' b (hb k b h) (hb k' b h'), fun k b h => ?_, fun k => ?_, fun t => ?_⟩
  · obtain ⟨q1, q2, q3⟩ := hh.pin k b h
    have hm : memN k ts = false := by
      rw [← Bool.not_eq_true]
      intro hm
      have := memN_all hm h6
      rw [Nat.blt_eq] at this
      omega
    refine ⟨by rw [hbk k (.inl hm)]; exact q1, ?_, by rw [show (headSt s0 ts sl ss).n = s.n from hO.n.symm]; exact q3⟩
    rcases hsn k (.inl hm) with e | ⟨_, e⟩
    · rw [e]; exact q2
    · rw [e]
      cases hs : s.s k <;> rw [hs] at q2 <;> first | rfl | cases q2
  · have stays : (memN k ts = false ∨ ∃ x, lookN k ss = some x) → SiteIn w (okOf w0 blk') blk' val (headSt s0 ts sl ss).s (blk' k) (val k) ((headSt s0 ts sl ss).s k) := fun h => by
      rw [hbk k h]
      refine (hh.site k).to (fun b _ h => hok b h) ?_ ?_
      · rcases hsn k h with e | ⟨_, e⟩
        · exact .inl e
        · rw [e]; exact killSite_rel ts (s.s k)
      · intro cs hcs y hy j hj
        rcases hsn k h with e | ⟨hl, e⟩
        · cases hl : lookN k ss with
          | some x =>
            have hx : (headSt s0 ts sl ss).s k = x := by simp only [headSt, hl]
            rw [hcs] at hx
            subst hx
            exact hrel j (ssOk_spec h5 k cs (lookN_mem hl) y hy j hj)
          | none =>
            have hx : (headSt s0 ts sl ss).s k = killSite ts (s0.s k) ∨ memN k ts = true := by
              cases hm : memN k ts with
              | true => exact .inr rfl
              | false => left; simp only [headSt, hl, hm, cond_false]
            rcases hx with hx | hx
            · exact hrel j (.inl (killSite_live (hx.symm.trans hcs) y hy j hj))
            · rcases h with h | ⟨x, h⟩
              · rw [hx] at h; cases h
              · rw [hl] at h; cases h
        · exact hrel j (.inl (killSite_live (e.symm.trans hcs) y hy j hj))
    cases hl : lookN k ss with
    | some x => exact stays (.inr ⟨x, hl⟩)
    | none =>
      cases hm : memN k ts with
      | false => exact stays (.inl hm)
      | true =>
        have e1 : blk' k = none := by simp only [blk', hl, hm, cond_true]
        have e2 : (headSt s0 ts sl ss).s k = .no := by simp only [headSt, hl, hm, cond_true]
        rw [e1, e2]; rfl
  · show RepT w _ _ _ _ (match lookN t sl with | some x => x | none => bif memN t ts then .dead else killT ts (s0.t t)) _
    cases hl : lookN t sl with
    | some x =>
      simp only
      have : s.t t = x := h1 _ (lookN_mem hl)
      refine hT x _ (by rw [← this]; exact hh.tmp t) fun k hk => ?_
      cases hm : memN k ts with
      | false => exact .inl rfl
      | true => exact .inr (h4 _ (lookN_mem hl) k hk hm)
    | none =>
      simp only
      cases hm : memN t ts with
      | true => simp only [cond_true]; trivial
      | false =>
        simp only [cond_false]
        have ht0 := hh.tmp t
        have ht : RepT w (okOf w0 blk) blk val s.s (killT ts (s0.t t)) (a.tmps.getD t undef) := by
          obtain ⟨ks, hks, e⟩ := hO.t t hm
          rw [e] at ht0
          rcases killT_or ts (killT ks (s0.t t)) with e' | e'
          · rw [killT_sub hks] at e'; rw [e']; exact ht0
          · rw [killT_sub hks] at e'; rw [e']; trivial
        exact hT _ _ ht fun k hk => .inl (killT_live hk)
theorem le_headW {ts ms : List Nat} {s s0 : St} {sl : List (Nat × T)} {ss : List (Nat × Site)} (hO : Out ts ms s s0) (h1 : ∀ p ∈ sl, s.t p.1 = p.2) (h2 : ∀ p ∈ ss, s.s p.1 = p.2) (h3 : ∀ k, memN k ms = true → memN k ts = false → ∃ x, lookN k ss = some x)
    (h4 : ∀ p ∈ sl, ∀ k, (p.2 = .rs k ∨ ∃ o, p.2 = .ref k o) → memN k ts = true → ∃ x, lookN k ss = some x) (h5 : ssOk ts ss ss = true) (h6 : ts.all (fun t => Nat.blt t s.n) = true) : Le w0 s (headSt s0 ts sl ss) := fun a w ⟨blk, val, hh⟩ => ⟨_, _, hold_headW hO h1 h2 h3 h4 h5 h6 hh⟩


theorem msOk_spec {ts : List Nat} {ss : List (Nat × Site)} : ∀ {ms : List Nat}, msOk ts ss ms = true → ∀ k, memN k ms = true → memN k ts = false → ∃ x, lookN k ss = some x
  | [], _, k, h, _ => by cases h
  | m :: ms, h, k, hk, ht => by
    simp only [msOk, Bool.and_eq_true] at h
    simp only [memN, Bool.or_eq_true] at hk
    rcases hk with hk | hk
    · have := Nat.eq_of_beq_eq_true hk
      subst this
      rw [ht, Bool.false_or] at h
      exact Option.isSome_iff_exists.1 h.1
    · exact msOk_spec h.2 k hk ht
theorem slOk_spec {ts : List Nat} {ss : List (Nat × Site)} : ∀ {sl : List (Nat × T)}, slOk ts ss sl = true → ∀ p ∈ sl, ∀ k, (p.2 = .rs k ∨ ∃ o, p.2 = .ref k o) → memN k ts = true → ∃ x, lookN k ss = some x
  | [], _, p, h => by cases h
  | (j, x) :: sl, h, p, hp => by
    simp only [slOk, Bool.and_eq_true] at h
    intro k hk ht
    rcases List.mem_cons.1 hp with rfl | hp
    · rcases hk with e | ⟨o, e⟩
      · simp only at e; subst e
        simp only [ht, Bool.not_true, Bool.false_or] at h
        exact Option.isSome_iff_exists.1 h.1
      · simp only at e; subst e
        simp only [ht, Bool.not_true, Bool.false_or] at h
        exact Option.isSome_iff_exists.1 h.1
    · exact slOk_spec h.2 p hp k hk ht
theorem le_head {ts ms : List Nat} {s s0 : St} {sl : List (Nat × T)} {ss : List (Nat × Site)} (hO : Out ts ms s s0) (h1 : AllT s sl) (h2 : AllS s ss) (h3 : msOk ts ss ms = true) (h4 : slOk ts ss sl = true) (h5 : ssOk ts ss ss = true) (h6 : ts.all (fun t => Nat.blt t s.n) = true) : Le w0 s (headSt s0 ts sl ss) :=
  le_headW hO h1.mem h2.mem (msOk_spec h3) (slOk_spec h4) h5 h6
/-- A loop by what its head names. -/
theorem awp_loopH {c : Code} {R : Exit → St → Prop} {st : St} {α : Type} (ts ms : List Nat) (sl : α → List (Nat × T)) (ss : α → List (Nat × Site)) (I : α → Prop) (μ : α → Nat) (x0 : α) (h0 : I x0)
    (hs : Le w0 st (headSt st ts (sl x0) (ss x0)))
    (hr : ∀ x, I x → Awp P w0 c (thenR (fun st' => ∃ x', I x' ∧ μ x' < μ x ∧ Le w0 st' (headSt st ts (sl x') (ss x'))) R) (headSt st ts (sl x) (ss x))) : Awp P w0 (.loop c) R st := by
  have key : ∀ (m : Nat) (x : α), μ x = m → I x → ∀ a w, Holds w0 (headSt st ts (sl x) (ss x)) a w → ∀ (b : Frame) (k : List Item) (cs : List Frame),
      ∃ e a' w', Post w0 R e a' w' ∧ Arrives P (lone (b.at a (.code c :: .inLoop c :: k)) cs w) b k cs e a' w' := by
    intro m
    induction m using Nat.strongRecOn with
    | _ m ih =>
      intro x hx hI a w hH b k cs
      obtain ⟨e, a1, w1, ⟨st', hR, hH'⟩, harr⟩ := hr x hI a w hH b (.inLoop c :: k) cs
      cases e with
      | normal =>
        obtain ⟨x', hI', hlt, hle⟩ := hR
        obtain ⟨e2, a2, w2, hq, harr2⟩ := ih (μ x') (by omega) x' rfl hI' a1 w1 (hle a1 w1 hH') b k cs
        exact ⟨e2, a2, w2, hq, .of_steps (Steps.trans harr (.one step_inLoop)) harr2⟩
      | exit id => exact ⟨_, a1, w1, ⟨st', hR, hH'⟩, .pass (x := .inLoop c) rfl (fun _ _ => .inl (by simp)) harr⟩
      | goto l => exact ⟨_, a1, w1, ⟨st', hR, hH'⟩, .pass (x := .inLoop c) rfl (fun _ _ => .inl (by simp)) harr⟩
      | ret => exact ⟨_, a1, w1, ⟨st', hR, hH'⟩, .pass (x := .inLoop c) rfl (fun _ _ => .inl (by simp)) harr⟩
      | panic ch => exact ⟨_, a1, w1, ⟨st', hR, hH'⟩, .pass (x := .inLoop c) rfl (fun _ _ => .inl (by simp)) harr⟩
      | outgrown => exact ⟨_, a1, w1, ⟨st', hR, hH'⟩, .pass (x := .inLoop c) rfl (fun _ _ => .inl (by simp)) harr⟩
  intro a w hH b k cs
  obtain ⟨e, a', w', hq, harr⟩ := key _ x0 rfl h0 a w (hs a w hH) b k cs
  exact ⟨e, a', w', hq, .of_steps (.one step_loop) harr⟩
end
end Go.Proofs.Ytgdcidbpadhkpaa.Am
