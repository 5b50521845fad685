/- The abstract machine, part 53: a copy of a temporary, told ahead of its place in a drawn region. Conditions: none. -/
import Derived.Test.YtamaocfjknpadaaGreatAmF
set_option linter.unusedVariables false
set_option linter.unusedSimpArgs false
namespace Go.Proofs.YtamaocfjknpadaaGreat.Am
open Go Go.RowKit
section
variable {P : Program} {w0 : Cx}
def earlyOkM (l : List Oper) (i d q p : Nat) (o : Oper) : Bool :=
  (o.after.toList.all fun e => !Region.binds .any e || decide (e.on < p)) &&
  (Nat.beq p i || ((!(o.looksAt l.toArray).contains d || afterB o i) && (o.dst != some d) && (o.dst != some q || afterB o i) && (match o.guard with | some (g, _) => !Nat.beq g i | none => true) && !isSD o.op))
def earlyBM (l : List Oper) (i d q : Nat) : Bool := (List.range l.length).all fun p => match l[p]? with
  | none => false
  | some o => earlyOkM l i d q p o
theorem early_atM {l : List Oper} {i d q p : Nat} {o : Oper} (h : earlyBM l i d q = true) (ho : l[p]? = some o) : earlyOkM l i d q p o = true := by
  have := List.all_eq_true.1 h p (List.mem_range.2 (List.getElem?_eq_some_iff.1 ho).1)
  rw [ho] at this; exact this
theorem early_anyM {F : Fence} {m : Nat} (hF : FOk F) {l : List Oper} {i d q : Nat} {ty : TypeId} {pos : String} {aft : Array Edge} {v : Value} {Q Q' : Exit → Act → World → Prop}
    (hi : l[i]? = some ⟨some d, .move (.tmp q), ty, pos, aft, none⟩) (hb : earlyBM l i d q = true) (hdq : d ≠ q) (hQ' : ∀ e a w, Q' e a w → e = .normal) (hQ : ∀ a w, Q' .normal a w → Q .normal a w) :
    ∀ (fuel : Nat) (listed : Array Bool) (a : Act) (w : World) (u : Value), listed.size = l.length → a.tmps[d]? = some v → (listed.getD i false = false → a.eval (.tmp q) = v) →
      wpAnyIn F m P .any (l.set i ⟨none, .move (.const (.bool true)), ty, pos, aft, none⟩).toArray Q' fuel listed a w →
      wpAnyIn F m P .any l.toArray Q fuel listed (a.put (if listed.getD i false = true then none else some d) u) w := by
  have hil : i < l.length := (List.getElem?_eq_some_iff.1 hi).1
  have hset : ∀ p, p ≠ i → (l.set i ⟨none, .move (.const (.bool true)), ty, pos, aft, none⟩)[p]? = l[p]? := fun p hp => by rw [List.getElem?_set, if_neg (Ne.symm hp)]
  have hseti : (l.set i ⟨none, .move (.const (.bool true)), ty, pos, aft, none⟩)[i]? = some ⟨none, .move (.const (.bool true)), ty, pos, aft, none⟩ := by rw [List.getElem?_set, if_pos rfl, if_pos hil]
  have hready : ∀ (listed : Array Bool) (j : Nat), j ∈ Region.ready .any (l.set i ⟨none, .move (.const (.bool true)), ty, pos, aft, none⟩).toArray listed ↔ j ∈ Region.ready .any l.toArray listed := by
    intro listed j
    rw [mem_ready, mem_ready]
    simp only [List.getElem?_toArray]
    by_cases hj : j = i
    · subst hj
      rw [hseti, hi]
      constructor <;> (rintro ⟨h1, o, ho, h2⟩; cases ho; exact ⟨h1, _, rfl, h2⟩)
    · rw [hset j hj]
  have some_ready : ∀ (listed : Array Bool), listed.size = l.length → listed.getD i false = false → Region.ready .any l.toArray listed ≠ [] := by
    intro listed hsz hli he
    have hc : 0 < cntU listed l.length := by
      rcases Nat.eq_zero_or_pos (cntU listed l.length) with h | h
      · have := cntU_zero h i hil; rw [hli] at this; cases this
      · exact h
    obtain ⟨j, hj, hju, hall⟩ := cntU_some hc
    have : j ∈ Region.ready .any l.toArray listed := mem_ready.2 ⟨getD_in (by rw [hsz]; exact hj) hju, l[j], by simp [hj], fun e he hbd => by
      have h1 := early_atM hb (List.getElem?_eq_getElem hj)
      simp only [earlyOkM, Bool.and_eq_true] at h1
      have h2 := List.all_eq_true.1 h1.1 e (by simpa using he)
      have h3 : e.on < j := by simpa [hbd] using h2
      exact hall _ h3⟩
    rw [he] at this; cases this
  have atend : ∀ (listed : Array Bool) (a : Act) (w : World) (u : Value), listed.size = l.length → Region.ready .any l.toArray listed = [] → Q' .normal a w → Q .normal (a.put (if listed.getD i false = true then none else some d) u) w := by
    intro listed a w u hsz he hq
    cases hli : listed.getD i false with
    | true => rw [if_pos rfl]; exact hQ a w hq
    | false => exact absurd he (some_ready listed hsz hli)
  intro fuel
  induction fuel with
  | zero =>
    rintro listed a w u hsz hv hq ⟨h1, h2⟩
    have he : Region.ready .any l.toArray listed = [] := List.eq_nil_iff_forall_not_mem.2 fun j hj => by
      have := (hready listed j).2 hj; rw [h1] at this; cases this
    exact ⟨he, atend listed a w u hsz he h2⟩
  | succ fuel ih =>
    rintro listed a w u hsz hv hq ⟨h1, h2⟩
    refine ⟨fun he => atend listed a w u hsz he (h1 (List.eq_nil_iff_forall_not_mem.2 fun j hj => by
      have := (hready listed j).1 hj; rw [he] at this; cases this)), fun j hj => ?_⟩
    have h3 := h2 j ((hready listed j).2 hj)
    obtain ⟨hju, o, hoj, hja⟩ := mem_ready.1 hj
    have ho : l[j]? = some o := by simpa using hoj
    have hjl : j < l.length := (List.getElem?_eq_some_iff.1 ho).1
    have hds : d < a.tmps.size := by
      rcases Nat.lt_or_ge d a.tmps.size with h | h
      · exact h
      · rw [Array.getElem?_eq_none h] at hv; cases hv
    unfold wpOpIn at h3 ⊢
    by_cases hji : j = i
    · subst hji
      have hli : listed.getD j false = false := getD_both hju
      rw [List.getElem?_toArray, hseti] at h3
      rw [List.getElem?_toArray, hi]
      simp only [Region.wanted, if_true, hli, Bool.false_eq_true, if_false] at h3 ⊢
      have h4 : wpAnyIn F m P .any (l.set j ⟨none, .move (.const (.bool true)), ty, pos, aft, none⟩).toArray Q' fuel (listed.setIfInBounds j true) a w := by
        have := h3.2
        rw [Oper.semAt_eq _ _ _ (fun c hc => by cases hc)] at this
        exact this
      have h5 := ih (listed.setIfInBounds j true) a w u (by simpa using hsz) hv (fun e => by rw [show (listed.setIfInBounds j true).getD j false = true by simp [hsz, hjl]] at e; cases e) h4
      rw [show (listed.setIfInBounds j true).getD j false = true by simp [hsz, hjl], if_pos rfl] at h5
      refine ⟨fun f _ => hF.fn f, ?_⟩
      rw [Oper.semAt_eq _ _ _ (fun c hc => by cases hc)]
      have hev : (a.put (some d) u).eval (.tmp q) = a.eval (.tmp q) := Act.eval_put fun d' e => by cases e; intro h; cases h; exact hdq rfl
      have hrun : (execOp (a.put (some d) u).eval ⟨some d, .move (.tmp q), ty, pos, aft, none⟩).run P w = .ok (.value v) w := by simp [execOp, hev, hq hli]
      rw [hrun]
      show wpAnyIn F m P .any l.toArray Q fuel (listed.setIfInBounds j true) ((a.put (some d) u).put (some d) v) w
      have hback : (a.put (some d) u).put (some d) v = a := by
        have : (a.tmps.setIfInBounds d u).setIfInBounds d v = a.tmps := by
          apply Array.ext_getElem?
          intro k
          by_cases hk : k = d
          · subst hk; rw [hv]; simp [hds]
          · rw [Array.getElem?_setIfInBounds_ne (Ne.symm hk), Array.getElem?_setIfInBounds_ne (Ne.symm hk)]
        cases a
        simp only [Act.put] at this ⊢
        rw [this]
      rw [hback]
      exact h5
    · have hok := early_atM hb ho
      simp only [earlyOkM, Bool.and_eq_true, Bool.or_eq_true] at hok
      obtain ⟨_, hok⟩ := hok
      have hok := hok.resolve_left (fun h => hji (Nat.eq_of_beq_eq_true h))
      obtain ⟨⟨⟨⟨k1, k2⟩, k3⟩, k4⟩, k5⟩ := hok
      have hd1 : o.dst ≠ some d := by simpa using k2
      have hd2 : listed.getD i false = false → o.dst ≠ some q := fun hli => by
        rcases k3 with k3 | k3
        · simpa using k3
        · obtain ⟨ed, hed, hbd, hon⟩ := afterB_spec k3
          have := hja ed hed hbd
          rw [hon, hli] at this; cases this
      have hs : ∀ cs b, o.op ≠ .select cs b := fun cs b e => by rw [e] at k5; cases k5
      have hnd : ∀ c, o.op ≠ .defer c := fun c e => by rw [e] at k5; cases k5
      obtain ⟨x, hx⟩ : ∃ x, x = (if listed.getD i false = true then none else some d : Option Tmp) := ⟨_, rfl⟩
      have hlook : ∀ d', x = some d' → d' ∉ o.looksAt l.toArray := by
        intro d' e
        cases hli : listed.getD i false with
        | true => rw [hx, hli, if_pos rfl] at e; cases e
        | false =>
          rw [hx, hli, if_neg (by simp)] at e
          cases e
          rcases k1 with k1 | k1
          · simpa using k1
          · obtain ⟨ed, hed, hbd, hon⟩ := afterB_spec k1
            have := hja ed hed hbd
            rw [hon, hli] at this; cases this
      have hxd : ∀ d', x = some d' → o.dst ≠ some d' := by
        intro d' e
        cases hli : listed.getD i false with
        | true => rw [hx, hli, if_pos rfl] at e; cases e
        | false => rw [hx, hli, if_neg (by simp)] at e; cases e; exact hd1
      have hli' : (listed.setIfInBounds j true).getD i false = listed.getD i false := getD_set_ne false hji
      have hwant : Region.wanted o (yielded (l.set i ⟨none, .move (.const (.bool true)), ty, pos, aft, none⟩).toArray a.tmps) = Region.wanted o (yielded l.toArray a.tmps) := by
        unfold Region.wanted
        cases hg : o.guard with
        | none => rfl
        | some gw =>
          obtain ⟨g, want⟩ := gw
          rw [hg] at k4
          have hgi : g ≠ i := fun e => by subst e; simp at k4
          simp only [yielded, List.getElem?_toArray, hset g hgi]
      rw [List.getElem?_toArray, hset j hji, ho] at h3
      rw [List.getElem?_toArray, ho]
      simp only at h3 ⊢
      rw [hwant] at h3
      rw [← hx, wanted_put o a x u hlook]
      have next : ∀ (a1 : Act) (v' : Value) (w' : World), a1.tmps = a.tmps → wpAnyIn F m P .any (l.set i ⟨none, .move (.const (.bool true)), ty, pos, aft, none⟩).toArray Q' fuel (listed.setIfInBounds j true) (a1.put o.dst v') w' →
          wpAnyIn F m P .any l.toArray Q fuel (listed.setIfInBounds j true) ((a1.put o.dst v').put x u) w' := by
        intro a1 v' w' ht h
        have hkeep : ∀ k, o.dst ≠ some k → (a1.put o.dst v').tmps[k]? = a.tmps[k]? := fun k hk => by
          cases hod : o.dst with
          | none => show a1.tmps[k]? = _; rw [ht]
          | some e =>
            have hne : e ≠ k := fun q => hk (by rw [hod, q])
            show (a1.tmps.setIfInBounds e v')[k]? = _
            rw [Array.getElem?_setIfInBounds_ne hne, ht]
        have hevq : listed.getD i false = false → (a1.put o.dst v').eval (.tmp q) = a.eval (.tmp q) := fun hli => by
          have := hkeep q (hd2 hli)
          simp only [Act.eval, Array.getD_eq_getD_getElem?, this]
        have := ih (listed.setIfInBounds j true) (a1.put o.dst v') w' u (by simpa using hsz) (by rw [hkeep d hd1]; exact hv) (fun e => by rw [hli'] at e; rw [hevq e]; exact hq e) h
        rw [hli', ← hx] at this
        exact this
      by_cases hw : Region.wanted o (yielded l.toArray a.tmps) = true
      · rw [if_pos hw] at h3 ⊢
        exact op_shift hF hs hnd hlook hxd hQ' h3 next
      · rw [if_neg hw] at h3 ⊢
        refine ⟨fun f _ => hF.fn f, ?_⟩
        rw [Act.put_comm a u undef hxd]
        exact next a undef w rfl h3.2
theorem awp_earlyM {st : St} {l : List Oper} {id i d q : Nat} {x : T} {ty : TypeId} {pos : String} {aft : Array Edge} {R : Exit → St → Prop} (hm : P.follows .mixedOrders = true)
    (hi : l[i]? = some ⟨some d, .move (.tmp q), ty, pos, aft, none⟩) (hb : (earlyBM l i d q && !Nat.beq d q && Nat.blt d st.n) = true) (hq : st.t q = x)
    (h : AnyW P w0 (l.set i ⟨none, .move (.const (.bool true)), ty, pos, aft, none⟩) (fun e s => e = .normal ∧ R e s) (st.put (some d) x)) : Awp P w0 (.region id l.toArray true) R st := by
  simp only [Bool.and_eq_true, Bool.not_eq_true'] at hb
  obtain ⟨⟨hb, hdq⟩, hdn⟩ := hb
  have hdq : d ≠ q := fun e => by subst e; simp at hdq
  rw [Nat.blt_eq] at hdn
  intro F m hF a w hH
  refine wpIn_region_any hm ?_
  obtain ⟨blk, val, hh⟩ := hH.drew
  have h1 := hh.tmp q
  rw [hq] at h1
  obtain ⟨v, hv⟩ : ∃ v, a.tmps.getD q undef = v := ⟨_, rfl⟩
  rw [hv] at h1
  have hds : d < a.tmps.size := by rw [hh.size]; exact hdn
  have hH2 : Holds w0 (st.put (some d) x) (a.put (some d) v) { w with drawn := w.drawn + 1 } := ⟨blk, val, put_hold hh hdn h1⟩
  have h2 := h F m hF _ _ hH2
  have hevq : (a.put (some d) v).eval (.tmp q) = v := by
    rw [Act.eval_put fun d' e => by cases e; intro h; cases h; exact hdq rfl]
    simp only [Act.eval]
    exact hv
  have hsz : (l.set i ⟨none, .move (.const (.bool true)), ty, pos, aft, none⟩).toArray.size = l.length := by simp
  rw [hsz] at h2
  have h3 := early_anyM (v := v) (Q := Post w0 R) (Q' := Post w0 (fun e s => e = .normal ∧ R e s)) hF.1 hi hb hdq (fun e a w h => by obtain ⟨s, h, _⟩ := h; exact h.1) (fun a w h => by obtain ⟨s, h, h'⟩ := h; exact ⟨s, h.2, h'⟩) l.length (Array.replicate l.length false) _ _ (a.tmps.getD d undef) (by simp) (by simp [Act.put, hds]) (fun _ => hevq) h2
  rw [getD_replicate_false, if_neg (by simp)] at h3
  have hback : (a.put (some d) v).put (some d) (a.tmps.getD d undef) = a := by
    have : (a.tmps.setIfInBounds d v).setIfInBounds d (a.tmps.getD d undef) = a.tmps := by
      apply Array.ext_getElem?
      intro k
      by_cases hk : k = d
      · subst hk; simp [hds]
      · rw [Array.getElem?_setIfInBounds_ne (Ne.symm hk), Array.getElem?_setIfInBounds_ne (Ne.symm hk)]
    cases a
    simp only [Act.put] at this ⊢
    rw [this]
  rw [hback] at h3
  simpa using h3
end
end Go.Proofs.YtamaocfjknpadaaGreat.Am
