/- The abstract machine, part 12: small helpers; slices that are made and appended to. Conditions: none. -/
import Derived.Test.YtgdcidbpadhkpaaAm11
set_option linter.unusedVariables false
set_option linter.unusedSimpArgs false
namespace Go.Proofs.Ytgdcidbpadhkpaa.Am
open Go

theorem In64.mk {n : Int} (h1 : -9223372036854775808 ≤ n) (h2 : n ≤ 9223372036854775807) : In64 n := ⟨h1, h2⟩
theorem T.bool_inj {a b : Bool} (h : T.bool a = T.bool b) : a = b := by simpa [T.bool] using h
theorem map_at {α : Type} {f : α → List D} {l : List α} {k : Nat} {i : Int} {a : α} (hi : i = (k : Int)) (h : l[k]? = some a) : (l.map f)[i.toNat]? = some (f a) := by
  subst hi; simp [h]
theorem map_slice {α : Type} (f : α → List D) (l : List α) (lo hi : Nat) : ((l.map f).take hi).drop lo = ((l.take hi).drop lo).map f := by
  rw [List.map_drop, List.map_take]
theorem len_map {α : Type} (f : α → List D) (l : List α) : (l.map f).length = l.length := List.length_map _
theorem bif_and (a b : Bool) : (bif a then b else false) = (a && b) := by cases a <;> rfl
theorem bif_or (a b : Bool) : (bif a then true else b) = (a || b) := by cases a <;> rfl

section
variable {P : Program} {w0 : Cx} {n : Nat} {s : Nat → Site} {ev : Operand → T} {dst : Option Tmp} {ty : TypeId} {pos : String} {after : Array Edge} {g : Option (Nat × Bool)} {ops : List Oper} {rest : List Oper} {R : Exit → St → Prop} {st : St}

theorem awp_len {c : Code} {t sz : Nat} {es : List (List D)} (h : st.t t = .d (.sl sz es)) (hk : es.length ≤ 9223372036854775807 → Awp P w0 c R st) : Awp P w0 c R st := by
  intro a w hH
  refine hk ?_ a w hH
  obtain ⟨blk, val, hh⟩ := hH
  have h1 := hh.tmp t
  rw [h] at h1
  obtain ⟨A, cap, _, hn, hcap, _⟩ := sl_inv (show Rep w _ (.sl sz es) _ from h1)
  unfold maxLen at hcap
  omega
/-- A nil slice becomes a row of the call's own. -/
theorem le_own {k e sz : Nat} (ht : st.t k = .d (.v (.slice none 0 0))) (hs : st.s k = .no) : Le w0 st ((st.site k (.row e sz [])).put (some k) (.rs k)) := by
  intro a w ⟨blk, val, hh⟩
  have hbk : blk k = none := by have := hh.site k; rw [hs] at this; exact this
  have hv : a.tmps.getD k undef = .slice none 0 0 := by have := hh.tmp k; rw [ht] at this; exact Rep.v_eq this
  have hno : ∀ j, st.s j ≠ .no → Nat.beq j k = false := fun j hj => by rw [← Bool.not_eq_true]; intro e; rw [Nat.eq_of_beq_eq_true e] at hj; exact hj hs
  have hrel : ∀ j, st.s j ≠ .no → blk j = blk j ∧ (bif Nat.beq j k then .slice none 0 0 else val j) = val j ∧ (st.s j ≠ .no → (st.site k (.row e sz [])).s j ≠ .no) ∧ ((∃ e sz es, st.s j = .row e sz es) → ∃ e' sz' es', (st.site k (.row e sz [])).s j = .row e' sz' es') := fun j hj => by
    simp only [St.site, hno j hj, cond_false]
    exact ⟨trivial, trivial, id, id⟩
  have live : ∀ y v, RepT w (okOf w0 blk) blk val st.s y v → ∀ j, (y = .rs j ∨ ∃ o, y = .ref j o) → st.s j ≠ .no := fun y v hy j hj => by
    rcases hj with rfl | ⟨o, rfl⟩
    · obtain ⟨⟨e, sz, es, q⟩, _⟩ := hy; rw [q]; simp
    · exact hy.1
  refine ⟨blk, fun j => bif Nat.beq j k then .slice none 0 0 else val j, hh.ext, hh.defers, hh.size, hh.new, hh.inj, fun j b hj => ?_, fun j => ?_, fun t => ?_⟩
  · obtain ⟨q1, q2, q3⟩ := hh.pin j b hj
    have : st.s j ≠ .no := fun e => by rw [e] at q2; cases q2
    refine ⟨q1, ?_, q3⟩
    show ((st.site k (.row e sz [])).s j).isVar = true
    simp only [St.site, hno j this, cond_false]; exact q2
  · show SiteIn _ _ _ _ (st.site k (.row e sz [])).s _ _ ((st.site k (.row e sz [])).s j)
    cases hjk : Nat.beq j k
    · simp only [St.site, hjk, cond_false]
      refine (hh.site j).to (fun _ _ h => h) (.inl rfl) fun cs hcs y hy i hi => ?_
      have h0 := hh.site j
      rw [hcs] at h0
      obtain ⟨_, _, _, _, _, _, h5⟩ := h0
      obtain ⟨q, hq⟩ := List.getElem?_of_mem hy
      obtain ⟨v, _, _, hr⟩ := h5 q y hq
      exact hrel i (live y v hr i hi)
    · simp only [St.site, hjk, cond_true]
      rw [Nat.eq_of_beq_eq_true hjk, hbk]
      exact ⟨fun i x h => by simp at h, fun i x j d h => by simp at h, .inl ⟨rfl, rfl, rfl⟩⟩
  · show RepT _ _ _ _ (st.site k (.row e sz [])).s (bif Nat.beq t k then .rs k else st.t t) _
    cases htk : Nat.beq t k
    · simp only [cond_false]
      exact (hh.tmp t).to (fun _ _ h => h) fun j hj => hrel j (live _ _ (hh.tmp t) j hj)
    · simp only [cond_true]
      rw [Nat.eq_of_beq_eq_true htk, hv]
      exact ⟨⟨e, sz, [], by simp [St.site]⟩, by simp⟩
end
end Go.Proofs.Ytgdcidbpadhkpaa.Am
