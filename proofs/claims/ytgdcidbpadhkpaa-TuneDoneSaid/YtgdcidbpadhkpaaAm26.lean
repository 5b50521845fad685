/- The abstract machine, part 26: a call that hands back a row of its own, in a chain. Conditions: none. -/
import Derived.Test.YtgdcidbpadhkpaaAmC
set_option linter.unusedVariables false
set_option linter.unusedSimpArgs false
namespace Go.Proofs.Ytgdcidbpadhkpaa.Am
open Go

section
variable {P : Program} {w0 : Cx}
theorem AsD.live {s : Nat → Site} {x x' : T} {d : D} (h : AsD s x d) (hx : x = .dead ∨ x' = x) : AsD s x' d := by
  rcases hx with rfl | rfl
  · cases h
  · exact h
theorem Args.live {ev ev' : Operand → T} {s : Nat → Site} {ys : List Operand} {ds : List D} (h : Args ev s ys ds) (hx : ∀ y, ev y = .dead ∨ ev' y = ev y) : Args ev' s ys ds := by
  induction h with
  | nil => exact .nil
  | cons h _ ih => exact .cons (h.live (hx _)) ih
theorem c_callN {s : St} {ev : Operand → T} {ty : TypeId} {pos : String} {after : Array Edge} {d e sz : Nat} {es : List (List D)} {f : FuncId} {ys : List Operand} {at_ : Array TypeId} {ds : List D} {args : List T}
    (he : enB P f = true) (hr : PCS P f args [] (.rs 0) [.row e sz es]) (hargs : ds.map T.d = args) (ha : Args ev s.s ys ds) (hs : s.s d = .no) (hf : FlatS (.row e sz es)) :
    COp P w0 s ev ⟨some d, .call ⟨.value (.func f), ys.toArray, at_⟩, ty, pos, after, none⟩ (.set d (.row e sz es) (some d) (.rs d)) :=
  fun st hk hn hev hd => step_of_aops rfl fun ops rest R h => by
    refine aops_callN [d] he hr hargs (by rw [hk]; exact ha.live hev) rfl (fun i hi => ?_) (by simp only; rw [Nat.blt_eq, hn]; exact hd d rfl) (fun x hx => by rcases List.mem_singleton.1 hx with rfl; exact hf) trivial ?_
    · have : i = 0 := by simpa using hi
      subst this
      rw [hk]; exact hs
    · have e1 : afterS st [d] [] [.row e sz es] = st.site d (.row e sz es) := by
        simp only [afterS, St.site, St.mk.injEq, true_and]
        refine ⟨funext fun t => killT_nil _, funext fun j => ?_⟩
        by_cases hj : j = d
        · subst hj; simp [idxN, getS, shiftS]
        · have : Nat.beq j d = false := by rw [← Bool.not_eq_true]; exact fun e => hj (Nat.eq_of_beq_eq_true e)
          simp [idxN, this, killSite_nil]
      rw [e1]
      exact h
theorem Out.effGrow {ts ms : List Nat} {s s0 : St} {k d : Nat} {z : Site} (hO : Out ts ms s s0) (h : (memN k ts && memN d ts) = true) : Out ts ms (Eff.app (.grow k d z) s) s0 := by
  rw [Bool.and_eq_true] at h
  exact Out.put (Out.site (Out.killS hO h.1) (by rw [h.1]; rfl)) h.2
theorem Out.effSet {ts ms : List Nat} {s s0 : St} {k d : Nat} {z : Site} {x : T} (hO : Out ts ms s s0) (h : ((memN k ts || memN k ms) && memN d ts) = true) : Out ts ms (Eff.app (.set k z (some d) x) s) s0 := by
  rw [Bool.and_eq_true] at h
  exact Out.put (Out.site hO h.1) h.2
theorem Out.effSetN {ts ms : List Nat} {s s0 : St} {k : Nat} {z : Site} {x : T} (hO : Out ts ms s s0) (h : (memN k ts || memN k ms) = true) : Out ts ms (Eff.app (.set k z none x) s) s0 :=
  Out.putn (x := x) (Out.site hO h)
theorem Out.effPut {ts ms : List Nat} {s s0 : St} {d : Nat} {x : T} (hO : Out ts ms s s0) (h : memN d ts = true) : Out ts ms (Eff.app (.put (some d) x) s) s0 := Out.put hO h
theorem Out.effPutN {ts ms : List Nat} {s s0 : St} {x : T} (hO : Out ts ms s s0) : Out ts ms (Eff.app (.put none x) s) s0 := Out.putn (x := x) hO
end
end Go.Proofs.Ytgdcidbpadhkpaa.Am
