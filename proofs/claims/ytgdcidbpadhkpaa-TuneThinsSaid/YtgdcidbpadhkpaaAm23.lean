/- The abstract machine, part 23: what a loop's head may forget, more. Conditions: none. -/
import Derived.Test.YtgdcidbpadhkpaaAm22
set_option linter.unusedVariables false
set_option linter.unusedSimpArgs false
namespace Go.Proofs.Ytgdcidbpadhkpaa.Am
open Go

theorem Out.killS {ts ms : List Nat} {s s0 : St} {k : Nat} (hO : Out ts ms s s0) (h : memN k ts = true) : Out ts ms (s.killS k) s0 := by
  have hk : ∀ ks : List Nat, (∀ j, memN j ks = true → memN j ts = true) → ∀ j, memN j (ks ++ [k]) = true → memN j ts = true := fun ks hks j hj => by
    rw [memN_app, Bool.or_eq_true] at hj
    rcases hj with hj | hj
    · exact hks j hj
    · simp only [memN, Bool.or_false] at hj
      rw [Nat.eq_of_beq_eq_true hj]; exact h
  refine ⟨hO.n, fun t ht => ?_, fun t ht hm => ?_⟩
  · obtain ⟨ks, hks, e⟩ := hO.t t ht
    exact ⟨ks ++ [k], hk ks hks, by simp only [St.killS]; rw [e, killT_app]⟩
  · obtain ⟨ks, hks, e⟩ := hO.s t ht hm
    exact ⟨ks ++ [k], hk ks hks, by simp only [St.killS]; rw [e, killSite_app]⟩
section
variable {P : Program} {w0 : Cx} {n : Nat} {s : Nat → Site} {ev : Operand → T} {dst : Option Tmp} {ty : TypeId} {pos : String} {after : Array Edge} {g : Option (Nat × Bool)}
theorem q_assign_nil : QOp P w0 n s ev ⟨dst, .assign (.const (.slice none 0 0)), ty, pos, after, g⟩ (.d (.v (.slice none 0 0))) :=
  .mk fun a w ok blk val h _ hnew => ⟨.slice none 0 0, w, by simp [execOp, Act.eval], Ext.refl w, .v _ rfl⟩
end
end Go.Proofs.Ytgdcidbpadhkpaa.Am
