/- The abstract machine, part 55: a call that yields a number and an error, borne by any site. Conditions: none. -/
import Derived.Test.YtcdccdcbfbakfaaGreatDoorAmF
set_option linter.unusedVariables false
set_option linter.unusedSimpArgs false
namespace Go.Proofs.YtcdccdcbfbakfaaGreatDoor.Am
open Go Go.RowKit
section
variable {P : Program} {w0 : Cx} {ops rest : List Oper} {R : Exit → St → Prop} {st : St} {ty : TypeId} {pos : String} {after : Array Edge}
theorem aops_callQN {G : World → Prop} {Q : Value → Prop} {d k : Nat} {f : FuncId} {ys : List Operand} {at_ : Array TypeId} {ds : List D} (he : enB P f = true) (hG : ∀ w, ExtM w0 w → G w) (hr : PCQ P G f ds Q) (ha : ArgsD st.ev ys ds) (hk : (match st.s k with | .no => false | _ => true) = true) (hd : Nat.blt d st.n = true)
    (h : Aops P w0 ops rest R (st.put (some d) (.own k ⟨false, false⟩ [] (fun _ _ _ v => Q v)))) : Aops P w0 ops (⟨some d, .call ⟨.value (.func f), ys.toArray, at_⟩, ty, pos, after, none⟩ :: rest) R st := by
  rw [Nat.blt_eq] at hd
  refine aops_step (K := fun s => s = st.put (some d) (.own k ⟨false, false⟩ [] (fun _ _ _ v => Q v))) rfl (fun a w ⟨blk, val, hh⟩ => ?_) (fun _ e => e ▸ h)
  have hargs := args_rep (fun y => hh.ev y) ha
  refine ow_of_wp (fun c hc => by cases hc) ?_
  unfold Oper.wp
  rw [run_callValue (f := f) (cap := #[]) rfl rfl he]
  have hc := hr w (okOf w0 blk) (ys.map a.eval) (hG w hh.ext) hargs
  have harr : ((ys.map a.eval).toArray : Array Value) = ys.toArray.map a.eval ++ #[] := by simp
  rw [harr] at hc
  refine hc.mono ?_
  rintro e w' ⟨v, rfl, hQ, hE⟩
  refine ⟨_, rfl, blk, val, (hh.ext' hE).put (some d) _ v (fun j h => by cases h; exact hd) ?_⟩
  exact ⟨⟨⟨(fun e => by rw [e] at hk; cases hk), fun q => by cases q⟩, fun q => by cases q⟩, [], trivial, hQ⟩
end
end Go.Proofs.YtcdccdcbfbakfaaGreatDoor.Am
