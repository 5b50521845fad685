/- The abstract machine, part 17: forms that a printer fills. Conditions: none. -/
import Derived.Test.YtgdcidbpadhkpaaAm16
set_option linter.unusedVariables false
set_option linter.unusedSimpArgs false
namespace Go.Proofs.Ytgdcidbpadhkpaa.Am
open Go

section
variable {P : Program} {w0 : Cx} {ops : List Oper} {rest : List Oper} {R : Exit → St → Prop} {st : St} {ty : TypeId} {pos : String} {after : Array Edge}
theorem aops_le {s' : St} (hl : Le w0 st s') (h : Aops P w0 ops rest R s') : Aops P w0 ops rest R st := fun a w hH => h a w (hl a w hH)
def holdS (st : St) (f : Nat → Nat) : List Nat → List Site → Prop
  | _, [] => True
  | [], _ :: _ => False
  | k :: ks, x :: xs => st.s k = shiftS f x ∧ holdS st f ks xs
def newS (st : St) : List Nat → List Site → List Site → Prop
  | _, _, [] => True
  | [], _, _ :: _ => True
  | _ :: ks, _ :: xs, _ :: ys => newS st ks xs ys
  | k :: ks, [], _ :: ys => st.s k = .no ∧ newS st ks [] ys
theorem holdS.spec {f : Nat → Nat} : ∀ {ks : List Nat} {ss : List Site}, holdS st f ks ss → ∀ i, i < ss.length → st.s (nth ks i) = shiftS f (getS ss i)
  | _, [], _, i, hi => by simp at hi
  | [], _ :: _, h, _, _ => h.elim
  | k :: ks, x :: xs, h, 0, _ => h.1
  | k :: ks, x :: xs, h, i + 1, hi => holdS.spec h.2 i (by simpa using hi)
theorem newS.spec : ∀ {ks : List Nat} {ss ss' : List Site}, ks.length = ss'.length → newS st ks ss ss' → ∀ i, ss.length ≤ i → i < ss'.length → st.s (nth ks i) = .no
  | _, _, [], _, _, i, _, hi => by simp at hi
  | [], _, _ :: _, hl, _, _, _, _ => by simp at hl
  | _ :: ks, _ :: xs, _ :: ys, hl, h, i, h1, h2 => by
    cases i with
    | zero => simp at h1
    | succ i => exact newS.spec (ks := ks) (ss := xs) (ss' := ys) (by simpa using hl) h i (by simpa using h1) (by simpa using h2)
  | k :: ks, [], _ :: ys, hl, h, i, h1, h2 => by
    cases i with
    | zero => exact h.1
    | succ i => exact newS.spec (ks := ks) (ss := []) (ss' := ys) (by simpa using hl) h.2 i (by simp) (by simpa using h2)
theorem aops_callL {dst : Option Tmp} {f : FuncId} {ys : List Operand} {at_ : Array TypeId} {args : List T} {ss ss' : List Site} {r : T} (ks rows : List Nat)
    (he : enB P f = true) (hr : PCS P f args ss r ss') (ha : ArgsS st.ev (nth ks) ys args) (hc : callOk ks args ss r ss' = true) (hkd : kindOk ss ss' = true) (hrows : rowsOf ks ss 0 = rows)
    (hold : holdS st (nth ks) ks ss) (hnew : newS st ks ss ss') (hd : (match dst with | none => true | some d => Nat.blt d st.n) = true)
    (h : Aops P w0 ops rest R ((afterS st ks rows ss').put dst (shiftT (nth ks) r))) : Aops P w0 ops (⟨dst, .call ⟨.value (.func f), ys.toArray, at_⟩, ty, pos, after, none⟩ :: rest) R st :=
  aops_callS ks rows he hr ha hc hkd hrows hold.spec (hnew.spec (by simp only [callOk, Bool.and_eq_true] at hc; exact Nat.eq_of_beq_eq_true hc.1.1.1.1.1.2)) hd h
theorem end_mk {n : Nat} {rs : List ResultVar} {m : Nat} {r : T} {ss' : List Site} {e : Exit} (he : e = .ret ∨ e = .normal) (ns : List Nat) (hr : RetS st rs (nth ns) r) (hs : holdS st (nth ns) ns ss')
    (hc : (Nat.beq ns.length ss'.length && nodupN ns && firstN n 0 m ns && belowT ss'.length r && ss'.all (belowS ss'.length)) = true) : endS n rs m r ss' e st := by
  simp only [Bool.and_eq_true] at hc
  obtain ⟨⟨⟨⟨h1, h2⟩, h3⟩, h4⟩, h5⟩ := hc
  have : ∃ ns : List Nat, RetS st rs (nth ns) r ∧ SitesAt st ns ss' ∧ ns.length = ss'.length ∧ nodupN ns = true ∧ firstN n 0 m ns = true ∧ belowT ss'.length r = true ∧ ss'.all (belowS ss'.length) = true :=
    ⟨ns, hr, hs.spec, Nat.eq_of_beq_eq_true h1, h2, h3, h4, h5⟩
  rcases he with rfl | rfl <;> exact this
end
end Go.Proofs.Ytgdcidbpadhkpaa.Am
