/- The abstract machine, part 9: the steps of a region's proof. Conditions: none. -/
import Derived.Test.YtgdcidbpadhkpaaAm8
set_option linter.unusedVariables false
set_option linter.unusedSimpArgs false
namespace Go.Proofs.Ytgdcidbpadhkpaa.Am
open Go

section
variable {P : Program} {w0 : Cx} {st st' : St} {l os : List Oper} {n i : Nat} {e : Nat → T} {K : St → Prop} {dst : Option Tmp} {op : Op} {ty : TypeId} {pos : String} {after : Array Edge}

theorem rg_nil (h : K st') : RegW P w0 st l n [] i e st' K := h
theorem rg_q {x : T} (hq : QOp P w0 st.n st.s (evAt st l n e i ⟨dst, op, ty, pos, after, none⟩ []) ⟨dst, op, ty, pos, after, none⟩ x) (h : RegW P w0 st l n os (i + 1) (upd e i x) (st'.put dst x) K) :
    RegW P w0 st l n (⟨dst, op, ty, pos, after, none⟩ :: os) i e st' K :=
  ⟨x, (fun j b h => by cases h), fun _ => .inl hq, h⟩
theorem rg_g {j : Nat} {b c : Bool} {x : T} {gs : List (Nat × Bool)} (hg : guardsOf l i = gs) (hc : e j = T.bool c) (hq : GH e gs → QOp P w0 st.n st.s (evAt st l n e i ⟨dst, op, ty, pos, after, some (j, b)⟩ gs) ⟨dst, op, ty, pos, after, some (j, b)⟩ x)
    (h : RegW P w0 st l n os (i + 1) (upd e i x) (st'.put dst .dead) K) : RegW P w0 st l n (⟨dst, op, ty, pos, after, some (j, b)⟩ :: os) i e st' K :=
  ⟨x, (fun j' b' h => by cases h; exact ⟨c, hc⟩), (fun hG => .inl (by subst hg; exact hq hG)), h⟩
theorem rg_pick {tc jc : Nat} {a b : Operand} {cb p q : Bool} (hp : prodIdx l n tc = some jc) (ha : afterB ⟨dst, .pick (.tmp tc) a b, ty, pos, after, none⟩ jc = true) (hx : e jc = T.bool cb)
    (hc : evAt st l n e i ⟨dst, .pick (.tmp tc) a b, ty, pos, after, none⟩ [] (.tmp tc) = T.bool cb)
    (h1 : evAt st l n e i ⟨dst, .pick (.tmp tc) a b, ty, pos, after, none⟩ [(jc, true)] a = T.bool p)
    (h2 : evAt st l n e i ⟨dst, .pick (.tmp tc) a b, ty, pos, after, none⟩ [(jc, false)] b = T.bool q)
    (h : RegW P w0 st l n os (i + 1) (upd e i (T.bool (bif cb then p else q))) (st'.put dst (T.bool (bif cb then p else q))) K) : RegW P w0 st l n (⟨dst, .pick (.tmp tc) a b, ty, pos, after, none⟩ :: os) i e st' K :=
  ⟨_, (fun j b h => by cases h), fun _ => .inr ⟨tc, a, b, jc, cb, p, q, rfl, hp, ha, hx, hc, h1, h2, rfl⟩, h⟩
theorem rg_pickg {tc jc j : Nat} {g : Bool} {a b : Operand} {cb p q c : Bool} {gs : List (Nat × Bool)} (hg : guardsOf l i = gs) (hcj : e j = T.bool c) (hp : prodIdx l n tc = some jc) (ha : afterB ⟨dst, .pick (.tmp tc) a b, ty, pos, after, some (j, g)⟩ jc = true) (hx : e jc = T.bool cb)
    (hc : evAt st l n e i ⟨dst, .pick (.tmp tc) a b, ty, pos, after, some (j, g)⟩ gs (.tmp tc) = T.bool cb)
    (h1 : evAt st l n e i ⟨dst, .pick (.tmp tc) a b, ty, pos, after, some (j, g)⟩ ((jc, true) :: gs) a = T.bool p)
    (h2 : evAt st l n e i ⟨dst, .pick (.tmp tc) a b, ty, pos, after, some (j, g)⟩ ((jc, false) :: gs) b = T.bool q)
    (h : RegW P w0 st l n os (i + 1) (upd e i (T.bool (bif cb then p else q))) (st'.put dst .dead) K) : RegW P w0 st l n (⟨dst, .pick (.tmp tc) a b, ty, pos, after, some (j, g)⟩ :: os) i e st' K :=
  ⟨_, (fun j' b' h => by cases h; exact ⟨c, hcj⟩), fun _ => .inr ⟨tc, a, b, jc, cb, p, q, rfl, hp, ha, hx, by subst hg; exact hc, by subst hg; exact h1, by subst hg; exact h2, rfl⟩, h⟩
end
end Go.Proofs.Ytgdcidbpadhkpaa.Am
