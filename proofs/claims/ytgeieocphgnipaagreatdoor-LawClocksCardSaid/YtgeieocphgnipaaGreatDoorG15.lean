/- Contracts over the abstract machine: the focus is met: plain laws, LawMeets. Conditions: none. -/
import Derived.Test.YtgeieocphgnipaaGreatDoorG18
import Derived.Test.YtgeieocphgnipaaGreatDoorG14
set_option linter.unusedVariables false
set_option linter.unusedSimpArgs false
-- mini
namespace Go.Proofs.YtgeieocphgnipaaGreatDoor.Am.M
open Go

theorem rnd_nonneg {n b : Int} (hn : 0 ≤ n) (hb : 0 < b) : 0 ≤ rndL n b := by
  unfold rndL
  exact Int.ediv_nonneg (by omega) (by omega)
/-- The law of a focus. -/
def fxL (a : Lar) (p : Int × Int) : Dly := ⟨a.ck, bltL (fcI a p) a.el.length⟩
theorem fx_len (a : Lar) (p : Int × Int) : (fxL a p).tk.length = a.el.length := bltL_len _ _
theorem fcI_nonneg {a : Lar} {p s : Int × Int} {k : Nat} (hc : 1 ≤ a.ck) (h : a.el[k]? = some s) : 0 ≤ fcI a p (k : Int) := by
  rw [fcI_at h]
  exact rnd_nonneg (by have := maxF_ge (List.mem_of_getElem? (fcT_at (p := p) h)); omega) (by omega)
theorem fx_ok {a : Lar} {p : Int × Int} (hla : LarOk a) (hT : ∀ i : Nat, i < a.el.length → fcI a p (i : Int) ≤ 1000000) : (ckLaw (fxL a p)).2 = 0 := by
  have e0 : dlyE0 (fxL a p) = 0 := by
    unfold dlyE0
    rw [fx_len]
    have h1 : clkE (fxL a p).ck = 0 := by unfold clkE; rw [if_pos (by show inR 1 a.ck 1000000 = true; unfold inR; rw [decide_eq_true hla.c1, decide_eq_true hla.c2]; rfl)]
    have h2 : cntE a.el.length = 0 := by unfold cntE; rw [if_neg (by have := hla.n1; omega), if_neg (by have := hla.n2; omega)]
    rw [h1, h2]; rfl
  unfold ckLaw
  rw [e0, if_neg (fun q => q rfl), ckTk_zero]
  intro n hn
  obtain ⟨i, hi, rfl⟩ := List.mem_map.1 hn
  have hi := List.mem_range.1 hi
  have := hT i hi
  have := fcI_nonneg (p := p) hla.c1 (List.getElem?_eq_getElem hi)
  omega
end Go.Proofs.YtgeieocphgnipaaGreatDoor.Am.M
