/- Contracts over the abstract machine: sums: the reference, LawSums. Conditions: none. -/
import Derived.Test.YtgeieocphgnipaaGreatDoorG10
set_option linter.unusedVariables false
set_option linter.unusedSimpArgs false
-- mini
namespace Go.Proofs.YtgeieocphgnipaaGreatDoor.Am.M
open Go

theorem addF_at {x y : Dly} {i : Nat} {m n : Int} (hx : x.tk[i]? = some m) (hy : y.tk[i]? = some n) : chgF x (addF y) (i : Int) = if 0 ≤ m then (if 0 ≤ n then m + n else -1) else -1 := by
  unfold chgF addF
  rw [tkA_at hx, tkA_at hy]
theorem add_comm {x y : Dly} (h : (addR x y).2 = 0) : addR y x = addR x y := by
  by_cases h0 : addE x y = 0
  · obtain ⟨h1, h2⟩ := addE_ok h0
    have h0' : addE y x = 0 := by unfold addE; rw [h1, h2]; rfl
    have e1 : addR x y = if x.ck ≠ y.ck then (⟨0, []⟩, 23) else if (x.tk.length : Int) ≠ y.tk.length then (⟨0, []⟩, 10) else bltR (chgF x (addF y)) x.ck x.tk.length := by unfold addR; rw [if_neg (fun q => q h0)]
    have e2 : addR y x = if y.ck ≠ x.ck then (⟨0, []⟩, 23) else if (y.tk.length : Int) ≠ x.tk.length then (⟨0, []⟩, 10) else bltR (chgF y (addF x)) y.ck y.tk.length := by unfold addR; rw [if_neg (fun q => q h0')]
    rw [e1] at h
    rw [e1, e2]
    by_cases hc : x.ck = y.ck
    · rw [if_neg (fun q => q hc)] at h
      rw [if_neg (show ¬ y.ck ≠ x.ck from fun q => q hc.symm), if_neg (show ¬ x.ck ≠ y.ck from fun q => q hc)]
      by_cases hl : (x.tk.length : Int) = y.tk.length
      · rw [if_neg (show ¬ (y.tk.length : Int) ≠ x.tk.length from fun q => q hl.symm), if_neg (show ¬ (x.tk.length : Int) ≠ y.tk.length from fun q => q hl), ← hc]
        have hl' : y.tk.length = x.tk.length := by omega
        rw [hl']
        refine bltR_congr fun i hi => ?_
        have hx := List.getElem?_eq_getElem hi
        have hy := List.getElem?_eq_getElem (l := y.tk) (i := i) (by omega)
        rw [addF_at hx hy, addF_at hy hx]
        split <;> split <;> omega
      · rw [if_pos hl] at h; cases h
    · rw [if_pos hc] at h; cases h
  · unfold addR at h
    rw [if_pos h0] at h
    exact absurd h h0
end Go.Proofs.YtgeieocphgnipaaGreatDoor.Am.M
