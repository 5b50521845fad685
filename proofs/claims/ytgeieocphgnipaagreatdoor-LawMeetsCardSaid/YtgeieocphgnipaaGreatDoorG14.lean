/- Contracts over the abstract machine: shifts: plain laws, LawShifts. Conditions: none. -/
import Derived.Test.YtgeieocphgnipaaGreatDoorG11
set_option linter.unusedVariables false
set_option linter.unusedSimpArgs false
-- mini
namespace Go.Proofs.YtgeieocphgnipaaGreatDoor.Am.M
open Go

theorem sprR_is {a : Lar} {x : Dly} {p : Int × Int} (h1 : opnE a x = 0) (h2 : plcE a p = 0) : sprR a x p = sprL (arrL a x p) := by
  unfold sprR
  rw [if_neg]
  unfold arvE
  rw [if_neg (fun q => q h1)]
  exact fun q => q h2
theorem opn_of {a : Lar} {x : Dly} (h1 : (ckLar a).2 = 0) (h2 : (ckLaw x).2 = 0) (h3 : x.tk.length = a.el.length) : opnE a x = 0 := by
  unfold opnE
  rw [h1, h2, if_neg (by decide), if_neg (by rw [h3]; simp)]
end Go.Proofs.YtgeieocphgnipaaGreatDoor.Am.M
