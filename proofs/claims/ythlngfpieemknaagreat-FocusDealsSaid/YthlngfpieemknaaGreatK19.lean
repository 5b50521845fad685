/- Contracts over the abstract machine: the reference of chapter 1: least times. Conditions: none. -/
import Derived.Test.YthlngfpieemknaaGreatK18
set_option linter.unusedVariables false
set_option linter.unusedSimpArgs false
-- mini
namespace Go.Proofs.YthlngfpieemknaaGreat.Am.M
open Go
theorem lt_is {m : Md} {a b : Int × Int} (hm : MdOk m) (hw : wayE m a b = 0) : ltI m a b = (leastI (wayI m a b).1, 0) := by
  have h1 : modeE m = 0 := mode_ok.2 hm
  have ho : opnI m a b = wayI m a b := by unfold opnI; rw [if_neg (fun q => q h1)]
  unfold ltI
  rw [ho, (way_law hm hw).1]; rfl
end Go.Proofs.YthlngfpieemknaaGreat.Am.M
