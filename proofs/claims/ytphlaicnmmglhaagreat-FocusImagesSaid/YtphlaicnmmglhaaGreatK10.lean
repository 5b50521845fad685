/- Contracts over the abstract machine: lists of what a sequence yields: slices.AppendSeq, slices.Collect. Conditions: none. -/
import Derived.Test.YtphlaicnmmglhaaGreatK9
set_option linter.unusedVariables false
set_option linter.unusedSimpArgs false
-- mini
namespace Go.Proofs.YtphlaicnmmglhaaGreat.Am.M
open Go

section
variable {P : Program} {w0 : Cx} {ops : List Oper} {rest : List Oper} {R : Exit → St → Prop} {st : St} {ty : TypeId} {pos : String} {after : Array Edge}
end

end Go.Proofs.YtphlaicnmmglhaaGreat.Am.M
