/- Contracts over the abstract machine: package bench: specimens. Conditions: none. -/
import Derived.Test.YtphlaicnmmglhaaGreatK5
set_option linter.unusedVariables false
set_option linter.unusedSimpArgs false
-- mini
namespace Go.Proofs.YtphlaicnmmglhaaGreat.Am.M
open Go

structure Spc where
  ar : Arr
  pl : List Int
  fl : List Flw
def spcC (s : Spc) : List D := [.sl 2 (s.ar.el.map shC), .v (.int .i64 s.ar.ou.w), .v (.int .i64 s.ar.ou.m), .v (.int .i64 s.ar.ou.k), .v (.int .i64 s.ar.ou.t), .v (.int .i64 s.ar.ba.w), .v (.int .i64 s.ar.ba.m), .v (.int .i64 s.ar.ba.k), .v (.int .i64 s.ar.ba.t), .v (.int .i64 s.ar.ts.1), .v (.int .i64 s.ar.ts.2), .sl 1 (s.pl.map iC), .sl 8 (s.fl.map flwC)]
end Go.Proofs.YtphlaicnmmglhaaGreat.Am.M
