/- Contracts over the abstract machine: SpeedRange and Thinned. Conditions: none. -/
import Derived.Test.YtgolkffigoabhaaC7
import Derived.Test.YtgolkffigoabhaaOld
set_option linter.unusedVariables false
set_option linter.unusedSimpArgs false
namespace Go.Proofs.Ytgolkffigoabhaa.Am.M
open Go

def arcC (x : Arc) : List D := [.v (.int .i64 x.r), .v (.int .i64 x.lo), .v (.int .i64 x.hi)]
theorem arcs_of {w : World} {ok : Nat → Prop} {l : List Arc} {v : Value} (h : Rep w ok (.sl 3 (l.map arcC)) v) : ∃ A c, v = .slice A l.length c ∧ l.length ≤ c ∧ c ≤ 9223372036854775807 ∧ ArcsS w A l := by
  obtain ⟨A, c, hv, h1, h2, _, _, h6⟩ := sl_inv h
  rw [List.length_map] at hv h1
  refine ⟨A, c, hv, h1, by simpa [maxLen] using h2, ?_⟩
  rcases h6 with h | ⟨b, off, vs, hA, hb, _, hc, hr⟩
  · left; simpa using h
  · right
    refine ⟨b, off, hA, hb, fun i x hx => ?_⟩
    have e : (l.map arcC)[i]? = some (arcC x) := by rw [List.getElem?_map, hx]; rfl
    have k0 := hc i _ 0 _ e rfl
    have k1 := hc i _ 1 _ e rfl
    have k2 := hc i _ 2 _ e rfl
    have r0 := Rep.v_eq (hr i _ 0 _ e rfl)
    have r1 := Rep.v_eq (hr i _ 1 _ e rfl)
    have r2 := Rep.v_eq (hr i _ 2 _ e rfl)
    rw [r0] at k0; rw [r1] at k1; rw [r2] at k2
    exact ⟨k0, k1, k2⟩
theorem rep_ints {w : World} {ok : Nat → Prop} (xs : List Int) : Rep w ok (.agg (xs.map fun x => .v (.int .i64 x))) (.agg (xs.map fun x => Value.int .i64 x).toArray) :=
  .agg _ _ (by simp) (fun j d h => by
    rw [List.getElem?_map] at h
    cases hj : xs[j]? with
    | none => rw [hj] at h; cases h
    | some x => rw [hj] at h; cases h; rfl) (fun j d v h1 h2 => by
    rw [List.getElem?_map] at h1 h2
    cases hj : xs[j]? with
    | none => rw [hj] at h1; cases h1
    | some x => rw [hj] at h1 h2; cases h1; cases h2; exact .v _ rfl)
theorem rep_tup {w : World} {ok : Nat → Prop} {cs : List D} {vs : List Value} (h : RepL w ok cs vs) : Rep w ok (.tup cs) (.tuple vs.toArray) :=
  .tup cs vs h.length fun j d v h1 h2 => h.get j d v h1 h2
theorem SpeedRange_p (l : List Arc) : PC Try.prog 10 [.sl 3 (l.map arcC)] (.tup [.agg [.v (.int .i64 (speedR l).1.1), .v (.int .i64 (speedR l).1.2)], .v (.int .i64 (speedR l).2)]) := by
  intro w ok vs hL
  match vs, hL with
  | [v], ⟨h, _⟩ =>
    obtain ⟨A, c, rfl, h1, h2, h3⟩ := arcs_of h
    refine (SpeedRange_c l A c w h3 h1).mono ?_
    rintro e w' ⟨rfl, hE⟩
    exact ⟨_, rfl, hE, rep_tup ⟨rep_ints [(speedR l).1.1, (speedR l).1.2], .v _ rfl, trivial⟩⟩
end Go.Proofs.Ytgolkffigoabhaa.Am.M
