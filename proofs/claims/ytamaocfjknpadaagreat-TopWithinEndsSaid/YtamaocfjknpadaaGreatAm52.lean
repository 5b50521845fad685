/- The abstract machine, part 52: the contract of a function to which no memory is handed, from its walk. Conditions: none. -/
import Derived.Test.YtamaocfjknpadaaGreatAmF
set_option linter.unusedVariables false
set_option linter.unusedSimpArgs false
namespace Go.Proofs.YtamaocfjknpadaaGreat.Am
open Go Go.RowKit
section
variable {P : Program}
theorem pc_of_awpM {f : FuncId} {fn : Func} {c : Code} {n : Nat} {args : List D} {r : D} {rs : List ResultVar} (hf : P.funcs[f]? = some fn) (hb : fn.body = some c) (hn : fn.ntmps = n) (hrs : fn.results = rs.toArray) (hl : args.length ≤ n)
    (h : ∀ w0 : Cx, (∀ b, ¬ w0.mine b) → w0.rnd = none → (∀ k, w0.pin k = none) → Awp P w0 c (endR P rs r) (startSt n args)) : PC P f args r := by
  intro w ok vs hL
  refine (callsIn_wide (n := 1)).1 (callsIn_of_wp_marks hf hb trivial ?_ rfl)
  have h0 : Hold ⟨w, ok, fun _ => False, fun _ => none, fun _ => none, none⟩ (startSt n args) { tmps := vs.toArray ++ Array.replicate (fn.ntmps - vs.toArray.size) undef, defers := [] } w (fun _ => none) (fun _ => undef) := by
    refine ⟨⟨rfl, rfl, rfl, Nat.le_refl _, fun _ _ _ => rfl⟩, Kept.nil rfl rfl, ?_, fun s b h => by simp at h, fun s s' b h => by simp at h, (fun k b h => by cases h), fun s => rfl, fun t => ?_⟩
    · have := hL.length
      simp [startSt, hn]; omega
    · have := argT_rep (blk := fun _ => none) (val := fun _ => undef) (s := fun _ => Site.no) (fn.ntmps - vs.toArray.size) (RepL.of (ok := okOf ⟨w, ok, fun _ => False, fun _ => none, fun _ => none, none⟩ fun _ => none) hL.length fun j d v h1 h2 => (hL.get j d v h1 h2).ok fun b _ hb => ⟨.inl hb, fun s h => by cases h⟩) t
      have e : (vs.toArray ++ Array.replicate (fn.ntmps - vs.toArray.size) undef) = (vs ++ List.replicate (fn.ntmps - vs.toArray.size) undef).toArray := by simp
      show RepT _ _ _ _ _ _ ((vs.toArray ++ Array.replicate (fn.ntmps - vs.toArray.size) undef).getD t undef)
      rw [e, Array.getD_eq_getD_getElem?, List.getElem?_toArray, ← List.getD_eq_getElem?_getD]
      exact this
  refine wpIn_mono (h ⟨w, ok, fun _ => False, fun _ => none, fun _ => none, none⟩ (fun _ h => h) rfl (fun _ => rfl) Fence.wide 1 ⟨.inl rfl, rfl⟩ _ w ⟨_, _, h0⟩) fun e a w' ⟨st', hR, hH⟩ => ?_
  cases e with
  | normal =>
    obtain ⟨ds, hd, rfl⟩ := hR
    obtain ⟨ms, m1, m2, m3, blk, val, hh⟩ := hH.shut rfl
    obtain ⟨v, h1, h2⟩ := run_results hh hrs hd
    show LeavesInM _ _ _ _ _ _ _ _ _
    rw [m1]
    exact shut_leaves ms w' m2 m3 ⟨v, h1, v, rfl, ⟨hh.ext.os, hh.ext.tape, hh.ext.output, hh.ext.size, fun k hk => hh.ext.block k hk (fun h => h)⟩, h2.ok fun b _ hb => hb.imp id fun h => h.resolve_right (fun h => h)⟩
  | ret =>
    obtain ⟨ds, hd, rfl⟩ := hR
    obtain ⟨ms, m1, m2, m3, blk, val, hh⟩ := hH.shut rfl
    obtain ⟨v, h1, h2⟩ := run_results hh hrs hd
    show LeavesInM _ _ _ _ _ _ _ _ _
    rw [m1]
    exact shut_leaves ms w' m2 m3 ⟨v, h1, v, rfl, ⟨hh.ext.os, hh.ext.tape, hh.ext.output, hh.ext.size, fun k hk => hh.ext.block k hk (fun h => h)⟩, h2.ok fun b _ hb => hb.imp id fun h => h.resolve_right (fun h => h)⟩
  | exit id => exact hR.elim
  | goto l => exact hR.elim
  | panic c => exact hR.elim
  | outgrown => exact hR.elim
end
end Go.Proofs.YtamaocfjknpadaaGreat.Am
