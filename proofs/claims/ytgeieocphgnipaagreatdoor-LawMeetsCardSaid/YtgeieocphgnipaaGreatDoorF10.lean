/- Contracts over the abstract machine: package law: apertures, plain laws. Conditions: none. -/
import Derived.Test.YtgeieocphgnipaaGreatDoorF9
set_option linter.unusedVariables false
set_option linter.unusedSimpArgs false
-- mini
namespace Go.Proofs.YtgeieocphgnipaaGreatDoor.Am.M
open Go
/-- A law without some elements. -/
def wthL (t : List Int) (dead : List Int) : List Int := t.mapIdx fun i n => if dead.any (fun d => decide (d = (i : Int))) = true then -1 else n
theorem wth_at {t dead : List Int} {i : Nat} {n : Int} (h : t[i]? = some n) : (wthL t dead)[i]? = some (if dead.any (fun d => decide (d = (i : Int))) = true then -1 else n) := by
  unfold wthL; rw [List.getElem?_mapIdx, h]; rfl
theorem wth_len (t dead : List Int) : (wthL t dead).length = t.length := by unfold wthL; rw [List.length_mapIdx]
/-- Who sends without some elements: who is left. -/
theorem snd_wth {t dead : List Int} : ∀ {k : Nat}, k ≤ t.length → sndTo (wthL t dead) k = (sndTo t k).filter fun p => !dead.any fun d => decide (d = p.1)
  | 0, _ => rfl
  | k + 1, hk => by
    have hx := List.getElem?_eq_getElem (l := t) (i := k) (by omega)
    have hw := wth_at (dead := dead) hx
    generalize t[k] = n at *
    have ih := snd_wth (t := t) (dead := dead) (k := k) (by omega)
    by_cases hd : dead.any (fun d => decide (d = (k : Int))) = true
    · rw [if_pos hd] at hw
      rw [sndTo_no hw (by omega), ih]
      by_cases hn : 0 ≤ n
      · rw [sndTo_yes hx hn, List.filter_append]; simp [hd]
      · rw [sndTo_no hx hn]
    · rw [if_neg hd] at hw
      by_cases hn : 0 ≤ n
      · rw [sndTo_yes hw hn, sndTo_yes hx hn, ih, List.filter_append]
        have hd' : (dead.any fun d => decide (d = (k : Int))) = false := Bool.eq_false_iff.2 hd
        simp only [List.filter_cons, List.filter_nil, hd', Bool.not_false, if_true]
      · rw [sndTo_no hw hn, sndTo_no hx hn, ih]
end Go.Proofs.YtgeieocphgnipaaGreatDoor.Am.M
