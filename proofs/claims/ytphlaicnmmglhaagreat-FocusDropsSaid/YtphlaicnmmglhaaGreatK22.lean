/- Contracts over the abstract machine: the reference of chapter 4: echoes and traces. Conditions: none. -/
import Derived.Test.YtphlaicnmmglhaaGreatK20
set_option linter.unusedVariables false
set_option linter.unusedSimpArgs false
-- mini
namespace Go.Proofs.YtphlaicnmmglhaaGreat.Am.M
open Go
theorem el_in {a : Arr} (hok : ArrOk a) {i : Int} (h1 : 0 ≤ i) (h2 : i < a.el.length) : (-100000 ≤ (elAt a i).1 ∧ (elAt a i).1 ≤ 100000) ∧ -100000 ≤ (elAt a i).2 ∧ (elAt a i).2 < 0 :=
  hok.el _ (List.mem_of_getElem? (el_at h1 h2))
theorem plate_ok {z t : Int} : plateE z t = 0 ↔ 1 ≤ z ∧ z ≤ t - 1 := by
  unfold plateE; rw [must_zero (by decide)]; simp [inR]
theorem way_of {a : Arr} (hok : ArrOk a) {i : Int} (h1 : 0 ≤ i) (h2 : i < a.el.length) {t : Int × Int} (hs : spotE t = 0) (hp : plateE t.2 a.ou.t = 0) {m : Md} (hm : m.t = a.ou.t) : wayE m (elAt a i) t = 0 := by
  obtain ⟨⟨e1, e2⟩, e3, e4⟩ := el_in hok h1 h2
  have hp2 := plate_ok.1 hp
  unfold wayE
  rw [first_zero]
  intro x hx
  simp only [List.mem_cons, List.not_mem_nil, or_false] at hx
  rcases hx with rfl | rfl | rfl | rfl
  · exact spot_ok.2 (by omega)
  · exact hs
  · rw [must_zero (by decide)]; simpa using e4
  · rw [must_zero (by decide), hm]; simp [inR]; omega
def erI (a : Arr) (t p : Int × Int) : Rg := ((ltI a.ou (elAt a p.1) t).1.1 + (ltI a.ba (elAt a p.2) t).1.1, (ltI a.ou (elAt a p.1) t).1.2 + (ltI a.ba (elAt a p.2) t).1.2)
end Go.Proofs.YtphlaicnmmglhaaGreat.Am.M
