/- Contracts over the abstract machine: package law: plain laws of apertures. Conditions: none. -/
import Derived.Test.YtgeieocphgnipaaGreatDoorF10
set_option linter.unusedVariables false
set_option linter.unusedSimpArgs false
namespace Go.Proofs.YtgeieocphgnipaaGreatDoor.Am.M
open Go
theorem maxF_mem : ∀ {l : List Int}, l ≠ [] → maxF l ∈ l
  | [], h => absurd rfl h
  | x :: xs, _ => by
    have : ∀ (xs : List Int) (x : Int), xs.foldl max x ∈ x :: xs := by
      intro xs
      induction xs with
      | nil => intro x; simp
      | cons y ys ih =>
        intro x
        have := ih (max x y)
        simp only [List.foldl_cons]
        rcases List.mem_cons.1 this with h | h
        · rw [h]
          rcases Int.le_total x y with q | q
          · rw [Int.max_eq_right q]; simp
          · rw [Int.max_eq_left q]; simp
        · simp [h]
    exact this xs x
theorem maxF_ge : ∀ {l : List Int} {x : Int}, x ∈ l → x ≤ maxF l
  | [], _, h => by cases h
  | y :: ys, x, h => by
    have : ∀ (xs : List Int) (x : Int), (∀ z ∈ xs, z ≤ xs.foldl max x) ∧ x ≤ xs.foldl max x := by
      intro xs
      induction xs with
      | nil => intro x; simp
      | cons y ys ih =>
        intro x
        obtain ⟨h1, h2⟩ := ih (max x y)
        simp only [List.foldl_cons, List.mem_cons]
        refine ⟨fun z hz => ?_, by have := Int.le_max_left x y; omega⟩
        rcases hz with rfl | hz
        · have := Int.le_max_right x z; omega
        · exact h1 z hz
    obtain ⟨h1, h2⟩ := this ys y
    rcases List.mem_cons.1 h with rfl | h
    · exact h2
    · exact h1 x h
theorem minF_neg : ∀ (l : List Int), minF l = -(maxF (l.map fun x => -x))
  | [] => rfl
  | x :: xs => by
    have : ∀ (xs : List Int) (x : Int), xs.foldl min x = -((xs.map fun x => -x).foldl max (-x)) := by
      intro xs
      induction xs with
      | nil => intro x; simp
      | cons y ys ih =>
        intro x
        simp only [List.foldl_cons, List.map_cons]
        rw [ih (min x y)]
        congr 2
        omega
    exact this xs x
theorem maxF_le {l : List Int} {b : Int} (hn : l ≠ []) (h : ∀ x ∈ l, x ≤ b) : maxF l ≤ b := h _ (maxF_mem hn)
theorem minF_ge {l : List Int} {b : Int} (hn : l ≠ []) (h : ∀ x ∈ l, b ≤ x) : b ≤ minF l := by
  rw [minF_neg]
  have := maxF_le (l := l.map fun x => -x) (b := -b) (by simpa using hn) (fun x hx => by
    obtain ⟨y, hy, rfl⟩ := List.mem_map.1 hx
    have := h y hy; omega)
  omega
theorem minF_le {l : List Int} {x : Int} (h : x ∈ l) : minF l ≤ x := by
  rw [minF_neg]
  have := maxF_ge (l := l.map fun x => -x) (x := -x) (List.mem_map.2 ⟨x, h, rfl⟩)
  omega

theorem mm_sub {l m : List Int} (hm : m ≠ []) (h : ∀ x ∈ m, x ∈ l) : minF l ≤ minF m ∧ maxF m ≤ maxF l :=
  ⟨minF_ge hm fun x hx => minF_le (h x hx), maxF_le hm fun x hx => maxF_ge (h x hx)⟩
/-- The aperture of a law without some elements. -/
def wth (x : Dly) (dead : List Int) : Dly := ⟨x.ck, wthL x.tk dead⟩
theorem snd_sub (x : Dly) (dead : List Int) : sndL (wth x dead) = (sndL x).filter fun p => !dead.any fun d => decide (d = p.1) := by
  unfold sndL wth
  simp only [wth_len]
  exact snd_wth (Nat.le_refl _)
theorem ckTk_zero : ∀ {l : List Int} {i : Nat}, (∀ n ∈ l, -1 ≤ n ∧ n ≤ 1000000) → ckTk i l = (0, 0)
  | [], _, _ => rfl
  | n :: l, i, h => by
    unfold ckTk
    rw [if_pos (by have := h n (by simp); simp [inR]; omega)]
    exact ckTk_zero fun m hm => h m (by simp [hm])
theorem wth_ok {x : Dly} {dead : List Int} (h : (ckLaw x).2 = 0) : (ckLaw (wth x dead)).2 = 0 := by
  have hok := (ckLaw_ok h).1
  have h0 : dlyE0 (wth x dead) = dlyE0 x := by unfold dlyE0 wth; simp only [wth_len]
  have hx : dlyE0 x = 0 := by
    unfold ckLaw at h
    by_cases q : dlyE0 x ≠ 0
    · rw [if_pos q] at h; exact absurd h q
    · exact Decidable.not_not.1 q
  unfold ckLaw
  rw [h0, if_neg (fun q => q hx)]
  show (ckTk 0 (wthL x.tk dead)).2 = 0
  rw [ckTk_zero fun n hn => ?_]
  obtain ⟨i, hi⟩ := List.getElem?_of_mem hn
  unfold wthL at hi
  rw [List.getElem?_mapIdx, Option.map_eq_some_iff] at hi
  obtain ⟨m, hm, rfl⟩ := hi
  have := hok.tk m (List.mem_of_getElem? hm)
  split <;> omega
theorem opn_wth {a : Lar} {x : Dly} {dead : List Int} (h : opnE a x = 0) : opnE a (wth x dead) = 0 := by
  obtain ⟨h1, h2, h3⟩ := lop_ok h
  unfold opnE
  rw [h1, wth_ok h2]
  have : (wth x dead).tk.length = a.el.length := by unfold wth; simp only [wth_len]; exact h3
  rw [if_neg (by decide), if_neg (by rw [this]; simp)]
end Go.Proofs.YtgeieocphgnipaaGreatDoor.Am.M
