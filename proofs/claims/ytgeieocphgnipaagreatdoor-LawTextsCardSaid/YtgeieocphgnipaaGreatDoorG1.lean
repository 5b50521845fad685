/- Contracts over the abstract machine: package law: changed laws. Conditions: none. -/
import Derived.Test.YtgeieocphgnipaaGreatDoorF12
set_option linter.unusedVariables false
set_option linter.unusedSimpArgs false
-- mini
namespace Go.Proofs.YtgeieocphgnipaaGreatDoor.Am.M
open Go

/-- What is built: a law, or ErrLarge. -/
def bltR (f : Int → Int) (c : Int) (n : Nat) : Dly × Int := if (List.range n).all (fun i => decide (f (i : Int) ≤ 1000000)) = true then (⟨c, bltL f n⟩, 0) else (⟨0, []⟩, 8)
theorem bltR_ok {f : Int → Int} {c : Int} {n : Nat} (h : ∀ i : Nat, i < n → f (i : Int) ≤ 1000000) : bltR f c n = (⟨c, bltL f n⟩, 0) := by
  unfold bltR
  rw [if_pos]
  rw [List.all_eq_true]
  intro i hi
  exact decide_eq_true (h i (List.mem_range.1 hi))
theorem bltR_cases (f : Int → Int) (c : Int) (n : Nat) : ((∀ i : Nat, i < n → f (i : Int) ≤ 1000000) ∧ bltR f c n = (⟨c, bltL f n⟩, 0)) ∨ bltR f c n = (⟨0, []⟩, 8) := by
  unfold bltR
  split
  · rename_i h
    exact .inl ⟨fun i hi => of_decide_eq_true (List.all_eq_true.1 h i (List.mem_range.2 hi)), rfl⟩
  · exact .inr rfl
theorem bltL_congr {f g : Int → Int} {n : Nat} (h : ∀ i : Nat, i < n → f (i : Int) = g (i : Int)) : bltL f n = bltL g n := by
  unfold bltL
  exact List.map_congr_left fun i hi => h i (List.mem_range.1 hi)
theorem bltR_congr {f g : Int → Int} {c : Int} {n : Nat} (h : ∀ i : Nat, i < n → f (i : Int) = g (i : Int)) : bltR f c n = bltR g c n := by
  rcases bltR_cases f c n with ⟨h1, h2⟩ | h1
  · rw [h2, bltR_ok fun i hi => by rw [← h i hi]; exact h1 i hi, bltL_congr h]
  · rcases bltR_cases g c n with ⟨h3, h4⟩ | h3
    · rw [bltR_ok fun i hi => by rw [h i hi]; exact h3 i hi] at h1
      exact absurd (show (0 : Int) = 8 from congrArg Prod.snd h1) (by decide)
    · rw [h1, h3]
def tkA (x : Dly) (i : Int) : Int := x.tk.getD i.toNat 0
theorem tkA_at {x : Dly} {i : Nat} {n : Int} (h : x.tk[i]? = some n) : tkA x (i : Int) = n := by unfold tkA; rw [List.getD_eq_getElem?_getD, Int.toNat_natCast, h]; rfl
/-- Changed ticks: elements that do not send stay so. -/
def chgF (x : Dly) (h : Int → Int → Int) (i : Int) : Int := if 0 ≤ tkA x i then h i (tkA x i) else -1
theorem sz1 : szB Tryz.prog 1 false 1 = true := by kernel_rfl
theorem minF_mem : ∀ {l : List Int}, l ≠ [] → minF l ∈ l
  | [], h => absurd rfl h
  | x :: xs, _ => by
    have : ∀ (xs : List Int) (x : Int), xs.foldl min x ∈ x :: xs := by
      intro xs
      induction xs with
      | nil => intro x; exact List.mem_singleton.2 rfl
      | cons y ys ih =>
        intro x
        have h := ih (min x y)
        rcases List.mem_cons.1 h with h | h
        · show ys.foldl min (min x y) ∈ _
          rw [h]
          rcases Int.le_total x y with q | q
          · rw [Int.min_eq_left q]; simp
          · rw [Int.min_eq_right q]; simp
        · exact List.mem_cons_of_mem _ (List.mem_cons_of_mem _ h)
    exact this xs x
def addF (y : Dly) (i t : Int) : Int := if 0 ≤ tkA y i then t + tkA y i else -1
def addE (x y : Dly) : Int := firstE [(ckLaw x).2, (ckLaw y).2]
def addR (x y : Dly) : Dly × Int := if addE x y ≠ 0 then (⟨0, []⟩, addE x y) else if x.ck ≠ y.ck then (⟨0, []⟩, 23) else if (x.tk.length : Int) ≠ y.tk.length then (⟨0, []⟩, 10) else bltR (chgF x (addF y)) x.ck x.tk.length
theorem addE_ok {x y : Dly} (h : addE x y = 0) : (ckLaw x).2 = 0 ∧ (ckLaw y).2 = 0 := by
  unfold addE at h
  rw [first_zero] at h
  simp only [List.mem_cons, List.not_mem_nil, or_false, forall_eq_or_imp, forall_eq] at h
  exact h
end Go.Proofs.YtgeieocphgnipaaGreatDoor.Am.M
