import Derived.RangeFuncNested
import Derived.RangeFuncBound
import Derived.RangeFuncCalls
import Derived.RangeFuncLeaves
import Derived.Shelf.Abstract
import Derived.Shelf.RegionOpen
import Derived.WalkKit
import Derived.OwnWalkIn
import Derived.TacticsInMore
import Derived.LoopNIn
import Derived.LoopIn
import Derived.Deep.DeepMust
import Derived.Test.YtgdcidbpadhkpaaRange
import Derived.Test.YtgdcidbpadhkpaaTa1
set_option linter.unusedVariables false
set_option linter.unusedSimpArgs false
namespace Go.Proofs.Ytgdcidbpadhkpaa
open Go.RowKit Go.Shelf
attribute [local go_sem] Oper.semAt_some

def arcV (x : Arc) : Value := .agg #[.int .i64 x.r, .int .i64 x.lo, .int .i64 x.hi]
def encP (p : Arc × Arc) : Array Value := #[.agg #[.int .i64 p.1.r, .int .i64 p.1.lo, .int .i64 p.1.hi], .agg #[.int .i64 p.2.r, .int .i64 p.2.lo, .int .i64 p.2.hi]]
/-- The pairs that have come when k outer rounds are over. -/
def pairsTo (l : List Arc) : Nat → List (Arc × Arc)
  | 0 => []
  | k + 1 => pairsTo l k ++ (l.take k).map fun a => (a, l.getD k ⟨0, 0, 0⟩)
theorem pairsTo_prefix (l : List Arc) {k j : Nat} (h : k ≤ j) : pairsTo l k <+: pairsTo l j := by
  induction j with
  | zero => obtain rfl : k = 0 := by omega
            exact List.prefix_refl _
  | succ j ih =>
    by_cases hk : k = j + 1
    · subst hk; exact List.prefix_refl _
    · exact (ih (by omega)).trans (List.prefix_append _ _)

set_option maxRecDepth 100000 in
set_option maxHeartbeats 2000000 in
theorem pairs_iter (l : List Arc) (b off c : Nat) (n₀ : Nat) (w : World) (hb : b < n₀) (hn₀ : n₀ ≤ w.heap.size) (hR : ArcsR w b off l) (hl : l.length ≤ 12) (hc : l.length ≤ c) :
    Iter Try.prog 108 #[.slice (some ⟨b, off, none⟩) l.length c] #[] encP (pairsTo l l.length) n₀ w := by
  intro m yl J W hwW hJ hJB hY h0
  have HJB : ∀ s A, J s A → ArcsR A b off l := by
    intro s A hs i x hx
    have hr := hR.ext hwW i x hx
    have hh := hJB s A hs b hb
    have hcc : ∀ o, A.cell? ⟨b, o, none⟩ = W.cell? ⟨b, o, none⟩ := fun o => World.cell?_of_block (w := W) hh
    exact ⟨(hcc _).trans hr.1, (hcc _).trans hr.2.1, (hcc _).trans hr.2.2⟩
  have HY := Lib.hid hY; clear hY
  have HJ := Lib.hid hJ; clear hJ
  have HJR := Lib.hid HJB; clear HJB hJB
  show CallsIn Fence.wide (m + 1) Try.prog 108 #[.slice (some ⟨b, off, none⟩) l.length c, .func (.yield yl) #[] #[]] W _
  have h1 : 1 ≤ m + 1 := by omega
  refine callsIn_of_wp Try.func108 rfl trivial ?_ rfl
  simp only [Try.ntmps108, List.size_toArray, List.length_cons, List.length_nil, Nat.reduceAdd, Nat.reduceSub, Array.replicate_succ, Array.replicate_zero, List.push_toArray, List.append_toArray, List.nil_append, List.cons_append]
  gi_wp2
  gi_loopw [4, 5, 7, 10] (fun _ _ _ i wr => ∃ k : Nat, k ≤ l.length ∧ i = .int .i64 k ∧ J (pairsTo l k) wr ∧ W.heap.size ≤ wr.heap.size) (fun _ _ _ i _ => l.length - (intOf i).toNat)
  case atStart => exact ⟨0, Nat.zero_le _, rfl, h0, Nat.le_refl _⟩
  case round =>
    obtain ⟨k, hk, rfl, hJs, hsz⟩ := hrel
    have HJs := Lib.hid hJs; clear hJs
    by_cases hlt : k < l.length
    · obtain ⟨c1, c2, c3⟩ := HJR.out _ _ HJs.out k _ (List.getElem?_eq_getElem hlt)
      have hgd : l.getD k ⟨0, 0, 0⟩ = l[k] := by simp [hlt]
      have HG := Lib.hid hgd; clear hgd
      generalize l[k] = y at *
      have hc0 : (k : Int) ≤ (c : Int) := by omega
      gi_wp2
      have hE2 : Ext wr (wr.alloc (.cells #[.int .i64 y.r, .int .i64 y.lo, .int .i64 y.hi] 105)) := (Ext.refl wr).alloc _
      have q1 : (wr.alloc (.cells #[.int .i64 y.r, .int .i64 y.lo, .int .i64 y.hi] 105)).cell? ⟨wr.heap.size, 0, none⟩ = some (.int .i64 y.r) := by simp
      have q2 : (wr.alloc (.cells #[.int .i64 y.r, .int .i64 y.lo, .int .i64 y.hi] 105)).cell? ⟨wr.heap.size, 1, none⟩ = some (.int .i64 y.lo) := by simp
      have q3 : (wr.alloc (.cells #[.int .i64 y.r, .int .i64 y.lo, .int .i64 y.hi] 105)).cell? ⟨wr.heap.size, 2, none⟩ = some (.int .i64 y.hi) := by simp
      have hlt2 : wr.heap.size < (wr.alloc (.cells #[.int .i64 y.r, .int .i64 y.lo, .int .i64 y.hi] 105)).heap.size := by simp
      have hJ2 := HJ.out _ _ _ HJs.out hE2
      have hsz2 : W.heap.size ≤ (wr.alloc (.cells #[.int .i64 y.r, .int .i64 y.lo, .int .i64 y.hi] 105)).heap.size := by simp; omega
      obtain ⟨g5, hg5⟩ : ∃ g5, wr.heap.size = g5 := ⟨_, rfl⟩
      rw [hg5] at q1 q2 q3 hlt2
      have hWg : W.heap.size ≤ g5 := by omega
      generalize wr.alloc (.cells #[.int .i64 y.r, .int .i64 y.lo, .int .i64 y.hi] 105) = w2 at *
      rw [hg5]
      have HQ := Lib.hid (And.intro q1 (And.intro q2 q3)); clear q1 q2 q3
      have HJ2 := Lib.hid hJ2; clear hJ2 hE2 c1 c2 c3
      clear hg5
      have hkn : min k l.length = k := by omega
      have hgt : ∀ j, j < k → (l.take k)[j]? = some (l.getD j ⟨0, 0, 0⟩) := fun j hj => by simp [hj, show j < l.length by omega]
      have HGT := Lib.hid hgt; clear hgt
      gi_loopw [7, 19] (fun _ i wr3 => ∃ j : Nat, j ≤ k ∧ i = .int .i64 j ∧ J (pairsTo l k ++ ((l.take k).take j).map fun a => (a, y)) wr3 ∧ W.heap.size ≤ wr3.heap.size ∧ g5 < wr3.heap.size ∧ wr3.cell? ⟨g5, 0, none⟩ = some (.int .i64 y.r) ∧ wr3.cell? ⟨g5, 1, none⟩ = some (.int .i64 y.lo) ∧ wr3.cell? ⟨g5, 2, none⟩ = some (.int .i64 y.hi)) (fun _ i _ => k - (intOf i).toNat)
      case atStart => exact ⟨0, Nat.zero_le _, rfl, by simpa using HJ2.out, hsz2, hlt2, HQ.out.1, HQ.out.2.1, HQ.out.2.2⟩
      case round =>
        obtain ⟨j, hj, rfl, hJs3, hsz3, hlt3, p1, p2, p3⟩ := hrel
        have HJs3 := Lib.hid hJs3; clear hJs3
        obtain ⟨w3, hw3⟩ : ∃ w3, w3 = wr := ⟨_, rfl⟩
        by_cases hjk : j < k
        · have hjl : j < l.length := by omega
          obtain ⟨c1, c2, c3⟩ := HJR.out _ _ HJs3.out j _ (List.getElem?_eq_getElem hjl)
          have hgx : l.getD j ⟨0, 0, 0⟩ = l[j] := by simp [hjl]
          have htk : ((l.take k).take (j + 1)).map (fun a => (a, y)) = ((l.take k).take j).map (fun a => (a, y)) ++ [(l[j], y)] := by
            rw [List.take_add_one, HGT.out j hjk, hgx]; simp
          have hpre : (pairsTo l k ++ ((l.take k).take j).map fun a => (a, y)) ++ [(l[j], y)] <+: pairsTo l l.length := by
            refine List.IsPrefix.trans ?_ (pairsTo_prefix l (show k + 1 ≤ l.length by omega))
            rw [List.append_assoc, ← htk]
            simp only [pairsTo, HG.out]
            refine (List.prefix_append_right_inj _).2 ?_
            exact List.IsPrefix.map _ (List.take_prefix _ _)
          have HTK := Lib.hid htk; clear htk
          generalize l[j] = x at *
          have hE4 : Ext wr (wr.alloc (.cells #[.int .i64 x.r, .int .i64 x.lo, .int .i64 x.hi] 105)) := (Ext.refl wr).alloc _
          obtain ⟨fn, tmps, assign, body, hy, hRd⟩ := HY.out _ (x, y) (wr.alloc (.cells #[.int .i64 x.r, .int .i64 x.lo, .int .i64 x.hi] 105)) (HJ.out _ _ _ HJs3.out hE4) hpre
          simp only [encP] at hy
          have HE4 := Lib.hid hE4; clear hE4 hpre
          have HRd := Lib.hid hRd; clear hRd
          gi_wp2
          refine HRd.out.mono ?_
          rintro e B ⟨rfl, hJB, hszB, hkB⟩
          have r1 : B.cell? ⟨g5, 0, none⟩ = some (.int .i64 y.r) := (World.cell?_of_block (w := wr.alloc (.cells #[.int .i64 x.r, .int .i64 x.lo, .int .i64 x.hi] 105)) (hkB g5 hWg (by simp; omega))).trans (HE4.out.cell p1)
          have r2 : B.cell? ⟨g5, 1, none⟩ = some (.int .i64 y.lo) := (World.cell?_of_block (w := wr.alloc (.cells #[.int .i64 x.r, .int .i64 x.lo, .int .i64 x.hi] 105)) (hkB g5 hWg (by simp; omega))).trans (HE4.out.cell p2)
          have r3 : B.cell? ⟨g5, 2, none⟩ = some (.int .i64 y.hi) := (World.cell?_of_block (w := wr.alloc (.cells #[.int .i64 x.r, .int .i64 x.lo, .int .i64 x.hi] 105)) (hkB g5 hWg (by simp; omega))).trans (HE4.out.cell p3)
          have hszB' : wr.heap.size + 1 ≤ B.heap.size := by simpa using hszB
          have HJB := Lib.hid hJB; clear hJB hkB hszB c1 c2 c3 hy
          gi_wp2
          go_roundw
          case rel => exact ⟨j + 1, by omega, by go_num, by rw [HTK.out, ← List.append_assoc]; exact HJB.out, by omega, by omega, r1, r2, r3⟩
          case measure => simp [intOf] <;> omega
        · have hjk2 : j = k := by omega
          subst hjk2
          have hJ5 : J (pairsTo l (j + 1)) wr := by
            have h2 := HJs3.out
            rw [List.take_take, Nat.min_self] at h2
            simp only [pairsTo, HG.out]
            exact h2
          have HJ5 := Lib.hid hJ5; clear hJ5
          gi_wp2
          go_roundw
          case rel => exact ⟨j + 1, by omega, by go_num, HJ5.out, hsz3⟩
          case measure => simp [intOf] <;> omega
    · have hkk : k = l.length := by omega
      subst hkk
      gi_wp2
      go_end0
      exact ⟨⟨_, rfl⟩, HJs.out⟩
end Go.Proofs.Ytgdcidbpadhkpaa
