import Derived.Deep.DeepMust
import Derived.Maps.AppendAt
import Derived.Test.YtgdcidbpadhkpaaRows
import Derived.WalkKit
import Derived.WalkSpells
import Derived.Lib.Hide
import Derived.Deep.LoopGhost
import Derived.Test.YtgdcidbpadhkpaaTn5

set_option linter.unusedVariables false
set_option linter.unusedSimpArgs false
namespace Go.Proofs.Ytgdcidbpadhkpaa
open Go.RowKit

def nats (xs : List Nat) : List Value := xs.map fun (n : Nat) => Value.int .i64 (n : Int)
/-- Block g is these numbers, and may be written. -/
def NBlk (w : World) (g : Nat) (xs : List Nat) : Prop := w.heap[g]? = some (.cells (nats xs).toArray 3 (0, 0))
theorem NBlk.lt {w : World} {g : Nat} {xs : List Nat} (h : NBlk w g xs) : g < w.heap.size := by
  rcases Nat.lt_or_ge g w.heap.size with hl | hl
  · exact hl
  · unfold NBlk at h; rw [Array.getElem?_eq_none hl] at h; cases h
theorem NBlk.ext {w w' : World} {g : Nat} {xs : List Nat} (h : NBlk w g xs) (hE : Ext w w') : NBlk w' g xs := hE.heap h
theorem NBlk.cell {w : World} {g : Nat} {xs : List Nat} (h : NBlk w g xs) {i : Nat} (hi : i < xs.length) : w.cell? ⟨g, i, none⟩ = some (.int .i64 (xs[i] : Int)) := by
  unfold NBlk at h
  rw [cell_of_row w g i _ 3 (0, 0) h]
  simp [nats, hi]
theorem NBlk.frozen {w : World} {g : Nat} {xs : List Nat} (h : NBlk w g xs) (i : Nat) : w.frozen? ⟨g, i, none⟩ = false := by
  unfold NBlk at h
  simp [World.frozen?, h]
theorem NBlk.put {w : World} {g : Nat} {xs : List Nat} (h : NBlk w g xs) (i v : Nat) : NBlk (w.setCell ⟨g, i, none⟩ (.int .i64 (v : Int))) g (xs.set i v) := by
  unfold NBlk at h ⊢
  rw [heap_setCell_same w g i _ 3 _ h]
  simp [nats, List.map_set]
theorem NBlk.far {w : World} {g : Nat} {xs : List Nat} (h : NBlk w g xs) {p : Addr} (hp : g ≠ p.block) (u : Value) : NBlk (w.setCell p u) g xs := (heap_setCell_other w p g u hp).trans h
theorem NBlk.alloc {w : World} {g : Nat} {xs : List Nat} (h : NBlk w g xs) (o : Obj) : NBlk (w.alloc o) g xs := h.ext ((Ext.refl w).alloc o)
theorem made_nats (n : Nat) : madeCells #[Value.int .i64 0] n = (nats (List.replicate n 0)).toArray := by
  apply Array.ext
  · simp [madeCells, nats]
  · intro i h1 h2
    simp [madeCells, nats, Nat.mod_one]
theorem NBlk.made (w : World) (n : Nat) : NBlk (w.alloc (.cells (madeCells #[Value.int .i64 0] n) 3)) w.heap.size (List.replicate n 0) := by
  unfold NBlk
  rw [made_nats]
  exact heap_alloc_new w _

abbrev St := List Nat × List Nat
def stp (l : List (Int × Int)) (s : Int) (i k : Nat) (st : St) : St :=
  if st.1.getD k 0 + 1 ≤ st.1.getD i 0 ∧ spansS l i k s = true then (st.1.set i (st.1.getD k 0 + 1), st.2.set i k) else st
def inn (l : List (Int × Int)) (s : Int) (i : Nat) : Nat → St → St
  | 0, st => st
  | k + 1, st => if i < k + 1 then inn l s i k (stp l s i (k + 1) st) else st
def outer (l : List (Int × Int)) (s : Int) : Nat → St → St
  | 0, st => st
  | j + 1, st => outer l s j (inn l s j (l.length - 1) (st.1.set j l.length, st.2))
def chain (N : List Nat) (last : Nat) : Nat → Nat → List Nat
  | 0, _ => []
  | f + 1, i => if i < last then N.getD i 0 :: chain N last f (N.getD i 0) else []
def dpF (l : List (Int × Int)) (s : Int) : St := outer l s (l.length - 1) (List.replicate l.length 0, List.replicate l.length 0)
def thinL (l : List (Int × Int)) (s : Int) : List Nat := 0 :: chain (dpF l s).2 (l.length - 1) l.length 0

theorem inn_stop {l : List (Int × Int)} {s : Int} {i k : Nat} {st : St} (h : k ≤ i) : inn l s i k st = st := by
  cases k with
  | zero => rfl
  | succ k => unfold inn; rw [if_neg (by omega)]
theorem inn_go {l : List (Int × Int)} {s : Int} {i k : Nat} {st : St} (h : i < k) : inn l s i k st = inn l s i (k - 1) (stp l s i k st) := by
  obtain ⟨m, rfl⟩ : ∃ m, k = m + 1 := ⟨k - 1, by omega⟩
  rw [show inn l s i (m + 1) st = if i < m + 1 then inn l s i m (stp l s i (m + 1) st) else st from rfl, if_pos h]; rfl
theorem int_eq {k : IntKind} {a b : Int} (h : a = b) : Value.int k a = Value.int k b := by rw [h]
theorem spans_b (b : Bool) (l : List (Int × Int)) (A : Option Addr) (c : Nat) (i k : Nat) (s : Int) (w : World) (h : RowsS w A l) (hT : TabOk l) (hik : i < k) (hk : k < l.length) (hc : l.length ≤ c) (hc2 : c ≤ 9223372036854775807) (hs0 : 0 ≤ s) (hs1 : s ≤ 1000000) (hb : spansS l i k s = b) :
    Calls Try.prog 74 #[.slice A l.length c, .int .i64 i, .int .i64 k, .int .i64 s] w fun e w' => e = .returned (.bool b) ∧ Ext w w' := by
  have hc := spans_c l A c i k s w h hT hik hk hc hc2 hs0 hs1
  rw [hb] at hc
  exact hc
theorem mem_set_le {xs : List Nat} {i v B : Nat} (h : ∀ m ∈ xs, m ≤ B) (hv : v ≤ B) : ∀ m ∈ xs.set i v, m ≤ B := by
  intro m hm
  rcases List.mem_or_eq_of_mem_set hm with h1 | h1
  · exact h m h1
  · omega
theorem own_base {w : World} {base : Nat} {e : TypeId} {size n : Nat} {v : Value} {xs : List Value} (h : w.ownsRow base e size v n xs) : ∀ k, v.ownBlock = some k → base ≤ k := by
  intro k hk
  rcases h.2 with ⟨rfl, _⟩ | ⟨g, cap, cur, rfl, hb, _⟩
  · simp [Value.ownBlock] at hk
  · have : g = k := by simpa [Value.ownBlock] using hk
    omega
theorem own_one (w : World) (base : Nat) (x : Value) (hb : base ≤ w.heap.size) : (w.alloc (.cells #[x] 3)).ownsRow base 3 1 (.slice (some ⟨w.heap.size, 0, none⟩) 1 1) 1 [x] :=
  ⟨rfl, .inr ⟨w.heap.size, 1, #[x], rfl, hb, heap_alloc_new w _, Nat.le_refl _, by decide, rfl, rfl⟩⟩
theorem chain_go {N : List Nat} {last f i : Nat} (h : i < last) : chain N last (f + 1) i = N.getD i 0 :: chain N last f (N.getD i 0) := by
  rw [show chain N last (f + 1) i = if i < last then N.getD i 0 :: chain N last f (N.getD i 0) else [] from rfl, if_pos h]
theorem chain_stop {N : List Nat} {last f i : Nat} (h : last ≤ i) : chain N last f i = [] := by
  cases f with
  | zero => rfl
  | succ f => rw [show chain N last (f + 1) i = if i < last then N.getD i 0 :: chain N last f (N.getD i 0) else [] from rfl, if_neg (by omega)]
theorem nats_snoc (xs : List Nat) (n : Nat) : nats (xs ++ [n]) = nats xs ++ [.int .i64 (n : Int)] := by simp [nats]
theorem nats_len (xs : List Nat) : (nats xs).length = xs.length := by simp [nats]
theorem int_info : (Try.prog.info? 3).map (fun i => (i.zero, i.size, i.bytes)) = some (some (.int .i64 0), 1, 8) := by kernel_rfl

set_option maxRecDepth 100000 in
set_option maxHeartbeats 4000000 in
theorem Thinned_ok (l : List (Int × Int)) (A : Option Addr) (c : Nat) (s : Int) (w : World) (h : RowsS w A l) (h0 : (ckT l).2 = 0) (hc : l.length ≤ c) (hc2 : c ≤ 9223372036854775807) (h1 : 0 ≤ s) (h2 : s ≤ 1000000) (hdp : ∀ i, i < l.length - 1 → i < (dpF l s).2.getD i 0 ∧ (dpF l s).2.getD i 0 ≤ l.length - 1) :
    Calls Try.prog 18 #[.slice A l.length c, .int .i64 s] w fun e w' => ∃ v, e = .returned (.tuple #[v, .int .i64 0]) ∧ w'.ownsRow w.heap.size 3 1 v (thinL l s).length (nats (thinL l s)) ∧ Ext w w' := by
  have HH := Lib.hid h; clear h
  have hT := (ckT_ok h0).1
  have hpos := hT.pos
  have hfew := hT.few
  have HT := Lib.hid hT; clear hT
  have HDP := Lib.hid hdp; clear hdp
  have HR := Lib.hid h0; clear h0
  have HCC := Lib.hid (And.intro hc hc2); clear hc hc2
  obtain ⟨i0, hi0, hz0, hz1, hz2⟩ := info_parts int_info
  have hmk := fun W : World => run_make (P := Try.prog) W 25 3 i0 (.int .i64 0) Try.underlying25 hi0 hz0 .i64 .i64 (l.length : Int) (l.length : Int) (by omega) (by omega) (by rw [hz2]; omega) (by omega)
  simp only [Int.toNat_natCast, hz1, Value.cells] at hmk
  go_enter Try.func18, Try.ntmps18
  go_wp2_with (first | (go_at_call 34; refine (checkTable_ok_c l A c _ HR.out HH.out).mono ?_; go_must (rintro e W ⟨rfl, hE1⟩; have HE := Lib.hid hE1; clear hE1)) | (go_at_call 73; refine (within_t _ _ _ _ ⟨h1, h2⟩).mono ?_; rintro e w9 ⟨rfl, rfl⟩))
  refine wp_region_Tb (R := Ext) (fun w' => Ext (W) w') [(0, 0), (1, 0), (3, 0), (4, 0)] 2 [(6, 0), (5, 1), (7, 0)] 5 [(2, 1), (6, 0), (7, 0)] (by kernel_rfl) (by kernel_rfl) (fun _ _ h k => k.trans h) ((Ext.refl _).drew) ?_
  iterate 4
    first
      | (apply wpT_no
         focus (simp only [List.getElem?_toArray, List.getElem?_cons_zero, List.getElem?_cons_succ]; rfl)
         focus rfl
         focus (simp only [Act.put, List.setIfInBounds_toArray, List.set_cons_zero, List.set_cons_succ]; rfl))
      | (apply wpT_ex
         focus (simp only [List.getElem?_toArray, List.getElem?_cons_zero, List.getElem?_cons_succ]; rfl)
         focus rfl
         focus
           intro w1 hC Ψ hΨ
           skip
           go_simp; (try (go_bits; (try go_simp)))
           first
             | exact hΨ _ (Ext.refl _)
         focus (simp only [Act.put, List.setIfInBounds_toArray, List.set_cons_zero, List.set_cons_succ]; rfl))
  refine wpT_nil ?_
  refine ⟨?_, ?_⟩
  apply wpT_fr (fun v w => ∃ g, v = .slice (some ⟨g, 0, none⟩) l.length l.length ∧ W.heap.size ≤ g ∧ NBlk w g (List.replicate l.length 0))
  focus (simp only [List.getElem?_toArray, List.getElem?_cons_zero, List.getElem?_cons_succ]; rfl)
  focus rfl
  focus
    rintro v wa wb hab ⟨g, rfl, hg, hb⟩
    exact ⟨g, rfl, hg, hb.ext hab⟩
  focus
    intro w1 hC Ψ hΨ
    go_simp
    exact hΨ _ _ ((Ext.refl _).alloc _) ⟨_, rfl, hC.size, NBlk.made _ _⟩
  intro v0 a0' ha
  simp only [Act.put, List.setIfInBounds_toArray, List.set_cons_zero, List.set_cons_succ] at ha
  subst ha
  iterate 1
    first
      | (apply wpT_no
         focus (simp only [List.getElem?_toArray, List.getElem?_cons_zero, List.getElem?_cons_succ]; rfl)
         focus rfl
         focus (simp only [Act.put, List.setIfInBounds_toArray, List.set_cons_zero, List.set_cons_succ]; rfl))
      | (apply wpT_ex
         focus (simp only [List.getElem?_toArray, List.getElem?_cons_zero, List.getElem?_cons_succ]; rfl)
         focus rfl
         focus
           intro w1 hC Ψ hΨ
           skip
           go_simp; (try (go_bits; (try go_simp)))
           first
             | exact hΨ _ (Ext.refl _)
         focus (simp only [Act.put, List.setIfInBounds_toArray, List.set_cons_zero, List.set_cons_succ]; rfl))
  apply wpT_fr (fun v w => ∃ g, v = .slice (some ⟨g, 0, none⟩) l.length l.length ∧ W.heap.size ≤ g ∧ NBlk w g (List.replicate l.length 0) ∧ v ≠ v0)
  focus (simp only [List.getElem?_toArray, List.getElem?_cons_zero, List.getElem?_cons_succ]; rfl)
  focus rfl
  focus
    rintro v wa wb hab ⟨g, rfl, hg, hb, hn⟩
    exact ⟨g, rfl, hg, hb.ext hab, hn⟩
  focus
    intro w1 hC Ψ hΨ
    obtain ⟨hC, g0, rfl, hg0, hb0⟩ := hC
    have HB0 := Lib.hid hb0; clear hb0
    go_simp
    refine hΨ _ _ ((Ext.refl _).alloc _) ⟨_, rfl, hC.size, NBlk.made _ _, ?_⟩
    intro e
    have := HB0.out.lt
    simp at e <;> omega
  intro v1 a1' ha
  simp only [Act.put, List.setIfInBounds_toArray, List.set_cons_zero, List.set_cons_succ] at ha
  subst ha
  iterate 1
    first
      | (apply wpT_no
         focus (simp only [List.getElem?_toArray, List.getElem?_cons_zero, List.getElem?_cons_succ]; rfl)
         focus rfl
         focus (simp only [Act.put, List.setIfInBounds_toArray, List.set_cons_zero, List.set_cons_succ]; rfl))
      | (apply wpT_ex
         focus (simp only [List.getElem?_toArray, List.getElem?_cons_zero, List.getElem?_cons_succ]; rfl)
         focus rfl
         focus
           intro w1 hC Ψ hΨ
           skip
           go_simp; (try (go_bits; (try go_simp)))
           first
             | exact hΨ _ (Ext.refl _)
         focus (simp only [Act.put, List.setIfInBounds_toArray, List.set_cons_zero, List.set_cons_succ]; rfl))
  refine wpT_nil ?_
  intro w1 hC
  obtain ⟨⟨hC, gM, rfl, hgM, hM⟩, gN, rfl, hgN, hN, hne⟩ := hC
  rotate_left
  apply wpT_fr (fun v w => ∃ g, v = .slice (some ⟨g, 0, none⟩) l.length l.length ∧ W.heap.size ≤ g ∧ NBlk w g (List.replicate l.length 0))
  focus (simp only [List.getElem?_toArray, List.getElem?_cons_zero, List.getElem?_cons_succ]; rfl)
  focus rfl
  focus
    rintro v wa wb hab ⟨g, rfl, hg, hb⟩
    exact ⟨g, rfl, hg, hb.ext hab⟩
  focus
    intro w1 hC Ψ hΨ
    go_simp
    exact hΨ _ _ ((Ext.refl _).alloc _) ⟨_, rfl, hC.size, NBlk.made _ _⟩
  intro v0 a0' ha
  simp only [Act.put, List.setIfInBounds_toArray, List.set_cons_zero, List.set_cons_succ] at ha
  subst ha
  apply wpT_fr (fun v w => ∃ g, v = .slice (some ⟨g, 0, none⟩) l.length l.length ∧ W.heap.size ≤ g ∧ NBlk w g (List.replicate l.length 0) ∧ v ≠ v0)
  focus (simp only [List.getElem?_toArray, List.getElem?_cons_zero, List.getElem?_cons_succ]; rfl)
  focus rfl
  focus
    rintro v wa wb hab ⟨g, rfl, hg, hb, hn⟩
    exact ⟨g, rfl, hg, hb.ext hab, hn⟩
  focus
    intro w1 hC Ψ hΨ
    obtain ⟨hC, g0, rfl, hg0, hb0⟩ := hC
    have HB0 := Lib.hid hb0; clear hb0
    go_simp
    refine hΨ _ _ ((Ext.refl _).alloc _) ⟨_, rfl, hC.size, NBlk.made _ _, ?_⟩
    intro e
    have := HB0.out.lt
    simp at e <;> omega
  intro v1 a1' ha
  simp only [Act.put, List.setIfInBounds_toArray, List.set_cons_zero, List.set_cons_succ] at ha
  subst ha
  iterate 2
    first
      | (apply wpT_no
         focus (simp only [List.getElem?_toArray, List.getElem?_cons_zero, List.getElem?_cons_succ]; rfl)
         focus rfl
         focus (simp only [Act.put, List.setIfInBounds_toArray, List.set_cons_zero, List.set_cons_succ]; rfl))
      | (apply wpT_ex
         focus (simp only [List.getElem?_toArray, List.getElem?_cons_zero, List.getElem?_cons_succ]; rfl)
         focus rfl
         focus
           intro w1 hC Ψ hΨ
           skip
           go_simp; (try (go_bits; (try go_simp)))
           first
             | exact hΨ _ (Ext.refl _)
         focus (simp only [Act.put, List.setIfInBounds_toArray, List.set_cons_zero, List.set_cons_succ]; rfl))
  refine wpT_nil ?_
  intro w1 hC
  obtain ⟨⟨hC, gN, rfl, hgN, hN⟩, gM, rfl, hgM, hM, hne⟩ := hC
  all_goals
    have hE1 := HE.out.trans hC
    have HE1 := Lib.hid hE1; clear hE1 hC
    have hwM : w.heap.size ≤ gM := Nat.le_trans HE.out.size hgM
    have hwN : w.heap.size ≤ gN := Nat.le_trans HE.out.size hgN
    have hMN : gM ≠ gN := by intro e; subst e; exact hne rfl
    clear hne hgM hgN
    have HM := Lib.hid hM; clear hM
    have HN := Lib.hid hN; clear hN
    go_wp2
    go_loopw [11, 12] (fun i _ wr => ∃ (j : Nat) (st : St), j ≤ l.length - 1 ∧ i = .int .i64 ((j : Int) - 1) ∧ Ext w wr ∧ NBlk wr gM st.1 ∧ NBlk wr gN st.2 ∧ st.1.length = l.length ∧ st.2.length = l.length ∧ (∀ m ∈ st.1, m ≤ 20) ∧ outer l s j st = dpF l s) (fun i _ _ => (intOf i + 1).toNat)
    case atStart => exact ⟨l.length - 1, (List.replicate l.length 0, List.replicate l.length 0), Nat.le_refl _, int_eq (by omega), HE1.out, HM.out, HN.out, by simp, by simp, by simp, rfl⟩
    case round =>
      obtain ⟨j, st, hj, rfl, hE, hM, hN, hlM, hlN, hm, hf⟩ := hrel
      have HE2 := Lib.hid hE; clear hE
      have HF := Lib.hid hf; clear hf
      have HL := Lib.hid (And.intro hlM hlN)
      have HM2 := Lib.hid hM; clear hM
      have HN2 := Lib.hid hN; clear hN
      have Hm := Lib.hid hm; clear hm
      cases j with
      | zero =>
        rw [show ((0 : Nat) : Int) - 1 = -1 from rfl]
        have hNf : st.2 = (dpF l s).2 := by have h := HF.out; rw [show outer l s 0 st = st from rfl] at h; rw [h]
        rw [hNf] at HN2
        have hlN' : (dpF l s).2.length = l.length := by rw [← hNf]; exact hlN
        clear hNf hlM hlN HM2
        generalize hNN : (dpF l s).2 = N at *
        have HNN := Lib.hid hNN; clear hNN
        have HLN := Lib.hid hlN'; clear hlN'
        have HB := Lib.hid HE2.out.size
        go_wp2
        have ho := own_one wr w.heap.size (.int .i64 0) HB.out
        have hE3 := HE2.out.alloc (.cells #[.int .i64 0] 3)
        have hN3 := HN2.out.alloc (.cells #[.int .i64 0] 3)
        have hnb : (Value.slice (some ⟨wr.heap.size, 0, none⟩) 1 1).ownBlock ≠ some gN := by have := HN2.out.lt; simp [Value.ownBlock]; omega
        generalize wr.alloc (.cells #[.int .i64 0] 3) = w2 at *
        generalize Value.slice (some ⟨wr.heap.size, 0, none⟩) 1 1 = o2 at *
        have HO3 := Lib.hid ho; clear ho
        have HE3 := Lib.hid hE3; clear hE3
        have HN3 := Lib.hid hN3; clear hN3
        have HNB3 := Lib.hid hnb; clear hnb
        have hth : thinL l s = 0 :: chain N (l.length - 1) l.length 0 := by simp only [thinL, HNN.out]
        have HTH := Lib.hid hth; clear hth
        go_loopw [13, 14] (fun o i w4 => ∃ (m f : Nat) (xs : List Nat), i = .int .i64 (m : Int) ∧ m ≤ l.length - 1 ∧ Ext w w4 ∧ NBlk w4 gN N ∧ w4.ownsRow w.heap.size 3 1 o xs.length (nats xs) ∧ o.ownBlock ≠ some gN ∧ thinL l s = xs ++ chain N (l.length - 1) f m ∧ l.length - 1 - m < f ∧ xs.length ≤ m + 1) (fun _ i _ => l.length - (intOf i).toNat)
        case atStart => exact ⟨0, l.length, [0], rfl, by omega, HE3.out, HN3.out, HO3.out, HNB3.out, HTH.out, by omega, by simp⟩
        case round =>
          obtain ⟨m, f, xs, rfl, hm, hE, hN, hO, hnb, hth, hf, hxm⟩ := hrel
          have HTH := Lib.hid hth; clear hth
          have HE4 := Lib.hid hE; clear hE
          have HN4 := Lib.hid hN; clear hN
          have HO4 := Lib.hid hO; clear hO
          have HNB4 := Lib.hid hnb; clear hnb
          by_cases hlt : m < l.length - 1
          · obtain ⟨f, rfl⟩ : ∃ f', f = f' + 1 := ⟨f - 1, by omega⟩
            have hd := HDP.out m hlt
            have hmN : m < N.length := by rw [HLN.out]; omega
            have k1 : wr.cell? ⟨gN, m, none⟩ = some (.int .i64 ((N.getD m 0 : Nat) : Int)) := by have := HN4.out.cell hmN; rw [this]; simp [hmN]
            have hch := HTH.out
            rw [chain_go hlt] at hch
            have HCH := Lib.hid hch; clear hch hmN
            obtain ⟨d1, d2⟩ := hd
            generalize N.getD m 0 = m2 at *
            have hml : (m : Int) < (l.length : Int) - 1 := by omega
            have hB4 := HE4.out.size
            go_wp2_with (at_builtin; refine wpList_append_own_at _ rfl (.tmp 89) (.tmp 91) 25 rfl w.heap.size 3 i0 (.int .i64 0) 1 8 Try.underlying25 hi0 hz0 hz1 hz2 rfl (by decide) _ _ _ rfl (HO4.out.alloc _) ⟨wr.heap.size, 0, none⟩ 1 1 [.int .i64 (m2 : Int)] rfl rfl (cell_one_new _ _ _) (by simp [Value.oneCell']) (by simp only [maxLen]; omega) (by omega) (by simp; omega) ?_; intro v1 w5 hown1 hgrow1 hnil1 hat1)
            have hb5 : ∀ k, u13.ownBlock = some k → w.heap.size ≤ k := own_base HO4.out
            have hE5 : Ext w w5 := Below.grown (HE4.out.alloc _) hgrow1 (by simp; omega) hb5
            have hN5 : NBlk w5 gN N := (hgrow1.block gN (by have := HN4.out.lt; simp; omega) (fun e => HNB4.out e.symm)).trans (HN4.out.alloc _)
            have hnb5 : v1.ownBlock ≠ some gN := by
              rcases hat1 with e | e
              · rw [e]; exact HNB4.out
              · rw [e]; have := HN4.out.lt; simp; omega
            have HE5 := Lib.hid hE5; clear hE5
            have HN5 := Lib.hid hN5; clear hN5
            have HNB5 := Lib.hid hnb5; clear hnb5
            have HO5 := Lib.hid hown1; clear hown1 hgrow1 hnil1 hat1 hb5
            clear k1
            go_roundw
            case rel => exact ⟨m2, f, xs ++ [m2], rfl, d2, HE5.out, HN5.out, by simpa [nats_snoc] using HO5.out, HNB5.out, by rw [HCH.out]; simp, by omega, by simp; omega⟩
            case measure => simp [intOf] <;> omega
          · have hth2 := HTH.out
            rw [chain_stop (by omega), List.append_nil] at hth2
            have HTH2 := Lib.hid hth2; clear hth2
            go_wp2
            go_ret2
            exact ⟨_, rfl, by rw [HTH2.out]; exact HO4.out, HE4.out⟩
      | succ j =>
        rw [show ((j + 1 : Nat) : Int) - 1 = (j : Int) by omega]
        have hjl : j < st.1.length := by omega
        have k1 : wr.cell? ⟨gM, j, none⟩ = some (.int .i64 ((st.1.getD j 0 : Nat) : Int)) := by have := HM2.out.cell hjl; rw [this]; simp [hjl]
        have k2 := HM2.out.frozen j
        clear hlM hlN
        obtain ⟨wo, hwo⟩ : ∃ wo, wo = wr := ⟨_, rfl⟩
        subst hwo
        go_wp2
        have hM3 := HM2.out.put j l.length
        have hN3 := HN2.out.far (p := ⟨gM, j, none⟩) (by simpa using hMN.symm) (.int .i64 (l.length : Int))
        have hE3 := HE2.out.set (p := ⟨gM, j, none⟩) hwM (.int .i64 (l.length : Int))
        generalize wo.setCell ⟨gM, j, none⟩ (.int .i64 (l.length : Int)) = w2 at *
        have HM3 := Lib.hid hM3; clear hM3
        have HN3 := Lib.hid hN3; clear hN3
        have HE3 := Lib.hid hE3; clear hE3
        clear k1 k2
        go_loopw [12] (fun kk w4 => ∃ (k : Nat) (st2 : St), k ≤ l.length - 1 ∧ kk = .int .i64 (k : Int) ∧ Ext w w4 ∧ NBlk w4 gM st2.1 ∧ NBlk w4 gN st2.2 ∧ st2.1.length = l.length ∧ st2.2.length = l.length ∧ (∀ m ∈ st2.1, m ≤ 20) ∧ inn l s j k st2 = inn l s j (l.length - 1) (st.1.set j l.length, st.2)) (fun kk _ => (intOf kk).toNat)
        case atStart => exact ⟨l.length - 1, (st.1.set j l.length, st.2), Nat.le_refl _, int_eq (by omega), HE3.out, HM3.out, HN3.out, by simp [HL.out.1], by simp [HL.out.2], mem_set_le Hm.out hfew, rfl⟩
        case round =>
          obtain ⟨k, st2, hk, rfl, hE4, hM4, hN4, hlM, hlN, hm4, hf4⟩ := hrel
          have HF4 := Lib.hid hf4; clear hf4
          have HE4 := Lib.hid hE4; clear hE4
          obtain ⟨w4, hw4⟩ : ∃ w4, w4 = wr := ⟨_, rfl⟩
          subst hw4
          have HL4 := Lib.hid (And.intro hlM hlN)
          have HM4 := Lib.hid hM4; clear hM4
          have HN4 := Lib.hid hN4; clear hN4
          have Hm4 := Lib.hid hm4; clear hm4
          by_cases hjk : j < k
          · have hgo := HF4.out
            rw [inn_go hjk] at hgo
            have HGO := Lib.hid hgo; clear hgo
            have hkl : k < st2.1.length := by omega
            have hjl2 : j < st2.1.length := by omega
            have hjn : j < st2.2.length := by omega
            have e1 : w4.cell? ⟨gM, k, none⟩ = some (.int .i64 ((st2.1.getD k 0 : Nat) : Int)) := by have := HM4.out.cell hkl; rw [this]; simp [hkl]
            have e2 : w4.cell? ⟨gM, j, none⟩ = some (.int .i64 ((st2.1.getD j 0 : Nat) : Int)) := by have := HM4.out.cell hjl2; rw [this]; simp [hjl2]
            have e3 : w4.cell? ⟨gN, j, none⟩ = some (.int .i64 ((st2.2.getD j 0 : Nat) : Int)) := by have := HN4.out.cell hjn; rw [this]; simp [hjn]
            have f2 := HM4.out.frozen j
            have f3 := HN4.out.frozen j
            have hmk2 : st2.1.getD k 0 ≤ 20 := Hm4.out _ (by simp [hkl])
            have hstp : stp l s j k st2 = if st2.1.getD k 0 + 1 ≤ st2.1.getD j 0 ∧ spansS l j k s = true then (st2.1.set j (st2.1.getD k 0 + 1), st2.2.set j k) else st2 := rfl
            have hmj : st2.1.getD j 0 ≤ 20 := Hm4.out _ (by simp [hjl2])
            have hjk' : (j : Int) < (k : Int) := by omega
            obtain ⟨sp, hsp⟩ : ∃ b, spansS l j k s = b := ⟨_, rfl⟩
            rw [hsp] at hstp
            have HSP := Lib.hid hsp; clear hsp
            have HSTP := Lib.hid hstp; clear hstp
            have HDG := Lib.hid (show st2.1.getD k 0 = st2.1.getD k 0 from rfl)
            have hw4M : gM < w4.heap.size := HM4.out.lt
            have hw4N : gN < w4.heap.size := HN4.out.lt
            generalize st2.1.getD k 0 = a at *
            generalize st2.1.getD j 0 = b at *
            clear hlM hlN hjl hkl hjl2 hjn HDG
            by_cases hg : a + 1 ≤ b
            · have hgi : (a : Int) + 1 ≤ (b : Int) := by omega
              go_wp2
              refine wp_region_T (R := Ext) (fun w' => Ext (w4) w') [(0, 0), (1, 0), (2, 0), (3, 0), (4, 0), (5, 0), (6, 0), (7, 0), (8, 0), (9, 0), (10, 0), (11, 0), (12, 0), (13, 0), (14, 0), (15, 0), (16, 0)] (by kernel_rfl) (by kernel_rfl) (fun _ _ h k => k.trans h) ((Ext.refl _).drew) ?_
              iterate 17
                first
                  | (apply wpT_no
                     focus (simp only [List.getElem?_toArray, List.getElem?_cons_zero, List.getElem?_cons_succ]; rfl)
                     focus rfl
                     focus (simp only [Act.put, List.setIfInBounds_toArray, List.set_cons_zero, List.set_cons_succ]; rfl))
                  | (apply wpT_ex
                     focus (simp only [List.getElem?_toArray, List.getElem?_cons_zero, List.getElem?_cons_succ]; rfl)
                     focus rfl
                     focus
                       intro w1 hC Ψ hΨ
                       have d1 := hC.cell e1
                       have d2 := hC.cell e2
                       have d3 : (k : Int) < (l.length : Int) := by omega
                       have d4 : (j : Int) < (l.length : Int) := by omega
                       go_simp; (try (go_bits; (try go_simp)))
                       first
                         | exact hΨ _ (Ext.refl _)
                         | (go_at_call 74; refine (spans_b sp l _ _ _ _ _ _ (HH.out.ext (HE4.out.trans hC)) HT.out (by omega) (by omega) HCC.out.1 HCC.out.2 h1 h2 HSP.out).mono ?_; rintro e w2 ⟨rfl, hE2⟩; exact ⟨_, rfl, hΨ _ hE2⟩)
                     focus (simp only [Act.put, List.setIfInBounds_toArray, List.set_cons_zero, List.set_cons_succ]; rfl))
              refine wpT_nil ?_
              intro w5 hC
              have HC5 := Lib.hid hC; clear hC
              have e1' := HC5.out.cell e1
              have e2' := HC5.out.cell e2
              have e3' := HC5.out.cell e3
              have f2' := HC5.out.fz hw4M f2
              have f3' := HC5.out.fz hw4N f3
              have HE5 := Lib.hid (HE4.out.trans HC5.out)
              have HM5 := Lib.hid (HM4.out.ext HC5.out)
              have HN5 := Lib.hid (HN4.out.ext HC5.out)
              clear e1 e2 e3 f2 f3
              cases sp with
              | true =>
                have hq : stp l s j k st2 = (st2.1.set j (a + 1), st2.2.set j k) := by rw [HSTP.out, if_pos ⟨hg, rfl⟩]
                have HQ := Lib.hid hq; clear hq
                have hMN' : gN ≠ gM := hMN.symm
                go_wp2
                have hM6 := (HM5.out.put j (a + 1)).far (p := ⟨gN, j, none⟩) (by simpa using hMN) (.int .i64 (k : Int))
                have hN6 := (HN5.out.far (p := ⟨gM, j, none⟩) (by simpa using hMN') (.int .i64 ((a + 1 : Nat) : Int))).put j k
                have hE6 := (HE5.out.set (p := ⟨gM, j, none⟩) hwM (.int .i64 ((a + 1 : Nat) : Int))).set (p := ⟨gN, j, none⟩) hwN (.int .i64 (k : Int))
                have HM6 := Lib.hid hM6; clear hM6
                have HN6 := Lib.hid hN6; clear hN6
                have HE6 := Lib.hid hE6; clear hE6
                go_roundw
                case rel => exact ⟨k - 1, (st2.1.set j (a + 1), st2.2.set j k), by omega, int_eq (by omega), HE6.out, HM6.out, HN6.out, by simpa using HL4.out.1, by simpa using HL4.out.2, mem_set_le Hm4.out (by omega), by rw [← HQ.out]; exact HGO.out⟩
                case measure => simp [intOf] <;> omega
              | false =>
                have hq : stp l s j k st2 = st2 := by rw [HSTP.out, if_neg (by simp)]
                have HQ := Lib.hid hq; clear hq
                go_wp2
                go_roundw
                case rel => exact ⟨k - 1, st2, by omega, int_eq (by omega), HE5.out, HM5.out, HN5.out, HL4.out.1, HL4.out.2, Hm4.out, by have := HGO.out; rw [HQ.out] at this; exact this⟩
                case measure => simp [intOf] <;> omega
            · have hgi : ¬ ((a : Int) + 1 ≤ (b : Int)) := by omega
              have hq : stp l s j k st2 = st2 := by rw [HSTP.out, if_neg (fun h => hg h.1)]
              have HQ := Lib.hid hq; clear hq
              go_wp2
              refine wp_region_T (R := Ext) (fun w' => Ext (w4) w') [(0, 0), (1, 0), (2, 0), (3, 0), (4, 0), (5, 0), (6, 0), (7, 0), (8, 0), (9, 0), (10, 0), (11, 0), (12, 0), (13, 0), (14, 0), (15, 0), (16, 0)] (by kernel_rfl) (by kernel_rfl) (fun _ _ h k => k.trans h) ((Ext.refl _).drew) ?_
              iterate 17
                first
                  | (apply wpT_no
                     focus (simp only [List.getElem?_toArray, List.getElem?_cons_zero, List.getElem?_cons_succ]; rfl)
                     focus rfl
                     focus (simp only [Act.put, List.setIfInBounds_toArray, List.set_cons_zero, List.set_cons_succ]; rfl))
                  | (apply wpT_ex
                     focus (simp only [List.getElem?_toArray, List.getElem?_cons_zero, List.getElem?_cons_succ]; rfl)
                     focus rfl
                     focus
                       intro w1 hC Ψ hΨ
                       have d1 := hC.cell e1
                       have d2 := hC.cell e2
                       have d3 : (k : Int) < (l.length : Int) := by omega
                       have d4 : (j : Int) < (l.length : Int) := by omega
                       have d5 : ¬ ((a : Int) + 1 ≤ (b : Int)) := by omega
                       go_simp; (try (go_bits; (try go_simp)))
                       first
                         | exact hΨ _ (Ext.refl _)
                     focus (simp only [Act.put, List.setIfInBounds_toArray, List.set_cons_zero, List.set_cons_succ]; rfl))
              refine wpT_nil ?_
              intro w5 hC
              have HC5 := Lib.hid hC; clear hC
              have HE5 := Lib.hid (HE4.out.trans HC5.out)
              have HM5 := Lib.hid (HM4.out.ext HC5.out)
              have HN5 := Lib.hid (HN4.out.ext HC5.out)
              clear e1 e2 e3 f2 f3
              go_wp2
              go_roundw
              case rel => exact ⟨k - 1, st2, by omega, int_eq (by omega), HE5.out, HM5.out, HN5.out, HL4.out.1, HL4.out.2, Hm4.out, by have := HGO.out; rw [HQ.out] at this; exact this⟩
              case measure => simp [intOf] <;> omega
          · have hjk' : ¬ ((j : Int) < (k : Int)) := by omega
            have hq := HF4.out
            rw [inn_stop (by omega)] at hq
            have HQ := Lib.hid hq; clear hq
            go_wp2
            go_roundw
            case rel => exact ⟨j, st2, by omega, rfl, HE4.out, HM4.out, HN4.out, HL4.out.1, HL4.out.2, Hm4.out, by rw [HQ.out]; exact HF.out⟩
            case measure => simp [intOf] <;> omega

set_option maxHeartbeats 1000000 in
theorem Thinned_err (l : List (Int × Int)) (A : Option Addr) (c : Nat) (s : Int) (w : World) (h : RowsS w A l) (h0 : (ckT l).2 ≠ 0) :
    Calls Try.prog 18 #[.slice A l.length c, .int .i64 s] w fun e w' => e = .returned (.tuple #[.slice none 0 0, .int .i64 (ckT l).2]) ∧ Ext w w' := by
  have HH := Lib.hid h; clear h
  have hb : ((ckT l).2 == 0) = false := by simpa using h0
  have hc := checkTable_c l A c w HH.out
  generalize (ckT l).2 = r at *
  have HC := Lib.hid hc; clear hc
  go_enter Try.func18, Try.ntmps18
  go_wp2_with (go_at_call 34; refine HC.out.mono ?_; go_must (rintro e W ⟨rfl, hE1⟩; have HE := Lib.hid hE1; clear hE1))
  go_ret2
  exact ⟨rfl, HE.out⟩
set_option maxHeartbeats 1000000 in
theorem Thinned_range (l : List (Int × Int)) (A : Option Addr) (c : Nat) (s : Int) (w : World) (h : RowsS w A l) (h0 : (ckT l).2 = 0) (h1 : ¬ (0 ≤ s ∧ s ≤ 1000000)) :
    Calls Try.prog 18 #[.slice A l.length c, .int .i64 s] w fun e w' => e = .returned (.tuple #[.slice none 0 0, .int .i64 2]) ∧ Ext w w' := by
  have HH := Lib.hid h; clear h
  have HD := Lib.hid h1; clear h1
  have HR := Lib.hid h0; clear h0
  go_enter Try.func18, Try.ntmps18
  go_wp2_with (first | (go_at_call 34; refine (checkTable_ok_c l A c _ HR.out HH.out).mono ?_; go_must (rintro e W ⟨rfl, hE1⟩; have HE := Lib.hid hE1; clear hE1)) | (go_at_call 73; refine (within_f _ _ _ _ HD.out).mono ?_; rintro e w9 ⟨rfl, rfl⟩))
  go_ret2
  exact ⟨rfl, HE.out⟩
end Go.Proofs.Ytgdcidbpadhkpaa
