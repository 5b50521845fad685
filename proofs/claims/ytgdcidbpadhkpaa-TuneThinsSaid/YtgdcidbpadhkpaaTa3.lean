import Derived.RangeFuncNested
import Derived.RangeFuncBound
import Derived.RangeFuncCalls
import Derived.RangeFuncLeaves
import Derived.Shelf.Abstract
import Derived.Shelf.RegionOpen
import Derived.WalkKit
import Derived.OwnWalkIn
import Derived.TacticsInMore
import Derived.LoopNIn
import Derived.LoopIn
import Derived.Deep.DeepMust
import Derived.Test.YtgdcidbpadhkpaaRange
import Derived.Test.YtgdcidbpadhkpaaTa2
import Derived.Test.YtgdcidbpadhkpaaRegE
set_option linter.unusedVariables false
set_option linter.unusedSimpArgs false
namespace Go.Proofs.Ytgdcidbpadhkpaa
open Go.RowKit Go.Shelf
attribute [local go_sem] Oper.semAt_some
theorem wide_fn (f : FuncId) : Fence.wide.fn f = True := rfl
theorem wide_depth : Fence.wide.depth.isSome = false := rfl
attribute [local go_sem] wide_fn wide_depth

def ArcOk (x : Arc) : Prop := 1 ≤ x.r ∧ x.r ≤ 100000 ∧ 0 ≤ x.lo ∧ x.lo ≤ 1000000000000 ∧ 0 ≤ x.hi ∧ x.hi ≤ 1000000000000
structure Slow where
  le : Int × Int
  mo : Int × Int
  bg : Bool
def slow0 : Slow := ⟨(0, 0), (0, 0), false⟩
def lessB (a b : Int × Int) : Bool := decide (a.1 * b.2 < b.1 * a.2)
def wayP (p : Arc × Arc) : Int := 2 * (p.2.r - p.1.r)
def loP (p : Arc × Arc) : Int × Int := (p.2.lo - p.1.hi, wayP p)
def hiP (p : Arc × Arc) : Int × Int := (p.2.hi - p.1.lo, wayP p)
def slowS (s : Slow) (p : Arc × Arc) : Slow := ⟨if !s.bg || lessB s.le (loP p) then loP p else s.le, if !s.bg || lessB (hiP p) s.mo then hiP p else s.mo, true⟩
def slowL (xs : List (Arc × Arc)) : Slow := xs.foldl slowS slow0
theorem slowL_snoc (xs : List (Arc × Arc)) (p : Arc × Arc) : slowL (xs ++ [p]) = slowS (slowL xs) p := by simp [slowL]

/-- The numbers of a share keep small. -/
def Small (q : Int × Int) : Prop := -1000000000000 ≤ q.1 ∧ q.1 ≤ 1000000000000 ∧ -200000 ≤ q.2 ∧ q.2 ≤ 200000
theorem Small.mul {a b : Int × Int} (ha : Small a) (hb : Small b) : -9223372036854775807 ≤ a.1 * b.2 ∧ a.1 * b.2 ≤ 9223372036854775807 := by
  obtain ⟨a1, a2, -, -⟩ := ha
  obtain ⟨-, -, b1, b2⟩ := hb
  have h1 : (0 : Int) ≤ (1000000000000 - a.1) * (b.2 + 200000) := Int.mul_nonneg (by omega) (by omega)
  have h2 : (0 : Int) ≤ (a.1 + 1000000000000) * (b.2 + 200000) := Int.mul_nonneg (by omega) (by omega)
  have h3 : (0 : Int) ≤ (1000000000000 - a.1) * (200000 - b.2) := Int.mul_nonneg (by omega) (by omega)
  have h4 : (0 : Int) ≤ (a.1 + 1000000000000) * (200000 - b.2) := Int.mul_nonneg (by omega) (by omega)
  rw [Int.sub_mul, Int.mul_add, Int.mul_add] at h1
  rw [Int.add_mul, Int.mul_add, Int.mul_add] at h2
  rw [Int.sub_mul, Int.mul_sub, Int.mul_sub] at h3
  rw [Int.add_mul, Int.mul_sub, Int.mul_sub] at h4
  constructor <;> omega
theorem small_lo {p : Arc × Arc} (h1 : ArcOk p.1) (h2 : ArcOk p.2) : Small (loP p) := by
  unfold ArcOk at h1 h2; unfold Small loP wayP; simp only; omega
theorem small_hi {p : Arc × Arc} (h1 : ArcOk p.1) (h2 : ArcOk p.2) : Small (hiP p) := by
  unfold ArcOk at h1 h2; unfold Small hiP wayP; simp only; omega
theorem pairsTo_ok {l : List Arc} (h : ∀ x ∈ l, ArcOk x) : ∀ k, k ≤ l.length → ∀ p ∈ pairsTo l k, ArcOk p.1 ∧ ArcOk p.2
  | 0, _ => by simp [pairsTo]
  | k + 1, hk => by
    intro p hp
    simp only [pairsTo, List.mem_append, List.mem_map] at hp
    rcases hp with hp | ⟨a, ha, rfl⟩
    · exact pairsTo_ok h k (by omega) p hp
    · exact ⟨h a (List.mem_of_mem_take ha), by rw [show l.getD k ⟨0, 0, 0⟩ = l[k] by simp [show k < l.length by omega]]; exact h _ (List.getElem_mem _)⟩
theorem small_slow : ∀ (xs : List (Arc × Arc)) (s : Slow), Small s.le → Small s.mo → (∀ p ∈ xs, ArcOk p.1 ∧ ArcOk p.2) → Small (xs.foldl slowS s).le ∧ Small (xs.foldl slowS s).mo
  | [], _, h1, h2, _ => ⟨h1, h2⟩
  | p :: xs, s, h1, h2, h => by
    have hp := h p (by simp)
    refine small_slow xs (slowS s p) ?_ ?_ fun q hq => h q (by simp [hq])
    · unfold slowS; dsimp only; split
      · exact small_lo hp.1 hp.2
      · exact h1
    · unfold slowS; dsimp only; split
      · exact small_hi hp.1 hp.2
      · exact h2
theorem small_zero : Small (0, 0) := by unfold Small; simp

theorem less_s {a b : Int × Int} (ha : Small a) (hb : Small b) (w : World) :
    Calls Try.prog 126 #[.agg #[.int .i64 a.1, .int .i64 a.2], .agg #[.int .i64 b.1, .int .i64 b.2]] w fun e w' => e = .returned (.bool (lessB a b)) ∧ Ext w w' :=
  less_c a b w (ha.mul hb).1 (ha.mul hb).2 (hb.mul ha).1 (hb.mul ha).2
def aggP (q : Int × Int) : Value := .agg #[.int .i64 q.1, .int .i64 q.2]
structure SlowW (A : World) (n n1 n2 : Nat) (s : Slow) : Prop where
  le : Blk2 A n (.int .i64 s.le.1) (.int .i64 s.le.2)
  mo : Blk2 A n1 (.int .i64 s.mo.1) (.int .i64 s.mo.2)
  bg : A.cell? ⟨n2, 0, none⟩ = some (.bool s.bg)
  bf : A.frozen? ⟨n2, 0, none⟩ = false
  lt : n2 < A.heap.size
theorem new1 (w : World) (v : Value) (t : TypeId) : (w.alloc (.cells #[v] t)).cell? ⟨w.heap.size, 0, none⟩ = some v ∧ (w.alloc (.cells #[v] t)).frozen? ⟨w.heap.size, 0, none⟩ = false := ⟨by simp, by simp⟩
theorem SlowW.putObj {A : World} {n n1 n2 : Nat} {s : Slow} (h : SlowW A n n1 n2 s) {k : Nat} (hn : n < k) (h1 : n1 < k) (h2 : n2 < k) (o : Obj) : SlowW (A.putObj k o) n n1 n2 s := by
  have hc : ∀ g, g < k → (A.putObj k o).heap[g]? = A.heap[g]? := fun g hg => World.putObj_heap_other (by omega)
  have c : ∀ g x, g < k → (A.putObj k o).cell? ⟨g, x, none⟩ = A.cell? ⟨g, x, none⟩ := fun g x hg => World.cell?_of_block (w := A) (hc g hg)
  have z : ∀ g x, g < k → (A.putObj k o).frozen? ⟨g, x, none⟩ = A.frozen? ⟨g, x, none⟩ := fun g x hg => World.frozen?_of_block (w := A) (hc g hg)
  obtain ⟨⟨a1, a2, a3, a4, a5⟩, ⟨b1, b2, b3, b4, b5⟩, c1, c2, c3⟩ := h
  refine ⟨⟨?_, ?_, ?_, ?_, ?_⟩, ⟨?_, ?_, ?_, ?_, ?_⟩, ?_, ?_, ?_⟩
  · rw [c _ _ (by omega)]; exact a1
  · rw [c _ _ (by omega)]; exact a2
  · rw [z _ _ (by omega)]; exact a3
  · rw [z _ _ (by omega)]; exact a4
  · rw [World.putObj_size]; exact a5
  · rw [c _ _ (by omega)]; exact b1
  · rw [c _ _ (by omega)]; exact b2
  · rw [z _ _ (by omega)]; exact b3
  · rw [z _ _ (by omega)]; exact b4
  · rw [World.putObj_size]; exact b5
  · rw [c _ _ (by omega)]; exact c1
  · rw [z _ _ (by omega)]; exact c2
  · rw [World.putObj_size]; exact c3
theorem SlowW.ext {A B : World} {n n1 n2 : Nat} {s : Slow} (h : SlowW A n n1 n2 s) (hE : Ext A B) : SlowW B n n1 n2 s :=
  ⟨h.le.ext hE, h.mo.ext hE, hE.cell h.bg, hE.fz h.lt h.bf, Nat.lt_of_lt_of_le h.lt hE.size⟩
/-- A write of two cells of another block. -/
theorem Blk2.far {w : World} {g k : Nat} {a b : Value} (h : Blk2 w g a b) (hk : g ≠ k) (u v : Value) : Blk2 ((w.setCell ⟨k, 0, none⟩ u).setCell ⟨k, 1, none⟩ v) g a b :=
  ⟨put2_far h.c0 hk u v 0 1, put2_far h.c1 hk u v 0 1, by simp [h.f0], by simp [h.f1], by simpa using h.lt⟩
theorem SlowW.putLe {A : World} {n n1 n2 : Nat} {s : Slow} (h : SlowW A n n1 n2 s) (h1 : n1 ≠ n) (h2 : n2 ≠ n) (u : Int × Int) : SlowW ((A.setCell ⟨n, 0, none⟩ (.int .i64 u.1)).setCell ⟨n, 1, none⟩ (.int .i64 u.2)) n n1 n2 ⟨u, s.mo, s.bg⟩ :=
  ⟨h.le.put _ _, h.mo.far h1 _ _, put2_far h.bg h2 _ _ 0 1, by simp [h.bf], by simpa using h.lt⟩
theorem SlowW.putMo {A : World} {n n1 n2 : Nat} {s : Slow} (h : SlowW A n n1 n2 s) (h1 : n ≠ n1) (h2 : n2 ≠ n1) (u : Int × Int) : SlowW ((A.setCell ⟨n1, 0, none⟩ (.int .i64 u.1)).setCell ⟨n1, 1, none⟩ (.int .i64 u.2)) n n1 n2 ⟨s.le, u, s.bg⟩ :=
  ⟨h.le.far h1 _ _, h.mo.put _ _, put2_far h.bg h2 _ _ 0 1, by simp [h.bf], by simpa using h.lt⟩
theorem far1 {w : World} {g k o : Nat} {x : Value} (h : w.cell? ⟨g, o, none⟩ = some x) (hk : g ≠ k) (u : Value) (j : Nat) : (w.setCell ⟨k, j, none⟩ u).cell? ⟨g, o, none⟩ = some x :=
  (World.cell?_setCell_other _ _ _ _ (fun e => hk (by injection e with e1; exact e1.symm))).trans h
theorem SlowW.putBg {A : World} {n n1 n2 : Nat} {s : Slow} (h : SlowW A n n1 n2 s) (h1 : n ≠ n2) (h2 : n1 ≠ n2) (b : Bool) : SlowW (A.setCell ⟨n2, 0, none⟩ (.bool b)) n n1 n2 ⟨s.le, s.mo, b⟩ :=
  ⟨⟨far1 h.le.c0 h1 _ 0, far1 h.le.c1 h1 _ 0, by simp [h.le.f0], by simp [h.le.f1], by simpa using h.le.lt⟩, ⟨far1 h.mo.c0 h2 _ 0, far1 h.mo.c1 h2 _ 0, by simp [h.mo.f0], by simp [h.mo.f1], by simpa using h.mo.lt⟩,
    World.cell?_setCell_same _ _ _ h.bg, by simp [h.bf], by simpa using h.lt⟩
/-- In a round: what lay before the loop's own blocks, and what lies from k on, is as it was. -/
structure Round (w V : World) (k : Nat) (A : World) : Prop where
  ext : Ext w A
  size : V.heap.size ≤ A.heap.size
  keep : ∀ g, k ≤ g → g < V.heap.size → A.heap[g]? = V.heap[g]?
theorem Round.start {w V : World} (h : Ext w V) (k : Nat) : Round w V k V := ⟨h, Nat.le_refl _, fun _ _ _ => rfl⟩
theorem Round.grow {w V A B : World} {k : Nat} (h : Round w V k A) (hE : Ext A B) : Round w V k B :=
  ⟨h.ext.trans hE, Nat.le_trans h.size hE.size, fun g hg hv => (hE.block g (Nat.lt_of_lt_of_le hv h.size)).trans (h.keep g hg hv)⟩
theorem Round.set {w V A : World} {k : Nat} (h : Round w V k A) {g : Nat} (hw : w.heap.size ≤ g) (hg : g < k) (o : Nat) (v : Value) : Round w V k (A.setCell ⟨g, o, none⟩ v) :=
  ⟨h.ext.set hw v, by simpa using h.size, fun i hi hv => (Below.heap_setCell _ _ _ _ (by show i ≠ g; omega)).trans (h.keep i hi hv)⟩
theorem Round.new {w V A : World} {k : Nat} (h : Round w V k A) {g : Nat} (hw : w.heap.size ≤ g) (hg : V.heap.size ≤ g) (o : Nat) (v : Value) : Round w V k (A.setCell ⟨g, o, none⟩ v) :=
  ⟨h.ext.set hw v, by simpa using h.size, fun i hi hv => (Below.heap_setCell _ _ _ _ (by show i ≠ g; omega)).trans (h.keep i hi hv)⟩

/-- After the loop. -/
structure DoneW (w : World) (k n n1 n2 : Nat) (s : Slow) (A : World) : Prop where
  ext : Ext w A
  df : A.heap[k]? = some (.deferred (some []))
  sw : SlowW A n n1 n2 s
theorem DoneW.grow {w A B : World} {k n n1 n2 : Nat} {s : Slow} (h : DoneW w k n n1 n2 s A) (hE : Ext A B) : DoneW w k n n1 n2 s B := ⟨h.ext.trans hE, hE.heap h.df, h.sw.ext hE⟩
theorem DoneW.putLe {w A : World} {k n n1 n2 : Nat} {s : Slow} (h : DoneW w k n n1 n2 s A) (hw : w.heap.size ≤ n) (hk : k ≠ n) (h1 : n1 ≠ n) (h2 : n2 ≠ n) : DoneW w k n n1 n2 s ((A.setCell ⟨n, 0, none⟩ (.int .i64 s.le.1)).setCell ⟨n, 1, none⟩ (.int .i64 s.le.2)) :=
  ⟨(h.ext.set hw _).set hw _, ((Below.heap_setCell _ _ _ _ hk).trans (Below.heap_setCell _ _ _ _ hk)).trans h.df, h.sw.putLe h1 h2 s.le⟩
theorem DoneW.putMo {w A : World} {k n n1 n2 : Nat} {s : Slow} (h : DoneW w k n n1 n2 s A) (hw : w.heap.size ≤ n1) (hk : k ≠ n1) (h1 : n ≠ n1) (h2 : n2 ≠ n1) : DoneW w k n n1 n2 s ((A.setCell ⟨n1, 0, none⟩ (.int .i64 s.mo.1)).setCell ⟨n1, 1, none⟩ (.int .i64 s.mo.2)) :=
  ⟨(h.ext.set hw _).set hw _, ((Below.heap_setCell _ _ _ _ hk).trans (Below.heap_setCell _ _ _ _ hk)).trans h.df, h.sw.putMo h1 h2 s.mo⟩

set_option maxRecDepth 100000 in
set_option maxHeartbeats 2000000 in
theorem slowness_c (l : List Arc) (b off c : Nat) (w : World) (hb : b < w.heap.size) (hR : ArcsR w b off l) (hl : l.length ≤ 12) (hc : l.length ≤ c) (hok : ∀ x ∈ l, ArcOk x) :
    Calls Try.prog 107 #[.slice (some ⟨b, off, none⟩) l.length c] w fun e w' =>
      e = .returned (.tuple #[aggP (slowL (pairsTo l l.length)).le, aggP (slowL (pairsTo l l.length)).mo, .bool (!lessB (slowL (pairsTo l l.length)).mo (slowL (pairsTo l l.length)).le)]) ∧ Ext w w' := by
  have hpo := pairsTo_ok hok l.length (Nat.le_refl _)
  obtain ⟨items, hitm⟩ : ∃ items, pairsTo l l.length = items := ⟨_, rfl⟩
  rw [hitm] at hpo ⊢
  have HPO := Lib.hid hpo; clear hpo
  refine (callsIn_wide (n := 1)).1 (callsIn_of_wp_marks Try.func107 rfl trivial ?_ rfl)
  simp only [Try.ntmps107, List.size_toArray, List.length_cons, List.length_nil, Nat.reduceAdd, Nat.reduceSub, Array.replicate_succ, Array.replicate_zero, List.push_toArray, List.append_toArray, List.nil_append, List.cons_append]
  gi_wp2
  obtain ⟨w3, hw3⟩ : ∃ w3, ((w.alloc (.cells #[.int .i64 0, .int .i64 0] 130)).alloc (.cells #[.int .i64 0, .int .i64 0] 130)).alloc (.cells #[.bool false] 4) = w3 := ⟨_, rfl⟩
  have hs3 : w3.heap.size = w.heap.size + 3 := by rw [← hw3]; simp
  have hE3 : Ext w w3 := by rw [← hw3]; exact (((Ext.refl w).alloc _).alloc _).alloc _
  have hS3 : SlowW w3 w.heap.size (w.heap.size + 1) (w.heap.size + 1 + 1) slow0 := by
    subst hw3
    have hq := new1 ((w.alloc (.cells #[.int .i64 0, .int .i64 0] 130)).alloc (.cells #[.int .i64 0, .int .i64 0] 130)) (.bool false) 4
    simp only [World.size_alloc] at hq
    refine ⟨((Blk2.new w (.int .i64 0) (.int .i64 0) 130).ext (((Ext.refl _).alloc _).alloc _)), ?_, hq.1, hq.2, by simp⟩
    have := (Blk2.new (w.alloc (.cells #[.int .i64 0, .int .i64 0] 130)) (.int .i64 0) (.int .i64 0) 130).ext ((Ext.refl _).alloc (.cells #[.bool false] 4))
    simp only [World.size_alloc] at this
    exact this
  have hit := pairs_iter l b off c w.heap.size w3 hb hE3.size (hR.ext hE3) hl hc
  rw [hw3]
  clear hw3
  rw [hitm] at hit
  refine wpIn_range (items := items) (encs := encP) (gf := 108) (lb := #[]) (by go_simp) (fun args w => by rfl) (by omega) hit (fun x => rfl)
    (fun xs A => Ext w A ∧ w.heap.size + 3 ≤ A.heap.size ∧ SlowW A w.heap.size (w.heap.size + 1) (w.heap.size + 1 + 1) (slowL xs)) ?_ ?_ ?_ ⟨hE3, by omega, hS3⟩ ?_ ?_
  · rintro s A B ⟨h1, h2, h3⟩ hx
    exact ⟨h1.trans hx, Nat.le_trans h2 hx.size, h3.ext hx⟩
  · rintro s A k o ⟨h1, h2, h3⟩ hk
    exact ⟨ext_putObj_new h1 (by omega), by rw [World.putObj_size]; exact h2, h3.putObj (by omega) (by omega) (by omega) o⟩
  · rintro s A ⟨h1, _⟩ g hg
    rw [h1.block g hg, hE3.block g hg]
  · rintro m pre p W ⟨h1, h2, h3⟩ hpre hsz
    have hin : ∀ q ∈ pre ++ [p], ArcOk q.1 ∧ ArcOk q.2 := fun q hq => HPO.out q (hpre.subset hq)
    have hp := hin p (by simp)
    have hsm := small_slow pre slow0 small_zero small_zero fun q hq => hin q (by simp [hq])
    have hslo := small_lo hp.1 hp.2
    have hshi := small_hi hp.1 hp.2
    have hsn := slowL_snoc pre p
    change Small (slowL pre).le ∧ Small (slowL pre).mo at hsm
    generalize slowL pre = s at *
    clear hin hpre hitm HPO hit
    have HSN := Lib.hid hsn; clear hsn
    have HP := Lib.hid hp; clear hp
    have HM := Lib.hid (And.intro hsm (And.intro hslo hshi)); clear hsm hslo hshi
    simp only [encP]
    gi_wp2
    refine ⟨((Ext.refl W).alloc _).alloc _, fun o => ?_⟩
    obtain ⟨V, hV, eV, kV⟩ : ∃ V, V = ((W.alloc (.cells #[.int .i64 p.1.r, .int .i64 p.1.lo, .int .i64 p.1.hi] 105)).alloc (.cells #[.int .i64 p.2.r, .int .i64 p.2.lo, .int .i64 p.2.hi] 105)).putObj (w3.heap.size + 1) o ∧ Ext w V ∧ V.heap.size = W.heap.size + 2 :=
      ⟨_, rfl, ext_putObj_new (h1.trans (((Ext.refl W).alloc _).alloc _)) (by omega), by simp [World.putObj_size]⟩
    have hSV : SlowW V w.heap.size (w.heap.size + 1) (w.heap.size + 1 + 1) s := by rw [hV]; exact (h3.ext (((Ext.refl W).alloc _).alloc _)).putObj (by omega) (by omega) (by omega) o
    have hcv : ∀ g x, w3.heap.size + 1 < g → V.cell? ⟨g, x, none⟩ = ((W.alloc (.cells #[.int .i64 p.1.r, .int .i64 p.1.lo, .int .i64 p.1.hi] 105)).alloc (.cells #[.int .i64 p.2.r, .int .i64 p.2.lo, .int .i64 p.2.hi] 105)).cell? ⟨g, x, none⟩ :=
      fun g x hg => by
        have hh : (((W.alloc (.cells #[.int .i64 p.1.r, .int .i64 p.1.lo, .int .i64 p.1.hi] 105)).alloc (.cells #[.int .i64 p.2.r, .int .i64 p.2.lo, .int .i64 p.2.hi] 105)).putObj (w3.heap.size + 1) o).heap[g]? = ((W.alloc (.cells #[.int .i64 p.1.r, .int .i64 p.1.lo, .int .i64 p.1.hi] 105)).alloc (.cells #[.int .i64 p.2.r, .int .i64 p.2.lo, .int .i64 p.2.hi] 105)).heap[g]? := World.putObj_heap_other (by omega)
        rw [hV]; exact World.cell?_of_block hh
    have a0 : V.cell? ⟨W.heap.size, 0, none⟩ = some (.int .i64 p.1.r) := by rw [hcv _ _ (by omega)]; simp
    have a1 : V.cell? ⟨W.heap.size, 1, none⟩ = some (.int .i64 p.1.lo) := by rw [hcv _ _ (by omega)]; simp
    have a2 : V.cell? ⟨W.heap.size, 2, none⟩ = some (.int .i64 p.1.hi) := by rw [hcv _ _ (by omega)]; simp
    have b0 : V.cell? ⟨W.heap.size + 1, 0, none⟩ = some (.int .i64 p.2.r) := by rw [hcv _ _ (by omega)]; simp
    have b1 : V.cell? ⟨W.heap.size + 1, 1, none⟩ = some (.int .i64 p.2.lo) := by rw [hcv _ _ (by omega)]; simp
    have b2 : V.cell? ⟨W.heap.size + 1, 2, none⟩ = some (.int .i64 p.2.hi) := by rw [hcv _ _ (by omega)]; simp
    rw [← hV]
    clear hV hcv h3
    have hE1 := h1; clear h1
    generalize W.heap.size = gA at *
    have hRd := Round.start eV w3.heap.size
    have hnn : w.heap.size < w.heap.size + 1 ∧ w.heap.size + 1 < w.heap.size + 1 + 1 ∧ w.heap.size + 1 + 1 < w3.heap.size ∧ w3.heap.size + 1 < gA := by omega
    generalize w.heap.size + 1 + 1 = n2 at *
    generalize w.heap.size + 1 = n1 at *
    obtain ⟨i1, i2, i3, i4, i5, i6⟩ := HP.out.1
    obtain ⟨j1, j2, j3, j4, j5, j6⟩ := HP.out.2
    have HAB := Lib.hid (And.intro a0 (And.intro a1 (And.intro a2 (And.intro b0 (And.intro b1 b2)))))
    gi_wp2
    refine wpIn_region_E2 (fun w' => Ext (V) w') [0, 1, 2, 3, 4, 5, 6, 7, 8, 9, 10, 11, 12, 13, 14, 15, 16, 17] 9 10 (by kernel_rfl) (by kernel_rfl) ((Ext.refl _).drew) ?_
    iterate 18
      first
        | (apply wpE_no
           focus (simp only [List.getElem?_toArray, List.getElem?_cons_zero, List.getElem?_cons_succ]; rfl)
           focus rfl
           focus (simp only [Act.put, List.setIfInBounds_toArray, List.set_cons_zero, List.set_cons_succ]; rfl))
        | (apply wpE_ex
           focus (simp only [List.getElem?_toArray, List.getElem?_cons_zero, List.getElem?_cons_succ]; rfl)
           focus rfl
           focus
             intro w1 hC Ψ hΨ
             have d := hSV.ext hC
             have q0 := hC.cell a0
             have q1 := hC.cell a1
             have q2 := hC.cell a2
             have q3 := hC.cell b0
             have q4 := hC.cell b1
             have q5 := hC.cell b2
             go_simp; (try (go_bits; (try go_simp)))
             exact hΨ
           focus (simp only [Act.put, List.setIfInBounds_toArray, List.set_cons_zero, List.set_cons_succ]; rfl))
    refine wpE_nil ?_
    refine ⟨fun v v' w' => Ext V w' ∧ ∃ g g', v = .pointer (some ⟨g, 0, none⟩) ∧ v' = .pointer (some ⟨g', 0, none⟩) ∧ g ≠ g' ∧ V.heap.size ≤ g ∧ V.heap.size ≤ g' ∧ Blk2 w' g (.int .i64 (loP p).1) (.int .i64 (loP p).2) ∧ Blk2 w' g' (.int .i64 (hiP p).1) (.int .i64 (hiP p).2), ?_, ?_⟩
    · change wpC _ _ _ _ _ 4 _ _ _
      refine wpC_two (i := 18) (j := 19) (by kernel_rfl) rfl rfl rfl rfl rfl rfl ?_ ?_
      · intro Ψ hΨ
        go_simp
        refine hΨ _ _ ((Ext.refl _).drew.alloc _) ?_
        clear hΨ
        refine wpC_one (i := 19) (by kernel_rfl) rfl rfl rfl ?_
        intro Ψ hΨ
        go_simp
        refine hΨ _ _ (((Ext.refl _).drew.alloc _).alloc _) ?_
        clear hΨ
        refine wpC_one (i := 20) (by kernel_rfl) rfl rfl rfl ?_
        intro Ψ hΨ
        go_simp
        refine hΨ _ _ (((Ext.refl _).drew.alloc _).alloc _) ?_
        clear hΨ
        refine wpC_one (i := 21) (by kernel_rfl) rfl rfl rfl ?_
        intro Ψ hΨ
        go_simp
        refine hΨ _ _ (((Ext.refl _).drew.alloc _).alloc _) ?_
        clear hΨ
        refine wpC_done (by kernel_rfl) ⟨_, _, rfl, ((Ext.refl _).drew.alloc _).alloc _, _, _, rfl, rfl, by omega, by omega, by omega, ?_, ?_⟩ _
        · rw [← kV]; exact (Blk2.new V _ _ 130).ext (((Ext.refl _).alloc _).drew)
        · rw [← kV]; have h := (Blk2.new (V.alloc (.cells #[.int .i64 (p.2.lo - p.1.hi), .int .i64 (2 * (p.2.r - p.1.r))] 130)) (.int .i64 (p.2.hi - p.1.lo)) (.int .i64 (2 * (p.2.r - p.1.r))) 130).ext ((Ext.refl _).drew); rw [World.size_alloc] at h; exact h
      · intro Ψ hΨ
        go_simp
        refine hΨ _ _ ((Ext.refl _).drew.alloc _) ?_
        clear hΨ
        refine wpC_one (i := 18) (by kernel_rfl) rfl rfl rfl ?_
        intro Ψ hΨ
        go_simp
        refine hΨ _ _ (((Ext.refl _).drew.alloc _).alloc _) ?_
        clear hΨ
        refine wpC_one (i := 20) (by kernel_rfl) rfl rfl rfl ?_
        intro Ψ hΨ
        go_simp
        refine hΨ _ _ (((Ext.refl _).drew.alloc _).alloc _) ?_
        clear hΨ
        refine wpC_one (i := 21) (by kernel_rfl) rfl rfl rfl ?_
        intro Ψ hΨ
        go_simp
        refine hΨ _ _ (((Ext.refl _).drew.alloc _).alloc _) ?_
        clear hΨ
        refine wpC_done (by kernel_rfl) ⟨_, _, rfl, ((Ext.refl _).drew.alloc _).alloc _, _, _, rfl, rfl, by omega, by omega, by omega, ?_, ?_⟩ _
        · rw [← kV]; have h := (Blk2.new (V.alloc (.cells #[.int .i64 (p.2.hi - p.1.lo), .int .i64 (2 * (p.2.r - p.1.r))] 130)) (.int .i64 (p.2.lo - p.1.hi)) (.int .i64 (2 * (p.2.r - p.1.r))) 130).ext ((Ext.refl _).drew); rw [World.size_alloc] at h; exact h
        · rw [← kV]; exact (Blk2.new V _ _ 130).ext (((Ext.refl _).alloc _).drew)
    · rintro v v' w1 ⟨hC, g9, g10, rfl, rfl, hne, hg9, hg10, B9, B10⟩
      simp only [Act.put, List.setIfInBounds_toArray, List.set_cons_zero, List.set_cons_succ]
      have hR1 := hRd.grow hC
      have hS1 := hSV.ext hC
      have hb10 := B10.lt
      have hb9 := B9.lt
      have HS1 := Lib.hid (And.intro hR1 (And.intro hS1 (And.intro B9 B10))); clear hC hR1
      clear hS1 B9 B10
      clear a0 a1 a2 b0 b1 b2 hRd hSV
      have e1 : g9 ≠ w.heap.size := by omega
      have e2 : g10 ≠ w.heap.size := by omega
      have e3 : g9 ≠ n1 := by omega
      have e4 : g10 ≠ n1 := by omega
      have e5 : g9 ≠ n2 := by omega
      have e6 : g10 ≠ n2 := by omega
      have e7 : w.heap.size ≠ n1 := by omega
      have e8 : w.heap.size ≠ n2 := by omega
      have e9 : n1 ≠ n2 := by omega
      cases hbg : s.bg with
      | false =>
        obtain ⟨hRx, hSx, B9x, B10x⟩ := HS1.out
        obtain ⟨⟨x1, x2, x3, x4, x5⟩, ⟨y1, y2, y3, y4, y5⟩, z1, z2, z3⟩ := hSx
        obtain ⟨u1, u2, u3, u4, u5⟩ := B9x
        obtain ⟨t1, t2, t3, t4, t5⟩ := B10x
        clear hRx
        rw [hbg] at z1
        gi_wp2
        have hF : slowS s p = ⟨loP p, hiP p, true⟩ := by simp [slowS, *]
        have r := (((((HS1.out.1.set (g := w.heap.size) (by omega) (by omega) 0 (.int .i64 (loP p).1)).set (g := w.heap.size) (by omega) (by omega) 1 (.int .i64 (loP p).2)).set (g := n1) (by omega) (by omega) 0 (.int .i64 (hiP p).1)).set (g := n1) (by omega) (by omega) 1 (.int .i64 (hiP p).2)).set (g := n2) (by omega) (by omega) 0 (.bool true))
        have q := (((HS1.out.2.1.putLe (by omega) (by omega) (loP p)).putMo (by omega) (by omega) (hiP p)).putBg (by omega) (by omega) true)
        exact ⟨⟨r.ext, (by have := r.size; omega), (by rw [HSN.out, hF]; exact q)⟩, r.size, r.keep⟩
      | true =>
        obtain ⟨hRx, hSx, B9x, B10x⟩ := HS1.out
        obtain ⟨⟨x1, x2, x3, x4, x5⟩, ⟨y1, y2, y3, y4, y5⟩, z1, z2, z3⟩ := hSx
        obtain ⟨u1, u2, u3, u4, u5⟩ := B9x
        obtain ⟨t1, t2, t3, t4, t5⟩ := B10x
        clear hRx
        rw [hbg] at z1
        gi_wp2
        obtain ⟨hRo, hSo, hB9, hB10⟩ := HS1.out
        clear x1 x2 x3 x4 x5 y1 y2 y3 y4 y5 z1 z2 z3 u1 u2 u3 u4 u5 t1 t2 t3 t4 t5
        refine CallsIn.inRound _ (callsIn_wide.2 ((less_s HM.out.1.1 HM.out.2.1 _).mono ?_))
        rintro e A2 ⟨rfl, hE2⟩
        have HS2 := Lib.hid (And.intro (hRo.grow hE2) (And.intro (hSo.ext hE2) (And.intro (hB9.ext hE2) (hB10.ext hE2))))
        clear hE2
        clear hRo hSo hB9 hB10
        cases hl1 : lessB s.le (loP p) with
        | false =>
          obtain ⟨hRx, hSx, B9x, B10x⟩ := HS2.out
          obtain ⟨⟨x1, x2, x3, x4, x5⟩, ⟨y1, y2, y3, y4, y5⟩, z1, z2, z3⟩ := hSx
          obtain ⟨u1, u2, u3, u4, u5⟩ := B9x
          obtain ⟨t1, t2, t3, t4, t5⟩ := B10x
          clear hRx
          rw [hbg] at z1
          gi_wp2
          obtain ⟨hRo, hSo, hB9, hB10⟩ := HS2.out
          clear x1 x2 x3 x4 x5 y1 y2 y3 y4 y5 z1 z2 z3 u1 u2 u3 u4 u5 t1 t2 t3 t4 t5
          refine CallsIn.inRound _ (callsIn_wide.2 ((less_s HM.out.2.2 HM.out.1.2 _).mono ?_))
          rintro e A3 ⟨rfl, hE2⟩
          have HS3 := Lib.hid (And.intro (hRo.grow hE2) (And.intro (hSo.ext hE2) (And.intro (hB9.ext hE2) (hB10.ext hE2))))
          clear hE2
          clear hRo hSo hB9 hB10
          cases hl2 : lessB (hiP p) s.mo with
          | false =>
            obtain ⟨hRx, hSx, B9x, B10x⟩ := HS3.out
            obtain ⟨⟨x1, x2, x3, x4, x5⟩, ⟨y1, y2, y3, y4, y5⟩, z1, z2, z3⟩ := hSx
            obtain ⟨u1, u2, u3, u4, u5⟩ := B9x
            obtain ⟨t1, t2, t3, t4, t5⟩ := B10x
            clear hRx
            rw [hbg] at z1
            gi_wp2
            have hF : slowS s p = ⟨s.le, s.mo, true⟩ := by simp [slowS, *]
            have r := (HS3.out.1.set (g := n2) (by omega) (by omega) 0 (.bool true))
            have q := (HS3.out.2.1.putBg (by omega) (by omega) true)
            exact ⟨⟨r.ext, (by have := r.size; omega), (by rw [HSN.out, hF]; exact q)⟩, r.size, r.keep⟩
          | true =>
            obtain ⟨hRx, hSx, B9x, B10x⟩ := HS3.out
            obtain ⟨⟨x1, x2, x3, x4, x5⟩, ⟨y1, y2, y3, y4, y5⟩, z1, z2, z3⟩ := hSx
            obtain ⟨u1, u2, u3, u4, u5⟩ := B9x
            obtain ⟨t1, t2, t3, t4, t5⟩ := B10x
            clear hRx
            rw [hbg] at z1
            gi_wp2
            have hF : slowS s p = ⟨s.le, hiP p, true⟩ := by simp [slowS, *]
            have r := (((HS3.out.1.set (g := n1) (by omega) (by omega) 0 (.int .i64 (hiP p).1)).set (g := n1) (by omega) (by omega) 1 (.int .i64 (hiP p).2)).set (g := n2) (by omega) (by omega) 0 (.bool true))
            have q := ((HS3.out.2.1.putMo (by omega) (by omega) (hiP p)).putBg (by omega) (by omega) true)
            exact ⟨⟨r.ext, (by have := r.size; omega), (by rw [HSN.out, hF]; exact q)⟩, r.size, r.keep⟩

        | true =>
          obtain ⟨hRx, hSx, B9x, B10x⟩ := HS2.out
          obtain ⟨⟨x1, x2, x3, x4, x5⟩, ⟨y1, y2, y3, y4, y5⟩, z1, z2, z3⟩ := hSx
          obtain ⟨u1, u2, u3, u4, u5⟩ := B9x
          obtain ⟨t1, t2, t3, t4, t5⟩ := B10x
          clear hRx
          rw [hbg] at z1
          gi_wp2
          have hRo := (HS2.out.1.set (g := w.heap.size) (by omega) (by omega) 0 (.int .i64 (loP p).1)).set (g := w.heap.size) (by omega) (by omega) 1 (.int .i64 (loP p).2)
          have hSo := HS2.out.2.1.putLe (by omega) (by omega) (loP p)
          have hB9 := HS2.out.2.2.1.far e1 (.int .i64 (loP p).1) (.int .i64 (loP p).2)
          have hB10 := HS2.out.2.2.2.far e2 (.int .i64 (loP p).1) (.int .i64 (loP p).2)
          clear x1 x2 x3 x4 x5 y1 y2 y3 y4 y5 z1 z2 z3 u1 u2 u3 u4 u5 t1 t2 t3 t4 t5
          refine CallsIn.inRound _ (callsIn_wide.2 ((less_s HM.out.2.2 HM.out.1.2 _).mono ?_))
          rintro e A3 ⟨rfl, hE2⟩
          have HS3 := Lib.hid (And.intro (hRo.grow hE2) (And.intro (hSo.ext hE2) (And.intro (hB9.ext hE2) (hB10.ext hE2))))
          clear hE2
          clear hRo hSo hB9 hB10
          cases hl2 : lessB (hiP p) s.mo with
          | false =>
            obtain ⟨hRx, hSx, B9x, B10x⟩ := HS3.out
            obtain ⟨⟨x1, x2, x3, x4, x5⟩, ⟨y1, y2, y3, y4, y5⟩, z1, z2, z3⟩ := hSx
            obtain ⟨u1, u2, u3, u4, u5⟩ := B9x
            obtain ⟨t1, t2, t3, t4, t5⟩ := B10x
            clear hRx
            rw [hbg] at z1
            gi_wp2
            have hF : slowS s p = ⟨loP p, s.mo, true⟩ := by simp [slowS, *]
            have r := (HS3.out.1.set (g := n2) (by omega) (by omega) 0 (.bool true))
            have q := (HS3.out.2.1.putBg (by omega) (by omega) true)
            exact ⟨⟨r.ext, (by have := r.size; omega), (by rw [HSN.out, hF]; exact q)⟩, r.size, r.keep⟩
          | true =>
            obtain ⟨hRx, hSx, B9x, B10x⟩ := HS3.out
            obtain ⟨⟨x1, x2, x3, x4, x5⟩, ⟨y1, y2, y3, y4, y5⟩, z1, z2, z3⟩ := hSx
            obtain ⟨u1, u2, u3, u4, u5⟩ := B9x
            obtain ⟨t1, t2, t3, t4, t5⟩ := B10x
            clear hRx
            rw [hbg] at z1
            gi_wp2
            have hF : slowS s p = ⟨loP p, hiP p, true⟩ := by simp [slowS, *]
            have r := (((HS3.out.1.set (g := n1) (by omega) (by omega) 0 (.int .i64 (hiP p).1)).set (g := n1) (by omega) (by omega) 1 (.int .i64 (hiP p).2)).set (g := n2) (by omega) (by omega) 0 (.bool true))
            have q := ((HS3.out.2.1.putMo (by omega) (by omega) (hiP p)).putBg (by omega) (by omega) true)
            exact ⟨⟨r.ext, (by have := r.size; omega), (by rw [HSN.out, hF]; exact q)⟩, r.size, r.keep⟩


  · rintro W ⟨h1, h2, h3⟩ hlt hdf
    have hsm := small_slow items slow0 small_zero small_zero HPO.out
    change Small (slowL items).le ∧ Small (slowL items).mo at hsm
    obtain ⟨s, hsl⟩ : ∃ s, slowL items = s := ⟨_, rfl⟩
    rw [hsl] at hsm h3
    have HSL := Lib.hid hsl; clear hsl
    have HM := Lib.hid hsm; clear hsm hit HPO hS3
    have hnn : w.heap.size < w.heap.size + 1 ∧ w.heap.size + 1 < w.heap.size + 1 + 1 ∧ w.heap.size + 1 + 1 < w3.heap.size := by omega
    generalize w.heap.size + 1 + 1 = n2 at *
    generalize w.heap.size + 1 = n1 at *
    gi_wp2
    refine wpIn_wide.2 ?_
    have hD : DoneW w w3.heap.size w.heap.size n1 n2 s W := ⟨h1, hdf, h3⟩
    clear h1 hdf h3 hlt h2 hitm
    refine wp_region_T (R := fun x y => DoneW w w3.heap.size w.heap.size n1 n2 s x → DoneW w w3.heap.size w.heap.size n1 n2 s y) (DoneW w w3.heap.size w.heap.size n1 n2 s) [(0, 0), (1, 0), (2, 0), (3, 0), (4, 0), (5, 0), (6, 0), (7, 0), (8, 0)] (by kernel_rfl) (by kernel_rfl) (fun _ _ h k => h k) (hD.grow (Ext.refl _).drew) ?_
    iterate 9
      first
        | (apply wpT_no
           focus (simp only [List.getElem?_toArray, List.getElem?_cons_zero, List.getElem?_cons_succ]; rfl)
           focus rfl
           focus (simp only [Act.put, List.setIfInBounds_toArray, List.set_cons_zero, List.set_cons_succ]; rfl))
        | (apply wpT_ex
           focus (simp only [List.getElem?_toArray, List.getElem?_cons_zero, List.getElem?_cons_succ]; rfl)
           focus rfl
           focus
             intro w1 hC Ψ hΨ
             obtain ⟨⟨x1, x2, x3, x4, x5⟩, ⟨y1, y2, y3, y4, y5⟩, z1, z2, z3⟩ := hC.sw
             go_simp
             first
               | exact hΨ _ (fun h => h)
               | exact hΨ _ (fun h => h.putLe (by omega) (by omega) (by omega) (by omega))
               | exact hΨ _ (fun h => h.putMo (by omega) (by omega) (by omega) (by omega))
               | (go_at_call 126; refine (less_s HM.out.2 HM.out.1 _).mono ?_; rintro e w2 ⟨rfl, hE2⟩; exact ⟨_, rfl, hΨ _ (fun h => h.grow hE2)⟩)
           focus (simp only [Act.put, List.setIfInBounds_toArray, List.set_cons_zero, List.set_cons_succ]; rfl))
    refine wpT_nil ?_
    intro w1 hC
    obtain ⟨hE, hdf, hSW⟩ := hC
    gi_wp2
    refine ⟨by simp, .inl ⟨_, _, rfl, run_takeDeferred hdf, ?_⟩⟩
    have hP := hSW.putObj (k := w3.heap.size) (by omega) (by omega) (by omega) (.deferred none)
    have hEP : Ext w (w1.putObj w3.heap.size (.deferred none)) := ext_putObj_new hE (by omega)
    generalize w1.putObj w3.heap.size (.deferred none) = w9 at *
    obtain ⟨⟨x1, x2, x3, x4, x5⟩, ⟨y1, y2, y3, y4, y5⟩, z1, z2, z3⟩ := hP
    refine ⟨.tuple #[aggP s.le, aggP s.mo, .bool (!lessB s.mo s.le)], ?_, by rw [HSL.out], hEP⟩
    simp [results, Try.results107, go_sem, x1, x2, y1, y2, aggP]
end Go.Proofs.Ytgdcidbpadhkpaa
