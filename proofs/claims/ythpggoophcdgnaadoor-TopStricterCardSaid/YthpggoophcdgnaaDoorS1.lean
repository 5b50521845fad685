/- Contracts over the abstract machine: chapter 9: marks, boxes, rows. Conditions: none. -/
import Derived.Test.YthpggoophcdgnaaDoorFacts
import Derived.Test.YthpggoophcdgnaaDoorAmF
import Derived.WalkKit
set_option linter.unusedVariables false
set_option linter.unusedSimpArgs false
-- mini
namespace Go.Proofs.YthpggoophcdgnaaDoor.Am.M
open Go

def iC (x : Int) : List D := [.v (.int .i64 x)]
def inR (lo n hi : Int) : Bool := decide (lo ≤ n) && decide (n ≤ hi)
def qtL : List Value := [.int .i64 9, .int .i64 20000, .int .i64 20000, .int .i64 20000, .int .i64 100000, .int .i64 200]
def lsL : List Value := [.int .i64 3, .int .i64 4, .int .i64 5]
def dbN : List Int := [0, 1, 56, 2, 57, 49, 28, 3, 61, 58, 42, 50, 38, 29, 17, 4, 62, 47, 59, 36, 45, 43, 51, 22, 53, 39, 33, 30, 24, 18, 12, 5, 63, 55, 48, 27, 60, 41, 37, 16, 46, 35, 44, 21, 52, 32, 23, 11, 54, 26, 40, 15, 34, 20, 31, 10, 25, 14, 19, 9, 13, 8, 7, 6]
def holdsG (g : Nat) (us : List Value) (w : World) : Prop := ∀ (j : Nat) (u : Value), us[j]? = some u → w.cell? ⟨g, j, none⟩ = some u
def NGB : Nat := 3
def GW (w : World) : Prop := holdsG 0 qtL w ∧ holdsG 1 lsL w ∧ holdsG 2 (dbN.map fun n => Value.int .u8 n) w
def GB (w : World) : Prop := GW w ∧ NGB ≤ w.heap.size
theorem gw_keep : GKeep GW := fun w w' ⟨h1, h2, h3⟩ hE => ⟨fun j u h => hE.cell (h1 j u h), fun j u h => hE.cell (h2 j u h), fun j u h => hE.cell (h3 j u h)⟩
theorem gb_low : GLow NGB GB := ⟨fun w h => h.2, fun w w' ⟨⟨h1, h2, h3⟩, hn⟩ hs hk => by
  have key : ∀ (g : Nat) (us : List Value), g < NGB → holdsG g us w → holdsG g us w' := fun g us hg h j u hu => by
    have q := h j u hu
    unfold World.cell? at *
    rw [show w'.heap[g]? = w.heap[g]? from hk _ hg]; exact q
  exact ⟨⟨key _ _ (by decide) h1, key _ _ (by decide) h2, key _ _ (by decide) h3⟩, Nat.le_trans hn hs⟩⟩
structure Mk where
  x0 : Int
  x1 : Int
  x2 : Int
  x3 : Int
  x4 : Int
  x5 : Int
structure Bx where
  r0 : Int × Int
  r1 : Int × Int
  r2 : Int × Int
  r3 : Int × Int
  r4 : Int × Int
  r5 : Int × Int
structure Rw where
  bx : Bx
  de : Int
structure Cd where
  nm : ByteArray
  ex : List Rw
  ro : List Rw
def iv (n : Int) : D := .v (.int .i64 n)
def mkC (m : Mk) : List D := [iv m.x0, iv m.x1, iv m.x2, iv m.x3, iv m.x4, iv m.x5]
def rgC (r : Int × Int) : List D := [iv r.1, iv r.2]
def bxC (b : Bx) : List D := [iv b.r0.1, iv b.r0.2, iv b.r1.1, iv b.r1.2, iv b.r2.1, iv b.r2.2, iv b.r3.1, iv b.r3.2, iv b.r4.1, iv b.r4.2, iv b.r5.1, iv b.r5.2]
def rwC (r : Rw) : List D := [iv r.bx.r0.1, iv r.bx.r0.2, iv r.bx.r1.1, iv r.bx.r1.2, iv r.bx.r2.1, iv r.bx.r2.2, iv r.bx.r3.1, iv r.bx.r3.2, iv r.bx.r4.1, iv r.bx.r4.2, iv r.bx.r5.1, iv r.bx.r5.2, iv r.de]
def cdC (c : Cd) : List D := [.v (.string c.nm), .sl 13 (c.ex.map rwC), .sl 13 (c.ro.map rwC)]
def Mk.at (m : Mk) : Nat → Int | 0 => m.x0 | 1 => m.x1 | 2 => m.x2 | 3 => m.x3 | 4 => m.x4 | _ => m.x5
def Bx.at (b : Bx) : Nat → Int × Int | 0 => b.r0 | 1 => b.r1 | 2 => b.r2 | 3 => b.r3 | 4 => b.r4 | _ => b.r5
def gr : Nat → Int | 0 => 9 | 1 => 20000 | 2 => 20000 | 3 => 20000 | 4 => 100000 | _ => 200
theorem lt6 {k : Nat} (h : k < 6) : k = 0 ∨ k = 1 ∨ k = 2 ∨ k = 3 ∨ k = 4 ∨ k = 5 := by omega
theorem mk_at (m : Mk) {k : Nat} (h : k < 6) : (mkC m)[0 + (k : Int).toNat * 1]? = some (iv (m.at k)) := by
  rcases lt6 h with rfl | rfl | rfl | rfl | rfl | rfl <;> rfl
theorem bx_lo (b : Bx) {k : Nat} (h : k < 6) : (bxC b)[0 + (k : Int).toNat * 2 + 0]? = some (iv (b.at k).1) := by
  rcases lt6 h with rfl | rfl | rfl | rfl | rfl | rfl <;> rfl
theorem bx_hi (b : Bx) {k : Nat} (h : k < 6) : (bxC b)[0 + (k : Int).toNat * 2 + 1]? = some (iv (b.at k).2) := by
  rcases lt6 h with rfl | rfl | rfl | rfl | rfl | rfl <;> rfl
theorem bx_rg (b : Bx) {k : Nat} (h : k < 6) : ((bxC b).drop (0 + (k : Int).toNat * 2)).take 2 = rgC (b.at k) := by
  rcases lt6 h with rfl | rfl | rfl | rfl | rfl | rfl <;> rfl
theorem qt_at {k : Nat} (h : k < 6) : (qtL.map D.v)[(k : Int).toNat]? = some (.v (.int .i64 (gr k))) := by
  rcases lt6 h with rfl | rfl | rfl | rfl | rfl | rfl <;> rfl
def six (e : Nat → Int) : Nat → Int
  | 0 => 0
  | k + 1 => if e (5 - k) = 0 then six e k else e (5 - k)
theorem six_at {e : Nat → Int} {k : Nat} (hk : k < 6) (h0 : ∀ i, i < k → e i = 0) (h : e k ≠ 0) : six e 6 = e k := by
  have h1 := fun i hi => h0 i hi
  unfold six
  rcases lt6 hk with rfl | rfl | rfl | rfl | rfl | rfl
  all_goals simp only [six, h1, Nat.reduceSub, Nat.reduceLT, h, if_true, if_false]
theorem six_ok {e : Nat → Int} (h0 : ∀ i, i < 6 → e i = 0) : six e 6 = 0 := by
  have h1 := fun i hi => h0 i hi
  simp only [six, h1, Nat.reduceSub, Nat.reduceLT, if_true]
theorem six_all {e : Nat → Int} (h : six e 6 = 0) : ∀ i, i < 6 → e i = 0 := by
  intro i hi
  apply Classical.byContradiction
  intro hn
  have : ∃ k, k < 6 ∧ (∀ i, i < k → e i = 0) ∧ e k ≠ 0 := by
    by_cases g0 : e 0 = 0
    · by_cases g1 : e 1 = 0
      · by_cases g2 : e 2 = 0
        · by_cases g3 : e 3 = 0
          · by_cases g4 : e 4 = 0
            · by_cases g5 : e 5 = 0
              · exfalso; rcases lt6 hi with rfl | rfl | rfl | rfl | rfl | rfl <;> contradiction
              · exact ⟨5, by decide, fun i hi => by match i, hi with | 0, _ => exact g0 | 1, _ => exact g1 | 2, _ => exact g2 | 3, _ => exact g3 | 4, _ => exact g4, g5⟩
            · exact ⟨4, by decide, fun i hi => by match i, hi with | 0, _ => exact g0 | 1, _ => exact g1 | 2, _ => exact g2 | 3, _ => exact g3, g4⟩
          · exact ⟨3, by decide, fun i hi => by match i, hi with | 0, _ => exact g0 | 1, _ => exact g1 | 2, _ => exact g2, g3⟩
        · exact ⟨2, by decide, fun i hi => by match i, hi with | 0, _ => exact g0 | 1, _ => exact g1, g2⟩
      · exact ⟨1, by decide, fun i hi => by match i, hi with | 0, _ => exact g0, g1⟩
    · exact ⟨0, by decide, fun i hi => by omega, g0⟩
  obtain ⟨k, hk, h1, h2⟩ := this
  rw [six_at hk h1 h2] at h
  exact h2 h
theorem and_f {p q : Bool} (h : p = false ∨ q = false) : ¬ (p && q) = true := by rcases h with h | h <;> simp [h]
def mkE (m : Mk) (k : Nat) : Int := if inR 0 (m.at k) (gr k) = true then 0 else 2
def ckMk (m : Mk) : Int := six (mkE m) 6
def bxE (b : Bx) (k : Nat) : Int := if (inR 0 (b.at k).1 (gr k) && inR 0 (b.at k).2 (gr k)) = true then (if (b.at k).1 > (b.at k).2 then 9 else 0) else 2
def ckBx (b : Bx) : Int := six (bxE b) 6
def ckRw (r : Rw) : Int := if ckBx r.bx ≠ 0 then ckBx r.bx else if inR 0 r.de 2 = true then 0 else 15
set_option maxRecDepth 100000 in
theorem within_p (n lo hi : Int) : PC Tryd.prog 37 [.v (.int .i64 (n)), .v (.int .i64 (lo)), .v (.int .i64 (hi))] (.v (.bool (inR lo n hi))) := by
  refine pc_of_awp Tryd.func37 rfl Tryd.ntmps37 (rs := [.tmp 6]) Tryd.results37 (by simp) fun w0 => ?_
  refine awp_seq ?_
  refine awp_region 1 mixed (by kernel_rfl) ?_
  refine rg_q (q_assign (x := .d (.v _)) rfl) ?_
  refine rg_nil ?_
  refine aops_nil ?_
  change Awp _ _ _ _ _
  refine awp_seq ?_
  refine awp_region 9 mixed (by kernel_rfl) ?_
  refine rg_q (q_move (x := .d (.v _)) rfl) ?_
  refine rg_q (q_move (x := .d (.v _)) rfl) ?_
  refine rg_q (q_leq rfl rfl) ?_
  refine rg_q (q_move (x := .d (.v _)) rfl) ?_
  refine rg_g rfl rfl (fun hG => (q_move (x := .d (.v _)) rfl)) ?_
  refine rg_g rfl rfl (fun hG => (q_move (x := .d (.v _)) rfl)) ?_
  refine rg_g rfl rfl (fun hG => (q_leq rfl rfl)) ?_
  refine rg_pick rfl rfl rfl rfl rfl rfl ?_
  refine rg_q (q_assign (x := .d (.v _)) rfl) ?_
  refine rg_nil ?_
  refine aops_nil ?_
  change Awp _ _ _ _ _
  refine awp_ret ?_
  refine ⟨_, (.cons (.tmp (by exact .d _)) .nil), ?_⟩
  simp only [bif_and]; rfl
set_option maxRecDepth 100000 in
theorem bwithin_p (n lo hi : Int) : PC Tryd.prog 7 [.v (.int .i64 (n)), .v (.int .i64 (lo)), .v (.int .i64 (hi))] (.v (.bool (inR lo n hi))) := by
  refine pc_of_awp Tryd.func7 rfl Tryd.ntmps7 (rs := [.tmp 6]) Tryd.results7 (by simp) fun w0 => ?_
  refine awp_seq ?_
  refine awp_region 1 mixed (by kernel_rfl) ?_
  refine rg_q (q_assign (x := .d (.v _)) rfl) ?_
  refine rg_nil ?_
  refine aops_nil ?_
  change Awp _ _ _ _ _
  refine awp_seq ?_
  refine awp_region 9 mixed (by kernel_rfl) ?_
  refine rg_q (q_move (x := .d (.v _)) rfl) ?_
  refine rg_q (q_move (x := .d (.v _)) rfl) ?_
  refine rg_q (q_leq rfl rfl) ?_
  refine rg_q (q_move (x := .d (.v _)) rfl) ?_
  refine rg_g rfl rfl (fun hG => (q_move (x := .d (.v _)) rfl)) ?_
  refine rg_g rfl rfl (fun hG => (q_move (x := .d (.v _)) rfl)) ?_
  refine rg_g rfl rfl (fun hG => (q_leq rfl rfl)) ?_
  refine rg_pick rfl rfl rfl rfl rfl rfl ?_
  refine rg_q (q_assign (x := .d (.v _)) rfl) ?_
  refine rg_nil ?_
  refine aops_nil ?_
  change Awp _ _ _ _ _
  refine awp_ret ?_
  refine ⟨_, (.cons (.tmp (by exact .d _)) .nil), ?_⟩
  simp only [bif_and]; rfl
set_option maxRecDepth 100000 in
theorem isDecision_p (n : Int) : PC Tryd.prog 43 [.v (.int .i64 (n))] (.v (.bool (inR 0 n 2))) := by
  refine pc_of_awp Tryd.func43 rfl Tryd.ntmps43 (rs := [.tmp 2]) Tryd.results43 (by simp) fun w0 => ?_
  refine awp_seq ?_
  refine awp_region 1 mixed (by kernel_rfl) ?_
  refine rg_q (q_assign (x := .d (.v _)) rfl) ?_
  refine rg_nil ?_
  refine aops_nil ?_
  change Awp _ _ _ _ _
  refine awp_seq ?_
  refine awp_region 3 mixed (by kernel_rfl) ?_
  refine rg_q (q_move (x := .d (.v _)) rfl) ?_
  refine rg_q (q_call en37 (.cons rfl (.cons rfl (.cons rfl .nil))) rfl (within_p _ _ _)) ?_
  refine rg_q (q_assign (x := .d (.v _)) rfl) ?_
  refine rg_nil ?_
  refine aops_nil ?_
  change Awp _ _ _ _ _
  refine awp_ret ?_
  refine ⟨_, (.cons (.tmp (by exact .d _)) .nil), ?_⟩
  rfl
set_option maxRecDepth 100000 in
theorem risDecision_p (n : Int) : PC Tryd.prog 40 [.v (.int .i64 (n))] (.v (.bool (inR 0 n 2))) := by
  refine pc_of_awp Tryd.func40 rfl Tryd.ntmps40 (rs := [.tmp 2]) Tryd.results40 (by simp) fun w0 => ?_
  refine awp_seq ?_
  refine awp_region 1 mixed (by kernel_rfl) ?_
  refine rg_q (q_assign (x := .d (.v _)) rfl) ?_
  refine rg_nil ?_
  refine aops_nil ?_
  change Awp _ _ _ _ _
  refine awp_seq ?_
  refine awp_region 3 mixed (by kernel_rfl) ?_
  refine rg_q (q_move (x := .d (.v _)) rfl) ?_
  refine rg_q (q_call en7 (.cons rfl (.cons rfl (.cons rfl .nil))) rfl (bwithin_p _ _ _)) ?_
  refine rg_q (q_assign (x := .d (.v _)) rfl) ?_
  refine rg_nil ?_
  refine aops_nil ?_
  change Awp _ _ _ _ _
  refine awp_ret ?_
  refine ⟨_, (.cons (.tmp (by exact .d _)) .nil), ?_⟩
  rfl
set_option maxRecDepth 100000 in
theorem greatest_p (k : Nat) (h : k < 6) : PC Tryd.prog 18 [.v (.int .i64 ((k : Int)))] (.v (.int .i64 (gr k))) := by
  refine pc_of_awp Tryd.func18 rfl Tryd.ntmps18 (rs := [.tmp 2]) Tryd.results18 (by simp) fun w0 => ?_
  refine awp_seq ?_
  refine awp_region 1 mixed (by kernel_rfl) ?_
  refine rg_q (q_assign (x := .d (.v _)) rfl) ?_
  refine rg_nil ?_
  refine aops_nil ?_
  change Awp _ _ _ _ _
  refine awp_seq ?_
  refine awp_region 4 mixed (by kernel_rfl) ?_
  refine rg_q (q_buildA (cs := [_, _, _, _, _, _]) ar26 zr26 rfl (.cons rfl (by exact .inl rfl) (.cons rfl (by exact .inl rfl) (.cons rfl (by exact .inl rfl) (.cons rfl (by exact .inl rfl) (.cons rfl (by exact .inl rfl) (.cons rfl (by exact .inl rfl) .nil)))))) ⟨⟨rfl, by decide⟩, ⟨rfl, by decide⟩, ⟨rfl, by decide⟩, ⟨rfl, by decide⟩, ⟨rfl, by decide⟩, ⟨rfl, by decide⟩, trivial⟩ rfl) ?_
  refine rg_q (q_move (x := .d (.v _)) rfl) ?_
  refine rg_q (q_index_ar ar26 sz3 rfl rfl (by omega) (by omega) (qt_at h)) ?_
  refine rg_q (q_assign (x := .d (.v _)) rfl) ?_
  refine rg_nil ?_
  refine aops_nil ?_
  change Awp _ _ _ _ _
  refine awp_ret ?_
  refine ⟨_, (.cons (.tmp (by exact .d _)) .nil), ?_⟩
  rfl
set_option maxRecDepth 100000 in
theorem checkMark_p (m : Mk) : PCG Tryd.prog GW 28 [.agg (mkC m)] (.v (.int .i64 (ckMk m))) := by
  refine pcg_of_awpN gw_keep Tryd.func28 rfl Tryd.ntmps28 (rs := [.tmp 2]) Tryd.results28 (by simp) fun w0 hmine hrnd hpn hG => ?_
  refine awp_seq ?_
  refine awp_region 2 mixed (by kernel_rfl) ?_
  refine rg_q (q_box rfl (by exact .inr ⟨_, rfl⟩)) ?_
  refine rg_q (q_assign (x := .d (.v _)) rfl) ?_
  refine rg_nil ?_
  refine aops_nil ?_
  change Awp _ _ _ _ _
  refine awp_seq ?_
  refine awp_seq ?_
  refine awp_region 2 mixed (by kernel_rfl) ?_
  refine rg_q (q_load_globC (us := qtL) sz26 rfl (fun w h => (hG w h).1) rfl) ?_
  refine rg_q (q_move (x := .d (.v _)) rfl) ?_
  refine rg_nil ?_
  refine aops_nil ?_
  change Awp _ _ _ _ _
  refine awp_block ?_
  refine awp_loopH [2, 3, 4, 6, 7, 8, 9, 10, 11, 12, 13, 14, 15, 16] [] (α := Nat) (fun k => [(6, T.i (k : Int))]) (fun k => []) (fun k => k ≤ 6 ∧ ∀ i, i < k → mkE m i = 0) (fun k => 6 - k) 0 ⟨Nat.zero_le _, fun i hi => by omega⟩ ?_ ?_
  · exact le_head (ms := []) (by repeat (exact Out.refl _)) ⟨(by rfl), trivial⟩ trivial rfl rfl rfl rfl
  ·
    intro k ⟨hk, hall⟩
    refine awp_seq ?_
    refine awp_region 1 mixed (by kernel_rfl) ?_
    refine rg_q (q_lss rfl rfl) ?_
    refine rg_nil ?_
    refine aops_nil ?_
    change Awp _ _ _ _ _
    refine awp_seq ?_
    refine awp_cond rfl (fun hc2 => ?_) (fun hc2 => ?_)
    ·
      (try simp only [nb, ne_eq] at hc2)
      have hlt : k < 6 := by omega
      refine awp_skip ?_
      change Awp _ _ _ _ _
      refine awp_seq ?_
      refine awp_block ?_
      refine awp_seq ?_
      refine awp_region 4 mixed (by kernel_rfl) ?_
      refine rg_q (q_move (x := .d (.v _)) rfl) ?_
      refine rg_q (q_index_ar ar26 sz3 rfl rfl (by omega) (by omega) (qt_at hlt)) ?_
      refine rg_q (q_assign (x := .d (.v _)) rfl) ?_
      refine rg_q (q_assign (x := .d (.v _)) rfl) ?_
      refine rg_nil ?_
      refine aops_nil ?_
      change Awp _ _ _ _ _
      refine awp_seq ?_
      refine awp_region 6 mixed (by kernel_rfl) ?_
      refine rg_q (q_move (x := .d (.v _)) rfl) ?_
      refine rg_q (q_indexAddr_ar ar27 rfl rfl (by omega) (by omega)) ?_
      refine rg_q (q_load sz3 rfl (mk_at m hlt)) ?_
      refine rg_q (q_move (x := .d (.v _)) rfl) ?_
      refine rg_q (q_call en37 (.cons rfl (.cons rfl (.cons rfl .nil))) rfl (within_p _ _ _)) ?_
      refine rg_q (q_not rfl) ?_
      refine rg_nil ?_
      refine aops_nil ?_
      change Awp _ _ _ _ _
      refine awp_cond rfl (fun hc4 => ?_) (fun hc4 => ?_)
      ·
        (try simp only [nb, ne_eq] at hc4)
        have hz := six_at hlt hall (show mkE m k ≠ 0 by unfold mkE; rw [if_neg (by rw [hc4]; decide)]; decide)
        rw [show mkE m k = 2 from if_neg (by rw [hc4]; decide)] at hz
        refine awp_seq ?_
        refine awp_region 1 mixed (by kernel_rfl) ?_
        refine rg_q (q_assign (x := .d (.v _)) rfl) ?_
        refine rg_nil ?_
        refine aops_nil ?_
        change Awp _ _ _ _ _
        refine awp_ret ?_
        refine ⟨_, (.cons (.tmp (by exact .d _)) .nil), ?_⟩
        unfold ckMk; rw [hz]; rfl
      ·
        (try simp only [nb, ne_eq] at hc4)
        have h0 : mkE m k = 0 := if_pos hc4
        have hall2 : ∀ i, i < k + 1 → mkE m i = 0 := fun i hi => by
          by_cases e : i = k
          · subst e; exact h0
          · exact hall i (by omega)
        refine awp_skip ?_
        change Awp _ _ _ _ _
        refine awp_region 2 mixed (by kernel_rfl) ?_
        refine rg_q (q_add rfl rfl (In64.mk (by omega) (by omega))) ?_
        refine rg_q (q_move (x := .d (.v _)) rfl) ?_
        refine rg_nil ?_
        refine aops_nil ?_
        refine ⟨k + 1, ⟨by omega, hall2⟩, by omega, ?_⟩
        exact le_head (ms := []) (by repeat (first | exact Out.head rfl rfl | (refine Out.put ?_ rfl))) ⟨(by rfl), trivial⟩ trivial rfl rfl rfl rfl
    ·
      (try simp only [nb, ne_eq] at hc2)
      have hk6 : k = 6 := by omega
      subst hk6
      have hz := six_ok hall
      refine awp_exit ?_
      change Awp _ _ _ _ _
      refine awp_seq ?_
      refine awp_region 1 mixed (by kernel_rfl) ?_
      refine rg_q (q_assign (x := .d (.v _)) rfl) ?_
      refine rg_nil ?_
      refine aops_nil ?_
      change Awp _ _ _ _ _
      refine awp_ret ?_
      refine ⟨_, (.cons (.tmp (by exact .d _)) .nil), ?_⟩
      unfold ckMk; rw [hz]; rfl
set_option maxRecDepth 100000 in
theorem rcheckMark_p (m : Mk) : PC Tryd.prog 6 [.agg (mkC m)] (.v (.int .i64 (ckMk m))) := by
  refine pc_of_awp Tryd.func6 rfl Tryd.ntmps6 (rs := [.tmp 2]) Tryd.results6 (by simp) fun w0 => ?_
  refine awp_seq ?_
  refine awp_region 2 mixed (by kernel_rfl) ?_
  refine rg_q (q_box rfl (by exact .inr ⟨_, rfl⟩)) ?_
  refine rg_q (q_assign (x := .d (.v _)) rfl) ?_
  refine rg_nil ?_
  refine aops_nil ?_
  change Awp _ _ _ _ _
  refine awp_seq ?_
  refine awp_seq ?_
  refine awp_region 1 mixed (by kernel_rfl) ?_
  refine rg_q (q_assign (x := .d (.v _)) rfl) ?_
  refine rg_nil ?_
  refine aops_nil ?_
  change Awp _ _ _ _ _
  refine awp_block ?_
  refine awp_loopH [2, 3, 4, 5, 6, 7, 8, 9, 10, 11, 12, 13, 14] [] (α := Nat) (fun k => [(3, T.i (k : Int))]) (fun k => []) (fun k => k ≤ 6 ∧ ∀ i, i < k → mkE m i = 0) (fun k => 6 - k) 0 ⟨Nat.zero_le _, fun i hi => by omega⟩ ?_ ?_
  · exact le_head (ms := []) (by repeat (exact Out.refl _)) ⟨(by rfl), trivial⟩ trivial rfl rfl rfl rfl
  ·
    intro k ⟨hk, hall⟩
    refine awp_seq ?_
    refine awp_seq ?_
    refine awp_region 2 mixed (by kernel_rfl) ?_
    refine rg_q (q_move (x := .d (.v _)) rfl) ?_
    refine rg_q (q_lss rfl rfl) ?_
    refine rg_nil ?_
    refine aops_nil ?_
    change Awp _ _ _ _ _
    refine awp_cond rfl (fun hc2 => ?_) (fun hc2 => ?_)
    ·
      (try simp only [nb, ne_eq] at hc2)
      have hlt : k < 6 := by omega
      refine awp_skip ?_
      change Awp _ _ _ _ _
      refine awp_seq ?_
      refine awp_block ?_
      refine awp_seq ?_
      refine awp_region 7 mixed (by kernel_rfl) ?_
      refine rg_q (q_move (x := .d (.v _)) rfl) ?_
      refine rg_q (q_indexAddr_ar ar27 rfl rfl (by omega) (by omega)) ?_
      refine rg_q (q_load sz3 rfl (mk_at m hlt)) ?_
      refine rg_q (q_move (x := .d (.v _)) rfl) ?_
      refine rg_q (q_call en18 (.cons rfl .nil) rfl (greatest_p k hlt)) ?_
      refine rg_q (q_call en7 (.cons rfl (.cons rfl (.cons rfl .nil))) rfl (bwithin_p _ _ _)) ?_
      refine rg_q (q_not rfl) ?_
      refine rg_nil ?_
      refine aops_nil ?_
      change Awp _ _ _ _ _
      refine awp_cond rfl (fun hc4 => ?_) (fun hc4 => ?_)
      ·
        (try simp only [nb, ne_eq] at hc4)
        have hz := six_at hlt hall (show mkE m k ≠ 0 by unfold mkE; rw [if_neg (by rw [hc4]; decide)]; decide)
        rw [show mkE m k = 2 from if_neg (by rw [hc4]; decide)] at hz
        refine awp_seq ?_
        refine awp_region 1 mixed (by kernel_rfl) ?_
        refine rg_q (q_assign (x := .d (.v _)) rfl) ?_
        refine rg_nil ?_
        refine aops_nil ?_
        change Awp _ _ _ _ _
        refine awp_ret ?_
        refine ⟨_, (.cons (.tmp (by exact .d _)) .nil), ?_⟩
        unfold ckMk; rw [hz]; rfl
      ·
        (try simp only [nb, ne_eq] at hc4)
        have h0 : mkE m k = 0 := if_pos hc4
        have hall2 : ∀ i, i < k + 1 → mkE m i = 0 := fun i hi => by
          by_cases e : i = k
          · subst e; exact h0
          · exact hall i (by omega)
        refine awp_skip ?_
        change Awp _ _ _ _ _
        refine awp_region 3 mixed (by kernel_rfl) ?_
        refine rg_q (q_move (x := .d (.v _)) rfl) ?_
        refine rg_q (q_add rfl rfl (In64.mk (by omega) (by omega))) ?_
        refine rg_q (q_assign (x := .d (.v _)) rfl) ?_
        refine rg_nil ?_
        refine aops_nil ?_
        refine ⟨k + 1, ⟨by omega, hall2⟩, by omega, ?_⟩
        exact le_head (ms := []) (by repeat (first | exact Out.head rfl rfl | (refine Out.put ?_ rfl))) ⟨(by rfl), trivial⟩ trivial rfl rfl rfl rfl
    ·
      (try simp only [nb, ne_eq] at hc2)
      have hk6 : k = 6 := by omega
      subst hk6
      have hz := six_ok hall
      refine awp_exit ?_
      change Awp _ _ _ _ _
      refine awp_seq ?_
      refine awp_region 1 mixed (by kernel_rfl) ?_
      refine rg_q (q_assign (x := .d (.v _)) rfl) ?_
      refine rg_nil ?_
      refine aops_nil ?_
      change Awp _ _ _ _ _
      refine awp_ret ?_
      refine ⟨_, (.cons (.tmp (by exact .d _)) .nil), ?_⟩
      unfold ckMk; rw [hz]; rfl
set_option maxRecDepth 100000 in
theorem checkBox_p (b : Bx) : PCG Tryd.prog GW 32 [.agg (bxC b)] (.v (.int .i64 (ckBx b))) := by
  refine pcg_of_awpN gw_keep Tryd.func32 rfl Tryd.ntmps32 (rs := [.tmp 2]) Tryd.results32 (by simp) fun w0 hmine hrnd hpn hG => ?_
  refine awp_seq ?_
  refine awp_region 2 mixed (by kernel_rfl) ?_
  refine rg_q (q_box rfl (by exact .inr ⟨_, rfl⟩)) ?_
  refine rg_q (q_assign (x := .d (.v _)) rfl) ?_
  refine rg_nil ?_
  refine aops_nil ?_
  change Awp _ _ _ _ _
  refine awp_seq ?_
  refine awp_seq ?_
  refine awp_region 2 mixed (by kernel_rfl) ?_
  refine rg_q (q_load_globC (us := qtL) sz26 rfl (fun w h => (hG w h).1) rfl) ?_
  refine rg_q (q_move (x := .d (.v _)) rfl) ?_
  refine rg_nil ?_
  refine aops_nil ?_
  change Awp _ _ _ _ _
  refine awp_block ?_
  refine awp_loopH [2, 3, 4, 5, 7, 8, 9, 10, 11, 12, 13, 14, 15, 16, 17, 18, 19, 20, 21, 22, 23, 24, 25, 26, 27, 28, 29, 30, 31, 32, 33] [] (α := Nat) (fun k => [(7, T.i (k : Int))]) (fun k => []) (fun k => k ≤ 6 ∧ ∀ i, i < k → bxE b i = 0) (fun k => 6 - k) 0 ⟨Nat.zero_le _, fun i hi => by omega⟩ ?_ ?_
  · exact le_head (ms := []) (by repeat (exact Out.refl _)) ⟨(by rfl), trivial⟩ trivial rfl rfl rfl rfl
  ·
    intro k ⟨hk, hall⟩
    refine awp_seq ?_
    refine awp_region 1 mixed (by kernel_rfl) ?_
    refine rg_q (q_lss rfl rfl) ?_
    refine rg_nil ?_
    refine aops_nil ?_
    change Awp _ _ _ _ _
    refine awp_seq ?_
    refine awp_cond rfl (fun hc2 => ?_) (fun hc2 => ?_)
    ·
      (try simp only [nb, ne_eq] at hc2)
      have hlt : k < 6 := by omega
      refine awp_skip ?_
      change Awp _ _ _ _ _
      refine awp_seq ?_
      refine awp_block ?_
      refine awp_seq ?_
      refine awp_region 4 mixed (by kernel_rfl) ?_
      refine rg_q (q_move (x := .d (.v _)) rfl) ?_
      refine rg_q (q_index_ar ar26 sz3 rfl rfl (by omega) (by omega) (qt_at hlt)) ?_
      refine rg_q (q_assign (x := .d (.v _)) rfl) ?_
      refine rg_q (q_assign (x := .d (.v _)) rfl) ?_
      refine rg_nil ?_
      refine aops_nil ?_
      change Awp _ _ _ _ _
      refine awp_seq ?_
      refine awp_region 3 mixed (by kernel_rfl) ?_
      refine rg_q (q_move (x := .d (.v _)) rfl) ?_
      refine rg_q (q_indexAddr_ar ar41 rfl rfl (by omega) (by omega)) ?_
      refine rg_q (q_loadA sz39 rfl (bx_rg b hlt) rfl) ?_
      refine rg_nil ?_
      refine aops_allocD zr39 rfl sz39 rfl rfl (by exact .inr ⟨_, rfl⟩) rfl rfl ?_
      refine aops_nil ?_
      change Awp _ _ _ _ _
      refine awp_block ?_
      refine awp_seq ?_
      refine awp_region 13 mixed (by kernel_rfl) ?_
      refine rg_q (q_fieldAddr fld39_0 rfl) ?_
      refine rg_q (q_load sz3 rfl rfl) ?_
      refine rg_q (q_move (x := .d (.v _)) rfl) ?_
      refine rg_q (q_call en37 (.cons rfl (.cons rfl (.cons rfl .nil))) rfl (within_p _ _ _)) ?_
      refine rg_q (q_not rfl) ?_
      refine rg_q (q_move (x := .d (.v _)) rfl) ?_
      refine rg_g rfl rfl (fun hG => (q_fieldAddr fld39_1 rfl)) ?_
      refine rg_g rfl rfl (fun hG => (q_load sz3 rfl rfl)) ?_
      refine rg_g rfl rfl (fun hG => (q_move (x := .d (.v _)) rfl)) ?_
      refine rg_g rfl rfl (fun hG => (q_call en37 (.cons rfl (.cons rfl (.cons rfl .nil))) rfl (within_p _ _ _))) ?_
      refine rg_g rfl rfl (fun hG => (q_not rfl)) ?_
      refine rg_pick rfl rfl rfl rfl rfl rfl ?_
      refine rg_q (q_assign (x := .d (.v _)) rfl) ?_
      refine rg_nil ?_
      refine aops_nil ?_
      change Awp _ _ _ _ _
      refine awp_cond rfl (fun hc5 => ?_) (fun hc5 => ?_)
      ·
        (try simp only [nb, ne_eq] at hc5)
        have hb := and_f hc5
        have hz := six_at hlt hall (show bxE b k ≠ 0 by unfold bxE; rw [if_neg hb]; decide)
        rw [show bxE b k = 2 from if_neg hb] at hz
        refine awp_seq ?_
        refine awp_region 1 mixed (by kernel_rfl) ?_
        refine rg_q (q_assign (x := .d (.v _)) rfl) ?_
        refine rg_nil ?_
        refine aops_nil ?_
        change Awp _ _ _ _ _
        refine awp_ret ?_
        refine ⟨_, (.cons (.tmp (by exact .d _)) .nil), ?_⟩
        unfold ckBx; rw [hz]; rfl
      ·
        (try simp only [nb, ne_eq] at hc5)
        have hb : (inR 0 (b.at k).1 (gr k) && inR 0 (b.at k).2 (gr k)) = true := by rw [hc5.1, hc5.2]; rfl
        refine awp_seq ?_
        refine awp_region 6 mixed (by kernel_rfl) ?_
        refine rg_q (q_fieldAddr fld39_0 rfl) ?_
        refine rg_q (q_load sz3 rfl rfl) ?_
        refine rg_q (q_fieldAddr fld39_1 rfl) ?_
        refine rg_q (q_load sz3 rfl rfl) ?_
        refine rg_q (q_gtr rfl rfl) ?_
        refine rg_q (q_assign (x := .d (.v _)) rfl) ?_
        refine rg_nil ?_
        refine aops_nil ?_
        change Awp _ _ _ _ _
        refine awp_cond rfl (fun hc7 => ?_) (fun hc7 => ?_)
        ·
          (try simp only [nb, ne_eq] at hc7)
          have hz := six_at hlt hall (show bxE b k ≠ 0 by unfold bxE; rw [if_pos hb, if_pos (by omega)]; decide)
          rw [show bxE b k = 9 from (if_pos hb).trans (if_pos (by omega))] at hz
          refine awp_seq ?_
          refine awp_region 1 mixed (by kernel_rfl) ?_
          refine rg_q (q_assign (x := .d (.v _)) rfl) ?_
          refine rg_nil ?_
          refine aops_nil ?_
          change Awp _ _ _ _ _
          refine awp_ret ?_
          refine ⟨_, (.cons (.tmp (by exact .d _)) .nil), ?_⟩
          unfold ckBx; rw [hz]; rfl
        ·
          (try simp only [nb, ne_eq] at hc7)
          have h0 : bxE b k = 0 := (if_pos hb).trans (if_neg (by omega))
          have hall2 : ∀ i, i < k + 1 → bxE b i = 0 := fun i hi => by
            by_cases e : i = k
            · subst e; exact h0
            · exact hall i (by omega)
          refine awp_skip ?_
          change Awp _ _ _ _ _
          refine awp_region 2 mixed (by kernel_rfl) ?_
          refine rg_q (q_add rfl rfl (In64.mk (by omega) (by omega))) ?_
          refine rg_q (q_move (x := .d (.v _)) rfl) ?_
          refine rg_nil ?_
          refine aops_nil ?_
          refine ⟨k + 1, ⟨by omega, hall2⟩, by omega, ?_⟩
          exact le_head (ms := []) (by repeat (first | exact Out.head rfl rfl | (refine Out.put ?_ rfl))) ⟨(by rfl), trivial⟩ trivial rfl rfl rfl rfl
    ·
      (try simp only [nb, ne_eq] at hc2)
      have hk6 : k = 6 := by omega
      subst hk6
      have hz := six_ok hall
      refine awp_exit ?_
      change Awp _ _ _ _ _
      refine awp_seq ?_
      refine awp_region 1 mixed (by kernel_rfl) ?_
      refine rg_q (q_assign (x := .d (.v _)) rfl) ?_
      refine rg_nil ?_
      refine aops_nil ?_
      change Awp _ _ _ _ _
      refine awp_ret ?_
      refine ⟨_, (.cons (.tmp (by exact .d _)) .nil), ?_⟩
      unfold ckBx; rw [hz]; rfl
set_option maxRecDepth 100000 in
theorem rcheckBox_p (b : Bx) : PC Tryd.prog 9 [.agg (bxC b)] (.v (.int .i64 (ckBx b))) := by
  refine pc_of_awp Tryd.func9 rfl Tryd.ntmps9 (rs := [.tmp 2]) Tryd.results9 (by simp) fun w0 => ?_
  refine awp_seq ?_
  refine awp_region 2 mixed (by kernel_rfl) ?_
  refine rg_q (q_box rfl (by exact .inr ⟨_, rfl⟩)) ?_
  refine rg_q (q_assign (x := .d (.v _)) rfl) ?_
  refine rg_nil ?_
  refine aops_nil ?_
  change Awp _ _ _ _ _
  refine awp_seq ?_
  refine awp_seq ?_
  refine awp_region 1 mixed (by kernel_rfl) ?_
  refine rg_q (q_assign (x := .d (.v _)) rfl) ?_
  refine rg_nil ?_
  refine aops_nil ?_
  change Awp _ _ _ _ _
  refine awp_block ?_
  refine awp_loopH [2, 3, 4, 5, 6, 7, 8, 9, 10, 11, 12, 13, 14, 15, 16, 17, 18, 19, 20, 21, 22, 23, 24, 25, 26, 27, 28, 29, 30, 31, 32, 33, 34] [] (α := Nat) (fun k => [(3, T.i (k : Int))]) (fun k => []) (fun k => k ≤ 6 ∧ ∀ i, i < k → bxE b i = 0) (fun k => 6 - k) 0 ⟨Nat.zero_le _, fun i hi => by omega⟩ ?_ ?_
  · exact le_head (ms := []) (by repeat (exact Out.refl _)) ⟨(by rfl), trivial⟩ trivial rfl rfl rfl rfl
  ·
    intro k ⟨hk, hall⟩
    refine awp_seq ?_
    refine awp_seq ?_
    refine awp_region 2 mixed (by kernel_rfl) ?_
    refine rg_q (q_move (x := .d (.v _)) rfl) ?_
    refine rg_q (q_lss rfl rfl) ?_
    refine rg_nil ?_
    refine aops_nil ?_
    change Awp _ _ _ _ _
    refine awp_cond rfl (fun hc2 => ?_) (fun hc2 => ?_)
    ·
      (try simp only [nb, ne_eq] at hc2)
      have hlt : k < 6 := by omega
      refine awp_skip ?_
      change Awp _ _ _ _ _
      refine awp_seq ?_
      refine awp_block ?_
      refine awp_seq ?_
      refine awp_seq ?_
      refine awp_region 18 mixed (by kernel_rfl) ?_
      refine rg_q (q_move (x := .d (.v _)) rfl) ?_
      refine rg_q (q_indexAddr_ar ar41 rfl rfl (by omega) (by omega)) ?_
      refine rg_q (q_fieldAddr fld39_0 rfl) ?_
      refine rg_q (q_load sz3 rfl (bx_lo b hlt)) ?_
      refine rg_q (q_move (x := .d (.v _)) rfl) ?_
      refine rg_q (q_call en18 (.cons rfl .nil) rfl (greatest_p k hlt)) ?_
      refine rg_q (q_call en7 (.cons rfl (.cons rfl (.cons rfl .nil))) rfl (bwithin_p _ _ _)) ?_
      refine rg_q (q_not rfl) ?_
      refine rg_q (q_move (x := .d (.v _)) rfl) ?_
      refine rg_g rfl rfl (fun hG => (q_move (x := .d (.v _)) rfl)) ?_
      refine rg_g rfl rfl (fun hG => (q_indexAddr_ar ar41 rfl rfl (by (have hg0 := T.bool_inj (a := _) hG.1; (try simp only [nb, ne_eq] at hg0); omega)) (by (have hg0 := T.bool_inj (a := _) hG.1; (try simp only [nb, ne_eq] at hg0); omega)))) ?_
      refine rg_g rfl rfl (fun hG => (q_fieldAddr fld39_1 rfl)) ?_
      refine rg_g rfl rfl (fun hG => (q_load sz3 rfl (bx_hi b hlt))) ?_
      refine rg_g rfl rfl (fun hG => (q_move (x := .d (.v _)) rfl)) ?_
      refine rg_g rfl rfl (fun hG => (q_call en18 (.cons rfl .nil) rfl (greatest_p k hlt))) ?_
      refine rg_g rfl rfl (fun hG => (q_call en7 (.cons rfl (.cons rfl (.cons rfl .nil))) rfl (bwithin_p _ _ _))) ?_
      refine rg_g rfl rfl (fun hG => (q_not rfl)) ?_
      refine rg_pick rfl rfl rfl rfl rfl rfl ?_
      refine rg_nil ?_
      refine aops_nil ?_
      change Awp _ _ _ _ _
      refine awp_cond rfl (fun hc4 => ?_) (fun hc4 => ?_)
      ·
        (try simp only [nb, ne_eq] at hc4)
        have hb := and_f hc4
        have hz := six_at hlt hall (show bxE b k ≠ 0 by unfold bxE; rw [if_neg hb]; decide)
        rw [show bxE b k = 2 from if_neg hb] at hz
        refine awp_seq ?_
        refine awp_region 1 mixed (by kernel_rfl) ?_
        refine rg_q (q_assign (x := .d (.v _)) rfl) ?_
        refine rg_nil ?_
        refine aops_nil ?_
        change Awp _ _ _ _ _
        refine awp_ret ?_
        refine ⟨_, (.cons (.tmp (by exact .d _)) .nil), ?_⟩
        unfold ckBx; rw [hz]; rfl
      ·
        (try simp only [nb, ne_eq] at hc4)
        have hb : (inR 0 (b.at k).1 (gr k) && inR 0 (b.at k).2 (gr k)) = true := by rw [hc4.1, hc4.2]; rfl
        refine awp_skip ?_
        change Awp _ _ _ _ _
        refine awp_seq ?_
        refine awp_region 9 mixed (by kernel_rfl) ?_
        refine rg_q (q_move (x := .d (.v _)) rfl) ?_
        refine rg_q (q_indexAddr_ar ar41 rfl rfl (by omega) (by omega)) ?_
        refine rg_q (q_fieldAddr fld39_0 rfl) ?_
        refine rg_q (q_load sz3 rfl (bx_lo b hlt)) ?_
        refine rg_q (q_move (x := .d (.v _)) rfl) ?_
        refine rg_q (q_indexAddr_ar ar41 rfl rfl (by omega) (by omega)) ?_
        refine rg_q (q_fieldAddr fld39_1 rfl) ?_
        refine rg_q (q_load sz3 rfl (bx_hi b hlt)) ?_
        refine rg_q (q_gtr rfl rfl) ?_
        refine rg_nil ?_
        refine aops_nil ?_
        change Awp _ _ _ _ _
        refine awp_cond rfl (fun hc6 => ?_) (fun hc6 => ?_)
        ·
          (try simp only [nb, ne_eq] at hc6)
          have hz := six_at hlt hall (show bxE b k ≠ 0 by unfold bxE; rw [if_pos hb, if_pos (by omega)]; decide)
          rw [show bxE b k = 9 from (if_pos hb).trans (if_pos (by omega))] at hz
          refine awp_seq ?_
          refine awp_region 1 mixed (by kernel_rfl) ?_
          refine rg_q (q_assign (x := .d (.v _)) rfl) ?_
          refine rg_nil ?_
          refine aops_nil ?_
          change Awp _ _ _ _ _
          refine awp_ret ?_
          refine ⟨_, (.cons (.tmp (by exact .d _)) .nil), ?_⟩
          unfold ckBx; rw [hz]; rfl
        ·
          (try simp only [nb, ne_eq] at hc6)
          have h0 : bxE b k = 0 := (if_pos hb).trans (if_neg (by omega))
          have hall2 : ∀ i, i < k + 1 → bxE b i = 0 := fun i hi => by
            by_cases e : i = k
            · subst e; exact h0
            · exact hall i (by omega)
          refine awp_skip ?_
          change Awp _ _ _ _ _
          refine awp_region 3 mixed (by kernel_rfl) ?_
          refine rg_q (q_move (x := .d (.v _)) rfl) ?_
          refine rg_q (q_add rfl rfl (In64.mk (by omega) (by omega))) ?_
          refine rg_q (q_assign (x := .d (.v _)) rfl) ?_
          refine rg_nil ?_
          refine aops_nil ?_
          refine ⟨k + 1, ⟨by omega, hall2⟩, by omega, ?_⟩
          exact le_head (ms := []) (by repeat (first | exact Out.head rfl rfl | (refine Out.put ?_ rfl))) ⟨(by rfl), trivial⟩ trivial rfl rfl rfl rfl
    ·
      (try simp only [nb, ne_eq] at hc2)
      have hk6 : k = 6 := by omega
      subst hk6
      have hz := six_ok hall
      refine awp_exit ?_
      change Awp _ _ _ _ _
      refine awp_seq ?_
      refine awp_region 1 mixed (by kernel_rfl) ?_
      refine rg_q (q_assign (x := .d (.v _)) rfl) ?_
      refine rg_nil ?_
      refine aops_nil ?_
      change Awp _ _ _ _ _
      refine awp_ret ?_
      refine ⟨_, (.cons (.tmp (by exact .d _)) .nil), ?_⟩
      unfold ckBx; rw [hz]; rfl
set_option maxRecDepth 100000 in
theorem rowErr_p (r : Rw) : PCG Tryd.prog GW 23 [.agg (rwC r)] (.v (.int .i64 (ckRw r))) := by
  refine pcg_of_awpN gw_keep Tryd.func23 rfl Tryd.ntmps23 (rs := [.tmp 2]) Tryd.results23 (by simp) fun w0 hmine hrnd hpn hG => ?_
  refine awp_seq ?_
  refine awp_region 2 mixed (by kernel_rfl) ?_
  refine rg_q (q_box rfl (by exact .inr ⟨_, rfl⟩)) ?_
  refine rg_q (q_assign (x := .d (.v _)) rfl) ?_
  refine rg_nil ?_
  refine aops_nil ?_
  change Awp _ _ _ _ _
  refine awp_seq ?_
  refine awp_seq ?_
  refine awp_region 4 mixed (by kernel_rfl) ?_
  refine rg_q (q_fieldAddr fld43_0 rfl) ?_
  refine rg_q (q_loadA (ds := bxC r.bx) sz41 rfl rfl rfl) ?_
  refine rg_q (q_callG en32 (.cons rfl .nil) rfl hG (checkBox_p _)) ?_
  refine rg_q (q_assign (x := .d (.v _)) rfl) ?_
  refine rg_nil ?_
  refine aops_nil ?_
  change Awp _ _ _ _ _
  refine awp_seq ?_
  refine awp_region 2 mixed (by kernel_rfl) ?_
  refine rg_q (q_move (x := .d (.v _)) rfl) ?_
  refine rg_q (q_neq rfl rfl) ?_
  refine rg_nil ?_
  refine aops_nil ?_
  change Awp _ _ _ _ _
  refine awp_cond rfl (fun hc2 => ?_) (fun hc2 => ?_)
  ·
    (try simp only [nb, ne_eq] at hc2)
    have hz : ckRw r = ckBx r.bx := if_pos hc2
    refine awp_seq ?_
    refine awp_region 2 mixed (by kernel_rfl) ?_
    refine rg_q (q_move (x := .d (.v _)) rfl) ?_
    refine rg_q (q_assign (x := .d (.v _)) rfl) ?_
    refine rg_nil ?_
    refine aops_nil ?_
    change Awp _ _ _ _ _
    refine awp_ret ?_
    refine ⟨_, (.cons (.tmp (by exact .d _)) .nil), ?_⟩
    rw [hz]; rfl
  ·
    (try simp only [nb, ne_eq] at hc2)
    refine awp_skip ?_
    change Awp _ _ _ _ _
    refine awp_seq ?_
    refine awp_seq ?_
    refine awp_region 4 mixed (by kernel_rfl) ?_
    refine rg_q (q_fieldAddr fld43_1 rfl) ?_
    refine rg_q (q_load sz3 rfl rfl) ?_
    refine rg_q (q_call en43 (.cons rfl .nil) rfl (isDecision_p _)) ?_
    refine rg_q (q_not rfl) ?_
    refine rg_nil ?_
    refine aops_nil ?_
    change Awp _ _ _ _ _
    refine awp_cond rfl (fun hc4 => ?_) (fun hc4 => ?_)
    ·
      (try simp only [nb, ne_eq] at hc4)
      have hz : ckRw r = 15 := (if_neg (fun h => h hc2)).trans (if_neg (by rw [hc4]; decide))
      refine awp_seq ?_
      refine awp_region 1 mixed (by kernel_rfl) ?_
      refine rg_q (q_assign (x := .d (.v _)) rfl) ?_
      refine rg_nil ?_
      refine aops_nil ?_
      change Awp _ _ _ _ _
      refine awp_ret ?_
      refine ⟨_, (.cons (.tmp (by exact .d _)) .nil), ?_⟩
      rw [hz]; rfl
    ·
      (try simp only [nb, ne_eq] at hc4)
      have hz : ckRw r = 0 := (if_neg (fun h => h hc2)).trans (if_pos hc4)
      refine awp_skip ?_
      change Awp _ _ _ _ _
      refine awp_seq ?_
      refine awp_region 1 mixed (by kernel_rfl) ?_
      refine rg_q (q_assign (x := .d (.v _)) rfl) ?_
      refine rg_nil ?_
      refine aops_nil ?_
      change Awp _ _ _ _ _
      refine awp_ret ?_
      refine ⟨_, (.cons (.tmp (by exact .d _)) .nil), ?_⟩
      rw [hz]; rfl
set_option maxRecDepth 100000 in
theorem rrowErr_p (r : Rw) : PC Tryd.prog 21 [.agg (rwC r)] (.v (.int .i64 (ckRw r))) := by
  refine pc_of_awp Tryd.func21 rfl Tryd.ntmps21 (rs := [.tmp 2]) Tryd.results21 (by simp) fun w0 => ?_
  refine awp_seq ?_
  refine awp_region 2 mixed (by kernel_rfl) ?_
  refine rg_q (q_box rfl (by exact .inr ⟨_, rfl⟩)) ?_
  refine rg_q (q_assign (x := .d (.v _)) rfl) ?_
  refine rg_nil ?_
  refine aops_nil ?_
  change Awp _ _ _ _ _
  refine awp_seq ?_
  refine awp_seq ?_
  refine awp_region 4 mixed (by kernel_rfl) ?_
  refine rg_q (q_fieldAddr fld43_0 rfl) ?_
  refine rg_q (q_loadA (ds := bxC r.bx) sz41 rfl rfl rfl) ?_
  refine rg_q (q_call en9 (.cons rfl .nil) rfl (rcheckBox_p _)) ?_
  refine rg_q (q_assign (x := .d (.v _)) rfl) ?_
  refine rg_nil ?_
  refine aops_nil ?_
  change Awp _ _ _ _ _
  refine awp_seq ?_
  refine awp_region 2 mixed (by kernel_rfl) ?_
  refine rg_q (q_move (x := .d (.v _)) rfl) ?_
  refine rg_q (q_neq rfl rfl) ?_
  refine rg_nil ?_
  refine aops_nil ?_
  change Awp _ _ _ _ _
  refine awp_cond rfl (fun hc2 => ?_) (fun hc2 => ?_)
  ·
    (try simp only [nb, ne_eq] at hc2)
    have hz : ckRw r = ckBx r.bx := if_pos hc2
    refine awp_seq ?_
    refine awp_region 2 mixed (by kernel_rfl) ?_
    refine rg_q (q_move (x := .d (.v _)) rfl) ?_
    refine rg_q (q_assign (x := .d (.v _)) rfl) ?_
    refine rg_nil ?_
    refine aops_nil ?_
    change Awp _ _ _ _ _
    refine awp_ret ?_
    refine ⟨_, (.cons (.tmp (by exact .d _)) .nil), ?_⟩
    rw [hz]; rfl
  ·
    (try simp only [nb, ne_eq] at hc2)
    refine awp_skip ?_
    change Awp _ _ _ _ _
    refine awp_seq ?_
    refine awp_seq ?_
    refine awp_region 4 mixed (by kernel_rfl) ?_
    refine rg_q (q_fieldAddr fld43_1 rfl) ?_
    refine rg_q (q_load sz3 rfl rfl) ?_
    refine rg_q (q_call en40 (.cons rfl .nil) rfl (risDecision_p _)) ?_
    refine rg_q (q_not rfl) ?_
    refine rg_nil ?_
    refine aops_nil ?_
    change Awp _ _ _ _ _
    refine awp_cond rfl (fun hc4 => ?_) (fun hc4 => ?_)
    ·
      (try simp only [nb, ne_eq] at hc4)
      have hz : ckRw r = 15 := (if_neg (fun h => h hc2)).trans (if_neg (by rw [hc4]; decide))
      refine awp_seq ?_
      refine awp_region 1 mixed (by kernel_rfl) ?_
      refine rg_q (q_assign (x := .d (.v _)) rfl) ?_
      refine rg_nil ?_
      refine aops_nil ?_
      change Awp _ _ _ _ _
      refine awp_ret ?_
      refine ⟨_, (.cons (.tmp (by exact .d _)) .nil), ?_⟩
      rw [hz]; rfl
    ·
      (try simp only [nb, ne_eq] at hc4)
      have hz : ckRw r = 0 := (if_neg (fun h => h hc2)).trans (if_pos hc4)
      refine awp_skip ?_
      change Awp _ _ _ _ _
      refine awp_seq ?_
      refine awp_region 1 mixed (by kernel_rfl) ?_
      refine rg_q (q_assign (x := .d (.v _)) rfl) ?_
      refine rg_nil ?_
      refine aops_nil ?_
      change Awp _ _ _ _ _
      refine awp_ret ?_
      refine ⟨_, (.cons (.tmp (by exact .d _)) .nil), ?_⟩
      rw [hz]; rfl
end Go.Proofs.YthpggoophcdgnaaDoor.Am.M
