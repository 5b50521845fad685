/- Contracts over the abstract machine: the reference of slowness. Conditions: none. -/
import Derived.Test.YtgdcidbpadhkpaaC20
set_option linter.unusedVariables false
set_option linter.unusedSimpArgs false
-- mini
namespace Go.Proofs.Ytgdcidbpadhkpaa.Am.M
open Go

abbrev Q2 := (Int × Int) × (Int × Int)
def rslowS (s : Q2) (p : Arc × Arc) : Q2 := (if s.1.2 = 0 ∨ lessB s.1 (loP p) = true then loP p else s.1, if s.2.2 = 0 ∨ lessB (hiP p) s.2 = true then hiP p else s.2)
def rslowL (xs : List (Arc × Arc)) : Q2 := xs.foldl rslowS ((0, 0), (0, 0))
theorem rslowL_snoc (xs : List (Arc × Arc)) (p : Arc × Arc) : rslowL (xs ++ [p]) = rslowS (rslowL xs) p := by simp [rslowL]
def pairsR (l : List Arc) : Nat → List (Arc × Arc)
  | 0 => []
  | i + 1 => pairsR l i ++ (l.drop (i + 1)).map fun b => (l.getD i ⟨0, 0, 0⟩, b)
def pairsK (l : List Arc) (i k : Nat) : List (Arc × Arc) := pairsR l i ++ ((l.drop (i + 1)).take (k - (i + 1))).map fun b => (l.getD i ⟨0, 0, 0⟩, b)
theorem pairsK_start (l : List Arc) (i : Nat) : pairsK l i (i + 1) = pairsR l i := by simp [pairsK]
theorem pairsK_end (l : List Arc) (i : Nat) (h : i < l.length) : pairsK l i l.length = pairsR l (i + 1) := by
  unfold pairsK
  rw [List.take_of_length_le (by simp)]; rfl
theorem pairsK_succ {l : List Arc} {i k : Nat} {x y : Arc} (hx : l[i]? = some x) (hy : l[k]? = some y) (h : i < k) : pairsK l i (k + 1) = pairsK l i k ++ [(x, y)] := by
  obtain ⟨hk, rfl⟩ := List.getElem?_eq_some_iff.1 hy
  have hj : k - (i + 1) < (l.drop (i + 1)).length := by simp; omega
  unfold pairsK
  rw [show k + 1 - (i + 1) = (k - (i + 1)) + 1 by omega, List.take_succ_eq_append_getElem hj, List.map_append, List.append_assoc]
  have e1 : (l.drop (i + 1))[k - (i + 1)] = l[k] := by rw [List.getElem_drop]; congr 1; omega
  have e2 : l.getD i ⟨0, 0, 0⟩ = x := by rw [List.getD_eq_getElem?_getD, hx]; rfl
  rw [e1, e2]; rfl
/-- Pairs of right arcs. -/
def PrOk (p : Arc × Arc) : Prop := ArcOk p.1 ∧ ArcOk p.2 ∧ p.1.r < p.2.r
theorem sh_lo {p : Arc × Arc} (h : PrOk p) : ShOk (loP p) := by
  obtain ⟨⟨a1, a2, a3, a4, a5, a6⟩, ⟨b1, b2, b3, b4, b5, b6⟩, h3⟩ := h
  unfold ShOk loP wayP; simp only; omega
theorem sh_hi {p : Arc × Arc} (h : PrOk p) : ShOk (hiP p) := by
  obtain ⟨⟨a1, a2, a3, a4, a5, a6⟩, ⟨b1, b2, b3, b4, b5, b6⟩, h3⟩ := h
  unfold ShOk hiP wayP; simp only; omega
def QOk (s : Q2) : Prop := ShOk s.1 ∧ ShOk s.2
theorem rslowS_ok {s : Q2} {p : Arc × Arc} (hp : PrOk p) (hs : s = ((0, 0), (0, 0)) ∨ QOk s) : QOk (rslowS s p) := by
  have h1 := sh_lo hp
  have h2 := sh_hi hp
  unfold rslowS QOk
  rcases hs with rfl | ⟨k1, k2⟩
  · simp only [true_or, if_true]; exact ⟨h1, h2⟩
  · constructor
    · simp only; split
      · exact h1
      · exact k1
    · simp only; split
      · exact h2
      · exact k2
theorem foldl_ok : ∀ (xs : List (Arc × Arc)) (s : Q2), (∀ p ∈ xs, PrOk p) → QOk s → QOk (xs.foldl rslowS s)
  | [], _, _, hs => hs
  | p :: xs, s, h, hs => foldl_ok xs (rslowS s p) (fun q hq => h q (by simp [hq])) (rslowS_ok (h p (by simp)) (.inr hs))
theorem rslowL_ok {xs : List (Arc × Arc)} (h : ∀ p ∈ xs, PrOk p) : rslowL xs = ((0, 0), (0, 0)) ∨ QOk (rslowL xs) := by
  cases xs with
  | nil => exact .inl rfl
  | cons p xs => exact .inr (foldl_ok xs _ (fun q hq => h q (by simp [hq])) (rslowS_ok (h p (by simp)) (.inl rfl)))
theorem rslowL_ok' {xs : List (Arc × Arc)} (h : ∀ p ∈ xs, PrOk p) (hn : xs ≠ []) : QOk (rslowL xs) := by
  cases xs with
  | nil => exact absurd rfl hn
  | cons p xs => exact foldl_ok xs _ (fun q hq => h q (by simp [hq])) (rslowS_ok (h p (by simp)) (.inl rfl))
theorem prOk_at {l : List Arc} (hok : ArcsOk l) {i k : Nat} {x y : Arc} (hx : l[i]? = some x) (hy : l[k]? = some y) (h : i < k) : PrOk (x, y) := by
  refine ⟨(hok.ok x (List.mem_of_getElem? hx)).1, (hok.ok y (List.mem_of_getElem? hy)).1, ?_⟩
  obtain ⟨h1, rfl⟩ := List.getElem?_eq_some_iff.1 hx
  obtain ⟨h2, rfl⟩ := List.getElem?_eq_some_iff.1 hy
  exact List.pairwise_iff_getElem.1 hok.asc i k h1 h2 h
/-- The pairs are those of two rows. -/
theorem mem_pairsR {l : List Arc} {p : Arc × Arc} : ∀ {i : Nat}, i ≤ l.length → (p ∈ pairsR l i ↔ ∃ a b, a < i ∧ a < b ∧ l[a]? = some p.1 ∧ l[b]? = some p.2)
  | 0, _ => by simp [pairsR]
  | i + 1, hi => by
    simp only [pairsR, List.mem_append, mem_pairsR (show i ≤ l.length by omega), List.mem_map]
    constructor
    · rintro (⟨a, b, h1, h2, h3, h4⟩ | ⟨y, hy, rfl⟩)
      · exact ⟨a, b, by omega, h2, h3, h4⟩
      · obtain ⟨j, hj⟩ := List.getElem?_of_mem hy
        rw [List.getElem?_drop] at hj
        exact ⟨i, i + 1 + j, by omega, by omega, by simp [show i < l.length by omega], hj⟩
    · rintro ⟨a, b, h1, h2, h3, h4⟩
      by_cases ha : a < i
      · exact .inl ⟨a, b, ha, h2, h3, h4⟩
      · have : a = i := by omega
        subst this
        right
        refine ⟨p.2, ?_, ?_⟩
        · refine List.mem_of_getElem? (i := b - (a + 1)) ?_
          rw [List.getElem?_drop, show a + 1 + (b - (a + 1)) = b by omega]; exact h4
        · rw [List.getD_eq_getElem?_getD, h3]; rfl
theorem pairsR_ok {l : List Arc} (hok : ArcsOk l) {i : Nat} (hi : i ≤ l.length) : ∀ p ∈ pairsR l i, PrOk p := fun p hp => by
  obtain ⟨a, b, h1, h2, h3, h4⟩ := (mem_pairsR hi).1 hp
  exact prOk_at hok h3 h4 h2
theorem pairsK_ok {l : List Arc} (hok : ArcsOk l) {i k : Nat} (hi : i < l.length) : ∀ p ∈ pairsK l i k, PrOk p := fun p hp => by
  have h1 := pairsR_ok hok (show i + 1 ≤ l.length by omega) p
  refine h1 ?_
  unfold pairsK at hp
  simp only [pairsR, List.mem_append, List.mem_map] at hp ⊢
  rcases hp with hp | ⟨y, hy, rfl⟩
  · exact .inl hp
  · exact .inr ⟨y, List.mem_of_mem_take hy, rfl⟩
theorem pairsR_ne {l : List Arc} (hok : ArcsOk l) : pairsR l l.length ≠ [] := fun e => by
  have h2 := hok.two
  have : ((l[0]'(by omega)), (l[1]'(by omega))) ∈ pairsR l l.length := (mem_pairsR (Nat.le_refl _)).2 ⟨0, 1, by omega, by omega, by simp, by simp⟩
  rw [e] at this; cases this
def rslow (l : List Arc) : Q2 := rslowL (pairsR l l.length)
theorem rslow_ok {l : List Arc} (hok : ArcsOk l) : QOk (rslow l) := rslowL_ok' (pairsR_ok hok (Nat.le_refl _)) (pairsR_ne hok)
set_option maxRecDepth 100000 in
theorem rslow_p (l : List Arc) (hok : ArcsOk l) : PC Try.prog 113 [.sl 3 (l.map arcC)] (.tup [.agg (qC (rslow l).1), .agg (qC (rslow l).2), .v (.bool (!lessB (rslow l).2 (rslow l).1))]) := by
  have hfin := rslow_ok hok
  have hfe : rslow l = rslowL (pairsR l l.length) := rfl
  refine pc_of_awp Try.func113 rfl Try.ntmps113 (rs := [.cell 2 116, .cell 3 116, .tmp 4]) Try.results113 (by simp) fun w0 => ?_
  refine awp_seq ?_
  refine awp_region 0 mixed (by kernel_rfl) ?_
  refine rg_nil ?_
  refine aops_alloc zr116 rfl rfl rfl ?_
  refine aops_alloc zr116 rfl rfl rfl ?_
  refine aops_q rfl (q_assign (x := .d (.v _)) rfl) ?_
  refine aops_nil ?_
  change Awp _ _ _ _ _
  refine awp_seq ?_
  refine awp_region 0 mixed (by kernel_rfl) ?_
  refine rg_nil ?_
  refine aops_alloc zr116 rfl rfl rfl ?_
  refine aops_alloc zr116 rfl rfl rfl ?_
  refine aops_nil ?_
  change Awp _ _ _ _ _
  refine awp_seq ?_
  refine awp_seq ?_
  refine awp_region 1 mixed (by kernel_rfl) ?_
  refine rg_q (q_assign (x := .d (.v _)) rfl) ?_
  refine rg_nil ?_
  refine aops_nil ?_
  change Awp _ _ _ _ _
  refine awp_block ?_
  refine awp_loopH [7, 8, 9, 10, 11, 12, 13, 14, 15, 16, 17, 18, 19, 20, 21, 22, 23, 24, 25, 26, 27, 28, 29, 30, 31, 32, 33, 34, 35, 36, 37, 38, 39, 40, 41, 42, 43, 44, 45, 46, 47, 48, 49, 50, 51, 52, 53, 54, 55, 56, 57, 58, 59, 60, 61, 62, 63, 64, 65, 66, 67, 68, 69, 70, 71, 72, 73, 74, 75, 76, 77, 78, 79, 80, 81, 82, 83, 84, 85] [5, 6] (α := Nat) (fun i => [(7, T.i (i : Int))]) (fun i => [(5, .box [.v (.int .i64 ((rslowL (pairsR l i)).1).1), .v (.int .i64 ((rslowL (pairsR l i)).1).2)]), (6, .box [.v (.int .i64 ((rslowL (pairsR l i)).2).1), .v (.int .i64 ((rslowL (pairsR l i)).2).2)])]) (fun i => i ≤ l.length) (fun i => l.length - i) 0 (Nat.zero_le _) ?_ ?_
  · exact le_head (ms := [5, 6]) (by repeat (exact Out.refl _)) ⟨(by rfl), trivial⟩ ⟨(by rfl), (by rfl), trivial⟩ rfl rfl rfl rfl
  ·
    intro i hi
    refine awp_seq ?_
    refine awp_seq ?_
    refine awp_region 4 mixed (by kernel_rfl) ?_
    refine rg_q (q_move (x := .d (.v _)) rfl) ?_
    refine rg_q (q_move (x := .d (.sl _ _)) rfl) ?_
    refine rg_q (q_len isl93 rfl (by exact len_map _ _)) ?_
    refine rg_q (q_lss rfl rfl) ?_
    refine rg_nil ?_
    refine aops_nil ?_
    change Awp _ _ _ _ _
    refine awp_len (t := 13) rfl (fun hl13 => ?_)
    (try simp only [List.length_map] at hl13)
    refine awp_cond rfl (fun hc3 => ?_) (fun hc3 => ?_)
    ·
      (try simp only [decide_eq_true_eq, decide_eq_false_iff_not, Bool.and_eq_true, Bool.or_eq_true, Bool.and_eq_false_iff, Bool.or_eq_false_iff, Bool.not_eq_true', Bool.not_eq_false', Bool.not_true, Bool.not_false, bif_and, bif_or, Bool.not_not, ne_eq, Decidable.not_not, not_true_eq_false, not_false_eq_true, Int.not_le, Int.not_lt] at hc3)
      have hil : i < l.length := by omega
      obtain ⟨x, hx⟩ : ∃ x, l[i]? = some x := ⟨_, List.getElem?_eq_getElem hil⟩
      refine awp_skip ?_
      change Awp _ _ _ _ _
      refine awp_seq ?_
      refine awp_block ?_
      refine awp_seq ?_
      refine awp_region 3 mixed (by kernel_rfl) ?_
      refine rg_q (q_move (x := .d (.v _)) rfl) ?_
      refine rg_q (q_add rfl rfl (In64.mk (by omega) (by omega))) ?_
      refine rg_q (q_assign (x := .d (.v _)) rfl) ?_
      refine rg_nil ?_
      refine aops_nil ?_
      change Awp _ _ _ _ _
      refine awp_block ?_
      refine awp_loopH [8, 9, 10, 11, 20, 21, 22, 23, 24, 25, 26, 27, 28, 29, 30, 31, 32, 33, 34, 35, 36, 37, 38, 39, 40, 41, 42, 43, 44, 45, 46, 47, 48, 49, 50, 51, 52, 53, 54, 55, 56, 57, 58, 59, 60, 61, 62, 63, 64, 65, 66, 67, 68, 69, 70, 71, 72, 73, 74, 75, 76, 77, 78, 79, 80, 81, 82, 83, 84, 85] [5, 6] (α := Nat) (fun k => [(8, T.i (k : Int))]) (fun k => [(5, .box [.v (.int .i64 ((rslowL (pairsK l i k)).1).1), .v (.int .i64 ((rslowL (pairsK l i k)).1).2)]), (6, .box [.v (.int .i64 ((rslowL (pairsK l i k)).2).1), .v (.int .i64 ((rslowL (pairsK l i k)).2).2)])]) (fun k => i < k ∧ k ≤ l.length) (fun k => l.length - k) (i + 1) ⟨by omega, by omega⟩ ?_ ?_
      · exact le_head (ms := [5, 6]) (by repeat (exact Out.refl _)) ⟨(by rfl), trivial⟩ ⟨(by ((show Site.box _ = Site.box (qC _); rw [pairsK_start]; rfl))), (by ((show Site.box _ = Site.box (qC _); rw [pairsK_start]; rfl))), trivial⟩ rfl rfl rfl rfl
      ·
        intro k ⟨hik, hk⟩
        refine awp_seq ?_
        refine awp_seq ?_
        refine awp_region 4 mixed (by kernel_rfl) ?_
        refine rg_q (q_move (x := .d (.v _)) rfl) ?_
        refine rg_q (q_move (x := .d (.sl _ _)) rfl) ?_
        refine rg_q (q_len isl93 rfl (by exact len_map _ _)) ?_
        refine rg_q (q_lss rfl rfl) ?_
        refine rg_nil ?_
        refine aops_nil ?_
        change Awp _ _ _ _ _
        refine awp_len (t := 21) rfl (fun hl21 => ?_)
        (try simp only [List.length_map] at hl21)
        refine awp_cond rfl (fun hc6 => ?_) (fun hc6 => ?_)
        ·
          (try simp only [decide_eq_true_eq, decide_eq_false_iff_not, Bool.and_eq_true, Bool.or_eq_true, Bool.and_eq_false_iff, Bool.or_eq_false_iff, Bool.not_eq_true', Bool.not_eq_false', Bool.not_true, Bool.not_false, bif_and, bif_or, Bool.not_not, ne_eq, Decidable.not_not, not_true_eq_false, not_false_eq_true, Int.not_le, Int.not_lt] at hc6)
          have hkl : k < l.length := by omega
          obtain ⟨y, hy⟩ : ∃ y, l[k]? = some y := ⟨_, List.getElem?_eq_getElem hkl⟩
          have hp := prOk_at hok hx hy hik
          have hst : rslowL (pairsK l i (k + 1)) = rslowS (rslowL (pairsK l i k)) (x, y) := by rw [pairsK_succ hx hy hik, rslowL_snoc]
          have hs := rslowL_ok (pairsK_ok hok (k := k) hil)
          have hlo := sh_lo hp
          have hhi := sh_hi hp
          have hs1 : (rslowL (pairsK l i k)).1.2 = 0 ∨ ShOk (rslowL (pairsK l i k)).1 := hs.imp (fun e => by rw [e]) (fun h => h.1)
          have hs2 : (rslowL (pairsK l i k)).2.2 = 0 ∨ ShOk (rslowL (pairsK l i k)).2 := hs.imp (fun e => by rw [e]) (fun h => h.2)
          obtain ⟨⟨a1, a2, a3, a4, a5, a6⟩, ⟨b1, b2, b3, b4, b5, b6⟩, hab⟩ := hp
          simp only at a1 a2 a3 a4 a5 a6 b1 b2 b3 b4 b5 b6 hab
          refine awp_skip ?_
          change Awp _ _ _ _ _
          refine awp_seq ?_
          refine awp_block ?_
          refine awp_seq ?_
          refine awp_region 13 mixed (by kernel_rfl) ?_
          refine rg_q (q_move (x := .d (.sl _ _)) rfl) ?_
          refine rg_q (q_move (x := .d (.v _)) rfl) ?_
          refine rg_q (q_indexAddr sl93 rfl rfl (by omega) (map_at (by omega) hy)) ?_
          refine rg_q (q_fieldAddr fld105_0 rfl) ?_
          refine rg_q (q_load sz3 rfl rfl) ?_
          refine rg_q (q_move (x := .d (.sl _ _)) rfl) ?_
          refine rg_q (q_move (x := .d (.v _)) rfl) ?_
          refine rg_q (q_indexAddr sl93 rfl rfl (by omega) (map_at (by omega) hx)) ?_
          refine rg_q (q_fieldAddr fld105_0 rfl) ?_
          refine rg_q (q_load sz3 rfl rfl) ?_
          refine rg_q (q_sub rfl rfl (In64.mk (by omega) (by omega))) ?_
          refine rg_q (q_mul rfl rfl (In64.mk (by omega) (by omega))) ?_
          refine rg_q (q_assign (x := .d (.v _)) rfl) ?_
          refine rg_nil ?_
          refine aops_nil ?_
          change Awp _ _ _ _ _
          refine awp_seq ?_
          refine awp_regionM 34 [none, none, none, none, none, none, none, none, none, none, none, none, none, none, none, none, none, none, none, none, none, none, none, none, none, none, none, none, none, none, some 10, some 11, some 10, some 11] mixed (by kernel_rfl) ?_
          refine rgm_q rfl (q_move (x := .d (.sl _ _)) rfl) ?_
          refine rgm_q rfl (q_move (x := .d (.v _)) rfl) ?_
          refine rgm_q rfl (q_indexAddr sl93 rfl rfl (by omega) (map_at (by omega) hy)) ?_
          refine rgm_q rfl (q_fieldAddr fld105_1 rfl) ?_
          refine rgm_q rfl (q_fieldAddr fld52_0 rfl) ?_
          refine rgm_q rfl (q_load sz3 rfl rfl) ?_
          refine rgm_q rfl (q_move (x := .d (.sl _ _)) rfl) ?_
          refine rgm_q rfl (q_move (x := .d (.v _)) rfl) ?_
          refine rgm_q rfl (q_indexAddr sl93 rfl rfl (by omega) (map_at (by omega) hx)) ?_
          refine rgm_q rfl (q_fieldAddr fld105_1 rfl) ?_
          refine rgm_q rfl (q_fieldAddr fld52_1 rfl) ?_
          refine rgm_q rfl (q_load sz3 rfl rfl) ?_
          refine rgm_q rfl (q_sub rfl rfl (In64.mk (by omega) (by omega))) ?_
          refine rgm_q rfl (q_move (x := .d (.v _)) rfl) ?_
          refine rgm_q rfl (q_build (cs := [_, _]) pl116 zr116 rfl (.cons rfl (by exact .inl rfl) (.cons rfl (by exact .inl rfl) .nil)) ⟨⟨rfl, by decide⟩, ⟨rfl, by decide⟩, trivial⟩ rfl) ?_
          refine rgm_q rfl (q_move (x := .d (.sl _ _)) rfl) ?_
          refine rgm_q rfl (q_move (x := .d (.v _)) rfl) ?_
          refine rgm_q rfl (q_indexAddr sl93 rfl rfl (by omega) (map_at (by omega) hy)) ?_
          refine rgm_q rfl (q_fieldAddr fld105_1 rfl) ?_
          refine rgm_q rfl (q_fieldAddr fld52_1 rfl) ?_
          refine rgm_q rfl (q_load sz3 rfl rfl) ?_
          refine rgm_q rfl (q_move (x := .d (.sl _ _)) rfl) ?_
          refine rgm_q rfl (q_move (x := .d (.v _)) rfl) ?_
          refine rgm_q rfl (q_indexAddr sl93 rfl rfl (by omega) (map_at (by omega) hx)) ?_
          refine rgm_q rfl (q_fieldAddr fld105_1 rfl) ?_
          refine rgm_q rfl (q_fieldAddr fld52_0 rfl) ?_
          refine rgm_q rfl (q_load sz3 rfl rfl) ?_
          refine rgm_q rfl (q_sub rfl rfl (In64.mk (by omega) (by omega))) ?_
          refine rgm_q rfl (q_move (x := .d (.v _)) rfl) ?_
          refine rgm_q rfl (q_build (cs := [_, _]) pl116 zr116 rfl (.cons rfl (by exact .inl rfl) (.cons rfl (by exact .inl rfl) .nil)) ⟨⟨rfl, by decide⟩, ⟨rfl, by decide⟩, trivial⟩ rfl) ?_
          refine rgm_m (k := 10) rfl rfl (by rfl) (m_alloc zr116 rfl rfl) ?_
          refine rgm_m (k := 11) rfl rfl (by rfl) (m_alloc zr116 rfl rfl) ?_
          refine rgm_m (k := 10) rfl rfl (by rfl) (m_store sz116 rfl rfl (by exact .inr ⟨_, rfl⟩) rfl rfl (by decide) rfl) ?_
          refine rgm_m (k := 11) rfl rfl (by rfl) (m_store sz116 rfl rfl (by exact .inr ⟨_, rfl⟩) rfl rfl (by decide) rfl) ?_
          refine rgm_nil ?_
          refine aops_nil ?_
          change Awp _ _ _ _ _
          refine awp_seq ?_
          refine awp_seq ?_
          refine awp_region 8 mixed (by kernel_rfl) ?_
          refine rg_q (q_fieldAddr_ref fld116_1 rfl) ?_
          refine rg_q (q_load_ref sz3 rfl rfl rfl) ?_
          refine rg_q (q_eql rfl rfl) ?_
          refine rg_q (q_move (x := .d (.v _)) rfl) ?_
          refine rg_g rfl rfl (fun hG => (q_load_refA (ds := [_, _]) sz116 rfl rfl rfl rfl)) ?_
          refine rg_g rfl rfl (fun hG => (q_load_refA (ds := [_, _]) sz116 rfl rfl rfl rfl)) ?_
          refine rg_g rfl rfl (fun hG => (q_call en128 (.cons rfl (.cons rfl .nil)) rfl (rless_p (rslowL (pairsK l i k)).1 (loP (x, y)) (hs1.resolve_left (by have hg0 := T.bool_inj (a := _) hG.1; simpa using hg0)) hlo))) ?_
          refine rg_pick rfl rfl rfl rfl rfl rfl ?_
          refine rg_nil ?_
          refine aops_nil ?_
          change Awp _ _ _ _ _
          refine awp_cond rfl (fun hc10 => ?_) (fun hc10 => ?_)
          ·
            (try simp only [decide_eq_true_eq, decide_eq_false_iff_not, Bool.and_eq_true, Bool.or_eq_true, Bool.and_eq_false_iff, Bool.or_eq_false_iff, Bool.not_eq_true', Bool.not_eq_false', Bool.not_true, Bool.not_false, bif_and, bif_or, Bool.not_not, ne_eq, Decidable.not_not, not_true_eq_false, not_false_eq_true, Int.not_le, Int.not_lt] at hc10)
            have hn1 : (rslowL (pairsK l i (k + 1))).1 = loP (x, y) := by rw [hst]; unfold rslowS; simp only; rw [if_pos (by simpa using hc10)]
            refine awp_region 1 mixed (by kernel_rfl) ?_
            refine rg_q (q_load_refA (ds := [_, _]) sz116 rfl rfl rfl rfl) ?_
            refine rg_nil ?_
            refine aops_store sz116 rfl rfl (by exact .inr ⟨_, rfl⟩) rfl rfl (by simp; done) rfl ?_
            refine aops_nil ?_
            change Awp _ _ _ _ _
            refine awp_seq ?_
            refine awp_region 8 mixed (by kernel_rfl) ?_
            refine rg_q (q_fieldAddr_ref fld116_1 rfl) ?_
            refine rg_q (q_load_ref sz3 rfl rfl rfl) ?_
            refine rg_q (q_eql rfl rfl) ?_
            refine rg_q (q_move (x := .d (.v _)) rfl) ?_
            refine rg_g rfl rfl (fun hG => (q_load_refA (ds := [_, _]) sz116 rfl rfl rfl rfl)) ?_
            refine rg_g rfl rfl (fun hG => (q_load_refA (ds := [_, _]) sz116 rfl rfl rfl rfl)) ?_
            refine rg_g rfl rfl (fun hG => (q_call en128 (.cons rfl (.cons rfl .nil)) rfl (rless_p (hiP (x, y)) (rslowL (pairsK l i k)).2 hhi (hs2.resolve_left (by have hg0 := T.bool_inj (a := _) hG.1; simpa using hg0))))) ?_
            refine rg_pick rfl rfl rfl rfl rfl rfl ?_
            refine rg_nil ?_
            refine aops_nil ?_
            change Awp _ _ _ _ _
            refine awp_cond rfl (fun hc12 => ?_) (fun hc12 => ?_)
            ·
              (try simp only [decide_eq_true_eq, decide_eq_false_iff_not, Bool.and_eq_true, Bool.or_eq_true, Bool.and_eq_false_iff, Bool.or_eq_false_iff, Bool.not_eq_true', Bool.not_eq_false', Bool.not_true, Bool.not_false, bif_and, bif_or, Bool.not_not, ne_eq, Decidable.not_not, not_true_eq_false, not_false_eq_true, Int.not_le, Int.not_lt] at hc12)
              have hn2 : (rslowL (pairsK l i (k + 1))).2 = hiP (x, y) := by rw [hst]; unfold rslowS; simp only; rw [if_pos (by simpa using hc12)]
              refine awp_region 1 mixed (by kernel_rfl) ?_
              refine rg_q (q_load_refA (ds := [_, _]) sz116 rfl rfl rfl rfl) ?_
              refine rg_nil ?_
              refine aops_store sz116 rfl rfl (by exact .inr ⟨_, rfl⟩) rfl rfl (by simp; done) rfl ?_
              refine aops_nil ?_
              change Awp _ _ _ _ _
              refine awp_region 3 mixed (by kernel_rfl) ?_
              refine rg_q (q_move (x := .d (.v _)) rfl) ?_
              refine rg_q (q_add rfl rfl (In64.mk (by omega) (by omega))) ?_
              refine rg_q (q_assign (x := .d (.v _)) rfl) ?_
              refine rg_nil ?_
              refine aops_nil ?_
              refine ⟨k + 1, ⟨by omega, by omega⟩, by omega, ?_⟩
              exact le_head (ms := [5, 6]) (by repeat (first | exact Out.head rfl rfl | (refine Out.put ?_ rfl) | (refine Out.site ?_ rfl))) ⟨(by rfl), trivial⟩ ⟨(by ((show Site.box _ = Site.box (qC _); rw [hn1]; rfl))), (by ((show Site.box _ = Site.box (qC _); rw [hn2]; rfl))), trivial⟩ rfl rfl rfl rfl
            ·
              (try simp only [decide_eq_true_eq, decide_eq_false_iff_not, Bool.and_eq_true, Bool.or_eq_true, Bool.and_eq_false_iff, Bool.or_eq_false_iff, Bool.not_eq_true', Bool.not_eq_false', Bool.not_true, Bool.not_false, bif_and, bif_or, Bool.not_not, ne_eq, Decidable.not_not, not_true_eq_false, not_false_eq_true, Int.not_le, Int.not_lt] at hc12)
              have hn2 : (rslowL (pairsK l i (k + 1))).2 = (rslowL (pairsK l i k)).2 := by rw [hst]; unfold rslowS; simp only; rw [if_neg (by simpa using hc12)]
              refine awp_skip ?_
              change Awp _ _ _ _ _
              refine awp_region 3 mixed (by kernel_rfl) ?_
              refine rg_q (q_move (x := .d (.v _)) rfl) ?_
              refine rg_q (q_add rfl rfl (In64.mk (by omega) (by omega))) ?_
              refine rg_q (q_assign (x := .d (.v _)) rfl) ?_
              refine rg_nil ?_
              refine aops_nil ?_
              refine ⟨k + 1, ⟨by omega, by omega⟩, by omega, ?_⟩
              exact le_head (ms := [5, 6]) (by repeat (first | exact Out.head rfl rfl | (refine Out.put ?_ rfl) | (refine Out.site ?_ rfl))) ⟨(by rfl), trivial⟩ ⟨(by ((show Site.box _ = Site.box (qC _); rw [hn1]; rfl))), (by ((show Site.box _ = Site.box (qC _); rw [hn2]; rfl))), trivial⟩ rfl rfl rfl rfl
          ·
            (try simp only [decide_eq_true_eq, decide_eq_false_iff_not, Bool.and_eq_true, Bool.or_eq_true, Bool.and_eq_false_iff, Bool.or_eq_false_iff, Bool.not_eq_true', Bool.not_eq_false', Bool.not_true, Bool.not_false, bif_and, bif_or, Bool.not_not, ne_eq, Decidable.not_not, not_true_eq_false, not_false_eq_true, Int.not_le, Int.not_lt] at hc10)
            have hn1 : (rslowL (pairsK l i (k + 1))).1 = (rslowL (pairsK l i k)).1 := by rw [hst]; unfold rslowS; simp only; rw [if_neg (by simpa using hc10)]
            refine awp_skip ?_
            change Awp _ _ _ _ _
            refine awp_seq ?_
            refine awp_region 8 mixed (by kernel_rfl) ?_
            refine rg_q (q_fieldAddr_ref fld116_1 rfl) ?_
            refine rg_q (q_load_ref sz3 rfl rfl rfl) ?_
            refine rg_q (q_eql rfl rfl) ?_
            refine rg_q (q_move (x := .d (.v _)) rfl) ?_
            refine rg_g rfl rfl (fun hG => (q_load_refA (ds := [_, _]) sz116 rfl rfl rfl rfl)) ?_
            refine rg_g rfl rfl (fun hG => (q_load_refA (ds := [_, _]) sz116 rfl rfl rfl rfl)) ?_
            refine rg_g rfl rfl (fun hG => (q_call en128 (.cons rfl (.cons rfl .nil)) rfl (rless_p (hiP (x, y)) (rslowL (pairsK l i k)).2 hhi (hs2.resolve_left (by have hg0 := T.bool_inj (a := _) hG.1; simpa using hg0))))) ?_
            refine rg_pick rfl rfl rfl rfl rfl rfl ?_
            refine rg_nil ?_
            refine aops_nil ?_
            change Awp _ _ _ _ _
            refine awp_cond rfl (fun hc12 => ?_) (fun hc12 => ?_)
            ·
              (try simp only [decide_eq_true_eq, decide_eq_false_iff_not, Bool.and_eq_true, Bool.or_eq_true, Bool.and_eq_false_iff, Bool.or_eq_false_iff, Bool.not_eq_true', Bool.not_eq_false', Bool.not_true, Bool.not_false, bif_and, bif_or, Bool.not_not, ne_eq, Decidable.not_not, not_true_eq_false, not_false_eq_true, Int.not_le, Int.not_lt] at hc12)
              have hn2 : (rslowL (pairsK l i (k + 1))).2 = hiP (x, y) := by rw [hst]; unfold rslowS; simp only; rw [if_pos (by simpa using hc12)]
              refine awp_region 1 mixed (by kernel_rfl) ?_
              refine rg_q (q_load_refA (ds := [_, _]) sz116 rfl rfl rfl rfl) ?_
              refine rg_nil ?_
              refine aops_store sz116 rfl rfl (by exact .inr ⟨_, rfl⟩) rfl rfl (by simp; done) rfl ?_
              refine aops_nil ?_
              change Awp _ _ _ _ _
              refine awp_region 3 mixed (by kernel_rfl) ?_
              refine rg_q (q_move (x := .d (.v _)) rfl) ?_
              refine rg_q (q_add rfl rfl (In64.mk (by omega) (by omega))) ?_
              refine rg_q (q_assign (x := .d (.v _)) rfl) ?_
              refine rg_nil ?_
              refine aops_nil ?_
              refine ⟨k + 1, ⟨by omega, by omega⟩, by omega, ?_⟩
              exact le_head (ms := [5, 6]) (by repeat (first | exact Out.head rfl rfl | (refine Out.put ?_ rfl) | (refine Out.site ?_ rfl))) ⟨(by rfl), trivial⟩ ⟨(by ((show Site.box _ = Site.box (qC _); rw [hn1]; rfl))), (by ((show Site.box _ = Site.box (qC _); rw [hn2]; rfl))), trivial⟩ rfl rfl rfl rfl
            ·
              (try simp only [decide_eq_true_eq, decide_eq_false_iff_not, Bool.and_eq_true, Bool.or_eq_true, Bool.and_eq_false_iff, Bool.or_eq_false_iff, Bool.not_eq_true', Bool.not_eq_false', Bool.not_true, Bool.not_false, bif_and, bif_or, Bool.not_not, ne_eq, Decidable.not_not, not_true_eq_false, not_false_eq_true, Int.not_le, Int.not_lt] at hc12)
              have hn2 : (rslowL (pairsK l i (k + 1))).2 = (rslowL (pairsK l i k)).2 := by rw [hst]; unfold rslowS; simp only; rw [if_neg (by simpa using hc12)]
              refine awp_skip ?_
              change Awp _ _ _ _ _
              refine awp_region 3 mixed (by kernel_rfl) ?_
              refine rg_q (q_move (x := .d (.v _)) rfl) ?_
              refine rg_q (q_add rfl rfl (In64.mk (by omega) (by omega))) ?_
              refine rg_q (q_assign (x := .d (.v _)) rfl) ?_
              refine rg_nil ?_
              refine aops_nil ?_
              refine ⟨k + 1, ⟨by omega, by omega⟩, by omega, ?_⟩
              exact le_head (ms := [5, 6]) (by repeat (first | exact Out.head rfl rfl | (refine Out.put ?_ rfl) | (refine Out.site ?_ rfl))) ⟨(by rfl), trivial⟩ ⟨(by ((show Site.box _ = Site.box (qC _); rw [hn1]; rfl))), (by ((show Site.box _ = Site.box (qC _); rw [hn2]; rfl))), trivial⟩ rfl rfl rfl rfl
        ·
          (try simp only [decide_eq_true_eq, decide_eq_false_iff_not, Bool.and_eq_true, Bool.or_eq_true, Bool.and_eq_false_iff, Bool.or_eq_false_iff, Bool.not_eq_true', Bool.not_eq_false', Bool.not_true, Bool.not_false, bif_and, bif_or, Bool.not_not, ne_eq, Decidable.not_not, not_true_eq_false, not_false_eq_true, Int.not_le, Int.not_lt] at hc6)
          have hkl : k = l.length := by omega
          have hpe : pairsK l i k = pairsR l (i + 1) := by rw [hkl, pairsK_end l i hil]
          refine awp_exit ?_
          change Awp _ _ _ _ _
          refine awp_region 3 mixed (by kernel_rfl) ?_
          refine rg_q (q_move (x := .d (.v _)) rfl) ?_
          refine rg_q (q_add rfl rfl (In64.mk (by omega) (by omega))) ?_
          refine rg_q (q_assign (x := .d (.v _)) rfl) ?_
          refine rg_nil ?_
          refine aops_nil ?_
          refine ⟨i + 1, by omega, by omega, ?_⟩
          exact le_head (ms := [5, 6]) (by repeat (first | exact Out.head rfl rfl | (refine Out.put ?_ rfl) | (refine Out.headIn ?_ rfl rfl rfl))) ⟨(by rfl), trivial⟩ ⟨(by ((show Site.box _ = Site.box (qC _); rw [← hpe]; rfl))), (by ((show Site.box _ = Site.box (qC _); rw [← hpe]; rfl))), trivial⟩ rfl rfl rfl rfl
    ·
      (try simp only [decide_eq_true_eq, decide_eq_false_iff_not, Bool.and_eq_true, Bool.or_eq_true, Bool.and_eq_false_iff, Bool.or_eq_false_iff, Bool.not_eq_true', Bool.not_eq_false', Bool.not_true, Bool.not_false, bif_and, bif_or, Bool.not_not, ne_eq, Decidable.not_not, not_true_eq_false, not_false_eq_true, Int.not_le, Int.not_lt] at hc3)
      have hil : i = l.length := by omega
      subst hil
      refine awp_exit ?_
      change Awp _ _ _ _ _
      refine awp_seq ?_
      refine awp_regionM 9 [none, none, none, none, none, none, some 2, some 3, none] mixed (by kernel_rfl) ?_
      refine rgm_q rfl (q_load_refA (ds := [_, _]) sz116 rfl rfl rfl rfl) ?_
      refine rgm_q rfl (q_load_refA (ds := [_, _]) sz116 rfl rfl rfl rfl) ?_
      refine rgm_q rfl (q_load_refA (ds := [_, _]) sz116 rfl rfl rfl rfl) ?_
      refine rgm_q rfl (q_load_refA (ds := [_, _]) sz116 rfl rfl rfl rfl) ?_
      refine rgm_q rfl (q_call en128 (.cons rfl (.cons rfl .nil)) rfl (rless_p (rslow l).2 (rslow l).1 hfin.2 hfin.1)) ?_
      refine rgm_q rfl (q_not rfl) ?_
      refine rgm_m (k := 2) rfl rfl (by rfl) (m_store sz116 rfl rfl (by exact .inr ⟨_, rfl⟩) rfl rfl (by decide) rfl) ?_
      refine rgm_m (k := 3) rfl rfl (by rfl) (m_store sz116 rfl rfl (by exact .inr ⟨_, rfl⟩) rfl rfl (by decide) rfl) ?_
      refine rgm_q rfl (q_assign (x := .d (.v _)) rfl) ?_
      refine rgm_nil ?_
      refine aops_nil ?_
      change Awp _ _ _ _ _
      refine awp_ret ?_
      refine ⟨_, (.cons (.cellA rfl rfl sz116 rfl) (.cons (.cellA rfl rfl sz116 rfl) (.cons (.tmp (by exact .d _)) .nil))), ?_⟩
      rfl
end Go.Proofs.Ytgdcidbpadhkpaa.Am.M
