/- Contracts over the abstract machine: chapter 9: cells. Conditions: none. -/
import Derived.Test.YthpggoophcdgnaaDoorS6
set_option linter.unusedVariables false
set_option linter.unusedSimpArgs false
-- mini
namespace Go.Proofs.YthpggoophcdgnaaDoor.Am.M
open Go

def RwOk (r : Rw) : Prop := ∀ q, q < 6 → 0 ≤ (r.bx.at q).1 ∧ (r.bx.at q).1 ≤ (r.bx.at q).2 ∧ (r.bx.at q).2 ≤ 100000
def RwsOk (l : List Rw) : Prop := ∀ r ∈ l, RwOk r
structure Cl where
  lo : Int
  hi : Int
  inn : Nat
def clC (c : Cl) : List D := [iv c.lo, iv c.hi, uv c.inn]
def encC (c : Cl) : List D := [.agg (clC c)]
def stepC (r : Int × Int) (k : Nat) (lo : Int) (p : Int × Nat) : Int × Nat := if lo < r.1 then (min p.1 (r.1 - 1), p.2) else if lo ≤ r.2 then (min p.1 r.2, p.2 ||| 2 ^ k) else p
def cellK (l : List Rw) (q : Nat) (lo whi : Int) (s : Nat) : Nat → Int × Nat
  | 0 => (whi, 0)
  | k + 1 => if s.testBit k = true then (match l[k]? with | some r => stepC (r.bx.at q) k lo (cellK l q lo whi s k) | none => cellK l q lo whi s k) else cellK l q lo whi s k
def clN (l : List Rw) (q : Nat) (whi : Int) (s : Nat) (lo : Int) : Cl := ⟨lo, (cellK l q lo whi s l.length).1, (cellK l q lo whi s l.length).2⟩
def clF (l : List Rw) (q : Nat) (whi : Int) (s : Nat) : Nat → Int → List Cl
  | 0, _ => []
  | n + 1, lo => if lo ≤ whi then clN l q whi s lo :: clF l q whi s n ((clN l q whi s lo).hi + 1) else []
def cells (l : List Rw) (q : Nat) (w : Int × Int) (s : Nat) : List Cl := clF l q w.2 s (w.2 + 1 - w.1).toNat w.1
theorem stepC_bnd {r : Int × Int} {k : Nat} {lo whi : Int} {p : Int × Nat} (ho : 0 ≤ r.1 ∧ r.1 ≤ r.2 ∧ r.2 ≤ 100000) (h1 : lo ≤ p.1) (h2 : p.1 ≤ whi) (h3 : p.2 < 2 ^ k) : lo ≤ (stepC r k lo p).1 ∧ (stepC r k lo p).1 ≤ whi ∧ (stepC r k lo p).2 < 2 ^ (k + 1) := by
  have hp : 2 ^ k < 2 ^ (k + 1) := Nat.pow_lt_pow_right (by decide) (Nat.lt_succ_self k)
  unfold stepC
  split
  · exact ⟨by show lo ≤ min _ _; omega, by show min _ _ ≤ whi; omega, Nat.lt_trans h3 hp⟩
  · split
    · exact ⟨by show lo ≤ min _ _; omega, by show min _ _ ≤ whi; omega, Nat.or_lt_two_pow (Nat.lt_trans h3 hp) hp⟩
    · exact ⟨h1, h2, Nat.lt_trans h3 hp⟩
theorem cellK_bnd {l : List Rw} (hok : RwsOk l) {q : Nat} (hq : q < 6) {lo whi : Int} (s : Nat) (h : lo ≤ whi) : ∀ k, lo ≤ (cellK l q lo whi s k).1 ∧ (cellK l q lo whi s k).1 ≤ whi ∧ (cellK l q lo whi s k).2 < 2 ^ k
  | 0 => ⟨h, Int.le_refl _, Nat.one_pos⟩
  | k + 1 => by
    obtain ⟨h1, h2, h3⟩ := cellK_bnd hok hq s h k
    have hp : 2 ^ k < 2 ^ (k + 1) := Nat.pow_lt_pow_right (by decide) (Nat.lt_succ_self k)
    unfold cellK
    split
    · cases hx : l[k]? with
      | none => exact ⟨h1, h2, Nat.lt_trans h3 hp⟩
      | some r =>
        exact stepC_bnd (hok r (List.mem_of_getElem? hx) q hq) h1 h2 h3
    · exact ⟨h1, h2, Nat.lt_trans h3 hp⟩
def hiB (s k : Nat) : Nat := s / 2 ^ k * 2 ^ k
def hiOk (s k : Nat) : Bool := (decide (hiB s k = 0) || (decide (k ≤ ctz (hiB s k)) && decide (ctz (hiB s k) < 7) && s.testBit (ctz (hiB s k)) && decide (hiB s k &&& (hiB s k - 1) = hiB s (ctz (hiB s k) + 1)) &&
  (List.range 7).all fun i => !(decide (k ≤ i) && decide (i < ctz (hiB s k))) || !s.testBit i)) && (!decide (hiB s k = 0) || (List.range 7).all fun i => !decide (k ≤ i) || !s.testBit i) && decide (hiB s k < 128)
theorem hi_all : ∀ s : Fin 128, ∀ k : Fin 8, hiOk s.val k.val = true := by decide +kernel
structure HiB (s k : Nat) : Prop where
  lt : hiB s k < 128
  fin : hiB s k = 0 → ∀ i, k ≤ i → i < 7 → s.testBit i = false
  ge : hiB s k ≠ 0 → k ≤ ctz (hiB s k)
  l7 : hiB s k ≠ 0 → ctz (hiB s k) < 7
  bit : hiB s k ≠ 0 → s.testBit (ctz (hiB s k)) = true
  nx : hiB s k ≠ 0 → hiB s k &&& (hiB s k - 1) = hiB s (ctz (hiB s k) + 1)
  no : hiB s k ≠ 0 → ∀ i, k ≤ i → i < ctz (hiB s k) → s.testBit i = false
theorem hi_spec {s k : Nat} (hs : s < 128) (hk : k < 8) : HiB s k := by
  have h := hi_all ⟨s, hs⟩ ⟨k, hk⟩
  unfold hiOk at h
  simp only [Bool.and_eq_true, Bool.or_eq_true, decide_eq_true_eq, List.all_eq_true, List.mem_range, Bool.not_eq_true', Bool.and_eq_false_iff, decide_eq_false_iff_not] at h
  obtain ⟨⟨h1, h2⟩, h3⟩ := h
  have key : hiB s k ≠ 0 → _ := fun h0 => h1.resolve_left h0
  refine ⟨h3, fun h0 i hi hl => ?_, fun h0 => (key h0).1.1.1.1, fun h0 => (key h0).1.1.1.2, fun h0 => (key h0).1.1.2, fun h0 => (key h0).1.2, fun h0 i hi hl => ?_⟩
  · rcases h2 with q | q
    · exact absurd h0 q
    · rcases q i hl with q | q
      · exact absurd hi q
      · exact q
  · have h7 : i < 7 := Nat.lt_trans hl (key h0).1.1.1.2
    rcases (key h0).2 i h7 with q | q
    · rcases q with q | q
      · exact absurd hi q
      · exact absurd hl q
    · exact q
theorem cellK_skip {l : List Rw} {q : Nat} {lo whi : Int} {s k : Nat} : ∀ {j : Nat}, k ≤ j → (∀ i, k ≤ i → i < j → s.testBit i = false) → cellK l q lo whi s j = cellK l q lo whi s k
  | 0, h, _ => by have : k = 0 := by omega
                  subst this; rfl
  | j + 1, h, hn => by
    by_cases e : k = j + 1
    · subst e; rfl
    · rw [cellK, if_neg (by rw [hn j (by omega) (by omega)]; decide)]
      exact cellK_skip (by omega) fun i h1 h2 => hn i h1 (by omega)
theorem hiB_zero (s : Nat) : hiB s 0 = s := by simp [hiB]
theorem rw_rg (r : Rw) {k : Nat} (h : k < 6) : ((rwC r).drop (0 + 0 + (k : Int).toNat * 2)).take 2 = rgC (r.bx.at k) := by
  rcases lt6 h with rfl | rfl | rfl | rfl | rfl | rfl <;> rfl
set_option maxRecDepth 100000 in
theorem cells_p (l : List Rw) (q : Nat) (w : Int × Int) (s : Nat) : PC Tryd.prog 54 [.sl 13 (l.map rwC), .v (.int .i64 ((q : Int))), .agg [.v (.int .i64 (w.1)), .v (.int .i64 (w.2))], .v (.int .u64 ((s : Nat) : Int))] (.fn (.func 57) [.pt [.v (.int .i64 (w.1)), .v (.int .i64 (w.2))] 0, .pt [.v (.int .u64 ((s : Nat) : Int))] 0, .pt [.sl 13 (l.map rwC)] 0, .pt [.v (.int .i64 ((q : Int)))] 0]) := by
  refine pc_of_awp Tryd.func54 rfl Tryd.ntmps54 (rs := [.tmp 8]) Tryd.results54 (by simp) fun w0 => ?_
  refine awp_seq ?_
  refine awp_region 5 mixed (by kernel_rfl) ?_
  refine rg_q (q_box rfl (by exact .inl rfl)) ?_
  refine rg_q (q_box rfl (by exact .inl rfl)) ?_
  refine rg_q (q_box rfl (by exact .inr ⟨_, rfl⟩)) ?_
  refine rg_q (q_box rfl (by exact .inl rfl)) ?_
  refine rg_q (q_assign (x := .d (.v .nilFunc)) rfl) ?_
  refine rg_nil ?_
  refine aops_nil ?_
  change Awp _ _ _ _ _
  refine awp_seq ?_
  refine awp_region 2 mixed (by kernel_rfl) ?_
  refine rg_q (q_makeFunc (.cons rfl (.cons rfl (.cons rfl (.cons rfl .nil))))) ?_
  refine rg_q (q_assign (x := .d (.fn _ _)) rfl) ?_
  refine rg_nil ?_
  refine aops_nil ?_
  change Awp _ _ _ _ _
  refine awp_ret ?_
  refine ⟨_, (.cons (.tmp (by exact .d _)) .nil), ?_⟩
  rfl

theorem cells_pre {l : List Rw} {q : Nat} {whi : Int} {s n : Nat} {lo : Int} {D items : List Cl} (h : D ++ clF l q whi s n lo = items) (hlo : lo ≤ whi) (hn : (whi + 1 - lo).toNat ≤ n) :
    ∃ m, n = m + 1 ∧ D ++ [clN l q whi s lo] <+: items ∧ (D ++ [clN l q whi s lo]) ++ clF l q whi s m ((clN l q whi s lo).hi + 1) = items := by
  obtain ⟨m, rfl⟩ : ∃ m, n = m + 1 := ⟨n - 1, by omega⟩
  have e : clF l q whi s (m + 1) lo = clN l q whi s lo :: clF l q whi s m ((clN l q whi s lo).hi + 1) := by rw [clF, if_pos hlo]
  rw [e] at h
  refine ⟨m, rfl, ⟨clF l q whi s m ((clN l q whi s lo).hi + 1), ?_⟩, ?_⟩
  · rw [← h]; simp
  · rw [← h]; simp
theorem cells_end {l : List Rw} {q : Nat} {whi : Int} {s n : Nat} {lo : Int} {D items : List Cl} (h : D ++ clF l q whi s n lo = items) (hlo : ¬ lo ≤ whi) : D = items := by
  cases n with
  | zero => rw [clF, List.append_nil] at h; exact h
  | succ n => rw [clF, if_neg hlo, List.append_nil] at h; exact h
set_option maxRecDepth 100000 in
theorem cells_i (l : List Rw) (q : Nat) (w : Int × Int) (s : Nat) (hok : RwsOk l) (hq : q < 6) (hl : l.length ≤ 7) (hs : s < 2 ^ l.length) (hw : 0 ≤ w.1 ∧ w.2 ≤ 100000) : PIG Tryd.prog GW 57 [] [.pt [.v (.int .i64 (w.1)), .v (.int .i64 (w.2))] 0, .pt [.v (.int .u64 ((s : Nat) : Int))] 0, .pt [.sl 13 (l.map rwC)] 0, .pt [.v (.int .i64 ((q : Int)))] 0] (encC) (cells l q w s) true := by
  have hs7 : s < 128 := Nat.lt_of_lt_of_le hs (Nat.pow_le_pow_right (by decide) hl)
  refine pig_of_iwp Tryd.func57 rfl Tryd.ntmps57 rfl rfl fun J c l0 hJ hJG hy hdat hfin => ?_
  refine iwp_seq ?_
  apply iwp_regG hJ hJG
  ·
    intro c1 hmine hrnd hG
    refine awp_region 3 mixed (by kernel_rfl) ?_
    refine rg_q (q_fieldAddr fld39_0 rfl) ?_
    refine rg_q (q_load sz3 rfl rfl) ?_
    refine rg_q (q_assign (x := .d (.v _)) rfl) ?_
    refine rg_nil ?_
    refine aops_nil ?_
    exact ⟨rfl, rfl⟩
  change Iwp _ _ _ _ _ _ _
  refine iwp_block ?_
  refine iwp_loopH [6, 7, 8, 9, 10, 13, 14, 15, 16, 17, 18, 19, 20, 21, 22, 23, 24, 25, 26, 27, 28, 29, 30, 31, 32, 33, 34, 35, 36, 37, 38, 39, 40, 41, 42, 43, 44, 45, 46, 47, 48, 49, 50, 51, 52, 53, 54, 55, 56, 57, 58, 59, 60, 61, 62, 63, 64, 65, 66, 67, 68, 69, 70, 71, 72, 73, 74, 75, 76, 77, 78] [] (β := List Cl × Int × Nat) (fun y => [(6, T.i y.2.1)]) (fun y => []) (fun y => (true, y.1)) (fun y => (y.1 ++ clF l q w.2 s y.2.2 y.2.1 = cells l q w s ∧ (w.2 + 1 - y.2.1).toNat ≤ y.2.2) ∧ w.1 ≤ y.2.1 ∧ y.2.1 ≤ max w.1 (w.2 + 1)) (fun y => y.2.2) ([], w.1, (w.2 + 1 - w.1).toNat) ⟨⟨rfl, Nat.le_refl _⟩, Int.le_refl _, by show w.1 ≤ max w.1 _; omega⟩ rfl (fun c1 => ?_) ?_
  · exact le_head (ms := []) (by repeat (exact Out.refl _)) ⟨(by rfl), trivial⟩ trivial rfl rfl rfl rfl
  ·
    intro ⟨D, lo, n⟩ ⟨⟨hD, hn⟩, hlo1, hlo2⟩
    simp only at hD hn hlo1 hlo2
    refine iwp_seq ?_
    refine iwp_seq ?_
    apply iwp_regG hJ hJG
    ·
      intro c1 hmine hrnd hG
      refine awp_region 4 mixed (by kernel_rfl) ?_
      refine rg_q (q_move (x := .d (.v _)) rfl) ?_
      refine rg_q (q_fieldAddr fld39_1 rfl) ?_
      refine rg_q (q_load sz3 rfl rfl) ?_
      refine rg_q (q_leq rfl rfl) ?_
      refine rg_nil ?_
      refine aops_nil ?_
      exact ⟨rfl, rfl⟩
    change Iwp _ _ _ _ _ _ _
    refine iwp_cond rfl (fun hc1 => ?_) (fun hc1 => ?_)
    ·
      (try simp only [nb, ne_eq] at hc1)
      have hle : lo ≤ w.2 := by omega
      obtain ⟨m, rfl, hpre, hnext⟩ := cells_pre hD hle hn
      refine iwp_skip ?_
      change Iwp _ _ _ _ _ _ _
      refine iwp_block ?_
      refine iwp_seq ?_
      apply iwp_regG hJ hJG
      ·
        intro c1 hmine hrnd hG
        refine awp_region 5 mixed (by kernel_rfl) ?_
        refine rg_q (q_move (x := .d (.v _)) rfl) ?_
        refine rg_q (q_fieldAddr fld39_1 rfl) ?_
        refine rg_q (q_load sz3 rfl rfl) ?_
        refine rg_q (q_build (cs := [_, _]) pl39 zr39 rfl (.cons rfl (by exact .inl rfl) (.cons rfl (by exact .inl rfl) .nil)) ⟨⟨rfl, by decide⟩, ⟨rfl, by decide⟩, trivial⟩ rfl) ?_
        refine rg_q (q_build (cs := [_, _, _]) pl109 zr109 rfl (.cons rfl (by exact .inr ⟨_, rfl⟩) .nil) ⟨⟨rfl, by decide⟩, trivial⟩ rfl) ?_
        refine rg_nil ?_
        refine aops_alloc zr109 rfl rfl rfl ?_
        refine aops_store sz109 rfl rfl (by exact .inr ⟨_, rfl⟩) rfl rfl (by decide) rfl ?_
        refine aops_nil ?_
        exact ⟨rfl, rfl⟩
      change Iwp _ _ _ _ _ _ _
      refine iwp_seq ?_
      refine iwp_seq ?_
      apply iwp_regG hJ hJG
      ·
        intro c1 hmine hrnd hG
        refine awp_region 2 mixed (by kernel_rfl) ?_
        refine rg_q (q_load sz73 rfl rfl) ?_
        refine rg_q (q_assign (x := .d (.v _)) rfl) ?_
        refine rg_nil ?_
        refine aops_nil ?_
        exact ⟨rfl, rfl⟩
      change Iwp _ _ _ _ _ _ _
      refine iwp_block ?_
      refine iwp_loopH [8, 9, 10, 23, 24, 25, 26, 27, 28, 29, 30, 31, 32, 33, 34, 35, 36, 37, 38, 39, 40, 41, 42, 43, 44, 45, 46, 47, 48, 49, 50, 51, 52, 53, 54, 55, 56, 57, 58, 59, 60, 61, 62, 63, 64, 65, 66, 67, 68, 69, 70] [7] (β := Nat) (fun k => [(8, .d (.v (.int .u64 ((hiB s k : Nat) : Int))))]) (fun k => [(7, .box [.v (.int .i64 (lo)), .v (.int .i64 ((cellK l q lo w.2 s k).1)), .v (.int .u64 (((cellK l q lo w.2 s k).2 : Nat) : Int))])]) (fun k => (true, D)) (fun k => k ≤ l.length) (fun k => l.length - k) 0 (Nat.zero_le _) rfl (fun c1 => ?_) ?_
      · exact le_head (ms := [7]) (by repeat (exact Out.refl _)) ⟨(by ((show T.d (.v (.int .u64 _)) = T.d (.v (.int .u64 _)); rw [hiB_zero]))), trivial⟩ ⟨(by rfl), trivial⟩ rfl rfl rfl rfl
      ·
        intro k hk
        have hh := hi_spec (s := s) (k := k) hs7 (by omega)
        obtain ⟨cb1, cb2, cb3⟩ := cellK_bnd hok hq s hle k
        refine iwp_seq ?_
        refine iwp_seq ?_
        apply iwp_regG hJ hJG
        ·
          intro c1 hmine hrnd hG
          refine awp_region 2 mixed (by kernel_rfl) ?_
          refine rg_q (q_move (x := .d (.v _)) rfl) ?_
          refine rg_q (q_neq rfl rfl) ?_
          refine rg_nil ?_
          refine aops_nil ?_
          exact ⟨rfl, rfl⟩
        change Iwp _ _ _ _ _ _ _
        refine iwp_cond rfl (fun hc4 => ?_) (fun hc4 => ?_)
        ·
          (try simp only [nb, ne_eq] at hc4)
          have h0 : hiB s k ≠ 0 := by omega
          have hlt7 := hh.l7 h0
          have hge := hh.ge h0
          have hbit := hh.bit h0
          have hnx0 := hh.nx h0
          have hcl : ctz (hiB s k) < l.length := by
            rcases Nat.lt_or_ge (ctz (hiB s k)) l.length with q | q
            · exact q
            · rw [Nat.testBit_lt_two_pow (Nat.lt_of_lt_of_le hs (Nat.pow_le_pow_right (by decide) q))] at hbit; cases hbit
          have hskip := cellK_skip (l := l) (q := q) (lo := lo) (whi := w.2) hge (hh.no h0)
          obtain ⟨r, hx⟩ : ∃ r, l[ctz (hiB s k)]? = some r := ⟨_, List.getElem?_eq_getElem hcl⟩
          have hce0 : cellK l q lo w.2 s (ctz (hiB s k) + 1) = stepC (r.bx.at q) (ctz (hiB s k)) lo (cellK l q lo w.2 s k) := by rw [cellK, if_pos hbit, hx, hskip]
          obtain ⟨o1, o2, o3⟩ := hok r (List.mem_of_getElem? hx) q hq
          have hb2 : 2 ^ ctz (hiB s k) < 2 ^ 64 := Nat.pow_lt_pow_right (by decide) (by omega)
          have hb1 : (cellK l q lo w.2 s k).2 < 2 ^ 64 := Nat.lt_of_lt_of_le cb3 (Nat.pow_le_pow_right (by decide) (by omega))
          have hnx : hiB s k &&& (hiB s k - 1) = hiB s (ctz (hiB s k) + 1) := hnx0
          refine iwp_skip ?_
          change Iwp _ _ _ _ _ _ _
          refine iwp_seq ?_
          refine iwp_block ?_
          refine iwp_seq ?_
          apply iwp_regG hJ hJG
          ·
            intro c1 hmine hrnd hG
            refine awp_region 3 mixed (by kernel_rfl) ?_
            refine rg_q (q_move (x := .d (.v _)) rfl) ?_
            refine rg_q (q_callG en31 (.cons rfl .nil) rfl hG (first_p (hiB s k) (by have := hh.lt; omega))) ?_
            refine rg_q (q_assign (x := .d (.v _)) rfl) ?_
            refine rg_nil ?_
            refine aops_nil ?_
            exact ⟨rfl, rfl⟩
          change Iwp _ _ _ _ _ _ _
          refine iwp_seq ?_
          apply iwp_regG hJ hJG
          ·
            intro c1 hmine hrnd hG
            refine awp_regionM 9 [none, none, none, none, none, none, none, some 10, some 10] mixed (by kernel_rfl) ?_
            refine rgm_q rfl (q_load sz68 rfl rfl) ?_
            refine rgm_q rfl (q_move (x := .d (.v _)) rfl) ?_
            refine rgm_q rfl (q_load sz3 rfl rfl) ?_
            refine rgm_q rfl (q_indexAddr sl68 rfl rfl (by omega) (map_at (by omega) hx)) ?_
            refine rgm_q rfl (q_fieldAddr fld43_0 rfl) ?_
            refine rgm_q rfl (q_indexAddr_ar ar41 rfl rfl (by omega) (by omega)) ?_
            refine rgm_q rfl (q_loadA (ds := rgC (r.bx.at q)) sz39 rfl (rw_rg r hq) rfl) ?_
            refine rgm_m (k := 10) rfl rfl (by rfl) (m_alloc zr39 rfl rfl) ?_
            refine rgm_m (k := 10) rfl rfl (by rfl) (m_store sz39 rfl rfl (by exact .inr ⟨_, rfl⟩) rfl rfl (by decide) rfl) ?_
            refine rgm_nil (aops_nil ?_)
            exact ⟨rfl, rfl⟩
          change Iwp _ _ _ _ _ _ _
          refine iwp_block ?_
          refine iwp_seq ?_
          apply iwp_regG hJ hJG
          ·
            intro c1 hmine hrnd hG
            refine awp_region 5 mixed (by kernel_rfl) ?_
            refine rg_q (q_move (x := .d (.v _)) rfl) ?_
            refine rg_q (q_fieldAddr_ref fld39_0 rfl) ?_
            refine rg_q (q_load_ref sz3 rfl rfl rfl) ?_
            refine rg_q (q_lss rfl rfl) ?_
            refine rg_q (q_assign (x := .d (.v _)) rfl) ?_
            refine rg_nil ?_
            refine aops_nil ?_
            exact ⟨rfl, rfl⟩
          change Iwp _ _ _ _ _ _ _
          refine iwp_cond rfl (fun hc8 => ?_) (fun hc8 => ?_)
          ·
            (try simp only [nb, ne_eq] at hc8)
            have hce : cellK l q lo w.2 s (ctz (hiB s k) + 1) = (min (cellK l q lo w.2 s k).1 ((r.bx.at q).1 - 1), (cellK l q lo w.2 s k).2) := by rw [hce0, stepC, if_pos (by omega)]
            apply iwp_regG hJ hJG
            ·
              intro c1 hmine hrnd hG
              refine awp_region 9 mixed (by kernel_rfl) ?_
              refine rg_q (q_fieldAddr_ref fld109_0 rfl) ?_
              refine rg_q (q_fieldAddr_ref fld39_1 rfl) ?_
              refine rg_q (q_load_ref sz3 rfl rfl rfl) ?_
              refine rg_q (q_fieldAddr_ref fld39_0 rfl) ?_
              refine rg_q (q_load_ref sz3 rfl rfl rfl) ?_
              refine rg_q (q_sub rfl rfl (In64.mk (by omega) (by omega))) ?_
              refine rg_q (q_min rfl rfl) ?_
              refine rg_q (q_fieldAddr_ref fld109_0 rfl) ?_
              refine rg_q (q_fieldAddr_ref fld39_1 rfl) ?_
              refine rg_nil ?_
              refine aops_store sz3 rfl rfl (by exact .inl rfl) rfl rfl (by simp; done) rfl ?_
              refine aops_nil ?_
              exact ⟨rfl, rfl⟩
            change Iwp _ _ _ _ _ _ _
            apply iwp_regG hJ hJG
            ·
              intro c1 hmine hrnd hG
              refine awp_region 5 mixed (by kernel_rfl) ?_
              refine rg_q (q_move (x := .d (.v _)) rfl) ?_
              refine rg_q (q_move (x := .d (.v _)) rfl) ?_
              refine rg_q (q_subN rfl rfl (by have := hh.lt; omega) (Nat.one_le_iff_ne_zero.2 h0)) ?_
              refine rg_q (q_andN rfl rfl (by have := hh.lt; omega) (by have := hh.lt; omega)) ?_
              refine rg_q (q_assign (x := .d (.v _)) rfl) ?_
              refine rg_nil ?_
              refine aops_nil ?_
              exact ⟨rfl, rfl⟩
            refine ⟨ctz (hiB s k) + 1, by omega, by omega, rfl, fun c1 => ?_⟩
            exact le_head (ms := [7]) (by repeat (first | exact Out.head rfl rfl | (refine Out.put ?_ rfl) | (refine Out.site ?_ rfl))) ⟨(by ((show T.d (.v (.int .u64 _)) = T.d (.v (.int .u64 _)); rw [hnx]))), trivial⟩ ⟨(by ((show Site.box [_, _, _] = Site.box [_, _, _]; rw [hce]; try rfl))), trivial⟩ rfl rfl rfl rfl
          ·
            (try simp only [nb, ne_eq] at hc8)
            refine iwp_seq ?_
            apply iwp_regG hJ hJG
            ·
              intro c1 hmine hrnd hG
              refine awp_region 5 mixed (by kernel_rfl) ?_
              refine rg_q (q_move (x := .d (.v _)) rfl) ?_
              refine rg_q (q_fieldAddr_ref fld39_1 rfl) ?_
              refine rg_q (q_load_ref sz3 rfl rfl rfl) ?_
              refine rg_q (q_leq rfl rfl) ?_
              refine rg_q (q_assign (x := .d (.v _)) rfl) ?_
              refine rg_nil ?_
              refine aops_nil ?_
              exact ⟨rfl, rfl⟩
            change Iwp _ _ _ _ _ _ _
            refine iwp_cond rfl (fun hc10 => ?_) (fun hc10 => ?_)
            ·
              (try simp only [nb, ne_eq] at hc10)
              have hce : cellK l q lo w.2 s (ctz (hiB s k) + 1) = (min (cellK l q lo w.2 s k).1 (r.bx.at q).2, (cellK l q lo w.2 s k).2 ||| 2 ^ ctz (hiB s k)) := by rw [hce0, stepC, if_neg (by omega), if_pos (by omega)]
              refine iwp_seq ?_
              apply iwp_regG hJ hJG
              ·
                intro c1 hmine hrnd hG
                refine awp_region 6 mixed (by kernel_rfl) ?_
                refine rg_q (q_fieldAddr_ref fld109_1 rfl) ?_
                refine rg_q (q_load_ref sz73 rfl rfl rfl) ?_
                refine rg_q (q_move (x := .d (.v _)) rfl) ?_
                refine rg_q (q_shlN rfl rfl (by omega)) ?_
                refine rg_q (q_orN rfl rfl hb1 hb2) ?_
                refine rg_q (q_fieldAddr_ref fld109_1 rfl) ?_
                refine rg_nil ?_
                refine aops_store sz73 rfl rfl (by exact .inl rfl) rfl rfl (by simp; done) rfl ?_
                refine aops_nil ?_
                exact ⟨rfl, rfl⟩
              change Iwp _ _ _ _ _ _ _
              apply iwp_regG hJ hJG
              ·
                intro c1 hmine hrnd hG
                refine awp_region 8 mixed (by kernel_rfl) ?_
                refine rg_q (q_fieldAddr_ref fld109_0 rfl) ?_
                refine rg_q (q_fieldAddr_ref fld39_1 rfl) ?_
                refine rg_q (q_load_ref sz3 rfl rfl rfl) ?_
                refine rg_q (q_fieldAddr_ref fld39_1 rfl) ?_
                refine rg_q (q_load_ref sz3 rfl rfl rfl) ?_
                refine rg_q (q_min rfl rfl) ?_
                refine rg_q (q_fieldAddr_ref fld109_0 rfl) ?_
                refine rg_q (q_fieldAddr_ref fld39_1 rfl) ?_
                refine rg_nil ?_
                refine aops_store sz3 rfl rfl (by exact .inl rfl) rfl rfl (by exact Nat.le_of_ble_eq_true rfl) rfl ?_
                refine aops_nil ?_
                exact ⟨rfl, rfl⟩
              change Iwp _ _ _ _ _ _ _
              apply iwp_regG hJ hJG
              ·
                intro c1 hmine hrnd hG
                refine awp_region 5 mixed (by kernel_rfl) ?_
                refine rg_q (q_move (x := .d (.v _)) rfl) ?_
                refine rg_q (q_move (x := .d (.v _)) rfl) ?_
                refine rg_q (q_subN rfl rfl (by have := hh.lt; omega) (Nat.one_le_iff_ne_zero.2 h0)) ?_
                refine rg_q (q_andN rfl rfl (by have := hh.lt; omega) (by have := hh.lt; omega)) ?_
                refine rg_q (q_assign (x := .d (.v _)) rfl) ?_
                refine rg_nil ?_
                refine aops_nil ?_
                exact ⟨rfl, rfl⟩
              refine ⟨ctz (hiB s k) + 1, by omega, by omega, rfl, fun c1 => ?_⟩
              exact le_head (ms := [7]) (by repeat (first | exact Out.head rfl rfl | (refine Out.put ?_ rfl) | (refine Out.site ?_ rfl))) ⟨(by ((show T.d (.v (.int .u64 _)) = T.d (.v (.int .u64 _)); rw [hnx]))), trivial⟩ ⟨(by ((show Site.box [_, _, _] = Site.box [_, _, _]; rw [hce]; try rfl))), trivial⟩ rfl rfl rfl rfl
            ·
              (try simp only [nb, ne_eq] at hc10)
              have hce : cellK l q lo w.2 s (ctz (hiB s k) + 1) = cellK l q lo w.2 s k := by rw [hce0, stepC, if_neg (by omega), if_neg (by omega)]
              refine iwp_skip ?_
              change Iwp _ _ _ _ _ _ _
              apply iwp_regG hJ hJG
              ·
                intro c1 hmine hrnd hG
                refine awp_region 5 mixed (by kernel_rfl) ?_
                refine rg_q (q_move (x := .d (.v _)) rfl) ?_
                refine rg_q (q_move (x := .d (.v _)) rfl) ?_
                refine rg_q (q_subN rfl rfl (by have := hh.lt; omega) (Nat.one_le_iff_ne_zero.2 h0)) ?_
                refine rg_q (q_andN rfl rfl (by have := hh.lt; omega) (by have := hh.lt; omega)) ?_
                refine rg_q (q_assign (x := .d (.v _)) rfl) ?_
                refine rg_nil ?_
                refine aops_nil ?_
                exact ⟨rfl, rfl⟩
              refine ⟨ctz (hiB s k) + 1, by omega, by omega, rfl, fun c1 => ?_⟩
              exact le_head (ms := [7]) (by repeat (first | exact Out.head rfl rfl | (refine Out.put ?_ rfl) | (refine Out.site ?_ rfl))) ⟨(by ((show T.d (.v (.int .u64 _)) = T.d (.v (.int .u64 _)); rw [hnx]))), trivial⟩ ⟨(by ((show Site.box [_, _, _] = Site.box [_, _, _]; rw [hce]; try rfl))), trivial⟩ rfl rfl rfl rfl
        ·
          (try simp only [nb, ne_eq] at hc4)
          have h0 : hiB s k = 0 := by omega
          have hce : cellK l q lo w.2 s l.length = cellK l q lo w.2 s k := cellK_skip hk fun i h1 h2 => hh.fin h0 i h1 (by omega)
          obtain ⟨ce1, ce2, ce3⟩ := cellK_bnd hok hq s hle l.length
          refine iwp_exit ?_
          change Iwp _ _ _ _ _ _ _
          refine iwp_seq ?_
          refine iwp_seq ?_
          rw [← hce]
          refine iwp_region ?_
          refine iops_of hJ rfl (fun c1 _ _ _ h => by exact aops_q rfl ((q_move (x := .d (.fn _ _)) rfl)) h) ?_
          refine iops_of hJ rfl (fun c1 _ _ _ h => by exact aops_q rfl ((q_load_refA (ds := [_, _, _]) sz109 rfl rfl rfl rfl)) h) ?_
          refine iops_yield (x := (clN l q w.2 s lo)) hy hdat rfl (.cons rfl .nil) hpre rfl (fun yb => ?_)
          refine iops_of hJ rfl (fun c1 _ _ _ h => by exact aops_q rfl ((q_not rfl)) h) ?_
          refine iops_nil ?_
          change Iwp _ _ _ _ _ _ _
          refine iwp_cond rfl (fun hc13 => ?_) (fun hc13 => ?_)
          ·
            (try simp only [nb, ne_eq] at hc13)
            have hyb : yb = false := by cases yb <;> first | rfl | (exfalso; simp_all; done)
            refine iwp_ret ?_
            exact ⟨.inl rfl, fun h => by rw [hyb] at h; cases h⟩
          ·
            (try simp only [nb, ne_eq] at hc13)
            have hyb : yb = true := by cases yb <;> first | rfl | (exfalso; simp_all; done)
            refine iwp_skip ?_
            change Iwp _ _ _ _ _ _ _
            apply iwp_regG hJ hJG
            ·
              intro c1 hmine hrnd hG
              refine awp_region 5 mixed (by kernel_rfl) ?_
              refine rg_q (q_fieldAddr_ref fld109_0 rfl) ?_
              refine rg_q (q_fieldAddr_ref fld39_1 rfl) ?_
              refine rg_q (q_load_ref sz3 rfl rfl rfl) ?_
              refine rg_q (q_add rfl rfl (In64.mk (by omega) (by omega))) ?_
              refine rg_q (q_assign (x := .d (.v _)) rfl) ?_
              refine rg_nil ?_
              refine aops_nil ?_
              exact ⟨rfl, rfl⟩
            refine ⟨(D ++ [clN l q w.2 s lo], (cellK l q lo w.2 s l.length).1 + 1, m), ⟨⟨hnext, by simp only; omega⟩, by simp only; omega, by simp only; omega⟩, Nat.lt_succ_self m, by rw [hyb], fun c1 => ?_⟩
            exact le_head (ms := []) (by repeat (first | exact Out.head rfl rfl | (refine Out.put ?_ rfl) | (refine Out.site ?_ rfl) | (refine Out.headIn ?_ rfl rfl rfl))) ⟨(by rfl), trivial⟩ trivial rfl rfl rfl rfl
    ·
      (try simp only [nb, ne_eq] at hc1)
      have hend := cells_end hD (by omega)
      refine iwp_exit ?_
      exact ⟨.inr rfl, fun _ => hend⟩
end Go.Proofs.YthpggoophcdgnaaDoor.Am.M
