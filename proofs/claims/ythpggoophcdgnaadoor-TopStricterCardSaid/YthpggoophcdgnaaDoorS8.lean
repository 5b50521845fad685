/- Contracts over the abstract machine: chapter 9: better. Conditions: none. -/
import Derived.Test.YthpggoophcdgnaaDoorS7
set_option linter.unusedVariables false
set_option linter.unusedSimpArgs false
-- mini
namespace Go.Proofs.YthpggoophcdgnaaDoor.Am.M
open Go

section
variable {P : Program} {w0 : Cx} {n : Nat} {s : Nat → Site} {ev : Operand → T} {dst : Option Tmp} {ty : TypeId} {pos : String} {after : Array Edge} {g : Option (Nat × Bool)}
theorem q_slicePO {t : TypeId} {y : Operand} {m e o : Nat} {cs ds : List D} (ht : arB P t m e 1 = true) (hy : ev y = .d (.pt cs o)) (hd : (cs.drop o).take m = ds) (hm : ds.length = m) (h0 : 0 < m) (hmx : m ≤ maxLen) : QOp P w0 n s ev ⟨dst, .slice t y none none none, ty, pos, after, g⟩ (.d (.sl 1 (ds.map fun d => [d]))) :=
  .mk fun a w ok blk val h _ hnew => by
    subst hd
    obtain ⟨b, of, vs, hv, hb, hok, hs, hc, hr⟩ := pt_inv (show Rep w _ (.pt cs o) (a.eval y) by have := h y; rw [hy] at this; exact this)
    have hl : (((cs.drop o).take m).map fun d => [d]).length = m := by rw [List.length_map]; exact hm
    have at_ : ∀ (i : Nat) (x : List D) (j : Nat) (d : D), (((cs.drop o).take m).map fun d => [d])[i]? = some x → x[j]? = some d → cs[o + i]? = some d ∧ j = 0 := by
      intro i x j d h1 h2
      rw [List.getElem?_map, Option.map_eq_some_iff] at h1
      obtain ⟨p, hp, rfl⟩ := h1
      have hp2 : cs[o + i]? = some p := by
        rw [List.getElem?_take] at hp
        split at hp
        · rw [List.getElem?_drop] at hp; exact hp
        · cases hp
      match j, h2 with
      | 0, h2 => cases h2; exact ⟨hp2, rfl⟩
    have hR := Rep.sl (w := w) (ok := ok) 1 (((cs.drop o).take m).map fun d => [d]) b (of + o) m (fun i _ => vs (o + i)) hb hok (by rw [hl]; exact Nat.le_refl _) hmx (fun i x h1 => by
        rw [List.getElem?_map, Option.map_eq_some_iff] at h1
        obtain ⟨p, hp, rfl⟩ := h1; rfl)
      (fun i x j d h1 h2 => hs (o + i) d (at_ i x j d h1 h2).1) (fun i x j d h1 h2 => by
        obtain ⟨q1, rfl⟩ := at_ i x j d h1 h2
        rw [Nat.mul_one, Nat.add_zero, Nat.add_assoc]; exact hc (o + i) d q1) (fun i x j d h1 h2 => hr (o + i) d (at_ i x j d h1 h2).1)
    rw [hl] at hR
    refine ⟨_, w, ?_, Ext.refl w, hR⟩
    obtain ⟨inf, hi, hsz⟩ := arB_info ht
    simp [execOp, Instr.sliceAt, run_underlying (arB_under ht), hv, Instr.sureAddr, Instr.sliceBounds, sizeOf, my_typeInfo hi, addr_add]
end
def cmpI (x y : Int) : Int := if x < y then -1 else if x > y then 1 else 0
def cmpL : List Int → List Int → Int
  | x :: xs, y :: ys => if cmpI x y ≠ 0 then cmpI x y else cmpL xs ys
  | _, _ => 0
theorem cmpL_at {a b : List Int} {k : Nat} {x y : Int} (h : a[k]? = some x) (h' : b[k]? = some y) : cmpL (a.drop k) (b.drop k) = if cmpI x y ≠ 0 then cmpI x y else cmpL (a.drop (k + 1)) (b.drop (k + 1)) := by
  obtain ⟨hlt, rfl⟩ := List.getElem?_eq_some_iff.1 h
  obtain ⟨hlt', rfl⟩ := List.getElem?_eq_some_iff.1 h'
  rw [List.drop_eq_getElem_cons hlt, List.drop_eq_getElem_cons hlt']; rfl
structure Wi where
  m : Mk
  w0 : Int
  w1 : Int
  w2 : Int
def Wi.at (w : Wi) : Nat → Int | 0 => w.w0 | 1 => w.w1 | _ => w.w2
structure Ch where
  best : Mk
  cost : Int
  fnd : Bool
def wiC (w : Wi) : List D := [iv w.m.x0, iv w.m.x1, iv w.m.x2, iv w.m.x3, iv w.m.x4, iv w.m.x5, iv w.w0, iv w.w1, iv w.w2]
def chC (l : List Rw) (w : Wi) (c : Ch) : List D := [.sl 13 (l.map rwC), iv w.m.x0, iv w.m.x1, iv w.m.x2, iv w.m.x3, iv w.m.x4, iv w.m.x5, iv w.w0, iv w.w1, iv w.w2, iv c.best.x0, iv c.best.x1, iv c.best.x2, iv c.best.x3, iv c.best.x4, iv c.best.x5, iv c.cost, .v (.bool c.fnd)]
def mkL (m : Mk) : List Int := [m.x0, m.x1, m.x2, m.x3, m.x4, m.x5]
def beB (c : Ch) (m : Mk) (cost : Int) : Bool := if (!c.fnd || decide (cost < c.cost)) = true then true else if cost > c.cost then false else decide (cmpL (mkL m) (mkL c.best) < 0)
set_option maxRecDepth 100000 in
theorem isNaN_p (x : Int) : PC Tryd.prog 59 [.v (.int .i64 (x))] (.v (.bool (false))) := by
  refine pc_of_awp Tryd.func59 rfl Tryd.ntmps59 (rs := [.tmp 2]) Tryd.results59 (by simp) fun w0 => ?_
  refine awp_seq ?_
  refine awp_region 1 mixed (by kernel_rfl) ?_
  refine rg_q (q_assign (x := .d (.v _)) rfl) ?_
  refine rg_nil ?_
  refine aops_nil ?_
  change Awp _ _ _ _ _
  refine awp_seq ?_
  refine awp_region 4 mixed (by kernel_rfl) ?_
  refine rg_q (q_move (x := .d (.v _)) rfl) ?_
  refine rg_q (q_move (x := .d (.v _)) rfl) ?_
  refine rg_q (q_neq rfl rfl) ?_
  refine rg_q (q_assign (x := .d (.v _)) rfl) ?_
  refine rg_nil ?_
  refine aops_nil ?_
  change Awp _ _ _ _ _
  refine awp_ret ?_
  refine ⟨_, (.cons (.tmp (by exact .d _)) .nil), ?_⟩
  simp; rfl
set_option maxRecDepth 100000 in
theorem cmp_p (x y : Int) : PC Tryd.prog 58 [.v (.int .i64 (x)), .v (.int .i64 (y))] (.v (.int .i64 (cmpI x y))) := by
  refine pc_of_awp Tryd.func58 rfl Tryd.ntmps58 (rs := [.tmp 4]) Tryd.results58 (by simp) fun w0 => ?_
  refine awp_seq ?_
  refine awp_region 1 mixed (by kernel_rfl) ?_
  refine rg_q (q_assign (x := .d (.v _)) rfl) ?_
  refine rg_nil ?_
  refine aops_nil ?_
  change Awp _ _ _ _ _
  refine awp_seq ?_
  refine awp_region 3 mixed (by kernel_rfl) ?_
  refine rg_q (q_move (x := .d (.v _)) rfl) ?_
  refine rg_q (q_call en59 (.cons rfl .nil) rfl (isNaN_p _)) ?_
  refine rg_q (q_assign (x := .d (.v _)) rfl) ?_
  refine rg_nil ?_
  refine aops_nil ?_
  change Awp _ _ _ _ _
  refine awp_seq ?_
  refine awp_region 3 mixed (by kernel_rfl) ?_
  refine rg_q (q_move (x := .d (.v _)) rfl) ?_
  refine rg_q (q_call en59 (.cons rfl .nil) rfl (isNaN_p _)) ?_
  refine rg_q (q_assign (x := .d (.v _)) rfl) ?_
  refine rg_nil ?_
  refine aops_nil ?_
  change Awp _ _ _ _ _
  refine awp_seq ?_
  refine awp_seq ?_
  refine awp_region 1 mixed (by kernel_rfl) ?_
  refine rg_q (q_move (x := .d (.v _)) rfl) ?_
  refine rg_nil ?_
  refine aops_nil ?_
  change Awp _ _ _ _ _
  refine awp_cond rfl (fun hc3 => ?_) (fun hc3 => ?_)
  ·
    cases hc3
  ·
    (try simp only [nb, ne_eq] at hc3)
    refine awp_skip ?_
    change Awp _ _ _ _ _
    refine awp_seq ?_
    refine awp_seq ?_
    refine awp_region 1 mixed (by kernel_rfl) ?_
    refine rg_q (q_move (x := .d (.v _)) rfl) ?_
    refine rg_nil ?_
    refine aops_nil ?_
    change Awp _ _ _ _ _
    refine awp_cond rfl (fun hc7 => ?_) (fun hc7 => ?_)
    ·
      cases hc7
    ·
      (try simp only [nb, ne_eq] at hc7)
      refine awp_skip ?_
      change Awp _ _ _ _ _
      refine awp_seq ?_
      refine awp_seq ?_
      refine awp_region 3 mixed (by kernel_rfl) ?_
      refine rg_q (q_move (x := .d (.v _)) rfl) ?_
      refine rg_q (q_move (x := .d (.v _)) rfl) ?_
      refine rg_q (q_lss rfl rfl) ?_
      refine rg_nil ?_
      refine aops_nil ?_
      change Awp _ _ _ _ _
      refine awp_cond rfl (fun hc9 => ?_) (fun hc9 => ?_)
      ·
        (try simp only [nb, ne_eq] at hc9)
        have hz : cmpI x y = -1 := if_pos hc9
        refine awp_seq ?_
        refine awp_region 1 mixed (by kernel_rfl) ?_
        refine rg_q (q_assign (x := .d (.v _)) rfl) ?_
        refine rg_nil ?_
        refine aops_nil ?_
        change Awp _ _ _ _ _
        refine awp_ret ?_
        refine ⟨_, (.cons (.tmp (by exact .d _)) .nil), ?_⟩
        rw [hz]; rfl
      ·
        (try simp only [nb, ne_eq] at hc9)
        refine awp_skip ?_
        change Awp _ _ _ _ _
        refine awp_seq ?_
        refine awp_seq ?_
        refine awp_region 3 mixed (by kernel_rfl) ?_
        refine rg_q (q_move (x := .d (.v _)) rfl) ?_
        refine rg_q (q_move (x := .d (.v _)) rfl) ?_
        refine rg_q (q_gtr rfl rfl) ?_
        refine rg_nil ?_
        refine aops_nil ?_
        change Awp _ _ _ _ _
        refine awp_cond rfl (fun hc11 => ?_) (fun hc11 => ?_)
        ·
          (try simp only [nb, ne_eq] at hc11)
          have hz : cmpI x y = 1 := (if_neg (by omega)).trans (if_pos (by omega))
          refine awp_seq ?_
          refine awp_region 1 mixed (by kernel_rfl) ?_
          refine rg_q (q_assign (x := .d (.v _)) rfl) ?_
          refine rg_nil ?_
          refine aops_nil ?_
          change Awp _ _ _ _ _
          refine awp_ret ?_
          refine ⟨_, (.cons (.tmp (by exact .d _)) .nil), ?_⟩
          rw [hz]; rfl
        ·
          (try simp only [nb, ne_eq] at hc11)
          have hz : cmpI x y = 0 := (if_neg (by omega)).trans (if_neg (by omega))
          refine awp_skip ?_
          change Awp _ _ _ _ _
          refine awp_seq ?_
          refine awp_region 1 mixed (by kernel_rfl) ?_
          refine rg_q (q_assign (x := .d (.v _)) rfl) ?_
          refine rg_nil ?_
          refine aops_nil ?_
          change Awp _ _ _ _ _
          refine awp_ret ?_
          refine ⟨_, (.cons (.tmp (by exact .d _)) .nil), ?_⟩
          rw [hz]; rfl
set_option maxRecDepth 100000 in
theorem compare_p (a b : List Int) (he : a.length = b.length) : PC Tryd.prog 56 [.sl 1 (a.map iC), .sl 1 (b.map iC)] (.v (.int .i64 (cmpL a b))) := by
  refine pc_of_awp Tryd.func56 rfl Tryd.ntmps56 (rs := [.tmp 4]) Tryd.results56 (by simp) fun w0 => ?_
  refine awp_seq ?_
  refine awp_region 1 mixed (by kernel_rfl) ?_
  refine rg_q (q_assign (x := .d (.v _)) rfl) ?_
  refine rg_nil ?_
  refine aops_nil ?_
  change Awp _ _ _ _ _
  refine awp_seq ?_
  refine awp_seq ?_
  refine awp_region 3 mixed (by kernel_rfl) ?_
  refine rg_q (q_move (x := .d (.sl _ _)) rfl) ?_
  refine rg_q (q_len isl92 rfl (by exact len_map _ _)) ?_
  refine rg_q (q_move (x := .d (.v _)) rfl) ?_
  refine rg_nil ?_
  refine aops_nil ?_
  change Awp _ _ _ _ _
  refine awp_len (t := 9) rfl (fun hl9 => ?_)
  (try simp only [List.length_map] at hl9)
  refine awp_block ?_
  refine awp_loopH [4, 5, 6, 7, 8, 11, 12, 13, 14, 15, 16, 17, 18, 19, 20, 21, 22, 23, 24, 25, 26, 27, 28, 29, 30] [] (α := Nat) (fun k => [(11, T.i (k : Int))]) (fun k => []) (fun k => k ≤ a.length ∧ cmpL a b = cmpL (a.drop k) (b.drop k)) (fun k => a.length - k) 0 ⟨Nat.zero_le _, rfl⟩ ?_ ?_
  · exact le_head (ms := []) (by repeat (exact Out.refl _)) ⟨(by rfl), trivial⟩ trivial rfl rfl rfl rfl
  ·
    intro k ⟨hk, hq⟩
    refine awp_seq ?_
    refine awp_region 1 mixed (by kernel_rfl) ?_
    refine rg_q (q_lss rfl rfl) ?_
    refine rg_nil ?_
    refine aops_nil ?_
    change Awp _ _ _ _ _
    refine awp_seq ?_
    refine awp_cond rfl (fun hc2 => ?_) (fun hc2 => ?_)
    ·
      (try simp only [nb, ne_eq] at hc2)
      have hlt : k < a.length := by (try simp only [List.length_map] at hc2); omega
      obtain ⟨x, hx⟩ : ∃ x, a[k]? = some x := ⟨_, List.getElem?_eq_getElem hlt⟩
      obtain ⟨y, hy⟩ : ∃ y, b[k]? = some y := ⟨_, List.getElem?_eq_getElem (by omega)⟩
      have hd := cmpL_at hx hy
      refine awp_skip ?_
      change Awp _ _ _ _ _
      refine awp_seq ?_
      refine awp_block ?_
      refine awp_seq ?_
      refine awp_region 5 mixed (by kernel_rfl) ?_
      refine rg_q (q_move (x := .d (.v _)) rfl) ?_
      refine rg_q (q_indexAddr sl92 rfl rfl (by omega) (map_at (by omega) hx)) ?_
      refine rg_q (q_load sz3 rfl rfl) ?_
      refine rg_q (q_assign (x := .d (.v _)) rfl) ?_
      refine rg_q (q_assign (x := .d (.v _)) rfl) ?_
      refine rg_nil ?_
      refine aops_nil ?_
      change Awp _ _ _ _ _
      refine awp_seq ?_
      refine awp_seq ?_
      refine awp_region 4 mixed (by kernel_rfl) ?_
      refine rg_q (q_move (x := .d (.v _)) rfl) ?_
      refine rg_q (q_move (x := .d (.sl _ _)) rfl) ?_
      refine rg_q (q_len isl92 rfl (by exact len_map _ _)) ?_
      refine rg_q (q_geq rfl rfl) ?_
      refine rg_nil ?_
      refine aops_nil ?_
      change Awp _ _ _ _ _
      refine awp_len (t := 17) rfl (fun hl17 => ?_)
      (try simp only [List.length_map] at hl17)
      refine awp_cond rfl (fun hc4 => ?_) (fun hc4 => ?_)
      ·
        exact absurd hc4 (by (try simp only [List.length_map]); simp; omega)
      ·
        (try simp only [nb, ne_eq] at hc4)
        refine awp_skip ?_
        change Awp _ _ _ _ _
        refine awp_seq ?_
        refine awp_region 5 mixed (by kernel_rfl) ?_
        refine rg_q (q_move (x := .d (.sl _ _)) rfl) ?_
        refine rg_q (q_move (x := .d (.v _)) rfl) ?_
        refine rg_q (q_indexAddr sl92 rfl rfl (by omega) (map_at (by omega) hy)) ?_
        refine rg_q (q_load sz3 rfl rfl) ?_
        refine rg_q (q_assign (x := .d (.v _)) rfl) ?_
        refine rg_nil ?_
        refine aops_nil ?_
        change Awp _ _ _ _ _
        refine awp_seq ?_
        refine awp_region 4 mixed (by kernel_rfl) ?_
        refine rg_q (q_move (x := .d (.v _)) rfl) ?_
        refine rg_q (q_move (x := .d (.v _)) rfl) ?_
        refine rg_q (q_call en58 (.cons rfl (.cons rfl .nil)) rfl (cmp_p _ _)) ?_
        refine rg_q (q_assign (x := .d (.v _)) rfl) ?_
        refine rg_nil ?_
        refine aops_nil ?_
        change Awp _ _ _ _ _
        refine awp_seq ?_
        refine awp_region 2 mixed (by kernel_rfl) ?_
        refine rg_q (q_move (x := .d (.v _)) rfl) ?_
        refine rg_q (q_neq rfl rfl) ?_
        refine rg_nil ?_
        refine aops_nil ?_
        change Awp _ _ _ _ _
        refine awp_cond rfl (fun hc8 => ?_) (fun hc8 => ?_)
        ·
          (try simp only [nb, ne_eq] at hc8)
          rw [if_pos (by omega)] at hd
          have hz := hq.trans hd
          refine awp_seq ?_
          refine awp_region 2 mixed (by kernel_rfl) ?_
          refine rg_q (q_move (x := .d (.v _)) rfl) ?_
          refine rg_q (q_assign (x := .d (.v _)) rfl) ?_
          refine rg_nil ?_
          refine aops_nil ?_
          change Awp _ _ _ _ _
          refine awp_ret ?_
          refine ⟨_, (.cons (.tmp (by exact .d _)) .nil), ?_⟩
          rw [hz]; rfl
        ·
          (try simp only [nb, ne_eq] at hc8)
          rw [if_neg (by omega)] at hd
          refine awp_skip ?_
          change Awp _ _ _ _ _
          refine awp_region 2 mixed (by kernel_rfl) ?_
          refine rg_q (q_add rfl rfl (In64.mk (by omega) (by omega))) ?_
          refine rg_q (q_move (x := .d (.v _)) rfl) ?_
          refine rg_nil ?_
          refine aops_nil ?_
          refine ⟨k + 1, ⟨by omega, by rw [hq, hd]⟩, by omega, ?_⟩
          exact le_head (ms := []) (by repeat (first | exact Out.head rfl rfl | (refine Out.put ?_ rfl))) ⟨(by rfl), trivial⟩ trivial rfl rfl rfl rfl
    ·
      (try simp only [nb, ne_eq] at hc2)
      have hkn : k = a.length := by (try simp only [List.length_map] at hc2); omega
      have hz : cmpL a b = 0 := by rw [hq, hkn, List.drop_length, he, List.drop_length]; rfl
      refine awp_exit ?_
      change Awp _ _ _ _ _
      refine awp_seq ?_
      refine awp_seq ?_
      refine awp_region 5 mixed (by kernel_rfl) ?_
      refine rg_q (q_move (x := .d (.sl _ _)) rfl) ?_
      refine rg_q (q_len isl92 rfl (by exact len_map _ _)) ?_
      refine rg_q (q_move (x := .d (.sl _ _)) rfl) ?_
      refine rg_q (q_len isl92 rfl (by exact len_map _ _)) ?_
      refine rg_q (q_lss rfl rfl) ?_
      refine rg_nil ?_
      refine aops_nil ?_
      change Awp _ _ _ _ _
      refine awp_len (t := 31) rfl (fun hl31 => ?_)
      (try simp only [List.length_map] at hl31)
      refine awp_len (t := 33) rfl (fun hl33 => ?_)
      (try simp only [List.length_map] at hl33)
      refine awp_cond rfl (fun hc11 => ?_) (fun hc11 => ?_)
      ·
        exact absurd hc11 (by (try simp only [List.length_map]); simp; omega)
      ·
        (try simp only [nb, ne_eq] at hc11)
        refine awp_skip ?_
        change Awp _ _ _ _ _
        refine awp_seq ?_
        refine awp_region 1 mixed (by kernel_rfl) ?_
        refine rg_q (q_assign (x := .d (.v _)) rfl) ?_
        refine rg_nil ?_
        refine aops_nil ?_
        change Awp _ _ _ _ _
        refine awp_ret ?_
        refine ⟨_, (.cons (.tmp (by exact .d _)) .nil), ?_⟩
        rw [hz]; rfl
set_option maxRecDepth 100000 in
theorem better_p (l : List Rw) (w : Wi) (c : Ch) (m : Mk) (cost : Int) : PC Tryd.prog 53 [.pt (chC l w c) 0, .agg (mkC m), .v (.int .i64 (cost))] (.v (.bool (beB c m cost))) := by
  refine pc_of_awp Tryd.func53 rfl Tryd.ntmps53 (rs := [.tmp 6]) Tryd.results53 (by simp) fun w0 => ?_
  refine awp_seq ?_
  refine awp_region 2 mixed (by kernel_rfl) ?_
  refine rg_q (q_box rfl (by exact .inr ⟨_, rfl⟩)) ?_
  refine rg_q (q_assign (x := .d (.v _)) rfl) ?_
  refine rg_nil ?_
  refine aops_nil ?_
  change Awp _ _ _ _ _
  refine awp_seq ?_
  refine awp_block ?_
  refine awp_seq ?_
  refine awp_region 14 mixed (by kernel_rfl) ?_
  refine rg_q (q_move (x := .d (.pt _ _)) rfl) ?_
  refine rg_q (q_nilCheck rfl) ?_
  refine rg_q (q_fieldAddr fld85_4 rfl) ?_
  refine rg_q (q_load sz4 rfl rfl) ?_
  refine rg_q (q_not rfl) ?_
  refine rg_q (q_move (x := .d (.v _)) rfl) ?_
  refine rg_g rfl rfl (fun hG => (q_move (x := .d (.v _)) rfl)) ?_
  refine rg_g rfl rfl (fun hG => (q_move (x := .d (.pt _ _)) rfl)) ?_
  refine rg_g rfl rfl (fun hG => (q_nilCheck rfl)) ?_
  refine rg_g rfl rfl (fun hG => (q_fieldAddr fld85_3 rfl)) ?_
  refine rg_g rfl rfl (fun hG => (q_load sz3 rfl rfl)) ?_
  refine rg_g rfl rfl (fun hG => (q_lss rfl rfl)) ?_
  refine rg_pick rfl rfl rfl rfl rfl rfl ?_
  refine rg_q (q_assign (x := .d (.v _)) rfl) ?_
  refine rg_nil ?_
  refine aops_nil ?_
  change Awp _ _ _ _ _
  refine awp_cond rfl (fun hc1 => ?_) (fun hc1 => ?_)
  ·
    have hz : beB c m cost = true := if_pos (by simpa [bif_or] using hc1)
    refine awp_seq ?_
    refine awp_region 1 mixed (by kernel_rfl) ?_
    refine rg_q (q_assign (x := .d (.v _)) rfl) ?_
    refine rg_nil ?_
    refine aops_nil ?_
    change Awp _ _ _ _ _
    refine awp_ret ?_
    refine ⟨_, (.cons (.tmp (by exact .d _)) .nil), ?_⟩
    rw [hz]; rfl
  ·
    (try simp only [nb, ne_eq] at hc1)
    refine awp_seq ?_
    refine awp_region 7 mixed (by kernel_rfl) ?_
    refine rg_q (q_move (x := .d (.v _)) rfl) ?_
    refine rg_q (q_move (x := .d (.pt _ _)) rfl) ?_
    refine rg_q (q_nilCheck rfl) ?_
    refine rg_q (q_fieldAddr fld85_3 rfl) ?_
    refine rg_q (q_load sz3 rfl rfl) ?_
    refine rg_q (q_gtr rfl rfl) ?_
    refine rg_q (q_assign (x := .d (.v _)) rfl) ?_
    refine rg_nil ?_
    refine aops_nil ?_
    change Awp _ _ _ _ _
    refine awp_cond rfl (fun hc3 => ?_) (fun hc3 => ?_)
    ·
      have hz : beB c m cost = false := (if_neg (by simpa [bif_or] using hc1)).trans (if_pos (by simpa using hc3))
      refine awp_seq ?_
      refine awp_region 1 mixed (by kernel_rfl) ?_
      refine rg_q (q_assign (x := .d (.v _)) rfl) ?_
      refine rg_nil ?_
      refine aops_nil ?_
      change Awp _ _ _ _ _
      refine awp_ret ?_
      refine ⟨_, (.cons (.tmp (by exact .d _)) .nil), ?_⟩
      rw [hz]; rfl
    ·
      have hz : beB c m cost = decide (cmpL (mkL m) (mkL c.best) < 0) := (if_neg (by simpa [bif_or] using hc1)).trans (if_neg (by simpa using hc3))
      refine awp_skip ?_
      change Awp _ _ _ _ _
      refine awp_seq ?_
      refine awp_region 8 mixed (by kernel_rfl) ?_
      refine rg_q (q_slicePO (ds := mkC m) ar27 rfl rfl rfl (by decide) (by decide)) ?_
      refine rg_q (q_move (x := .d (.pt _ _)) rfl) ?_
      refine rg_q (q_nilCheck rfl) ?_
      refine rg_q (q_fieldAddr fld85_2 rfl) ?_
      refine rg_q (q_slicePO (ds := mkC c.best) ar27 rfl rfl rfl (by decide) (by decide)) ?_
      refine rg_q (q_call en56 (.cons rfl (.cons rfl .nil)) rfl (compare_p (mkL m) (mkL c.best) rfl)) ?_
      refine rg_q (q_lss rfl rfl) ?_
      refine rg_q (q_assign (x := .d (.v _)) rfl) ?_
      refine rg_nil ?_
      refine aops_nil ?_
      change Awp _ _ _ _ _
      refine awp_ret ?_
      refine ⟨_, (.cons (.tmp (by exact .d _)) .nil), ?_⟩
      rw [hz]; rfl
end Go.Proofs.YthpggoophcdgnaaDoor.Am.M
