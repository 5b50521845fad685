/- Contracts over the abstract machine: the text of powers. Conditions: none. -/
import Derived.Test.YtcdccdcbfbakfaaGreatDoorV6
import Derived.Test.YtcdccdcbfbakfaaGreatDoorAm56
set_option linter.unusedVariables false
set_option linter.unusedSimpArgs false
-- mini
namespace Go.Proofs.YtcdccdcbfbakfaaGreatDoor.Am.M
open Go
theorem joinTail_len : ∀ {r : List (List UInt8)}, (∀ y ∈ r, y.length ≤ 21) → (Lib.joinTail [32] r).length ≤ 22 * r.length
  | [], _ => Nat.le_refl _
  | y :: r, h => by
    have h1 := h y (by simp)
    have h2 := joinTail_len (r := r) fun z hz => h z (by simp [hz])
    show ([32] ++ y ++ Lib.joinTail [32] r).length ≤ _
    simp only [List.length_append, List.length_cons, List.length_nil]
    omega

def jnI (l : List Int) : List UInt8 := Lib.join (l.map Lib.itoa) [32]
theorem jnI_cons (n : Int) (r : List Int) : jnI (n :: r) = Lib.itoa n ++ Lib.joinTail [32] (r.map Lib.itoa) := Lib.join_cons _ _ _
theorem jnI_len {l : List Int} (h : ∀ n ∈ l, In64 n) : (jnI l).length ≤ 22 * l.length := by
  cases l with
  | nil => exact Nat.le_refl _
  | cons n r =>
    rw [jnI_cons, List.length_append]
    have h1 := itoa_len (h n (by simp))
    have h2 := joinTail_len (r := r.map Lib.itoa) fun y hy => by obtain ⟨m, hm, rfl⟩ := List.mem_map.1 hy; exact itoa_len (h m (by simp [hm]))
    rw [List.length_map] at h2
    simp only [List.length_cons]
    omega
theorem jt_snoc (z : List UInt8) : ∀ r : List (List UInt8), Lib.joinTail [32] (r ++ [z]) = Lib.joinTail [32] r ++ (32 :: z)
  | [] => by simp [Lib.joinTail]
  | a :: r => by
    have ih := jt_snoc z r
    show [32] ++ a ++ Lib.joinTail [32] (r ++ [z]) = [32] ++ a ++ Lib.joinTail [32] r ++ (32 :: z)
    rw [ih]; simp
theorem jn_one (y : Int) : jnI [y] = Lib.itoa y := by rw [jnI_cons]; simp [Lib.joinTail]
theorem jn_snoc {l : List Int} (h : l ≠ []) (y : Int) : jnI (l ++ [y]) = jnI l ++ [32] ++ Lib.itoa y := by
  cases l with
  | nil => exact absurd rfl h
  | cons n r =>
    rw [List.cons_append, jnI_cons, jnI_cons, List.map_append, List.map_cons, List.map_nil, jt_snoc]
    simp
def ckI (l : List Int) (n i : Nat) : List Int := (l.take (n * i + n)).drop (n * i)
def ckF (l : List Int) (n i : Nat) : List (List Int) := (List.range i).map (ckI l n)
def encI (b : List Int) : List D := [.sl 1 (b.map iC)]
theorem ckF_succ (l : List Int) (n i : Nat) : ckF l n (i + 1) = ckF l n i ++ [ckI l n i] := by unfold ckF; rw [List.range_succ, List.map_append]; rfl
theorem ckF_pre {l : List Int} {n i : Nat} : ∀ {m : Nat}, i ≤ m → ckF l n i <+: ckF l n m
  | 0, h => by have : i = 0 := by omega
               subst this; exact List.prefix_rfl
  | m + 1, h => by
    by_cases e : i = m + 1
    · subst e; exact List.prefix_rfl
    · rw [ckF_succ]; exact (ckF_pre (show i ≤ m by omega)).trans (List.prefix_append _ _)
theorem ckI_len {l : List Int} {n i m : Nat} (h : l.length = n * m) (hi : i < m) : (ckI l n i).length = n := by
  have h1 : n * (i + 1) = n * i + n := Nat.mul_succ n i
  have h2 : n * (i + 1) ≤ n * m := Nat.mul_le_mul_left n hi
  unfold ckI
  rw [List.length_drop, List.length_take]; omega
theorem ckI_row (l : List Int) (n i : Nat) : ((l.map iC).take (n * i + n)).drop (n * i) = (ckI l n i).map iC := by unfold ckI; rw [List.map_drop, List.map_take]
theorem ckI_mem {l : List Int} {n i : Nat} {y : Int} (h : y ∈ ckI l n i) : y ∈ l := List.mem_of_mem_take (List.mem_of_mem_drop h)
theorem ckF_at {l : List Int} {n m k : Nat} {y : List Int} (h : (ckF l n m)[k]? = some y) : k < m ∧ y = ckI l n k := by
  unfold ckF at h
  rw [List.getElem?_map] at h
  cases hr : (List.range m)[k]? with
  | none => rw [hr] at h; cases h
  | some j =>
    rw [hr] at h
    obtain ⟨h1, h2⟩ := List.getElem?_eq_some_iff.1 hr
    rw [List.length_range] at h1
    rw [List.getElem_range] at h2
    subst h2
    cases h
    exact ⟨h1, rfl⟩
def hdT (g : Grd) : List UInt8 := [103, 114, 105, 100, 32] ++ jnI [g.fx, g.fz, g.co, g.ro, g.st] ++ [10]
def prT (g : Grd) (l : List Int) : Nat → List UInt8
  | 0 => hdT g
  | k + 1 => prT g l k ++ (jnI (ckI l g.co.toNat k) ++ [10])
def ppT (g : Grd) (l : List Int) : ByteArray := if ofE g l ≠ 0 then ⟨#[]⟩ else mkB (prT g l g.ro.toNat)
theorem grd_in64 {g : Grd} (h : GrdOk g) : ∀ n ∈ [g.fx, g.fz, g.co, g.ro, g.st], In64 n := by
  obtain ⟨x1, x2, z1, z2, c1, c2, r1, r2, s1, s2⟩ := h
  intro n hn
  simp only [List.mem_cons, List.not_mem_nil, or_false] at hn
  rcases hn with rfl | rfl | rfl | rfl | rfl <;> constructor <;> omega
theorem pw_in64 {g : Grd} {l : List Int} (h : FldOk g l) : ∀ n ∈ l, In64 n := fun n hn => by
  have := h.pw n hn
  constructor <;> omega
theorem hdT_len {g : Grd} (h : GrdOk g) : (hdT g).length ≤ 200 := by
  have h1 := jnI_len (grd_in64 h)
  unfold hdT
  simp only [List.length_append, List.length_cons, List.length_nil] at h1 ⊢
  omega
theorem fld_len {g : Grd} {l : List Int} (h : FldOk g l) : l.length = g.co.toNat * g.ro.toNat := by
  have h1 := h.len
  have c1 := h.gr.c1
  have r1 := h.gr.r1
  have h2 : ((g.co.toNat * g.ro.toNat : Nat) : Int) = g.co * g.ro := by rw [Int.natCast_mul, Int.toNat_of_nonneg (by omega), Int.toNat_of_nonneg (by omega)]
  omega
theorem prT_len {g : Grd} {l : List Int} (h : FldOk g l) : ∀ k, k ≤ g.ro.toNat → (prT g l k).length ≤ 200 + k * 1000
  | 0, _ => by have := hdT_len h.gr; show (hdT g).length ≤ _; omega
  | k + 1, hk => by
    have ih := prT_len h k (by omega)
    have c2 := h.gr.c2
    have h1 := jnI_len (l := ckI l g.co.toNat k) fun n hn => pw_in64 h n (ckI_mem hn)
    rw [ckI_len (fld_len h) (by omega)] at h1
    show (prT g l k ++ (jnI (ckI l g.co.toNat k) ++ [10])).length ≤ _
    simp only [List.length_append, List.length_cons, List.length_nil]
    omega
set_option maxRecDepth 100000 in
theorem joined_p (l : List Int) (h0 : l ≠ []) (hl : l.length ≤ 1000) (h : ∀ n ∈ l, In64 n) : PCG Tryz.prog GW 21 [.sl 1 (l.map iC)] (.v (.string (mkB (jnI l)))) := by
  have jl := jnI_len h
  refine pcg_of_awpN gw_keep Tryz.func21 rfl Tryz.ntmps21 (rs := [.tmp 2]) Tryz.results21 (by simp) fun w0 hmine hrnd hpn hG => ?_
  refine awp_seq ?_
  refine awp_region 1 mixed (by kernel_rfl) ?_
  refine rg_q (q_assign (x := .d (.v _)) rfl) ?_
  refine rg_nil ?_
  refine aops_nil ?_
  change Awp _ _ _ _ _
  refine awp_seq ?_
  refine awp_region 1 mixed (by kernel_rfl) ?_
  refine rg_q (q_assign_nil) ?_
  refine rg_nil ?_
  refine aops_nil ?_
  change Awp _ _ _ _ _
  refine Awp.le (le_own (k := 3) (e := 9) (sz := 1) rfl rfl) ?_
  refine awp_seq ?_
  refine awp_seq ?_
  refine awp_region 3 mixed (by kernel_rfl) ?_
  refine rg_q (q_move (x := .d (.sl _ _)) rfl) ?_
  refine rg_q (q_len isl26 rfl (by exact len_map _ _)) ?_
  refine rg_q (q_move (x := .d (.v _)) rfl) ?_
  refine rg_nil ?_
  refine aops_nil ?_
  change Awp _ _ _ _ _
  refine awp_len (t := 6) rfl (fun hl6 => ?_)
  (try simp only [List.length_map] at hl6)
  refine awp_block ?_
  refine awp_loopH [3, 5, 8, 9, 10, 11, 12, 13, 14, 15, 16, 17] [3] (α := Nat) (fun k => [(8, T.i (k : Int)), (3, .rs 3)]) (fun k => [(3, .row 9 1 (((l.take k).map fun n => mkB (Lib.itoa n)).map strC))]) (fun k => k ≤ l.length) (fun k => l.length - k) 0 (Nat.zero_le _) ?_ ?_
  · exact le_head (ms := [3]) (by repeat (exact Out.refl _)) ⟨(by rfl), (by rfl), trivial⟩ ⟨(by rfl), trivial⟩ rfl rfl rfl rfl
  ·
    intro k hk
    refine awp_seq ?_
    refine awp_region 1 mixed (by kernel_rfl) ?_
    refine rg_q (q_lss rfl rfl) ?_
    refine rg_nil ?_
    refine aops_nil ?_
    change Awp _ _ _ _ _
    refine awp_seq ?_
    refine awp_cond rfl (fun hc3 => ?_) (fun hc3 => ?_)
    ·
      (try simp only [nb, ne_eq] at hc3)
      have hlt : k < l.length := by (try simp only [List.length_map] at hc3); omega
      obtain ⟨y, hx⟩ : ∃ y, l[k]? = some y := ⟨_, List.getElem?_eq_getElem hlt⟩
      have hyi := h y (List.mem_of_getElem? hx)
      have hln : (l.take k).length ≤ 1000 := by rw [List.length_take]; omega
      have hsk : (((l.take (k + 1)).map fun n => mkB (Lib.itoa n)).map strC) = (((l.take k).map fun n => mkB (Lib.itoa n)).map strC) ++ [[.v (.string (mkB (Lib.itoa y)))]] := by
        rw [List.take_succ_eq_append_getElem hlt, (List.getElem?_eq_some_iff.1 hx).2]; simp [strC]
      refine awp_skip ?_
      change Awp _ _ _ _ _
      refine awp_seq ?_
      refine awp_block ?_
      refine awp_seq ?_
      refine awp_region 3 mixed (by kernel_rfl) ?_
      refine rg_q (q_indexAddr sl26 rfl rfl (by omega) (map_at (by omega) hx)) ?_
      refine rg_q (q_load sz3 rfl rfl) ?_
      refine rg_q (q_assign (x := .d (.v _)) rfl) ?_
      refine rg_nil ?_
      refine aops_nil ?_
      change Awp _ _ _ _ _
      refine awp_region 4 mixed (by kernel_rfl) ?_
      refine rg_q (q_move (x := .rs _) rfl) ?_
      refine rg_q (q_move (x := .d (.v _)) rfl) ?_
      refine rg_q (q_callG en51 (.cons rfl .nil) rfl hG (itoa_p y hyi)) ?_
      refine rg_q (q_buildSlice sl86 zr9 rfl rfl (by decide) (.cons rfl (by exact .inl rfl) .nil) ⟨rfl, rfl, trivial⟩ rfl (by decide) rfl) ?_
      refine rg_nil ?_
      refine aops_append sl86 zr9 by9 rfl (by decide) rfl rfl rfl rfl (by (try simp only [List.length_map, List.length_append, List.length_cons, List.length_nil]); omega) (by (try simp only [List.length_map, List.length_append, List.length_cons, List.length_nil]); omega) rfl rfl ?_
      refine aops_q rfl (q_assign (x := .rs _) rfl) ?_
      refine aops_nil ?_
      change Awp _ _ _ _ _
      refine awp_region 2 mixed (by kernel_rfl) ?_
      refine rg_q (q_add rfl rfl (In64.mk (by omega) (by omega))) ?_
      refine rg_q (q_move (x := .d (.v _)) rfl) ?_
      refine rg_nil ?_
      refine aops_nil ?_
      refine ⟨k + 1, by omega, by omega, ?_⟩
      exact le_head (ms := [3]) (by repeat (first | exact Out.head rfl rfl | (refine Out.put ?_ rfl) | (refine Out.site ?_ rfl) | (refine Out.killS ?_ rfl))) ⟨(by rfl), (by rfl), trivial⟩ ⟨(by (show Site.row 9 1 (_ ++ [_]) = Site.row 9 1 _; rw [hsk]; rfl)), trivial⟩ rfl rfl rfl rfl
    ·
      (try simp only [nb, ne_eq] at hc3)
      have hkn : k = l.length := by (try simp only [List.length_map] at hc3); omega
      subst hkn
      have hrow : (((l.take l.length).map fun n => mkB (Lib.itoa n)).map strC) = ((l.map Lib.itoa).map mkB).map strC := by rw [List.take_length]; simp only [List.map_map]; rfl
      refine awp_exit ?_
      change Awp _ _ _ _ _
      refine awp_seq ?_
      refine Awp.le (le_freezeR (es := ((l.map Lib.itoa).map mkB).map strC) 3 3 (by show Site.row _ _ _ = _; rw [hrow]) rfl rfl rfl hmine) ?_
      refine awp_region 3 mixed (by kernel_rfl) ?_
      refine rg_q (q_move (x := .d (.sl _ _)) rfl) ?_
      refine rg_q (q_callG en52 (.cons rfl (.cons rfl .nil)) rfl hG (join_p (l.map Lib.itoa) (fun e => h0 (List.map_eq_nil_iff.1 e)) (by rw [List.length_map]; omega) (by show (jnI l).length ≤ _; omega))) ?_
      refine rg_q (q_assign (x := .d (.v _)) rfl) ?_
      refine rg_nil ?_
      refine aops_nil ?_
      change Awp _ _ _ _ _
      refine awp_ret ?_
      refine ⟨_, (.cons (.tmp (by exact .d _)) .nil), ?_⟩
      rfl
set_option maxRecDepth 100000 in
theorem rrow_p (l : List Int) (hl : l.length ≤ 1000) (h : ∀ n ∈ l, In64 n) : PC Tryz.prog 29 [.sl 1 (l.map iC)] (.v (.string (mkB (jnI l)))) := by
  refine pc_of_awpN Tryz.func29 rfl Tryz.ntmps29 (rs := [.tmp 2]) Tryz.results29 (by simp) fun w0 hmine hrnd hpn => ?_
  refine awp_seq ?_
  refine awp_region 1 mixed (by kernel_rfl) ?_
  refine rg_q (q_assign (x := .d (.v _)) rfl) ?_
  refine rg_nil ?_
  refine aops_nil ?_
  change Awp _ _ _ _ _
  refine awp_seq ?_
  refine awp_region 1 mixed (by kernel_rfl) ?_
  refine rg_q (q_assign (x := .d (.v _)) rfl) ?_
  refine rg_nil ?_
  refine aops_nil ?_
  change Awp _ _ _ _ _
  refine awp_seq ?_
  refine awp_seq ?_
  refine awp_region 1 mixed (by kernel_rfl) ?_
  refine rg_q (q_assign (x := .d (.v _)) rfl) ?_
  refine rg_nil ?_
  refine aops_nil ?_
  change Awp _ _ _ _ _
  refine awp_block ?_
  refine awp_loopH [3, 4, 5, 6, 7, 8, 9, 10, 11, 12, 13, 14, 15, 16, 17, 18, 19, 20, 21] [] (α := Nat) (fun k => [(4, T.i (k : Int)), (3, .d (.v (.string (mkB (jnI (l.take k))))))]) (fun k => []) (fun k => k ≤ l.length) (fun k => l.length - k) 0 (Nat.zero_le _) ?_ ?_
  · exact le_head (ms := []) (by repeat (exact Out.refl _)) ⟨(by rfl), (by rfl), trivial⟩ trivial rfl rfl rfl rfl
  ·
    intro k hk
    refine awp_seq ?_
    refine awp_seq ?_
    refine awp_region 4 mixed (by kernel_rfl) ?_
    refine rg_q (q_move (x := .d (.v _)) rfl) ?_
    refine rg_q (q_move (x := .d (.sl _ _)) rfl) ?_
    refine rg_q (q_len isl26 rfl (by exact len_map _ _)) ?_
    refine rg_q (q_lss rfl rfl) ?_
    refine rg_nil ?_
    refine aops_nil ?_
    change Awp _ _ _ _ _
    refine awp_len (t := 6) rfl (fun hl6 => ?_)
    (try simp only [List.length_map] at hl6)
    refine awp_cond rfl (fun hc3 => ?_) (fun hc3 => ?_)
    ·
      (try simp only [nb, ne_eq] at hc3)
      have hlt : k < l.length := by (try simp only [List.length_map] at hc3); omega
      obtain ⟨y, hx⟩ : ∃ y, l[k]? = some y := ⟨_, List.getElem?_eq_getElem hlt⟩
      have hyi := h y (List.mem_of_getElem? hx)
      have hyl := itoa_len hyi
      have tl := jnI_len (l := l.take k) fun n hn => h n (List.mem_of_mem_take hn)
      rw [List.length_take] at tl
      have hsz := mkB_size (jnI (l.take k))
      have hsy := mkB_size (Lib.itoa y)
      have hs1 : (⟨#[32]⟩ : ByteArray).size = 1 := rfl
      have hs3 : (mkB (jnI (l.take k)) ++ ⟨#[32]⟩).size = (mkB (jnI (l.take k))).size + 1 := by rw [ByteArray.size_append]; rfl
      have htk : l.take (k + 1) = l.take k ++ [y] := by rw [List.take_succ_eq_append_getElem hlt, (List.getElem?_eq_some_iff.1 hx).2]
      refine awp_skip ?_
      change Awp _ _ _ _ _
      refine awp_seq ?_
      refine awp_block ?_
      refine awp_seq ?_
      refine awp_seq ?_
      refine awp_region 2 mixed (by kernel_rfl) ?_
      refine rg_q (q_move (x := .d (.v _)) rfl) ?_
      refine rg_q (q_gtr rfl rfl) ?_
      refine rg_nil ?_
      refine aops_nil ?_
      change Awp _ _ _ _ _
      refine awp_cond rfl (fun hc5 => ?_) (fun hc5 => ?_)
      ·
        (try simp only [nb, ne_eq] at hc5)
        have hst : mkB (jnI (l.take k)) ++ mkB [32] ++ mkB (Lib.itoa y) = mkB (jnI (l.take (k + 1))) := by rw [mkB_app, mkB_app, htk, jn_snoc (by intro e; have := congrArg List.length e; rw [List.length_take, List.length_nil] at this; omega)]
        refine awp_region 3 mixed (by kernel_rfl) ?_
        refine rg_q (q_move (x := .d (.v _)) rfl) ?_
        refine rg_q (q_adds rfl rfl (by omega)) ?_
        refine rg_q (q_assign (x := .d (.v _)) rfl) ?_
        refine rg_nil ?_
        refine aops_nil ?_
        change Awp _ _ _ _ _
        refine awp_region 8 mixed (by kernel_rfl) ?_
        refine rg_q (q_move (x := .d (.v _)) rfl) ?_
        refine rg_q (q_move (x := .d (.sl _ _)) rfl) ?_
        refine rg_q (q_move (x := .d (.v _)) rfl) ?_
        refine rg_q (q_indexAddr sl26 rfl rfl (by omega) (map_at (by omega) hx)) ?_
        refine rg_q (q_load sz3 rfl rfl) ?_
        refine rg_q (q_call en59 (.cons rfl .nil) rfl (decimal_p y hyi)) ?_
        refine rg_q (q_adds rfl rfl (by omega)) ?_
        refine rg_q (q_assign (x := .d (.v _)) rfl) ?_
        refine rg_nil ?_
        refine aops_nil ?_
        change Awp _ _ _ _ _
        refine awp_region 3 mixed (by kernel_rfl) ?_
        refine rg_q (q_move (x := .d (.v _)) rfl) ?_
        refine rg_q (q_add rfl rfl (In64.mk (by omega) (by omega))) ?_
        refine rg_q (q_assign (x := .d (.v _)) rfl) ?_
        refine rg_nil ?_
        refine aops_nil ?_
        refine ⟨k + 1, by omega, by omega, ?_⟩
        exact le_head (ms := []) (by repeat (first | exact Out.head rfl rfl | (refine Out.put ?_ rfl))) ⟨(by rfl), (by (exact congrArg (fun b => T.d (.v (.string b))) hst)), trivial⟩ trivial rfl rfl rfl rfl
      ·
        (try simp only [nb, ne_eq] at hc5)
        have hk0 : k = 0 := by omega
        have hst : mkB (jnI (l.take k)) ++ mkB (Lib.itoa y) = mkB (jnI (l.take (k + 1))) := by subst hk0; rw [mkB_app, htk, List.take_zero, List.nil_append, jn_one]; rfl
        refine awp_skip ?_
        change Awp _ _ _ _ _
        refine awp_region 8 mixed (by kernel_rfl) ?_
        refine rg_q (q_move (x := .d (.v _)) rfl) ?_
        refine rg_q (q_move (x := .d (.sl _ _)) rfl) ?_
        refine rg_q (q_move (x := .d (.v _)) rfl) ?_
        refine rg_q (q_indexAddr sl26 rfl rfl (by omega) (map_at (by omega) hx)) ?_
        refine rg_q (q_load sz3 rfl rfl) ?_
        refine rg_q (q_call en59 (.cons rfl .nil) rfl (decimal_p y hyi)) ?_
        refine rg_q (q_adds rfl rfl (by omega)) ?_
        refine rg_q (q_assign (x := .d (.v _)) rfl) ?_
        refine rg_nil ?_
        refine aops_nil ?_
        change Awp _ _ _ _ _
        refine awp_region 3 mixed (by kernel_rfl) ?_
        refine rg_q (q_move (x := .d (.v _)) rfl) ?_
        refine rg_q (q_add rfl rfl (In64.mk (by omega) (by omega))) ?_
        refine rg_q (q_assign (x := .d (.v _)) rfl) ?_
        refine rg_nil ?_
        refine aops_nil ?_
        refine ⟨k + 1, by omega, by omega, ?_⟩
        exact le_head (ms := []) (by repeat (first | exact Out.head rfl rfl | (refine Out.put ?_ rfl))) ⟨(by rfl), (by (exact congrArg (fun b => T.d (.v (.string b))) hst)), trivial⟩ trivial rfl rfl rfl rfl
    ·
      (try simp only [nb, ne_eq] at hc3)
      have hkn : k = l.length := by (try simp only [List.length_map] at hc3); omega
      have hfin : (jnI (l.take k)) = jnI l := by rw [hkn, List.take_length]
      refine awp_exit ?_
      change Awp _ _ _ _ _
      refine awp_seq ?_
      refine awp_region 2 mixed (by kernel_rfl) ?_
      refine rg_q (q_move (x := .d (.v _)) rfl) ?_
      refine rg_q (q_assign (x := .d (.v _)) rfl) ?_
      refine rg_nil ?_
      refine aops_nil ?_
      change Awp _ _ _ _ _
      refine awp_ret ?_
      refine ⟨_, (.cons (.tmp (by exact .d _)) .nil), ?_⟩
      rw [hfin]; rfl
set_option maxRecDepth 100000 in
theorem chunkI_i (l : List Int) (n m : Nat) (hn : 1 ≤ n) (h1 : l.length = n * m) (h2 : l.length ≤ 100000) : PI Tryz.prog 53 [] [.pt [.sl 1 (l.map iC)] 0, .pt [.v (.int .i64 ((n : Int)))] 0] (encI) (ckF l n m) true := by
  refine pi_of_iwp Tryz.func53 rfl Tryz.ntmps53 rfl rfl fun J c l0 hJ hy hdat hfin => ?_
  refine iwp_seq ?_
  apply iwp_reg hJ
  ·
    intro c1 hmine hrnd
    refine awp_region 1 mixed (by kernel_rfl) ?_
    refine rg_q (q_assign (x := .d (.v _)) rfl) ?_
    refine rg_nil ?_
    refine aops_nil ?_
    exact ⟨rfl, rfl⟩
  change Iwp _ _ _ _ _ _ _
  refine iwp_block ?_
  refine iwp_loopH [4, 5, 6, 7, 8, 9, 10, 11, 12, 13, 14, 15, 16, 17, 18, 19, 20, 21, 22, 23, 24, 25, 26, 27, 28, 29, 30] [] (β := Nat) (fun i => [(4, T.i ((n * i : Nat) : Int))]) (fun i => []) (fun i => (true, ckF l n i)) (fun i => i ≤ m) (fun i => m - i) 0 (Nat.zero_le _) rfl (fun c1 => ?_) ?_
  · exact le_head (ms := []) (by repeat (exact Out.refl _)) ⟨(by rfl), trivial⟩ trivial rfl rfl rfl rfl
  ·
    intro i hi
    refine iwp_seq ?_
    refine iwp_seq ?_
    apply iwp_reg hJ
    ·
      intro c1 hmine hrnd
      refine awp_region 4 mixed (by kernel_rfl) ?_
      refine rg_q (q_move (x := .d (.v _)) rfl) ?_
      refine rg_q (q_load sz26 rfl rfl) ?_
      refine rg_q (q_len isl26 rfl (by exact len_map _ _)) ?_
      refine rg_q (q_lss rfl rfl) ?_
      refine rg_nil ?_
      refine aops_nil ?_
      exact ⟨rfl, rfl⟩
    change Iwp _ _ _ _ _ _ _
    refine iwp_len (t := 7) rfl (fun hl7 => ?_)
    (try simp only [List.length_map] at hl7)
    refine iwp_cond rfl (fun hc1 => ?_) (fun hc1 => ?_)
    ·
      (try simp only [nb, ne_eq] at hc1)
      have hq : n * i < n * m := by (try simp only [List.length_map] at hc1); omega
      have hlt : i < m := Nat.lt_of_mul_lt_mul_left hq
      have hs1 : n * (i + 1) = n * i + n := Nat.mul_succ n i
      have hs2 : n * (i + 1) ≤ n * m := Nat.mul_le_mul_left n hlt
      have hpre : ckF l n i ++ [ckI l n i] <+: ckF l n m := by rw [← ckF_succ]; exact ckF_pre hlt
      have hmn : min (n : Int) ((List.drop (n * i) (List.take (l.map iC).length l)).length : Int) = n := by rw [List.length_map, List.take_length, List.length_drop]; omega
      have hpl : ((n * i : Nat) : Int) + (n : Int) = ((n * i + n : Nat) : Int) := by omega
      refine iwp_skip ?_
      change Iwp _ _ _ _ _ _ _
      refine iwp_seq ?_
      refine iwp_block ?_
      refine iwp_seq ?_
      apply iwp_reg hJ
      ·
        intro c1 hmine hrnd
        refine awp_region 7 mixed (by kernel_rfl) ?_
        refine rg_q (q_load sz3 rfl rfl) ?_
        refine rg_q (q_load sz26 rfl rfl) ?_
        refine rg_q (q_move (x := .d (.v _)) rfl) ?_
        refine rg_q (q_slice sl26 rfl rfl rfl (by rw [List.length_map]; omega) (Nat.le_refl _) (by exact map_slice _ _ _ _)) ?_
        refine rg_q (q_len isl26 rfl (by exact len_map _ _)) ?_
        refine rg_q (q_min rfl rfl) ?_
        refine rg_q (q_assign (x := .d (.v _)) rfl) ?_
        refine rg_nil ?_
        refine aops_nil ?_
        exact ⟨rfl, rfl⟩
      change Iwp _ _ _ _ _ _ _
      refine iwp_len (t := 16) rfl (fun hl16 => ?_)
      (try simp only [List.length_map] at hl16)
      refine iwp_seq ?_
      rw [hmn]
      refine iwp_region ?_
      refine iops_of hJ rfl (fun c1 _ _ _ h => by exact aops_q rfl ((q_move (x := .d (.fn _ _)) rfl)) h) ?_
      refine iops_of hJ rfl (fun c1 _ _ _ h => by exact aops_q rfl ((q_load sz26 rfl rfl)) h) ?_
      refine iops_of hJ rfl (fun c1 _ _ _ h => by exact aops_q rfl ((q_move (x := .d (.v _)) rfl)) h) ?_
      refine iops_of hJ rfl (fun c1 _ _ _ h => by exact aops_q rfl ((q_move (x := .d (.v _)) rfl)) h) ?_
      refine iops_of hJ rfl (fun c1 _ _ _ h => by exact aops_q rfl ((q_move (x := .d (.v _)) rfl)) h) ?_
      refine iops_of hJ rfl (fun c1 _ _ _ h => by exact aops_q rfl ((q_add rfl rfl (In64.mk (by omega) (by omega)))) h) ?_
      refine iops_of hJ rfl (fun c1 _ _ _ h => by exact aops_q rfl ((q_move (x := .d (.v _)) rfl)) h) ?_
      refine iops_of hJ rfl (fun c1 _ _ _ h => by exact aops_q rfl ((q_move (x := .d (.v _)) rfl)) h) ?_
      refine iops_of hJ rfl (fun c1 _ _ _ h => by exact aops_q rfl ((q_add rfl rfl (In64.mk (by omega) (by omega)))) h) ?_
      rw [hpl]
      refine iops_of hJ rfl (fun c1 _ _ _ h => by exact aops_q rfl ((q_slice3d (lo := n * i) (hi := n * i + n) (es' := (ckI l n i).map iC) sl26 rfl rfl rfl rfl (by omega) (by rw [List.length_map]; omega) (ckI_row l n i))) h) ?_
      refine iops_yield (x := (ckI l n i)) hy hdat rfl (.cons rfl .nil) hpre rfl (fun yb => ?_)
      refine iops_of hJ rfl (fun c1 _ _ _ h => by exact aops_q rfl ((q_not rfl)) h) ?_
      refine iops_nil ?_
      change Iwp _ _ _ _ _ _ _
      refine iwp_cond rfl (fun hc4 => ?_) (fun hc4 => ?_)
      ·
        (try simp only [nb, ne_eq] at hc4)
        have hyb : yb = false := by cases yb <;> first | rfl | (exfalso; simp_all; done)
        refine iwp_ret ?_
        exact ⟨.inl rfl, fun h => by rw [hyb] at h; cases h⟩
      ·
        (try simp only [nb, ne_eq] at hc4)
        have hyb : yb = true := by cases yb <;> first | rfl | (exfalso; simp_all; done)
        refine iwp_skip ?_
        change Iwp _ _ _ _ _ _ _
        apply iwp_reg hJ
        ·
          intro c1 hmine hrnd
          refine awp_region 4 mixed (by kernel_rfl) ?_
          refine rg_q (q_move (x := .d (.v _)) rfl) ?_
          refine rg_q (q_load sz3 rfl rfl) ?_
          refine rg_q (q_add rfl rfl (In64.mk (by omega) (by omega))) ?_
          refine rg_q (q_assign (x := .d (.v _)) rfl) ?_
          refine rg_nil ?_
          refine aops_nil ?_
          exact ⟨rfl, rfl⟩
        refine ⟨i + 1, by omega, by omega, by rw [hyb, ckF_succ], fun c1 => ?_⟩
        exact le_head (ms := []) (by repeat (first | exact Out.head rfl rfl | (refine Out.put ?_ rfl))) ⟨(by rfl), trivial⟩ trivial rfl rfl rfl rfl
    ·
      (try simp only [nb, ne_eq] at hc1)
      have him : i = m := by
        rcases Nat.lt_or_ge i m with q | q
        · have hs1 : n * (i + 1) = n * i + n := Nat.mul_succ n i
          have hs2 : n * (i + 1) ≤ n * m := Nat.mul_le_mul_left n q
          (try simp only [List.length_map] at hc1)
          omega
        · omega
      refine iwp_exit ?_
      exact ⟨.inr rfl, fun _ => by rw [him]⟩
set_option maxRecDepth 100000 in
theorem chunkI_p (l : List Int) (n : Int) (hn : 1 ≤ n) : PC Tryz.prog 22 [.sl 1 (l.map iC), .v (.int .i64 (n))] (.fn (.func 53) [.pt [.sl 1 (l.map iC)] 0, .pt [.v (.int .i64 (n))] 0]) := by
  refine pc_of_awp Tryz.func22 rfl Tryz.ntmps22 (rs := [.tmp 4]) Tryz.results22 (by simp) fun w0 => ?_
  refine awp_seq ?_
  refine awp_region 3 mixed (by kernel_rfl) ?_
  refine rg_q (q_box rfl (by exact .inl rfl)) ?_
  refine rg_q (q_box rfl (by exact .inl rfl)) ?_
  refine rg_q (q_assign (x := .d (.v .nilFunc)) rfl) ?_
  refine rg_nil ?_
  refine aops_nil ?_
  change Awp _ _ _ _ _
  refine awp_seq ?_
  refine awp_seq ?_
  refine awp_region 2 mixed (by kernel_rfl) ?_
  refine rg_q (q_load sz3 rfl rfl) ?_
  refine rg_q (q_lss rfl rfl) ?_
  refine rg_nil ?_
  refine aops_nil ?_
  change Awp _ _ _ _ _
  refine awp_cond rfl (fun hc1 => ?_) (fun hc1 => ?_)
  ·
    have := of_decide_eq_true hc1; omega
  ·
    (try simp only [nb, ne_eq] at hc1)
    refine awp_skip ?_
    change Awp _ _ _ _ _
    refine awp_seq ?_
    refine awp_region 2 mixed (by kernel_rfl) ?_
    refine rg_q (q_makeFunc (.cons rfl (.cons rfl .nil))) ?_
    refine rg_q (q_assign (x := .d (.fn _ _)) rfl) ?_
    refine rg_nil ?_
    refine aops_nil ?_
    change Awp _ _ _ _ _
    refine awp_ret ?_
    refine ⟨_, (.cons (.tmp (by exact .d _)) .nil), ?_⟩
    rfl
end Go.Proofs.YtcdccdcbfbakfaaGreatDoor.Am.M
