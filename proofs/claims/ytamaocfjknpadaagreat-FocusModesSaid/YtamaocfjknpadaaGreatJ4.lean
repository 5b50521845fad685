/- Contracts over the abstract machine, joined. Conditions: none. -/
import Derived.Test.YtamaocfjknpadaaGreatJ3
import Derived.Test.YtamaocfjknpadaaGreatJ2
import Derived.Test.YtamaocfjknpadaaGreatJ1
import Derived.Test.YtamaocfjknpadaaGreatAmF
set_option linter.unusedVariables false
set_option linter.unusedSimpArgs false
-- mini
set_option maxRecDepth 100000
namespace Go.Proofs.YtamaocfjknpadaaGreat.Am.M
open Go

def huA (r : Int × Int) (n : Int) : Int × Int := (min r.1 n, max r.2 n)
theorem er_in (a : Arr) (t p : Int × Int) : (0 ≤ (erI a t p).1 ∧ (erI a t p).1 ≤ 40000000000) ∧ 0 ≤ (erI a t p).2 ∧ (erI a t p).2 ≤ 40000000000 := by
  obtain ⟨a1, a2, a3, a4⟩ := lt_in a.ou (elAt a p.1) t
  obtain ⟨b1, b2, b3, b4⟩ := lt_in a.ba (elAt a p.2) t
  unfold erI
  simp only
  omega
def neI (t : Tsk) (c : Int) (y : Int × Int) : Int × Int := (rndI ((erI t.ar (spI t.g c) y).1 - t.ar.ts.1) t.ar.ts.2, rndI ((erI t.ar (spI t.g c) y).2 - t.ar.ts.1) t.ar.ts.2)
def nrI (t : Tsk) (c : Int) (y : Int × Int) : Int × Int := (max 0 (neI t c y).1, min 60 (neI t c y).2)
def nwI (t : Tsk) (c : Int) (y : Int × Int) : Bool := decide ([(nrI t c y).1, (nrI t c y).2] = [(neI t c y).1, (neI t c y).2])
theorem hull_p (a b n : Int) : PC Tryz.prog 105 [.agg [.v (.int .i64 (a)), .v (.int .i64 (b))], .v (.int .i64 (n))] (.agg [.v (.int .i64 ((huA (a, b) n).1)), .v (.int .i64 ((huA (a, b) n).2))]) := by
 refine pc_of_awp Tryz.func105 rfl Tryz.ntmps105 (rs := [.cell 4 56]) Tryz.results105 (by simp) fun w0 => ?_
 refine awp_seq ?_
 refine xa 1 ?_
 refine rg_q (q_box rfl (by exact .inr ⟨_, rfl⟩)) ?_
 refine rg_nil ?_
 refine aops_alloc zr56 rfl rfl rfl ?_
 refine aops_nil (xq (xa 9 ?_))
 refine rg_q (q_fieldAddr fld56_0 rfl) (rg_q (q_load sz3 rfl rfl) (rg_q (q_m rfl) ?_))
 refine rg_q (q_min rfl rfl) ?_
 refine rg_q (q_fieldAddr fld56_1 rfl) (rg_q (q_load sz3 rfl rfl) (rg_q (q_m rfl) ?_))
 refine rg_q (q_max rfl rfl) ?_
 refine rg_q (q_build (cs := [_, _]) pl56 zr56 rfl (.cons rfl (by exact .inl rfl) (.cons rfl (by exact .inl rfl) .nil)) ⟨⟨rfl, by decide⟩, ⟨rfl, by decide⟩, trivial⟩ rfl) ?_
 refine rg_nil ?_
 refine aops_store sz56 rfl rfl (by exact .inr ⟨_, rfl⟩) rfl rfl (by decide) rfl ?_
 refine aops_nil ?_
 change Awp _ _ _ _ _
 refine awp_ret ?_
 refine ⟨_, (.cons (.cellA rfl rfl sz56 rfl) .nil), ?_⟩
 rfl
theorem numbers_p (t : Tsk) (c : Int) (pr : Int × Int) (h : TskOk t) (hc : clE t.g c = 0) (hp : (0 ≤ pr.1 ∧ pr.1 < t.ne) ∧ 0 ≤ pr.2 ∧ pr.2 < t.ne) : PC Tryz.prog 103 [.pt (tkC t) 0, .v (.int .i64 (c)), .agg (shC pr)] (.tup [.agg [.v (.int .i64 ((nrI t c pr).1)), .v (.int .i64 ((nrI t c pr).2))], .v (.bool (nwI t c pr))]) := by
  obtain ⟨hg, _, _⟩ := ckG_ok h.gr
  obtain ⟨c1, c2⟩ := clE_ok hc
  have hci := cells_in hg
  obtain ⟨hao, _⟩ := ckArr_ok h.ck
  have ho := op_zero h hc hp
  have he : erR t.ar (spI t.g c) pr = (erI t.ar (spI t.g c) pr, 0) := by unfold erR; rw [if_neg (fun q => q ho)]
  obtain ⟨⟨e1, e2⟩, e3, e4⟩ := er_in t.ar (spI t.g c) pr
  refine pc_of_awpN Tryz.func103 rfl Tryz.ntmps103 (rs := [.cell 6 56, .tmp 7]) Tryz.results103 (by simp) fun w0 hmine hrnd hpn => ?_
  refine awp_seq ?_
  refine xa 1 ?_
  refine rg_q (q_box rfl (by exact .inr ⟨_, rfl⟩)) ?_
  refine rg_nil ?_
  refine aops_alloc zr56 rfl rfl rfl ?_
  refine aops_q rfl (q_a rfl) ?_
  refine aops_nil (xq (awp_regionM 18 [none, none, none, none, none, none, none, none, none, none, none, none, none, none, none, some 8, some 8, none] mixed (by kernel_rfl) ?_))
  refine rgm_q rfl (q_move (x := .d (.pt _ _)) rfl) ?_
  refine rgm_q rfl (q_nilCheck rfl) ?_
  refine rgm_q rfl (q_fieldAddr fld202_1 rfl) ?_
  refine rgm_q rfl (q_loadA (ds := [_, _, _, _, _, _, _, _, _, _, _]) sz28 rfl rfl rfl) ?_
  refine rgm_q rfl (q_move (x := .d (.pt _ _)) rfl) ?_
  refine rgm_q rfl (q_nilCheck rfl) ?_
  refine rgm_q rfl (q_fieldAddr fld202_0 rfl) ?_
  refine rgm_q rfl (q_loadA (ds := [_, _, _, _, _]) sz150 rfl rfl rfl) ?_
  refine rgm_q rfl (q_m rfl) ?_
  refine rgm_q rfl (q_call en90 (.cons rfl (.cons rfl .nil)) rfl (fspot_p t.g c hg c1 (by omega))) ?_
  refine rgm_q rfl (q_loadA (ds := [_, _]) sz63 rfl rfl rfl) ?_
  refine rgm_q rfl (q_call en172 (.cons rfl (.cons rfl (.cons rfl .nil))) rfl ((by have h := echoRange_p t.ar (spI t.g c) pr; rw [he] at h; exact h))) ?_
  refine rgm_q rfl (q_move (x := .d (.tup _)) rfl) ?_
  refine rgm_q rfl (q_extract rfl rfl) ?_
  refine rgm_q rfl (q_extract rfl rfl) ?_
  refine rgm_m (k := 8) rfl rfl (by rfl) (m_alloc zr56 rfl rfl) ?_
  refine rgm_m (k := 8) rfl rfl (by rfl) (m_store sz56 rfl rfl (by exact .inr ⟨_, rfl⟩) rfl rfl (by decide) rfl) ?_
  refine rgm_q rfl (q_a rfl) ?_
  refine rgm_nil (aops_nil ?_)
  change Awp _ _ _ _ _
  refine awp_seq ?_
  refine xa 10 ?_
  refine rg_q (q_move (x := .d (.pt _ _)) rfl) (rg_q (q_fieldAddr_ref fld56_0 rfl) (rg_q (q_load_ref sz3 rfl rfl rfl) ?_))
  refine rg_q (q_call en173 (.cons rfl (.cons rfl .nil)) rfl (nearest_p t (erI t.ar (spI t.g c) pr).1 hao (by omega) (by omega))) ?_
  refine rg_q (q_move (x := .d (.pt _ _)) rfl) (rg_q (q_fieldAddr_ref fld56_1 rfl) (rg_q (q_load_ref sz3 rfl rfl rfl) ?_))
  refine rg_q (q_call en173 (.cons rfl (.cons rfl .nil)) rfl (nearest_p t (erI t.ar (spI t.g c) pr).2 hao (by omega) (by omega))) ?_
  refine rg_q (q_a rfl) (rg_q (q_a rfl) ?_)
  refine rs (xa 5 ?_)
  refine rg_q (q_m rfl) ?_
  refine rg_q (q_max rfl rfl) ?_
  refine rg_q (q_m rfl) ?_
  refine rg_q (q_min rfl rfl) ?_
  refine rg_q (q_build (cs := [_, _]) pl56 zr56 rfl (.cons rfl (by exact .inl rfl) (.cons rfl (by exact .inl rfl) .nil)) ⟨⟨rfl, by decide⟩, ⟨rfl, by decide⟩, trivial⟩ rfl) ?_
  refine rg_nil ?_
  refine aops_alloc zr56 rfl rfl rfl ?_
  refine aops_store sz56 rfl rfl (by exact .inr ⟨_, rfl⟩) rfl rfl (by decide) rfl ?_
  refine aops_nil (xq (awp_regionL 6 1 [1, 2, 3, 4, 5] mixed (by kernel_rfl) ?_))
  refine rg_q (q_load_refA (ds := [_, _]) sz56 rfl rfl rfl rfl) ?_
  refine rg_q (q_load_refA (ds := [_, _]) sz56 rfl rfl rfl rfl) ?_
  refine rg_q (q_m rfl) (rg_q (q_m rfl) ?_)
  refine rg_q (q_build (cs := [_, _]) pl56 zr56 rfl (.cons rfl (by exact .inl rfl) (.cons rfl (by exact .inl rfl) .nil)) ⟨⟨rfl, by decide⟩, ⟨rfl, by decide⟩, trivial⟩ rfl) ?_
  refine rg_q (q_eqlI (xs := [_, _]) (ys := [_, _]) eqi56 rfl rfl rfl rfl) ?_
  refine rg_nil ?_
  refine late_set (c_store sz56 rfl rfl (by exact .inr ⟨_, rfl⟩) rfl rfl (by decide) rfl) ?_ ?_
  · refine fl_cons rfl rfl rfl (c_q (q_load_refA (ds := [_, _]) sz56 rfl rfl rfl rfl)) ?_
    first | refine fl_cons rfl rfl rfl (c_q (q_m rfl)) ?_
    first | refine fl_cons rfl rfl rfl (c_q (q_m rfl)) ?_
    first | refine fl_cons rfl rfl rfl (c_q (q_build (cs := [_, _]) pl56 zr56 rfl (.cons rfl (by exact .inl rfl) (.cons rfl (by exact .inl rfl) .nil)) ⟨⟨rfl, by decide⟩, ⟨rfl, by decide⟩, trivial⟩ rfl)) ?_
    first | refine fl_cons rfl rfl rfl (c_q (q_eqlI (xs := [_, _]) (ys := [_, _]) eqi56 rfl rfl rfl rfl)) ?_
    exact fl_nil
  refine late_nil ?_
  refine aops_q rfl (q_a rfl) ?_
  refine aops_nil ?_
  change Awp _ _ _ _ _
  refine awp_ret ?_
  refine ⟨_, (.cons (.cellA rfl rfl sz56 rfl) xk1), ?_⟩
  rfl

abbrev RR := (Int × Int) × Int × Int
def rgS (o : RR) (i : Nat) : Int × Int := if i = 0 then o.1 else o.2
def rgW (o : RR) (i : Nat) (r : Int × Int) : RR := if i = 0 then (r, o.2) else (o.1, r)
def rgC (o : RR) : List D := [.v (.int .i64 o.1.1), .v (.int .i64 o.1.2), .v (.int .i64 o.2.1), .v (.int .i64 o.2.2)]
def ptS (re im : Int) (i : Nat) : Int := if i = 0 then re else im
def owP (b : Bool) (o : RR) (re im : Int) : Nat → RR
  | 0 => o
  | i + 1 => rgW (owP b o re im i) i (huA (if b = true then rgS (owP b o re im i) i else (ptS re im i, ptS re im i)) (ptS re im i))
def owF (t : Tsk) (y : Int × Int) (s : Bool × RR) (n : Int) : Bool × RR := (true, owP s.1 s.2 (reI (smpS t y) n.toNat) (imI (smpS t y) n.toNat) 2)
def owK (t : Tsk) (y : Int × Int) (lo : Int) (w : Bool) : Nat → Bool × RR
  | 0 => (!w, ((0, 0), 0, 0))
  | k + 1 => owF t y (owK t y lo w k) (lo + (k : Int))
def ouP (o w : RR) : Nat → RR
  | 0 => o
  | i + 1 => rgW (ouP o w i) i ((rgS (ouP o w i) i).1 + (rgS w i).1, (rgS (ouP o w i) i).2 + (rgS w i).2)
def owE (t : Tsk) (c : Int) (y : Int × Int) : RR := (owK t y (nrI t c y).1 (nwI t c y) ((nrI t c y).2 - (nrI t c y).1 + 1).toNat).2
def enA (t : Tsk) (c : Int) (l : List (Int × Int)) : RR := l.foldl (fun o y => ouP o (owE t c y) 2) ((0, 0), 0, 0)
theorem enA_snoc {t : Tsk} {c : Int} {l : List (Int × Int)} {k : Nat} {y : Int × Int} (h : l[k]? = some y) : enA t c (l.take (k + 1)) = ouP (enA t c (l.take k)) (owE t c y) 2 := by
  obtain ⟨hlt, hx⟩ := List.getElem?_eq_some_iff.1 h
  unfold enA
  rw [List.take_succ_eq_append_getElem hlt, hx, List.foldl_append]; rfl
def Bd (A : Int) (r : Int × Int) : Prop := (-A ≤ r.1 ∧ r.1 ≤ A) ∧ -A ≤ r.2 ∧ r.2 ≤ A
def Bd2 (A : Int) (o : RR) : Prop := Bd A o.1 ∧ Bd A o.2
theorem bd_S {A : Int} {o : RR} (h : Bd2 A o) (i : Nat) : Bd A (rgS o i) := by unfold rgS; split <;> first | exact h.1 | exact h.2
theorem bd_W {A : Int} {o : RR} (h : Bd2 A o) (i : Nat) {r : Int × Int} (hr : Bd A r) : Bd2 A (rgW o i r) := by unfold rgW; split <;> first | exact ⟨hr, h.2⟩ | exact ⟨h.1, hr⟩
theorem bd_hu {A : Int} {r : Int × Int} (h : Bd A r) {n : Int} (hn : -A ≤ n ∧ n ≤ A) : Bd A (huA r n) := by
  obtain ⟨⟨h1, h2⟩, h3, h4⟩ := h
  unfold huA Bd
  simp only; omega
theorem bd_owP {A : Int} {b : Bool} {o : RR} {re im : Int} (h : Bd2 A o) (h1 : -A ≤ re ∧ re ≤ A) (h2 : -A ≤ im ∧ im ≤ A) : ∀ i, Bd2 A (owP b o re im i)
  | 0 => h
  | i + 1 => by
    have ih := bd_owP (b := b) h h1 h2 i
    have hp : -A ≤ ptS re im i ∧ ptS re im i ≤ A := by unfold ptS; split <;> assumption
    refine bd_W ih i (bd_hu ?_ hp)
    split
    · exact bd_S ih i
    · exact ⟨hp, hp⟩
theorem bd_owK {t : Tsk} (h : TskOk t) (y : Int × Int) (lo : Int) (w : Bool) : ∀ k, Bd2 4094 (owK t y lo w k).2
  | 0 => by show Bd2 4094 ((0, 0), 0, 0); unfold Bd2 Bd; decide
  | k + 1 => by
    obtain ⟨h1, h2⟩ := reim_in h y (lo + (k : Int)).toNat
    exact bd_owP (bd_owK h y lo w k) h1 h2 2
theorem bd_ouP {A : Int} {o w : RR} (ho : Bd2 A o) (hA : 0 ≤ A) (hw : Bd2 4094 w) : Bd2 (A + 4094) (ouP o w 2) := by
  obtain ⟨⟨⟨a1, a2⟩, a3, a4⟩, ⟨a5, a6⟩, a7, a8⟩ := ho
  obtain ⟨⟨⟨b1, b2⟩, b3, b4⟩, ⟨b5, b6⟩, b7, b8⟩ := hw
  show Bd2 _ (rgW (rgW o 0 _) 1 _)
  unfold Bd2 Bd rgW rgS
  simp [ouP, rgW, rgS]
  omega
theorem bd_enA {t : Tsk} (h : TskOk t) {c : Int} {l : List (Int × Int)} : ∀ k : Nat, k ≤ l.length → Bd2 (4094 * (k : Int)) (enA t c (l.take k))
  | 0, _ => by show Bd2 0 ((0, 0), 0, 0); unfold Bd2 Bd; decide
  | k + 1, hk => by
    have ih := bd_enA h (c := c) (l := l) k (by omega)
    rw [enA_snoc (List.getElem?_eq_getElem (by omega))]
    have := bd_ouP ih (by omega) (bd_owK h l[k] (nrI t c l[k]).1 (nwI t c l[k]) ((nrI t c l[k]).2 - (nrI t c l[k]).1 + 1).toNat)
    have e : 4094 * ((k + 1 : Nat) : Int) = 4094 * (k : Int) + 4094 := by omega
    rw [e]; exact this

def endI (t : Tsk) (c : Int) : RR := enA t c (evL t)
theorem two (i : Nat) (h : i < 2) : i = 0 ∨ i = 1 := by omega
theorem rg_ld {o : RR} {i : Nat} (h : i < 2) : ((rgC o).drop (0 + ((i : Nat) : Int).toNat * 2)).take 2 = [.v (.int .i64 (rgS o i).1), .v (.int .i64 (rgS o i).2)] := by rcases two i h with rfl | rfl <;> rfl
theorem rg_ld0 {o : RR} {i : Nat} (h : i < 2) : (rgC o)[0 + ((i : Nat) : Int).toNat * 2 + 0]? = some (.v (.int .i64 (rgS o i).1)) := by rcases two i h with rfl | rfl <;> rfl
theorem rg_ld1 {o : RR} {i : Nat} (h : i < 2) : (rgC o)[0 + ((i : Nat) : Int).toNat * 2 + 1]? = some (.v (.int .i64 (rgS o i).2)) := by rcases two i h with rfl | rfl <;> rfl
theorem rg_st {o : RR} {i : Nat} (h : i < 2) {a b : Int} : setCs (rgC o) (0 + ((i : Nat) : Int).toNat * 2) [.v (.int .i64 a), .v (.int .i64 b)] = rgC (rgW o i (a, b)) := by rcases two i h with rfl | rfl <;> rfl
theorem rg_ln {o : RR} {i : Nat} (h : i < 2) : 0 + ((i : Nat) : Int).toNat * 2 + 2 ≤ (rgC o).length := by show _ ≤ 4; omega
theorem ou_S {o w : RR} {i : Nat} (h : i < 2) : rgS (ouP o w i) i = rgS o i := by rcases two i h with rfl | rfl <;> rfl
theorem rgW_W {o : RR} {i : Nat} {r q : Int × Int} : rgW (rgW o i r) i q = rgW o i q := by unfold rgW; split <;> rfl
theorem rgS_W {o : RR} {i : Nat} {r : Int × Int} : rgS (rgW o i r) i = r := by unfold rgS rgW; split <;> rfl
theorem ow_t {b : Bool} {o : RR} {re im : Int} {i : Nat} (hb : b = false) : owP b o re im (i + 1) = rgW (rgW (owP b o re im i) i (ptS re im i, ptS re im i)) i ((huA ((rgS (rgW (owP b o re im i) i (ptS re im i, ptS re im i)) i).1, (rgS (rgW (owP b o re im i) i (ptS re im i, ptS re im i)) i).2) (ptS re im i)).1, (huA ((rgS (rgW (owP b o re im i) i (ptS re im i, ptS re im i)) i).1, (rgS (rgW (owP b o re im i) i (ptS re im i, ptS re im i)) i).2) (ptS re im i)).2) := by
  rw [rgW_W, rgS_W]
  show rgW _ _ (huA (if b = true then _ else _) _) = _
  rw [if_neg (by rw [hb]; decide)]
theorem ow_f {b : Bool} {o : RR} {re im : Int} {i : Nat} (hb : b = true) : owP b o re im (i + 1) = rgW (owP b o re im i) i ((huA ((rgS (owP b o re im i) i).1, (rgS (owP b o re im i) i).2) (ptS re im i)).1, (huA ((rgS (owP b o re im i) i).1, (rgS (owP b o re im i) i).2) (ptS re im i)).2) := by
  show rgW _ _ (huA (if b = true then _ else _) _) = _
  rw [if_pos hb]
theorem pt_ix {re im : Int} {i : Nat} (h : i < 2) : ([.v (.int .i64 re), .v (.int .i64 im)] : List D)[((i : Nat) : Int).toNat]? = some (.v (.int .i64 (ptS re im i))) := by rcases two i h with rfl | rfl <;> rfl
theorem endsAt_p (t : Tsk) (c : Int) (h : TskOk t) (hc : clE t.g c = 0) : PC Tryz.prog 28 [.agg (tskC t), .v (.int .i64 (c))] (.tup [.agg (rgC (endI t c)), .v (.int .i64 (0))]) := by
 have hn1 := h.n1
 have hn2 := h.n2
 obtain ⟨ha1, ha2⟩ := allL_ok h
 have hlen : (evL t).length ≤ 1600 := by
  unfold evL
  rw [pqL_len, allL_len]
  have := Nat.mul_le_mul (show t.ne.toNat ≤ 16 by omega) (show t.ne.toNat ≤ 16 by omega)
  omega
 refine pc_of_awpN Tryz.func28 rfl Tryz.ntmps28 (rs := [.cell 4 57, .tmp 5]) Tryz.results28 (by simp) fun w0 hmine hrnd hpn => ?_
 refine awp_seq ?_
 refine xa 2 ?_
 refine rg_q (q_box rfl (by exact .inr ⟨_, rfl⟩)) ?_
 refine rg_q (q_box rfl (by exact .inl rfl)) ?_
 refine rg_nil ?_
 refine aops_alloc zr57 rfl rfl rfl ?_
 refine aops_q rfl (q_a rfl) ?_
 refine aops_nil (xq (xa 6 ?_))
 refine rg_q (q_loadA sz37 rfl rfl rfl) ?_
 refine rg_q (q_load sz3 rfl rfl) ?_
 refine rg_q (q_call en94 (.cons rfl (.cons rfl .nil)) rfl ((by have h := openCell_p t c h; rw [hc] at h; exact h))) ?_
 refine rg_q (q_move (x := .d (.tup _)) rfl) (rg_q (q_extract rfl rfl) (rg_q (q_extract rfl rfl) ?_))
 refine rg_nil ?_
 refine aops_alloc zr156 rfl rfl rfl ?_
 refine aops_store sz156 rfl rfl (by exact .inl rfl) rfl rfl (by decide) rfl ?_
 refine aops_q rfl (q_a rfl) ?_
 refine aops_nil (xq (awp_seq ?_))
 refine xa 2 ?_
 refine rg_q (q_m rfl) (rg_q (q_neq rfl rfl) ?_)
 refine xc (awp_cond rfl (fun hc2 => ?_) (fun hc2 => ?_))
 ·
  simp at hc2
 ·
  (try simp only [nb, ne_eq] at hc2)
  refine awp_skip ?_
  change Awp _ _ _ _ _
  refine awp_seq ?_
  refine xa 0 ?_
  refine rg_nil ?_
  refine aops_alloc zr57 rfl rfl rfl ?_
  refine aops_nil (xq (awp_seq ?_))
  refine xa 4 ?_
  refine rg_q (q_load_ref sz156 rfl rfl rfl) (rg_q (q_load_ref sz156 rfl rfl rfl) ?_)
  refine rg_q (q_call en96 (.cons rfl .nil) rfl (all_p t hn1 hn2)) ?_
  refine rg_q (q_call en102 (.cons rfl (.cons rfl .nil)) rfl (fpairs_p t (allL t.ne.toNat))) ?_
  refine xc (awp_block ?_)
  refine Awp.le (le_freeze 6 6 0 (cs := [.pt (tkC t) 0]) rfl rfl rfl rfl hmine) ?_
  refine awp_rangeFC (α := Int × Int) (β := Nat) (n := 109) (enc := (encQ t)) (items := evL t) 1000 [(3, .d (.pt [.v (.int .i64 (c))] 0)), (4, .ref 4 0), (6, .d (.pt [.pt (tkC t) 0] 0)), (8, .ref 8 0), (33, .d (.fn (.func 171) [.pt [.sl 1 ((allL t.ne.toNat).map iC)] 0, .pt [.pt (tkC t) 0] 0]))] (fun x => [(4, .box (rgC ((0, 0), 0, 0))), (8, .box (rgC (enA t c ((evL t).take x))))]) (fun k x => x = k) (fun e x => False) 0 hrnd ?_ (.inr ⟨rfl, rfl⟩) en171 (fpairs_i t (allL t.ne.toNat) h ha1 (by omega)) rfl (fun _ => rfl) rfl (fun x => fsl_mem (fsl_cons (fst_box (by repeat (first | exact trivial | refine ⟨.v _, ?_⟩))) (fsl_cons (fst_box (by repeat (first | exact trivial | refine ⟨.v _, ?_⟩))) fsl_nil))) (fun _ => rfl) rfl (fun h => by cases h) ?_ ?_ ?_
  · exact le_cst (fun k => k) _ _ rfl ⟨rfl, rfl, rfl, rfl, rfl, trivial⟩ ⟨rfl, rfl, trivial⟩ rfl (fun k b h => by rw [hpn k] at h; cases h)
  ·
   intro w1 hw1 k x y hI hy
   subst hI
   have hmy := pqL_in (List.mem_of_getElem? hy)
   obtain ⟨hy0, hy3, hy4⟩ := hmy
   obtain ⟨hy1, hy2⟩ := ha1 _ hy0
   have hxl : x < (evL t).length := (List.getElem?_eq_some_iff.1 hy).1
   have hbd := bd_enA h (c := c) (l := evL t) x (by omega)
   have hnr : 0 ≤ (nrI t c y).1 ∧ (nrI t c y).2 ≤ 60 := by unfold nrI; simp only; omega
   have hst := enA_snoc (t := t) (c := c) hy
   refine awp_seq ?_
   refine xa 0 ?_
   refine rg_nil ?_
   refine aops_alloc zr63 rfl rfl rfl ?_
   refine aops_store sz63 rfl rfl (by exact .inr ⟨_, rfl⟩) rfl rfl (by decide) rfl ?_
   refine aops_nil ?_
   change Awp _ _ _ _ _
   refine xa 1 ?_
   refine rg_q (q_assign (x := .d (.pt _ _)) rfl) ?_
   refine rn ?_
   refine ⟨rfl, fun w2 hw2 => ?_⟩
   refine awp_block ?_
   refine awp_seq ?_
   refine xa 7 ?_
   refine rg_q (q_load sz156 rfl rfl) (rg_q (q_load sz3 rfl rfl) ?_)
   refine rg_q (q_load_refA (ds := [_, _]) sz63 rfl rfl rfl rfl) ?_
   refine rg_q (q_call en103 (.cons rfl (.cons rfl (.cons rfl .nil))) rfl (numbers_p t c y h hc ⟨⟨hy1, hy2⟩, hy3, by omega⟩)) ?_
   refine rg_q (q_move (x := .d (.tup _)) rfl) (rg_q (q_extract rfl rfl) (rg_q (q_extract rfl rfl) ?_))
   refine rg_nil ?_
   refine aops_alloc zr56 rfl rfl rfl ?_
   refine aops_store sz56 rfl rfl (by exact .inr ⟨_, rfl⟩) rfl rfl (by decide) rfl ?_
   refine aops_q rfl (q_a rfl) ?_
   refine aops_nil (xq (xa 0 ?_))
   refine rg_nil ?_
   refine aops_alloc zr57 rfl rfl rfl ?_
   refine aops_nil (xq (xa 3 ?_))
   refine rg_q (q_m rfl) (rg_q (q_not rfl) (rg_q (q_a rfl) ?_))
   refine rs (awp_seq ?_)
   refine xa 3 ?_
   refine rg_q (q_fieldAddr_ref fld56_0 rfl) (rg_q (q_load_ref sz3 rfl rfl rfl) (rg_q (q_a rfl) ?_))
   refine xc (awp_block ?_)
   refine awp_loopH [14, 15, 16, 17, 18, 47, 48, 49, 50, 51, 52, 53, 54, 55, 56, 57, 58, 59, 60, 61, 62, 63, 64, 65, 66, 67, 68, 69, 70, 71, 72, 73, 74, 75, 76, 77, 78, 79, 80, 81, 82] [13] (α := Nat) (fun k => [(15, T.i ((nrI t c y).1 + (k : Int))), (14, .d (.v (.bool ((owK t y (nrI t c y).1 (nwI t c y) k).1))))]) (fun k => [(13, .box (rgC (owK t y (nrI t c y).1 (nwI t c y) k).2))]) (fun k => k ≤ ((nrI t c y).2 - (nrI t c y).1 + 1).toNat) (fun k => ((nrI t c y).2 - (nrI t c y).1 + 1).toNat - k) 0 (Nat.zero_le _) ?_ ?_
   · exact xh (ms := [13]) (by repeat (exact Out.refl _)) ⟨(by ((show T.i _ = T.i _; congr 1; omega))), (by rfl), trivial⟩ ⟨(by rfl), trivial⟩
   ·
    intro k hk
    refine awp_seq ?_
    refine awp_seq ?_
    refine xa 4 ?_
    refine rg_q (q_m rfl) (rg_q (q_fieldAddr_ref fld56_1 rfl) (rg_q (q_load_ref sz3 rfl rfl rfl) (rg_q (q_leq rfl rfl) ?_)))
    refine xc (awp_cond rfl (fun hc12 => ?_) (fun hc12 => ?_))
    ·
     (try simp only [nb, ne_eq] at hc12)
     have hlt : k < ((nrI t c y).2 - (nrI t c y).1 + 1).toNat := by omega
     obtain ⟨hre, him⟩ := reim_in h y ((nrI t c y).1 + (k : Int)).toNat
     refine awp_skip ?_
     change Awp _ _ _ _ _
     refine awp_seq ?_
     refine awp_block ?_
     refine awp_seq ?_
     refine xa 6 ?_
     refine rg_q (q_move (x := .d (.pt _ _)) rfl) (rg_q (q_m rfl) (rg_q (q_nilCheck rfl) ?_))
     refine rg_q (q_indexAddr_ar ar273 rfl rfl (by omega) (by omega)) ?_
     refine rg_q (q_load sz178 rfl (by rw [Nat.zero_add, Nat.mul_one]; exact anL_at (S := smpS t y) (by omega))) ?_
     refine rg_q (q_call en104 (.cons rfl .nil) rfl (fsample_p _ _ hre him)) ?_
     refine rg_nil ?_
     refine aops_alloc zr160 rfl rfl rfl ?_
     refine aops_store sz160 rfl rfl (by exact .inr ⟨_, rfl⟩) rfl rfl (by decide) rfl ?_
     refine aops_nil (xq (awp_seq ?_))
     refine xa 6 ?_
     refine rg_q (q_fieldAddr_ref fld160_0 rfl) (rg_q (q_load_ref sz3 rfl rfl rfl) (rg_q (q_fieldAddr_ref fld160_1 rfl) (rg_q (q_load_ref sz3 rfl rfl rfl) ?_)))
     refine rg_q (q_buildA (cs := [_, _]) ar63 zr63 rfl (.cons rfl (by exact .inl rfl) (.cons rfl (by exact .inl rfl) .nil)) ⟨⟨rfl, by decide⟩, ⟨rfl, by decide⟩, trivial⟩ rfl) ?_
     refine rg_q (q_m rfl) ?_
     refine xc (awp_block ?_)
     refine awp_loopH [17, 18, 64, 65, 66, 67, 68, 69, 70, 71, 72, 73, 74, 75, 76, 77, 78, 79, 80, 81, 82] [13] (α := Nat) (fun i => [(64, T.i (i : Int))]) (fun i => [(13, .box (rgC (owP (owK t y (nrI t c y).1 (nwI t c y) k).1 (owK t y (nrI t c y).1 (nwI t c y) k).2 (reI (smpS t y) ((nrI t c y).1 + (k : Int)).toNat) (imI (smpS t y) ((nrI t c y).1 + (k : Int)).toNat) i)))]) (fun i => i ≤ 2) (fun i => 2 - i) 0 (Nat.zero_le _) ?_ ?_
     · exact xh (ms := [13]) (by repeat (exact Out.refl _)) ⟨(by rfl), trivial⟩ ⟨(by rfl), trivial⟩
     ·
      intro i hi
      refine awp_seq ?_
      refine xa 1 ?_
      refine rg_q (q_lss rfl rfl) ?_
      refine rs (awp_cond rfl (fun hc16 => ?_) (fun hc16 => ?_))
      ·
       (try simp only [nb, ne_eq] at hc16)
       have hi2 : i < 2 := by omega
       have hidx := pt_ix (re := reI (smpS t y) ((nrI t c y).1 + (k : Int)).toNat) (im := imI (smpS t y) ((nrI t c y).1 + (k : Int)).toNat) hi2
       refine awp_skip ?_
       change Awp _ _ _ _ _
       refine awp_seq ?_
       refine awp_block ?_
       refine awp_seq ?_
       refine xa 4 ?_
       refine rg_q (q_m rfl) ?_
       refine rg_q (q_index_ar ar63 sz3 rfl rfl (by omega) (by omega) hidx) ?_
       refine rg_q (q_a rfl) (rg_q (q_a rfl) ?_)
       refine rs (awp_seq ?_)
       refine xa 2 ?_
       refine rg_q (q_m rfl) (rg_q (q_not rfl) ?_)
       refine xc (awp_cond rfl (fun hc18 => ?_) (fun hc18 => ?_))
       ·
        (try simp only [nb, ne_eq] at hc18)
        have hnx := ow_t (o := (owK t y (nrI t c y).1 (nwI t c y) k).2) (re := reI (smpS t y) ((nrI t c y).1 + (k : Int)).toNat) (im := imI (smpS t y) ((nrI t c y).1 + (k : Int)).toNat) (i := i) hc18
        refine xa 5 ?_
        refine rg_q (q_m rfl) (rg_q (q_m rfl) (rg_q (q_m rfl) ?_))
        refine rg_q (q_build (cs := [_, _]) pl56 zr56 rfl (.cons rfl (by exact .inl rfl) (.cons rfl (by exact .inl rfl) .nil)) ⟨⟨rfl, by decide⟩, ⟨rfl, by decide⟩, trivial⟩ rfl) ?_
        refine rg_q (q_indexAddr_aref ar57 rfl rfl (by omega) (by omega)) ?_
        refine rg_nil ?_
        refine aops_store (cs' := _) sz56 rfl rfl (by exact .inr ⟨_, rfl⟩) rfl rfl (rg_ln hi2) (rg_st hi2) ?_
        refine aops_nil ?_
        change Awp _ _ _ _ _
        refine xa 7 ?_
        refine rg_q (q_m rfl) (rg_q (q_m rfl) ?_)
        refine rg_q (q_indexAddr_aref ar57 rfl rfl (by omega) (by omega)) ?_
        refine rg_q (q_load_refA (ds := [_, _]) sz56 rfl rfl (rg_ld hi2) rfl) ?_
        refine rg_q (q_m rfl) ?_
        refine rg_q (q_call en105 (.cons rfl (.cons rfl .nil)) rfl (hull_p _ _ _)) ?_
        refine rg_q (q_indexAddr_aref ar57 rfl rfl (by omega) (by omega)) ?_
        refine rg_nil ?_
        refine aops_store (cs' := _) sz56 rfl rfl (by exact .inr ⟨_, rfl⟩) rfl rfl (rg_ln hi2) (rg_st hi2) ?_
        refine aops_nil ?_
        change Awp _ _ _ _ _
        refine xa 2 ?_
        refine rg_q (q_add rfl rfl xi) ?_
        refine rg_q (q_m rfl) ?_
        refine rn ?_
        refine ⟨i + 1, by omega, by omega, ?_⟩
        exact xh (ms := [13]) (by repeat (first | exact Out.head rfl rfl | (refine Out.put ?_ rfl) | (refine Out.site ?_ rfl))) ⟨(by rfl), trivial⟩ ⟨(by ((show Site.box _ = Site.box _; (rw [hnx]; done)))), trivial⟩
       ·
        (try simp only [nb, ne_eq] at hc18)
        have hnx := ow_f (o := (owK t y (nrI t c y).1 (nwI t c y) k).2) (re := reI (smpS t y) ((nrI t c y).1 + (k : Int)).toNat) (im := imI (smpS t y) ((nrI t c y).1 + (k : Int)).toNat) (i := i) hc18
        refine awp_skip ?_
        change Awp _ _ _ _ _
        refine xa 7 ?_
        refine rg_q (q_m rfl) (rg_q (q_m rfl) ?_)
        refine rg_q (q_indexAddr_aref ar57 rfl rfl (by omega) (by omega)) ?_
        refine rg_q (q_load_refA (ds := [_, _]) sz56 rfl rfl (rg_ld hi2) rfl) ?_
        refine rg_q (q_m rfl) ?_
        refine rg_q (q_call en105 (.cons rfl (.cons rfl .nil)) rfl (hull_p _ _ _)) ?_
        refine rg_q (q_indexAddr_aref ar57 rfl rfl (by omega) (by omega)) ?_
        refine rg_nil ?_
        refine aops_store (cs' := _) sz56 rfl rfl (by exact .inr ⟨_, rfl⟩) rfl rfl (rg_ln hi2) (rg_st hi2) ?_
        refine aops_nil ?_
        change Awp _ _ _ _ _
        refine xa 2 ?_
        refine rg_q (q_add rfl rfl xi) ?_
        refine rg_q (q_m rfl) ?_
        refine rn ?_
        refine ⟨i + 1, by omega, by omega, ?_⟩
        exact xh (ms := [13]) (by repeat (first | exact Out.head rfl rfl | (refine Out.put ?_ rfl) | (refine Out.site ?_ rfl))) ⟨(by rfl), trivial⟩ ⟨(by ((show Site.box _ = Site.box _; (rw [hnx]; done)))), trivial⟩
      ·
       (try simp only [nb, ne_eq] at hc16)
       have hi3 : i = 2 := by omega
       subst hi3
       refine awp_exit ?_
       change Awp _ _ _ _ _
       refine xa 1 ?_
       refine rg_q (q_a rfl) ?_
       refine rn ?_
       change Awp _ _ _ _ _
       refine xa 3 ?_
       refine rg_q (q_m rfl) ?_
       refine rg_q (q_add rfl rfl xi) ?_
       refine rg_q (q_a rfl) ?_
       refine rn ?_
       refine ⟨k + 1, by omega, by omega, ?_⟩
       exact xh (ms := [13]) (by repeat (first | exact Out.head rfl rfl | (refine Out.put ?_ rfl) | (refine Out.site ?_ rfl) | (refine Out.headIn ?_ rfl rfl rfl))) ⟨(by ((show T.i _ = T.i _; congr 1; omega))), (by rfl), trivial⟩ ⟨(by rfl), trivial⟩
    ·
     (try simp only [nb, ne_eq] at hc12)
     have hkn : k = ((nrI t c y).2 - (nrI t c y).1 + 1).toNat := by omega
     have hoe : (owK t y (nrI t c y).1 (nwI t c y) k).2 = owE t c y := by rw [hkn]; rfl
     rw [hoe]
     refine awp_exit ?_
     change Awp _ _ _ _ _
     refine awp_seq ?_
     refine xa 1 ?_
     refine rg_q (q_m rfl) ?_
     refine xc (awp_block ?_)
     refine awp_loopH [19, 83, 84, 85, 86, 87, 88, 89, 90, 91, 92, 93, 94, 95, 96, 97, 98, 99, 100, 101, 102, 103, 104, 105, 106, 107] [1008] (α := Nat) (fun i => [(83, T.i (i : Int))]) (fun i => [(1008, .box (rgC (ouP (enA t c ((evL t).take x)) (owE t c y) i)))]) (fun i => i ≤ 2) (fun i => 2 - i) 0 (Nat.zero_le _) ?_ ?_
     · exact xh (ms := [1008]) (by repeat (exact Out.refl _)) ⟨(by rfl), trivial⟩ ⟨(by rfl), trivial⟩
     ·
      intro i hi
      refine awp_seq ?_
      refine xa 1 ?_
      refine rg_q (q_lss rfl rfl) ?_
      refine rs (awp_cond rfl (fun hc24 => ?_) (fun hc24 => ?_))
      ·
       (try simp only [nb, ne_eq] at hc24)
       have hi2 : i < 2 := by omega
       obtain ⟨⟨q1, q2⟩, q3, q4⟩ := bd_S hbd i
       obtain ⟨⟨q5, q6⟩, q7, q8⟩ := bd_S (show Bd2 4094 (owE t c y) from bd_owK h y _ _ _) i
       have hsi := ou_S (o := enA t c ((evL t).take x)) (w := owE t c y) hi2
       refine awp_skip ?_
       change Awp _ _ _ _ _
       refine awp_seq ?_
       refine awp_block ?_
       refine awp_seq ?_
       refine xa 2 ?_
       refine rg_q (q_m rfl) (rg_q (q_a rfl) ?_)
       refine rn ?_
       change Awp _ _ _ _ _
       refine xa 21 ?_
       refine rg_q (q_m rfl) (rg_q (q_m rfl) ?_)
       refine rg_q (q_indexAddr_aref ar57 rfl rfl (by omega) (by omega)) ?_
       refine rg_q (q_fieldAddr_ref fld56_0 rfl) ?_
       refine rg_q (q_load_ref sz3 rfl rfl (rg_ld0 hi2)) ?_
       refine rg_q (q_m rfl) ?_
       refine rg_q (q_indexAddr_aref ar57 rfl rfl (by omega) (by omega)) ?_
       refine rg_q (q_fieldAddr_ref fld56_0 rfl) ?_
       refine rg_q (q_load_ref sz3 rfl rfl (rg_ld0 hi2)) ?_
       refine rg_q (q_add rfl rfl (In64.mk (by rw [hsi]; omega) (by rw [hsi]; omega))) ?_
       refine rg_q (q_m rfl) ?_
       refine rg_q (q_indexAddr_aref ar57 rfl rfl (by omega) (by omega)) ?_
       refine rg_q (q_fieldAddr_ref fld56_1 rfl) ?_
       refine rg_q (q_load_ref sz3 rfl rfl (rg_ld1 hi2)) ?_
       refine rg_q (q_m rfl) ?_
       refine rg_q (q_indexAddr_aref ar57 rfl rfl (by omega) (by omega)) ?_
       refine rg_q (q_fieldAddr_ref fld56_1 rfl) ?_
       refine rg_q (q_load_ref sz3 rfl rfl (rg_ld1 hi2)) ?_
       refine rg_q (q_add rfl rfl (In64.mk (by rw [hsi]; omega) (by rw [hsi]; omega))) ?_
       refine rg_q (q_build (cs := [_, _]) pl56 zr56 rfl (.cons rfl (by exact .inl rfl) (.cons rfl (by exact .inl rfl) .nil)) ⟨⟨rfl, by decide⟩, ⟨rfl, by decide⟩, trivial⟩ rfl) ?_
       refine rg_q (q_indexAddr_aref ar57 rfl rfl (by omega) (by omega)) ?_
       refine rg_nil ?_
       refine aops_store (cs' := _) sz56 rfl rfl (by exact .inr ⟨_, rfl⟩) rfl rfl (rg_ln hi2) (rg_st hi2) ?_
       refine aops_nil ?_
       change Awp _ _ _ _ _
       refine xa 2 ?_
       refine rg_q (q_add rfl rfl xi) ?_
       refine rg_q (q_m rfl) ?_
       refine rn ?_
       refine ⟨i + 1, by omega, by omega, ?_⟩
       exact xh (ms := [1008]) (by repeat (first | exact Out.head rfl rfl | (refine Out.put ?_ rfl) | (refine Out.site ?_ rfl))) ⟨(by rfl), trivial⟩ ⟨(by rfl), trivial⟩
      ·
       (try simp only [nb, ne_eq] at hc24)
       have hi3 : i = 2 := by omega
       subst hi3
       refine awp_exit ?_
       refine .inl ⟨rfl, x + 1, rfl, ?_⟩
       exact le_round [] _ hw2 rfl ⟨(by rfl), (by (show Site.box _ = Site.box _; (rw [hst]; done))), trivial⟩ rfl
  ·
   intro x hI
   have hI2 : x = (evL t).length := hI
   subst hI2
   rw [List.take_length] at *
   change Awp _ _ _ _ _
   refine awp_seq ?_
   refine xa 1 ?_
   refine rg_q (q_load_refA (ds := [_, _, _, _]) sz57 rfl rfl rfl rfl) ?_
   refine rg_nil ?_
   refine aops_store sz57 rfl rfl (by exact .inr ⟨_, rfl⟩) rfl rfl (by decide) rfl ?_
   refine aops_q rfl (q_a rfl) ?_
   refine aops_nil ?_
   change Awp _ _ _ _ _
   refine awp_ret ?_
   refine ⟨_, (.cons (.cellA rfl rfl sz57 rfl) xk1), ?_⟩
   rfl
  ·
   exact fun e x h => h.elim
end Go.Proofs.YtamaocfjknpadaaGreat.Am.M
-- mini
set_option maxRecDepth 100000
namespace Go.Proofs.YtamaocfjknpadaaGreat.Am.M
open Go

def oneT : Tsk := ⟨oneS.ar, 1, exB, ⟨0, 400, 1, 1, 50⟩⟩
theorem eq56_low (a0 a1 b0 b1 : Int) (w : World) : (Op.equalIn (9998 + 1) 56 (.agg #[iW a0, iW a1]) (.agg #[iW b0, iW b1])).run Tryz.prog w = .ok (decide ([a0, a1] = [b0, b1])) w := by
  have hf : (Tryz.prog.fieldsOf 56).toList = [⟨ "Lo", 3, 0, false, "", "", 0⟩, ⟨ "Hi", 3, 1, false, "", "", 8⟩] := by kernel_rfl
  rw [show (9998 + 1 : Nat) = 9997 + 1 + 1 from rfl, run_equalIn_struct w (9997 + 1) 56 _ _ (by kernel_rfl) (by kernel_rfl), hf]
  have u3 := Tryz.underlying3
  simp [Op.eqFields, part, isAgg, run_underlying u3, iW, run_equalIn_int, u3, Result.andThen]
  (repeat' split) <;> simp_all
theorem eqi57 : EqI Tryz.prog 57 4 := by
  intro xs ys hx hy w
  match xs, ys, hx, hy with
  | [a0, a1, a2, a3], [b0, b1, b2, b3], _, _ =>
    refine ⟨fun x y => run_eqGuard_agg w .eql 57 x y _ _ (by kernel_rfl), fun x y => run_eqGuard_agg w .neq 57 x y _ _ (by kernel_rfl), ?_⟩
    obtain ⟨i, hi, _⟩ := arB_info ar57
    have h1 := eq56_low a0 a1 b0 b1 w
    have h2 := eq56_low a2 a3 b2 b3 w
    simp only [iW] at h1 h2
    rw [show (10000 : Nat) = 9998 + 1 + 1 from rfl, run_equalIn_array w (9998 + 1) _ _ (arB_under ar57) hi, show Tryz.prog.cellsOf 56 = 2 from by kernel_rfl]
    simp [Op.eqItems, List.range, List.range.loop, part, isAgg, iW, Result.andThen, h1, h2]
    (repeat' split) <;> simp_all
theorem one5_p  : PC Tryz.prog 82 [] (.agg (tskC oneT)) := by
  refine pc_of_awpN Tryz.func82 rfl Tryz.ntmps82 (rs := [.cell 0 37]) Tryz.results82 (by simp) fun w0 hmine hrnd hpn => ?_
  refine awp_seq ?_
  refine xa 0 ?_
  refine rg_nil ?_
  refine aops_alloc zr37 rfl rfl rfl ?_
  refine aops_nil (xq (xa 0 ?_))
  refine rg_nil ?_
  refine aops_make sl29 zr117 by117 rfl rfl rfl rfl (by (try simp only [List.length_map]); omega) (by (try simp only [List.length_map]); omega) rfl rfl ?_
  refine aops_q rfl (q_buildR (u := [.v (.int .i64 1)]) (v := []) pl31 zr31 rfl (by exact .one rfl rfl (by exact .one rfl rfl .nil)) (by exact ⟨⟨rfl, by decide⟩, ⟨rfl, by decide⟩, trivial⟩) (by rfl)) ?_
  refine aops_alloc zr31 rfl rfl rfl ?_
  refine aops_le (le_tbox (k := 1) (ts := [_, _]) rfl rfl) ?_
  refine aops_storeAg sz31 rfl rfl rfl rfl rfl rfl rfl ?_
  refine aops_nil (xq (awp_regionL 4 2 [2, 3] mixed (by kernel_rfl) ?_))
  refine rg_q (q_fieldAddr_ref fld31_1 rfl) ?_
  refine rg_q (q_load_tb (x := .rs _) sz29 rfl rfl rfl) ?_
  refine rg_q (q_fieldAddr_ref fld31_1 rfl) ?_
  refine rg_q (q_load_tb (x := .rs _) sz29 rfl rfl rfl) ?_
  refine rg_nil ?_
  refine late_q (q_indexAddr_rs sl29 rfl rfl rfl (by omega) (by (simp; done))) ?_ ?_
  · refine fl_cons rfl rfl rfl (c_q (q_fieldAddr_ref fld31_1 rfl)) ?_
    refine fl_cons rfl rfl rfl (c_q (q_load_tb (x := .rs _) sz29 rfl rfl rfl)) ?_
    exact fl_nil
  refine late_set (c_storeRow sz117 rfl rfl (by exact .inl rfl) rfl rfl (i := 2) (j := 0) rfl rfl (by decide) rfl) ?_ ?_
  · refine fl_cons rfl rfl rfl (c_q (q_fieldAddr_ref fld31_1 rfl)) ?_
    refine fl_cons rfl rfl rfl (c_q (q_load_tb (x := .rs _) sz29 rfl rfl rfl)) ?_
    exact fl_nil
  refine late_nil ?_
  refine aops_q rfl (q_indexAddr_rs sl29 rfl rfl rfl (by omega) (by (simp; done))) ?_
  refine aops_store_row sz117 rfl rfl (by exact .inl rfl) rfl rfl (i := 3) (j := 0) rfl rfl (by decide) rfl ?_
  refine aops_nil (xq ?_)
  refine Awp.le (le_freezeTB 1 2 1 rfl rfl rfl rfl hmine) ?_
  refine Awp.le (le_boxT 1 (mtxC 1 exB) rfl rfl (by intro j d h; match j, h with | 0, h => cases h; rfl | 1, h => cases h; rfl)) ?_
  refine xa 6 ?_
  refine rg_q (q_call en151 .nil rfl (one_p)) ?_
  refine rg_q (q_fieldA fd130_0 sz28 rfl rfl rfl) ?_
  refine rg_q (q_load_refA (ds := [_, _]) sz31 rfl rfl rfl rfl) ?_
  refine rg_q (q_build (cs := [_, _]) pl33 zr33 rfl (.cons rfl (by exact .inl rfl) (.cons rfl (by exact .inl rfl) .nil)) ⟨⟨rfl, by decide⟩, ⟨rfl, by decide⟩, trivial⟩ rfl) ?_
  refine rg_q (q_build (cs := [_, _, _, _, _]) pl35 zr35 rfl (.cons rfl (by exact .inr ⟨_, rfl⟩) (.cons rfl (by exact .inl rfl) (.cons rfl (by exact .inl rfl) (.cons rfl (by exact .inl rfl) .nil)))) ⟨⟨rfl, by decide⟩, ⟨rfl, by decide⟩, ⟨rfl, by decide⟩, ⟨rfl, by decide⟩, trivial⟩ rfl) ?_
  refine rg_q (q_build pl37 zr37 rfl (.cons rfl (by exact .inr ⟨_, rfl⟩) (.cons rfl (by exact .inr ⟨_, rfl⟩) (.cons rfl (by exact .inr ⟨_, rfl⟩) .nil))) ⟨⟨rfl, by decide⟩, ⟨rfl, by decide⟩, ⟨rfl, by decide⟩, trivial⟩ rfl) ?_
  refine rg_nil ?_
  refine aops_store sz37 rfl rfl (by exact .inr ⟨_, rfl⟩) rfl rfl (by decide) rfl ?_
  refine aops_nil ?_
  change Awp _ _ _ _ _
  refine awp_ret ?_
  refine ⟨_, (.cons (.cellA rfl rfl sz37 rfl) .nil), ?_⟩
  rfl

def sbB (a b c d : Nat) : Bool := bif decide ((a : Int) = (c : Int)) then decide ((b : Int) = (d : Int)) else false
theorem sameBits_p (a b c d : Nat) : PC Tryz.prog 26 [.v (.complex .f64 a b), .v (.complex .f64 c d)] (.v (.bool (sbB a b c d))) := by
 refine pc_of_awp Tryz.func26 rfl Tryz.ntmps26 (rs := [.tmp 4]) Tryz.results26 (by simp) fun w0 => ?_
 refine awp_seq ?_
 refine xa 1 ?_
 refine rg_q (q_a rfl) ?_
 refine rs (xa 17 ?_)
 refine rg_q (q_m rfl) ?_
 refine rg_q (q_real rfl) ?_
 refine rg_q (q_ext1 (e := Extern.MathFloatBits.float64bits) Tryz.func98 (by kernel_rfl) (by kernel_rfl) (by kernel_rfl) (by kernel_rfl) rfl rfl (fun w => rfl) rfl) ?_
 refine rg_q (q_m rfl) ?_
 refine rg_q (q_real rfl) ?_
 refine rg_q (q_ext1 (e := Extern.MathFloatBits.float64bits) Tryz.func98 (by kernel_rfl) (by kernel_rfl) (by kernel_rfl) (by kernel_rfl) rfl rfl (fun w => rfl) rfl) ?_
 refine rg_q (q_eql rfl rfl) (rg_q (q_m rfl) ?_)
 refine rg_g rfl rfl (fun hG => (q_m rfl)) ?_
 refine rg_g rfl rfl (fun hG => (q_imag rfl)) ?_
 refine rg_g rfl rfl (fun hG => (q_ext1 (e := Extern.MathFloatBits.float64bits) Tryz.func98 (by kernel_rfl) (by kernel_rfl) (by kernel_rfl) (by kernel_rfl) rfl rfl (fun w => rfl) rfl)) ?_
 refine rg_g rfl rfl (fun hG => (q_m rfl)) ?_
 refine rg_g rfl rfl (fun hG => (q_imag rfl)) ?_
 refine rg_g rfl rfl (fun hG => (q_ext1 (e := Extern.MathFloatBits.float64bits) Tryz.func98 (by kernel_rfl) (by kernel_rfl) (by kernel_rfl) (by kernel_rfl) rfl rfl (fun w => rfl) rfl)) ?_
 refine rg_g rfl rfl (fun hG => (q_eql rfl rfl)) ?_
 refine rg_pick rfl rfl rfl rfl rfl rfl ?_
 refine rg_q (q_a rfl) ?_
 refine xc (awp_ret ?_)
 refine ⟨_, xk1, ?_⟩
 rfl
theorem ints5_p (l m : List Int) : PC Tryz.prog 49 [.sl 1 (l.map iC), .sl 1 (m.map iC)] (.v (.bool (decide (l = m)))) := by
 refine pc_of_awp Tryz.func49 rfl Tryz.ntmps49 (rs := [.tmp 4]) Tryz.results49 (by simp) fun w0 => ?_
 refine awp_seq ?_
 refine xa 1 ?_
 refine rg_q (q_a rfl) ?_
 refine rs (awp_seq ?_)
 refine xa 5 ?_
 refine rg_q (q_move (x := .d (.sl _ _)) rfl) ?_
 refine rg_q (q_len isl77 rfl (by exact len_map _ _)) ?_
 refine rg_q (q_move (x := .d (.sl _ _)) rfl) ?_
 refine rg_q (q_len isl77 rfl (by exact len_map _ _)) ?_
 refine rg_q (q_neq rfl rfl) ?_
 refine xc (awp_len (t := 6) rfl (fun hl6 => ?_))
 (try simp only [List.length_map] at hl6)
 refine awp_len (t := 8) rfl (fun hl8 => ?_)
 (try simp only [List.length_map] at hl8)
 refine awp_cond rfl (fun hc1 => ?_) (fun hc1 => ?_)
 ·
  (try simp only [nb, ne_eq] at hc1)
  have hz : decide (l = m) = false := decide_eq_false (fun e => by rw [e] at hc1; omega)
  refine awp_seq ?_
  refine xa 1 ?_
  refine rg_q (q_a rfl) ?_
  refine xc (awp_ret ?_)
  refine ⟨_, xk1, ?_⟩
  rw [hz]; rfl
 ·
  (try simp only [nb, ne_eq] at hc1)
  have hlm : l.length = m.length := by omega
  refine awp_skip ?_
  change Awp _ _ _ _ _
  refine awp_seq ?_
  refine awp_seq ?_
  refine xa 1 ?_
  refine rg_q (q_a rfl) ?_
  refine xc (awp_block ?_)
  refine awp_loopH [4, 5, 11, 12, 13, 14, 15, 16, 17, 18, 19, 20, 21, 22, 23, 24, 25] [] (α := Nat) (fun k => [(5, T.i (k : Int))]) (fun k => []) (fun k => k ≤ l.length ∧ l.take k = m.take k) (fun k => l.length - k) 0 ⟨Nat.zero_le _, rfl⟩ ?_ ?_
  · exact xh (ms := []) (by repeat (exact Out.refl _)) ⟨(by rfl), trivial⟩ trivial
  ·
   intro k ⟨hk, hf⟩
   refine awp_seq ?_
   refine awp_seq ?_
   refine xa 4 ?_
   refine rg_q (q_m rfl) (rg_q (q_move (x := .d (.sl _ _)) rfl) ?_)
   refine rg_q (q_len isl77 rfl (by exact len_map _ _)) ?_
   refine rg_q (q_lss rfl rfl) ?_
   refine xc (awp_len (t := 12) rfl (fun hl12 => ?_))
   (try simp only [List.length_map] at hl12)
   refine awp_cond rfl (fun hc4 => ?_) (fun hc4 => ?_)
   ·
    (try simp only [nb, ne_eq] at hc4)
    have hlt : k < l.length := by omega
    obtain ⟨x, hx⟩ : ∃ x, l[k]? = some x := ⟨_, List.getElem?_eq_getElem hlt⟩
    obtain ⟨y, hy⟩ : ∃ y, m[k]? = some y := ⟨_, List.getElem?_eq_getElem (by omega)⟩
    refine awp_skip ?_
    change Awp _ _ _ _ _
    refine awp_seq ?_
    refine awp_block ?_
    refine awp_seq ?_
    refine xa 9 ?_
    refine rg_q (q_move (x := .d (.sl _ _)) rfl) (rg_q (q_m rfl) ?_)
    refine rg_q (q_indexAddr sl77 rfl rfl (by omega) (map_at (k := k) (by omega) hx)) ?_
    refine rg_q (q_load sz3 rfl rfl) (rg_q (q_move (x := .d (.sl _ _)) rfl) (rg_q (q_m rfl) ?_))
    refine rg_q (q_indexAddr sl77 rfl rfl (by omega) (map_at (k := k) (by omega) hy)) ?_
    refine rg_q (q_load sz3 rfl rfl) (rg_q (q_neq rfl rfl) ?_)
    refine xc (awp_cond rfl (fun hc6 => ?_) (fun hc6 => ?_))
    ·
     (try simp only [nb, ne_eq] at hc6)
     have hz : decide (l = m) = false := decide_eq_false (fun e => by rw [e, hy] at hx; have := Option.some.inj hx; omega)
     refine awp_seq ?_
     refine xa 1 ?_
     refine rg_q (q_a rfl) ?_
     refine xc (awp_ret ?_)
     refine ⟨_, xk1, ?_⟩
     rw [hz]; rfl
    ·
     (try simp only [nb, ne_eq] at hc6)
     have hxy : x = y := by omega
     have hnx : l.take (k + 1) = m.take (k + 1) := by rw [List.take_succ_eq_append_getElem hlt, List.take_succ_eq_append_getElem (by omega), hf, (List.getElem?_eq_some_iff.1 hx).2, (List.getElem?_eq_some_iff.1 hy).2, hxy]
     refine awp_skip ?_
     change Awp _ _ _ _ _
     refine xa 3 ?_
     refine rg_q (q_m rfl) ?_
     refine rg_q (q_add rfl rfl xi) ?_
     refine rg_q (q_a rfl) ?_
     refine rn ?_
     refine ⟨k + 1, ⟨by omega, hnx⟩, by omega, ?_⟩
     exact xh (ms := []) (by repeat (first | exact Out.head rfl rfl | (refine Out.put ?_ rfl))) ⟨(by rfl), trivial⟩ trivial
   ·
    (try simp only [nb, ne_eq] at hc4)
    have hz : decide (l = m) = true := decide_eq_true (by rw [← List.take_of_length_le (l := l) (i := k) (by omega), hf, List.take_of_length_le (by omega)])
    refine awp_exit ?_
    change Awp _ _ _ _ _
    refine awp_seq ?_
    refine xa 1 ?_
    refine rg_q (q_a rfl) ?_
    refine xc (awp_ret ?_)
    refine ⟨_, xk1, ?_⟩
    rw [hz]; rfl

theorem ex_vl : vlI oneT 0 = ((30, -20), 1) := by decide +kernel
theorem ex_en : endI oneT 0 = ((30, 30), -20, -20) := by decide +kernel
theorem ex_pk : peaksR ⟨0, 0, 3, 1, 1⟩ [5, 1, 5] = ([0, 2], 0) := by decide +kernel
theorem ex_de : dealR 2 [[1, 0], []] = (1, 0) := by decide +kernel
theorem ex_cz : cz 30 (-20) = .v (.complex .f64 4629137466983448576 13849694754071117824) := by
  have h1 : FloatKind.f64.nearest 30 = 4629137466983448576 := by decide +kernel
  have h2 : FloatKind.f64.nearest (-20) = 13849694754071117824 := by decide +kernel
  unfold cz; rw [h1, h2]

theorem exB_wh : WhlL exB := by
  have h3 : (0 :: 0 :: 30 :: -20 :: List.replicate 60 0 : List Int).map FloatKind.f32.nearest = exB := by decide +kernel
  have h4 : ∀ n ∈ (0 :: 0 :: 30 :: -20 :: List.replicate 60 0 : List Int), -2047 ≤ n ∧ n ≤ 2047 := by decide +kernel
  intro b hb
  rw [← h3] at hb
  obtain ⟨n, hn, rfl⟩ := List.mem_map.1 hb
  have hw := whl_fn (h4 n hn).1 (h4 n hn).2
  rw [hw.v]; exact hw
theorem oneT_ok : TskOk oneT := ⟨by decide +kernel, by decide, by decide, by decide +kernel, exB_wh, by decide, by decide +kernel, by decide, by decide, by decide +kernel, by decide +kernel⟩
theorem oneT_c : clE oneT.g 0 = 0 := by decide +kernel
theorem awake5_p  : PC Tryz.prog 18 [] (.v (.bool (true))) := by
 refine pc_of_awpN Tryz.func18 rfl Tryz.ntmps18 (rs := [.tmp 0]) Tryz.results18 (by simp) fun w0 hmine hrnd hpn => ?_
 refine awp_seq ?_
 refine xa 1 ?_
 refine rg_q (q_a rfl) ?_
 refine rs (xa 9 ?_)
 refine rg_q (q_call en82 .nil rfl (one5_p)) ?_
 refine rg_q (q_call en23 (.cons rfl (.cons rfl .nil)) rfl ((by have h := valueAt_p oneT 0 oneT_ok oneT_c; rw [ex_vl, ex_cz] at h; exact h))) ?_
 refine rg_q (q_move (x := .d (.tup _)) rfl) (rg_q (q_extract rfl rfl) (rg_q (q_extract rfl rfl) (rg_q (q_extract rfl rfl) (rg_q (q_a rfl) (rg_q (q_a rfl) ?_)))))
 refine rg_q (q_a rfl) ?_
 refine rs (xa 5 ?_)
 refine rg_q (q_call en82 .nil rfl (one5_p)) ?_
 refine rg_q (q_call en28 (.cons rfl (.cons rfl .nil)) rfl ((by have h := endsAt_p oneT 0 oneT_ok oneT_c; rw [ex_en] at h; exact h))) ?_
 refine rg_q (q_move (x := .d (.tup _)) rfl) (rg_q (q_extract rfl rfl) (rg_q (q_extract rfl rfl) ?_))
 refine rg_nil ?_
 refine aops_alloc zr57 rfl rfl rfl ?_
 refine aops_store sz57 rfl rfl (by exact .inr ⟨_, rfl⟩) rfl rfl (by decide) rfl ?_
 refine aops_q rfl (q_a rfl) ?_
 refine aops_nil (xq (xa 8 ?_))
 refine rg_q (q_build (cs := [_, _, _, _, _]) pl35 zr35 rfl (.cons rfl (by exact .inl rfl) (.cons rfl (by exact .inl rfl) (.cons rfl (by exact .inl rfl) .nil))) ⟨⟨rfl, by decide⟩, ⟨rfl, by decide⟩, ⟨rfl, by decide⟩, trivial⟩ rfl) ?_
 refine rg_q (q_buildSlice sl77 zr3 rfl rfl (by decide) (.cons rfl (by exact .inl rfl) (.cons rfl (by exact .inl rfl) (.cons rfl (by exact .inl rfl) .nil))) ⟨rfl, rfl, rfl, rfl, rfl, rfl, trivial⟩ rfl (by decide) rfl) ?_
 refine rg_q (q_call en83 (.cons rfl (.cons rfl .nil)) rfl ((by have h := peaks_p ⟨0, 0, 3, 1, 1⟩ [5, 1, 5]; rw [ex_pk] at h; exact h))) ?_
 refine rg_q (q_move (x := .d (.tup _)) rfl) (rg_q (q_extract rfl rfl) (rg_q (q_extract rfl rfl) (rg_q (q_assign (x := .d (.sl _ _)) rfl) (rg_q (q_a rfl) ?_))))
 refine rs (xa 9 ?_)
 refine rg_q (q_buildSlice sl77 zr3 rfl rfl (by decide) (.cons rfl (by exact .inl rfl) (.cons rfl (by exact .inl rfl) .nil)) ⟨rfl, rfl, rfl, rfl, trivial⟩ rfl (by decide) rfl) ?_
 refine rg_q (q_buildSlice sl77 zr3 rfl rfl (by decide) .nil trivial rfl (by decide) rfl) ?_
 refine rg_q (q_buildSlice sl120 zr77 rfl rfl (by decide) (.cons rfl (by exact .inl rfl) (.cons rfl (by exact .inl rfl) .nil)) ⟨rfl, rfl, rfl, rfl, trivial⟩ rfl (by decide) rfl) ?_
 refine rg_q (q_call en84 (.cons rfl (.cons rfl .nil)) rfl ((by have h := checkDeal_p 2 [[1, 0], []]; rw [ex_de] at h; exact h))) ?_
 refine rg_q (q_move (x := .d (.tup _)) rfl) (rg_q (q_extract rfl rfl) (rg_q (q_extract rfl rfl) (rg_q (q_a rfl) (rg_q (q_a rfl) ?_))))
 refine rs (xa 39 ?_)
 refine rg_q (q_m rfl) (rg_q (q_eql rfl rfl) (rg_q (q_m rfl) ?_))
 refine rg_g rfl rfl (fun hG => (q_m rfl)) ?_
 refine rg_g rfl rfl (fun hG => (q_call en26 (.cons rfl (.cons rfl .nil)) rfl (sameBits_p 4629137466983448576 13849694754071117824 4629137466983448576 13849694754071117824))) ?_
 refine rg_pick rfl rfl rfl rfl rfl rfl ?_
 refine rg_q (q_m rfl) ?_
 refine rg_g rfl rfl (fun hG => (q_m rfl)) ?_
 refine rg_g rfl rfl (fun hG => (q_eql rfl rfl)) ?_
 refine rg_pick rfl rfl rfl rfl rfl rfl ?_
 refine rg_q (q_m rfl) ?_
 refine rg_g rfl rfl (fun hG => (q_m rfl)) ?_
 refine rg_g rfl rfl (fun hG => (q_eql rfl rfl)) ?_
 refine rg_pick rfl rfl rfl rfl rfl rfl ?_
 refine rg_q (q_m rfl) ?_
 refine rg_g rfl rfl (fun hG => (q_load_refA (ds := [_, _, _, _]) sz57 rfl rfl rfl rfl)) ?_
 refine rg_g rfl rfl (fun hG => (q_build (cs := [_, _]) pl56 zr56 rfl (.cons rfl (by exact .inl rfl) (.cons rfl (by exact .inl rfl) .nil)) ⟨⟨rfl, by decide⟩, ⟨rfl, by decide⟩, trivial⟩ rfl)) ?_
 refine rg_g rfl rfl (fun hG => (q_build (cs := [_, _]) pl56 zr56 rfl (.cons rfl (by exact .inl rfl) (.cons rfl (by exact .inl rfl) .nil)) ⟨⟨rfl, by decide⟩, ⟨rfl, by decide⟩, trivial⟩ rfl)) ?_
 refine rg_g rfl rfl (fun hG => (q_buildA (cs := [_, _, _, _]) ar57 zr57 rfl (.cons rfl (by exact .inr ⟨_, rfl⟩) (.cons rfl (by exact .inr ⟨_, rfl⟩) .nil)) ⟨⟨rfl, by decide⟩, ⟨rfl, by decide⟩, trivial⟩ rfl)) ?_
 refine rg_g rfl rfl (fun hG => (q_eqlI (xs := [_, _, _, _]) (ys := [_, _, _, _]) eqi57 rfl rfl rfl rfl)) ?_
 refine rg_pick rfl rfl rfl rfl rfl rfl ?_
 refine rg_q (q_m rfl) ?_
 refine rg_g rfl rfl (fun hG => (q_m rfl)) ?_
 refine rg_g rfl rfl (fun hG => (q_eql rfl rfl)) ?_
 refine rg_pick rfl rfl rfl rfl rfl rfl ?_
 refine rg_q (q_m rfl) ?_
 refine rg_g rfl rfl (fun hG => (q_move (x := .d (.sl _ _)) rfl)) ?_
 refine rg_g rfl rfl (fun hG => (q_buildSlice sl77 zr3 rfl rfl (by decide) (.cons rfl (by exact .inl rfl) (.cons rfl (by exact .inl rfl) .nil)) ⟨rfl, rfl, rfl, rfl, trivial⟩ rfl (by decide) rfl)) ?_
 refine rg_g rfl rfl (fun hG => (q_call en49 (.cons rfl (.cons rfl .nil)) rfl (ints5_p [0, 2] [0, 2]))) ?_
 refine rg_pick rfl rfl rfl rfl rfl rfl ?_
 refine rg_q (q_m rfl) ?_
 refine rg_g rfl rfl (fun hG => (q_m rfl)) ?_
 refine rg_g rfl rfl (fun hG => (q_eql rfl rfl)) ?_
 refine rg_pick rfl rfl rfl rfl rfl rfl ?_
 refine rg_q (q_m rfl) ?_
 refine rg_g rfl rfl (fun hG => (q_m rfl)) ?_
 refine rg_g rfl rfl (fun hG => (q_eql rfl rfl)) ?_
 refine rg_pick rfl rfl rfl rfl rfl rfl ?_
 refine rg_q (q_a rfl) ?_
 refine xc (awp_ret ?_)
 refine ⟨_, xk1, ?_⟩
 simp [retD, sbB]
end Go.Proofs.YtamaocfjknpadaaGreat.Am.M
-- mini
set_option maxRecDepth 100000
namespace Go.Proofs.YtamaocfjknpadaaGreat.Am.M
open Go

theorem rcells_p (g : Grd) (hg : GrdOk g) : PC Tryz.prog 56 [.agg (grdC g)] (.v (.int .i64 (g.co * g.ro))) := by
 have hci := cells_in hg
 obtain ⟨x1, x2, z1, z2, c1, c2, r1, r2, s1, s2⟩ := hg
 refine pc_of_awp Tryz.func56 rfl Tryz.ntmps56 (rs := [.tmp 2]) Tryz.results56 (by simp) fun w0 => ?_
 refine awp_seq ?_
 refine xa 2 ?_
 refine rg_q (q_box rfl (by exact .inr ⟨_, rfl⟩)) ?_
 refine rg_q (q_a rfl) ?_
 refine rs (xa 6 ?_)
 refine rg_q (q_fieldAddr fld35_1 rfl) (rg_q (q_load sz3 rfl rfl) (rg_q (q_fieldAddr fld35_2 rfl) (rg_q (q_load sz3 rfl rfl) ?_)))
 refine rg_q (q_mul rfl rfl xi) ?_
 refine rg_q (q_a rfl) ?_
 refine xc (awp_ret ?_)
 refine ⟨_, xk1, ?_⟩
 rfl
theorem rspot_p (g : Grd) (c : Int) (hg : GrdOk g) (h1 : 0 ≤ c) (h2 : c ≤ 10000) : PC Tryz.prog 76 [.agg (grdC g), .v (.int .i64 (c))] (.agg (shC (spI g c))) := by
 have hsi := spot_in hg h1 h2
 obtain ⟨x1, x2, z1, z2, c1, c2, r1, r2, s1, s2⟩ := hg
 obtain ⟨m1, m2⟩ := tmodP_in h1 c1
 obtain ⟨d1, d2⟩ := tdivP_in h1 c1
 obtain ⟨⟨a1, a2⟩, a3, a4⟩ := hsi
 refine pc_of_awp Tryz.func76 rfl Tryz.ntmps76 (rs := [.cell 4 33]) Tryz.results76 (by simp) fun w0 => ?_
 refine awp_seq ?_
 refine xa 1 ?_
 refine rg_q (q_box rfl (by exact .inr ⟨_, rfl⟩)) ?_
 refine rg_nil ?_
 refine aops_alloc zr33 rfl rfl rfl ?_
 refine aops_nil (xq (xa 23 ?_))
 refine rg_q (q_fieldAddr fld35_0 rfl) (rg_q (q_fieldAddr fld33_0 rfl) (rg_q (q_load sz3 rfl rfl) (rg_q (q_m rfl) (rg_q (q_fieldAddr fld35_1 rfl) (rg_q (q_load sz3 rfl rfl) ?_)))))
 refine rg_q (q_rem rfl rfl (by omega)) ?_
 refine rg_q (q_fieldAddr fld35_3 rfl) (rg_q (q_load sz3 rfl rfl) ?_)
 refine rg_q (q_mul rfl rfl xi) ?_
 refine rg_q (q_add rfl rfl xi) ?_
 refine rg_q (q_fieldAddr fld35_0 rfl) (rg_q (q_fieldAddr fld33_1 rfl) (rg_q (q_load sz3 rfl rfl) (rg_q (q_m rfl) (rg_q (q_fieldAddr fld35_1 rfl) (rg_q (q_load sz3 rfl rfl) ?_)))))
 refine rg_q (q_quo rfl rfl (by omega) xi) ?_
 refine rg_q (q_fieldAddr fld35_3 rfl) (rg_q (q_load sz3 rfl rfl) ?_)
 refine rg_q (q_mul rfl rfl xi) ?_
 refine rg_q (q_add rfl rfl xi) ?_
 refine rg_q (q_build (cs := [_, _]) pl33 zr33 rfl (.cons rfl (by exact .inl rfl) (.cons rfl (by exact .inl rfl) .nil)) ⟨⟨rfl, by decide⟩, ⟨rfl, by decide⟩, trivial⟩ rfl) ?_
 refine rg_nil ?_
 refine aops_store sz33 rfl rfl (by exact .inr ⟨_, rfl⟩) rfl rfl (by decide) rfl ?_
 refine aops_nil ?_
 change Awp _ _ _ _ _
 refine awp_ret ?_
 refine ⟨_, (.cons (.cellA rfl rfl sz33 rfl) .nil), ?_⟩
 rfl
theorem rcheckGrid_p (g : Grd) : PC Tryz.prog 74 [.agg (grdC g)] (.v (.int .i64 (ckG g))) := by
 refine pc_of_awpN Tryz.func74 rfl Tryz.ntmps74 (rs := [.tmp 2]) Tryz.results74 (by simp) fun w0 hmine hrnd hpn => ?_
 refine awp_seq ?_
 refine xa 2 ?_
 refine rg_q (q_box rfl (by exact .inr ⟨_, rfl⟩)) ?_
 refine rg_q (q_a rfl) ?_
 refine rs (awp_seq ?_)
 refine xa 30 ?_
 refine rg_q (q_fieldAddr fld35_0 rfl) (rg_q (q_fieldAddr fld33_0 rfl) (rg_q (q_load sz3 rfl rfl) ?_))
 refine rg_q (q_call en31 (.cons rfl (.cons rfl (.cons rfl .nil))) rfl (within4_p _ _ _)) ?_
 refine rg_q (q_not rfl) (rg_q (q_m rfl) ?_)
 refine rg_g rfl rfl (fun hG => (q_fieldAddr fld35_0 rfl)) ?_
 refine rg_g rfl rfl (fun hG => (q_fieldAddr fld33_1 rfl)) ?_
 refine rg_g rfl rfl (fun hG => (q_load sz3 rfl rfl)) ?_
 refine rg_g rfl rfl (fun hG => (q_call en31 (.cons rfl (.cons rfl (.cons rfl .nil))) rfl (within4_p _ _ _))) ?_
 refine rg_g rfl rfl (fun hG => (q_not rfl)) ?_
 refine rg_pick rfl rfl rfl rfl rfl rfl ?_
 refine rg_q (q_m rfl) ?_
 refine rg_g rfl rfl (fun hG => (q_fieldAddr fld35_1 rfl)) ?_
 refine rg_g rfl rfl (fun hG => (q_load sz3 rfl rfl)) ?_
 refine rg_g rfl rfl (fun hG => (q_call en31 (.cons rfl (.cons rfl (.cons rfl .nil))) rfl (within4_p _ _ _))) ?_
 refine rg_g rfl rfl (fun hG => (q_not rfl)) ?_
 refine rg_pick rfl rfl rfl rfl rfl rfl ?_
 refine rg_q (q_m rfl) ?_
 refine rg_g rfl rfl (fun hG => (q_fieldAddr fld35_2 rfl)) ?_
 refine rg_g rfl rfl (fun hG => (q_load sz3 rfl rfl)) ?_
 refine rg_g rfl rfl (fun hG => (q_call en31 (.cons rfl (.cons rfl (.cons rfl .nil))) rfl (within4_p _ _ _))) ?_
 refine rg_g rfl rfl (fun hG => (q_not rfl)) ?_
 refine rg_pick rfl rfl rfl rfl rfl rfl ?_
 refine rg_q (q_m rfl) ?_
 refine rg_g rfl rfl (fun hG => (q_fieldAddr fld35_3 rfl)) ?_
 refine rg_g rfl rfl (fun hG => (q_load sz3 rfl rfl)) ?_
 refine rg_g rfl rfl (fun hG => (q_call en31 (.cons rfl (.cons rfl (.cons rfl .nil))) rfl (within4_p _ _ _))) ?_
 refine rg_g rfl rfl (fun hG => (q_not rfl)) ?_
 refine rg_pick rfl rfl rfl rfl rfl rfl ?_
 refine xc (awp_cond rfl (fun hc1 => ?_) (fun hc1 => ?_))
 ·
  (try simp only [nb, ne_eq] at hc1)
  have hb : grdB g = false := by
   cases q : grdB g with
   | false => rfl
   | true => unfold grdB at q; simp_all
  have hz : ckG g = 2 := by unfold ckG; rw [hb]; rfl
  refine awp_seq ?_
  refine xa 1 ?_
  refine rg_q (q_a rfl) ?_
  refine xc (awp_ret ?_)
  refine ⟨_, xk1, ?_⟩
  rw [hz]; rfl
 ·
  (try simp only [nb, ne_eq] at hc1)
  have hb : grdB g = true := by unfold grdB; simp_all
  have hg := grdB_ok hb
  have hci := cells_in hg
  have hz : ckG g = whenI (decide (100000 < (spI g (g.co * g.ro - 1)).1) || decide (100000 < (spI g (g.co * g.ro - 1)).2)) 8 := by unfold ckG; rw [if_pos hb]
  refine awp_skip ?_
  change Awp _ _ _ _ _
  refine awp_seq ?_
  refine awp_regionM 7 [none, none, none, none, none, some 3, some 3] mixed (by kernel_rfl) ?_
  refine rgm_q rfl (q_loadA (ds := [_, _, _, _, _]) sz35 rfl rfl rfl) ?_
  refine rgm_q rfl (q_loadA (ds := [_, _, _, _, _]) sz35 rfl rfl rfl) ?_
  refine rgm_q rfl (q_call en56 (.cons rfl .nil) rfl (rcells_p _ (by assumption))) ?_
  refine rgm_q rfl (q_sub rfl rfl xi) ?_
  refine rgm_q rfl (q_call en76 (.cons rfl (.cons rfl .nil)) rfl (rspot_p _ _ (by assumption) (by omega) (by omega))) ?_
  refine rgm_m (k := 3) rfl rfl (by rfl) (m_alloc zr33 rfl rfl) ?_
  refine rgm_m (k := 3) rfl rfl (by rfl) (m_store sz33 rfl rfl (by exact .inr ⟨_, rfl⟩) rfl rfl (by decide) rfl) ?_
  refine rgm_nil (aops_nil ?_)
  change Awp _ _ _ _ _
  refine awp_seq ?_
  refine awp_seq ?_
  refine xa 8 ?_
  refine rg_q (q_fieldAddr_ref fld33_0 rfl) (rg_q (q_load_ref sz3 rfl rfl rfl) (rg_q (q_gtr rfl rfl) (rg_q (q_m rfl) ?_)))
  refine rg_g rfl rfl (fun hG => (q_fieldAddr_ref fld33_1 rfl)) ?_
  refine rg_g rfl rfl (fun hG => (q_load_ref sz3 rfl rfl rfl)) ?_
  refine rg_g rfl rfl (fun hG => (q_gtr rfl rfl)) ?_
  refine rg_pick rfl rfl rfl rfl rfl rfl ?_
  refine xc (awp_cond rfl (fun hc4 => ?_) (fun hc4 => ?_))
  ·
   (try simp only [nb, ne_eq] at hc4)
   rw [show whenI (decide (100000 < (spI g (g.co * g.ro - 1)).1) || decide (100000 < (spI g (g.co * g.ro - 1)).2)) 8 = 8 from by unfold whenI; rw [if_pos (by simpa using hc4)]] at hz
   refine awp_seq ?_
   refine xa 1 ?_
   refine rg_q (q_a rfl) ?_
   refine xc (awp_ret ?_)
   refine ⟨_, xk1, ?_⟩
   rw [hz]; rfl
  ·
   (try simp only [nb, ne_eq] at hc4)
   rw [show whenI (decide (100000 < (spI g (g.co * g.ro - 1)).1) || decide (100000 < (spI g (g.co * g.ro - 1)).2)) 8 = 0 from by unfold whenI; rw [if_neg (by simp; omega)]] at hz
   refine awp_skip ?_
   change Awp _ _ _ _ _
   refine awp_seq ?_
   refine xa 1 ?_
   refine rg_q (q_a rfl) ?_
   refine xc (awp_ret ?_)
   refine ⟨_, xk1, ?_⟩
   rw [hz]; rfl
end Go.Proofs.YtamaocfjknpadaaGreat.Am.M
-- mini
set_option maxRecDepth 100000
namespace Go.Proofs.YtamaocfjknpadaaGreat.Am.M
open Go
theorem has5_p (l : List Int) (n : Int) : PC Tryz.prog 134 [.sl 1 (l.map iC), .v (.int .i64 (n))] (.v (.bool (decide (n ∈ l)))) := by
  refine pc_of_awp Tryz.func134 rfl Tryz.ntmps134 (rs := [.tmp 4]) Tryz.results134 (by simp) fun w0 => ?_
  refine awp_seq ?_
  refine xa 1 ?_
  refine rg_q (q_a rfl) ?_
  refine rs (awp_seq ?_)
  refine xa 1 ?_
  refine rg_q (q_a rfl) ?_
  refine xc (awp_block ?_)
  refine awp_loopH [4, 5, 6, 7, 8, 9, 10, 11, 12, 13, 14, 15, 16, 17] [] (α := Nat) (fun k => [(5, T.i (k : Int))]) (fun k => []) (fun k => k ≤ l.length ∧ n ∉ l.take k) (fun k => l.length - k) 0 ⟨Nat.zero_le _, by simp⟩ ?_ ?_
  · exact xh (ms := []) (by repeat (exact Out.refl _)) ⟨(by rfl), trivial⟩ trivial
  ·
    intro k ⟨hk, hf⟩
    refine awp_seq ?_
    refine awp_seq ?_
    refine xa 4 ?_
    refine rg_q (q_m rfl) (rg_q (q_move (x := .d (.sl _ _)) rfl) ?_)
    refine rg_q (q_len isl77 rfl (by exact len_map _ _)) ?_
    refine rg_q (q_lss rfl rfl) ?_
    refine xc (awp_len (t := 7) rfl (fun hl7 => ?_))
    (try simp only [List.length_map] at hl7)
    refine awp_cond rfl (fun hc2 => ?_) (fun hc2 => ?_)
    ·
      (try simp only [nb, ne_eq] at hc2)
      have hlt : k < l.length := by omega
      obtain ⟨x, hx⟩ : ∃ x, l[k]? = some x := ⟨_, List.getElem?_eq_getElem hlt⟩
      refine awp_skip ?_
      change Awp _ _ _ _ _
      refine awp_seq ?_
      refine awp_block ?_
      refine awp_seq ?_
      refine xa 6 ?_
      refine rg_q (q_move (x := .d (.sl _ _)) rfl) (rg_q (q_m rfl) ?_)
      refine rg_q (q_indexAddr sl77 rfl rfl (by omega) (map_at (by omega) hx)) ?_
      refine rg_q (q_load sz3 rfl rfl) (rg_q (q_m rfl) (rg_q (q_eql rfl rfl) ?_))
      refine xc (awp_cond rfl (fun hc4 => ?_) (fun hc4 => ?_))
      ·
        (try simp only [nb, ne_eq] at hc4)
        have hz : decide (n ∈ l) = true := decide_eq_true (by rw [← hc4]; exact List.mem_of_getElem? hx)
        refine awp_seq ?_
        refine xa 1 ?_
        refine rg_q (q_a rfl) ?_
        refine xc (awp_ret ?_)
        refine ⟨_, xk1, ?_⟩
        rw [hz]; rfl
      ·
        (try simp only [nb, ne_eq] at hc4)
        have hn2 : n ∉ l.take (k + 1) := by
          rw [takeSnoc hx]
          intro q
          rcases List.mem_append.1 q with q | q
          · exact hf q
          · rw [List.mem_singleton] at q; exact hc4 q.symm
        refine awp_skip ?_
        change Awp _ _ _ _ _
        refine xa 3 ?_
        refine rg_q (q_m rfl) ?_
        refine rg_q (q_add rfl rfl xi) ?_
        refine rg_q (q_a rfl) ?_
        refine rn ?_
        refine ⟨k + 1, ⟨by omega, hn2⟩, by omega, ?_⟩
        exact xh (ms := []) (by repeat (first | exact Out.head rfl rfl | (refine Out.put ?_ rfl))) ⟨(by rfl), trivial⟩ trivial
    ·
      (try simp only [nb, ne_eq] at hc2)
      have hz : decide (n ∈ l) = false := decide_eq_false (by have : k = l.length := by omega
                                                              rw [this, List.take_length] at hf; exact hf)
      refine awp_exit ?_
      change Awp _ _ _ _ _
      refine awp_seq ?_
      refine xa 1 ?_
      refine rg_q (q_a rfl) ?_
      refine xc (awp_ret ?_)
      refine ⟨_, xk1, ?_⟩
      rw [hz]; rfl
end Go.Proofs.YtamaocfjknpadaaGreat.Am.M
-- mini
set_option maxRecDepth 100000
namespace Go.Proofs.YtamaocfjknpadaaGreat.Am.M
open Go

end Go.Proofs.YtamaocfjknpadaaGreat.Am.M
-- mini
set_option maxRecDepth 100000
namespace Go.Proofs.YtamaocfjknpadaaGreat.Am.M
open Go

def sEr (c1 c2 c3 : Bool) (n : Int) : Int := if (c1 || c2) = true then 2 else if c3 = true then 25 else if inR (-2047) n 2047 = true then 0 else 2
theorem tsampleBad_p (b : Nat) (h : floatBits .sub .f32 b b = none) : PC Tryz.prog 234 [fd b] (.v (.int .i64 (25))) := by
 refine pc_of_awp Tryz.func234 rfl Tryz.ntmps234 (rs := [.tmp 2]) Tryz.results234 (by simp) fun w0 => ?_
 refine awp_seq ?_
 refine xa 1 ?_
 refine rg_q (q_a rfl) ?_
 refine rs (awp_block ?_)
 refine awp_seq ?_
 refine xa 10 ?_
 refine rg_q (q_m rfl) (rg_q (q_m rfl) ?_)
 refine rg_q (q_fcmp (by decide) rfl rfl rfl) ?_
 refine rg_q (q_m rfl) ?_
 refine rg_g rfl rfl (fun hG => (q_m rfl)) ?_
 refine rg_g rfl rfl (fun hG => (q_m rfl)) ?_
 refine rg_g rfl rfl (fun hG => (q_farN (by decide) rfl rfl h)) ?_
 refine rg_g rfl rfl (fun hG => (q_fcmpN (by decide) rfl rfl rfl)) ?_
 refine rg_pick rfl rfl rfl rfl rfl rfl ?_
 refine rg_q (q_a rfl) ?_
 refine xc (awp_cond rfl (fun hc1 => ?_) (fun hc1 => ?_))
 ·
  (try simp only [nb, ne_eq] at hc1)
  refine awp_seq ?_
  refine xa 1 ?_
  refine rg_q (q_a rfl) ?_
  refine xc (awp_ret ?_)
  refine ⟨_, xk1, ?_⟩
  rfl
 ·
  rw [show ordB .neq none = true from rfl] at hc1
  simp [bif_or] at hc1
theorem tsampleNum_p (b : Nat) (c1 c2 c3 : Bool) (n : Int) (hs : floatBits .sub .f32 b b = some 0) (h0 : ordB .neq (FloatKind.f32.format.order b b) = false) (h1 : ordB .geq (FloatKind.f32.format.order b 1266679808) = c1) (h2 : ordB .leq (FloatKind.f32.format.order b 3414163456) = c2) (h3 : (c1 || c2) = false → floatToIntVal .f32 b .i64 = some n ∧ ordB .neq (FloatKind.f32.format.order (FloatKind.f32.nearest n) b) = c3) : PC Tryz.prog 234 [fd b] (.v (.int .i64 (sEr c1 c2 c3 n))) := by
 refine pc_of_awp Tryz.func234 rfl Tryz.ntmps234 (rs := [.tmp 2]) Tryz.results234 (by simp) fun w0 => ?_
 refine awp_seq ?_
 refine xa 1 ?_
 refine rg_q (q_a rfl) ?_
 refine rs (awp_block ?_)
 refine awp_seq ?_
 refine xa 10 ?_
 refine rg_q (q_m rfl) (rg_q (q_m rfl) ?_)
 refine rg_q (q_fcmp (by decide) rfl rfl h0) ?_
 refine rg_q (q_m rfl) ?_
 refine rg_g rfl rfl (fun hG => (q_m rfl)) ?_
 refine rg_g rfl rfl (fun hG => (q_m rfl)) ?_
 refine rg_g rfl rfl (fun hG => (q_fbin (by decide) rfl rfl hs)) ?_
 refine rg_g rfl rfl (fun hG => (q_fcmp (by decide) rfl rfl whl_zero)) ?_
 refine rg_pick rfl rfl rfl rfl rfl rfl ?_
 refine rg_q (q_a rfl) ?_
 refine xc (awp_cond rfl (fun hc1 => ?_) (fun hc1 => ?_))
 ·
  cases hc1
 ·
  (try simp only [nb, ne_eq] at hc1)
  refine awp_seq ?_
  refine xa 7 ?_
  refine rg_q (q_m rfl) ?_
  refine rg_q (q_fcmp (by decide) rfl rfl h1) ?_
  refine rg_q (q_m rfl) ?_
  refine rg_g rfl rfl (fun hG => (q_m rfl)) ?_
  refine rg_g rfl rfl (fun hG => (q_fcmp (by decide) rfl rfl h2)) ?_
  refine rg_pick rfl rfl rfl rfl rfl rfl ?_
  refine rg_q (q_a rfl) ?_
  refine xc (awp_cond rfl (fun hc3 => ?_) (fun hc3 => ?_))
  ·
   (try simp only [nb, ne_eq] at hc3)
   have hq : (c1 || c2) = true := by simpa using hc3
   have hz : sEr c1 c2 c3 n = 2 := by unfold sEr; rw [if_pos hq]
   rw [hz]
   refine awp_seq ?_
   refine xa 1 ?_
   refine rg_q (q_a rfl) ?_
   refine xc (awp_ret ?_)
   refine ⟨_, xk1, ?_⟩
   rfl
  ·
   (try simp only [nb, ne_eq] at hc3)
   have hq : (c1 || c2) = false := by simpa using hc3
   obtain ⟨hi, hb⟩ := h3 hq
   refine awp_seq ?_
   refine xa 6 ?_
   refine rg_q (q_m rfl) ?_
   refine rg_q (q_convfi flt117 int3 rfl hi) ?_
   refine rg_q (q_convf int3 flt117 rfl) ?_
   refine rg_q (q_m rfl) ?_
   refine rg_q (q_fcmp (by decide) rfl rfl hb) ?_
   refine rg_q (q_a rfl) ?_
   refine xc (awp_cond rfl (fun hc5 => ?_) (fun hc5 => ?_))
   ·
    (try simp only [nb, ne_eq] at hc5)
    have hz : sEr c1 c2 c3 n = 25 := by unfold sEr; rw [if_neg (by rw [hq]; decide), if_pos hc5]
    rw [hz]
    refine awp_seq ?_
    refine xa 1 ?_
    refine rg_q (q_a rfl) ?_
    refine xc (awp_ret ?_)
    refine ⟨_, xk1, ?_⟩
    rfl
   ·
    (try simp only [nb, ne_eq] at hc5)
    refine awp_seq ?_
    refine xa 5 ?_
    refine rg_q (q_m rfl) ?_
    refine rg_q (q_convfi flt117 int3 rfl hi) ?_
    refine rg_q (q_call en267 (.cons rfl (.cons rfl .nil)) rfl (tsmall_p _ _ (by omega) (by omega))) ?_
    refine rg_q (q_not rfl) (rg_q (q_a rfl) ?_)
    refine xc (awp_cond rfl (fun hc7 => ?_) (fun hc7 => ?_))
    ·
     (try simp only [nb, ne_eq] at hc7)
     have hz : sEr c1 c2 c3 n = 2 := by unfold sEr; rw [if_neg (by rw [hq]; decide), if_neg (by rw [hc5]; decide), if_neg (by simpa using hc7)]
     rw [hz]
     refine awp_seq ?_
     refine xa 1 ?_
     refine rg_q (q_a rfl) ?_
     refine xc (awp_ret ?_)
     refine ⟨_, xk1, ?_⟩
     rfl
    ·
     (try simp only [nb, ne_eq] at hc7)
     have hz : sEr c1 c2 c3 n = 0 := by unfold sEr; rw [if_neg (by rw [hq]; decide), if_neg (by rw [hc5]; decide), if_pos (by simpa using hc7)]
     rw [hz]
     refine awp_skip ?_
     change Awp _ _ _ _ _
     refine awp_seq ?_
     refine xa 1 ?_
     refine rg_q (q_a rfl) ?_
     refine xc (awp_ret ?_)
     refine ⟨_, xk1, ?_⟩
     rfl

theorem in_M {s : Bool} {N : Nat} (k : Nat) : (-(k : Int) ≤ sgI s N ∧ sgI s N ≤ (k : Int)) ↔ N ≤ k := by unfold sgI; cases s <;> simp <;> omega
theorem sg_le {s : Bool} {M : Nat} (K : Nat) (hM : ¬ K ≤ M) : decide (sgI false K ≤ sgI s M) = false ∧ decide (sgI s M ≤ sgI true K) = false := by
  refine ⟨decide_eq_false ?_, decide_eq_false ?_⟩ <;> (unfold sgI; cases s <;> simp <;> omega)
theorem sg_ge {s : Bool} {M : Nat} (K : Nat) (hM : K ≤ M) : (decide (sgI false K ≤ sgI s M) || decide (sgI s M ≤ sgI true K)) = true := by
  rw [Bool.or_eq_true, decide_eq_true_eq, decide_eq_true_eq]
  cases s
  · left; unfold sgI; simp; omega
  · right; unfold sgI; simp; omega
theorem div_le {M k : Nat} : M / QQ ≤ k ↔ M < (k + 1) * QQ := by
  rw [← Nat.lt_succ_iff, Nat.div_lt_iff_lt_mul QQ_pos]
theorem i64_of {a : Int} (h : a.natAbs ≤ 1000000000000000000) : IntKind.i64.min ≤ a ∧ a ≤ IntKind.i64.max := by
  show (-9223372036854775808 : Int) ≤ a ∧ a ≤ 9223372036854775807
  omega
theorem int_num {k : FloatKind} {b : Nat} {s : Bool} {M : Nat} (h : Numb k.format b s M) (hM : M / QQ ≤ 1000000000000000000) : floatToIntVal k b .i64 = some (sgI s (M / QQ)) := by
  unfold floatToIntVal
  have h1 : (k.decode b).toInt .zero = some (sgI s (M / QQ)) := toInt_num h
  rw [h1]
  exact if_pos (i64_of (by rw [sg_abs]; exact hM))
theorem neq_back {f : Ieee.Format} {p L I : Nat} (h : Fm f p L I) (hL : L ≤ KK) {b : Nat} {s : Bool} {m : Nat} {e : Int} {M : Nat} (hr : f.read b = .number s m e) (hM : m * 2 ^ (e + KK).toNat = M) : ordB .neq (f.order (wd f (sgI s (M / QQ))) b) = !decide (M % QQ = 0) := by
  have := back_ord h hL hr hM
  unfold ordB
  rw [bne, this]
theorem tsampleErr5_p (b : Nat) : PC Tryz.prog 234 [fd b] (.v (.int .i64 (sE b))) := by
  cases hr : Ieee.single.read b with
  | nan s t =>
    have e : sE b = 25 := by unfold sE; rw [hr]
    rw [e]
    exact tsampleBad_p b (show Ieee.single.sub b b = none by unfold Ieee.Format.sub; rw [hr]; rfl)
  | infinity s =>
    have e : sE b = 25 := by unfold sE; rw [hr]
    rw [e]
    exact tsampleBad_p b (sub_inf hr)
  | number s m e =>
    obtain ⟨M, hM⟩ : ∃ M, m * 2 ^ (e + KK).toNat = M := ⟨_, rfl⟩
    have hn := num_of fmS LS hr
    rw [hM] at hn
    have e : sE b = sEM M := by unfold sE; rw [hr]; simp only [hM]
    rw [e]
    have h := tsampleNum_p b _ _ (!decide (M % QQ = 0)) (sgI s (M / QQ)) (sub_num hn) (ob_self hn) (ob_geq hn num_hi) (ob_leq hn num_lo) (fun q => ?_)
    · have e2 : sEr (decide (sgI false (16777216 * QQ) ≤ sgI s M)) (decide (sgI s M ≤ sgI true (16777216 * QQ))) (!decide (M % QQ = 0)) (sgI s (M / QQ)) = sEM M := by
        unfold sEr sEM
        by_cases h1 : 16777216 * QQ ≤ M
        · rw [if_pos (sg_ge _ h1), if_pos h1]
        · obtain ⟨h2, h3⟩ := sg_le (s := s) _ h1
          rw [h2, h3, if_neg (by decide), if_neg h1]
          by_cases h4 : M % QQ = 0
          · rw [decide_eq_true h4, if_neg (by decide), if_neg (c := M % QQ ≠ 0) (fun q => q h4)]
            have h5 : inR (-2047) (sgI s (M / QQ)) 2047 = true ↔ M / QQ ≤ 2047 := by
              rw [inR_iff]; exact in_M 2047
            have hd := Nat.div_add_mod M QQ
            rw [h4, Nat.add_zero] at hd
            by_cases h6 : M / QQ ≤ 2047
            · rw [if_pos (h5.2 h6), if_neg]
              rw [← hd, Nat.mul_comm QQ]
              have := Nat.mul_le_mul_right QQ h6
              omega
            · rw [if_neg (fun q => h6 (h5.1 q)), if_pos]
              rw [← hd, Nat.mul_comm QQ]
              exact Nat.mul_lt_mul_of_pos_right (by omega) QQ_pos
          · rw [decide_eq_false h4, if_pos (show (!false) = true from rfl), if_pos (c := M % QQ ≠ 0) h4]
      rw [e2] at h
      exact h
    · have h1 : ¬ 16777216 * QQ ≤ M := fun h1 => by rw [sg_ge _ h1] at q; cases q
      have h2 : M / QQ ≤ 16777215 := div_le.2 (by omega)
      exact ⟨int_num (k := .f32) hn (by omega), neq_back fmS LS hr hM⟩

def whD (b : Nat) : Bool :=
  match Ieee.double.read b with
  | .number _ m e => decide (m * 2 ^ (e + KK).toNat % QQ = 0)
  | _ => false
theorem rd_hi16 : Ieee.double.read 4846369599423283200 = .number false 5000000000000000 1 := by decide +kernel
theorem rd_lo16 : Ieee.double.read 14069741636278059008 = .number true 5000000000000000 1 := by decide +kernel
theorem num_hi16 : Numb Ieee.double 4846369599423283200 false (10000000000000000 * QQ) := ⟨_, _, rd_hi16, by omega, by
  rw [show ((1 : Int) + KK).toNat = KK + 1 by omega, Nat.pow_succ]; have e : 2 ^ KK = QQ := rfl
  rw [e]; generalize QQ = q; omega⟩
theorem num_lo16 : Numb Ieee.double 14069741636278059008 true (10000000000000000 * QQ) := ⟨_, _, rd_lo16, by omega, by
  rw [show ((1 : Int) + KK).toNat = KK + 1 by omega, Nat.pow_succ]; have e : 2 ^ KK = QQ := rfl
  rw [e]; generalize QQ = q; omega⟩
theorem d_zero : ordB .neq (FloatKind.f64.format.order 0 0) = false := by decide +kernel
theorem isWholeN_p  : PC Tryz.prog 194 [.nan .f64] (.v (.bool (false))) := by
 refine pc_of_awp Tryz.func194 rfl Tryz.ntmps194 (rs := [.tmp 2]) Tryz.results194 (by simp) fun w0 => ?_
 refine awp_seq ?_
 refine xa 1 ?_
 refine rg_q (q_a rfl) ?_
 refine rs (awp_seq ?_)
 refine xa 9 ?_
 refine rg_q (q_move (x := .d (.nan _)) rfl) (rg_q (q_move (x := .d (.nan _)) rfl) ?_)
 refine rg_q (q_fcmpNN (by decide) rfl rfl rfl) ?_
 refine rg_q (q_m rfl) ?_
 refine rg_g rfl rfl (fun hG => (q_move (x := .d (.nan _)) rfl)) ?_
 refine rg_g rfl rfl (fun hG => (q_move (x := .d (.nan _)) rfl)) ?_
 refine rg_g rfl rfl (fun hG => (q_farNN rfl rfl rfl)) ?_
 refine rg_g rfl rfl (fun hG => (q_fcmpN (by decide) rfl rfl rfl)) ?_
 refine rg_pick rfl rfl rfl rfl rfl rfl ?_
 refine xc (awp_cond rfl (fun hc1 => ?_) (fun hc1 => ?_))
 ·
  (try simp only [nb, ne_eq] at hc1)
  refine awp_seq ?_
  refine xa 1 ?_
  refine rg_q (q_a rfl) ?_
  refine xc (awp_ret ?_)
  refine ⟨_, xk1, ?_⟩
  rfl
 ·
  rw [show ordB .neq none = true from rfl] at hc1
  simp [bif_or] at hc1
theorem isWholeBad_p (b : Nat) (h : floatBits .sub .f64 b b = none) : PC Tryz.prog 194 [.v (.float .f64 b)] (.v (.bool (false))) := by
 refine pc_of_awp Tryz.func194 rfl Tryz.ntmps194 (rs := [.tmp 2]) Tryz.results194 (by simp) fun w0 => ?_
 refine awp_seq ?_
 refine xa 1 ?_
 refine rg_q (q_a rfl) ?_
 refine rs (awp_seq ?_)
 refine xa 9 ?_
 refine rg_q (q_m rfl) (rg_q (q_m rfl) ?_)
 refine rg_q (q_fcmp (by decide) rfl rfl rfl) ?_
 refine rg_q (q_m rfl) ?_
 refine rg_g rfl rfl (fun hG => (q_m rfl)) ?_
 refine rg_g rfl rfl (fun hG => (q_m rfl)) ?_
 refine rg_g rfl rfl (fun hG => (q_farN (by decide) rfl rfl h)) ?_
 refine rg_g rfl rfl (fun hG => (q_fcmpN (by decide) rfl rfl rfl)) ?_
 refine rg_pick rfl rfl rfl rfl rfl rfl ?_
 refine xc (awp_cond rfl (fun hc1 => ?_) (fun hc1 => ?_))
 ·
  (try simp only [nb, ne_eq] at hc1)
  refine awp_seq ?_
  refine xa 1 ?_
  refine rg_q (q_a rfl) ?_
  refine xc (awp_ret ?_)
  refine ⟨_, xk1, ?_⟩
  rfl
 ·
  rw [show ordB .neq none = true from rfl] at hc1
  simp [bif_or] at hc1
theorem isWholeNum_p (b : Nat) (c1 c2 c3 : Bool) (n : Int) (hs : floatBits .sub .f64 b b = some 0) (h0 : ordB .neq (FloatKind.f64.format.order b b) = false) (h1 : ordB .geq (FloatKind.f64.format.order b 14069741636278059008) = c1) (h2 : ordB .leq (FloatKind.f64.format.order b 4846369599423283200) = c2) (h3 : (c1 && c2) = true → floatToIntVal .f64 b .i64 = some n ∧ ordB .eql (FloatKind.f64.format.order (FloatKind.f64.nearest n) b) = c3) : PC Tryz.prog 194 [.v (.float .f64 b)] (.v (.bool (if (c1 && c2) = true then c3 else true))) := by
 refine pc_of_awp Tryz.func194 rfl Tryz.ntmps194 (rs := [.tmp 2]) Tryz.results194 (by simp) fun w0 => ?_
 refine awp_seq ?_
 refine xa 1 ?_
 refine rg_q (q_a rfl) ?_
 refine rs (awp_seq ?_)
 refine xa 9 ?_
 refine rg_q (q_m rfl) (rg_q (q_m rfl) ?_)
 refine rg_q (q_fcmp (by decide) rfl rfl h0) ?_
 refine rg_q (q_m rfl) ?_
 refine rg_g rfl rfl (fun hG => (q_m rfl)) ?_
 refine rg_g rfl rfl (fun hG => (q_m rfl)) ?_
 refine rg_g rfl rfl (fun hG => (q_fbin (by decide) rfl rfl hs)) ?_
 refine rg_g rfl rfl (fun hG => (q_fcmp (by decide) rfl rfl d_zero)) ?_
 refine rg_pick rfl rfl rfl rfl rfl rfl ?_
 refine xc (awp_cond rfl (fun hc1 => ?_) (fun hc1 => ?_))
 ·
  cases hc1
 ·
  (try simp only [nb, ne_eq] at hc1)
  refine awp_skip ?_
  change Awp _ _ _ _ _
  refine awp_seq ?_
  refine awp_seq ?_
  refine xa 7 ?_
  refine rg_q (q_m rfl) ?_
  refine rg_q (q_fcmp (by decide) rfl rfl h1) ?_
  refine rg_q (q_m rfl) ?_
  refine rg_g rfl rfl (fun hG => (q_m rfl)) ?_
  refine rg_g rfl rfl (fun hG => (q_fcmp (by decide) rfl rfl h2)) ?_
  refine rg_pick rfl rfl rfl rfl rfl rfl ?_
  refine rg_q (q_not rfl) ?_
  refine xc (awp_cond rfl (fun hc3 => ?_) (fun hc3 => ?_))
  ·
   (try simp only [nb, ne_eq] at hc3)
   have hq : ¬ (c1 && c2) = true := by rcases hc3 with q | q <;> simp [q]
   rw [if_neg hq]
   refine awp_seq ?_
   refine xa 1 ?_
   refine rg_q (q_a rfl) ?_
   refine xc (awp_ret ?_)
   refine ⟨_, xk1, ?_⟩
   rfl
  ·
   (try simp only [nb, ne_eq] at hc3)
   have hq : (c1 && c2) = true := by simpa using hc3
   obtain ⟨hi, hb⟩ := h3 hq
   rw [if_pos hq]
   refine awp_skip ?_
   change Awp _ _ _ _ _
   refine awp_seq ?_
   refine xa 6 ?_
   refine rg_q (q_m rfl) ?_
   refine rg_q (q_convfi flt167 int3 rfl hi) ?_
   refine rg_q (q_convf int3 flt167 rfl) ?_
   refine rg_q (q_m rfl) ?_
   refine rg_q (q_fcmp (by decide) rfl rfl hb) ?_
   refine rg_q (q_a rfl) ?_
   refine xc (awp_ret ?_)
   refine ⟨_, xk1, ?_⟩
   rfl

theorem sg_in {s : Bool} {M : Nat} (K : Nat) : (decide (sgI true K ≤ sgI s M) && decide (sgI s M ≤ sgI false K)) = decide (M ≤ K) := by
  rw [← Bool.decide_and]
  refine decide_eq_decide.2 ?_
  unfold sgI
  cases s <;> simp <;> omega
theorem isWhole_p (b : Nat) : PC Tryz.prog 194 [.v (.float .f64 b)] (.v (.bool (whD b))) := by
  cases hr : Ieee.double.read b with
  | nan s t =>
    have e : whD b = false := by unfold whD; rw [hr]
    rw [e]
    exact isWholeBad_p b (show Ieee.double.sub b b = none by unfold Ieee.Format.sub; rw [hr]; rfl)
  | infinity s =>
    have e : whD b = false := by unfold whD; rw [hr]
    rw [e]
    exact isWholeBad_p b (sub_inf hr)
  | number s m e =>
    obtain ⟨M, hM⟩ : ∃ M, m * 2 ^ (e + KK).toNat = M := ⟨_, rfl⟩
    have hn := num_of fmD LD hr
    rw [hM] at hn
    have e : whD b = decide (M % QQ = 0) := by unfold whD; rw [hr]; simp only [hM]
    rw [e]
    have h := isWholeNum_p b _ _ (decide (M % QQ = 0)) (sgI s (M / QQ)) (sub_num hn) (ob_self hn) (ob_geq hn num_lo16) (ob_leq hn num_hi16) (fun q => ?_)
    · rw [sg_in] at h
      by_cases h1 : M ≤ 10000000000000000 * QQ
      · rw [if_pos (decide_eq_true h1)] at h; exact h
      · rw [if_neg (by rw [decide_eq_false h1]; decide)] at h
        have : M % QQ = 0 := big_whole fmD hr hM (by
          have := QQ_pos
          have e : 2 ^ (52 + 1) * QQ ≤ 10000000000000000 * QQ := Nat.mul_le_mul_right _ (by decide)
          omega)
        rw [decide_eq_true this]; exact h
    · rw [sg_in, decide_eq_true_eq] at q
      have h2 : M / QQ ≤ 10000000000000000 := Nat.div_le_of_le_mul (by rw [Nat.mul_comm]; exact q)
      refine ⟨int_num (k := .f64) hn (by omega), back_ord fmD LD hr hM⟩

theorem num_2047 : Numb Ieee.single 1157619712 false (2047 * QQ) := by
  have h := num_wd fmS LS (a := 2047) (by decide)
  rw [show wd Ieee.single 2047 = 1157619712 by decide +kernel, show decide ((2047 : Int) < 0) = false from rfl, show (2047 : Int).natAbs = 2047 from rfl] at h
  exact h
theorem num_m2047 : Numb Ieee.single 3305103360 true (2047 * QQ) := by
  have h := num_wd fmS LS (a := -2047) (by decide)
  rw [show wd Ieee.single (-2047) = 3305103360 by decide +kernel, show decide ((-2047 : Int) < 0) = true from rfl, show (-2047 : Int).natAbs = 2047 from rfl] at h
  exact h
end Go.Proofs.YtamaocfjknpadaaGreat.Am.M
-- mini
set_option maxRecDepth 100000
namespace Go.Proofs.YtamaocfjknpadaaGreat.Am.M
open Go

def ssE : Nat → List Nat → Int × Int
  | _, [] => (0, 0)
  | i, b :: r => if sE b ≠ 0 then ((i : Int), sE b) else ssE (i + 1) r
theorem ssE_at {l : List Nat} {k : Nat} {x : Nat} (hx : l[k]? = some x) : ssE k (l.drop k) = if sE x ≠ 0 then ((k : Int), sE x) else ssE (k + 1) (l.drop (k + 1)) := by
  obtain ⟨hlt, rfl⟩ := List.getElem?_eq_some_iff.1 hx
  rw [List.drop_eq_getElem_cons hlt]; rfl
theorem ssE_ok : ∀ {l : List Nat} {i : Nat}, (ssE i l).2 = 0 → ∀ b ∈ l, sE b = 0
  | [], _, _, p, hp => by cases hp
  | q :: l, i, h, p, hp => by
    unfold ssE at h
    by_cases h1 : sE q ≠ 0
    · rw [if_pos h1] at h; exact absurd h h1
    · rw [if_neg h1] at h
      rcases List.mem_cons.1 hp with rfl | hp
      · exact Decidable.not_not.1 h1
      · exact ssE_ok h p hp
def ckM (ne : Int) (l : List Nat) : Int × Int := if inR 1 ne 16 = true then (if (l.length : Int) ≠ ne * ne * 64 then (0, 10) else ssE 0 l) else (0, 2)
def ckT (t : Tsk) : Int × Int :=
  if (ckArr t.ar).2 ≠ 0 then ckArr t.ar
  else if (ckM t.ne t.bf).2 ≠ 0 then (0, (ckM t.ne t.bf).2)
  else if (t.ar.el.length : Int) ≠ t.ne then (0, 13)
  else if ckG t.g ≠ 0 then (0, ckG t.g)
  else (0, whenI (!inR 1 t.g.fz (t.ar.ou.t - 1) || !inR 1 (spI t.g (t.g.co * t.g.ro - 1)).2 (t.ar.ou.t - 1)) 22)
theorem f32_num {b : Nat} {s : Bool} {m : Nat} {e : Int} (hr : Ieee.single.read b = .number s m e) (h0 : sEM (m * 2 ^ (e + KK).toNat) = 0) : Whl b (sgI s (m * 2 ^ (e + KK).toNat / QQ)) := by
  obtain ⟨M, hM⟩ : ∃ M, m * 2 ^ (e + KK).toNat = M := ⟨_, rfl⟩
  have hn := num_of fmS LS hr
  rw [hM] at hn h0 ⊢
  unfold sEM at h0
  by_cases h1 : 16777216 * QQ ≤ M
  · rw [if_pos h1] at h0; cases h0
  rw [if_neg h1] at h0
  by_cases h2 : M % QQ ≠ 0
  · rw [if_pos h2] at h0; cases h0
  rw [if_neg h2] at h0
  by_cases h3 : 2047 * QQ < M
  · rw [if_pos h3] at h0; cases h0
  have hq : M / QQ ≤ 2047 := Nat.div_le_of_le_mul (by rw [Nat.mul_comm]; omega)
  obtain ⟨h4, h5⟩ := sg_le (s := s) _ h1
  obtain ⟨h6, h7⟩ := (in_M (s := s) 2047).2 hq
  refine ⟨h6, h7, ob_self hn, sub_num hn, (ob_geq hn num_hi).trans h4, (ob_leq hn num_lo).trans h5, int_num (k := .f32) hn (by omega), ?_⟩
  have := neq_back fmS LS hr hM
  rw [decide_eq_true (Decidable.not_not.1 h2)] at this
  exact this
theorem sE_whl {b : Nat} (h : sE b = 0) : Whl b (vI b) := by
  unfold sE at h
  cases hr : Ieee.single.read b with
  | nan s t => rw [hr] at h; cases h
  | infinity s => rw [hr] at h; cases h
  | number s m e =>
    rw [hr] at h
    have := f32_num hr h
    rw [this.v]; exact this
theorem ckM_ok {ne : Int} {l : List Nat} (h : (ckM ne l).2 = 0) : 1 ≤ ne ∧ ne ≤ 16 ∧ (l.length : Int) = ne * ne * 64 ∧ WhlL l := by
  unfold ckM at h
  by_cases h1 : inR 1 ne 16 = true
  · rw [if_pos h1] at h
    by_cases h2 : (l.length : Int) ≠ ne * ne * 64
    · rw [if_pos h2] at h; cases h
    · rw [if_neg h2] at h
      obtain ⟨a, b⟩ := inR_iff.1 h1
      exact ⟨a, b, Decidable.not_not.1 h2, fun x hx => sE_whl (ssE_ok h x hx)⟩
  · rw [if_neg h1] at h; cases h
theorem ckT_ok {t : Tsk} (h : (ckT t).2 = 0) : TskOk t := by
  unfold ckT at h
  by_cases h1 : (ckArr t.ar).2 ≠ 0
  · rw [if_pos h1] at h; exact absurd h h1
  rw [if_neg h1] at h
  by_cases h2 : (ckM t.ne t.bf).2 ≠ 0
  · rw [if_pos h2] at h; exact absurd h h2
  rw [if_neg h2] at h
  by_cases h3 : (t.ar.el.length : Int) ≠ t.ne
  · rw [if_pos h3] at h; cases h
  rw [if_neg h3] at h
  by_cases h4 : ckG t.g ≠ 0
  · rw [if_pos h4] at h; exact absurd h h4
  rw [if_neg h4] at h
  simp only at h
  rw [when_zero (by decide), Bool.or_eq_false_iff, Bool.not_eq_false', Bool.not_eq_false'] at h
  obtain ⟨a1, a2, a3, a4⟩ := ckM_ok (Decidable.not_not.1 h2)
  obtain ⟨b1, b2⟩ := inR_iff.1 h.1
  obtain ⟨b3, b4⟩ := inR_iff.1 h.2
  exact ⟨Decidable.not_not.1 h1, a1, a2, a3, a4, Decidable.not_not.1 h3, Decidable.not_not.1 h4, b1, b2, b3, b4⟩
theorem tsamples5_p (l : List Nat) : PC Tryz.prog 165 [.sl 1 (l.map fC)] (.tup [.v (.int .i64 ((ssE 0 l).1)), .v (.int .i64 ((ssE 0 l).2))]) := by
 refine pc_of_awp Tryz.func165 rfl Tryz.ntmps165 (rs := [.tmp 2, .tmp 3]) Tryz.results165 (by simp) fun w0 => ?_
 refine awp_seq ?_
 refine xa 2 ?_
 refine rg_q (q_a rfl) (rg_q (q_a rfl) ?_)
 refine rs (awp_seq ?_)
 refine xa 3 ?_
 refine rg_q (q_move (x := .d (.sl _ _)) rfl) ?_
 refine rg_q (q_len isl29 rfl (by exact len_map _ _)) ?_
 refine rg_q (q_m rfl) ?_
 refine xc (awp_len (t := 7) rfl (fun hl7 => ?_))
 (try simp only [List.length_map] at hl7)
 refine awp_block ?_
 refine awp_loopH [2, 3, 4, 5, 6, 9, 10, 11, 12, 13, 14, 15, 16, 17, 18, 19, 20] [] (α := Nat) (fun k => [(9, T.i (k : Int))]) (fun k => []) (fun k => k ≤ l.length ∧ ssE 0 l = ssE k (l.drop k)) (fun k => l.length - k) 0 ⟨Nat.zero_le _, rfl⟩ ?_ ?_
 · exact xh (ms := []) (by repeat (exact Out.refl _)) ⟨(by rfl), trivial⟩ trivial
 ·
  intro k ⟨hk, hf⟩
  refine awp_seq ?_
  refine xa 1 ?_
  refine rg_q (q_lss rfl rfl) ?_
  refine rs (awp_cond rfl (fun hc2 => ?_) (fun hc2 => ?_))
  ·
   (try simp only [nb, ne_eq] at hc2)
   have hlt : k < l.length := by omega
   obtain ⟨x, hx⟩ : ∃ x, l[k]? = some x := ⟨_, List.getElem?_eq_getElem hlt⟩
   have hd := ssE_at hx
   refine awp_skip ?_
   change Awp _ _ _ _ _
   refine awp_seq ?_
   refine awp_block ?_
   refine awp_seq ?_
   refine xa 5 ?_
   refine rg_q (q_m rfl) ?_
   refine rg_q (q_indexAddr sl29 rfl rfl (by omega) (map_at (by omega) hx)) ?_
   refine rg_q (q_load sz117 rfl rfl) (rg_q (q_a rfl) (rg_q (q_a rfl) ?_))
   refine rs (xa 3 ?_)
   refine rg_q (q_m rfl) ?_
   refine rg_q (q_call en234 (.cons rfl .nil) rfl (tsampleErr5_p _)) ?_
   refine rg_q (q_a rfl) ?_
   refine rs (xa 2 ?_)
   refine rg_q (q_m rfl) (rg_q (q_neq rfl rfl) ?_)
   refine xc (awp_cond rfl (fun hc5 => ?_) (fun hc5 => ?_))
   ·
    (try simp only [nb, ne_eq] at hc5)
    have hb : sE x ≠ 0 := hc5
    have hz : ssE 0 l = ((k : Int), sE x) := by rw [hf, hd, if_pos hb]
    rw [hz]
    refine awp_seq ?_
    refine xa 4 ?_
    refine rg_q (q_m rfl) (rg_q (q_m rfl) (rg_q (q_a rfl) (rg_q (q_a rfl) ?_)))
    refine xc (awp_ret ?_)
    refine ⟨_, xk2, ?_⟩
    rfl
   ·
    (try simp only [nb, ne_eq] at hc5)
    have hb : sE x = 0 := hc5
    refine awp_skip ?_
    change Awp _ _ _ _ _
    refine xa 2 ?_
    refine rg_q (q_add rfl rfl xi) ?_
    refine rg_q (q_m rfl) ?_
    refine rn ?_
    refine ⟨k + 1, ⟨by omega, by rw [hf, hd, if_neg (by rw [hb]; simp)]⟩, by omega, ?_⟩
    exact xh (ms := []) (by repeat (first | exact Out.head rfl rfl | (refine Out.put ?_ rfl))) ⟨(by rfl), trivial⟩ trivial
  ·
   (try simp only [nb, ne_eq] at hc2)
   have hk0 : ssE 0 l = (0, 0) := by rw [hf, List.drop_of_length_le (by omega)]; rfl
   rw [hk0]
   refine awp_exit ?_
   change Awp _ _ _ _ _
   refine awp_seq ?_
   refine xa 2 ?_
   refine rg_q (q_a rfl) (rg_q (q_a rfl) ?_)
   refine xc (awp_ret ?_)
   refine ⟨_, xk2, ?_⟩
   rfl
theorem checkMatrix5_p (ne : Int) (l : List Nat) : PC Tryz.prog 86 [.agg [.v (.int .i64 (ne)), .sl 1 (l.map fC)]] (.tup [.v (.int .i64 ((ckM ne l).1)), .v (.int .i64 ((ckM ne l).2))]) := by
 have hu : ckM ne l = if inR 1 ne 16 = true then (if (l.length : Int) ≠ ne * ne * 64 then (0, 10) else ssE 0 l) else (0, 2) := rfl
 refine pc_of_awp Tryz.func86 rfl Tryz.ntmps86 (rs := [.tmp 2, .tmp 3]) Tryz.results86 (by simp) fun w0 => ?_
 refine awp_seq ?_
 refine xa 3 ?_
 refine rg_q (q_box rfl (by exact .inr ⟨_, rfl⟩)) ?_
 refine rg_q (q_a rfl) (rg_q (q_a rfl) ?_)
 refine rs (awp_block ?_)
 refine awp_seq ?_
 refine xa 5 ?_
 refine rg_q (q_fieldAddr fld31_0 rfl) (rg_q (q_load sz3 rfl rfl) ?_)
 refine rg_q (q_call en155 (.cons rfl (.cons rfl (.cons rfl .nil))) rfl (twithin_p _ _ _)) ?_
 refine rg_q (q_not rfl) (rg_q (q_a rfl) ?_)
 refine xc (awp_cond rfl (fun hc1 => ?_) (fun hc1 => ?_))
 ·
  (try simp only [nb, ne_eq] at hc1)
  rw [if_neg (by simpa using hc1)] at hu
  rw [hu]
  refine awp_seq ?_
  refine xa 2 ?_
  refine rg_q (q_a rfl) (rg_q (q_a rfl) ?_)
  refine xc (awp_ret ?_)
  refine ⟨_, xk2, ?_⟩
  rfl
 ·
  (try simp only [nb, ne_eq] at hc1)
  have hr1 : inR 1 ne 16 = true := by simpa using hc1
  rw [if_pos hr1] at hu
  obtain ⟨hn1, hn2⟩ := inR_iff.1 hr1
  have hm := mulb (a := ne) (b := ne) (A := 16) (B := 16) (by omega) (by omega) (by omega) (by omega)
  refine awp_seq ?_
  refine xa 11 ?_
  refine rg_q (q_fieldAddr fld31_1 rfl) (rg_q (q_load sz29 rfl rfl) ?_)
  refine rg_q (q_len isl29 rfl (by exact len_map _ _)) ?_
  refine rg_q (q_fieldAddr fld31_0 rfl) (rg_q (q_load sz3 rfl rfl) (rg_q (q_fieldAddr fld31_0 rfl) (rg_q (q_load sz3 rfl rfl) ?_)))
  refine rg_q (q_mul rfl rfl xi) ?_
  refine rg_q (q_mul rfl rfl xi) ?_
  refine rg_q (q_neq rfl rfl) (rg_q (q_a rfl) ?_)
  refine xc (awp_len (t := 11) rfl (fun hl11 => ?_))
  (try simp only [List.length_map] at hl11)
  refine awp_cond rfl (fun hc3 => ?_) (fun hc3 => ?_)
  ·
   (try simp only [nb, ne_eq] at hc3)
   rw [if_pos (by simpa using hc3)] at hu
   rw [hu]
   refine awp_seq ?_
   refine xa 2 ?_
   refine rg_q (q_a rfl) (rg_q (q_a rfl) ?_)
   refine xc (awp_ret ?_)
   refine ⟨_, xk2, ?_⟩
   rfl
  ·
   (try simp only [nb, ne_eq] at hc3)
   rw [if_neg (by simpa using hc3)] at hu
   rw [hu]
   refine awp_skip ?_
   change Awp _ _ _ _ _
   refine awp_seq ?_
   refine xa 7 ?_
   refine rg_q (q_fieldAddr fld31_1 rfl) (rg_q (q_load sz29 rfl rfl) ?_)
   refine rg_q (q_call en165 (.cons rfl .nil) rfl (tsamples5_p l)) ?_
   refine rg_q (q_extract rfl rfl) (rg_q (q_extract rfl rfl) (rg_q (q_a rfl) (rg_q (q_a rfl) ?_)))
   refine xc (awp_ret ?_)
   refine ⟨_, xk2, ?_⟩
   rfl
theorem checkTask5_p (t : Tsk) : PC Tryz.prog 20 [.agg (tskC t)] (.tup [.v (.int .i64 ((ckT t).1)), .v (.int .i64 ((ckT t).2))]) := by
 have hu : ckT t = if (ckArr t.ar).2 ≠ 0 then ckArr t.ar
  else if (ckM t.ne t.bf).2 ≠ 0 then (0, (ckM t.ne t.bf).2)
  else if (t.ar.el.length : Int) ≠ t.ne then (0, 13)
  else if ckG t.g ≠ 0 then (0, ckG t.g)
  else (0, whenI (!inR 1 t.g.fz (t.ar.ou.t - 1) || !inR 1 (spI t.g (t.g.co * t.g.ro - 1)).2 (t.ar.ou.t - 1)) 22) := rfl
 refine pc_of_awpN Tryz.func20 rfl Tryz.ntmps20 (rs := [.tmp 2, .tmp 3]) Tryz.results20 (by simp) fun w0 hmine hrnd hpn => ?_
 refine awp_seq ?_
 refine xa 3 ?_
 refine rg_q (q_box rfl (by exact .inr ⟨_, rfl⟩)) ?_
 refine rg_q (q_a rfl) (rg_q (q_a rfl) ?_)
 refine rs (awp_seq ?_)
 refine xa 8 ?_
 refine rg_q (q_fieldAddr fld37_0 rfl) ?_
 refine rg_q (q_loadA (ds := [_, _, _, _, _, _, _, _, _, _, _]) sz28 rfl rfl rfl) ?_
 refine rg_q (q_call en85 (.cons rfl .nil) rfl (checkArray_p t.ar)) ?_
 refine rg_q (q_move (x := .d (.tup _)) rfl) (rg_q (q_extract rfl rfl) (rg_q (q_extract rfl rfl) (rg_q (q_a rfl) (rg_q (q_a rfl) ?_))))
 refine rs (xa 2 ?_)
 refine rg_q (q_m rfl) (rg_q (q_neq rfl rfl) ?_)
 refine xc (awp_cond rfl (fun hc2 => ?_) (fun hc2 => ?_))
 ·
  (try simp only [nb, ne_eq] at hc2)
  have h1 : (ckArr t.ar).2 ≠ 0 := hc2
  rw [if_pos h1] at hu
  rw [hu]
  refine awp_seq ?_
  refine xa 4 ?_
  refine rg_q (q_m rfl) (rg_q (q_m rfl) (rg_q (q_a rfl) (rg_q (q_a rfl) ?_)))
  refine xc (awp_ret ?_)
  refine ⟨_, xk2, ?_⟩
  rfl
 ·
  (try simp only [nb, ne_eq] at hc2)
  have h1 : ¬ (ckArr t.ar).2 ≠ 0 := fun q => q hc2
  rw [if_neg h1] at hu
  refine awp_skip ?_
  change Awp _ _ _ _ _
  refine awp_seq ?_
  refine awp_seq ?_
  refine xa 8 ?_
  refine rg_q (q_fieldAddr fld37_1 rfl) ?_
  refine rg_q (q_loadA (ds := [_, _]) sz31 rfl rfl rfl) ?_
  refine rg_q (q_call en86 (.cons rfl .nil) rfl (checkMatrix5_p t.ne t.bf)) ?_
  refine rg_q (q_move (x := .d (.tup _)) rfl) (rg_q (q_extract rfl rfl) (rg_q (q_extract rfl rfl) (rg_q (q_a rfl) (rg_q (q_a rfl) ?_))))
  refine rs (xa 2 ?_)
  refine rg_q (q_m rfl) (rg_q (q_neq rfl rfl) ?_)
  refine xc (awp_cond rfl (fun hc5 => ?_) (fun hc5 => ?_))
  ·
   (try simp only [nb, ne_eq] at hc5)
   have h2 : (ckM t.ne t.bf).2 ≠ 0 := hc5
   rw [if_pos h2] at hu
   rw [hu]
   refine awp_seq ?_
   refine xa 3 ?_
   refine rg_q (q_m rfl) (rg_q (q_a rfl) (rg_q (q_a rfl) ?_))
   refine xc (awp_ret ?_)
   refine ⟨_, xk2, ?_⟩
   rfl
  ·
   (try simp only [nb, ne_eq] at hc5)
   have h2 : ¬ (ckM t.ne t.bf).2 ≠ 0 := fun q => q hc5
   rw [if_neg h2] at hu
   refine awp_skip ?_
   change Awp _ _ _ _ _
   refine awp_seq ?_
   refine awp_seq ?_
   refine xa 8 ?_
   refine rg_q (q_fieldAddr fld37_0 rfl) (rg_q (q_fieldAddr fld28_0 rfl) (rg_q (q_load sz22 rfl rfl) ?_))
   refine rg_q (q_len isl22 rfl (by exact len_map _ _)) ?_
   refine rg_q (q_fieldAddr fld37_1 rfl) (rg_q (q_fieldAddr fld31_0 rfl) (rg_q (q_load sz3 rfl rfl) (rg_q (q_neq rfl rfl) ?_)))
   refine xc (awp_len (t := 32) rfl (fun hl32 => ?_))
   (try simp only [List.length_map] at hl32)
   refine awp_cond rfl (fun hc7 => ?_) (fun hc7 => ?_)
   ·
    (try simp only [nb, ne_eq] at hc7)
    have h3 : (t.ar.el.length : Int) ≠ t.ne := by simpa using hc7
    rw [if_pos h3] at hu
    rw [hu]
    refine awp_seq ?_
    refine xa 2 ?_
    refine rg_q (q_a rfl) (rg_q (q_a rfl) ?_)
    refine xc (awp_ret ?_)
    refine ⟨_, xk2, ?_⟩
    rfl
   ·
    (try simp only [nb, ne_eq] at hc7)
    have h3 : ¬ (t.ar.el.length : Int) ≠ t.ne := by simpa using hc7
    rw [if_neg h3] at hu
    refine awp_skip ?_
    change Awp _ _ _ _ _
    refine awp_seq ?_
    refine awp_seq ?_
    refine xa 4 ?_
    refine rg_q (q_fieldAddr fld37_2 rfl) ?_
    refine rg_q (q_loadA (ds := [_, _, _, _, _]) sz35 rfl rfl rfl) ?_
    refine rg_q (q_call en87 (.cons rfl .nil) rfl (fcheckGrid_p t.g)) ?_
    refine rg_q (q_a rfl) ?_
    refine rs (xa 2 ?_)
    refine rg_q (q_m rfl) (rg_q (q_neq rfl rfl) ?_)
    refine xc (awp_cond rfl (fun hc10 => ?_) (fun hc10 => ?_))
    ·
     (try simp only [nb, ne_eq] at hc10)
     have h4 : ckG t.g ≠ 0 := hc10
     rw [if_pos h4] at hu
     rw [hu]
     refine awp_seq ?_
     refine xa 3 ?_
     refine rg_q (q_m rfl) (rg_q (q_a rfl) (rg_q (q_a rfl) ?_))
     refine xc (awp_ret ?_)
     refine ⟨_, xk2, ?_⟩
     rfl
    ·
     (try simp only [nb, ne_eq] at hc10)
     have h4 : ¬ ckG t.g ≠ 0 := fun q => q hc10
     rw [if_neg h4] at hu
     obtain ⟨hao, _⟩ := ckArr_ok (Decidable.not_not.1 h1)
     have ht1 := hao.ou.t1
     have ht2 := hao.ou.t2
     obtain ⟨hg, hg1, hg2⟩ := ckG_ok (Decidable.not_not.1 h4)
     have hci := cells_in hg
     refine awp_skip ?_
     change Awp _ _ _ _ _
     refine awp_seq ?_
     refine xa 3 ?_
     refine rg_q (q_fieldAddr fld37_2 rfl) ?_
     refine rg_q (q_loadA (ds := [_, _, _, _, _]) sz35 rfl rfl rfl) ?_
     refine rg_q (q_build (cs := [_, _, _, _, _]) pl150 zr150 rfl (.cons rfl (by exact .inr ⟨_, rfl⟩) .nil) ⟨⟨rfl, by decide⟩, trivial⟩ rfl) ?_
     refine rg_nil ?_
     refine aops_allocD zr150 rfl sz150 rfl rfl (by exact .inr ⟨_, rfl⟩) rfl rfl ?_
     refine aops_nil (xq (xa 5 ?_))
     refine rg_q (q_fieldAddr fld37_0 rfl) (rg_q (q_fieldAddr fld28_1 rfl) (rg_q (q_fieldAddr fld24_3 rfl) (rg_q (q_load sz3 rfl rfl) (rg_q (q_a rfl) ?_))))
     refine rs (xa 23 ?_)
     refine rg_q (q_fieldAddr fld37_2 rfl) (rg_q (q_fieldAddr fld35_0 rfl) (rg_q (q_fieldAddr fld33_1 rfl) (rg_q (q_load sz3 rfl rfl) (rg_q (q_m rfl) ?_))))
     refine rg_q (q_sub rfl rfl xi) ?_
     refine rg_q (q_call en89 (.cons rfl (.cons rfl (.cons rfl .nil))) rfl (fwithin_p _ _ _)) ?_
     refine rg_q (q_not rfl) (rg_q (q_m rfl) ?_)
     refine rg_g rfl rfl (fun hG => (q_loadA (ds := [_, _, _, _, _]) sz150 rfl rfl rfl)) ?_
     refine rg_g rfl rfl (fun hG => (q_loadA (ds := [_, _, _, _, _]) sz150 rfl rfl rfl)) ?_
     refine rg_g rfl rfl (fun hG => (q_call en91 (.cons rfl .nil) rfl (fcells_p _ (by assumption)))) ?_
     refine rg_g rfl rfl (fun hG => (q_sub rfl rfl (In64.mk (by (have hg0 := T.bool_inj (a := _) hG.1; (try simp only [nb, ne_eq] at hg0); omega)) (by (have hg0 := T.bool_inj (a := _) hG.1; (try simp only [nb, ne_eq] at hg0); omega))))) ?_
     refine rg_g rfl rfl (fun hG => (q_call en90 (.cons rfl (.cons rfl .nil)) rfl (fspot_p _ _ (by assumption) (by omega) (by omega)))) ?_
     refine rg_g rfl rfl (fun hG => (q_field fd33_1 sz3 rfl rfl)) ?_
     refine rg_g rfl rfl (fun hG => (q_m rfl)) ?_
     refine rg_g rfl rfl (fun hG => (q_sub rfl rfl (In64.mk (by (have hg0 := T.bool_inj (a := _) hG.1; (try simp only [nb, ne_eq] at hg0); omega)) (by (have hg0 := T.bool_inj (a := _) hG.1; (try simp only [nb, ne_eq] at hg0); omega))))) ?_
     refine rg_g rfl rfl (fun hG => (q_call en89 (.cons rfl (.cons rfl (.cons rfl .nil))) rfl (fwithin_p _ _ _))) ?_
     refine rg_g rfl rfl (fun hG => (q_not rfl)) ?_
     refine rg_pick rfl rfl rfl rfl rfl rfl ?_
     refine rg_q (q_call en88 (.cons rfl (.cons rfl .nil)) rfl (fwhen_p _ _)) ?_
     refine rg_q (q_a rfl) (rg_q (q_a rfl) ?_)
     refine xc (awp_ret ?_)
     refine ⟨_, xk2, ?_⟩
     rw [hu]; (try simp only [bif_or]); rfl
end Go.Proofs.YtamaocfjknpadaaGreat.Am.M
-- mini
set_option maxRecDepth 100000
namespace Go.Proofs.YtamaocfjknpadaaGreat.Am.M
open Go

theorem lt_q {M Q : Nat} (hQ : 0 < Q) (h : 16777216 * Q ≤ M) : 2047 * Q < M := by omega
theorem nan_of {b : Nat} {s : Bool} {t : Nat} (h : Ieee.single.read b = .nan s t) : (FloatKind.f32.decode b).isNaN = true := by
  have e : FloatKind.f32.decode b = Ieee.single.read b := rfl
  rw [e, h]; rfl
theorem rsampleN_p (b : Nat) (h : (FloatKind.f32.decode b).isNaN = true) : PC Tryz.prog 235 [fd b] (.v (.int .i64 (25))) := by
 refine pc_of_awp Tryz.func235 rfl Tryz.ntmps235 (rs := [.tmp 2]) Tryz.results235 (by simp) fun w0 => ?_
 refine awp_seq ?_
 refine xa 1 ?_
 refine rg_q (q_a rfl) ?_
 refine rs (awp_seq ?_)
 refine xa 4 ?_
 refine rg_q (q_m rfl) ?_
 refine rg_q (q_convffN flt117 flt167 (by decide) rfl h) ?_
 refine rg_q (q_call en194 (.cons rfl .nil) rfl (isWholeN_p)) ?_
 refine rg_q (q_not rfl) ?_
 refine xc (awp_cond rfl (fun hc1 => ?_) (fun hc1 => ?_))
 ·
  (try simp only [nb, ne_eq] at hc1)
  refine awp_seq ?_
  refine xa 1 ?_
  refine rg_q (q_a rfl) ?_
  refine xc (awp_ret ?_)
  refine ⟨_, xk1, ?_⟩
  rfl
 ·
  simp at hc1
theorem rsampleB_p (b b' : Nat) (w c1 c2 : Bool) (hc : floatToFloatBits .f32 b .f64 = some b') (hw : whD b' = w) (h1 : ordB .lss (FloatKind.f32.format.order b 3305103360) = c1) (h2 : ordB .gtr (FloatKind.f32.format.order b 1157619712) = c2) : PC Tryz.prog 235 [fd b] (.v (.int .i64 (if w = true then (if (c1 || c2) = true then 2 else 0) else 25))) := by
 refine pc_of_awp Tryz.func235 rfl Tryz.ntmps235 (rs := [.tmp 2]) Tryz.results235 (by simp) fun w0 => ?_
 refine awp_seq ?_
 refine xa 1 ?_
 refine rg_q (q_a rfl) ?_
 refine rs (awp_seq ?_)
 refine xa 4 ?_
 refine rg_q (q_m rfl) ?_
 refine rg_q (q_convff flt117 flt167 rfl hc) ?_
 refine rg_q (q_call en194 (.cons rfl .nil) rfl ((by have h := isWhole_p b'; rw [hw] at h; exact h))) ?_
 refine rg_q (q_not rfl) ?_
 refine xc (awp_cond rfl (fun hc1 => ?_) (fun hc1 => ?_))
 ·
  (try simp only [nb, ne_eq] at hc1)
  rw [if_neg (by rw [hc1]; decide)]
  refine awp_seq ?_
  refine xa 1 ?_
  refine rg_q (q_a rfl) ?_
  refine xc (awp_ret ?_)
  refine ⟨_, xk1, ?_⟩
  rfl
 ·
  (try simp only [nb, ne_eq] at hc1)
  rw [if_pos hc1]
  refine awp_skip ?_
  change Awp _ _ _ _ _
  refine awp_seq ?_
  refine awp_seq ?_
  refine xa 6 ?_
  refine rg_q (q_m rfl) ?_
  refine rg_q (q_fcmp (by decide) rfl rfl h1) ?_
  refine rg_q (q_m rfl) ?_
  refine rg_g rfl rfl (fun hG => (q_m rfl)) ?_
  refine rg_g rfl rfl (fun hG => (q_fcmp (by decide) rfl rfl h2)) ?_
  refine rg_pick rfl rfl rfl rfl rfl rfl ?_
  refine xc (awp_cond rfl (fun hc3 => ?_) (fun hc3 => ?_))
  ·
   (try simp only [nb, ne_eq] at hc3)
   rw [if_pos (show (c1 || c2) = true by simpa using hc3)]
   refine awp_seq ?_
   refine xa 1 ?_
   refine rg_q (q_a rfl) ?_
   refine xc (awp_ret ?_)
   refine ⟨_, xk1, ?_⟩
   rfl
  ·
   (try simp only [nb, ne_eq] at hc3)
   rw [if_neg (show ¬ (c1 || c2) = true by simpa using hc3)]
   refine awp_skip ?_
   change Awp _ _ _ _ _
   refine awp_seq ?_
   refine xa 1 ?_
   refine rg_q (q_a rfl) ?_
   refine xc (awp_ret ?_)
   refine ⟨_, xk1, ?_⟩
   rfl

theorem out_M {s : Bool} {M : Nat} (K : Nat) : (decide (sgI s M < sgI true K) || decide (sgI false K < sgI s M)) = decide (K < M) := by
  rw [← Bool.decide_or]
  refine decide_eq_decide.2 ?_
  unfold sgI
  cases s <;> simp <;> omega
theorem rsampleErr5_p (b : Nat) : PC Tryz.prog 235 [fd b] (.v (.int .i64 (sE b))) := by
  cases hr : Ieee.single.read b with
  | nan s t =>
    have e : sE b = 25 := by unfold sE; rw [hr]
    rw [e]
    exact rsampleN_p b (nan_of hr)
  | infinity s =>
    have e : sE b = 25 := by unfold sE; rw [hr]
    rw [e]
    obtain ⟨b', h1, h2⟩ := wide_inf hr
    exact rsampleB_p b b' false _ _ h1 (by unfold whD; rw [h2]) rfl rfl
  | number s m e =>
    obtain ⟨M, hM⟩ : ∃ M, m * 2 ^ (e + KK).toNat = M := ⟨_, rfl⟩
    have hn := num_of fmS LS hr
    rw [hM] at hn
    have e1 : sE b = sEM M := by unfold sE; rw [hr]; simp only [hM]
    rw [e1]
    obtain ⟨b', h1, m', e', h2, h3⟩ := wide_num hr
    have h := rsampleB_p b b' (decide (M % QQ = 0)) _ _ h1 (by unfold whD; rw [h2]; simp only [h3, hM]) (ob_lss hn num_m2047) (ob_gtr hn num_2047)
    rw [out_M] at h
    have e2 : (if decide (M % QQ = 0) = true then (if decide (2047 * QQ < M) = true then (2 : Int) else 0) else 25) = sEM M := by
      unfold sEM
      by_cases h4 : M % QQ = 0
      · rw [if_pos (decide_eq_true h4), if_neg (c := M % QQ ≠ 0) (fun q => q h4)]
        by_cases h5 : 16777216 * QQ ≤ M
        · have h6 : decide (2047 * QQ < M) = true := by
            revert h5
            have hq := QQ_pos
            generalize QQ = q at hq ⊢
            exact fun h5 => decide_eq_true (lt_q hq h5)
          rw [if_pos h5, if_pos (show decide (2047 * QQ < M) = true from h6)]
        · rw [if_neg h5]
          by_cases h6 : 2047 * QQ < M
          · rw [if_pos (decide_eq_true h6), if_pos h6]
          · rw [if_neg (by rw [decide_eq_false h6]; decide), if_neg h6]
      · have h5 : ¬ 16777216 * QQ ≤ M := fun q => h4 (big_whole fmS hr hM (Nat.le_trans (Nat.mul_le_mul_right QQ (show 2 ^ (23 + 1) ≤ 16777216 by decide)) q))
        rw [if_neg (by rw [decide_eq_false h4]; decide), if_neg h5, if_pos (c := M % QQ ≠ 0) h4]
    rw [e2] at h
    exact h
theorem rsamples5_p (l : List Nat) : PC Tryz.prog 169 [.sl 1 (l.map fC)] (.tup [.v (.int .i64 ((ssE 0 l).1)), .v (.int .i64 ((ssE 0 l).2))]) := by
 refine pc_of_awp Tryz.func169 rfl Tryz.ntmps169 (rs := [.tmp 2, .tmp 3]) Tryz.results169 (by simp) fun w0 => ?_
 refine awp_seq ?_
 refine xa 2 ?_
 refine rg_q (q_a rfl) (rg_q (q_a rfl) ?_)
 refine rs (awp_seq ?_)
 refine xa 1 ?_
 refine rg_q (q_a rfl) ?_
 refine xc (awp_block ?_)
 refine awp_loopH [2, 3, 4, 5, 6, 7, 8, 9, 10, 11, 12, 13, 14, 15, 16, 17, 18, 19, 20] [] (α := Nat) (fun k => [(4, T.i (k : Int))]) (fun k => []) (fun k => k ≤ l.length ∧ ssE 0 l = ssE k (l.drop k)) (fun k => l.length - k) 0 ⟨Nat.zero_le _, rfl⟩ ?_ ?_
 · exact xh (ms := []) (by repeat (exact Out.refl _)) ⟨(by rfl), trivial⟩ trivial
 ·
  intro k ⟨hk, hf⟩
  refine awp_seq ?_
  refine awp_seq ?_
  refine xa 4 ?_
  refine rg_q (q_m rfl) (rg_q (q_move (x := .d (.sl _ _)) rfl) ?_)
  refine rg_q (q_len isl29 rfl (by exact len_map _ _)) ?_
  refine rg_q (q_lss rfl rfl) ?_
  refine xc (awp_len (t := 7) rfl (fun hl7 => ?_))
  (try simp only [List.length_map] at hl7)
  refine awp_cond rfl (fun hc2 => ?_) (fun hc2 => ?_)
  ·
   (try simp only [nb, ne_eq] at hc2)
   have hlt : k < l.length := by omega
   obtain ⟨x, hx⟩ : ∃ x, l[k]? = some x := ⟨_, List.getElem?_eq_getElem hlt⟩
   have hd := ssE_at hx
   refine awp_skip ?_
   change Awp _ _ _ _ _
   refine awp_seq ?_
   refine awp_block ?_
   refine awp_seq ?_
   refine xa 6 ?_
   refine rg_q (q_move (x := .d (.sl _ _)) rfl) (rg_q (q_m rfl) ?_)
   refine rg_q (q_indexAddr sl29 rfl rfl (by omega) (map_at (by omega) hx)) ?_
   refine rg_q (q_load sz117 rfl rfl) ?_
   refine rg_q (q_call en235 (.cons rfl .nil) rfl (rsampleErr5_p _)) ?_
   refine rg_q (q_a rfl) ?_
   refine rs (xa 2 ?_)
   refine rg_q (q_m rfl) (rg_q (q_neq rfl rfl) ?_)
   refine xc (awp_cond rfl (fun hc5 => ?_) (fun hc5 => ?_))
   ·
    (try simp only [nb, ne_eq] at hc5)
    have hb : sE x ≠ 0 := hc5
    have hz : ssE 0 l = ((k : Int), sE x) := by rw [hf, hd, if_pos hb]
    rw [hz]
    refine awp_seq ?_
    refine xa 4 ?_
    refine rg_q (q_m rfl) (rg_q (q_m rfl) (rg_q (q_a rfl) (rg_q (q_a rfl) ?_)))
    refine xc (awp_ret ?_)
    refine ⟨_, xk2, ?_⟩
    rfl
   ·
    (try simp only [nb, ne_eq] at hc5)
    have hb : sE x = 0 := hc5
    refine awp_skip ?_
    change Awp _ _ _ _ _
    refine xa 3 ?_
    refine rg_q (q_m rfl) ?_
    refine rg_q (q_add rfl rfl xi) ?_
    refine rg_q (q_a rfl) ?_
    refine rn ?_
    refine ⟨k + 1, ⟨by omega, by rw [hf, hd, if_neg (by rw [hb]; simp)]⟩, by omega, ?_⟩
    exact xh (ms := []) (by repeat (first | exact Out.head rfl rfl | (refine Out.put ?_ rfl))) ⟨(by rfl), trivial⟩ trivial
  ·
   (try simp only [nb, ne_eq] at hc2)
   have hk0 : ssE 0 l = (0, 0) := by rw [hf, List.drop_of_length_le (by omega)]; rfl
   rw [hk0]
   refine awp_exit ?_
   change Awp _ _ _ _ _
   refine awp_seq ?_
   refine xa 2 ?_
   refine rg_q (q_a rfl) (rg_q (q_a rfl) ?_)
   refine xc (awp_ret ?_)
   refine ⟨_, xk2, ?_⟩
   rfl
theorem rcheckMatrix5_p (ne : Int) (l : List Nat) : PC Tryz.prog 93 [.agg [.v (.int .i64 (ne)), .sl 1 (l.map fC)]] (.tup [.v (.int .i64 ((ckM ne l).1)), .v (.int .i64 ((ckM ne l).2))]) := by
 have hu : ckM ne l = if inR 1 ne 16 = true then (if (l.length : Int) ≠ ne * ne * 64 then (0, 10) else ssE 0 l) else (0, 2) := rfl
 refine pc_of_awp Tryz.func93 rfl Tryz.ntmps93 (rs := [.tmp 2, .tmp 3]) Tryz.results93 (by simp) fun w0 => ?_
 refine awp_seq ?_
 refine xa 3 ?_
 refine rg_q (q_box rfl (by exact .inr ⟨_, rfl⟩)) ?_
 refine rg_q (q_a rfl) (rg_q (q_a rfl) ?_)
 refine rs (awp_seq ?_)
 refine xa 4 ?_
 refine rg_q (q_fieldAddr fld31_0 rfl) (rg_q (q_load sz3 rfl rfl) ?_)
 refine rg_q (q_call en31 (.cons rfl (.cons rfl (.cons rfl .nil))) rfl (within4_p _ _ _)) ?_
 refine rg_q (q_not rfl) ?_
 refine xc (awp_cond rfl (fun hc1 => ?_) (fun hc1 => ?_))
 ·
  (try simp only [nb, ne_eq] at hc1)
  rw [if_neg (by simpa using hc1)] at hu
  rw [hu]
  refine awp_seq ?_
  refine xa 2 ?_
  refine rg_q (q_a rfl) (rg_q (q_a rfl) ?_)
  refine xc (awp_ret ?_)
  refine ⟨_, xk2, ?_⟩
  rfl
 ·
  (try simp only [nb, ne_eq] at hc1)
  have hr1 : inR 1 ne 16 = true := by simpa using hc1
  rw [if_pos hr1] at hu
  obtain ⟨hn1, hn2⟩ := inR_iff.1 hr1
  have hm := mulb (a := ne) (b := ne) (A := 16) (B := 16) (by omega) (by omega) (by omega) (by omega)
  refine awp_skip ?_
  change Awp _ _ _ _ _
  refine awp_seq ?_
  refine awp_seq ?_
  refine xa 10 ?_
  refine rg_q (q_fieldAddr fld31_1 rfl) (rg_q (q_load sz29 rfl rfl) ?_)
  refine rg_q (q_len isl29 rfl (by exact len_map _ _)) ?_
  refine rg_q (q_fieldAddr fld31_0 rfl) (rg_q (q_load sz3 rfl rfl) (rg_q (q_fieldAddr fld31_0 rfl) (rg_q (q_load sz3 rfl rfl) ?_)))
  refine rg_q (q_mul rfl rfl xi) ?_
  refine rg_q (q_mul rfl rfl xi) ?_
  refine rg_q (q_neq rfl rfl) ?_
  refine xc (awp_len (t := 9) rfl (fun hl9 => ?_))
  (try simp only [List.length_map] at hl9)
  refine awp_cond rfl (fun hc3 => ?_) (fun hc3 => ?_)
  ·
   (try simp only [nb, ne_eq] at hc3)
   rw [if_pos (by simpa using hc3)] at hu
   rw [hu]
   refine awp_seq ?_
   refine xa 2 ?_
   refine rg_q (q_a rfl) (rg_q (q_a rfl) ?_)
   refine xc (awp_ret ?_)
   refine ⟨_, xk2, ?_⟩
   rfl
  ·
   (try simp only [nb, ne_eq] at hc3)
   rw [if_neg (by simpa using hc3)] at hu
   rw [hu]
   refine awp_skip ?_
   change Awp _ _ _ _ _
   refine awp_seq ?_
   refine xa 7 ?_
   refine rg_q (q_fieldAddr fld31_1 rfl) (rg_q (q_load sz29 rfl rfl) ?_)
   refine rg_q (q_call en169 (.cons rfl .nil) rfl (rsamples5_p l)) ?_
   refine rg_q (q_extract rfl rfl) (rg_q (q_extract rfl rfl) (rg_q (q_a rfl) (rg_q (q_a rfl) ?_)))
   refine xc (awp_ret ?_)
   refine ⟨_, xk2, ?_⟩
   rfl

def brkB (g : Grd) (th : Int) : Bool := !inR 1 g.fz (th - 1) || !inR 1 (spI g (g.co * g.ro - 1)).2 (th - 1)
theorem brk_is {g : Grd} (hg : GrdOk g) {th : Int} : brkB g th = true ↔ (g.fz < 1 ∨ th - 1 < (spI g (g.co * g.ro - 1)).2) := by
  unfold brkB
  rw [sp_last hg]
  have h1 := hg.r1
  have h2 := hg.s1
  have h3 := Int.mul_nonneg (show 0 ≤ g.ro - 1 by omega) (show 0 ≤ g.st by omega)
  simp only [inR, Bool.or_eq_true, Bool.not_eq_true', Bool.and_eq_false_iff, decide_eq_false_iff_not]
  omega
theorem rcheckTask_p (t : Tsk) : PC Tryz.prog 22 [.agg (tskC t)] (.tup [.v (.int .i64 ((ckT t).1)), .v (.int .i64 ((ckT t).2))]) := by
 have hu : ckT t = if (ckArr t.ar).2 ≠ 0 then ckArr t.ar
  else if (ckM t.ne t.bf).2 ≠ 0 then (0, (ckM t.ne t.bf).2)
  else if (t.ar.el.length : Int) ≠ t.ne then (0, 13)
  else if ckG t.g ≠ 0 then (0, ckG t.g)
  else (0, whenI (!inR 1 t.g.fz (t.ar.ou.t - 1) || !inR 1 (spI t.g (t.g.co * t.g.ro - 1)).2 (t.ar.ou.t - 1)) 22) := rfl
 refine pc_of_awpN Tryz.func22 rfl Tryz.ntmps22 (rs := [.tmp 2, .tmp 3]) Tryz.results22 (by simp) fun w0 hmine hrnd hpn => ?_
 refine awp_seq ?_
 refine xa 3 ?_
 refine rg_q (q_box rfl (by exact .inr ⟨_, rfl⟩)) ?_
 refine rg_q (q_a rfl) (rg_q (q_a rfl) ?_)
 refine rs (awp_seq ?_)
 refine xa 8 ?_
 refine rg_q (q_fieldAddr fld37_0 rfl) ?_
 refine rg_q (q_loadA (ds := [_, _, _, _, _, _, _, _, _, _, _]) sz28 rfl rfl rfl) ?_
 refine rg_q (q_call en92 (.cons rfl .nil) rfl (rcheckArr_p t.ar)) ?_
 refine rg_q (q_move (x := .d (.tup _)) rfl) (rg_q (q_extract rfl rfl) (rg_q (q_extract rfl rfl) (rg_q (q_a rfl) (rg_q (q_a rfl) ?_))))
 refine rs (xa 2 ?_)
 refine rg_q (q_m rfl) (rg_q (q_neq rfl rfl) ?_)
 refine xc (awp_cond rfl (fun hc2 => ?_) (fun hc2 => ?_))
 ·
  (try simp only [nb, ne_eq] at hc2)
  have h1 : (ckArr t.ar).2 ≠ 0 := hc2
  rw [if_pos h1] at hu
  rw [hu]
  refine awp_seq ?_
  refine xa 4 ?_
  refine rg_q (q_m rfl) (rg_q (q_m rfl) (rg_q (q_a rfl) (rg_q (q_a rfl) ?_)))
  refine xc (awp_ret ?_)
  refine ⟨_, xk2, ?_⟩
  rfl
 ·
  (try simp only [nb, ne_eq] at hc2)
  have h1 : ¬ (ckArr t.ar).2 ≠ 0 := fun q => q hc2
  rw [if_neg h1] at hu
  refine awp_skip ?_
  change Awp _ _ _ _ _
  refine awp_seq ?_
  refine awp_seq ?_
  refine xa 8 ?_
  refine rg_q (q_fieldAddr fld37_1 rfl) ?_
  refine rg_q (q_loadA (ds := [_, _]) sz31 rfl rfl rfl) ?_
  refine rg_q (q_call en93 (.cons rfl .nil) rfl (rcheckMatrix5_p t.ne t.bf)) ?_
  refine rg_q (q_move (x := .d (.tup _)) rfl) (rg_q (q_extract rfl rfl) (rg_q (q_extract rfl rfl) (rg_q (q_a rfl) (rg_q (q_a rfl) ?_))))
  refine rs (xa 2 ?_)
  refine rg_q (q_m rfl) (rg_q (q_neq rfl rfl) ?_)
  refine xc (awp_cond rfl (fun hc5 => ?_) (fun hc5 => ?_))
  ·
   (try simp only [nb, ne_eq] at hc5)
   have h2 : (ckM t.ne t.bf).2 ≠ 0 := hc5
   rw [if_pos h2] at hu
   rw [hu]
   refine awp_seq ?_
   refine xa 3 ?_
   refine rg_q (q_m rfl) (rg_q (q_a rfl) (rg_q (q_a rfl) ?_))
   refine xc (awp_ret ?_)
   refine ⟨_, xk2, ?_⟩
   rfl
  ·
   (try simp only [nb, ne_eq] at hc5)
   have h2 : ¬ (ckM t.ne t.bf).2 ≠ 0 := fun q => q hc5
   rw [if_neg h2] at hu
   refine awp_skip ?_
   change Awp _ _ _ _ _
   refine awp_seq ?_
   refine awp_seq ?_
   refine xa 8 ?_
   refine rg_q (q_fieldAddr fld37_1 rfl) (rg_q (q_fieldAddr fld31_0 rfl) (rg_q (q_load sz3 rfl rfl) (rg_q (q_fieldAddr fld37_0 rfl) (rg_q (q_fieldAddr fld28_0 rfl) (rg_q (q_load sz22 rfl rfl) ?_)))))
   refine rg_q (q_len isl22 rfl (by exact len_map _ _)) ?_
   refine rg_q (q_neq rfl rfl) ?_
   refine xc (awp_len (t := 33) rfl (fun hl33 => ?_))
   (try simp only [List.length_map] at hl33)
   refine awp_cond rfl (fun hc7 => ?_) (fun hc7 => ?_)
   ·
    (try simp only [nb, ne_eq] at hc7)
    have h3 : (t.ar.el.length : Int) ≠ t.ne := by omega
    rw [if_pos h3] at hu
    rw [hu]
    refine awp_seq ?_
    refine xa 2 ?_
    refine rg_q (q_a rfl) (rg_q (q_a rfl) ?_)
    refine xc (awp_ret ?_)
    refine ⟨_, xk2, ?_⟩
    rfl
   ·
    (try simp only [nb, ne_eq] at hc7)
    have h3 : ¬ (t.ar.el.length : Int) ≠ t.ne := by omega
    rw [if_neg h3] at hu
    refine awp_skip ?_
    change Awp _ _ _ _ _
    refine awp_seq ?_
    refine awp_seq ?_
    refine xa 4 ?_
    refine rg_q (q_fieldAddr fld37_2 rfl) ?_
    refine rg_q (q_loadA (ds := [_, _, _, _, _]) sz35 rfl rfl rfl) ?_
    refine rg_q (q_call en74 (.cons rfl .nil) rfl (rcheckGrid_p t.g)) ?_
    refine rg_q (q_a rfl) ?_
    refine rs (xa 2 ?_)
    refine rg_q (q_m rfl) (rg_q (q_neq rfl rfl) ?_)
    refine xc (awp_cond rfl (fun hc10 => ?_) (fun hc10 => ?_))
    ·
     (try simp only [nb, ne_eq] at hc10)
     have h4 : ckG t.g ≠ 0 := hc10
     rw [if_pos h4] at hu
     rw [hu]
     refine awp_seq ?_
     refine xa 3 ?_
     refine rg_q (q_m rfl) (rg_q (q_a rfl) (rg_q (q_a rfl) ?_))
     refine xc (awp_ret ?_)
     refine ⟨_, xk2, ?_⟩
     rfl
    ·
     (try simp only [nb, ne_eq] at hc10)
     have h4 : ¬ ckG t.g ≠ 0 := fun q => q hc10
     rw [if_neg h4] at hu
     obtain ⟨hao, _⟩ := ckArr_ok (Decidable.not_not.1 h1)
     have ht1 := hao.ou.t1
     have ht2 := hao.ou.t2
     obtain ⟨hg, hg1, hg2⟩ := ckG_ok (Decidable.not_not.1 h4)
     have hci := cells_in hg
     have hz : ckT t = (0, whenI (brkB t.g t.ar.ou.t) 22) := hu
     refine awp_skip ?_
     change Awp _ _ _ _ _
     refine awp_seq ?_
     refine awp_seq ?_
     refine xa 21 ?_
     refine rg_q (q_fieldAddr fld37_2 rfl) (rg_q (q_fieldAddr fld35_0 rfl) (rg_q (q_fieldAddr fld33_1 rfl) (rg_q (q_load sz3 rfl rfl) (rg_q (q_lss rfl rfl) (rg_q (q_m rfl) ?_)))))
     refine rg_g rfl rfl (fun hG => (q_fieldAddr fld37_2 rfl)) ?_
     refine rg_g rfl rfl (fun hG => (q_loadA (ds := [_, _, _, _, _]) sz35 rfl rfl rfl)) ?_
     refine rg_g rfl rfl (fun hG => (q_fieldAddr fld37_2 rfl)) ?_
     refine rg_g rfl rfl (fun hG => (q_loadA (ds := [_, _, _, _, _]) sz35 rfl rfl rfl)) ?_
     refine rg_g rfl rfl (fun hG => (q_call en56 (.cons rfl .nil) rfl (rcells_p _ (by assumption)))) ?_
     refine rg_g rfl rfl (fun hG => (q_sub rfl rfl (In64.mk (by (have hg0 := T.bool_inj (a := _) hG.1; (try simp only [nb, ne_eq] at hg0); omega)) (by (have hg0 := T.bool_inj (a := _) hG.1; (try simp only [nb, ne_eq] at hg0); omega))))) ?_
     refine rg_g rfl rfl (fun hG => (q_call en76 (.cons rfl (.cons rfl .nil)) rfl (rspot_p _ _ (by assumption) (by omega) (by omega)))) ?_
     refine rg_g rfl rfl (fun hG => (q_field fd33_1 sz3 rfl rfl)) ?_
     refine rg_g rfl rfl (fun hG => (q_fieldAddr fld37_0 rfl)) ?_
     refine rg_g rfl rfl (fun hG => (q_fieldAddr fld28_1 rfl)) ?_
     refine rg_g rfl rfl (fun hG => (q_fieldAddr fld24_3 rfl)) ?_
     refine rg_g rfl rfl (fun hG => (q_load sz3 rfl rfl)) ?_
     refine rg_g rfl rfl (fun hG => (q_sub rfl rfl (In64.mk (by (have hg0 := T.bool_inj (a := _) hG.1; (try simp only [nb, ne_eq] at hg0); omega)) (by (have hg0 := T.bool_inj (a := _) hG.1; (try simp only [nb, ne_eq] at hg0); omega))))) ?_
     refine rg_g rfl rfl (fun hG => (q_gtr rfl rfl)) ?_
     refine rg_pick rfl rfl rfl rfl rfl rfl ?_
     refine xc (awp_cond rfl (fun hc12 => ?_) (fun hc12 => ?_))
     ·
      (try simp only [nb, ne_eq] at hc12)
      rw [(brk_is hg).2 hc12] at hz
      refine awp_seq ?_
      refine xa 2 ?_
      refine rg_q (q_a rfl) (rg_q (q_a rfl) ?_)
      refine xc (awp_ret ?_)
      refine ⟨_, xk2, ?_⟩
      rw [hz]; rfl
     ·
      (try simp only [nb, ne_eq] at hc12)
      have hb : brkB t.g t.ar.ou.t = false := by
       cases q : brkB t.g t.ar.ou.t with
       | false => rfl
       | true => have := (brk_is hg).1 q; omega
      rw [hb] at hz
      refine awp_skip ?_
      change Awp _ _ _ _ _
      refine awp_seq ?_
      refine xa 2 ?_
      refine rg_q (q_a rfl) (rg_q (q_a rfl) ?_)
      refine xc (awp_ret ?_)
      refine ⟨_, xk2, ?_⟩
      rw [hz]; rfl
theorem rtaskErr_p (t : Tsk) : PC Tryz.prog 24 [.agg (tskC t)] (.v (.int .i64 ((ckT t).2))) := by
 refine pc_of_awp Tryz.func24 rfl Tryz.ntmps24 (rs := [.tmp 2]) Tryz.results24 (by simp) fun w0 => ?_
 refine awp_seq ?_
 refine xa 2 ?_
 refine rg_q (q_box rfl (by exact .inr ⟨_, rfl⟩)) ?_
 refine rg_q (q_a rfl) ?_
 refine rs (xa 7 ?_)
 refine rg_q (q_loadA sz37 rfl rfl rfl) ?_
 refine rg_q (q_call en22 (.cons rfl .nil) rfl (rcheckTask_p _)) ?_
 refine rg_q (q_move (x := .d (.tup _)) rfl) (rg_q (q_extract rfl rfl) (rg_q (q_extract rfl rfl) (rg_q (q_a rfl) (rg_q (q_a rfl) ?_))))
 refine rs (xa 2 ?_)
 refine rg_q (q_m rfl) (rg_q (q_a rfl) ?_)
 refine xc (awp_ret ?_)
 refine ⟨_, xk1, ?_⟩
 rfl
theorem copyMatrix5_p (ne : Int) (l : List Nat) (hl : l.length ≤ 10000) : PC Tryz.prog 62 [.agg [.v (.int .i64 (ne)), .sl 1 (l.map fC)]] (.agg (mtxC ne l)) := by
 refine pc_of_awp Tryz.func62 rfl Tryz.ntmps62 (rs := [.cell 2 31]) Tryz.results62 (by simp) fun w0 => ?_
 refine awp_seq ?_
 refine xa 1 ?_
 refine rg_q (q_box rfl (by exact .inr ⟨_, rfl⟩)) ?_
 refine rg_nil ?_
 refine aops_alloc zr31 rfl rfl rfl ?_
 refine aops_nil (xq (xa 7 ?_))
 refine rg_q (q_fieldAddr fld31_0 rfl) (rg_q (q_load sz3 rfl rfl) ?_)
 refine rg_q (q_empty0 sl29 zr117) ?_
 refine rg_q (q_fieldAddr fld31_1 rfl) (rg_q (q_load sz29 rfl rfl) ?_)
 refine rg_q (q_append0 sl29 zr117 by117 rfl (by decide) rfl rfl rfl (by (try simp only [List.length_map]); omega) (by (try simp only [List.length_map]); omega)) ?_
 refine rg_q (q_build (cs := [_, _]) pl31 zr31 rfl (.cons rfl (by exact .inl rfl) (.cons rfl (by exact .inl rfl) .nil)) ⟨⟨rfl, by decide⟩, ⟨rfl, by decide⟩, trivial⟩ rfl) ?_
 refine rg_nil ?_
 refine aops_store sz31 rfl rfl (by exact .inr ⟨_, rfl⟩) rfl rfl (by decide) rfl ?_
 refine aops_nil ?_
 change Awp _ _ _ _ _
 refine awp_ret ?_
 refine ⟨_, (.cons (.cellA rfl rfl sz31 rfl) .nil), ?_⟩
 rfl
theorem rcopyT_p (t : Tsk) (h1 : t.ar.el.length ≤ 1000) (h2 : t.bf.length ≤ 10000) : PC Tryz.prog 21 [.agg (tskC t)] (.agg (tskC t)) := by
 refine pc_of_awp Tryz.func21 rfl Tryz.ntmps21 (rs := [.cell 2 37]) Tryz.results21 (by simp) fun w0 => ?_
 refine awp_seq ?_
 refine xa 1 ?_
 refine rg_q (q_box rfl (by exact .inr ⟨_, rfl⟩)) ?_
 refine rg_nil ?_
 refine aops_alloc zr37 rfl rfl rfl ?_
 refine aops_nil (xq (xa 9 ?_))
 refine rg_q (q_fieldAddr fld37_0 rfl) ?_
 refine rg_q (q_loadA (ds := [_, _, _, _, _, _, _, _, _, _, _]) sz28 rfl rfl rfl) ?_
 refine rg_q (q_call en79 (.cons rfl .nil) rfl (copyArr_p t.ar h1)) ?_
 refine rg_q (q_fieldAddr fld37_1 rfl) ?_
 refine rg_q (q_loadA (ds := [_, _]) sz31 rfl rfl rfl) ?_
 refine rg_q (q_call en62 (.cons rfl .nil) rfl (copyMatrix5_p t.ne t.bf h2)) ?_
 refine rg_q (q_fieldAddr fld37_2 rfl) ?_
 refine rg_q (q_loadA (ds := [_, _, _, _, _]) sz35 rfl rfl rfl) ?_
 refine rg_q (q_build pl37 zr37 rfl (.cons rfl (by exact .inr ⟨_, rfl⟩) (.cons rfl (by exact .inr ⟨_, rfl⟩) (.cons rfl (by exact .inr ⟨_, rfl⟩) .nil))) ⟨⟨rfl, by decide⟩, ⟨rfl, by decide⟩, ⟨rfl, by decide⟩, trivial⟩ rfl) ?_
 refine rg_nil ?_
 refine aops_store sz37 rfl rfl (by exact .inr ⟨_, rfl⟩) rfl rfl (by decide) rfl ?_
 refine aops_nil ?_
 change Awp _ _ _ _ _
 refine awp_ret ?_
 refine ⟨_, (.cons (.cellA rfl rfl sz37 rfl) .nil), ?_⟩
 rfl

def smlB (g : Grd) : Bool := if (!inR 1 g.co 40 || !inR 1 g.ro 40) = true then true else decide (g.co * g.ro ≤ 12)
def litB (t : Tsk) : Bool := (decide (t.ar.el.length ≤ 2) || (decide (16 < t.ar.el.length) && decide (t.ar.el.length ≤ 18))) && decide (t.bf.length ≤ 260) && smlB t.g
theorem lit_le {t : Tsk} (h : litB t = true) : t.ar.el.length ≤ 18 ∧ t.bf.length ≤ 260 := by
  unfold litB at h
  simp only [Bool.and_eq_true, Bool.or_eq_true, decide_eq_true_eq] at h
  omega
theorem small5_p (g : Grd) : PC Tryz.prog 40 [.agg (grdC g)] (.v (.bool (smlB g))) := by
 refine pc_of_awp Tryz.func40 rfl Tryz.ntmps40 (rs := [.tmp 2]) Tryz.results40 (by simp) fun w0 => ?_
 refine awp_seq ?_
 refine xa 2 ?_
 refine rg_q (q_box rfl (by exact .inr ⟨_, rfl⟩)) ?_
 refine rg_q (q_a rfl) ?_
 refine rs (awp_seq ?_)
 refine xa 10 ?_
 refine rg_q (q_fieldAddr fld35_1 rfl) (rg_q (q_load sz3 rfl rfl) ?_)
 refine rg_q (q_call en31 (.cons rfl (.cons rfl (.cons rfl .nil))) rfl (within4_p _ _ _)) ?_
 refine rg_q (q_not rfl) (rg_q (q_m rfl) ?_)
 refine rg_g rfl rfl (fun hG => (q_fieldAddr fld35_2 rfl)) ?_
 refine rg_g rfl rfl (fun hG => (q_load sz3 rfl rfl)) ?_
 refine rg_g rfl rfl (fun hG => (q_call en31 (.cons rfl (.cons rfl (.cons rfl .nil))) rfl (within4_p _ _ _))) ?_
 refine rg_g rfl rfl (fun hG => (q_not rfl)) ?_
 refine rg_pick rfl rfl rfl rfl rfl rfl ?_
 refine xc (awp_cond rfl (fun hc1 => ?_) (fun hc1 => ?_))
 ·
  (try simp only [nb, ne_eq] at hc1)
  have hz : smlB g = true := by unfold smlB; rw [if_pos (by rcases hc1 with q | q <;> simp [q])]
  refine awp_seq ?_
  refine xa 1 ?_
  refine rg_q (q_a rfl) ?_
  refine xc (awp_ret ?_)
  refine ⟨_, xk1, ?_⟩
  rw [hz]; rfl
 ·
  (try simp only [nb, ne_eq] at hc1)
  obtain ⟨q1, q2⟩ := hc1
  have hz : smlB g = decide (g.co * g.ro ≤ 12) := by unfold smlB; rw [if_neg (by rw [q1, q2]; decide)]
  obtain ⟨a1, a2⟩ := inR_iff.1 q1
  obtain ⟨a3, a4⟩ := inR_iff.1 q2
  have hm := mulb (a := g.co) (b := g.ro) (A := 40) (B := 40) (by omega) (by omega) (by omega) (by omega)
  refine awp_skip ?_
  change Awp _ _ _ _ _
  refine awp_seq ?_
  refine xa 7 ?_
  refine rg_q (q_fieldAddr fld35_1 rfl) (rg_q (q_load sz3 rfl rfl) (rg_q (q_fieldAddr fld35_2 rfl) (rg_q (q_load sz3 rfl rfl) ?_)))
  refine rg_q (q_mul rfl rfl xi) ?_
  refine rg_q (q_leq rfl rfl) (rg_q (q_a rfl) ?_)
  refine xc (awp_ret ?_)
  refine ⟨_, xk1, ?_⟩
  rw [hz]; rfl
theorem light_p (t : Tsk) : PC Tryz.prog 19 [.agg (tskC t)] (.v (.bool (litB t))) := by
 refine pc_of_awp Tryz.func19 rfl Tryz.ntmps19 (rs := [.tmp 2]) Tryz.results19 (by simp) fun w0 => ?_
 refine awp_seq ?_
 refine xa 2 ?_
 refine rg_q (q_box rfl (by exact .inr ⟨_, rfl⟩)) ?_
 refine rg_q (q_a rfl) ?_
 refine rs (xa 32 ?_)
 refine rg_q (q_fieldAddr fld37_0 rfl) (rg_q (q_fieldAddr fld28_0 rfl) (rg_q (q_load sz22 rfl rfl) ?_))
 refine rg_q (q_len isl22 rfl (by exact len_map _ _)) ?_
 refine rg_q (q_leq rfl rfl) (rg_q (q_m rfl) ?_)
 refine rg_g rfl rfl (fun hG => (q_fieldAddr fld37_0 rfl)) ?_
 refine rg_g rfl rfl (fun hG => (q_fieldAddr fld28_0 rfl)) ?_
 refine rg_g rfl rfl (fun hG => (q_load sz22 rfl rfl)) ?_
 refine rg_g rfl rfl (fun hG => (q_len isl22 rfl (by exact len_map _ _))) ?_
 refine rg_g rfl rfl (fun hG => (q_gtr rfl rfl)) ?_
 refine rg_g rfl rfl (fun hG => (q_m rfl)) ?_
 refine rg_g rfl rfl (fun hG => (q_fieldAddr fld37_0 rfl)) ?_
 refine rg_g rfl rfl (fun hG => (q_fieldAddr fld28_0 rfl)) ?_
 refine rg_g rfl rfl (fun hG => (q_load sz22 rfl rfl)) ?_
 refine rg_g rfl rfl (fun hG => (q_len isl22 rfl (by exact len_map _ _))) ?_
 refine rg_g rfl rfl (fun hG => (q_leq rfl rfl)) ?_
 refine rg_pickg rfl rfl rfl rfl rfl rfl rfl rfl ?_
 refine rg_pick rfl rfl rfl rfl rfl rfl ?_
 refine rg_q (q_m rfl) ?_
 refine rg_g rfl rfl (fun hG => (q_fieldAddr fld37_1 rfl)) ?_
 refine rg_g rfl rfl (fun hG => (q_fieldAddr fld31_1 rfl)) ?_
 refine rg_g rfl rfl (fun hG => (q_load sz29 rfl rfl)) ?_
 refine rg_g rfl rfl (fun hG => (q_len isl29 rfl (by exact len_map _ _))) ?_
 refine rg_g rfl rfl (fun hG => (q_leq rfl rfl)) ?_
 refine rg_pick rfl rfl rfl rfl rfl rfl ?_
 refine rg_q (q_m rfl) ?_
 refine rg_g rfl rfl (fun hG => (q_fieldAddr fld37_2 rfl)) ?_
 refine rg_g rfl rfl (fun hG => (q_loadA (ds := [_, _, _, _, _]) sz35 rfl rfl rfl)) ?_
 refine rg_g rfl rfl (fun hG => (q_call en40 (.cons rfl .nil) rfl (small5_p _))) ?_
 refine rg_pick rfl rfl rfl rfl rfl rfl ?_
 refine rg_q (q_a rfl) ?_
 refine xc (awp_len (t := 5) rfl (fun hl5 => ?_))
 (try simp only [List.length_map] at hl5)
 refine awp_ret ?_
 refine ⟨_, xk1, ?_⟩
 have e1 : decide (t.ar.el.length ≤ 2) = decide ((t.ar.el.length : Int) ≤ 2) := decide_eq_decide.2 (by omega)
 have e2 : decide (16 < t.ar.el.length) = decide (16 < (t.ar.el.length : Int)) := decide_eq_decide.2 (by omega)
 have e3 : decide (t.ar.el.length ≤ 18) = decide ((t.ar.el.length : Int) ≤ 18) := decide_eq_decide.2 (by omega)
 have e4 : decide (t.bf.length ≤ 260) = decide ((t.bf.length : Int) ≤ 260) := decide_eq_decide.2 (by omega)
 unfold litB; rw [e1, e2, e3, e4]; simp only [bif_and, bif_or]; rfl
end Go.Proofs.YtamaocfjknpadaaGreat.Am.M
-- mini
set_option maxRecDepth 100000
namespace Go.Proofs.YtamaocfjknpadaaGreat.Am.M
open Go

theorem chK_at {l : List Nat} {i k : Nat} (hk : k < 64) : (chK l i)[k]? = l[64 * i + k]? := by
  unfold chK
  rw [List.getElem?_drop, List.getElem?_take, if_pos (by omega)]
def off5 (n f r : Int) : Int := (f * n + r) * 64
theorem off5_in {n f r : Int} (hn : n ≤ 16) (f0 : 0 ≤ f) (f1 : f < n) (r0 : 0 ≤ r) (r1 : r < n) : (0 ≤ f * n ∧ f * n ≤ 256) ∧ 0 ≤ off5 n f r ∧ off5 n f r + 64 ≤ n * n * 64 := by
  have h1 := Int.mul_nonneg f0 (show 0 ≤ n by omega)
  have h2 := Int.mul_le_mul_of_nonneg_right (show f ≤ n - 1 by omega) (show 0 ≤ n by omega)
  have h3 : (n - 1) * n = n * n - n := by grind
  have h4 := Int.mul_le_mul_of_nonneg_right hn (show 0 ≤ n by omega)
  unfold off5
  omega
theorem flat5 (V : List Int) : (D.agg (V.map fv)).Flat := .agg _ (fun d hd => by
  obtain ⟨x, _, rfl⟩ := List.mem_map.1 hd
  exact .v _)
theorem fv_at {V : List Int} {k : Nat} {v : Int} (h : V[k]? = some v) : (V.map fv)[0 + (k : Int).toNat * 1]? = some (fv v) := by rw [Int.toNat_natCast, Nat.zero_add, Nat.mul_one, List.getElem?_map, h]; rfl
theorem sAt_at {S : List Int} (hS : S.length = 64) {i : Nat} (hi : i < 64) : S[i]? = some (sAt S i) := by
  unfold sAt
  rw [List.getD_eq_getElem?_getD, List.getElem?_eq_getElem (by omega)]; rfl
theorem at5_p (ne : Int) (l : List Nat) (p : Int × Int) (hn : ne ≤ 16) (p1 : 0 ≤ p.1 ∧ p.1 < ne) (p2 : 0 ≤ p.2 ∧ p.2 < ne) : PC Tryz.prog 241 [.agg (mtxC ne l), .v (.int .i64 (p.1)), .v (.int .i64 (p.2))] (.v (.int .i64 (off5 ne p.1 p.2))) := by
 obtain ⟨⟨a1, a2⟩, a3, a4⟩ := off5_in hn p1.1 p1.2 p2.1 p2.2
 have hn2 := mulb (a := ne) (b := ne) (A := 16) (B := 16) (by omega) (by omega) (by omega) (by omega)
 refine pc_of_awp Tryz.func241 rfl Tryz.ntmps241 (rs := [.tmp 6]) Tryz.results241 (by simp) fun w0 => ?_
 refine awp_seq ?_
 refine xa 2 ?_
 refine rg_q (q_box rfl (by exact .inr ⟨_, rfl⟩)) ?_
 refine rg_q (q_a rfl) ?_
 refine rs (xa 8 ?_)
 refine rg_q (q_m rfl) (rg_q (q_fieldAddr fld31_0 rfl) (rg_q (q_load sz3 rfl rfl) ?_))
 refine rg_q (q_mul rfl rfl xi) ?_
 refine rg_q (q_m rfl) ?_
 refine rg_q (q_add rfl rfl xi) ?_
 refine rg_q (q_mul rfl rfl xi) ?_
 refine rg_q (q_a rfl) ?_
 refine xc (awp_ret ?_)
 refine ⟨_, xk1, ?_⟩
 rfl
theorem trace5_p (S : List Int) (hS : S.length = 64) : PC Tryz.prog 242 [.sl 1 (S.map iC)] (.agg (S.map fv)) := by
 refine pc_of_awp Tryz.func242 rfl Tryz.ntmps242 (rs := [.cell 2 236]) Tryz.results242 (by simp) fun w0 => ?_
 refine awp_seq ?_
 refine xa 0 ?_
 refine rg_nil ?_
 refine aops_alloc zr236 rfl rfl rfl ?_
 refine aops_nil (xq (xa 0 ?_))
 refine rg_nil ?_
 refine aops_alloc zr236 rfl rfl rfl ?_
 refine aops_nil (xq (awp_seq ?_))
 refine xa 1 ?_
 refine rg_q (q_a rfl) ?_
 refine xc (awp_block ?_)
 refine awp_loopH [4, 5, 6, 7, 8, 9, 10, 11, 12, 13, 14, 15, 16, 17, 18, 19, 20, 21] [3] (α := Nat) (fun k => [(4, T.i (k : Int))]) (fun k => [(3, .box (outT S k))]) (fun k => k ≤ 64) (fun k => 64 - k) 0 (Nat.zero_le _) ?_ ?_
 · exact xh (ms := [3]) (by repeat (exact Out.refl _)) ⟨(by rfl), trivial⟩ ⟨(by rfl), trivial⟩
 ·
  intro k hk
  refine awp_seq ?_
  refine awp_seq ?_
  refine xa 8 ?_
  refine rg_q (q_m rfl) (rg_q (q_lss rfl rfl) (rg_q (q_m rfl) ?_))
  refine rg_g rfl rfl (fun hG => (q_m rfl)) ?_
  refine rg_g rfl rfl (fun hG => (q_move (x := .d (.sl _ _)) rfl)) ?_
  refine rg_g rfl rfl (fun hG => (q_len isl77 rfl (by exact len_map _ _))) ?_
  refine rg_g rfl rfl (fun hG => (q_lss rfl rfl)) ?_
  refine rg_pick rfl rfl rfl rfl rfl rfl ?_
  refine xc (awp_cond rfl (fun hc3 => ?_) (fun hc3 => ?_))
  ·
   (try simp only [nb, ne_eq] at hc3)
   have hlt : k < S.length := by omega
   obtain ⟨x, hx⟩ : ∃ x, S[k]? = some x := ⟨_, List.getElem?_eq_getElem hlt⟩
   have hst := outT_set hS hx
   have hol : (outT S k).length = 64 := by unfold outT; rw [List.length_append, List.length_map, List.length_take, List.length_replicate]; omega
   refine awp_skip ?_
   change Awp _ _ _ _ _
   refine awp_seq ?_
   refine awp_block ?_
   refine xa 7 ?_
   refine rg_q (q_m rfl) (rg_q (q_move (x := .d (.sl _ _)) rfl) (rg_q (q_m rfl) ?_))
   refine rg_q (q_indexAddr sl77 rfl rfl (by omega) (map_at (by omega) hx)) ?_
   refine rg_q (q_load sz3 rfl rfl) ?_
   refine rg_q (q_convf int3 flt117 rfl) ?_
   refine rg_q (q_indexAddr_aref ar236 rfl rfl (by omega) (by omega)) ?_
   refine rg_nil ?_
   refine aops_store (cs' := outT S (k + 1)) sz117 rfl rfl (by exact .inl rfl) rfl rfl (by rw [hol]; omega) hst ?_
   refine aops_nil ?_
   change Awp _ _ _ _ _
   refine xa 3 ?_
   refine rg_q (q_m rfl) ?_
   refine rg_q (q_add rfl rfl xi) ?_
   refine rg_q (q_a rfl) ?_
   refine rn ?_
   refine ⟨k + 1, by omega, by omega, ?_⟩
   exact xh (ms := [3]) (by repeat (first | exact Out.head rfl rfl | (refine Out.put ?_ rfl) | (refine Out.site ?_ rfl))) ⟨(by rfl), trivial⟩ ⟨(by rfl), trivial⟩
  ·
   (try simp only [nb, ne_eq] at hc3)
   have hk64 : k = 64 := by omega
   subst hk64
   rw [outT_all hS]
   refine awp_exit ?_
   change Awp _ _ _ _ _
   refine awp_seq ?_
   refine xa 1 ?_
   refine rg_q (q_load_refA (ds := S.map fv) sz236 rfl rfl (by rw [List.drop_zero]; exact List.take_of_length_le (by rw [List.length_map]; omega)) (by rw [List.length_map]; exact hS)) ?_
   refine rg_nil ?_
   refine aops_store (cs' := S.map fv) sz236 rfl rfl (by exact .inr ⟨_, rfl⟩) (by show (S.map fv).length = 64; rw [List.length_map]; exact hS) rfl (Nat.le_of_ble_eq_true rfl) (setCs_all (by show (S.map fv).length = 64; rw [List.length_map]; exact hS)) ?_
   refine aops_nil ?_
   change Awp _ _ _ _ _
   refine awp_ret ?_
   refine ⟨_, (.cons (.cellA rfl rfl sz236 (by show (S.map fv).length = _; rw [List.length_map]; exact hS)) .nil), ?_⟩
   rfl
theorem rtraceOf5_p (ne : Int) (l : List Nat) (p : Int × Int) (hn : ne ≤ 16) (p1 : 0 ≤ p.1 ∧ p.1 < ne) (p2 : 0 ≤ p.2 ∧ p.2 < ne) (hw : WhlL l) (hl : (l.length : Int) = ne * ne * 64) : PC Tryz.prog 177 [.agg (mtxC ne l), .agg (shC p)] (.agg (((chK l (p.1 * ne + p.2).toNat).map vI).map fv)) := by
 obtain ⟨⟨a1, a2⟩, a3, a4⟩ := off5_in hn p1.1 p1.2 p2.1 p2.2
 have hn2 := mulb (a := ne) (b := ne) (A := 16) (B := 16) (by omega) (by omega) (by omega) (by omega)
 have ho : off5 ne p.1 p.2 = (p.1 * ne + p.2) * 64 := rfl
 have hBl : l.length ≤ 100000 := by omega
 have hml : (l.map fC).length = l.length := List.length_map _
 have hV : ((chK l (p.1 * ne + p.2).toNat).map vI).length = 64 := by rw [List.length_map]; exact chK_len (m := (ne * ne).toNat) (by omega) (by omega)
 refine pc_of_awpN Tryz.func177 rfl Tryz.ntmps177 (rs := [.cell 4 236]) Tryz.results177 (by simp) fun w0 hmine hrnd hpn => ?_
 refine awp_seq ?_
 refine xa 2 ?_
 refine rg_q (q_box rfl (by exact .inr ⟨_, rfl⟩)) ?_
 refine rg_q (q_box rfl (by exact .inr ⟨_, rfl⟩)) ?_
 refine rg_nil ?_
 refine aops_alloc zr236 rfl rfl rfl ?_
 refine aops_nil (xq (xa 1 ?_))
 refine rg_q (q_assign_nil) ?_
 refine rn ?_
 change Awp _ _ _ _ _
 refine Awp.le (le_own (k := 5) (e := 3) (sz := 1) rfl rfl) ?_
 refine awp_seq ?_
 refine awp_seq ?_
 refine xa 1 ?_
 refine rg_q (q_a rfl) ?_
 refine xc (awp_block ?_)
 refine awp_loopH [5, 6, 7, 8, 9, 10, 11, 12, 13, 14, 15, 16, 17, 18, 19, 20, 21, 22, 23, 24, 25, 26] [5] (α := Nat) (fun k => [(6, T.i (k : Int)), (5, .rs 5)]) (fun k => [(5, .row 3 1 ((((chK l (p.1 * ne + p.2).toNat).map vI).take k).map iC))]) (fun k => k ≤ 64) (fun k => 64 - k) 0 (Nat.zero_le _) ?_ ?_
 · exact xh (ms := [5]) (by repeat (exact Out.refl _)) ⟨(by rfl), (by rfl), trivial⟩ ⟨(by rfl), trivial⟩
 ·
  intro k hk
  refine awp_seq ?_
  refine awp_seq ?_
  refine xa 2 ?_
  refine rg_q (q_m rfl) (rg_q (q_lss rfl rfl) ?_)
  refine xc (awp_cond rfl (fun hc3 => ?_) (fun hc3 => ?_))
  ·
   (try simp only [nb, ne_eq] at hc3)
   have hlt : k < 64 := by omega
   have hin : 64 * (p.1 * ne + p.2).toNat + k < l.length := by omega
   obtain ⟨x, hx⟩ : ∃ x, l[64 * (p.1 * ne + p.2).toNat + k]? = some x := ⟨_, List.getElem?_eq_getElem hin⟩
   have hx1 := hw x (List.mem_of_getElem? hx)
   have hxv : ((chK l (p.1 * ne + p.2).toNat).map vI)[k]? = some (vI x) := vI_at (by rw [chK_at hlt]; exact hx)
   have hcast : ((64 * (p.1 * ne + p.2).toNat + k : Nat) : Int) = off5 ne p.1 p.2 + (k : Int) := by omega
   have hs1 : (((chK l (p.1 * ne + p.2).toNat).map vI).take k).map iC ++ [iC (vI x)] = (((chK l (p.1 * ne + p.2).toNat).map vI).take (k + 1)).map iC := by rw [List.take_succ_eq_append_getElem (by omega), (List.getElem?_eq_some_iff.1 hxv).2, List.map_append]; rfl
   have htl : (((chK l (p.1 * ne + p.2).toNat).map vI).take k).length ≤ 64 := by rw [List.length_take]; omega
   refine awp_skip ?_
   change Awp _ _ _ _ _
   refine awp_seq ?_
   refine awp_block ?_
   refine xa 15 ?_
   refine rg_q (q_move (x := .rs _) rfl) (rg_q (q_fieldAddr fld31_1 rfl) (rg_q (q_load sz29 rfl rfl) ?_))
   refine rg_q (q_loadA (ds := [_, _]) sz31 rfl rfl rfl) ?_
   refine rg_q (q_indexAddr_ar ar63 rfl rfl (by omega) (by omega)) ?_
   refine rg_q (q_load sz3 rfl rfl) ?_
   refine rg_q (q_indexAddr_ar ar63 rfl rfl (by omega) (by omega)) ?_
   refine rg_q (q_load sz3 rfl rfl) ?_
   refine rg_q (q_call en241 (.cons rfl (.cons rfl (.cons rfl .nil))) rfl (at5_p ne l p hn p1 p2)) ?_
   refine rg_q (q_m rfl) ?_
   refine rg_q (q_add rfl rfl xi) ?_
   refine rg_q (q_indexAddr sl29 rfl rfl (by omega) (map_at (k := 64 * (p.1 * ne + p.2).toNat + k) (by omega) hx)) ?_
   refine rg_q (q_load sz117 rfl rfl) ?_
   refine rg_q (q_convfi flt117 int3 rfl hx1.int) ?_
   refine rg_q (q_buildSlice sl77 zr3 rfl rfl (by decide) (.cons rfl (by exact .inl rfl) .nil) ⟨rfl, rfl, trivial⟩ rfl (by decide) rfl) ?_
   refine rg_nil ?_
   refine aops_append sl77 zr3 by3 rfl (by decide) rfl rfl rfl rfl (by (try simp only [List.length_map, List.length_append, List.length_cons, List.length_nil]); omega) (by (try simp only [List.length_map, List.length_append, List.length_cons, List.length_nil]); omega) rfl rfl ?_
   refine aops_q rfl (q_assign (x := .rs _) rfl) ?_
   refine aops_nil ?_
   change Awp _ _ _ _ _
   refine xa 3 ?_
   refine rg_q (q_m rfl) ?_
   refine rg_q (q_add rfl rfl xi) ?_
   refine rg_q (q_a rfl) ?_
   refine rn ?_
   refine ⟨k + 1, by omega, by omega, ?_⟩
   exact xh (ms := [5]) (by repeat (first | exact Out.head rfl rfl | (refine Out.put ?_ rfl) | (refine Out.site ?_ rfl) | (refine Out.killS ?_ rfl))) ⟨(by rfl), (by rfl), trivial⟩ ⟨(by (show Site.row _ _ _ = Site.row _ _ _; rw [← hs1]; rfl)), trivial⟩
  ·
   (try simp only [nb, ne_eq] at hc3)
   have hk64 : k = 64 := by omega
   subst hk64
   rw [List.take_of_length_le (by omega)]
   refine awp_exit ?_
   change Awp _ _ _ _ _
   refine awp_seq ?_
   refine xa 2 ?_
   refine rg_q (q_move (x := .rs _) rfl) ?_
   refine rg_q (q_callF en242 (.cons (by exact .rs rfl) .nil) rfl (trace5_p ((chK l (p.1 * ne + p.2).toNat).map vI) hV) (by exact flat5 ((chK l (p.1 * ne + p.2).toNat).map vI))) ?_
   refine rg_nil ?_
   refine aops_store (cs' := ((chK l (p.1 * ne + p.2).toNat).map vI).map fv) sz236 rfl rfl (by exact .inr ⟨_, rfl⟩) (by show (((chK l (p.1 * ne + p.2).toNat).map vI).map fv).length = 64; rw [List.length_map]; exact hV) rfl (Nat.le_of_ble_eq_true rfl) (setCs_all (by show (((chK l (p.1 * ne + p.2).toNat).map vI).map fv).length = 64; rw [List.length_map]; exact hV)) ?_
   refine aops_nil ?_
   change Awp _ _ _ _ _
   refine awp_ret ?_
   refine ⟨_, (.cons (.cellA rfl rfl sz236 (by show (((chK l (p.1 * ne + p.2).toNat).map vI).map fv).length = _; rw [List.length_map]; exact hV)) .nil), ?_⟩
   rfl
theorem ints64_p (V : List Int) (hV : V.length = 64) (hb : ∀ v ∈ V, -2047 ≤ v ∧ v ≤ 2047) : PC Tryz.prog 240 [.agg (V.map fv)] (.sl 1 (V.map iC)) := by
 refine pc_of_awpN Tryz.func240 rfl Tryz.ntmps240 (rs := [.tmp 2]) Tryz.results240 (by simp) fun w0 hmine hrnd hpn => ?_
 refine awp_seq ?_
 refine xa 2 ?_
 refine rg_q (q_box rfl (by exact .inr ⟨_, rfl⟩)) ?_
 refine rg_q (q_assign (x := .d (.sl _ _)) rfl) ?_
 refine rs (xa 1 ?_)
 refine rg_q (q_assign_nil) ?_
 refine rn ?_
 change Awp _ _ _ _ _
 refine Awp.le (le_own (k := 3) (e := 3) (sz := 1) rfl rfl) ?_
 refine awp_seq ?_
 refine awp_seq ?_
 refine xa 1 ?_
 refine rg_q (q_a rfl) ?_
 refine xc (awp_block ?_)
 refine awp_loopH [3, 4, 5, 6, 7, 8, 9, 10, 11, 12, 13, 14, 15] [3] (α := Nat) (fun k => [(4, T.i (k : Int)), (3, .rs 3)]) (fun k => [(3, .row 3 1 ((V.take k).map iC))]) (fun k => k ≤ 64) (fun k => 64 - k) 0 (Nat.zero_le _) ?_ ?_
 · exact xh (ms := [3]) (by repeat (exact Out.refl _)) ⟨(by rfl), (by rfl), trivial⟩ ⟨(by rfl), trivial⟩
 ·
  intro k hk
  refine awp_seq ?_
  refine awp_seq ?_
  refine xa 2 ?_
  refine rg_q (q_m rfl) (rg_q (q_lss rfl rfl) ?_)
  refine xc (awp_cond rfl (fun hc3 => ?_) (fun hc3 => ?_))
  ·
   (try simp only [nb, ne_eq] at hc3)
   have hlt : k < 64 := by omega
   obtain ⟨x, hx⟩ : ∃ x, V[k]? = some x := ⟨_, List.getElem?_eq_getElem (by omega)⟩
   obtain ⟨hx1, hx2⟩ := hb x (List.mem_of_getElem? hx)
   have hld := fv_at hx
   have hs1 : (V.take k).map iC ++ [iC x] = (V.take (k + 1)).map iC := by rw [List.take_succ_eq_append_getElem (by omega), (List.getElem?_eq_some_iff.1 hx).2, List.map_append]; rfl
   have htl : (V.take k).length ≤ 64 := by rw [List.length_take]; omega
   refine awp_skip ?_
   change Awp _ _ _ _ _
   refine awp_seq ?_
   refine awp_block ?_
   refine xa 6 ?_
   refine rg_q (q_move (x := .rs _) rfl) (rg_q (q_m rfl) ?_)
   refine rg_q (q_indexAddr_ar ar236 rfl rfl (by omega) (by omega)) ?_
   refine rg_q (q_load sz117 rfl hld) ?_
   refine rg_q (q_convfi flt117 int3 rfl (f32_int (f32_of (by omega) (by omega)))) ?_
   refine rg_q (q_buildSlice sl77 zr3 rfl rfl (by decide) (.cons rfl (by exact .inl rfl) .nil) ⟨rfl, rfl, trivial⟩ rfl (by decide) rfl) ?_
   refine rg_nil ?_
   refine aops_append sl77 zr3 by3 rfl (by decide) rfl rfl rfl rfl (by (try simp only [List.length_map, List.length_append, List.length_cons, List.length_nil]); omega) (by (try simp only [List.length_map, List.length_append, List.length_cons, List.length_nil]); omega) rfl rfl ?_
   refine aops_q rfl (q_assign (x := .rs _) rfl) ?_
   refine aops_nil ?_
   change Awp _ _ _ _ _
   refine xa 3 ?_
   refine rg_q (q_m rfl) ?_
   refine rg_q (q_add rfl rfl xi) ?_
   refine rg_q (q_a rfl) ?_
   refine rn ?_
   refine ⟨k + 1, by omega, by omega, ?_⟩
   exact xh (ms := [3]) (by repeat (first | exact Out.head rfl rfl | (refine Out.put ?_ rfl) | (refine Out.site ?_ rfl) | (refine Out.killS ?_ rfl))) ⟨(by rfl), (by rfl), trivial⟩ ⟨(by (show Site.row _ _ _ = Site.row _ _ _; rw [← hs1]; rfl)), trivial⟩
  ·
   (try simp only [nb, ne_eq] at hc3)
   have hk64 : k = 64 := by omega
   subst hk64
   rw [List.take_of_length_le (by omega)]
   refine awp_exit ?_
   change Awp _ _ _ _ _
   refine awp_seq ?_
   refine xa 2 ?_
   refine rg_q (q_move (x := .rs _) rfl) (rg_q (q_assign (x := .rs _) rfl) ?_)
   refine xc (awp_ret ?_)
   refine ⟨_, (.cons (.tmp (by exact .rs rfl)) .nil), ?_⟩
   rfl

def prtF (V : List Int) (k : Nat) : List (Int × Int) := (List.range k).map fun i => (reI V i, imI V i)
theorem prtF_succ (V : List Int) (k : Nat) : prtF V (k + 1) = prtF V k ++ [(reI V k, imI V k)] := by unfold prtF; rw [List.range_succ, List.map_append]; rfl
theorem prtF_len (V : List Int) (k : Nat) : (prtF V k).length = k := by unfold prtF; rw [List.length_map, List.length_range]
theorem prtF_at {V : List Int} {n k : Nat} (h : k < n) : (prtF V n)[k]? = some (reI V k, imI V k) := by unfold prtF; rw [List.getElem?_map, List.getElem?_range h]; rfl
theorem parts5_p (V : List Int) (hV : V.length = 64) (hb : ∀ v ∈ V, -2047 ≤ v ∧ v ≤ 2047) : PC Tryz.prog 176 [.agg (V.map fv)] (.sl 2 ((prtF V 61).map shC)) := by
 refine pc_of_awpN Tryz.func176 rfl Tryz.ntmps176 (rs := [.tmp 2]) Tryz.results176 (by simp) fun w0 hmine hrnd hpn => ?_
 refine awp_seq ?_
 refine xa 2 ?_
 refine rg_q (q_box rfl (by exact .inr ⟨_, rfl⟩)) ?_
 refine rg_q (q_assign (x := .d (.sl _ _)) rfl) ?_
 refine rs (xa 3 ?_)
 refine rg_q (q_loadA (ds := V.map fv) sz236 rfl (by rw [List.drop_zero]; exact List.take_of_length_le (by show (V.map fv).length ≤ 64; rw [List.length_map]; omega)) (by rw [List.length_map]; exact hV)) ?_
 refine rg_q (q_call en240 (.cons rfl .nil) rfl (ints64_p V hV hb)) ?_
 refine rg_q (q_assign (x := .d (.sl _ _)) rfl) ?_
 refine rs (xa 1 ?_)
 refine rg_q (q_assign_nil) ?_
 refine rn ?_
 change Awp _ _ _ _ _
 refine Awp.le (le_own (k := 4) (e := 63) (sz := 2) rfl rfl) ?_
 refine awp_seq ?_
 refine awp_seq ?_
 refine xa 1 ?_
 refine rg_q (q_a rfl) ?_
 refine xc (awp_block ?_)
 refine awp_loopH [4, 5, 8, 9, 10, 11, 12, 13, 14, 15, 16, 17, 18, 19, 20, 21, 22, 23, 24, 25, 26, 27, 28, 29, 30, 31, 32, 33, 34, 35, 36] [4] (α := Nat) (fun k => [(5, T.i (k : Int)), (4, .rs 4)]) (fun k => [(4, .row 63 2 ((prtF V k).map shC))]) (fun k => k ≤ 61) (fun k => 61 - k) 0 (Nat.zero_le _) ?_ ?_
 · exact xh (ms := [4]) (by repeat (exact Out.refl _)) ⟨(by rfl), (by rfl), trivial⟩ ⟨(by rfl), trivial⟩
 ·
  intro k hk
  refine awp_seq ?_
  refine awp_seq ?_
  refine xa 2 ?_
  refine rg_q (q_m rfl) (rg_q (q_lss rfl rfl) ?_)
  refine xc (awp_cond rfl (fun hc4 => ?_) (fun hc4 => ?_))
  ·
   (try simp only [nb, ne_eq] at hc4)
   have hlt : k < 61 := by omega
   have h0 := sAt_at hV (show k < 64 by omega)
   have h1 := sAt_at hV (show k + 1 < 64 by omega)
   have h2 := sAt_at hV (show k + 2 < 64 by omega)
   have h3 := sAt_at hV (show k + 3 < 64 by omega)
   have b0 := sAt_in hb k
   have b1 := sAt_in hb (k + 1)
   have b2 := sAt_in hb (k + 2)
   have b3 := sAt_in hb (k + 3)
   have hml : (V.map iC).length = V.length := List.length_map _
   have hs1 : (prtF V k).map shC ++ [shC (reI V k, imI V k)] = (prtF V (k + 1)).map shC := by rw [prtF_succ, List.map_append]; rfl
   have htl := prtF_len V k
   refine awp_skip ?_
   change Awp _ _ _ _ _
   refine awp_seq ?_
   refine awp_block ?_
   refine xa 24 ?_
   refine rg_q (q_move (x := .rs _) rfl) (rg_q (q_move (x := .d (.sl _ _)) rfl) (rg_q (q_m rfl) ?_))
   refine rg_q (q_indexAddr sl77 rfl rfl (by omega) (map_at (k := k) (by omega) h0)) ?_
   refine rg_q (q_load sz3 rfl rfl) (rg_q (q_move (x := .d (.sl _ _)) rfl) (rg_q (q_m rfl) ?_))
   refine rg_q (q_add rfl rfl xi) ?_
   refine rg_q (q_indexAddr sl77 rfl rfl (by omega) (map_at (k := k + 2) (by omega) h2)) ?_
   refine rg_q (q_load sz3 rfl rfl) ?_
   refine rg_q (q_sub rfl rfl xi) ?_
   refine rg_q (q_move (x := .d (.sl _ _)) rfl) (rg_q (q_m rfl) ?_)
   refine rg_q (q_add rfl rfl xi) ?_
   refine rg_q (q_indexAddr sl77 rfl rfl (by omega) (map_at (k := k + 1) (by omega) h1)) ?_
   refine rg_q (q_load sz3 rfl rfl) (rg_q (q_move (x := .d (.sl _ _)) rfl) (rg_q (q_m rfl) ?_))
   refine rg_q (q_add rfl rfl xi) ?_
   refine rg_q (q_indexAddr sl77 rfl rfl (by omega) (map_at (k := k + 3) (by omega) h3)) ?_
   refine rg_q (q_load sz3 rfl rfl) ?_
   refine rg_q (q_sub rfl rfl xi) ?_
   refine rg_q (q_buildA (cs := [_, _]) ar63 zr63 rfl (.cons rfl (by exact .inl rfl) (.cons rfl (by exact .inl rfl) .nil)) ⟨⟨rfl, by decide⟩, ⟨rfl, by decide⟩, trivial⟩ rfl) ?_
   refine rg_q (q_buildSlice sl140 zr63 rfl rfl (by decide) (.cons rfl (by exact .inr ⟨_, rfl⟩) .nil) ⟨rfl, rfl, trivial⟩ rfl (by decide) rfl) ?_
   refine rg_nil ?_
   refine aops_append sl140 zr63 by63 rfl (by decide) rfl rfl rfl rfl (by (try simp only [List.length_map, List.length_append, List.length_cons, List.length_nil]); omega) (by (try simp only [List.length_map, List.length_append, List.length_cons, List.length_nil]); omega) rfl rfl ?_
   refine aops_q rfl (q_assign (x := .rs _) rfl) ?_
   refine aops_nil ?_
   change Awp _ _ _ _ _
   refine xa 3 ?_
   refine rg_q (q_m rfl) ?_
   refine rg_q (q_add rfl rfl xi) ?_
   refine rg_q (q_a rfl) ?_
   refine rn ?_
   refine ⟨k + 1, by omega, by omega, ?_⟩
   exact xh (ms := [4]) (by repeat (first | exact Out.head rfl rfl | (refine Out.put ?_ rfl) | (refine Out.site ?_ rfl) | (refine Out.killS ?_ rfl))) ⟨(by rfl), (by rfl), trivial⟩ ⟨(by (show Site.row _ _ _ = Site.row _ _ _; rw [← hs1]; rfl)), trivial⟩
  ·
   (try simp only [nb, ne_eq] at hc4)
   have hk64 : k = 61 := by omega
   subst hk64
   refine awp_exit ?_
   change Awp _ _ _ _ _
   refine awp_seq ?_
   refine xa 2 ?_
   refine rg_q (q_move (x := .rs _) rfl) (rg_q (q_assign (x := .rs _) rfl) ?_)
   refine xc (awp_ret ?_)
   refine ⟨_, (.cons (.tmp (by exact .rs rfl)) .nil), ?_⟩
   rfl

theorem smpS_len {t : Tsk} (h : TskOk t) {y : Int × Int} (hp : (0 ≤ y.1 ∧ y.1 < t.ne) ∧ 0 ≤ y.2 ∧ y.2 < t.ne) : (smpS t y).length = 64 := by
  obtain ⟨h1, h2, h3⟩ := tsk_len h
  obtain ⟨⟨q1, q2⟩, q3⟩ := pr_idx h (j := y.2.toNat) hp.1.1 hp.1.2 (by omega)
  unfold smpS
  rw [List.length_map]
  exact chK_len h1 (by omega)
theorem smpS_in {t : Tsk} (h : TskOk t) (y : Int × Int) : ∀ v ∈ smpS t y, -2047 ≤ v ∧ v ≤ 2047 := vI_in (chK_wh h.wh _)
theorem rpartsOf_p (t : Tsk) (y : Int × Int) (h : TskOk t) (hp : (0 ≤ y.1 ∧ y.1 < t.ne) ∧ 0 ≤ y.2 ∧ y.2 < t.ne) : PC Tryz.prog 107 [.agg (tskC t), .agg (shC y)] (.sl 2 ((prtF (smpS t y) 61).map shC)) := by
 refine pc_of_awpN Tryz.func107 rfl Tryz.ntmps107 (rs := [.tmp 4]) Tryz.results107 (by simp) fun w0 hmine hrnd hpn => ?_
 refine awp_seq ?_
 refine xa 3 ?_
 refine rg_q (q_box rfl (by exact .inr ⟨_, rfl⟩)) ?_
 refine rg_q (q_box rfl (by exact .inr ⟨_, rfl⟩)) ?_
 refine rg_q (q_assign (x := .d (.sl _ _)) rfl) ?_
 refine rs (xa 6 ?_)
 refine rg_q (q_fieldAddr fld37_1 rfl) ?_
 refine rg_q (q_loadA (ds := [_, _]) sz31 rfl rfl rfl) ?_
 refine rg_q (q_loadA (ds := [_, _]) sz63 rfl rfl rfl) ?_
 refine rg_q (q_call en177 (.cons rfl (.cons rfl .nil)) rfl (rtraceOf5_p t.ne t.bf y h.n2 hp.1 hp.2 h.wh h.nl)) ?_
 refine rg_q (q_call en176 (.cons rfl .nil) rfl (parts5_p (smpS t y) (smpS_len h hp) (smpS_in h y))) ?_
 refine rg_q (q_assign (x := .d (.sl _ _)) rfl) ?_
 refine xc (awp_ret ?_)
 refine ⟨_, xk1, ?_⟩
 rfl

def nuR (t : Tsk) (c : Int) (y : Int × Int) : Int × Int := if inR 0 (smpI t.ar (spI t.g c) y) 60 = true then (smpI t.ar (spI t.g c) y, 0) else (0, 12)
theorem cell_pr {t : Tsk} (h : TskOk t) {c : Int} {pr : Int × Int} (hc : clE t.g c = 0) (hp : (0 ≤ pr.1 ∧ pr.1 < t.ne) ∧ 0 ≤ pr.2 ∧ pr.2 < t.ne) : ArrOk t.ar ∧ ((0 ≤ pr.1 ∧ pr.1 < t.ar.el.length) ∧ 0 ≤ pr.2 ∧ pr.2 < t.ar.el.length) ∧ spotE (spI t.g c) = 0 ∧ plateE (spI t.g c).2 t.ar.ou.t = 0 := by
  obtain ⟨c1, c2⟩ := clE_ok hc
  obtain ⟨i1, i2, i3, i4⟩ := sp_in h c1 c2
  obtain ⟨hao, _⟩ := ckArr_ok h.ck
  have hel := h.el
  exact ⟨hao, by omega, spot_ok.2 ⟨i1, i2⟩, plate_ok.2 ⟨i3, i4⟩⟩
theorem rnumberAt_p (t : Tsk) (c : Int) (y : Int × Int) (h : TskOk t) (hc : clE t.g c = 0) (hp : (0 ≤ y.1 ∧ y.1 < t.ne) ∧ 0 ≤ y.2 ∧ y.2 < t.ne) : PC Tryz.prog 35 [.agg (tskC t), .v (.int .i64 (c)), .agg (shC y)] (.tup [.v (.int .i64 ((nuR t c y).1)), .v (.int .i64 ((nuR t c y).2))]) := by
 obtain ⟨hg, _, _⟩ := ckG_ok h.gr
 obtain ⟨c1, c2⟩ := clE_ok hc
 have hci := cells_in hg
 obtain ⟨hok, hpk, hs, hpl⟩ := cell_pr h hc hp
 refine pc_of_awpN Tryz.func35 rfl Tryz.ntmps35 (rs := [.tmp 6, .tmp 7]) Tryz.results35 (by simp) fun w0 hmine hrnd hpn => ?_
 refine awp_seq ?_
 refine xa 4 ?_
 refine rg_q (q_box rfl (by exact .inr ⟨_, rfl⟩)) ?_
 refine rg_q (q_box rfl (by exact .inr ⟨_, rfl⟩)) ?_
 refine rg_q (q_a rfl) (rg_q (q_a rfl) ?_)
 refine rs (xa 9 ?_)
 refine rg_q (q_fieldAddr fld37_0 rfl) ?_
 refine rg_q (q_loadA (ds := [_, _, _, _, _, _, _, _, _, _, _]) sz28 rfl rfl rfl) ?_
 refine rg_q (q_fieldAddr fld37_2 rfl) ?_
 refine rg_q (q_loadA (ds := [_, _, _, _, _]) sz35 rfl rfl rfl) ?_
 refine rg_q (q_m rfl) ?_
 refine rg_q (q_call en76 (.cons rfl (.cons rfl .nil)) rfl (rspot_p t.g c hg c1 (by omega))) ?_
 refine rg_q (q_loadA (ds := [_, _]) sz63 rfl rfl rfl) ?_
 refine rg_q (q_call en111 (.cons rfl (.cons rfl (.cons rfl .nil))) rfl (rsampleOf_p t.ar (spI t.g c) y hok hpk hs hpl)) ?_
 refine rg_q (q_a rfl) ?_
 refine rs (awp_seq ?_)
 refine xa 3 ?_
 refine rg_q (q_m rfl) ?_
 refine rg_q (q_call en31 (.cons rfl (.cons rfl (.cons rfl .nil))) rfl (within4_p _ _ _)) ?_
 refine rg_q (q_not rfl) ?_
 refine xc (awp_cond rfl (fun hc2 => ?_) (fun hc2 => ?_))
 ·
  (try simp only [nb, ne_eq] at hc2)
  have hz : nuR t c y = (0, 12) := by unfold nuR; rw [if_neg (by rw [hc2]; decide)]
  refine awp_seq ?_
  refine xa 2 ?_
  refine rg_q (q_a rfl) (rg_q (q_a rfl) ?_)
  refine xc (awp_ret ?_)
  refine ⟨_, xk2, ?_⟩
  rw [hz]; rfl
 ·
  (try simp only [nb, ne_eq] at hc2)
  have hz : nuR t c y = (smpI t.ar (spI t.g c) y, 0) := by unfold nuR; rw [if_pos hc2]
  refine awp_skip ?_
  change Awp _ _ _ _ _
  refine awp_seq ?_
  refine xa 3 ?_
  refine rg_q (q_m rfl) (rg_q (q_a rfl) (rg_q (q_a rfl) ?_))
  refine xc (awp_ret ?_)
  refine ⟨_, xk2, ?_⟩
  rw [hz]; rfl
theorem rall_p (n : Nat) (hn : n ≤ 1000) : PC Tryz.prog 55 [.v (.int .i64 ((n : Int)))] (.sl 1 ((allL n).map iC)) := by
 refine pc_of_awpN Tryz.func55 rfl Tryz.ntmps55 (rs := [.tmp 2]) Tryz.results55 (by simp) fun w0 hmine hrnd hpn => ?_
 refine awp_seq ?_
 refine xa 1 ?_
 refine rg_q (q_assign (x := .d (.sl _ _)) rfl) ?_
 refine rs (xa 1 ?_)
 refine rg_q (q_assign_nil) ?_
 refine rn ?_
 change Awp _ _ _ _ _
 refine Awp.le (le_own (k := 3) (e := 3) (sz := 1) rfl rfl) ?_
 refine awp_seq ?_
 refine awp_seq ?_
 refine xa 1 ?_
 refine rg_q (q_a rfl) ?_
 refine xc (awp_block ?_)
 refine awp_loopH [3, 4, 5, 6, 7, 8, 9, 10, 11, 12, 13] [3] (α := Nat) (fun k => [(4, T.i (k : Int)), (3, .rs 3)]) (fun k => [(3, .row 3 1 ((allL k).map iC))]) (fun k => k ≤ n) (fun k => n - k) 0 (Nat.zero_le _) ?_ ?_
 · exact xh (ms := [3]) (by repeat (exact Out.refl _)) ⟨(by rfl), (by rfl), trivial⟩ ⟨(by rfl), trivial⟩
 ·
  intro k hk
  have hal := allL_len k
  refine awp_seq ?_
  refine awp_seq ?_
  refine xa 3 ?_
  refine rg_q (q_m rfl) (rg_q (q_m rfl) (rg_q (q_lss rfl rfl) ?_))
  refine xc (awp_cond rfl (fun hc3 => ?_) (fun hc3 => ?_))
  ·
   (try simp only [nb, ne_eq] at hc3)
   have hsk : (allL (k + 1)).map iC = (allL k).map iC ++ [[.v (.int .i64 (k : Int))]] := by rw [allL_succ, List.map_append]; rfl
   refine awp_skip ?_
   change Awp _ _ _ _ _
   refine awp_seq ?_
   refine awp_block ?_
   refine xa 3 ?_
   refine rg_q (q_move (x := .rs _) rfl) (rg_q (q_m rfl) ?_)
   refine rg_q (q_buildSlice sl77 zr3 rfl rfl (by decide) (.cons rfl (by exact .inl rfl) .nil) ⟨rfl, rfl, trivial⟩ rfl (by decide) rfl) ?_
   refine rg_nil ?_
   refine aops_append sl77 zr3 by3 rfl (by decide) rfl rfl rfl rfl (by (try simp only [List.length_map, List.length_append, List.length_cons, List.length_nil]); omega) (by (try simp only [List.length_map, List.length_append, List.length_cons, List.length_nil]); omega) rfl rfl ?_
   refine aops_q rfl (q_assign (x := .rs _) rfl) ?_
   refine aops_nil ?_
   change Awp _ _ _ _ _
   refine xa 3 ?_
   refine rg_q (q_m rfl) ?_
   refine rg_q (q_add rfl rfl xi) ?_
   refine rg_q (q_a rfl) ?_
   refine rn ?_
   refine ⟨k + 1, by omega, by omega, ?_⟩
   exact xh (ms := [3]) (by repeat (first | exact Out.head rfl rfl | (refine Out.put ?_ rfl) | (refine Out.site ?_ rfl) | (refine Out.killS ?_ rfl))) ⟨(by rfl), (by rfl), trivial⟩ ⟨(by ((show Site.row 3 1 _ = Site.row 3 1 _; rw [hsk]; rfl))), trivial⟩
  ·
   (try simp only [nb, ne_eq] at hc3)
   have hkn : k = n := by omega
   subst hkn
   refine awp_exit ?_
   change Awp _ _ _ _ _
   refine awp_seq ?_
   refine xa 2 ?_
   refine rg_q (q_move (x := .rs _) rfl) (rg_q (q_assign (x := .rs _) rfl) ?_)
   refine xc (awp_ret ?_)
   refine ⟨_, (.cons (.tmp (by exact .rs rfl)) .nil), ?_⟩
   rfl

def prB (fs dd : List Int) (y : Int × Int) : Bool := decide (y.1 ∈ fs) && !decide (y.1 ∈ dd) && !decide (y.2 ∈ dd)
def pqD (fs dd : List Int) (n i : Nat) : List (Int × Int) := ((List.range i).flatMap fun u : Nat => pqR (u : Int) n).filter (prB fs dd)
theorem pqD_succ (fs dd : List Int) (n i : Nat) : pqD fs dd n (i + 1) = pqD fs dd n i ++ (pqR (i : Int) n).filter (prB fs dd) := by
  unfold pqD
  rw [List.range_succ, List.flatMap_append, List.filter_append]; simp
theorem prR_succ (fs dd : List Int) (x : Int) (j : Nat) : (pqR x (j + 1)).filter (prB fs dd) = (pqR x j).filter (prB fs dd) ++ (if prB fs dd (x, (j : Int)) = true then [(x, (j : Int))] else []) := by
  rw [pqR_succ, List.filter_append]
  congr 1
  by_cases h : prB fs dd (x, (j : Int)) = true
  · rw [if_pos h]; simp [h]
  · rw [if_neg h]; simp [h]
theorem pqR_len (x : Int) (j : Nat) : (pqR x j).length = j := by unfold pqR; rw [List.length_map, List.length_range]
theorem pqD_len (fs dd : List Int) (n : Nat) : ∀ i, (pqD fs dd n i).length ≤ i * n
  | 0 => Nat.zero_le _
  | i + 1 => by
    have ih := pqD_len fs dd n i
    have h := List.length_filter_le (prB fs dd) (pqR (i : Int) n)
    rw [pqR_len] at h
    rw [pqD_succ, List.length_append, Nat.succ_mul]; omega
theorem pqD_all (n : Nat) : pqD (allL n) [] n n = pqL (allL n) n := by
  unfold pqD pqL
  have e : ((List.range n).flatMap fun u : Nat => pqR (u : Int) n) = (allL n).flatMap fun x => pqR x n := by unfold allL; rw [List.flatMap_map]
  rw [e, List.filter_eq_self]
  intro y hy
  obtain ⟨h1, _⟩ := pqL_in hy
  unfold prB
  simp [h1]
theorem rpairs_p (n : Nat) (hn : n ≤ 16) (fs dd : List Int) : PC Tryz.prog 135 [.v (.int .i64 ((n : Int))), .sl 1 (fs.map iC), .sl 1 (dd.map iC)] (.sl 2 ((pqD fs dd n n).map shC)) := by
 refine pc_of_awpN Tryz.func135 rfl Tryz.ntmps135 (rs := [.tmp 6]) Tryz.results135 (by simp) fun w0 hmine hrnd hpn => ?_
 refine awp_seq ?_
 refine xa 1 ?_
 refine rg_q (q_assign (x := .d (.sl _ _)) rfl) ?_
 refine rs (xa 1 ?_)
 refine rg_q (q_assign_nil) ?_
 refine rn ?_
 change Awp _ _ _ _ _
 refine Awp.le (le_own (k := 7) (e := 63) (sz := 2) rfl rfl) ?_
 refine awp_seq ?_
 refine awp_seq ?_
 refine xa 1 ?_
 refine rg_q (q_a rfl) ?_
 refine xc (awp_block ?_)
 refine awp_loopH [7, 8, 9, 10, 11, 12, 13, 14, 15, 16, 17, 18, 19, 20, 21, 22, 23, 24, 25, 26, 27, 28, 29, 30, 31, 32, 33, 34, 35, 36, 37, 38, 39, 40] [7] (α := Nat) (fun i => [(8, T.i (i : Int)), (7, .rs 7)]) (fun i => [(7, .row 63 2 ((pqD fs dd n i).map shC))]) (fun i => i ≤ n) (fun i => n - i) 0 (Nat.zero_le _) ?_ ?_
 · exact xh (ms := [7]) (by repeat (exact Out.refl _)) ⟨(by rfl), (by rfl), trivial⟩ ⟨(by rfl), trivial⟩
 ·
  intro i hi
  refine awp_seq ?_
  refine awp_seq ?_
  refine xa 3 ?_
  refine rg_q (q_m rfl) (rg_q (q_m rfl) (rg_q (q_lss rfl rfl) ?_))
  refine xc (awp_cond rfl (fun hc3 => ?_) (fun hc3 => ?_))
  ·
   (try simp only [nb, ne_eq] at hc3)
   have hlt : i < n := by omega
   refine awp_skip ?_
   change Awp _ _ _ _ _
   refine awp_seq ?_
   refine awp_block ?_
   refine awp_seq ?_
   refine xa 1 ?_
   refine rg_q (q_a rfl) ?_
   refine xc (awp_block ?_)
   refine awp_loopH [7, 9, 15, 16, 17, 18, 19, 20, 21, 22, 23, 24, 25, 26, 27, 28, 29, 30, 31, 32, 33, 34, 35, 36, 37, 38, 39, 40] [7] (α := Nat) (fun j => [(9, T.i (j : Int)), (7, .rs 7)]) (fun j => [(7, .row 63 2 ((pqD fs dd n i ++ (pqR (i : Int) j).filter (prB fs dd)).map shC))]) (fun j => j ≤ n) (fun j => n - j) 0 (Nat.zero_le _) ?_ ?_
   · exact xh (ms := [7]) (by repeat (exact Out.refl _)) ⟨(by rfl), (by rfl), trivial⟩ ⟨(by ((show Site.row _ _ _ = Site.row _ _ _; (simp [pqR]; done)))), trivial⟩
   ·
    intro j hj
    have hl1 := pqD_len fs dd n i
    have hl2 := List.length_filter_le (prB fs dd) (pqR (i : Int) j)
    rw [pqR_len] at hl2
    have hl3 := Nat.mul_le_mul (show i ≤ 16 by omega) hn
    refine awp_seq ?_
    refine awp_seq ?_
    refine xa 3 ?_
    refine rg_q (q_m rfl) (rg_q (q_m rfl) (rg_q (q_lss rfl rfl) ?_))
    refine xc (awp_cond rfl (fun hc6 => ?_) (fun hc6 => ?_))
    ·
     (try simp only [nb, ne_eq] at hc6)
     have hlj : j < n := by omega
     refine awp_skip ?_
     change Awp _ _ _ _ _
     refine awp_seq ?_
     refine awp_block ?_
     refine awp_seq ?_
     refine xa 15 ?_
     refine rg_q (q_move (x := .d (.sl _ _)) rfl) (rg_q (q_m rfl) ?_)
     refine rg_q (q_call en134 (.cons rfl (.cons rfl .nil)) rfl (has5_p _ _)) ?_
     refine rg_q (q_m rfl) ?_
     refine rg_g rfl rfl (fun hG => (q_move (x := .d (.sl _ _)) rfl)) ?_
     refine rg_g rfl rfl (fun hG => (q_m rfl)) ?_
     refine rg_g rfl rfl (fun hG => (q_call en134 (.cons rfl (.cons rfl .nil)) rfl (has5_p _ _))) ?_
     refine rg_g rfl rfl (fun hG => (q_not rfl)) ?_
     refine rg_pick rfl rfl rfl rfl rfl rfl ?_
     refine rg_q (q_m rfl) ?_
     refine rg_g rfl rfl (fun hG => (q_move (x := .d (.sl _ _)) rfl)) ?_
     refine rg_g rfl rfl (fun hG => (q_m rfl)) ?_
     refine rg_g rfl rfl (fun hG => (q_call en134 (.cons rfl (.cons rfl .nil)) rfl (has5_p _ _))) ?_
     refine rg_g rfl rfl (fun hG => (q_not rfl)) ?_
     refine rg_pick rfl rfl rfl rfl rfl rfl ?_
     refine xc (awp_cond rfl (fun hc8 => ?_) (fun hc8 => ?_))
     ·
      (try simp only [nb, ne_eq] at hc8)
      have hb : prB fs dd ((i : Int), (j : Int)) = true := by unfold prB; simp [hc8]
      have hsk : (pqD fs dd n i ++ (pqR (i : Int) (j + 1)).filter (prB fs dd)).map shC = (pqD fs dd n i ++ (pqR (i : Int) j).filter (prB fs dd)).map shC ++ [shC ((i : Int), (j : Int))] := by rw [prR_succ, if_pos hb, ← List.append_assoc, List.map_append]; rfl
      refine xa 5 ?_
      refine rg_q (q_move (x := .rs _) rfl) (rg_q (q_m rfl) (rg_q (q_m rfl) ?_))
      refine rg_q (q_buildA (cs := [_, _]) ar63 zr63 rfl (.cons rfl (by exact .inl rfl) (.cons rfl (by exact .inl rfl) .nil)) ⟨⟨rfl, by decide⟩, ⟨rfl, by decide⟩, trivial⟩ rfl) ?_
      refine rg_q (q_buildSlice sl140 zr63 rfl rfl (by decide) (.cons rfl (by exact .inr ⟨_, rfl⟩) .nil) ⟨rfl, rfl, trivial⟩ rfl (by decide) rfl) ?_
      refine rg_nil ?_
      refine aops_append sl140 zr63 by63 rfl (by decide) rfl rfl rfl rfl (by (try simp only [List.length_map, List.length_append, List.length_cons, List.length_nil]); omega) (by (try simp only [List.length_map, List.length_append, List.length_cons, List.length_nil]); omega) rfl rfl ?_
      refine aops_q rfl (q_assign (x := .rs _) rfl) ?_
      refine aops_nil ?_
      change Awp _ _ _ _ _
      refine xa 3 ?_
      refine rg_q (q_m rfl) ?_
      refine rg_q (q_add rfl rfl xi) ?_
      refine rg_q (q_a rfl) ?_
      refine rn ?_
      refine ⟨j + 1, by omega, by omega, ?_⟩
      exact xh (ms := [7]) (by repeat (first | exact Out.head rfl rfl | (refine Out.put ?_ rfl) | (refine Out.site ?_ rfl) | (refine Out.killS ?_ rfl))) ⟨(by rfl), (by rfl), trivial⟩ ⟨(by ((show Site.row _ _ _ = Site.row _ _ _; (rw [hsk]; rfl)))), trivial⟩
     ·
      (try simp only [nb, ne_eq] at hc8)
      have hb : ¬ prB fs dd ((i : Int), (j : Int)) = true := by
       intro q
       unfold prB at q
       simp at q
       simp_all
      have hsk : (pqD fs dd n i ++ (pqR (i : Int) (j + 1)).filter (prB fs dd)).map shC = (pqD fs dd n i ++ (pqR (i : Int) j).filter (prB fs dd)).map shC := by rw [prR_succ, if_neg hb, List.append_nil]
      refine awp_skip ?_
      change Awp _ _ _ _ _
      refine xa 3 ?_
      refine rg_q (q_m rfl) ?_
      refine rg_q (q_add rfl rfl xi) ?_
      refine rg_q (q_a rfl) ?_
      refine rn ?_
      refine ⟨j + 1, by omega, by omega, ?_⟩
      exact xh (ms := [7]) (by repeat (first | exact Out.head rfl rfl | (refine Out.put ?_ rfl))) ⟨(by rfl), (by rfl), trivial⟩ ⟨(by ((show Site.row _ _ _ = Site.row _ _ _; (rw [hsk]; done)))), trivial⟩
    ·
     (try simp only [nb, ne_eq] at hc6)
     have hjn : j = n := by omega
     subst hjn
     have hsk : (pqD fs dd j (i + 1)).map shC = (pqD fs dd j i ++ (pqR (i : Int) j).filter (prB fs dd)).map shC := by rw [pqD_succ]
     refine awp_exit ?_
     change Awp _ _ _ _ _
     refine xa 3 ?_
     refine rg_q (q_m rfl) ?_
     refine rg_q (q_add rfl rfl xi) ?_
     refine rg_q (q_a rfl) ?_
     refine rn ?_
     refine ⟨i + 1, by omega, by omega, ?_⟩
     exact xh (ms := [7]) (by repeat (first | exact Out.head rfl rfl | (refine Out.put ?_ rfl) | (refine Out.headIn ?_ rfl rfl rfl))) ⟨(by rfl), (by rfl), trivial⟩ ⟨(by ((show Site.row _ _ _ = Site.row _ _ _; (rw [hsk]; done)))), trivial⟩
  ·
   (try simp only [nb, ne_eq] at hc3)
   have hin : i = n := by omega
   subst hin
   refine awp_exit ?_
   change Awp _ _ _ _ _
   refine awp_seq ?_
   refine xa 2 ?_
   refine rg_q (q_move (x := .rs _) rfl) (rg_q (q_assign (x := .rs _) rfl) ?_)
   refine xc (awp_ret ?_)
   refine ⟨_, (.cons (.tmp (by exact .rs rfl)) .nil), ?_⟩
   rfl

theorem pqD_ev {t : Tsk} (h : t.ne.toNat = t.ar.el.length) : pqD (allL t.ar.el.length) [] t.ar.el.length t.ar.el.length = evL t := by
  rw [pqD_all]; unfold evL; rw [h]
theorem revery_p (t : Tsk) (h : TskOk t) : PC Tryz.prog 100 [.agg (tskC t)] (.sl 2 ((evL t).map shC)) := by
 have hn1 := h.n1
 have hn2 := h.n2
 have hel := h.el
 have hen : t.ne.toNat = t.ar.el.length := by omega
 refine pc_of_awpN Tryz.func100 rfl Tryz.ntmps100 (rs := [.tmp 2]) Tryz.results100 (by simp) fun w0 hmine hrnd hpn => ?_
 refine awp_seq ?_
 refine xa 2 ?_
 refine rg_q (q_box rfl (by exact .inr ⟨_, rfl⟩)) ?_
 refine rg_q (q_assign (x := .d (.sl _ _)) rfl) ?_
 refine rs (xa 5 ?_)
 refine rg_q (q_fieldAddr fld37_0 rfl) (rg_q (q_fieldAddr fld28_0 rfl) (rg_q (q_load sz22 rfl rfl) ?_))
 refine rg_q (q_len isl22 rfl (by exact len_map _ _)) ?_
 refine rg_q (q_a rfl) ?_
 refine xc (awp_len (t := 6) rfl (fun hl6 => ?_))
 (try simp only [List.length_map] at hl6)
 refine awp_seq ?_
 refine xa 5 ?_
 refine rg_q (q_m rfl) (rg_q (q_m rfl) ?_)
 refine rg_q (q_call en55 (.cons rfl .nil) rfl (rall_p t.ar.el.length (by omega))) ?_
 refine rg_q (q_call en135 (.cons rfl (.cons rfl (.cons rfl .nil))) rfl ((by have h := rpairs_p t.ar.el.length (by omega) (allL t.ar.el.length) []; rw [pqD_ev hen] at h; exact h))) ?_
 refine rg_q (q_assign (x := .d (.sl _ _)) rfl) ?_
 refine xc (awp_ret ?_)
 refine ⟨_, xk1, ?_⟩
 rfl
theorem rnum_p (re im : Int) : PC Tryz.prog 101 [.v (.int .i64 (re)), .v (.int .i64 (im))] (cz re im) := by
 refine pc_of_awp Tryz.func101 rfl Tryz.ntmps101 (rs := [.tmp 4]) Tryz.results101 (by simp) fun w0 => ?_
 refine awp_seq ?_
 refine xa 1 ?_
 refine rg_q (q_a rfl) ?_
 refine rs (xa 6 ?_)
 refine rg_q (q_m rfl) ?_
 refine rg_q (q_convf int3 flt167 rfl) ?_
 refine rg_q (q_m rfl) ?_
 refine rg_q (q_convf int3 flt167 rfl) ?_
 refine rg_q (q_complex rfl rfl) ?_
 refine rg_q (q_a rfl) ?_
 refine xc (awp_ret ?_)
 refine ⟨_, xk1, ?_⟩
 rfl

theorem vlF_nil (t : Tsk) (c : Int) (s : (Int × Int) × Int) (y : Int × Int) : vlF t c [] s y = if inR 0 (smpI t.ar (spI t.g c) y) 60 = true then ((s.1.1 + reI (smpS t y) (smpI t.ar (spI t.g c) y).toNat, s.1.2 + imI (smpS t y) (smpI t.ar (spI t.g c) y).toNat), s.2 + 1) else s := if_neg (show ¬ (hasI [] y.1 || hasI [] y.2) = true from Bool.false_ne_true)
def PrsOk (t : Tsk) (l : List (Int × Int)) : Prop := (∀ y ∈ l, (0 ≤ y.1 ∧ y.1 < t.ne) ∧ 0 ≤ y.2 ∧ y.2 < t.ne) ∧ l.length ≤ 1600
theorem ev_ok {t : Tsk} (h : TskOk t) : PrsOk t (evL t) := by
  obtain ⟨ha1, ha2⟩ := allL_ok h
  have h1 := h.n1
  have h2 := h.n2
  refine ⟨fun y hy => ?_, ?_⟩
  · obtain ⟨q1, q2, q3⟩ := pqL_in hy
    exact ⟨ha1 _ q1, q2, by omega⟩
  · unfold evL
    rw [pqL_len]
    have := Nat.mul_le_mul ha2 (show t.ne.toNat ≤ 16 by omega)
    omega
theorem rsum_p (t : Tsk) (c : Int) (l : List (Int × Int)) (h : TskOk t) (hc : clE t.g c = 0) (hl : PrsOk t l) : PC Tryz.prog 99 [.agg (tskC t), .v (.int .i64 (c)), .sl 2 (l.map shC)] (.tup [.v (.int .i64 ((vlA t c [] (l)).1.1)), .v (.int .i64 ((vlA t c [] (l)).1.2)), .v (.int .i64 ((vlA t c [] (l)).2))]) := by
 obtain ⟨hl1, hl2⟩ := hl
 refine pc_of_awpN Tryz.func99 rfl Tryz.ntmps99 (rs := [.tmp 6, .tmp 7, .tmp 8]) Tryz.results99 (by simp) fun w0 hmine hrnd hpn => ?_
 refine awp_seq ?_
 refine xa 4 ?_
 refine rg_q (q_box rfl (by exact .inr ⟨_, rfl⟩)) ?_
 refine rg_q (q_a rfl) (rg_q (q_a rfl) (rg_q (q_a rfl) ?_))
 refine rs (xa 3 ?_)
 refine rg_q (q_a rfl) (rg_q (q_a rfl) (rg_q (q_a rfl) ?_))
 refine rs (awp_seq ?_)
 refine xa 1 ?_
 refine rg_q (q_a rfl) ?_
 refine xc (awp_block ?_)
 refine awp_loopH [9, 10, 11, 12, 13, 14, 15, 16, 17, 18, 19, 20, 21, 22, 23, 24, 25, 26, 27, 28, 29, 30, 31, 32, 33, 34, 35, 36, 37, 38, 39, 40, 41, 42, 43, 44, 45, 46, 47, 48, 49, 50, 51, 52] [] (α := Nat) (fun k => [(12, T.i (k : Int)), (9, .d (.v (.int .i64 ((vlA t c [] (l.take k)).1.1)))), (10, .d (.v (.int .i64 ((vlA t c [] (l.take k)).1.2)))), (11, .d (.v (.int .i64 ((vlA t c [] (l.take k)).2))))]) (fun k => []) (fun k => k ≤ l.length) (fun k => l.length - k) 0 (Nat.zero_le _) ?_ ?_
 · exact xh (ms := []) (by repeat (exact Out.refl _)) ⟨(by rfl), (by rfl), (by rfl), (by rfl), trivial⟩ trivial
 ·
  intro k hk
  refine awp_seq ?_
  refine awp_seq ?_
  refine xa 4 ?_
  refine rg_q (q_m rfl) (rg_q (q_move (x := .d (.sl _ _)) rfl) ?_)
  refine rg_q (q_len isl140 rfl (by exact len_map _ _)) ?_
  refine rg_q (q_lss rfl rfl) ?_
  refine xc (awp_len (t := 17) rfl (fun hl17 => ?_))
  (try simp only [List.length_map] at hl17)
  refine awp_cond rfl (fun hc3 => ?_) (fun hc3 => ?_)
  ·
   (try simp only [nb, ne_eq] at hc3)
   have hlt : k < l.length := by omega
   obtain ⟨y, hy⟩ : ∃ y, l[k]? = some y := ⟨_, List.getElem?_eq_getElem hlt⟩
   have hp := hl1 y (List.mem_of_getElem? hy)
   obtain ⟨⟨b1, b2⟩, ⟨b3, b4⟩, b5, b6⟩ := vlA_in h (c := c) (dd := []) (l := l) k (by omega)
   obtain ⟨⟨hre1, hre2⟩, him1, him2⟩ := reim_in h y (smpI t.ar (spI t.g c) y).toNat
   have hst := vlA_snoc (t := t) (c := c) (dd := []) hy
   rw [vlF_nil] at hst
   refine awp_skip ?_
   change Awp _ _ _ _ _
   refine awp_seq ?_
   refine awp_block ?_
   refine awp_seq ?_
   refine xa 12 ?_
   refine rg_q (q_loadA sz37 rfl rfl rfl) ?_
   refine rg_q (q_m rfl) (rg_q (q_move (x := .d (.sl _ _)) rfl) (rg_q (q_m rfl) ?_))
   refine rg_q (q_indexAddr sl140 rfl rfl (by omega) (map_at (by omega) hy)) ?_
   refine rg_q (q_loadA (ds := [_, _]) sz63 rfl rfl rfl) ?_
   refine rg_q (q_call en35 (.cons rfl (.cons rfl (.cons rfl .nil))) rfl (rnumberAt_p t c y h hc hp)) ?_
   refine rg_q (q_move (x := .d (.tup _)) rfl) (rg_q (q_extract rfl rfl) (rg_q (q_extract rfl rfl) (rg_q (q_a rfl) (rg_q (q_a rfl) ?_))))
   refine rs (awp_seq ?_)
   refine xa 2 ?_
   refine rg_q (q_m rfl) (rg_q (q_neq rfl rfl) ?_)
   refine xc (awp_cond rfl (fun hc6 => ?_) (fun hc6 => ?_))
   ·
    (try simp only [nb, ne_eq] at hc6)
    have hin : ¬ inR 0 (smpI t.ar (spI t.g c) y) 60 = true := fun q => by unfold nuR at hc6; rw [if_pos q] at hc6; exact hc6 rfl
    rw [if_neg hin] at hst
    refine awp_exit ?_
    change Awp _ _ _ _ _
    refine xa 3 ?_
    refine rg_q (q_m rfl) ?_
    refine rg_q (q_add rfl rfl xi) ?_
    refine rg_q (q_a rfl) ?_
    refine rn ?_
    refine ⟨k + 1, by omega, by omega, ?_⟩
    exact xh (ms := []) (by repeat (first | exact Out.head rfl rfl | (refine Out.put ?_ rfl))) ⟨(by rfl), (by (show T.d _ = T.d _; (rw [hst]; done))), (by (show T.d _ = T.d _; (rw [hst]; done))), (by (show T.d _ = T.d _; (rw [hst]; done))), trivial⟩ trivial
   ·
    (try simp only [nb, ne_eq] at hc6)
    have hin : inR 0 (smpI t.ar (spI t.g c) y) 60 = true := by
     cases q : inR 0 (smpI t.ar (spI t.g c) y) 60 with
     | true => rfl
     | false => unfold nuR at hc6; rw [q, if_neg (by decide)] at hc6; cases hc6
    rw [if_pos hin] at hst
    obtain ⟨n1, n2⟩ := inR_iff.1 hin
    have hnu : nuR t c y = (smpI t.ar (spI t.g c) y, 0) := by unfold nuR; rw [if_pos hin]
    have hpt := prtF_at (V := smpS t y) (n := 61) (k := (smpI t.ar (spI t.g c) y).toNat) (by omega)
    rw [hnu]
    refine awp_skip ?_
    change Awp _ _ _ _ _
    refine awp_seq ?_
    refine awp_regionM 11 [none, none, none, none, none, none, none, none, none, some 15, some 15] mixed (by kernel_rfl) ?_
    refine rgm_q rfl (q_loadA sz37 rfl rfl rfl) ?_
    refine rgm_q rfl (q_move (x := .d (.sl _ _)) rfl) ?_
    refine rgm_q rfl (q_m rfl) ?_
    refine rgm_q rfl (q_indexAddr sl140 rfl rfl (by omega) (map_at (by omega) hy)) ?_
    refine rgm_q rfl (q_loadA (ds := [_, _]) sz63 rfl rfl rfl) ?_
    refine rgm_q rfl (q_call en107 (.cons rfl (.cons rfl .nil)) rfl (rpartsOf_p t y h hp)) ?_
    refine rgm_q rfl (q_m rfl) ?_
    refine rgm_q rfl (q_indexAddr sl140 rfl rfl (by omega) (map_at (k := (smpI t.ar (spI t.g c) y).toNat) (by omega) hpt)) ?_
    refine rgm_q rfl (q_loadA (ds := [_, _]) sz63 rfl rfl rfl) ?_
    refine rgm_m (k := 15) rfl rfl (by rfl) (m_alloc zr63 rfl rfl) ?_
    refine rgm_m (k := 15) rfl rfl (by rfl) (m_store sz63 rfl rfl (by exact .inr ⟨_, rfl⟩) rfl rfl (by decide) rfl) ?_
    refine rgm_nil (aops_nil ?_)
    change Awp _ _ _ _ _
    refine Awp.le (le_freeze 15 15 0 (cs := [.v (.int .i64 (reI (smpS t y) (smpI t.ar (spI t.g c) y).toNat)), .v (.int .i64 (imI (smpS t y) (smpI t.ar (spI t.g c) y).toNat))]) rfl rfl rfl rfl hmine) ?_
    refine xa 13 ?_
    refine rg_q (q_m rfl) ?_
    refine rg_q (q_indexAddr_ar ar63 rfl rfl (by omega) (by omega)) ?_
    refine rg_q (q_load sz3 rfl rfl) ?_
    refine rg_q (q_add rfl rfl xi) ?_
    refine rg_q (q_m rfl) ?_
    refine rg_q (q_indexAddr_ar ar63 rfl rfl (by omega) (by omega)) ?_
    refine rg_q (q_load sz3 rfl rfl) ?_
    refine rg_q (q_add rfl rfl xi) ?_
    refine rg_q (q_m rfl) ?_
    refine rg_q (q_add rfl rfl xi) ?_
    refine rg_q (q_a rfl) (rg_q (q_a rfl) (rg_q (q_a rfl) ?_))
    refine rn ?_
    change Awp _ _ _ _ _
    refine xa 3 ?_
    refine rg_q (q_m rfl) ?_
    refine rg_q (q_add rfl rfl xi) ?_
    refine rg_q (q_a rfl) ?_
    refine rn ?_
    refine ⟨k + 1, by omega, by omega, ?_⟩
    exact xh (ms := []) (by repeat (first | exact Out.head rfl rfl | (refine Out.put ?_ rfl) | (refine Out.site ?_ rfl) | (refine Out.headIn ?_ rfl rfl rfl))) ⟨(by rfl), (by (show T.d _ = T.d _; (rw [hst]; done))), (by (show T.d _ = T.d _; (rw [hst]; done))), (by (show T.d _ = T.d _; (rw [hst]; done))), trivial⟩ trivial
  ·
   (try simp only [nb, ne_eq] at hc3)
   have hkl : k = l.length := by omega
   subst hkl
   rw [List.take_length] at *
   refine awp_exit ?_
   change Awp _ _ _ _ _
   refine awp_seq ?_
   refine xa 6 ?_
   refine rg_q (q_m rfl) (rg_q (q_m rfl) (rg_q (q_m rfl) (rg_q (q_a rfl) (rg_q (q_a rfl) (rg_q (q_a rfl) ?_)))))
   refine xc (awp_ret ?_)
   refine ⟨_, xk3, ?_⟩
   rfl
theorem open5_p (t : Tsk) (hw : (ckT t).2 ≠ 0) : PC Tryz.prog 112 [.agg (tskC t)] (.tup [.v (.pointer none), .v (.int .i64 ((ckT t).2))]) := by
 refine pc_of_awpN Tryz.func112 rfl Tryz.ntmps112 (rs := [.tmp 2, .tmp 3]) Tryz.results112 (by simp) fun w0 hmine hrnd hpn => ?_
 refine awp_seq ?_
 refine xa 3 ?_
 refine rg_q (q_box rfl (by exact .inr ⟨_, rfl⟩)) ?_
 refine rg_q (q_a rfl) (rg_q (q_a rfl) ?_)
 refine rs (awp_seq ?_)
 refine xa 7 ?_
 refine rg_q (q_loadA sz37 rfl rfl rfl) ?_
 refine rg_q (q_call en20 (.cons rfl .nil) rfl (checkTask5_p t)) ?_
 refine rg_q (q_move (x := .d (.tup _)) rfl) (rg_q (q_extract rfl rfl) (rg_q (q_extract rfl rfl) (rg_q (q_a rfl) (rg_q (q_a rfl) ?_))))
 refine rs (xa 2 ?_)
 refine rg_q (q_m rfl) (rg_q (q_neq rfl rfl) ?_)
 refine xc (awp_cond rfl (fun hc2 => ?_) (fun hc2 => ?_))
 ·
  (try simp only [nb, ne_eq] at hc2)
  refine awp_seq ?_
  refine xa 3 ?_
  refine rg_q (q_m rfl) (rg_q (q_a rfl) (rg_q (q_a rfl) ?_))
  refine xc (awp_ret ?_)
  refine ⟨_, xk2, ?_⟩
  rfl
 ·
  (try simp only [nb, ne_eq] at hc2)
  exact absurd hc2 hw
def cvD (z : Nat × Nat) : D := .v (.complex .f64 z.1 z.2)
def czP (x : Int × Int) : Nat × Nat := (FloatKind.f64.nearest x.1, FloatKind.f64.nearest x.2)
end Go.Proofs.YtamaocfjknpadaaGreat.Am.M
-- mini
set_option maxRecDepth 100000
namespace Go.Proofs.YtamaocfjknpadaaGreat.Am.M
open Go

theorem clE_of {g : Grd} {c : Int} (h1 : 0 ≤ c) (h2 : c ≤ g.co * g.ro - 1) : clE g c = 0 := by
  unfold clE
  rw [when_zero (by decide), Bool.not_eq_false']
  exact inR_iff.2 ⟨h1, h2⟩
def cvC (z : Nat × Nat) : List D := [cvD z]
def vlsF (t : Tsk) (fs dd : List Int) (k : Nat) : List (Int × Int) := (List.range k).map fun c : Nat => (vlA t (c : Int) dd (pqL fs t.ne.toNat)).1
theorem vlsF_succ (t : Tsk) (fs dd : List Int) (k : Nat) : vlsF t fs dd (k + 1) = vlsF t fs dd k ++ [(vlA t (k : Int) dd (pqL fs t.ne.toNat)).1] := by unfold vlsF; rw [List.range_succ, List.map_append]; rfl
theorem vlsF_len (t : Tsk) (fs dd : List Int) (k : Nat) : (vlsF t fs dd k).length = k := by unfold vlsF; rw [List.length_map, List.length_range]
def clN (t : Tsk) : Nat := (t.g.co * t.g.ro).toNat
def vlsL (t : Tsk) (fs dd : List Int) : List (Int × Int) := vlsF t fs dd (clN t)
theorem cl_le {t : Tsk} (h : TskOk t) : clN t ≤ 1600 := by
  obtain ⟨hg, _, _⟩ := ckG_ok h.gr
  have := cells_in hg
  unfold clN; omega
def imL (t : Tsk) (fs dd : List Int) : List (Nat × Nat) := (vlsL t fs dd).map czP
def evI (t : Tsk) : List Int := allL t.ne.toNat
def rimF (t : Tsk) (l : List (Int × Int)) (k : Nat) : List (Nat × Nat) := (List.range k).map fun c : Nat => czP (vlA t (c : Int) [] l).1
theorem rimF_succ (t : Tsk) (l : List (Int × Int)) (k : Nat) : rimF t l (k + 1) = rimF t l k ++ [czP (vlA t (k : Int) [] l).1] := by unfold rimF; rw [List.range_succ, List.map_append]; rfl
theorem rimF_len (t : Tsk) (l : List (Int × Int)) (k : Nat) : (rimF t l k).length = k := by unfold rimF; rw [List.length_map, List.length_range]
theorem rim_ev (t : Tsk) : rimF t (evL t) (clN t) = imL t (evI t) [] := by unfold rimF imL vlsL vlsF; rw [List.map_map]; rfl
theorem rimageOf_p (t : Tsk) (l : List (Int × Int)) (h : TskOk t) (hl : PrsOk t l) : PC Tryz.prog 115 [.agg (tskC t), .sl 2 (l.map shC)] (.sl 1 ((rimF t l (clN t)).map cvC)) := by
 obtain ⟨hg, _, _⟩ := ckG_ok h.gr
 have hci := cells_in hg
 have hcn : ((clN t : Nat) : Int) = t.g.co * t.g.ro := by unfold clN; omega
 refine pc_of_awpN Tryz.func115 rfl Tryz.ntmps115 (rs := [.tmp 4]) Tryz.results115 (by simp) fun w0 hmine hrnd hpn => ?_
 refine awp_seq ?_
 refine xa 2 ?_
 refine rg_q (q_box rfl (by exact .inr ⟨_, rfl⟩)) ?_
 refine rg_q (q_assign (x := .d (.sl _ _)) rfl) ?_
 refine rs (xa 1 ?_)
 refine rg_q (q_assign_nil) ?_
 refine rn ?_
 change Awp _ _ _ _ _
 refine Awp.le (le_own (k := 5) (e := 46) (sz := 1) rfl rfl) ?_
 refine awp_seq ?_
 refine awp_seq ?_
 refine xa 1 ?_
 refine rg_q (q_a rfl) ?_
 refine xc (awp_block ?_)
 refine awp_loopH [5, 6, 7, 8, 9, 10, 11, 12, 13, 14, 15, 16, 17, 18, 19, 20, 21, 22, 23, 24, 25, 26, 27, 28, 29, 30] [5] (α := Nat) (fun k => [(6, T.i (k : Int)), (5, .rs 5)]) (fun k => [(5, .row 46 1 ((rimF t l k).map cvC))]) (fun k => k ≤ clN t) (fun k => clN t - k) 0 (Nat.zero_le _) ?_ ?_
 · exact xh (ms := [5]) (by repeat (exact Out.refl _)) ⟨(by rfl), (by rfl), trivial⟩ ⟨(by rfl), trivial⟩
 ·
  intro k hk
  have hvl := rimF_len t l k
  refine awp_seq ?_
  refine awp_seq ?_
  refine xa 5 ?_
  refine rg_q (q_m rfl) (rg_q (q_fieldAddr fld37_2 rfl) ?_)
  refine rg_q (q_loadA (ds := [_, _, _, _, _]) sz35 rfl rfl rfl) ?_
  refine rg_q (q_call en56 (.cons rfl .nil) rfl (rcells_p t.g hg)) ?_
  refine rg_q (q_lss rfl rfl) ?_
  refine xc (awp_cond rfl (fun hc3 => ?_) (fun hc3 => ?_))
  ·
   (try simp only [nb, ne_eq] at hc3)
   have hlt : k < clN t := by omega
   have hck : clE t.g (k : Int) = 0 := clE_of (by omega) (by omega)
   have hsk : (rimF t l (k + 1)).map cvC = (rimF t l k).map cvC ++ [cvC (czP (vlA t (k : Int) [] l).1)] := by rw [rimF_succ, List.map_append]; rfl
   refine awp_skip ?_
   change Awp _ _ _ _ _
   refine awp_seq ?_
   refine awp_block ?_
   refine awp_seq ?_
   refine xa 11 ?_
   refine rg_q (q_loadA sz37 rfl rfl rfl) ?_
   refine rg_q (q_m rfl) (rg_q (q_move (x := .d (.sl _ _)) rfl) ?_)
   refine rg_q (q_call en99 (.cons rfl (.cons rfl (.cons rfl .nil))) rfl (rsum_p t k l h hck hl)) ?_
   refine rg_q (q_move (x := .d (.tup _)) rfl) (rg_q (q_extract rfl rfl) (rg_q (q_extract rfl rfl) (rg_q (q_extract rfl rfl) (rg_q (q_a rfl) (rg_q (q_a rfl) ?_)))))
   refine rg_q (q_a rfl) ?_
   refine rn ?_
   change Awp _ _ _ _ _
   refine xa 5 ?_
   refine rg_q (q_move (x := .rs _) rfl) (rg_q (q_m rfl) (rg_q (q_m rfl) ?_))
   refine rg_q (q_call en101 (.cons rfl (.cons rfl .nil)) rfl (rnum_p _ _)) ?_
   refine rg_q (q_buildSlice sl72 zr46 rfl rfl (by decide) (.cons rfl (by exact .inl rfl) .nil) ⟨rfl, rfl, trivial⟩ rfl (by decide) rfl) ?_
   refine rg_nil ?_
   refine aops_append sl72 zr46 by46 rfl (by decide) rfl rfl rfl rfl (by (try simp only [List.length_map, List.length_append, List.length_cons, List.length_nil]); omega) (by (try simp only [List.length_map, List.length_append, List.length_cons, List.length_nil]); omega) rfl rfl ?_
   refine aops_q rfl (q_assign (x := .rs _) rfl) ?_
   refine aops_nil ?_
   change Awp _ _ _ _ _
   refine xa 3 ?_
   refine rg_q (q_m rfl) ?_
   refine rg_q (q_add rfl rfl xi) ?_
   refine rg_q (q_a rfl) ?_
   refine rn ?_
   refine ⟨k + 1, by omega, by omega, ?_⟩
   exact xh (ms := [5]) (by repeat (first | exact Out.head rfl rfl | (refine Out.put ?_ rfl) | (refine Out.site ?_ rfl) | (refine Out.killS ?_ rfl))) ⟨(by rfl), (by rfl), trivial⟩ ⟨(by ((show Site.row _ _ _ = Site.row _ _ _; (rw [hsk]; rfl)))), trivial⟩
  ·
   (try simp only [nb, ne_eq] at hc3)
   have hkn : k = clN t := by omega
   subst hkn
   refine awp_exit ?_
   change Awp _ _ _ _ _
   refine awp_seq ?_
   refine xa 2 ?_
   refine rg_q (q_move (x := .rs _) rfl) (rg_q (q_assign (x := .rs _) rfl) ?_)
   refine xc (awp_ret ?_)
   refine ⟨_, (.cons (.tmp (by exact .rs rfl)) .nil), ?_⟩
   rfl
theorem rimage_p (t : Tsk) (h : TskOk t) : PC Tryz.prog 39 [.agg (tskC t)] (.sl 1 ((imL t (evI t) []).map cvC)) := by
 refine pc_of_awpN Tryz.func39 rfl Tryz.ntmps39 (rs := [.tmp 2]) Tryz.results39 (by simp) fun w0 hmine hrnd hpn => ?_
 refine awp_seq ?_
 refine xa 2 ?_
 refine rg_q (q_box rfl (by exact .inr ⟨_, rfl⟩)) ?_
 refine rg_q (q_assign (x := .d (.sl _ _)) rfl) ?_
 refine rs (xa 5 ?_)
 refine rg_q (q_loadA sz37 rfl rfl rfl) ?_
 refine rg_q (q_loadA sz37 rfl rfl rfl) ?_
 refine rg_q (q_call en100 (.cons rfl .nil) rfl (revery_p t h)) ?_
 refine rg_q (q_call en115 (.cons rfl (.cons rfl .nil)) rfl ((by have q := rimageOf_p t (evL t) h (ev_ok h); rw [rim_ev] at q; exact q))) ?_
 refine rg_q (q_assign (x := .d (.sl _ _)) rfl) ?_
 refine xc (awp_ret ?_)
 refine ⟨_, xk1, ?_⟩
 rfl

end Go.Proofs.YtamaocfjknpadaaGreat.Am.M
-- mini
set_option maxRecDepth 100000
namespace Go.Proofs.YtamaocfjknpadaaGreat.Am.M
open Go

end Go.Proofs.YtamaocfjknpadaaGreat.Am.M
-- mini
set_option maxRecDepth 100000
namespace Go.Proofs.YtamaocfjknpadaaGreat.Am.M
open Go

open Go

def absD : Ieee.Datum → Ieee.Datum
  | .number _ m e => .number false m e
  | .infinity _ => .infinity false
  | .nan _ t => .nan false t
theorem read_abs (b : Nat) : Ieee.double.read (b % 2 ^ 63) = absD (Ieee.double.read b) := by
  have e1 : Ieee.double.signWeight = 2 ^ 63 := rfl
  have h1 : b % 2 ^ 63 % 2 ^ 63 = b % 2 ^ 63 := Nat.mod_mod _ _
  have h2 : b % 2 ^ 63 / 2 ^ 63 % 2 = 0 := by rw [Nat.div_eq_of_lt (Nat.mod_lt _ (by decide))]
  unfold Ieee.Format.read
  simp only [e1, h1, h2]
  by_cases c1 : b % 2 ^ 63 < Ieee.double.binade
  · rw [if_pos c1, if_pos c1]; rfl
  · rw [if_neg c1, if_neg c1]
    by_cases c2 : b % 2 ^ 63 < Ieee.double.infRung
    · rw [if_pos c2, if_pos c2]; rfl
    · rw [if_neg c2, if_neg c2]
      by_cases c3 : b % 2 ^ 63 = Ieee.double.infRung
      · rw [if_pos c3, if_pos c3]; rfl
      · rw [if_neg c3, if_neg c3]; rfl
theorem num_abs {b : Nat} {s : Bool} {M : Nat} (h : Numb Ieee.double b s M) : Numb Ieee.double (b % 2 ^ 63) false M := by
  obtain ⟨m, e, h1, h2, h3⟩ := h
  exact ⟨m, e, by rw [read_abs, h1]; rfl, h2, h3⟩
def bgB (b : Nat) : Bool := ordB .gtr (FloatKind.f64.format.order (b % 2 ^ 63) 4711630319722168320)
def bgR (b : Nat) : Bool := ordB .gtr (FloatKind.f64.format.order b 4711630319722168320) || ordB .lss (FloatKind.f64.format.order b 13935002356576944128)
def vD (b : Nat) : Int :=
  match Ieee.double.read b with
  | .number s m e => sgI s (m * 2 ^ (e + KK).toNat / QQ)
  | _ => 0
theorem num_im : Numb Ieee.double 4711630319722168320 false (10000000 * QQ) := by
  have h := num_wd fmD LD (a := 10000000) (by decide)
  rw [show wd Ieee.double 10000000 = 4711630319722168320 by decide +kernel, show decide ((10000000 : Int) < 0) = false from rfl, show (10000000 : Int).natAbs = 10000000 from rfl] at h
  exact h
theorem num_mim : Numb Ieee.double 13935002356576944128 true (10000000 * QQ) := by
  have h := num_wd fmD LD (a := -10000000) (by decide)
  rw [show wd Ieee.double (-10000000) = 13935002356576944128 by decide +kernel, show decide ((-10000000 : Int) < 0) = true from rfl, show (-10000000 : Int).natAbs = 10000000 from rfl] at h
  exact h
theorem bg_num {b : Nat} {s : Bool} {M : Nat} (hn : Numb Ieee.double b s M) : bgB b = decide (10000000 * QQ < M) := by
  unfold bgB
  refine (ob_gtr (num_abs hn) num_im).trans (decide_eq_decide.2 ?_)
  unfold sgI
  rw [if_neg (by decide), if_neg (by decide)]
  exact Int.ofNat_lt
theorem bgR_num {b : Nat} {s : Bool} {M : Nat} (hn : Numb Ieee.double b s M) : bgR b = decide (10000000 * QQ < M) := by
  have h1 : ordB .gtr (FloatKind.f64.format.order b 4711630319722168320) = _ := ob_gtr hn num_im
  have h2 : ordB .lss (FloatKind.f64.format.order b 13935002356576944128) = _ := ob_lss hn num_mim
  unfold bgR
  rw [h1, h2, Bool.or_comm]
  generalize 10000000 * QQ = K
  rw [← Bool.decide_or]
  refine decide_eq_decide.2 ?_
  unfold sgI
  cases s <;> simp <;> omega
theorem wh_num {b : Nat} (h : whD b = true) : ∃ s m e, Ieee.double.read b = .number s m e ∧ m * 2 ^ (e + KK).toNat % QQ = 0 := by
  unfold whD at h
  cases hr : Ieee.double.read b with
  | nan s t => rw [hr] at h; cases h
  | infinity s => rw [hr] at h; cases h
  | number s m e => rw [hr] at h; exact ⟨s, m, e, rfl, of_decide_eq_true h⟩
theorem bg_is {b : Nat} (h : whD b = true) : bgR b = bgB b := by
  obtain ⟨s, m, e, hr, _⟩ := wh_num h
  have hn := num_of fmD LD hr
  rw [bg_num hn, bgR_num hn]
theorem div10 {M : Nat} (h : ¬ 10000000 * QQ < M) : M / QQ ≤ 10000000 := Nat.div_le_of_le_mul (by rw [Nat.mul_comm QQ]; exact Nat.le_of_not_lt h)
theorem vD_in {b : Nat} (h : whD b = true) (hb : bgB b = false) : (-10000000 ≤ vD b ∧ vD b ≤ 10000000) ∧ floatToIntVal .f64 b .i64 = some (vD b) := by
  obtain ⟨s, m, e, hr, _⟩ := wh_num h
  obtain ⟨M, hM⟩ : ∃ M, m * 2 ^ (e + KK).toNat = M := ⟨_, rfl⟩
  have hn := num_of fmD LD hr
  rw [hM] at hn
  rw [bg_num hn, decide_eq_false_iff_not] at hb
  have h1 : M / QQ ≤ 10000000 := div10 hb
  have hv : vD b = sgI s (M / QQ) := by unfold vD; rw [hr]; simp only [hM]
  rw [hv]
  exact ⟨(in_M (s := s) 10000000).2 h1, int_num (k := .f64) hn (by omega)⟩
theorem wd_wh {a : Int} (h : a.natAbs < 2 ^ 53) : whD (FloatKind.f64.nearest a) = true ∧ vD (FloatKind.f64.nearest a) = a ∧ bgB (FloatKind.f64.nearest a) = decide (10000000 < a.natAbs) := by
  have e : FloatKind.f64.nearest a = wd Ieee.double a := rfl
  have hn : Numb Ieee.double (FloatKind.f64.nearest a) (decide (a < 0)) (a.natAbs * QQ) := num_wd fmD LD h
  obtain ⟨m, x, h1, h2, h3⟩ := hn
  refine ⟨?_, ?_, ?_⟩
  · unfold whD
    rw [h1]
    simp only [h3]
    exact decide_eq_true (Nat.mul_mod_left _ _)
  · unfold vD
    rw [h1]
    simp only [h3]
    rw [Nat.mul_div_cancel _ QQ_pos]
    unfold sgI
    by_cases ha : a < 0
    · rw [decide_eq_true ha, if_pos rfl]; omega
    · rw [decide_eq_false ha, if_neg (by simp)]; omega
  · rw [bg_num ⟨m, x, h1, h2, h3⟩]
    exact decide_eq_decide.2 ⟨fun q => Nat.lt_of_mul_lt_mul_right q, fun q => Nat.mul_lt_mul_of_pos_right q QQ_pos⟩
end Go.Proofs.YtamaocfjknpadaaGreat.Am.M
-- mini
set_option maxRecDepth 100000
namespace Go.Proofs.YtamaocfjknpadaaGreat.Am.M
open Go

section
variable {P : Program} {w0 : Cx} {n : Nat} {s : Nat → Site} {ev : Operand → T} {dst : Option Tmp} {ty : TypeId} {pos : String} {after : Array Edge} {g : Option (Nat × Bool)}
end
def peI (z : Nat × Nat) : Int := if (whD z.1 && whD z.2) = true then whenI (bgB z.1 || bgB z.2) 2 else 25
theorem pe_ok {z : Nat × Nat} (h : peI z = 0) : (whD z.1 = true ∧ whD z.2 = true) ∧ bgB z.1 = false ∧ bgB z.2 = false := by
  unfold peI at h
  by_cases h1 : (whD z.1 && whD z.2) = true
  · rw [if_pos h1, when_zero (by decide), Bool.or_eq_false_iff] at h
    rw [Bool.and_eq_true] at h1
    exact ⟨h1, h⟩
  · rw [if_neg h1] at h; cases h
def vZ (z : Nat × Nat) : Int × Int := (vD z.1, vD z.2)
theorem partsD_p (z : Nat × Nat) (hz0 : peI z = 0) : PC Tryz.prog 29 [cvD z] (.tup [.v (.int .i64 ((vZ z).1)), .v (.int .i64 ((vZ z).2))]) := by
 obtain ⟨⟨w1, w2⟩, b1, b2⟩ := pe_ok hz0
 obtain ⟨⟨v1, v2⟩, v3⟩ := vD_in w1 b1
 obtain ⟨⟨v4, v5⟩, v6⟩ := vD_in w2 b2
 refine pc_of_awp Tryz.func29 rfl Tryz.ntmps29 (rs := [.tmp 2, .tmp 3]) Tryz.results29 (by simp) fun w0 => ?_
 refine awp_seq ?_
 refine xa 2 ?_
 refine rg_q (q_a rfl) (rg_q (q_a rfl) ?_)
 refine rs (xa 8 ?_)
 refine rg_q (q_m rfl) ?_
 refine rg_q (q_real rfl) ?_
 refine rg_q (q_convfi flt167 int3 rfl v3) ?_
 refine rg_q (q_m rfl) ?_
 refine rg_q (q_imag rfl) ?_
 refine rg_q (q_convfi flt167 int3 rfl v6) ?_
 refine rg_q (q_a rfl) (rg_q (q_a rfl) ?_)
 refine xc (awp_ret ?_)
 refine ⟨_, xk2, ?_⟩
 rfl

def veR (z : Nat × Nat) : (Int × Int) × Int := if peI z ≠ 0 then ((0, 0), peI z) else (vZ z, 0)
theorem valueErr_p (z : Nat × Nat) : PC Tryz.prog 129 [cvD z] (.tup [.v (.int .i64 ((veR z).1.1)), .v (.int .i64 ((veR z).1.2)), .v (.int .i64 ((veR z).2))]) := by
 refine pc_of_awp Tryz.func129 rfl Tryz.ntmps129 (rs := [.tmp 2, .tmp 3, .tmp 4]) Tryz.results129 (by simp) fun w0 => ?_
 refine awp_seq ?_
 refine xa 3 ?_
 refine rg_q (q_a rfl) (rg_q (q_a rfl) (rg_q (q_a rfl) ?_))
 refine rs (xa 6 ?_)
 refine rg_q (q_m rfl) ?_
 refine rg_q (q_real rfl) ?_
 refine rg_q (q_m rfl) ?_
 refine rg_q (q_imag rfl) ?_
 refine rg_q (q_a rfl) (rg_q (q_a rfl) ?_)
 refine rs (awp_seq ?_)
 refine xa 8 ?_
 refine rg_q (q_m rfl) ?_
 refine rg_q (q_call en194 (.cons rfl .nil) rfl (isWhole_p _)) ?_
 refine rg_q (q_not rfl) (rg_q (q_m rfl) ?_)
 refine rg_g rfl rfl (fun hG => (q_m rfl)) ?_
 refine rg_g rfl rfl (fun hG => (q_call en194 (.cons rfl .nil) rfl (isWhole_p _))) ?_
 refine rg_g rfl rfl (fun hG => (q_not rfl)) ?_
 refine rg_pick rfl rfl rfl rfl rfl rfl ?_
 refine xc (awp_cond rfl (fun hc2 => ?_) (fun hc2 => ?_))
 ·
  (try simp only [nb, ne_eq] at hc2)
  have hp : peI z = 25 := by unfold peI; rw [if_neg (by rcases hc2 with q | q <;> simp [q])]
  have hz : veR z = ((0, 0), 25) := by unfold veR; rw [hp]; rfl
  refine awp_seq ?_
  refine xa 3 ?_
  refine rg_q (q_a rfl) (rg_q (q_a rfl) (rg_q (q_a rfl) ?_))
  refine xc (awp_ret ?_)
  refine ⟨_, xk3, ?_⟩
  rw [hz]; rfl
 ·
  (try simp only [nb, ne_eq] at hc2)
  obtain ⟨w1, w2⟩ := hc2
  have hp0 : peI z = whenI (bgB z.1 || bgB z.2) 2 := by unfold peI; rw [w1, w2]; rfl
  rw [← bg_is w1, ← bg_is w2] at hp0
  refine awp_skip ?_
  change Awp _ _ _ _ _
  refine awp_seq ?_
  refine awp_seq ?_
  refine xa 14 ?_
  refine rg_q (q_m rfl) ?_
  refine rg_q (q_fcmp (by decide) rfl rfl rfl) ?_
  refine rg_q (q_m rfl) ?_
  refine rg_g rfl rfl (fun hG => (q_m rfl)) ?_
  refine rg_g rfl rfl (fun hG => (q_fcmp (by decide) rfl rfl rfl)) ?_
  refine rg_pick rfl rfl rfl rfl rfl rfl ?_
  refine rg_q (q_m rfl) ?_
  refine rg_g rfl rfl (fun hG => (q_m rfl)) ?_
  refine rg_g rfl rfl (fun hG => (q_fcmp (by decide) rfl rfl rfl)) ?_
  refine rg_pick rfl rfl rfl rfl rfl rfl ?_
  refine rg_q (q_m rfl) ?_
  refine rg_g rfl rfl (fun hG => (q_m rfl)) ?_
  refine rg_g rfl rfl (fun hG => (q_fcmp (by decide) rfl rfl rfl)) ?_
  refine rg_pick rfl rfl rfl rfl rfl rfl ?_
  refine xc (awp_cond rfl (fun hc4 => ?_) (fun hc4 => ?_))
  ·
   (try simp only [nb, ne_eq] at hc4)
   have hp : peI z = 2 := by rw [hp0]; unfold whenI; rw [if_pos (by rcases hc4 with ((q | q) | q) | q <;> simp [bgR, q])]
   have hz : veR z = ((0, 0), 2) := by unfold veR; rw [hp]; rfl
   refine awp_seq ?_
   refine xa 3 ?_
   refine rg_q (q_a rfl) (rg_q (q_a rfl) (rg_q (q_a rfl) ?_))
   refine xc (awp_ret ?_)
   refine ⟨_, xk3, ?_⟩
   rw [hz]; rfl
  ·
   (try simp only [nb, ne_eq] at hc4)
   obtain ⟨⟨⟨q1, q2⟩, q3⟩, q4⟩ := hc4
   have hz0 : peI z = 0 := by rw [hp0]; simp [bgR, q1, q2, q3, q4, whenI]
   have hz : veR z = (vZ z, 0) := by unfold veR; rw [if_neg (fun q => q hz0)]
   refine awp_skip ?_
   change Awp _ _ _ _ _
   refine awp_seq ?_
   refine xa 7 ?_
   refine rg_q (q_m rfl) ?_
   refine rg_q (q_call en29 (.cons rfl .nil) rfl (partsD_p z hz0)) ?_
   refine rg_q (q_move (x := .d (.tup _)) rfl) (rg_q (q_extract rfl rfl) (rg_q (q_extract rfl rfl) (rg_q (q_a rfl) (rg_q (q_a rfl) ?_))))
   refine rs (xa 5 ?_)
   refine rg_q (q_m rfl) (rg_q (q_m rfl) (rg_q (q_a rfl) (rg_q (q_a rfl) (rg_q (q_a rfl) ?_))))
   refine xc (awp_ret ?_)
   refine ⟨_, xk3, ?_⟩
   rw [hz]; rfl
end Go.Proofs.YtamaocfjknpadaaGreat.Am.M
-- mini
set_option maxRecDepth 100000
namespace Go.Proofs.YtamaocfjknpadaaGreat.Am.M
open Go

def hdN (l : List (List (Nat × Nat))) : Nat := (l.getD 0 []).length
def peS : List (Nat × Nat) → Int
  | [] => 0
  | z :: r => if peI z ≠ 0 then peI z else peS r
theorem peS_at {c : List (Nat × Nat)} {i : Nat} {z : Nat × Nat} (h : c[i]? = some z) : peS (c.drop i) = if peI z ≠ 0 then peI z else peS (c.drop (i + 1)) := by
  obtain ⟨hlt, rfl⟩ := List.getElem?_eq_some_iff.1 h
  rw [List.drop_eq_getElem_cons hlt]; rfl
theorem vZ_in {z : Nat × Nat} (h : peI z = 0) : (-10000000 ≤ (vZ z).1 ∧ (vZ z).1 ≤ 10000000) ∧ -10000000 ≤ (vZ z).2 ∧ (vZ z).2 ≤ 10000000 := by
  obtain ⟨⟨w1, w2⟩, b1, b2⟩ := pe_ok h
  exact ⟨(vD_in w1 b1).1, (vD_in w2 b2).1⟩
end Go.Proofs.YtamaocfjknpadaaGreat.Am.M
-- mini
set_option maxRecDepth 100000
namespace Go.Proofs.YtamaocfjknpadaaGreat.Am.M
open Go
def sqZ (z : Nat × Nat) : Int := (vZ z).1 * (vZ z).1 + (vZ z).2 * (vZ z).2
def pwR (x : List (Nat × Nat)) : List Int × Int := if 1600 < x.length then ([], 8) else if peS x ≠ 0 then ([], peS x) else (x.map sqZ, 0)
theorem mul_self_nn (a : Int) : 0 ≤ a * a := by
  rcases Int.le_total 0 a with h | h
  · exact Int.mul_nonneg h h
  · exact Int.mul_nonneg_of_nonpos_of_nonpos h h
theorem sq_in {a : Int} (h1 : -10000000 ≤ a) (h2 : a ≤ 10000000) : 0 ≤ a * a ∧ a * a ≤ 100000000000000 := by
  have h := mulb (a := a) (b := a) (A := 10000000) (B := 10000000) (by omega) (by omega) (by omega) (by omega)
  exact ⟨mul_self_nn a, by omega⟩
theorem fsquare_p (a b : Int) (h1 : -10000000 ≤ a ∧ a ≤ 10000000) (h2 : -10000000 ≤ b ∧ b ≤ 10000000) : PC Tryz.prog 123 [.agg [.v (.int .i64 (a)), .v (.int .i64 (b))]] (.v (.int .i64 (a * a + b * b))) := by
 obtain ⟨m1, m2⟩ := sq_in h1.1 h1.2
 obtain ⟨m3, m4⟩ := sq_in h2.1 h2.2
 refine pc_of_awp Tryz.func123 rfl Tryz.ntmps123 (rs := [.tmp 2]) Tryz.results123 (by simp) fun w0 => ?_
 refine awp_seq ?_
 refine xa 2 ?_
 refine rg_q (q_box rfl (by exact .inr ⟨_, rfl⟩)) ?_
 refine rg_q (q_a rfl) ?_
 refine rs (xa 12 ?_)
 refine rg_q (q_fieldAddr fld160_0 rfl) (rg_q (q_load sz3 rfl rfl) (rg_q (q_fieldAddr fld160_0 rfl) (rg_q (q_load sz3 rfl rfl) ?_)))
 refine rg_q (q_mul rfl rfl xi) ?_
 refine rg_q (q_fieldAddr fld160_1 rfl) (rg_q (q_load sz3 rfl rfl) (rg_q (q_fieldAddr fld160_1 rfl) (rg_q (q_load sz3 rfl rfl) ?_)))
 refine rg_q (q_mul rfl rfl xi) ?_
 refine rg_q (q_add rfl rfl xi) ?_
 refine rg_q (q_a rfl) ?_
 refine xc (awp_ret ?_)
 refine ⟨_, xk1, ?_⟩
 rfl
theorem rpowers_p (x : List (Nat × Nat)) : PC Tryz.prog 59 [.sl 1 (x.map cvC)] (.tup [.sl 1 ((pwR x).1.map iC), .v (.int .i64 ((pwR x).2))]) := by
 have hu : pwR x = if 1600 < x.length then ([], 8) else if peS x ≠ 0 then ([], peS x) else (x.map sqZ, 0) := rfl
 refine pc_of_awpN Tryz.func59 rfl Tryz.ntmps59 (rs := [.tmp 2, .tmp 3]) Tryz.results59 (by simp) fun w0 hmine hrnd hpn => ?_
 refine awp_seq ?_
 refine xa 2 ?_
 refine rg_q (q_assign (x := .d (.sl _ _)) rfl) (rg_q (q_a rfl) ?_)
 refine rs (awp_seq ?_)
 refine xa 3 ?_
 refine rg_q (q_move (x := .d (.sl _ _)) rfl) ?_
 refine rg_q (q_len isl72 rfl (by exact len_map _ _)) ?_
 refine rg_q (q_gtr rfl rfl) ?_
 refine xc (awp_len (t := 9) rfl (fun hl9 => ?_))
 (try simp only [List.length_map] at hl9)
 refine awp_cond rfl (fun hc1 => ?_) (fun hc1 => ?_)
 ·
  (try simp only [nb, ne_eq] at hc1)
  rw [if_pos (by omega)] at hu
  refine awp_seq ?_
  refine xa 2 ?_
  refine rg_q (q_assign (x := .d (.sl _ _)) rfl) (rg_q (q_a rfl) ?_)
  refine xc (awp_ret ?_)
  refine ⟨_, xk2, ?_⟩
  rw [hu]; rfl
 ·
  (try simp only [nb, ne_eq] at hc1)
  rw [if_neg (by omega)] at hu
  refine awp_skip ?_
  change Awp _ _ _ _ _
  refine awp_seq ?_
  refine xa 1 ?_
  refine rg_q (q_assign_nil) ?_
  refine rn ?_
  change Awp _ _ _ _ _
  refine Awp.le (le_own (k := 4) (e := 3) (sz := 1) rfl rfl) ?_
  refine awp_seq ?_
  refine awp_seq ?_
  refine xa 1 ?_
  refine rg_q (q_a rfl) ?_
  refine xc (awp_block ?_)
  refine awp_loopH [2, 3, 4, 5, 6, 7, 8, 12, 13, 14, 15, 16, 17, 18, 19, 20, 21, 22, 23, 24, 25, 26, 27, 28, 29, 30, 31, 32, 33, 34, 35, 36, 37, 38, 39] [4] (α := Nat) (fun i => [(5, T.i (i : Int)), (4, .rs 4)]) (fun i => [(4, .row 3 1 (((x.take i).map sqZ).map iC))]) (fun i => i ≤ x.length ∧ peS x = peS (x.drop i)) (fun i => x.length - i) 0 ⟨Nat.zero_le _, rfl⟩ ?_ ?_
  · exact xh (ms := [4]) (by repeat (exact Out.refl _)) ⟨(by rfl), (by rfl), trivial⟩ ⟨(by rfl), trivial⟩
  ·
   intro i ⟨hi, hf⟩
   have htl : (x.take i).length ≤ i := by rw [List.length_take]; omega
   refine awp_seq ?_
   refine awp_seq ?_
   refine xa 4 ?_
   refine rg_q (q_m rfl) (rg_q (q_move (x := .d (.sl _ _)) rfl) ?_)
   refine rg_q (q_len isl72 rfl (by exact len_map _ _)) ?_
   refine rg_q (q_lss rfl rfl) ?_
   refine xc (awp_len (t := 13) rfl (fun hl13 => ?_))
   (try simp only [List.length_map] at hl13)
   refine awp_cond rfl (fun hc5 => ?_) (fun hc5 => ?_)
   ·
    (try simp only [nb, ne_eq] at hc5)
    have hlt : i < x.length := by omega
    obtain ⟨z, hz⟩ : ∃ z, x[i]? = some z := ⟨_, List.getElem?_eq_getElem hlt⟩
    have hps := peS_at hz
    rw [hps] at hf
    refine awp_skip ?_
    change Awp _ _ _ _ _
    refine awp_seq ?_
    refine awp_block ?_
    refine awp_seq ?_
    refine xa 12 ?_
    refine rg_q (q_move (x := .d (.sl _ _)) rfl) (rg_q (q_m rfl) ?_)
    refine rg_q (q_indexAddr sl72 rfl rfl (by omega) (map_at (by omega) hz)) ?_
    refine rg_q (q_load sz46 rfl rfl) ?_
    refine rg_q (q_call en129 (.cons rfl .nil) rfl (valueErr_p z)) ?_
    refine rg_q (q_move (x := .d (.tup _)) rfl) (rg_q (q_extract rfl rfl) (rg_q (q_extract rfl rfl) (rg_q (q_extract rfl rfl) (rg_q (q_a rfl) (rg_q (q_a rfl) ?_)))))
    refine rg_q (q_a rfl) ?_
    refine rs (awp_seq ?_)
    refine xa 2 ?_
    refine rg_q (q_m rfl) (rg_q (q_neq rfl rfl) ?_)
    refine xc (awp_cond rfl (fun hc8 => ?_) (fun hc8 => ?_))
    ·
     (try simp only [nb, ne_eq] at hc8)
     have hv : veR (z) = ((0, 0), peI (z)) := by
      unfold veR
      by_cases q : peI (z) = 0
      · unfold veR at hc8; rw [if_neg (fun w => w q)] at hc8; exact absurd rfl hc8
      · rw [if_pos q]
     have hpe : peI (z) ≠ 0 := fun q => by rw [hv, q] at hc8; exact hc8 rfl
     rw [if_pos hpe] at hf
     have hpx : pwR x = ([], peI z) := by rw [hu, hf, if_pos hpe]
     refine awp_seq ?_
     refine xa 3 ?_
     refine rg_q (q_m rfl) (rg_q (q_assign (x := .d (.sl _ _)) rfl) (rg_q (q_a rfl) ?_))
     refine xc (awp_ret ?_)
     refine ⟨_, xk2, ?_⟩
     rw [hpx, hv]; rfl
    ·
     (try simp only [nb, ne_eq] at hc8)
     have hz0 : peI (z) = 0 := by
      by_cases q : peI (z) = 0
      · exact q
      · unfold veR at hc8; rw [if_pos q] at hc8; exact hc8
     have hv : veR (z) = (vZ (z), 0) := by unfold veR; rw [if_neg (fun q => q hz0)]
     rw [if_neg (c := peI z ≠ 0) (fun q => q hz0)] at hf
     have hvz := vZ_in hz0
     obtain ⟨hvz1, hvz2⟩ := hvz
     obtain ⟨m1, m2⟩ := sq_in hvz1.1 hvz1.2
     obtain ⟨m3, m4⟩ := sq_in hvz2.1 hvz2.2
     have hsk : ((x.take (i + 1)).map sqZ).map iC = ((x.take i).map sqZ).map iC ++ [iC (sqZ z)] := by rw [takeSnoc hz, List.map_append, List.map_append]; rfl
     rw [hv]
     refine awp_skip ?_
     change Awp _ _ _ _ _
     refine xa 9 ?_
     refine rg_q (q_move (x := .rs _) rfl) (rg_q (q_m rfl) (rg_q (q_m rfl) ?_))
     refine rg_q (q_mul rfl rfl (In64.mk (by (simp only; omega)) (by (simp only; omega)))) ?_
     refine rg_q (q_m rfl) (rg_q (q_m rfl) ?_)
     refine rg_q (q_mul rfl rfl (In64.mk (by (simp only; omega)) (by (simp only; omega)))) ?_
     refine rg_q (q_add rfl rfl (In64.mk (by (simp only; omega)) (by (simp only; omega)))) ?_
     refine rg_q (q_buildSlice sl77 zr3 rfl rfl (by decide) (.cons rfl (by exact .inl rfl) .nil) ⟨rfl, rfl, trivial⟩ rfl (by decide) rfl) ?_
     refine rg_nil ?_
     refine aops_append sl77 zr3 by3 rfl (by decide) rfl rfl rfl rfl (by (try simp only [List.length_map, List.length_append, List.length_cons, List.length_nil]); omega) (by (try simp only [List.length_map, List.length_append, List.length_cons, List.length_nil]); omega) rfl rfl ?_
     refine aops_q rfl (q_assign (x := .rs _) rfl) ?_
     refine aops_nil ?_
     change Awp _ _ _ _ _
     refine xa 3 ?_
     refine rg_q (q_m rfl) ?_
     refine rg_q (q_add rfl rfl xi) ?_
     refine rg_q (q_a rfl) ?_
     refine rn ?_
     refine ⟨i + 1, ⟨by omega, hf⟩, by omega, ?_⟩
     exact xh (ms := [4]) (by repeat (first | exact Out.head rfl rfl | (refine Out.put ?_ rfl) | (refine Out.site ?_ rfl) | (refine Out.killS ?_ rfl))) ⟨(by rfl), (by rfl), trivial⟩ ⟨(by ((show Site.row _ _ _ = Site.row _ _ _; (rw [hsk]; rfl)))), trivial⟩
   ·
    (try simp only [nb, ne_eq] at hc5)
    have hiL : i = x.length := by omega
    have hp0 : peS x = 0 := by rw [hf, List.drop_of_length_le (by omega)]; rfl
    rw [if_neg (c := peS x ≠ 0) (fun q => q hp0)] at hu
    subst hiL
    rw [List.take_length]
    refine awp_exit ?_
    change Awp _ _ _ _ _
    refine awp_seq ?_
    refine xa 3 ?_
    refine rg_q (q_move (x := .rs _) rfl) (rg_q (q_assign (x := .rs _) rfl) (rg_q (q_a rfl) ?_))
    refine xc (awp_ret ?_)
    refine ⟨_, (.cons (.tmp (by exact .rs rfl)) xk1), ?_⟩
    rw [hu]; rfl

end Go.Proofs.YtamaocfjknpadaaGreat.Am.M
-- mini
set_option maxRecDepth 100000
namespace Go.Proofs.YtamaocfjknpadaaGreat.Am.M
open Go

theorem vs_in {t : Tsk} (h : TskOk t) (c : Int) {l : List (Int × Int)} (hl : l.length ≤ 1600) : (-6600000 ≤ (vlA t c [] l).1.1 ∧ (vlA t c [] l).1.1 ≤ 6600000) ∧ -6600000 ≤ (vlA t c [] l).1.2 ∧ (vlA t c [] l).1.2 ≤ 6600000 := by
  have hb := vlA_in h (c := c) (dd := []) (l := l) l.length (Nat.le_refl _)
  rw [List.take_length] at hb
  omega
theorem cz_ok {x : Int × Int} (h1 : -10000000 ≤ x.1 ∧ x.1 ≤ 10000000) (h2 : -10000000 ≤ x.2 ∧ x.2 ≤ 10000000) : peI (czP x) = 0 ∧ vZ (czP x) = x := by
  obtain ⟨a1, a2, a3⟩ := wd_wh (a := x.1) (by omega)
  obtain ⟨b1, b2, b3⟩ := wd_wh (a := x.2) (by omega)
  refine ⟨?_, ?_⟩
  · unfold peI czP
    simp only
    rw [a1, b1, a3, b3, decide_eq_false (by omega), decide_eq_false (by omega)]
    rfl
  · unfold vZ czP
    simp only
    rw [a2, b2]
open Go

end Go.Proofs.YtamaocfjknpadaaGreat.Am.M
-- mini
set_option maxRecDepth 100000
namespace Go.Proofs.YtamaocfjknpadaaGreat.Am.M
open Go

end Go.Proofs.YtamaocfjknpadaaGreat.Am.M
