/- Contracts over the abstract machine: package focus: the ends of a value. Conditions: none. -/
import Derived.Test.YtphlaicnmmglhaaGreatE11
set_option linter.unusedVariables false
set_option linter.unusedSimpArgs false
-- mini
namespace Go.Proofs.YtphlaicnmmglhaaGreat.Am.M
open Go

def huA (r : Int × Int) (n : Int) : Int × Int := (min r.1 n, max r.2 n)
theorem er_in (a : Arr) (t p : Int × Int) : (0 ≤ (erI a t p).1 ∧ (erI a t p).1 ≤ 40000000000) ∧ 0 ≤ (erI a t p).2 ∧ (erI a t p).2 ≤ 40000000000 := by
  obtain ⟨a1, a2, a3, a4⟩ := lt_in a.ou (elAt a p.1) t
  obtain ⟨b1, b2, b3, b4⟩ := lt_in a.ba (elAt a p.2) t
  unfold erI
  simp only
  omega
def neI (t : Tsk) (c : Int) (y : Int × Int) : Int × Int := (rndI ((erI t.ar (spI t.g c) y).1 - t.ar.ts.1) t.ar.ts.2, rndI ((erI t.ar (spI t.g c) y).2 - t.ar.ts.1) t.ar.ts.2)
def nrI (t : Tsk) (c : Int) (y : Int × Int) : Int × Int := (max 0 (neI t c y).1, min 60 (neI t c y).2)
def nwI (t : Tsk) (c : Int) (y : Int × Int) : Bool := decide ([(nrI t c y).1, (nrI t c y).2] = [(neI t c y).1, (neI t c y).2])
set_option maxRecDepth 100000 in
theorem hull_p (a b n : Int) : PC Tryz.prog 105 [.agg [.v (.int .i64 (a)), .v (.int .i64 (b))], .v (.int .i64 (n))] (.agg [.v (.int .i64 ((huA (a, b) n).1)), .v (.int .i64 ((huA (a, b) n).2))]) := by
 refine pc_of_awp Tryz.func105 rfl Tryz.ntmps105 (rs := [.cell 4 56]) Tryz.results105 (by simp) fun w0 => ?_
 refine awp_seq ?_
 refine awp_region 1 mixed (by kernel_rfl) ?_
 refine rg_q (q_box rfl (by exact .inr ⟨_, rfl⟩)) ?_
 refine rg_nil ?_
 refine aops_alloc zr56 rfl rfl rfl ?_
 refine aops_nil ?_
 change Awp _ _ _ _ _
 refine awp_seq ?_
 refine awp_region 9 mixed (by kernel_rfl) ?_
 refine rg_q (q_fieldAddr fld56_0 rfl) (rg_q (q_load sz3 rfl rfl) (rg_q (q_move (x := .d (.v _)) rfl) ?_))
 refine rg_q (q_min rfl rfl) ?_
 refine rg_q (q_fieldAddr fld56_1 rfl) (rg_q (q_load sz3 rfl rfl) (rg_q (q_move (x := .d (.v _)) rfl) ?_))
 refine rg_q (q_max rfl rfl) ?_
 refine rg_q (q_build (cs := [_, _]) pl56 zr56 rfl (.cons rfl (by exact .inl rfl) (.cons rfl (by exact .inl rfl) .nil)) ⟨⟨rfl, by decide⟩, ⟨rfl, by decide⟩, trivial⟩ rfl) ?_
 refine rg_nil ?_
 refine aops_store sz56 rfl rfl (by exact .inr ⟨_, rfl⟩) rfl rfl (by decide) rfl ?_
 refine aops_nil ?_
 change Awp _ _ _ _ _
 refine awp_ret ?_
 refine ⟨_, (.cons (.cellA rfl rfl sz56 rfl) .nil), ?_⟩
 rfl
set_option maxRecDepth 100000 in
theorem numbers_p (t : Tsk) (c : Int) (pr : Int × Int) (h : TskOk t) (hc : clE t.g c = 0) (hp : (0 ≤ pr.1 ∧ pr.1 < t.ne) ∧ 0 ≤ pr.2 ∧ pr.2 < t.ne) : PC Tryz.prog 103 [.pt (tkC t) 0, .v (.int .i64 (c)), .agg (shC pr)] (.tup [.agg [.v (.int .i64 ((nrI t c pr).1)), .v (.int .i64 ((nrI t c pr).2))], .v (.bool (nwI t c pr))]) := by
  obtain ⟨hg, _, _⟩ := ckG_ok h.gr
  obtain ⟨c1, c2⟩ := clE_ok hc
  have hci := cells_in hg
  obtain ⟨hao, _⟩ := ckArr_ok h.ck
  have ho := op_zero h hc hp
  have he : erR t.ar (spI t.g c) pr = (erI t.ar (spI t.g c) pr, 0) := by unfold erR; rw [if_neg (fun q => q ho)]
  obtain ⟨⟨e1, e2⟩, e3, e4⟩ := er_in t.ar (spI t.g c) pr
  refine pc_of_awpN Tryz.func103 rfl Tryz.ntmps103 (rs := [.cell 6 56, .tmp 7]) Tryz.results103 (by simp) fun w0 hmine hrnd hpn => ?_
  refine awp_seq ?_
  refine awp_region 1 mixed (by kernel_rfl) ?_
  refine rg_q (q_box rfl (by exact .inr ⟨_, rfl⟩)) ?_
  refine rg_nil ?_
  refine aops_alloc zr56 rfl rfl rfl ?_
  refine aops_q rfl (q_assign (x := .d (.v _)) rfl) ?_
  refine aops_nil ?_
  change Awp _ _ _ _ _
  refine awp_seq ?_
  refine awp_regionM 18 [none, none, none, none, none, none, none, none, none, none, none, none, none, none, none, some 8, some 8, none] mixed (by kernel_rfl) ?_
  refine rgm_q rfl (q_move (x := .d (.pt _ _)) rfl) ?_
  refine rgm_q rfl (q_nilCheck rfl) ?_
  refine rgm_q rfl (q_fieldAddr fld202_1 rfl) ?_
  refine rgm_q rfl (q_loadA (ds := [_, _, _, _, _, _, _, _, _, _, _]) sz28 rfl rfl rfl) ?_
  refine rgm_q rfl (q_move (x := .d (.pt _ _)) rfl) ?_
  refine rgm_q rfl (q_nilCheck rfl) ?_
  refine rgm_q rfl (q_fieldAddr fld202_0 rfl) ?_
  refine rgm_q rfl (q_loadA (ds := [_, _, _, _, _]) sz150 rfl rfl rfl) ?_
  refine rgm_q rfl (q_move (x := .d (.v _)) rfl) ?_
  refine rgm_q rfl (q_call en90 (.cons rfl (.cons rfl .nil)) rfl (fspot_p t.g c hg c1 (by omega))) ?_
  refine rgm_q rfl (q_loadA (ds := [_, _]) sz63 rfl rfl rfl) ?_
  refine rgm_q rfl (q_call en172 (.cons rfl (.cons rfl (.cons rfl .nil))) rfl ((by have h := echoRange_p t.ar (spI t.g c) pr; rw [he] at h; exact h))) ?_
  refine rgm_q rfl (q_move (x := .d (.tup _)) rfl) ?_
  refine rgm_q rfl (q_extract rfl rfl) ?_
  refine rgm_q rfl (q_extract rfl rfl) ?_
  refine rgm_m (k := 8) rfl rfl (by rfl) (m_alloc zr56 rfl rfl) ?_
  refine rgm_m (k := 8) rfl rfl (by rfl) (m_store sz56 rfl rfl (by exact .inr ⟨_, rfl⟩) rfl rfl (by decide) rfl) ?_
  refine rgm_q rfl (q_assign (x := .d (.v _)) rfl) ?_
  refine rgm_nil (aops_nil ?_)
  change Awp _ _ _ _ _
  refine awp_seq ?_
  refine awp_region 10 mixed (by kernel_rfl) ?_
  refine rg_q (q_move (x := .d (.pt _ _)) rfl) (rg_q (q_fieldAddr_ref fld56_0 rfl) (rg_q (q_load_ref sz3 rfl rfl rfl) ?_))
  refine rg_q (q_call en173 (.cons rfl (.cons rfl .nil)) rfl (nearest_p t (erI t.ar (spI t.g c) pr).1 hao (by omega) (by omega))) ?_
  refine rg_q (q_move (x := .d (.pt _ _)) rfl) (rg_q (q_fieldAddr_ref fld56_1 rfl) (rg_q (q_load_ref sz3 rfl rfl rfl) ?_))
  refine rg_q (q_call en173 (.cons rfl (.cons rfl .nil)) rfl (nearest_p t (erI t.ar (spI t.g c) pr).2 hao (by omega) (by omega))) ?_
  refine rg_q (q_assign (x := .d (.v _)) rfl) (rg_q (q_assign (x := .d (.v _)) rfl) ?_)
  refine rg_nil (aops_nil ?_)
  change Awp _ _ _ _ _
  refine awp_seq ?_
  refine awp_region 5 mixed (by kernel_rfl) ?_
  refine rg_q (q_move (x := .d (.v _)) rfl) ?_
  refine rg_q (q_max rfl rfl) ?_
  refine rg_q (q_move (x := .d (.v _)) rfl) ?_
  refine rg_q (q_min rfl rfl) ?_
  refine rg_q (q_build (cs := [_, _]) pl56 zr56 rfl (.cons rfl (by exact .inl rfl) (.cons rfl (by exact .inl rfl) .nil)) ⟨⟨rfl, by decide⟩, ⟨rfl, by decide⟩, trivial⟩ rfl) ?_
  refine rg_nil ?_
  refine aops_alloc zr56 rfl rfl rfl ?_
  refine aops_store sz56 rfl rfl (by exact .inr ⟨_, rfl⟩) rfl rfl (by decide) rfl ?_
  refine aops_nil ?_
  change Awp _ _ _ _ _
  refine awp_seq ?_
  refine awp_regionL 6 1 [1, 2, 3, 4, 5] mixed (by kernel_rfl) ?_
  refine rg_q (q_load_refA (ds := [_, _]) sz56 rfl rfl rfl rfl) ?_
  refine rg_q (q_load_refA (ds := [_, _]) sz56 rfl rfl rfl rfl) ?_
  refine rg_q (q_move (x := .d (.v _)) rfl) (rg_q (q_move (x := .d (.v _)) rfl) ?_)
  refine rg_q (q_build (cs := [_, _]) pl56 zr56 rfl (.cons rfl (by exact .inl rfl) (.cons rfl (by exact .inl rfl) .nil)) ⟨⟨rfl, by decide⟩, ⟨rfl, by decide⟩, trivial⟩ rfl) ?_
  refine rg_q (q_eqlI (xs := [_, _]) (ys := [_, _]) eqi56 rfl rfl rfl rfl) ?_
  refine rg_nil ?_
  refine late_set (c_store sz56 rfl rfl (by exact .inr ⟨_, rfl⟩) rfl rfl (by decide) rfl) ?_ ?_
  · refine fl_cons rfl rfl rfl (c_q (q_load_refA (ds := [_, _]) sz56 rfl rfl rfl rfl)) ?_
    first | refine fl_cons rfl rfl rfl (c_q (q_move (x := .d (.v _)) rfl)) ?_
    first | refine fl_cons rfl rfl rfl (c_q (q_move (x := .d (.v _)) rfl)) ?_
    first | refine fl_cons rfl rfl rfl (c_q (q_build (cs := [_, _]) pl56 zr56 rfl (.cons rfl (by exact .inl rfl) (.cons rfl (by exact .inl rfl) .nil)) ⟨⟨rfl, by decide⟩, ⟨rfl, by decide⟩, trivial⟩ rfl)) ?_
    first | refine fl_cons rfl rfl rfl (c_q (q_eqlI (xs := [_, _]) (ys := [_, _]) eqi56 rfl rfl rfl rfl)) ?_
    exact fl_nil
  refine late_nil ?_
  refine aops_q rfl (q_assign (x := .d (.v _)) rfl) ?_
  refine aops_nil ?_
  change Awp _ _ _ _ _
  refine awp_ret ?_
  refine ⟨_, (.cons (.cellA rfl rfl sz56 rfl) (.cons (.tmp (by exact .d _)) .nil)), ?_⟩
  rfl

abbrev RR := (Int × Int) × Int × Int
def rgS (o : RR) (i : Nat) : Int × Int := if i = 0 then o.1 else o.2
def rgW (o : RR) (i : Nat) (r : Int × Int) : RR := if i = 0 then (r, o.2) else (o.1, r)
def rgC (o : RR) : List D := [.v (.int .i64 o.1.1), .v (.int .i64 o.1.2), .v (.int .i64 o.2.1), .v (.int .i64 o.2.2)]
def ptS (re im : Int) (i : Nat) : Int := if i = 0 then re else im
def owP (b : Bool) (o : RR) (re im : Int) : Nat → RR
  | 0 => o
  | i + 1 => rgW (owP b o re im i) i (huA (if b = true then rgS (owP b o re im i) i else (ptS re im i, ptS re im i)) (ptS re im i))
def owF (t : Tsk) (y : Int × Int) (s : Bool × RR) (n : Int) : Bool × RR := (true, owP s.1 s.2 (reI (smpS t y) n.toNat) (imI (smpS t y) n.toNat) 2)
def owK (t : Tsk) (y : Int × Int) (lo : Int) (w : Bool) : Nat → Bool × RR
  | 0 => (!w, ((0, 0), 0, 0))
  | k + 1 => owF t y (owK t y lo w k) (lo + (k : Int))
def ouP (o w : RR) : Nat → RR
  | 0 => o
  | i + 1 => rgW (ouP o w i) i ((rgS (ouP o w i) i).1 + (rgS w i).1, (rgS (ouP o w i) i).2 + (rgS w i).2)
def owE (t : Tsk) (c : Int) (y : Int × Int) : RR := (owK t y (nrI t c y).1 (nwI t c y) ((nrI t c y).2 - (nrI t c y).1 + 1).toNat).2
def enA (t : Tsk) (c : Int) (l : List (Int × Int)) : RR := l.foldl (fun o y => ouP o (owE t c y) 2) ((0, 0), 0, 0)
theorem enA_snoc {t : Tsk} {c : Int} {l : List (Int × Int)} {k : Nat} {y : Int × Int} (h : l[k]? = some y) : enA t c (l.take (k + 1)) = ouP (enA t c (l.take k)) (owE t c y) 2 := by
  obtain ⟨hlt, hx⟩ := List.getElem?_eq_some_iff.1 h
  unfold enA
  rw [List.take_succ_eq_append_getElem hlt, hx, List.foldl_append]; rfl
def Bd (A : Int) (r : Int × Int) : Prop := (-A ≤ r.1 ∧ r.1 ≤ A) ∧ -A ≤ r.2 ∧ r.2 ≤ A
def Bd2 (A : Int) (o : RR) : Prop := Bd A o.1 ∧ Bd A o.2
theorem bd_S {A : Int} {o : RR} (h : Bd2 A o) (i : Nat) : Bd A (rgS o i) := by unfold rgS; split <;> first | exact h.1 | exact h.2
theorem bd_W {A : Int} {o : RR} (h : Bd2 A o) (i : Nat) {r : Int × Int} (hr : Bd A r) : Bd2 A (rgW o i r) := by unfold rgW; split <;> first | exact ⟨hr, h.2⟩ | exact ⟨h.1, hr⟩
theorem bd_hu {A : Int} {r : Int × Int} (h : Bd A r) {n : Int} (hn : -A ≤ n ∧ n ≤ A) : Bd A (huA r n) := by
  obtain ⟨⟨h1, h2⟩, h3, h4⟩ := h
  unfold huA Bd
  simp only; omega
theorem bd_owP {A : Int} {b : Bool} {o : RR} {re im : Int} (h : Bd2 A o) (h1 : -A ≤ re ∧ re ≤ A) (h2 : -A ≤ im ∧ im ≤ A) : ∀ i, Bd2 A (owP b o re im i)
  | 0 => h
  | i + 1 => by
    have ih := bd_owP (b := b) h h1 h2 i
    have hp : -A ≤ ptS re im i ∧ ptS re im i ≤ A := by unfold ptS; split <;> assumption
    refine bd_W ih i (bd_hu ?_ hp)
    split
    · exact bd_S ih i
    · exact ⟨hp, hp⟩
theorem bd_owK {t : Tsk} (h : TskOk t) (y : Int × Int) (lo : Int) (w : Bool) : ∀ k, Bd2 4094 (owK t y lo w k).2
  | 0 => by show Bd2 4094 ((0, 0), 0, 0); unfold Bd2 Bd; decide
  | k + 1 => by
    obtain ⟨h1, h2⟩ := reim_in h y (lo + (k : Int)).toNat
    exact bd_owP (bd_owK h y lo w k) h1 h2 2
theorem bd_ouP {A : Int} {o w : RR} (ho : Bd2 A o) (hA : 0 ≤ A) (hw : Bd2 4094 w) : Bd2 (A + 4094) (ouP o w 2) := by
  obtain ⟨⟨⟨a1, a2⟩, a3, a4⟩, ⟨a5, a6⟩, a7, a8⟩ := ho
  obtain ⟨⟨⟨b1, b2⟩, b3, b4⟩, ⟨b5, b6⟩, b7, b8⟩ := hw
  show Bd2 _ (rgW (rgW o 0 _) 1 _)
  unfold Bd2 Bd rgW rgS
  simp [ouP, rgW, rgS]
  omega
theorem bd_enA {t : Tsk} (h : TskOk t) {c : Int} {l : List (Int × Int)} : ∀ k : Nat, k ≤ l.length → Bd2 (4094 * (k : Int)) (enA t c (l.take k))
  | 0, _ => by show Bd2 0 ((0, 0), 0, 0); unfold Bd2 Bd; decide
  | k + 1, hk => by
    have ih := bd_enA h (c := c) (l := l) k (by omega)
    rw [enA_snoc (List.getElem?_eq_getElem (by omega))]
    have := bd_ouP ih (by omega) (bd_owK h l[k] (nrI t c l[k]).1 (nwI t c l[k]) ((nrI t c l[k]).2 - (nrI t c l[k]).1 + 1).toNat)
    have e : 4094 * ((k + 1 : Nat) : Int) = 4094 * (k : Int) + 4094 := by omega
    rw [e]; exact this

def endI (t : Tsk) (c : Int) : RR := enA t c (evL t)
theorem two (i : Nat) (h : i < 2) : i = 0 ∨ i = 1 := by omega
theorem rg_ld {o : RR} {i : Nat} (h : i < 2) : ((rgC o).drop (0 + ((i : Nat) : Int).toNat * 2)).take 2 = [.v (.int .i64 (rgS o i).1), .v (.int .i64 (rgS o i).2)] := by rcases two i h with rfl | rfl <;> rfl
theorem rg_ld0 {o : RR} {i : Nat} (h : i < 2) : (rgC o)[0 + ((i : Nat) : Int).toNat * 2 + 0]? = some (.v (.int .i64 (rgS o i).1)) := by rcases two i h with rfl | rfl <;> rfl
theorem rg_ld1 {o : RR} {i : Nat} (h : i < 2) : (rgC o)[0 + ((i : Nat) : Int).toNat * 2 + 1]? = some (.v (.int .i64 (rgS o i).2)) := by rcases two i h with rfl | rfl <;> rfl
theorem rg_st {o : RR} {i : Nat} (h : i < 2) {a b : Int} : setCs (rgC o) (0 + ((i : Nat) : Int).toNat * 2) [.v (.int .i64 a), .v (.int .i64 b)] = rgC (rgW o i (a, b)) := by rcases two i h with rfl | rfl <;> rfl
theorem rg_ln {o : RR} {i : Nat} (h : i < 2) : 0 + ((i : Nat) : Int).toNat * 2 + 2 ≤ (rgC o).length := by show _ ≤ 4; omega
theorem ou_S {o w : RR} {i : Nat} (h : i < 2) : rgS (ouP o w i) i = rgS o i := by rcases two i h with rfl | rfl <;> rfl
theorem rgW_W {o : RR} {i : Nat} {r q : Int × Int} : rgW (rgW o i r) i q = rgW o i q := by unfold rgW; split <;> rfl
theorem rgS_W {o : RR} {i : Nat} {r : Int × Int} : rgS (rgW o i r) i = r := by unfold rgS rgW; split <;> rfl
theorem ow_t {b : Bool} {o : RR} {re im : Int} {i : Nat} (hb : b = false) : owP b o re im (i + 1) = rgW (rgW (owP b o re im i) i (ptS re im i, ptS re im i)) i ((huA ((rgS (rgW (owP b o re im i) i (ptS re im i, ptS re im i)) i).1, (rgS (rgW (owP b o re im i) i (ptS re im i, ptS re im i)) i).2) (ptS re im i)).1, (huA ((rgS (rgW (owP b o re im i) i (ptS re im i, ptS re im i)) i).1, (rgS (rgW (owP b o re im i) i (ptS re im i, ptS re im i)) i).2) (ptS re im i)).2) := by
  rw [rgW_W, rgS_W]
  show rgW _ _ (huA (if b = true then _ else _) _) = _
  rw [if_neg (by rw [hb]; decide)]
theorem ow_f {b : Bool} {o : RR} {re im : Int} {i : Nat} (hb : b = true) : owP b o re im (i + 1) = rgW (owP b o re im i) i ((huA ((rgS (owP b o re im i) i).1, (rgS (owP b o re im i) i).2) (ptS re im i)).1, (huA ((rgS (owP b o re im i) i).1, (rgS (owP b o re im i) i).2) (ptS re im i)).2) := by
  show rgW _ _ (huA (if b = true then _ else _) _) = _
  rw [if_pos hb]
theorem pt_ix {re im : Int} {i : Nat} (h : i < 2) : ([.v (.int .i64 re), .v (.int .i64 im)] : List D)[((i : Nat) : Int).toNat]? = some (.v (.int .i64 (ptS re im i))) := by rcases two i h with rfl | rfl <;> rfl
set_option maxRecDepth 100000 in
theorem endsAt_p (t : Tsk) (c : Int) (h : TskOk t) (hc : clE t.g c = 0) : PC Tryz.prog 28 [.agg (tskC t), .v (.int .i64 (c))] (.tup [.agg (rgC (endI t c)), .v (.int .i64 (0))]) := by
 have hn1 := h.n1
 have hn2 := h.n2
 obtain ⟨ha1, ha2⟩ := allL_ok h
 have hlen : (evL t).length ≤ 1600 := by
  unfold evL
  rw [pqL_len, allL_len]
  have := Nat.mul_le_mul (show t.ne.toNat ≤ 16 by omega) (show t.ne.toNat ≤ 16 by omega)
  omega
 refine pc_of_awpN Tryz.func28 rfl Tryz.ntmps28 (rs := [.cell 4 57, .tmp 5]) Tryz.results28 (by simp) fun w0 hmine hrnd hpn => ?_
 refine awp_seq ?_
 refine awp_region 2 mixed (by kernel_rfl) ?_
 refine rg_q (q_box rfl (by exact .inr ⟨_, rfl⟩)) ?_
 refine rg_q (q_box rfl (by exact .inl rfl)) ?_
 refine rg_nil ?_
 refine aops_alloc zr57 rfl rfl rfl ?_
 refine aops_q rfl (q_assign (x := .d (.v _)) rfl) ?_
 refine aops_nil ?_
 change Awp _ _ _ _ _
 refine awp_seq ?_
 refine awp_region 6 mixed (by kernel_rfl) ?_
 refine rg_q (q_loadA sz37 rfl rfl rfl) ?_
 refine rg_q (q_load sz3 rfl rfl) ?_
 refine rg_q (q_call en94 (.cons rfl (.cons rfl .nil)) rfl ((by have h := openCell_p t c h; rw [hc] at h; exact h))) ?_
 refine rg_q (q_move (x := .d (.tup _)) rfl) (rg_q (q_extract rfl rfl) (rg_q (q_extract rfl rfl) ?_))
 refine rg_nil ?_
 refine aops_alloc zr156 rfl rfl rfl ?_
 refine aops_store sz156 rfl rfl (by exact .inl rfl) rfl rfl (by decide) rfl ?_
 refine aops_q rfl (q_assign (x := .d (.v _)) rfl) ?_
 refine aops_nil ?_
 change Awp _ _ _ _ _
 refine awp_seq ?_
 refine awp_seq ?_
 refine awp_region 2 mixed (by kernel_rfl) ?_
 refine rg_q (q_move (x := .d (.v _)) rfl) (rg_q (q_neq rfl rfl) ?_)
 refine rg_nil (aops_nil ?_)
 change Awp _ _ _ _ _
 refine awp_cond rfl (fun hc2 => ?_) (fun hc2 => ?_)
 ·
  simp at hc2
 ·
  (try simp only [nb, ne_eq] at hc2)
  refine awp_skip ?_
  change Awp _ _ _ _ _
  refine awp_seq ?_
  refine awp_region 0 mixed (by kernel_rfl) ?_
  refine rg_nil ?_
  refine aops_alloc zr57 rfl rfl rfl ?_
  refine aops_nil ?_
  change Awp _ _ _ _ _
  refine awp_seq ?_
  refine awp_seq ?_
  refine awp_region 4 mixed (by kernel_rfl) ?_
  refine rg_q (q_load_ref sz156 rfl rfl rfl) (rg_q (q_load_ref sz156 rfl rfl rfl) ?_)
  refine rg_q (q_call en96 (.cons rfl .nil) rfl (all_p t hn1 hn2)) ?_
  refine rg_q (q_call en102 (.cons rfl (.cons rfl .nil)) rfl (fpairs_p t (allL t.ne.toNat))) ?_
  refine rg_nil (aops_nil ?_)
  change Awp _ _ _ _ _
  refine awp_block ?_
  refine Awp.le (le_freeze 6 6 0 (cs := [.pt (tkC t) 0]) rfl rfl rfl rfl hmine) ?_
  refine awp_rangeFC (α := Int × Int) (β := Nat) (n := 109) (enc := (encQ t)) (items := evL t) 1000 [(3, .d (.pt [.v (.int .i64 (c))] 0)), (4, .ref 4 0), (6, .d (.pt [.pt (tkC t) 0] 0)), (8, .ref 8 0), (33, .d (.fn (.func 171) [.pt [.sl 1 ((allL t.ne.toNat).map iC)] 0, .pt [.pt (tkC t) 0] 0]))] (fun x => [(4, .box (rgC ((0, 0), 0, 0))), (8, .box (rgC (enA t c ((evL t).take x))))]) (fun k x => x = k) (fun e x => False) 0 hrnd ?_ (.inr ⟨rfl, rfl⟩) en171 (fpairs_i t (allL t.ne.toNat) h ha1 (by omega)) rfl (fun _ => rfl) rfl (fun x => fsl_mem (fsl_cons (fst_box (by repeat (first | exact trivial | refine ⟨.v _, ?_⟩))) (fsl_cons (fst_box (by repeat (first | exact trivial | refine ⟨.v _, ?_⟩))) fsl_nil))) (fun _ => rfl) rfl (fun h => by cases h) ?_ ?_ ?_
  · exact le_cst (fun k => k) _ _ rfl ⟨rfl, rfl, rfl, rfl, rfl, trivial⟩ ⟨rfl, rfl, trivial⟩ rfl (fun k b h => by rw [hpn k] at h; cases h)
  ·
   intro w1 hw1 k x y hI hy
   subst hI
   have hmy := pqL_in (List.mem_of_getElem? hy)
   obtain ⟨hy0, hy3, hy4⟩ := hmy
   obtain ⟨hy1, hy2⟩ := ha1 _ hy0
   have hxl : x < (evL t).length := (List.getElem?_eq_some_iff.1 hy).1
   have hbd := bd_enA h (c := c) (l := evL t) x (by omega)
   have hnr : 0 ≤ (nrI t c y).1 ∧ (nrI t c y).2 ≤ 60 := by unfold nrI; simp only; omega
   have hst := enA_snoc (t := t) (c := c) hy
   refine awp_seq ?_
   refine awp_region 0 mixed (by kernel_rfl) ?_
   refine rg_nil ?_
   refine aops_alloc zr63 rfl rfl rfl ?_
   refine aops_store sz63 rfl rfl (by exact .inr ⟨_, rfl⟩) rfl rfl (by decide) rfl ?_
   refine aops_nil ?_
   change Awp _ _ _ _ _
   refine awp_region 1 mixed (by kernel_rfl) ?_
   refine rg_q (q_assign (x := .d (.pt _ _)) rfl) ?_
   refine rg_nil (aops_nil ?_)
   refine ⟨rfl, fun w2 hw2 => ?_⟩
   refine awp_block ?_
   refine awp_seq ?_
   refine awp_region 7 mixed (by kernel_rfl) ?_
   refine rg_q (q_load sz156 rfl rfl) (rg_q (q_load sz3 rfl rfl) ?_)
   refine rg_q (q_load_refA (ds := [_, _]) sz63 rfl rfl rfl rfl) ?_
   refine rg_q (q_call en103 (.cons rfl (.cons rfl (.cons rfl .nil))) rfl (numbers_p t c y h hc ⟨⟨hy1, hy2⟩, hy3, by omega⟩)) ?_
   refine rg_q (q_move (x := .d (.tup _)) rfl) (rg_q (q_extract rfl rfl) (rg_q (q_extract rfl rfl) ?_))
   refine rg_nil ?_
   refine aops_alloc zr56 rfl rfl rfl ?_
   refine aops_store sz56 rfl rfl (by exact .inr ⟨_, rfl⟩) rfl rfl (by decide) rfl ?_
   refine aops_q rfl (q_assign (x := .d (.v _)) rfl) ?_
   refine aops_nil ?_
   change Awp _ _ _ _ _
   refine awp_seq ?_
   refine awp_region 0 mixed (by kernel_rfl) ?_
   refine rg_nil ?_
   refine aops_alloc zr57 rfl rfl rfl ?_
   refine aops_nil ?_
   change Awp _ _ _ _ _
   refine awp_seq ?_
   refine awp_region 3 mixed (by kernel_rfl) ?_
   refine rg_q (q_move (x := .d (.v _)) rfl) (rg_q (q_not rfl) (rg_q (q_assign (x := .d (.v _)) rfl) ?_))
   refine rg_nil (aops_nil ?_)
   change Awp _ _ _ _ _
   refine awp_seq ?_
   refine awp_seq ?_
   refine awp_region 3 mixed (by kernel_rfl) ?_
   refine rg_q (q_fieldAddr_ref fld56_0 rfl) (rg_q (q_load_ref sz3 rfl rfl rfl) (rg_q (q_assign (x := .d (.v _)) rfl) ?_))
   refine rg_nil (aops_nil ?_)
   change Awp _ _ _ _ _
   refine awp_block ?_
   refine awp_loopH [14, 15, 16, 17, 18, 47, 48, 49, 50, 51, 52, 53, 54, 55, 56, 57, 58, 59, 60, 61, 62, 63, 64, 65, 66, 67, 68, 69, 70, 71, 72, 73, 74, 75, 76, 77, 78, 79, 80, 81, 82] [13] (α := Nat) (fun k => [(15, T.i ((nrI t c y).1 + (k : Int))), (14, .d (.v (.bool ((owK t y (nrI t c y).1 (nwI t c y) k).1))))]) (fun k => [(13, .box (rgC (owK t y (nrI t c y).1 (nwI t c y) k).2))]) (fun k => k ≤ ((nrI t c y).2 - (nrI t c y).1 + 1).toNat) (fun k => ((nrI t c y).2 - (nrI t c y).1 + 1).toNat - k) 0 (Nat.zero_le _) ?_ ?_
   · exact le_head (ms := [13]) (by repeat (exact Out.refl _)) ⟨(by ((show T.i _ = T.i _; congr 1; omega))), (by rfl), trivial⟩ ⟨(by rfl), trivial⟩ rfl rfl rfl rfl
   ·
    intro k hk
    refine awp_seq ?_
    refine awp_seq ?_
    refine awp_region 4 mixed (by kernel_rfl) ?_
    refine rg_q (q_move (x := .d (.v _)) rfl) (rg_q (q_fieldAddr_ref fld56_1 rfl) (rg_q (q_load_ref sz3 rfl rfl rfl) (rg_q (q_leq rfl rfl) ?_)))
    refine rg_nil (aops_nil ?_)
    change Awp _ _ _ _ _
    refine awp_cond rfl (fun hc12 => ?_) (fun hc12 => ?_)
    ·
     (try simp only [nb, ne_eq] at hc12)
     have hlt : k < ((nrI t c y).2 - (nrI t c y).1 + 1).toNat := by omega
     obtain ⟨hre, him⟩ := reim_in h y ((nrI t c y).1 + (k : Int)).toNat
     refine awp_skip ?_
     change Awp _ _ _ _ _
     refine awp_seq ?_
     refine awp_block ?_
     refine awp_seq ?_
     refine awp_region 6 mixed (by kernel_rfl) ?_
     refine rg_q (q_move (x := .d (.pt _ _)) rfl) (rg_q (q_move (x := .d (.v _)) rfl) (rg_q (q_nilCheck rfl) ?_))
     refine rg_q (q_indexAddr_ar ar273 rfl rfl (by omega) (by omega)) ?_
     refine rg_q (q_load sz178 rfl (by rw [Nat.zero_add, Nat.mul_one]; exact anL_at (S := smpS t y) (by omega))) ?_
     refine rg_q (q_call en104 (.cons rfl .nil) rfl (fsample_p _ _ hre him)) ?_
     refine rg_nil ?_
     refine aops_alloc zr160 rfl rfl rfl ?_
     refine aops_store sz160 rfl rfl (by exact .inr ⟨_, rfl⟩) rfl rfl (by decide) rfl ?_
     refine aops_nil ?_
     change Awp _ _ _ _ _
     refine awp_seq ?_
     refine awp_seq ?_
     refine awp_region 6 mixed (by kernel_rfl) ?_
     refine rg_q (q_fieldAddr_ref fld160_0 rfl) (rg_q (q_load_ref sz3 rfl rfl rfl) (rg_q (q_fieldAddr_ref fld160_1 rfl) (rg_q (q_load_ref sz3 rfl rfl rfl) ?_)))
     refine rg_q (q_buildA (cs := [_, _]) ar63 zr63 rfl (.cons rfl (by exact .inl rfl) (.cons rfl (by exact .inl rfl) .nil)) ⟨⟨rfl, by decide⟩, ⟨rfl, by decide⟩, trivial⟩ rfl) ?_
     refine rg_q (q_move (x := .d (.v _)) rfl) ?_
     refine rg_nil (aops_nil ?_)
     change Awp _ _ _ _ _
     refine awp_block ?_
     refine awp_loopH [17, 18, 64, 65, 66, 67, 68, 69, 70, 71, 72, 73, 74, 75, 76, 77, 78, 79, 80, 81, 82] [13] (α := Nat) (fun i => [(64, T.i (i : Int))]) (fun i => [(13, .box (rgC (owP (owK t y (nrI t c y).1 (nwI t c y) k).1 (owK t y (nrI t c y).1 (nwI t c y) k).2 (reI (smpS t y) ((nrI t c y).1 + (k : Int)).toNat) (imI (smpS t y) ((nrI t c y).1 + (k : Int)).toNat) i)))]) (fun i => i ≤ 2) (fun i => 2 - i) 0 (Nat.zero_le _) ?_ ?_
     · exact le_head (ms := [13]) (by repeat (exact Out.refl _)) ⟨(by rfl), trivial⟩ ⟨(by rfl), trivial⟩ rfl rfl rfl rfl
     ·
      intro i hi
      refine awp_seq ?_
      refine awp_region 1 mixed (by kernel_rfl) ?_
      refine rg_q (q_lss rfl rfl) ?_
      refine rg_nil (aops_nil ?_)
      change Awp _ _ _ _ _
      refine awp_seq ?_
      refine awp_cond rfl (fun hc16 => ?_) (fun hc16 => ?_)
      ·
       (try simp only [nb, ne_eq] at hc16)
       have hi2 : i < 2 := by omega
       have hidx := pt_ix (re := reI (smpS t y) ((nrI t c y).1 + (k : Int)).toNat) (im := imI (smpS t y) ((nrI t c y).1 + (k : Int)).toNat) hi2
       refine awp_skip ?_
       change Awp _ _ _ _ _
       refine awp_seq ?_
       refine awp_block ?_
       refine awp_seq ?_
       refine awp_region 4 mixed (by kernel_rfl) ?_
       refine rg_q (q_move (x := .d (.v _)) rfl) ?_
       refine rg_q (q_index_ar ar63 sz3 rfl rfl (by omega) (by omega) hidx) ?_
       refine rg_q (q_assign (x := .d (.v _)) rfl) (rg_q (q_assign (x := .d (.v _)) rfl) ?_)
       refine rg_nil (aops_nil ?_)
       change Awp _ _ _ _ _
       refine awp_seq ?_
       refine awp_seq ?_
       refine awp_region 2 mixed (by kernel_rfl) ?_
       refine rg_q (q_move (x := .d (.v _)) rfl) (rg_q (q_not rfl) ?_)
       refine rg_nil (aops_nil ?_)
       change Awp _ _ _ _ _
       refine awp_cond rfl (fun hc18 => ?_) (fun hc18 => ?_)
       ·
        (try simp only [nb, ne_eq] at hc18)
        have hnx := ow_t (o := (owK t y (nrI t c y).1 (nwI t c y) k).2) (re := reI (smpS t y) ((nrI t c y).1 + (k : Int)).toNat) (im := imI (smpS t y) ((nrI t c y).1 + (k : Int)).toNat) (i := i) hc18
        refine awp_region 5 mixed (by kernel_rfl) ?_
        refine rg_q (q_move (x := .d (.v _)) rfl) (rg_q (q_move (x := .d (.v _)) rfl) (rg_q (q_move (x := .d (.v _)) rfl) ?_))
        refine rg_q (q_build (cs := [_, _]) pl56 zr56 rfl (.cons rfl (by exact .inl rfl) (.cons rfl (by exact .inl rfl) .nil)) ⟨⟨rfl, by decide⟩, ⟨rfl, by decide⟩, trivial⟩ rfl) ?_
        refine rg_q (q_indexAddr_aref ar57 rfl rfl (by omega) (by omega)) ?_
        refine rg_nil ?_
        refine aops_store (cs' := _) sz56 rfl rfl (by exact .inr ⟨_, rfl⟩) rfl rfl (rg_ln hi2) (rg_st hi2) ?_
        refine aops_nil ?_
        change Awp _ _ _ _ _
        refine awp_region 7 mixed (by kernel_rfl) ?_
        refine rg_q (q_move (x := .d (.v _)) rfl) (rg_q (q_move (x := .d (.v _)) rfl) ?_)
        refine rg_q (q_indexAddr_aref ar57 rfl rfl (by omega) (by omega)) ?_
        refine rg_q (q_load_refA (ds := [_, _]) sz56 rfl rfl (rg_ld hi2) rfl) ?_
        refine rg_q (q_move (x := .d (.v _)) rfl) ?_
        refine rg_q (q_call en105 (.cons rfl (.cons rfl .nil)) rfl (hull_p _ _ _)) ?_
        refine rg_q (q_indexAddr_aref ar57 rfl rfl (by omega) (by omega)) ?_
        refine rg_nil ?_
        refine aops_store (cs' := _) sz56 rfl rfl (by exact .inr ⟨_, rfl⟩) rfl rfl (rg_ln hi2) (rg_st hi2) ?_
        refine aops_nil ?_
        change Awp _ _ _ _ _
        refine awp_region 2 mixed (by kernel_rfl) ?_
        refine rg_q (q_add rfl rfl (In64.mk (by omega) (by omega))) ?_
        refine rg_q (q_move (x := .d (.v _)) rfl) ?_
        refine rg_nil (aops_nil ?_)
        refine ⟨i + 1, by omega, by omega, ?_⟩
        exact le_head (ms := [13]) (by repeat (first | exact Out.head rfl rfl | (refine Out.put ?_ rfl) | (refine Out.site ?_ rfl))) ⟨(by rfl), trivial⟩ ⟨(by ((show Site.box _ = Site.box _; (rw [hnx]; done)))), trivial⟩ rfl rfl rfl rfl
       ·
        (try simp only [nb, ne_eq] at hc18)
        have hnx := ow_f (o := (owK t y (nrI t c y).1 (nwI t c y) k).2) (re := reI (smpS t y) ((nrI t c y).1 + (k : Int)).toNat) (im := imI (smpS t y) ((nrI t c y).1 + (k : Int)).toNat) (i := i) hc18
        refine awp_skip ?_
        change Awp _ _ _ _ _
        refine awp_region 7 mixed (by kernel_rfl) ?_
        refine rg_q (q_move (x := .d (.v _)) rfl) (rg_q (q_move (x := .d (.v _)) rfl) ?_)
        refine rg_q (q_indexAddr_aref ar57 rfl rfl (by omega) (by omega)) ?_
        refine rg_q (q_load_refA (ds := [_, _]) sz56 rfl rfl (rg_ld hi2) rfl) ?_
        refine rg_q (q_move (x := .d (.v _)) rfl) ?_
        refine rg_q (q_call en105 (.cons rfl (.cons rfl .nil)) rfl (hull_p _ _ _)) ?_
        refine rg_q (q_indexAddr_aref ar57 rfl rfl (by omega) (by omega)) ?_
        refine rg_nil ?_
        refine aops_store (cs' := _) sz56 rfl rfl (by exact .inr ⟨_, rfl⟩) rfl rfl (rg_ln hi2) (rg_st hi2) ?_
        refine aops_nil ?_
        change Awp _ _ _ _ _
        refine awp_region 2 mixed (by kernel_rfl) ?_
        refine rg_q (q_add rfl rfl (In64.mk (by omega) (by omega))) ?_
        refine rg_q (q_move (x := .d (.v _)) rfl) ?_
        refine rg_nil (aops_nil ?_)
        refine ⟨i + 1, by omega, by omega, ?_⟩
        exact le_head (ms := [13]) (by repeat (first | exact Out.head rfl rfl | (refine Out.put ?_ rfl) | (refine Out.site ?_ rfl))) ⟨(by rfl), trivial⟩ ⟨(by ((show Site.box _ = Site.box _; (rw [hnx]; done)))), trivial⟩ rfl rfl rfl rfl
      ·
       (try simp only [nb, ne_eq] at hc16)
       have hi3 : i = 2 := by omega
       subst hi3
       refine awp_exit ?_
       change Awp _ _ _ _ _
       refine awp_region 1 mixed (by kernel_rfl) ?_
       refine rg_q (q_assign (x := .d (.v _)) rfl) ?_
       refine rg_nil (aops_nil ?_)
       change Awp _ _ _ _ _
       refine awp_region 3 mixed (by kernel_rfl) ?_
       refine rg_q (q_move (x := .d (.v _)) rfl) ?_
       refine rg_q (q_add rfl rfl (In64.mk (by omega) (by omega))) ?_
       refine rg_q (q_assign (x := .d (.v _)) rfl) ?_
       refine rg_nil (aops_nil ?_)
       refine ⟨k + 1, by omega, by omega, ?_⟩
       exact le_head (ms := [13]) (by repeat (first | exact Out.head rfl rfl | (refine Out.put ?_ rfl) | (refine Out.site ?_ rfl) | (refine Out.headIn ?_ rfl rfl rfl))) ⟨(by ((show T.i _ = T.i _; congr 1; omega))), (by rfl), trivial⟩ ⟨(by rfl), trivial⟩ rfl rfl rfl rfl
    ·
     (try simp only [nb, ne_eq] at hc12)
     have hkn : k = ((nrI t c y).2 - (nrI t c y).1 + 1).toNat := by omega
     have hoe : (owK t y (nrI t c y).1 (nwI t c y) k).2 = owE t c y := by rw [hkn]; rfl
     rw [hoe]
     refine awp_exit ?_
     change Awp _ _ _ _ _
     refine awp_seq ?_
     refine awp_region 1 mixed (by kernel_rfl) ?_
     refine rg_q (q_move (x := .d (.v _)) rfl) ?_
     refine rg_nil (aops_nil ?_)
     change Awp _ _ _ _ _
     refine awp_block ?_
     refine awp_loopH [19, 83, 84, 85, 86, 87, 88, 89, 90, 91, 92, 93, 94, 95, 96, 97, 98, 99, 100, 101, 102, 103, 104, 105, 106, 107] [1008] (α := Nat) (fun i => [(83, T.i (i : Int))]) (fun i => [(1008, .box (rgC (ouP (enA t c ((evL t).take x)) (owE t c y) i)))]) (fun i => i ≤ 2) (fun i => 2 - i) 0 (Nat.zero_le _) ?_ ?_
     · exact le_head (ms := [1008]) (by repeat (exact Out.refl _)) ⟨(by rfl), trivial⟩ ⟨(by rfl), trivial⟩ rfl rfl rfl rfl
     ·
      intro i hi
      refine awp_seq ?_
      refine awp_region 1 mixed (by kernel_rfl) ?_
      refine rg_q (q_lss rfl rfl) ?_
      refine rg_nil (aops_nil ?_)
      change Awp _ _ _ _ _
      refine awp_seq ?_
      refine awp_cond rfl (fun hc24 => ?_) (fun hc24 => ?_)
      ·
       (try simp only [nb, ne_eq] at hc24)
       have hi2 : i < 2 := by omega
       obtain ⟨⟨q1, q2⟩, q3, q4⟩ := bd_S hbd i
       obtain ⟨⟨q5, q6⟩, q7, q8⟩ := bd_S (show Bd2 4094 (owE t c y) from bd_owK h y _ _ _) i
       have hsi := ou_S (o := enA t c ((evL t).take x)) (w := owE t c y) hi2
       refine awp_skip ?_
       change Awp _ _ _ _ _
       refine awp_seq ?_
       refine awp_block ?_
       refine awp_seq ?_
       refine awp_region 2 mixed (by kernel_rfl) ?_
       refine rg_q (q_move (x := .d (.v _)) rfl) (rg_q (q_assign (x := .d (.v _)) rfl) ?_)
       refine rg_nil (aops_nil ?_)
       change Awp _ _ _ _ _
       refine awp_region 21 mixed (by kernel_rfl) ?_
       refine rg_q (q_move (x := .d (.v _)) rfl) (rg_q (q_move (x := .d (.v _)) rfl) ?_)
       refine rg_q (q_indexAddr_aref ar57 rfl rfl (by omega) (by omega)) ?_
       refine rg_q (q_fieldAddr_ref fld56_0 rfl) ?_
       refine rg_q (q_load_ref sz3 rfl rfl (rg_ld0 hi2)) ?_
       refine rg_q (q_move (x := .d (.v _)) rfl) ?_
       refine rg_q (q_indexAddr_aref ar57 rfl rfl (by omega) (by omega)) ?_
       refine rg_q (q_fieldAddr_ref fld56_0 rfl) ?_
       refine rg_q (q_load_ref sz3 rfl rfl (rg_ld0 hi2)) ?_
       refine rg_q (q_add rfl rfl (In64.mk (by rw [hsi]; omega) (by rw [hsi]; omega))) ?_
       refine rg_q (q_move (x := .d (.v _)) rfl) ?_
       refine rg_q (q_indexAddr_aref ar57 rfl rfl (by omega) (by omega)) ?_
       refine rg_q (q_fieldAddr_ref fld56_1 rfl) ?_
       refine rg_q (q_load_ref sz3 rfl rfl (rg_ld1 hi2)) ?_
       refine rg_q (q_move (x := .d (.v _)) rfl) ?_
       refine rg_q (q_indexAddr_aref ar57 rfl rfl (by omega) (by omega)) ?_
       refine rg_q (q_fieldAddr_ref fld56_1 rfl) ?_
       refine rg_q (q_load_ref sz3 rfl rfl (rg_ld1 hi2)) ?_
       refine rg_q (q_add rfl rfl (In64.mk (by rw [hsi]; omega) (by rw [hsi]; omega))) ?_
       refine rg_q (q_build (cs := [_, _]) pl56 zr56 rfl (.cons rfl (by exact .inl rfl) (.cons rfl (by exact .inl rfl) .nil)) ⟨⟨rfl, by decide⟩, ⟨rfl, by decide⟩, trivial⟩ rfl) ?_
       refine rg_q (q_indexAddr_aref ar57 rfl rfl (by omega) (by omega)) ?_
       refine rg_nil ?_
       refine aops_store (cs' := _) sz56 rfl rfl (by exact .inr ⟨_, rfl⟩) rfl rfl (rg_ln hi2) (rg_st hi2) ?_
       refine aops_nil ?_
       change Awp _ _ _ _ _
       refine awp_region 2 mixed (by kernel_rfl) ?_
       refine rg_q (q_add rfl rfl (In64.mk (by omega) (by omega))) ?_
       refine rg_q (q_move (x := .d (.v _)) rfl) ?_
       refine rg_nil (aops_nil ?_)
       refine ⟨i + 1, by omega, by omega, ?_⟩
       exact le_head (ms := [1008]) (by repeat (first | exact Out.head rfl rfl | (refine Out.put ?_ rfl) | (refine Out.site ?_ rfl))) ⟨(by rfl), trivial⟩ ⟨(by rfl), trivial⟩ rfl rfl rfl rfl
      ·
       (try simp only [nb, ne_eq] at hc24)
       have hi3 : i = 2 := by omega
       subst hi3
       refine awp_exit ?_
       refine .inl ⟨rfl, x + 1, rfl, ?_⟩
       exact le_round [] _ hw2 rfl ⟨(by rfl), (by (show Site.box _ = Site.box _; (rw [hst]; done))), trivial⟩ rfl
  ·
   intro x hI
   have hI2 : x = (evL t).length := hI
   subst hI2
   rw [List.take_length] at *
   change Awp _ _ _ _ _
   refine awp_seq ?_
   refine awp_region 1 mixed (by kernel_rfl) ?_
   refine rg_q (q_load_refA (ds := [_, _, _, _]) sz57 rfl rfl rfl rfl) ?_
   refine rg_nil ?_
   refine aops_store sz57 rfl rfl (by exact .inr ⟨_, rfl⟩) rfl rfl (by decide) rfl ?_
   refine aops_q rfl (q_assign (x := .d (.v _)) rfl) ?_
   refine aops_nil ?_
   change Awp _ _ _ _ _
   refine awp_ret ?_
   refine ⟨_, (.cons (.cellA rfl rfl sz57 rfl) (.cons (.tmp (by exact .d _)) .nil)), ?_⟩
   rfl
  ·
   exact fun e x h => h.elim
end Go.Proofs.YtphlaicnmmglhaaGreat.Am.M
