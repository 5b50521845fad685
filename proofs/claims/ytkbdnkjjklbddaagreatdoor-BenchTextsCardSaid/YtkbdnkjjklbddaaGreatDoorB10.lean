/- Contracts over the abstract machine: the lines of a text are taken by closures: the code. Conditions: none. -/
import Derived.Test.YtkbdnkjjklbddaaGreatDoorB9
set_option linter.unusedVariables false
set_option linter.unusedSimpArgs false
-- mini
set_option maxRecDepth 100000
namespace Go.Proofs.YtkbdnkjjklbddaaGreatDoor.Am.M
open Go
theorem next_p (r : List UInt8) (n : Int) (hr : r.length ≤ 100000) : PCSG Tryz.prog NGB GB 103 [.ref 0 0] [.box [.v (.string (mkB r)), .v (.int .i64 n)]] (.d (.tup [.v (.string (mkB (lnC r).1)), .v (.bool (lnC r).2.2)])) [.box [.v (.string (mkB r)), .v (.int .i64 n)]] := by
 refine pcsg_of_awpX gb_low Tryz.func103 rfl Tryz.ntmps103 (rs := [.tmp 2, .tmp 3]) Tryz.results103 (by simp) rfl fun w0 hrnd hGB hNG hmp => ?_
 have hG : ∀ w, ExtM w0 w → GW w := fun w h => (hGB w h).1
 refine awp_seq ?_
 refine xa 2 ?_
 refine rg_q (q_a rfl) (rg_q (q_a rfl) ?_)
 refine rs (xa 12 ?_)
 refine rg_q (q_move (x := .ref _ _) rfl) (rg_q (q_nilCheck_ref rfl) (rg_q (q_fieldAddr_ref fld99_0 rfl) (rg_q (q_load_ref sz9 rfl rfl rfl) ?_)))
 refine rg_q (q_callG en126 (.cons rfl (.cons rfl .nil)) rfl hG ((by have q := scut_p (mkB r) (by rw [mkB_size]; omega); rw [data_mkB] at q; exact q))) ?_
 refine rg_q (q_move (x := .d (.tup _)) rfl) (rg_q (q_extract rfl rfl) (rg_q (q_extract rfl rfl) (rg_q (q_extract rfl rfl) (rg_q (q_a rfl) (rg_q (q_a rfl) ?_)))))
 refine rg_q (q_a rfl) ?_
 refine rs (xa 4 ?_)
 refine rg_q (q_m rfl) (rg_q (q_m rfl) (rg_q (q_a rfl) (rg_q (q_a rfl) ?_)))
 refine xc (awp_ret ?_)
 exact endx_mk (.inl rfl) _ [18] (.cons (.tmp rfl) (.cons (.tmp rfl) .nil)) rfl (by repeat (first | exact trivial | refine ⟨rfl, ?_⟩)) rfl
theorem pass_p (b0 : Nat) (r : List UInt8) (n : Int) (hr : r.length ≤ 100000) (hn : 0 ≤ n ∧ n ≤ 100000) : PCSX Tryz.prog NGB GB b0 104 [.ref 0 0] [.box [.v (.string (mkB r)), .v (.int .i64 n)]] (.d (.tup [])) [.box [.v (.string (mkB (lnC r).2.1)), .v (.int .i64 (n + 1))]] := by
 refine pcsx_of_awp gb_low Tryz.func104 rfl Tryz.ntmps104 (rs := []) Tryz.results104 (by simp) 1000 b0 rfl fun w0 hrnd hGB hNG => ?_
 have hG : ∀ w, ExtM w0 w → GW w := fun w h => (hGB w h).1
 refine awp_seq ?_
 refine xa 12 ?_
 refine rg_q (q_move (x := .ref _ _) rfl) (rg_q (q_move (x := .ref _ _) rfl) (rg_q (q_nilCheck_ref rfl) (rg_q (q_fieldAddr_ref fld99_0 rfl) (rg_q (q_load_ref sz9 rfl rfl rfl) ?_))))
 refine rg_q (q_callG en126 (.cons rfl (.cons rfl .nil)) rfl hG ((by have q := scut_p (mkB r) (by rw [mkB_size]; omega); rw [data_mkB] at q; exact q))) ?_
 refine rg_q (q_move (x := .d (.tup _)) rfl) (rg_q (q_extract rfl rfl) (rg_q (q_extract rfl rfl) (rg_q (q_extract rfl rfl) (rg_q (q_nilCheck_ref rfl) (rg_q (q_fieldAddr_ref fld99_0 rfl) ?_)))))
 refine rg_nil ?_
 refine aops_store sz9 rfl rfl (by exact .inl rfl) rfl rfl (by simp; done) rfl ?_
 refine aops_nil ?_
 change Awp _ _ _ _ _
 refine xa 7 ?_
 refine rg_q (q_move (x := .ref _ _) rfl) (rg_q (q_nilCheck_ref rfl) (rg_q (q_fieldAddr_ref fld99_1 rfl) (rg_q (q_load_ref sz3 rfl rfl rfl) ?_)))
 refine rg_q (q_add rfl rfl xi) ?_
 refine rg_q (q_nilCheck_ref rfl) (rg_q (q_fieldAddr_ref fld99_1 rfl) ?_)
 refine rg_nil ?_
 refine aops_store sz3 rfl rfl (by exact .inl rfl) rfl rfl (by exact Nat.le_of_ble_eq_true rfl) rfl ?_
 refine aops_nil ?_
 exact end_mk (.inr rfl) [21] .none (by repeat (first | exact trivial | refine ⟨rfl, ?_⟩)) rfl

def timS : ByteArray := ⟨#[116, 105, 109, 101, 115]⟩
def outS : ByteArray := ⟨#[111, 117, 116]⟩
def bacS : ByteArray := ⟨#[98, 97, 99, 107]⟩
def eleS : ByteArray := ⟨#[101, 108, 101, 109, 101, 110, 116]⟩
def pulS : ByteArray := ⟨#[112, 117, 108, 115, 101]⟩
def puB (s : ByteArray) : Bool := (nbR s pulS).2 && decide (0 < (nbR s pulS).1.length)
theorem form1_p (b0 : Nat) (s wd : ByteArray) (hs : s.size ≤ 100000) (cs : List D) (os : List Nat) (hol : os.length ≤ 10) (hoc : ∀ o ∈ os, o < cs.length) : PCSX Tryz.prog NGB GB b0 75 [.d (.v (.string (s))), .d (.pt [.v (.string wd), .sl 1 (os.map fun o => [.v (ptr b0 o)])] 0)] [.box cs] (.d (.v (.bool ((rdB s wd os.length))))) [.box (rdC cs os s wd)] := by
 refine pcsx_of_awp gb_low Tryz.func75 rfl Tryz.ntmps75 (rs := [.tmp 3]) Tryz.results75 (by simp) 1000 b0 rfl fun w0 hrnd hGB hNG => ?_
 have hG : ∀ w, ExtM w0 w → GW w := fun w h => (hGB w h).1
 refine awp_seq ?_
 refine xa 1 ?_
 refine rg_q (q_a rfl) ?_
 refine rs (xa 5 ?_)
 refine rg_q (q_m rfl) (rg_q (q_fieldAddr fld149_0 rfl) (rg_q (q_load sz9 rfl rfl) (rg_q (q_fieldAddr fld149_1 rfl) (rg_q (q_load sz77 rfl rfl) ?_))))
 refine rg_nil ?_
 refine aops_callLX hGB hNG 1000 [10] [] en57 rfl rfl (read_p b0 s wd hs cs os hol hoc) (.cons rfl (.cons rfl (.cons rfl .nil))) rfl rfl rfl (by repeat (first | exact trivial | refine ⟨rfl, ?_⟩)) (by repeat (exact trivial)) rfl ?_
 refine aops_q rfl (q_a rfl) ?_
 refine aops_nil ?_
 change Awp _ _ _ _ _
 refine awp_ret ?_
 exact end_mk (.inl rfl) [10] (.tmp rfl) (by repeat (first | exact trivial | refine ⟨rfl, ?_⟩)) rfl
theorem form2_p (b0 : Nat) (s : ByteArray) (hs : s.size ≤ 100000) (cs : List D) (hc2 : cs.length = 2) : PCSX Tryz.prog NGB GB b0 76 [.d (.v (.string (s))), .d (.v (ptr b0 0))] [.box cs] (.d (.v (.bool ((rdB s eleS 2))))) [.box (rdC cs [0, 1] s eleS)] := by
 have hoc : ∀ o ∈ ([0, 1] : List Nat), o < cs.length := by rw [hc2]; decide
 refine pcsx_of_awp gb_low Tryz.func76 rfl Tryz.ntmps76 (rs := [.tmp 3]) Tryz.results76 (by simp) 1000 b0 rfl fun w0 hrnd hGB hNG => ?_
 have hG : ∀ w, ExtM w0 w → GW w := fun w h => (hGB w h).1
 refine awp_seq ?_
 refine xa 1 ?_
 refine rg_q (q_a rfl) ?_
 refine rs (xa 4 ?_)
 refine rg_q (q_m rfl) ?_
 refine rg_q (q_fieldAddr_raw fld37_0 rfl) ?_
 refine rg_q (q_fieldAddr_raw fld37_1 rfl) ?_
 refine rg_q (q_buildSlice sl77 zr87 rfl rfl (by decide) (.cons rfl (by exact .inl rfl) (.cons rfl (by exact .inl rfl) .nil)) ⟨rfl, rfl, rfl, rfl, trivial⟩ rfl (by decide) rfl) ?_
 refine rg_nil ?_
 refine aops_callLX hGB hNG 1000 [9] [] en57 rfl rfl (read_p b0 s eleS hs cs [0, 1] (by decide) hoc) (.cons rfl (.cons rfl (.cons rfl .nil))) rfl rfl rfl (by repeat (first | exact trivial | refine ⟨rfl, ?_⟩)) (by repeat (exact trivial)) rfl ?_
 refine aops_q rfl (q_a rfl) ?_
 refine aops_nil ?_
 change Awp _ _ _ _ _
 refine awp_ret ?_
 exact end_mk (.inl rfl) [9] (.tmp rfl) (by repeat (first | exact trivial | refine ⟨rfl, ?_⟩)) rfl
theorem form3_p (b0 : Nat) (s : ByteArray) (hs : s.size ≤ 100000) (cs : List D) (hc2 : cs.length = 13) : PCSX Tryz.prog NGB GB b0 77 [.d (.v (.string (s))), .d (.v (ptr b0 0))] [.box cs] (.d (.v (.bool ((bif (nbR s pulS).2 then decide ((0 : Int) < ((nbR s pulS).1.length : Int)) else false))))) [.box (setCs cs 11 [.sl 1 ((nbR s pulS).1.map iC)])] := by
 refine pcsx_of_awp gb_low Tryz.func77 rfl Tryz.ntmps77 (rs := [.tmp 3]) Tryz.results77 (by simp) 1000 b0 rfl fun w0 hrnd hGB hNG => ?_
 have hG : ∀ w, ExtM w0 w → GW w := fun w h => (hGB w h).1
 refine awp_seq ?_
 refine xa 1 ?_
 refine rg_q (q_a rfl) ?_
 refine rs (xa 7 ?_)
 refine rg_q (q_m rfl) ?_
 refine rg_q (q_callG en78 (.cons rfl (.cons rfl .nil)) rfl hG (numbers13_p s pulS hs)) ?_
 refine rg_q (q_move (x := .d (.tup _)) rfl) (rg_q (q_extract rfl rfl) (rg_q (q_extract rfl rfl) (rg_q (q_assign (x := .d (.sl _ _)) rfl) (rg_q (q_a rfl) ?_))))
 refine rs (xa 2 ?_)
 refine rg_q (q_move (x := .d (.sl _ _)) rfl) ?_
 refine rg_q (q_fieldAddr_raw fld32_1 rfl) ?_
 refine rg_nil ?_
 refine aops_le (le_reref 1000 12 rfl rfl) ?_
 refine aops_store (cs' := (setCs cs 11 [.sl 1 ((nbR s pulS).1.map iC)])) sz29 rfl rfl (by exact .inl rfl) rfl rfl (by omega) rfl ?_
 refine aops_nil (xq (xa 7 ?_))
 refine rg_q (q_m rfl) (rg_q (q_m rfl) ?_)
 refine rg_g rfl rfl (fun hG => (q_move (x := .d (.sl _ _)) rfl)) ?_
 refine rg_g rfl rfl (fun hG => (q_len isl29 rfl (by exact len_map _ _))) ?_
 refine rg_g rfl rfl (fun hG => (q_gtr rfl rfl)) ?_
 refine rg_pick rfl rfl rfl rfl rfl rfl ?_
 refine rg_q (q_a rfl) ?_
 refine xc (awp_ret ?_)
 exact end_mk (.inl rfl) [19] (.tmp rfl) (by repeat (first | exact trivial | refine ⟨rfl, ?_⟩)) rfl
theorem form4_p (b0 : Nat) (s : ByteArray) (hs : s.size ≤ 100000) (c0 c1 c2 c3 c4 c5 c6 c7 c8 c9 c10 c11 : D) (fs : List Flw) (hf : fs.length ≤ 100000) : PCSX Tryz.prog NGB GB b0 79 [.d (.v (.string (s))), .d (.v (ptr b0 0))] [.tbox [.d c0, .d c1, .d c2, .d c3, .d c4, .d c5, .d c6, .d c7, .d c8, .d c9, .d c10, .d c11, .rs 1], .row 39 8 (fs.map flwC)] (.d (.v (.bool ((flP s).2)))) [.tbox [.d c0, .d c1, .d c2, .d c3, .d c4, .d c5, .d c6, .d c7, .d c8, .d c9, .d c10, .d c11, .rs 1], .row 39 8 (fs.map flwC ++ [flwC (flP s).1])] := by
 refine pcsx_of_awp gb_low Tryz.func79 rfl Tryz.ntmps79 (rs := [.tmp 3]) Tryz.results79 (by simp) 1000 b0 rfl fun w0 hrnd hGB hNG => ?_
 have hG : ∀ w, ExtM w0 w → GW w := fun w h => (hGB w h).1
 refine awp_seq ?_
 refine xa 1 ?_
 refine rg_q (q_a rfl) ?_
 refine rs (xa 5 ?_)
 refine rg_q (q_m rfl) ?_
 refine rg_q (q_callG en28 (.cons rfl .nil) rfl hGB (flaw_p _ (by omega))) ?_
 refine rg_q (q_move (x := .d (.tup _)) rfl) (rg_q (q_extract rfl rfl) (rg_q (q_extract rfl rfl) ?_))
 refine rg_nil ?_
 refine aops_alloc zr39 rfl rfl rfl ?_
 refine aops_store sz39 rfl rfl (by exact .inr ⟨_, rfl⟩) rfl rfl (by decide) rfl ?_
 refine aops_q rfl (q_a rfl) ?_
 refine aops_nil (xq (xa 1 ?_))
 refine rg_q (q_fieldAddr_raw fld32_2 rfl) ?_
 refine rg_nil ?_
 refine aops_le (le_reref 1000 11 rfl rfl) ?_
 refine aops_q rfl (q_load_tb (x := .rs _) sz30 rfl rfl rfl) ?_
 refine aops_q rfl (q_load_refA (ds := [_, _, _, _, _, _, _, _]) sz39 rfl rfl rfl rfl) ?_
 refine aops_q rfl (q_buildSlice sl30 zr39 rfl rfl (by decide) (.cons rfl (by exact .inr ⟨_, rfl⟩) .nil) ⟨rfl, rfl, trivial⟩ rfl (by decide) rfl) ?_
 refine aops_append sl30 zr39 by39 rfl (by decide) rfl rfl rfl rfl (by (try simp only [List.length_map, List.length_append, List.length_cons, List.length_nil]); omega) (by (try simp only [List.length_map, List.length_append, List.length_cons, List.length_nil]); omega) rfl rfl ?_
 refine aops_q rfl (q_fieldAddr_raw fld32_2 rfl) ?_
 refine aops_le (le_reref 1000 16 rfl rfl) ?_
 refine aops_storeT (z := .rs _) sz30 rfl rfl rfl rfl (by exact Nat.le_of_ble_eq_true rfl) rfl ?_
 refine aops_nil (xq (xa 2 ?_))
 refine rg_q (q_m rfl) (rg_q (q_a rfl) ?_)
 refine xc (awp_ret ?_)
 exact end_mk (.inl rfl) [18, 19] (.tmp rfl) (by repeat (first | exact trivial | refine ⟨rfl, ?_⟩)) rfl

theorem form3_q (b0 : Nat) (s : ByteArray) (hs : s.size ≤ 100000) (cs : List D) (hc2 : cs.length = 13) : PCSX Tryz.prog NGB GB b0 77 [.d (.v (.string s)), .d (.v (ptr b0 0))] [.box cs] (.d (.v (.bool (puB s)))) [.box (setCs cs 11 [.sl 1 ((nbR s pulS).1.map iC)])] :=
  (form3_p b0 s hs cs hc2).eqs (by unfold puB; cases (nbR s pulS).2 <;> simp) rfl
theorem takeNo_p (b0 : Nat) (fi : FuncId) (cp : D) (hen : enB Tryz.prog fi = true) (cs cs2 : List D) (r : List UInt8) (n : Int) (hr : r.length ≤ 100000) (hn : 0 ≤ n ∧ n ≤ 100000) (hl : (lnC r).2.2 = false) : PCSX Tryz.prog NGB GB b0 74 [.ref 1 0, .d (.fn (.func fi) [cp])] [.box cs, .box [.v (.string (mkB r)), .v (.int .i64 n)]] (.d (.v (.bool (false)))) [.box cs, .box [.v (.string (mkB r)), .v (.int .i64 n)]] := by
 refine pcsx_of_awp gb_low Tryz.func74 rfl Tryz.ntmps74 (rs := [.tmp 4]) Tryz.results74 (by simp) 1000 b0 rfl fun w0 hrnd hGB hNG => ?_
 have hG : ∀ w, ExtM w0 w → GW w := fun w h => (hGB w h).1
 refine awp_seq ?_
 refine xa 1 ?_
 refine rg_q (q_a rfl) ?_
 refine rs (xa 1 ?_)
 refine rg_q (q_move (x := .ref _ _) rfl) ?_
 refine rg_nil ?_
 refine aops_gat 1001 23 rfl fun b9 => ?_
 refine aops_callLX hGB hNG 1001 [23] [] en103 rfl rfl ((next_p r n hr).x b9) (.cons rfl .nil) rfl rfl rfl (by repeat (first | exact trivial | refine ⟨rfl, ?_⟩)) (by repeat (exact trivial)) rfl ?_
 refine aops_q rfl (q_move (x := .d (.tup _)) rfl) ?_
 refine aops_q rfl (q_extract rfl rfl) ?_
 refine aops_q rfl (q_extract rfl rfl) ?_
 refine aops_q rfl (q_a rfl) ?_
 refine aops_q rfl (q_a rfl) ?_
 refine aops_nil (xq (awp_seq ?_))
 rw [hl]
 refine xa 3 ?_
 refine rg_q (q_m rfl) (rg_q (q_not rfl) (rg_q (q_m rfl) ?_))
 refine rg_nil ?_
 refine aops_skip rfl rfl rfl rfl rfl (by intro d hd; cases hd; exact (by decide : (15 : Nat) < 22)) ?_
 refine aops_skip rfl rfl rfl rfl rfl (by intro d hd; cases hd; exact (by decide : (16 : Nat) < 22)) ?_
 refine aops_skip rfl rfl rfl rfl rfl (by intro d hd; cases hd; exact (by decide : (17 : Nat) < 22)) ?_
 refine aops_skip rfl rfl rfl rfl rfl (by intro d hd; cases hd; exact (by decide : (18 : Nat) < 22)) ?_
 refine aops_q rfl (q_pickT rfl rfl) ?_
 refine aops_nil ?_
 change Awp _ _ _ _ _
 refine awp_cond rfl (fun hc2 => ?_) (fun hc2 => ?_)
 ·
  (try simp only [nb, ne_eq] at hc2)
  refine awp_seq ?_
  refine xa 1 ?_
  refine rg_q (q_a rfl) ?_
  refine xc (awp_ret ?_)
  exact end_mk (.inl rfl) [22, 23] (.tmp rfl) (by repeat (first | exact trivial | refine ⟨rfl, ?_⟩)) rfl
 ·
  cases hc2
theorem takeN_p (b0 : Nat) (fi : FuncId) (cp : D) (hen : enB Tryz.prog fi = true) (cs cs2 : List D) (r : List UInt8) (n : Int) (hr : r.length ≤ 100000) (hn : 0 ≤ n ∧ n ≤ 100000) (hl : (lnC r).2.2 = true) (hf : PCSX Tryz.prog NGB GB b0 fi [.d (.v (.string (mkB (lnC r).1))), .d cp] [.box cs] (.d (.v (.bool (false)))) [.box cs2]) : PCSX Tryz.prog NGB GB b0 74 [.ref 1 0, .d (.fn (.func fi) [cp])] [.box cs, .box [.v (.string (mkB r)), .v (.int .i64 n)]] (.d (.v (.bool (false)))) [.box cs2, .box [.v (.string (mkB r)), .v (.int .i64 n)]] := by
 refine pcsx_of_awp gb_low Tryz.func74 rfl Tryz.ntmps74 (rs := [.tmp 4]) Tryz.results74 (by simp) 1000 b0 rfl fun w0 hrnd hGB hNG => ?_
 have hG : ∀ w, ExtM w0 w → GW w := fun w h => (hGB w h).1
 refine awp_seq ?_
 refine xa 1 ?_
 refine rg_q (q_a rfl) ?_
 refine rs (xa 1 ?_)
 refine rg_q (q_move (x := .ref _ _) rfl) ?_
 refine rg_nil ?_
 refine aops_gat 1001 23 rfl fun b9 => ?_
 refine aops_callLX hGB hNG 1001 [23] [] en103 rfl rfl ((next_p r n hr).x b9) (.cons rfl .nil) rfl rfl rfl (by repeat (first | exact trivial | refine ⟨rfl, ?_⟩)) (by repeat (exact trivial)) rfl ?_
 refine aops_q rfl (q_move (x := .d (.tup _)) rfl) ?_
 refine aops_q rfl (q_extract rfl rfl) ?_
 refine aops_q rfl (q_extract rfl rfl) ?_
 refine aops_q rfl (q_a rfl) ?_
 refine aops_q rfl (q_a rfl) ?_
 refine aops_nil (xq (awp_seq ?_))
 rw [hl]
 refine xa 3 ?_
 refine rg_q (q_m rfl) (rg_q (q_not rfl) (rg_q (q_m rfl) ?_))
 refine rg_nil ?_
 refine aops_want rfl rfl rfl ?_
 refine aops_q rfl (q_move (x := .d (.fn _ _)) rfl) ?_
 refine aops_want rfl rfl rfl ?_
 refine aops_q rfl (q_m rfl) ?_
 refine aops_want rfl rfl rfl ?_
 refine aops_callLXC (cap := [cp]) (args := [.d (.v (.string (mkB (lnC r).1)))]) hGB hNG 1000 [22] [] hen rfl rfl rfl (hf) (.cons rfl .nil) rfl rfl rfl rfl (by repeat (first | exact trivial | refine ⟨rfl, ?_⟩)) (by repeat (exact trivial)) rfl ?_
 refine aops_want rfl rfl rfl ?_
 refine aops_q rfl (q_not rfl) ?_
 refine aops_q rfl (q_pick rfl rfl rfl) ?_
 refine aops_nil ?_
 change Awp _ _ _ _ _
 refine awp_cond rfl (fun hc2 => ?_) (fun hc2 => ?_)
 ·
  (try simp only [nb, ne_eq] at hc2)
  refine awp_seq ?_
  refine xa 1 ?_
  refine rg_q (q_a rfl) ?_
  refine xc (awp_ret ?_)
  exact end_mk (.inl rfl) [22, 23] (.tmp rfl) (by repeat (first | exact trivial | refine ⟨rfl, ?_⟩)) rfl
 ·
  cases hc2
theorem takeY_p (b0 : Nat) (fi : FuncId) (cp : D) (hen : enB Tryz.prog fi = true) (cs cs2 : List D) (r : List UInt8) (n : Int) (hr : r.length ≤ 100000) (hn : 0 ≤ n ∧ n ≤ 100000) (hl : (lnC r).2.2 = true) (hf : PCSX Tryz.prog NGB GB b0 fi [.d (.v (.string (mkB (lnC r).1))), .d cp] [.box cs] (.d (.v (.bool (true)))) [.box cs2]) : PCSX Tryz.prog NGB GB b0 74 [.ref 1 0, .d (.fn (.func fi) [cp])] [.box cs, .box [.v (.string (mkB r)), .v (.int .i64 n)]] (.d (.v (.bool (true)))) [.box cs2, .box [.v (.string (mkB (lnC r).2.1)), .v (.int .i64 (n + 1))]] := by
 refine pcsx_of_awp gb_low Tryz.func74 rfl Tryz.ntmps74 (rs := [.tmp 4]) Tryz.results74 (by simp) 1000 b0 rfl fun w0 hrnd hGB hNG => ?_
 have hG : ∀ w, ExtM w0 w → GW w := fun w h => (hGB w h).1
 refine awp_seq ?_
 refine xa 1 ?_
 refine rg_q (q_a rfl) ?_
 refine rs (xa 1 ?_)
 refine rg_q (q_move (x := .ref _ _) rfl) ?_
 refine rg_nil ?_
 refine aops_gat 1001 23 rfl fun b9 => ?_
 refine aops_callLX hGB hNG 1001 [23] [] en103 rfl rfl ((next_p r n hr).x b9) (.cons rfl .nil) rfl rfl rfl (by repeat (first | exact trivial | refine ⟨rfl, ?_⟩)) (by repeat (exact trivial)) rfl ?_
 refine aops_q rfl (q_move (x := .d (.tup _)) rfl) ?_
 refine aops_q rfl (q_extract rfl rfl) ?_
 refine aops_q rfl (q_extract rfl rfl) ?_
 refine aops_q rfl (q_a rfl) ?_
 refine aops_q rfl (q_a rfl) ?_
 refine aops_nil (xq (awp_seq ?_))
 rw [hl]
 refine xa 3 ?_
 refine rg_q (q_m rfl) (rg_q (q_not rfl) (rg_q (q_m rfl) ?_))
 refine rg_nil ?_
 refine aops_want rfl rfl rfl ?_
 refine aops_q rfl (q_move (x := .d (.fn _ _)) rfl) ?_
 refine aops_want rfl rfl rfl ?_
 refine aops_q rfl (q_m rfl) ?_
 refine aops_want rfl rfl rfl ?_
 refine aops_callLXC (cap := [cp]) (args := [.d (.v (.string (mkB (lnC r).1)))]) hGB hNG 1000 [22] [] hen rfl rfl rfl (hf) (.cons rfl .nil) rfl rfl rfl rfl (by repeat (first | exact trivial | refine ⟨rfl, ?_⟩)) (by repeat (exact trivial)) rfl ?_
 refine aops_want rfl rfl rfl ?_
 refine aops_q rfl (q_not rfl) ?_
 refine aops_q rfl (q_pick rfl rfl rfl) ?_
 refine aops_nil ?_
 change Awp _ _ _ _ _
 refine awp_cond rfl (fun hc2 => ?_) (fun hc2 => ?_)
 ·
  cases hc2
 ·
  (try simp only [nb, ne_eq] at hc2)
  refine awp_skip ?_
  change Awp _ _ _ _ _
  refine awp_seq ?_
  refine xa 1 ?_
  refine rg_q (q_move (x := .ref _ _) rfl) ?_
  refine rg_nil ?_
  refine aops_callLX hGB hNG 1001 [23] [] en104 rfl rfl (pass_p b9 r n hr hn) (.cons rfl .nil) rfl rfl rfl (by repeat (first | exact trivial | refine ⟨rfl, ?_⟩)) (by repeat (exact trivial)) rfl ?_
  refine aops_nil (xq (xa 1 ?_))
  refine rg_q (q_a rfl) ?_
  refine xc (awp_ret ?_)
  exact end_mk (.inl rfl) [22, 23] (.tmp rfl) (by repeat (first | exact trivial | refine ⟨rfl, ?_⟩)) rfl
theorem takeNoF_p (b0 : Nat) (fi : FuncId) (cp : D) (hen : enB Tryz.prog fi = true) (c0 c1 c2 c3 c4 c5 c6 c7 c8 c9 c10 c11 : D) (fs fs2 : List (List D)) (r : List UInt8) (n : Int) (hr : r.length ≤ 100000) (hn : 0 ≤ n ∧ n ≤ 100000) (hl : (lnC r).2.2 = false) : PCSX Tryz.prog NGB GB b0 74 [.ref 2 0, .d (.fn (.func fi) [cp])] [.tbox [.d c0, .d c1, .d c2, .d c3, .d c4, .d c5, .d c6, .d c7, .d c8, .d c9, .d c10, .d c11, .rs 1], .row 39 8 fs, .box [.v (.string (mkB r)), .v (.int .i64 n)]] (.d (.v (.bool (false)))) [.tbox [.d c0, .d c1, .d c2, .d c3, .d c4, .d c5, .d c6, .d c7, .d c8, .d c9, .d c10, .d c11, .rs 1], .row 39 8 fs, .box [.v (.string (mkB r)), .v (.int .i64 n)]] := by
 refine pcsx_of_awp gb_low Tryz.func74 rfl Tryz.ntmps74 (rs := [.tmp 4]) Tryz.results74 (by simp) 1000 b0 rfl fun w0 hrnd hGB hNG => ?_
 have hG : ∀ w, ExtM w0 w → GW w := fun w h => (hGB w h).1
 refine awp_seq ?_
 refine xa 1 ?_
 refine rg_q (q_a rfl) ?_
 refine rs (xa 1 ?_)
 refine rg_q (q_move (x := .ref _ _) rfl) ?_
 refine rg_nil ?_
 refine aops_gat 1001 24 rfl fun b9 => ?_
 refine aops_callLX hGB hNG 1001 [24] [] en103 rfl rfl ((next_p r n hr).x b9) (.cons rfl .nil) rfl rfl rfl (by repeat (first | exact trivial | refine ⟨rfl, ?_⟩)) (by repeat (exact trivial)) rfl ?_
 refine aops_q rfl (q_move (x := .d (.tup _)) rfl) ?_
 refine aops_q rfl (q_extract rfl rfl) ?_
 refine aops_q rfl (q_extract rfl rfl) ?_
 refine aops_q rfl (q_a rfl) ?_
 refine aops_q rfl (q_a rfl) ?_
 refine aops_nil (xq (awp_seq ?_))
 rw [hl]
 refine xa 3 ?_
 refine rg_q (q_m rfl) (rg_q (q_not rfl) (rg_q (q_m rfl) ?_))
 refine rg_nil ?_
 refine aops_skip rfl rfl rfl rfl rfl (by intro d hd; cases hd; exact (by decide : (15 : Nat) < 22)) ?_
 refine aops_skip rfl rfl rfl rfl rfl (by intro d hd; cases hd; exact (by decide : (16 : Nat) < 22)) ?_
 refine aops_skip rfl rfl rfl rfl rfl (by intro d hd; cases hd; exact (by decide : (17 : Nat) < 22)) ?_
 refine aops_skip rfl rfl rfl rfl rfl (by intro d hd; cases hd; exact (by decide : (18 : Nat) < 22)) ?_
 refine aops_q rfl (q_pickT rfl rfl) ?_
 refine aops_nil ?_
 change Awp _ _ _ _ _
 refine awp_cond rfl (fun hc2 => ?_) (fun hc2 => ?_)
 ·
  (try simp only [nb, ne_eq] at hc2)
  refine awp_seq ?_
  refine xa 1 ?_
  refine rg_q (q_a rfl) ?_
  refine xc (awp_ret ?_)
  exact end_mk (.inl rfl) [22, 23, 24] (.tmp rfl) (by repeat (first | exact trivial | refine ⟨rfl, ?_⟩)) rfl
 ·
  cases hc2
theorem takeNF_p (b0 : Nat) (fi : FuncId) (cp : D) (hen : enB Tryz.prog fi = true) (c0 c1 c2 c3 c4 c5 c6 c7 c8 c9 c10 c11 : D) (fs fs2 : List (List D)) (r : List UInt8) (n : Int) (hr : r.length ≤ 100000) (hn : 0 ≤ n ∧ n ≤ 100000) (hl : (lnC r).2.2 = true) (hf : PCSX Tryz.prog NGB GB b0 fi [.d (.v (.string (mkB (lnC r).1))), .d cp] [.tbox [.d c0, .d c1, .d c2, .d c3, .d c4, .d c5, .d c6, .d c7, .d c8, .d c9, .d c10, .d c11, .rs 1], .row 39 8 fs] (.d (.v (.bool (false)))) [.tbox [.d c0, .d c1, .d c2, .d c3, .d c4, .d c5, .d c6, .d c7, .d c8, .d c9, .d c10, .d c11, .rs 1], .row 39 8 fs2]) : PCSX Tryz.prog NGB GB b0 74 [.ref 2 0, .d (.fn (.func fi) [cp])] [.tbox [.d c0, .d c1, .d c2, .d c3, .d c4, .d c5, .d c6, .d c7, .d c8, .d c9, .d c10, .d c11, .rs 1], .row 39 8 fs, .box [.v (.string (mkB r)), .v (.int .i64 n)]] (.d (.v (.bool (false)))) [.tbox [.d c0, .d c1, .d c2, .d c3, .d c4, .d c5, .d c6, .d c7, .d c8, .d c9, .d c10, .d c11, .rs 1], .row 39 8 fs2, .box [.v (.string (mkB r)), .v (.int .i64 n)]] := by
 refine pcsx_of_awp gb_low Tryz.func74 rfl Tryz.ntmps74 (rs := [.tmp 4]) Tryz.results74 (by simp) 1000 b0 rfl fun w0 hrnd hGB hNG => ?_
 have hG : ∀ w, ExtM w0 w → GW w := fun w h => (hGB w h).1
 refine awp_seq ?_
 refine xa 1 ?_
 refine rg_q (q_a rfl) ?_
 refine rs (xa 1 ?_)
 refine rg_q (q_move (x := .ref _ _) rfl) ?_
 refine rg_nil ?_
 refine aops_gat 1001 24 rfl fun b9 => ?_
 refine aops_callLX hGB hNG 1001 [24] [] en103 rfl rfl ((next_p r n hr).x b9) (.cons rfl .nil) rfl rfl rfl (by repeat (first | exact trivial | refine ⟨rfl, ?_⟩)) (by repeat (exact trivial)) rfl ?_
 refine aops_q rfl (q_move (x := .d (.tup _)) rfl) ?_
 refine aops_q rfl (q_extract rfl rfl) ?_
 refine aops_q rfl (q_extract rfl rfl) ?_
 refine aops_q rfl (q_a rfl) ?_
 refine aops_q rfl (q_a rfl) ?_
 refine aops_nil (xq (awp_seq ?_))
 rw [hl]
 refine xa 3 ?_
 refine rg_q (q_m rfl) (rg_q (q_not rfl) (rg_q (q_m rfl) ?_))
 refine rg_nil ?_
 refine aops_want rfl rfl rfl ?_
 refine aops_q rfl (q_move (x := .d (.fn _ _)) rfl) ?_
 refine aops_want rfl rfl rfl ?_
 refine aops_q rfl (q_m rfl) ?_
 refine aops_want rfl rfl rfl ?_
 refine aops_callLXC (cap := [cp]) (args := [.d (.v (.string (mkB (lnC r).1)))]) hGB hNG 1000 [22, 23] [23] hen rfl rfl rfl (hf) (.cons rfl .nil) rfl rfl rfl rfl (by repeat (first | exact trivial | refine ⟨rfl, ?_⟩)) (by repeat (exact trivial)) rfl ?_
 refine aops_want rfl rfl rfl ?_
 refine aops_q rfl (q_not rfl) ?_
 refine aops_q rfl (q_pick rfl rfl rfl) ?_
 refine aops_nil ?_
 change Awp _ _ _ _ _
 refine awp_cond rfl (fun hc2 => ?_) (fun hc2 => ?_)
 ·
  (try simp only [nb, ne_eq] at hc2)
  refine awp_seq ?_
  refine xa 1 ?_
  refine rg_q (q_a rfl) ?_
  refine xc (awp_ret ?_)
  exact end_mk (.inl rfl) [22, 23, 24] (.tmp rfl) (by repeat (first | exact trivial | refine ⟨rfl, ?_⟩)) rfl
 ·
  cases hc2
theorem takeYF_p (b0 : Nat) (fi : FuncId) (cp : D) (hen : enB Tryz.prog fi = true) (c0 c1 c2 c3 c4 c5 c6 c7 c8 c9 c10 c11 : D) (fs fs2 : List (List D)) (r : List UInt8) (n : Int) (hr : r.length ≤ 100000) (hn : 0 ≤ n ∧ n ≤ 100000) (hl : (lnC r).2.2 = true) (hf : PCSX Tryz.prog NGB GB b0 fi [.d (.v (.string (mkB (lnC r).1))), .d cp] [.tbox [.d c0, .d c1, .d c2, .d c3, .d c4, .d c5, .d c6, .d c7, .d c8, .d c9, .d c10, .d c11, .rs 1], .row 39 8 fs] (.d (.v (.bool (true)))) [.tbox [.d c0, .d c1, .d c2, .d c3, .d c4, .d c5, .d c6, .d c7, .d c8, .d c9, .d c10, .d c11, .rs 1], .row 39 8 fs2]) : PCSX Tryz.prog NGB GB b0 74 [.ref 2 0, .d (.fn (.func fi) [cp])] [.tbox [.d c0, .d c1, .d c2, .d c3, .d c4, .d c5, .d c6, .d c7, .d c8, .d c9, .d c10, .d c11, .rs 1], .row 39 8 fs, .box [.v (.string (mkB r)), .v (.int .i64 n)]] (.d (.v (.bool (true)))) [.tbox [.d c0, .d c1, .d c2, .d c3, .d c4, .d c5, .d c6, .d c7, .d c8, .d c9, .d c10, .d c11, .rs 1], .row 39 8 fs2, .box [.v (.string (mkB (lnC r).2.1)), .v (.int .i64 (n + 1))]] := by
 refine pcsx_of_awp gb_low Tryz.func74 rfl Tryz.ntmps74 (rs := [.tmp 4]) Tryz.results74 (by simp) 1000 b0 rfl fun w0 hrnd hGB hNG => ?_
 have hG : ∀ w, ExtM w0 w → GW w := fun w h => (hGB w h).1
 refine awp_seq ?_
 refine xa 1 ?_
 refine rg_q (q_a rfl) ?_
 refine rs (xa 1 ?_)
 refine rg_q (q_move (x := .ref _ _) rfl) ?_
 refine rg_nil ?_
 refine aops_gat 1001 24 rfl fun b9 => ?_
 refine aops_callLX hGB hNG 1001 [24] [] en103 rfl rfl ((next_p r n hr).x b9) (.cons rfl .nil) rfl rfl rfl (by repeat (first | exact trivial | refine ⟨rfl, ?_⟩)) (by repeat (exact trivial)) rfl ?_
 refine aops_q rfl (q_move (x := .d (.tup _)) rfl) ?_
 refine aops_q rfl (q_extract rfl rfl) ?_
 refine aops_q rfl (q_extract rfl rfl) ?_
 refine aops_q rfl (q_a rfl) ?_
 refine aops_q rfl (q_a rfl) ?_
 refine aops_nil (xq (awp_seq ?_))
 rw [hl]
 refine xa 3 ?_
 refine rg_q (q_m rfl) (rg_q (q_not rfl) (rg_q (q_m rfl) ?_))
 refine rg_nil ?_
 refine aops_want rfl rfl rfl ?_
 refine aops_q rfl (q_move (x := .d (.fn _ _)) rfl) ?_
 refine aops_want rfl rfl rfl ?_
 refine aops_q rfl (q_m rfl) ?_
 refine aops_want rfl rfl rfl ?_
 refine aops_callLXC (cap := [cp]) (args := [.d (.v (.string (mkB (lnC r).1)))]) hGB hNG 1000 [22, 23] [23] hen rfl rfl rfl (hf) (.cons rfl .nil) rfl rfl rfl rfl (by repeat (first | exact trivial | refine ⟨rfl, ?_⟩)) (by repeat (exact trivial)) rfl ?_
 refine aops_want rfl rfl rfl ?_
 refine aops_q rfl (q_not rfl) ?_
 refine aops_q rfl (q_pick rfl rfl rfl) ?_
 refine aops_nil ?_
 change Awp _ _ _ _ _
 refine awp_cond rfl (fun hc2 => ?_) (fun hc2 => ?_)
 ·
  cases hc2
 ·
  (try simp only [nb, ne_eq] at hc2)
  refine awp_skip ?_
  change Awp _ _ _ _ _
  refine awp_seq ?_
  refine xa 1 ?_
  refine rg_q (q_move (x := .ref _ _) rfl) ?_
  refine rg_nil ?_
  refine aops_callLX hGB hNG 1001 [24] [] en104 rfl rfl (pass_p b9 r n hr hn) (.cons rfl .nil) rfl rfl rfl (by repeat (first | exact trivial | refine ⟨rfl, ?_⟩)) (by repeat (exact trivial)) rfl ?_
  refine aops_nil (xq (xa 1 ?_))
  refine rg_q (q_a rfl) ?_
  refine xc (awp_ret ?_)
  exact end_mk (.inl rfl) [22, 23, 24] (.tmp rfl) (by repeat (first | exact trivial | refine ⟨rfl, ?_⟩)) rfl
end Go.Proofs.YtkbdnkjjklbddaaGreatDoor.Am.M
