/- Contracts over the abstract machine: a word and numbers written: the reference; its text of a flaw. Conditions: none. -/
import Derived.Test.YtkbdnkjjklbddaaGreatDoorB4
set_option linter.unusedVariables false
set_option linter.unusedSimpArgs false
-- mini
set_option maxRecDepth 100000
namespace Go.Proofs.YtkbdnkjjklbddaaGreatDoor.Am.M
open Go
theorem jt_snoc (z : List UInt8) : ∀ r : List (List UInt8), Lib.joinTail [32] (r ++ [z]) = Lib.joinTail [32] r ++ (32 :: z)
  | [] => by simp [Lib.joinTail]
  | a :: r => by
    have ih := jt_snoc z r
    show [32] ++ a ++ Lib.joinTail [32] (r ++ [z]) = [32] ++ a ++ Lib.joinTail [32] r ++ (32 :: z)
    rw [ih]; simp

theorem wrT_nil (wd : ByteArray) : mkB (wrT wd []) = wd := by
  rw [wrT_is]
  show mkB (wd.data.toList ++ []) = wd
  rw [List.append_nil, mkB_data]
theorem wrT_snoc (wd : ByteArray) (ns : List Int) (y : Int) : mkB (wrT wd ns) ++ ⟨#[32]⟩ ++ mkB (Lib.itoa y) = mkB (wrT wd (ns ++ [y])) := by
  rw [show (⟨#[32]⟩ : ByteArray) = mkB [32] from rfl, mkB_app, mkB_app, wrT_is, wrT_is, List.map_append, List.map_cons, List.map_nil, jt_snoc]
  simp
theorem rjoined_p (wd : ByteArray) (ns : List Int) (hw : wd.size ≤ 1000) (hn : ns.length ≤ 1000) (h : ∀ n ∈ ns, In64 n) : PC Tryz.prog 30 [.v (.string (wd)), .sl 1 (ns.map iC)] (.v (.string (mkB (wrT wd ns)))) := by
 have hst0 : wd = (mkB (wrT wd (ns.take 0))) := by rw [List.take_zero, wrT_nil]
 refine pc_of_awpN Tryz.func30 rfl Tryz.ntmps30 (rs := [.tmp 4]) Tryz.results30 (by simp) fun w0 hmine hrnd hpn => ?_
 refine awp_seq ?_
 refine xa 1 ?_
 refine rg_q (q_a rfl) ?_
 refine rs (awp_seq ?_)
 refine xa 1 ?_
 refine rg_q (q_a rfl) ?_
 refine xc (awp_block ?_)
 refine awp_loopH [0, 5, 6, 7, 8, 9, 10, 11, 12, 13, 14, 15, 16, 17, 18, 19] [] (α := Nat) (fun k => [(5, T.i (k : Int)), (0, .d (.v (.string (mkB (wrT wd (ns.take k))))))]) (fun k => []) (fun k => k ≤ ns.length) (fun k => ns.length - k) 0 (Nat.zero_le _) ?_ ?_
 · exact xh (ms := []) (by repeat (exact Out.refl _)) ⟨(by rfl), (by (exact congrArg (fun b => T.d (.v (.string b))) hst0)), trivial⟩ trivial
 ·
  intro k hk
  refine awp_seq ?_
  refine awp_seq ?_
  refine xa 4 ?_
  refine rg_q (q_m rfl) (rg_q (q_move (x := .d (.sl _ _)) rfl) ?_)
  refine rg_q (q_len isl29 rfl (by exact len_map _ _)) ?_
  refine rg_q (q_lss rfl rfl) ?_
  refine xc (awp_len (t := 7) rfl (fun hl7 => ?_))
  (try simp only [List.length_map] at hl7)
  refine awp_cond rfl (fun hc2 => ?_) (fun hc2 => ?_)
  ·
   (try simp only [nb, ne_eq] at hc2)
   have hlt : k < ns.length := by (try simp only [List.length_map] at hc2); omega
   obtain ⟨y, hx⟩ : ∃ y, ns[k]? = some y := ⟨_, List.getElem?_eq_getElem hlt⟩
   have hyi := h y (List.mem_of_getElem? hx)
   have hyl := itoa_len hyi
   have tl := wrT_len (wd := wd) (ns := ns.take k) fun n hn => h n (List.mem_of_mem_take hn)
   rw [List.length_take] at tl
   have hsz := mkB_size (wrT wd (ns.take k))
   have hsy := mkB_size (Lib.itoa y)
   have hs1 : (⟨#[32]⟩ : ByteArray).size = 1 := rfl
   have hs3 : ((mkB (wrT wd (ns.take k))) ++ ⟨#[32]⟩).size = ((mkB (wrT wd (ns.take k)))).size + 1 := by rw [ByteArray.size_append]; rfl
   have hst : (mkB (wrT wd (ns.take k))) ++ ⟨#[32]⟩ ++ mkB (Lib.itoa y) = (mkB (wrT wd (ns.take (k + 1)))) := by rw [wrT_snoc, List.take_succ_eq_append_getElem hlt, (List.getElem?_eq_some_iff.1 hx).2]
   refine awp_skip ?_
   change Awp _ _ _ _ _
   refine awp_seq ?_
   refine awp_block ?_
   refine xa 9 ?_
   refine rg_q (q_m rfl) ?_
   refine rg_q (q_adds rfl rfl (by omega)) ?_
   refine rg_q (q_move (x := .d (.sl _ _)) rfl) (rg_q (q_m rfl) ?_)
   refine rg_q (q_indexAddr sl29 rfl rfl (by omega) (map_at (by omega) hx)) ?_
   refine rg_q (q_load sz3 rfl rfl) ?_
   refine rg_q (q_call en61 (.cons rfl .nil) rfl (decimal_p y hyi)) ?_
   refine rg_q (q_adds rfl rfl (by omega)) ?_
   refine rg_q (q_a rfl) ?_
   refine rn ?_
   change Awp _ _ _ _ _
   refine xa 3 ?_
   refine rg_q (q_m rfl) ?_
   refine rg_q (q_add rfl rfl xi) ?_
   refine rg_q (q_a rfl) ?_
   refine rn ?_
   refine ⟨k + 1, by omega, by omega, ?_⟩
   exact xh (ms := []) (by repeat (first | exact Out.head rfl rfl | (refine Out.put ?_ rfl))) ⟨(by rfl), (by (exact congrArg (fun b => T.d (.v (.string b))) hst)), trivial⟩ trivial
  ·
   (try simp only [nb, ne_eq] at hc2)
   have hkn : k = ns.length := by (try simp only [List.length_map] at hc2); omega
   have hfin : (mkB (wrT wd (ns.take k))) = mkB (wrT wd ns) := by rw [hkn, List.take_length]
   refine awp_exit ?_
   change Awp _ _ _ _ _
   refine awp_seq ?_
   refine xa 2 ?_
   refine rg_q (q_m rfl) (rg_q (q_a rfl) ?_)
   refine xc (awp_ret ?_)
   refine ⟨_, xk1, ?_⟩
   rw [hfin]; rfl

def flN3 (x : Flw) : List Int := [x.at_.1, x.at_.2, x.am]
def flN7 (x : Flw) : List Int := [x.at_.1, x.at_.2, x.to_.1, x.to_.2, x.pc, x.am, x.tp]
def flT (x : Flw) : ByteArray := if x.kd = 0 then mkB (wrT porS (flN3 x)) else if x.kd = 1 then mkB (wrT plaS (flN7 x)) else ⟨#[]⟩
def FlwI (x : Flw) : Prop := ∀ n ∈ flN7 x, In64 n
theorem flI3 {x : Flw} (h : FlwI x) : ∀ n ∈ flN3 x, In64 n := fun n hn => h n (by
  simp only [flN3, flN7, List.mem_cons, List.not_mem_nil, or_false] at hn ⊢
  rcases hn with rfl | rfl | rfl <;> simp)
theorem rformatFlaw_p (x : Flw) (h : FlwI x) : PC Tryz.prog 8 [.agg (flwC x)] (.v (.string (flT x))) := by
 refine pc_of_awpN Tryz.func8 rfl Tryz.ntmps8 (rs := [.tmp 2]) Tryz.results8 (by simp) fun w0 hmine hrnd hpn => ?_
 refine awp_seq ?_
 refine xa 2 ?_
 refine rg_q (q_box rfl (by exact .inr ⟨_, rfl⟩)) ?_
 refine rg_q (q_a rfl) ?_
 refine rs (awp_seq ?_)
 refine xa 3 ?_
 refine rg_q (q_fieldAddr fld39_0 rfl) (rg_q (q_load sz3 rfl rfl) (rg_q (q_eql rfl rfl) ?_))
 refine xc (awp_cond rfl (fun hc1 => ?_) (fun hc1 => ?_))
 ·
  (try simp only [nb, ne_eq] at hc1)
  have hz : flT x = mkB (wrT porS (flN3 x)) := by unfold flT; rw [if_pos hc1]
  refine awp_seq ?_
  refine xa 11 ?_
  refine rg_q (q_fieldAddr fld39_1 rfl) (rg_q (q_fieldAddr fld37_0 rfl) (rg_q (q_load sz3 rfl rfl) (rg_q (q_fieldAddr fld39_1 rfl) (rg_q (q_fieldAddr fld37_1 rfl) (rg_q (q_load sz3 rfl rfl) ?_)))))
  refine rg_q (q_fieldAddr fld39_4 rfl) (rg_q (q_load sz3 rfl rfl) ?_)
  refine rg_q (q_buildSlice sl29 zr3 rfl rfl (by decide) (.cons rfl (by exact .inl rfl) (.cons rfl (by exact .inl rfl) (.cons rfl (by exact .inl rfl) .nil))) ⟨rfl, rfl, rfl, rfl, rfl, rfl, trivial⟩ rfl (by decide) rfl) ?_
  refine rg_q (q_call en30 (.cons rfl (.cons rfl .nil)) rfl (rjoined_p porS (flN3 x) (by decide) (by simp [flN3]) (flI3 h))) ?_
  refine rg_q (q_a rfl) ?_
  refine xc (awp_ret ?_)
  refine ⟨_, xk1, ?_⟩
  rw [hz]; rfl
 ·
  (try simp only [nb, ne_eq] at hc1)
  refine awp_skip ?_
  change Awp _ _ _ _ _
  refine awp_seq ?_
  refine awp_seq ?_
  refine xa 3 ?_
  refine rg_q (q_fieldAddr fld39_0 rfl) (rg_q (q_load sz3 rfl rfl) (rg_q (q_eql rfl rfl) ?_))
  refine xc (awp_cond rfl (fun hc3 => ?_) (fun hc3 => ?_))
  ·
   (try simp only [nb, ne_eq] at hc3)
   have hz : flT x = mkB (wrT plaS (flN7 x)) := by unfold flT; rw [if_neg hc1, if_pos hc3]
   refine awp_seq ?_
   refine xa 21 ?_
   refine rg_q (q_fieldAddr fld39_1 rfl) (rg_q (q_fieldAddr fld37_0 rfl) (rg_q (q_load sz3 rfl rfl) (rg_q (q_fieldAddr fld39_1 rfl) (rg_q (q_fieldAddr fld37_1 rfl) (rg_q (q_load sz3 rfl rfl) ?_)))))
   refine rg_q (q_fieldAddr fld39_2 rfl) (rg_q (q_fieldAddr fld37_0 rfl) (rg_q (q_load sz3 rfl rfl) (rg_q (q_fieldAddr fld39_2 rfl) (rg_q (q_fieldAddr fld37_1 rfl) (rg_q (q_load sz3 rfl rfl) ?_)))))
   refine rg_q (q_fieldAddr fld39_3 rfl) (rg_q (q_load sz3 rfl rfl) (rg_q (q_fieldAddr fld39_4 rfl) (rg_q (q_load sz3 rfl rfl) (rg_q (q_fieldAddr fld39_5 rfl) (rg_q (q_load sz3 rfl rfl) ?_)))))
   refine rg_q (q_buildSlice sl29 zr3 rfl rfl (by decide) (.cons rfl (by exact .inl rfl) (.cons rfl (by exact .inl rfl) (.cons rfl (by exact .inl rfl) (.cons rfl (by exact .inl rfl) (.cons rfl (by exact .inl rfl) (.cons rfl (by exact .inl rfl) (.cons rfl (by exact .inl rfl) .nil))))))) ⟨rfl, rfl, rfl, rfl, rfl, rfl, rfl, rfl, rfl, rfl, rfl, rfl, rfl, rfl, trivial⟩ rfl (by decide) rfl) ?_
   refine rg_q (q_call en30 (.cons rfl (.cons rfl .nil)) rfl (rjoined_p plaS (flN7 x) (by decide) (by simp [flN7]) h)) ?_
   refine rg_q (q_a rfl) ?_
   refine xc (awp_ret ?_)
   refine ⟨_, xk1, ?_⟩
   rw [hz]; rfl
  ·
   (try simp only [nb, ne_eq] at hc3)
   have hz : flT x = ⟨#[]⟩ := by unfold flT; rw [if_neg hc1, if_neg hc3]
   refine awp_skip ?_
   change Awp _ _ _ _ _
   refine awp_seq ?_
   refine xa 1 ?_
   refine rg_q (q_a rfl) ?_
   refine xc (awp_ret ?_)
   refine ⟨_, xk1, ?_⟩
   rw [hz]; rfl
end Go.Proofs.YtkbdnkjjklbddaaGreatDoor.Am.M
