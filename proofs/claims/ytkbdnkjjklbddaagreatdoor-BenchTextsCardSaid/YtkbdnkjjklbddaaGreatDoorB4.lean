/- Contracts over the abstract machine: a word and numbers written: the code. Conditions: none. -/
import Derived.Test.YtkbdnkjjklbddaaGreatDoorB3
set_option linter.unusedVariables false
set_option linter.unusedSimpArgs false
-- mini
set_option maxRecDepth 100000
namespace Go.Proofs.YtkbdnkjjklbddaaGreatDoor.Am.M
open Go
theorem joinTail_len : ∀ {r : List (List UInt8)}, (∀ y ∈ r, y.length ≤ 21) → (Lib.joinTail [32] r).length ≤ 22 * r.length
  | [], _ => Nat.le_refl _
  | y :: r, h => by
    have h1 := h y (by simp)
    have h2 := joinTail_len (r := r) fun z hz => h z (by simp [hz])
    show ([32] ++ y ++ Lib.joinTail [32] r).length ≤ _
    simp only [List.length_append, List.length_cons, List.length_nil]
    omega

def wrX (wd : ByteArray) (ns : List Int) : List (List UInt8) := wd.data.toList :: ns.map Lib.itoa
def wrT (wd : ByteArray) (ns : List Int) : List UInt8 := Lib.join (wrX wd ns) [32]
theorem wrT_is (wd : ByteArray) (ns : List Int) : wrT wd ns = wd.data.toList ++ Lib.joinTail [32] (ns.map Lib.itoa) := Lib.join_cons _ _ _
theorem wrT_len {wd : ByteArray} {ns : List Int} (h : ∀ n ∈ ns, In64 n) : (wrT wd ns).length ≤ wd.size + 22 * ns.length := by
  rw [wrT_is, List.length_append]
  have h2 := joinTail_len (r := ns.map Lib.itoa) fun y hy => by obtain ⟨m, hm, rfl⟩ := List.mem_map.1 hy; exact itoa_len (h m hm)
  rw [List.length_map] at h2
  have h3 : wd.size = wd.data.toList.length := Lib.size_eq wd
  omega
def pE (e : List D × Nat × Int) : List D := [.pt e.1 e.2.1]
theorem written_p (wd : ByteArray) (es : List (List D × Nat × Int)) (hw : wd.size ≤ 1000) (hn : es.length ≤ 20) (he : ∀ e ∈ es, e.1[e.2.1]? = some (.v (.int .i64 e.2.2)) ∧ In64 e.2.2) : PCG Tryz.prog GW 26 [.v (.string (wd)), .sl 1 (es.map pE)] (.v (.string (mkB (wrT wd (es.map fun e => e.2.2))))) := by
 have hin : ∀ n ∈ (es.map fun e => e.2.2), In64 n := fun n hq => by obtain ⟨e, q, rfl⟩ := List.mem_map.1 hq; exact (he e q).2
 have wl := wrT_len (wd := wd) hin
 rw [List.length_map] at wl
 refine pcg_of_awpN gw_keep Tryz.func26 rfl Tryz.ntmps26 (rs := [.tmp 4]) Tryz.results26 (by simp) fun w0 hmine hrnd hpn hG => ?_
 refine awp_seq ?_
 refine xa 1 ?_
 refine rg_q (q_a rfl) ?_
 refine rs (xa 1 ?_)
 refine rg_q (q_m rfl) ?_
 refine rg_nil ?_
 refine aops_one sl90 zr9 rfl rfl rfl rfl rfl rfl ?_
 refine aops_q rfl (q_assign (x := .rs _) rfl) ?_
 refine aops_nil (xq (awp_seq ?_))
 refine xa 3 ?_
 refine rg_q (q_move (x := .d (.sl _ _)) rfl) ?_
 refine rg_q (q_len isl77 rfl (by exact len_map _ _)) ?_
 refine rg_q (q_m rfl) ?_
 refine xc (awp_len (t := 10) rfl (fun hl10 => ?_))
 (try simp only [List.length_map] at hl10)
 refine awp_block ?_
 refine awp_loopH [5, 7, 12, 13, 14, 15, 16, 17, 18, 19, 20, 21, 22, 23, 9] [9] (α := Nat) (fun k => [(12, T.i (k : Int)), (5, .rs 9)]) (fun k => [(9, .row 9 1 ((wd :: (es.take k).map fun e => mkB (Lib.itoa e.2.2)).map strC))]) (fun k => k ≤ es.length) (fun k => es.length - k) 0 (Nat.zero_le _) ?_ ?_
 · exact xh (ms := [9]) (by repeat (exact Out.refl _)) ⟨(by rfl), (by rfl), trivial⟩ ⟨(by rfl), trivial⟩
 ·
  intro k hk
  refine awp_seq ?_
  refine xa 1 ?_
  refine rg_q (q_lss rfl rfl) ?_
  refine rs (awp_cond rfl (fun hc3 => ?_) (fun hc3 => ?_))
  ·
   (try simp only [nb, ne_eq] at hc3)
   have hlt : k < es.length := by (try simp only [List.length_map] at hc3); omega
   obtain ⟨y, hx⟩ : ∃ y, es[k]? = some y := ⟨_, List.getElem?_eq_getElem hlt⟩
   obtain ⟨hy1, hy2⟩ := he y (List.mem_of_getElem? hx)
   have hln : (es.take k).length ≤ 20 := by rw [List.length_take]; omega
   have hsk : ((wd :: (es.take (k + 1)).map fun e => mkB (Lib.itoa e.2.2)).map strC) = ((wd :: (es.take k).map fun e => mkB (Lib.itoa e.2.2)).map strC) ++ [[.v (.string (mkB (Lib.itoa y.2.2)))]] := by
    rw [List.take_succ_eq_append_getElem hlt, (List.getElem?_eq_some_iff.1 hx).2]; simp [strC]
   refine awp_skip ?_
   change Awp _ _ _ _ _
   refine awp_seq ?_
   refine awp_block ?_
   refine awp_seq ?_
   refine xa 3 ?_
   refine rg_q (q_indexAddr sl77 rfl rfl (by omega) (map_at (by omega) hx)) ?_
   refine rg_q (q_load sz87 rfl rfl) (rg_q (q_assign (x := .d (.pt _ _)) rfl) ?_)
   refine rn ?_
   change Awp _ _ _ _ _
   refine xa 6 ?_
   refine rg_q (q_move (x := .rs _) rfl) (rg_q (q_move (x := .d (.pt _ _)) rfl) (rg_q (q_nilCheck rfl) (rg_q (q_load sz3 rfl hy1) ?_)))
   refine rg_q (q_callG en37 (.cons rfl .nil) rfl hG (itoa_p y.2.2 hy2)) ?_
   refine rg_q (q_buildSlice sl90 zr9 rfl rfl (by decide) (.cons rfl (by exact .inl rfl) .nil) ⟨rfl, rfl, trivial⟩ rfl (by decide) rfl) ?_
   refine rg_nil ?_
   refine aops_append sl90 zr9 by9 rfl (by decide) rfl rfl rfl rfl (by (try simp only [List.length_map, List.length_append, List.length_cons, List.length_nil]); omega) (by (try simp only [List.length_map, List.length_append, List.length_cons, List.length_nil]); omega) rfl rfl ?_
   refine aops_q rfl (q_assign (x := .rs _) rfl) ?_
   refine aops_nil ?_
   change Awp _ _ _ _ _
   refine xa 2 ?_
   refine rg_q (q_add rfl rfl xi) ?_
   refine rg_q (q_m rfl) ?_
   refine rn ?_
   refine ⟨k + 1, by omega, by omega, ?_⟩
   exact xh (ms := [9]) (by repeat (first | exact Out.head rfl rfl | (refine Out.put ?_ rfl) | (refine Out.site ?_ rfl) | (refine Out.killS ?_ rfl))) ⟨(by rfl), (by rfl), trivial⟩ ⟨(by (show Site.row 9 1 (_ ++ [_]) = Site.row 9 1 _; rw [hsk]; rfl)), trivial⟩
  ·
   (try simp only [nb, ne_eq] at hc3)
   have hkn : k = es.length := by (try simp only [List.length_map] at hc3); omega
   subst hkn
   have hrow : ((wd :: (es.take es.length).map fun e => mkB (Lib.itoa e.2.2)).map strC) = ((wrX wd (es.map fun e => e.2.2)).map mkB).map strC := by rw [List.take_length]; unfold wrX; simp only [List.map_cons, List.map_map, mkB_data]; rfl
   refine awp_exit ?_
   change Awp _ _ _ _ _
   refine awp_seq ?_
   refine Awp.le (le_freezeR (es := ((wrX wd (es.map fun e => e.2.2)).map mkB).map strC) 9 5 (by show Site.row _ _ _ = _; rw [hrow]) rfl rfl rfl hmine) ?_
   refine xa 3 ?_
   refine rg_q (q_move (x := .d (.sl _ _)) rfl) ?_
   refine rg_q (q_callG en38 (.cons rfl (.cons rfl .nil)) rfl hG (join_p (wrX wd (es.map fun e => e.2.2)) (by unfold wrX; simp) (by unfold wrX; simp only [List.length_cons, List.length_map]; omega) (by show (wrT wd _).length ≤ _; omega))) ?_
   refine rg_q (q_a rfl) ?_
   refine xc (awp_ret ?_)
   refine ⟨_, xk1, ?_⟩
   rfl
end Go.Proofs.YtkbdnkjjklbddaaGreatDoor.Am.M
