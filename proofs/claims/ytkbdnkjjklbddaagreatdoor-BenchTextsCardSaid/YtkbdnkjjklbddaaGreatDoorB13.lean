/- Contracts over the abstract machine: a specimen is read: Parse of the code. Conditions: none. -/
import Derived.Test.YtkbdnkjjklbddaaGreatDoorB12
set_option linter.unusedVariables false
set_option linter.unusedSimpArgs false
-- mini
set_option maxRecDepth 100000
namespace Go.Proofs.YtkbdnkjjklbddaaGreatDoor.Am.M
open Go

def spS (t : List UInt8) (m j : Nat) : Spc :=
  ⟨⟨(List.range m).map fun i => elK t (3 + i), ⟨(hn t 1).getD 0 0, (hn t 1).getD 1 0, (hn t 1).getD 2 0, (hn t 1).getD 3 0⟩, ⟨(hn t 2).getD 0 0, (hn t 2).getD 1 0, (hn t 2).getD 2 0, (hn t 2).getD 3 0⟩, ((hn t 0).getD 0 0, (hn t 0).getD 1 0)⟩,
    (nbR (lnK t (3 + m)) pulS).1, (List.range j).map fun i => (flP (lnK t (4 + m + i))).1⟩
theorem sp_cells (t : List UInt8) (m j : Nat) : spcC (spS t m j) = c13 t m (plD t (3 + m)) (.sl 8 (fsJ t (4 + m) j)) := by
  unfold spcC spS c13 esM fsJ plD
  simp only [List.map_map]
  rfl
theorem spR_len (t : List UInt8) (m j : Nat) : (spR t m j).1.length = 13 := by
  unfold spR
  split
  · exact hC_len t 0
  · split
    · exact hC_len t 1
    · split
      · exact hC_len t 2
      · split
        · rfl
        · split <;> rfl
theorem spR_ok {t : List UInt8} {m j : Nat} (h : (spR t m j).2.1 = true) : (spR t m j).1 = spcC (spS t m j) := by
  rw [sp_cells]
  unfold spR at h ⊢
  split at h
  · cases h
  · split at h
    · cases h
    · split at h
      · cases h
      · split at h
        · cases h
        · split at h
          · rename_i h0 h1 h2 h3 h4
            rw [if_neg h0, if_neg h1, if_neg h2, if_neg h3, if_pos h4]
          · cases h
theorem spR_n (t : List UInt8) (m j : Nat) : (spR t m j).2.2 ≤ 4 + m + j := by
  unfold spR
  split
  · show 0 ≤ _; omega
  · split
    · show 1 ≤ _; omega
    · split
      · show 2 ≤ _; omega
      · split
        · show 3 + m ≤ _; omega
        · split
          · exact Nat.le_refl _
          · exact Nat.le_refl _
def psR (t : ByteArray) (m j : Nat) : Spc × Int × Int :=
  if 60000 < t.size then (zS, 0, 8) else if (spR t.data.toList m j).2.1 = false then (zS, ((spR t.data.toList m j).2.2 : Int) + 1, 7)
  else if (ckSpc (spS t.data.toList m j)).2 ≠ 0 then (zS, 0, (ckSpc (spS t.data.toList m j)).2) else (spS t.data.toList m j, 0, 0)
theorem parse_p (t : ByteArray) (m j : Nat) (hm : m ≤ 70000) (hj : j ≤ 70000) (hm1 : ∀ i, i < m → eB t.data.toList (3 + i) = true) (hm2 : eB t.data.toList (3 + m) = false) (hj1 : ∀ i, i < j → fB t.data.toList (4 + m + i) = true) (hj2 : fB t.data.toList (4 + m + j) = false) : PCG Tryz.prog GB 14 [.v (.string (t))] (.tup [.agg (spcC (psR t m j).1), .v (.int .i64 ((psR t m j).2.1)), .v (.int .i64 ((psR t m j).2.2))]) := by
 have htl : t.size = t.data.toList.length := Lib.size_eq t
 obtain ⟨c0, c1, c2, c3, c4, c5, c6, c7, c8, c9, c10, c11, c12, e13⟩ := list13 (spR_len t.data.toList m j)
 have hnn := spR_n t.data.toList m j
 refine pcg_of_awpO gb_low Tryz.func14 rfl Tryz.ntmps14 (rs := [.cell 2 32, .tmp 3, .tmp 4]) Tryz.results14 (by simp) fun w0 hmine hrnd hpn hGB hNG => ?_
 have hG : ∀ w, ExtM w0 w → GW w := fun w h => (hGB w h).1
 refine awp_seq ?_
 refine xa 0 ?_
 refine rg_nil ?_
 refine aops_alloc zr32 rfl rfl rfl ?_
 refine aops_q rfl (q_a rfl) ?_
 refine aops_q rfl (q_a rfl) ?_
 refine aops_nil (xq (awp_seq ?_))
 refine xa 3 ?_
 refine rg_q (q_m rfl) ?_
 refine rg_q (q_len_str str9 rfl) ?_
 refine rg_q (q_gtr rfl rfl) ?_
 refine xc (awp_cond rfl (fun hc1 => ?_) (fun hc1 => ?_))
 ·
  (try simp only [nb, ne_eq] at hc1)
  have hz : psR t m j = (zS, 0, 8) := by unfold psR; rw [if_pos (by omega)]
  refine awp_seq ?_
  refine xa 1 ?_
  refine rg_q (q_build pl32 zr32 rfl .nil trivial rfl) ?_
  refine rg_nil ?_
  refine aops_store sz32 rfl rfl (by exact .inr ⟨_, rfl⟩) rfl rfl (by decide) rfl ?_
  refine aops_q rfl (q_a rfl) ?_
  refine aops_q rfl (q_a rfl) ?_
  refine aops_nil ?_
  change Awp _ _ _ _ _
  refine Awp.le (le_upB 2 (spcC zS) rfl (.cons (.nil 2) (.cons (.same _) (.cons (.same _) (.cons (.same _) (.cons (.same _) (.cons (.same _) (.cons (.same _) (.cons (.same _) (.cons (.same _) (.cons (.same _) (.cons (.same _) (.cons (.nil 1) (.cons (.nil 8) .nil)))))))))))))) ?_
  refine awp_ret ?_
  refine ⟨_, (.cons (.cellA rfl rfl sz32 rfl) xk2), ?_⟩
  rw [hz]; rfl
 ·
  (try simp only [nb, ne_eq] at hc1)
  have hlg : ¬ 60000 < t.size := by omega
  refine awp_skip ?_
  change Awp _ _ _ _ _
  refine awp_seq ?_
  refine xa 2 ?_
  refine rg_q (q_m rfl) ?_
  refine rg_q (q_build (cs := [_, _]) pl99 zr99 rfl (.cons rfl (by exact .inl rfl) .nil) ⟨⟨rfl, by decide⟩, trivial⟩ rfl) ?_
  refine rg_nil ?_
  refine aops_box rfl (by exact .inr ⟨_, rfl⟩) rfl rfl rfl ?_
  refine aops_q rfl (q_assign (x := .ref _ _) rfl) ?_
  refine aops_nil (xq (xa 1 ?_))
  refine rg_q (q_move (x := .ref _ _) rfl) ?_
  refine rg_nil ?_
  refine aops_gat 1001 16 rfl fun b9 => ?_
  refine aops_callLX hGB hNG 1001 [16] [] en42 rfl rfl ((by have q := specimenOf_p t.data.toList m j (by omega) hm1 hm2 hj1 hj2; rw [e13, show mkB (rsN t.data.toList 0) = t from mkB_data t] at q; exact q.x b9)) (.cons rfl .nil) rfl rfl rfl (by repeat (first | exact trivial | refine ⟨rfl, ?_⟩)) (by repeat (exact trivial)) rfl ?_
  refine aops_q rfl (q_move (x := .d (.tup _)) rfl) ?_
  refine aops_q rfl (q_extract rfl rfl) ?_
  refine aops_q rfl (q_extract rfl rfl) ?_
  refine aops_alloc zr32 rfl rfl rfl ?_
  refine aops_store sz32 rfl rfl (by exact .inr ⟨_, rfl⟩) rfl rfl (by decide) rfl ?_
  refine aops_q rfl (q_a rfl) ?_
  refine aops_nil (xq (awp_seq ?_))
  refine xa 2 ?_
  refine rg_q (q_m rfl) (rg_q (q_not rfl) ?_)
  refine xc (awp_cond rfl (fun hc5 => ?_) (fun hc5 => ?_))
  ·
   (try simp only [nb, ne_eq] at hc5)
   have hz : psR t m j = (zS, ((spR t.data.toList m j).2.2 : Int) + 1, 7) := by unfold psR; rw [if_neg hlg, if_pos hc5]
   refine awp_seq ?_
   refine awp_regionM 9 [none, none, none, none, none, none, some 2, none, none] mixed (by kernel_rfl) ?_
   refine rgm_q rfl (q_build pl32 zr32 rfl .nil trivial rfl) ?_
   refine rgm_q rfl (q_move (x := .ref _ _) rfl) ?_
   refine rgm_q rfl (q_nilCheck_ref rfl) ?_
   refine rgm_q rfl (q_fieldAddr_ref fld99_1 rfl) ?_
   refine rgm_q rfl (q_load_ref sz3 rfl rfl rfl) ?_
   refine rgm_q rfl (q_add rfl rfl xi) ?_
   refine rgm_m (k := 2) rfl rfl (by rfl) (m_store sz32 rfl rfl (by exact .inr ⟨_, rfl⟩) rfl rfl (by decide) rfl) ?_
   refine rgm_q rfl (q_a rfl) ?_
   refine rgm_q rfl (q_a rfl) ?_
   refine rgm_nil (aops_nil ?_)
   change Awp _ _ _ _ _
   refine Awp.le (le_upB 2 (spcC zS) rfl (.cons (.nil 2) (.cons (.same _) (.cons (.same _) (.cons (.same _) (.cons (.same _) (.cons (.same _) (.cons (.same _) (.cons (.same _) (.cons (.same _) (.cons (.same _) (.cons (.same _) (.cons (.nil 1) (.cons (.nil 8) .nil)))))))))))))) ?_
   refine awp_ret ?_
   refine ⟨_, (.cons (.cellA rfl rfl sz32 rfl) xk2), ?_⟩
   rw [hz]; rfl
  ·
   (try simp only [nb, ne_eq] at hc5)
   have e14 : ([c0, c1, c2, c3, c4, c5, c6, c7, c8, c9, c10, c11, c12] : List D) = spcC (spS t.data.toList m j) := e13.symm.trans (spR_ok hc5)
   rw [e14]
   refine awp_skip ?_
   change Awp _ _ _ _ _
   refine awp_seq ?_
   refine awp_seq ?_
   refine xa 7 ?_
   refine rg_q (q_load_refA sz32 rfl rfl rfl rfl) ?_
   refine rg_q (q_call en35 (.cons rfl .nil) rfl (checkSpecimen_p _)) ?_
   refine rg_q (q_move (x := .d (.tup _)) rfl) (rg_q (q_extract rfl rfl) (rg_q (q_extract rfl rfl) (rg_q (q_a rfl) (rg_q (q_a rfl) ?_))))
   refine rs (xa 2 ?_)
   refine rg_q (q_m rfl) (rg_q (q_neq rfl rfl) ?_)
   refine xc (awp_cond rfl (fun hc8 => ?_) (fun hc8 => ?_))
   ·
    (try simp only [nb, ne_eq] at hc8)
    have hz : psR t m j = (zS, 0, (ckSpc (spS t.data.toList m j)).2) := by unfold psR; rw [if_neg hlg, if_neg (by rw [hc5]; decide), if_pos hc8]
    refine awp_seq ?_
    refine xa 2 ?_
    refine rg_q (q_build pl32 zr32 rfl .nil trivial rfl) ?_
    refine rg_q (q_m rfl) ?_
    refine rg_nil ?_
    refine aops_store sz32 rfl rfl (by exact .inr ⟨_, rfl⟩) rfl rfl (by decide) rfl ?_
    refine aops_q rfl (q_a rfl) ?_
    refine aops_q rfl (q_a rfl) ?_
    refine aops_nil ?_
    change Awp _ _ _ _ _
    refine Awp.le (le_upB 2 (spcC zS) rfl (.cons (.nil 2) (.cons (.same _) (.cons (.same _) (.cons (.same _) (.cons (.same _) (.cons (.same _) (.cons (.same _) (.cons (.same _) (.cons (.same _) (.cons (.same _) (.cons (.same _) (.cons (.nil 1) (.cons (.nil 8) .nil)))))))))))))) ?_
    refine awp_ret ?_
    refine ⟨_, (.cons (.cellA rfl rfl sz32 rfl) xk2), ?_⟩
    rw [hz]; rfl
   ·
    (try simp only [nb, ne_eq] at hc8)
    have hz : psR t m j = (spS t.data.toList m j, 0, 0) := by unfold psR; rw [if_neg hlg, if_neg (by rw [hc5]; decide), if_neg (fun h => h hc8)]
    refine awp_skip ?_
    change Awp _ _ _ _ _
    refine awp_seq ?_
    refine xa 1 ?_
    refine rg_q (q_load_refA sz32 rfl rfl rfl rfl) ?_
    refine rg_nil ?_
    refine aops_store sz32 rfl rfl (by exact .inr ⟨_, rfl⟩) rfl rfl (by decide) rfl ?_
    refine aops_q rfl (q_a rfl) ?_
    refine aops_q rfl (q_a rfl) ?_
    refine aops_nil ?_
    change Awp _ _ _ _ _
    refine awp_ret ?_
    refine ⟨_, (.cons (.cellA rfl rfl sz32 rfl) xk2), ?_⟩
    rw [hz]; rfl
end Go.Proofs.YtkbdnkjjklbddaaGreatDoor.Am.M
