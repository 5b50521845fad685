/- Contracts over the abstract machine: PrintPowers: the code, the reference. Conditions: none. -/
import Derived.Test.YtcdccdcbfbakfaaGreatDoorV7
set_option linter.unusedVariables false
set_option linter.unusedSimpArgs false
-- mini
namespace Go.Proofs.YtcdccdcbfbakfaaGreatDoor.Am.M
open Go
set_option maxRecDepth 100000 in
theorem printPowers_p (g : Grd) (l : List Int) : PCG Tryz.prog GW 6 [.agg (grdC g), .sl 1 (l.map iC)] (.tup [.v (.string (ppT g l)), .v (.int .i64 (ofE g l))]) := by
  refine pcg_of_awpN gw_keep Tryz.func6 rfl Tryz.ntmps6 (rs := [.tmp 4, .tmp 5]) Tryz.results6 (by simp) fun w0 hmine hrnd hpn hG => ?_
  refine awp_seq ?_
  refine awp_region 3 mixed (by kernel_rfl) ?_
  refine rg_q (q_box rfl (by exact .inr ⟨_, rfl⟩)) ?_
  refine rg_q (q_assign (x := .d (.v _)) rfl) ?_
  refine rg_q (q_assign (x := .d (.v _)) rfl) ?_
  refine rg_nil ?_
  refine aops_nil ?_
  change Awp _ _ _ _ _
  refine awp_seq ?_
  refine awp_region 6 mixed (by kernel_rfl) ?_
  refine rg_q (q_loadA (ds := [_, _, _, _, _]) sz25 rfl rfl rfl) ?_
  refine rg_q (q_move (x := .d (.sl _ _)) rfl) ?_
  refine rg_q (q_call en20 (.cons rfl (.cons rfl .nil)) rfl (openField_p _ _)) ?_
  refine rg_q (q_move (x := .d (.tup _)) rfl) ?_
  refine rg_q (q_extract rfl rfl) ?_
  refine rg_q (q_extract rfl rfl) ?_
  refine rg_nil ?_
  refine aops_allocD zr72 rfl sz72 rfl rfl (by exact .inr ⟨_, rfl⟩) (ofD_len g l) rfl ?_
  refine aops_q rfl (q_assign (x := .d (.v _)) rfl) ?_
  refine aops_nil ?_
  change Awp _ _ _ _ _
  refine awp_seq ?_
  refine awp_seq ?_
  refine awp_region 2 mixed (by kernel_rfl) ?_
  refine rg_q (q_move (x := .d (.v _)) rfl) ?_
  refine rg_q (q_neq rfl rfl) ?_
  refine rg_nil ?_
  refine aops_nil ?_
  change Awp _ _ _ _ _
  refine awp_cond rfl (fun hc2 => ?_) (fun hc2 => ?_)
  ·
    (try simp only [nb, ne_eq] at hc2)
    have hz : ppT g l = ⟨#[]⟩ := by unfold ppT; rw [if_pos hc2]
    refine awp_seq ?_
    refine awp_region 3 mixed (by kernel_rfl) ?_
    refine rg_q (q_move (x := .d (.v _)) rfl) ?_
    refine rg_q (q_assign (x := .d (.v _)) rfl) ?_
    refine rg_q (q_assign (x := .d (.v _)) rfl) ?_
    refine rg_nil ?_
    refine aops_nil ?_
    change Awp _ _ _ _ _
    refine awp_ret ?_
    refine ⟨_, (.cons (.tmp (by exact .d _)) (.cons (.tmp (by exact .d _)) .nil)), ?_⟩
    rw [hz]; rfl
  ·
    (try simp only [nb, ne_eq] at hc2)
    have h0 : ofE g l = 0 := by simpa using hc2
    obtain ⟨hfk, hfd⟩ := of_ok h0
    have hg := hfk.gr
    rw [hfd]
    have hz : ppT g l = mkB (prT g l g.ro.toNat) := by unfold ppT; rw [if_neg (fun q => q h0)]
    have jl5 := jnI_len (grd_in64 hg)
    have hs5 : (⟨#[103, 114, 105, 100, 32]⟩ : ByteArray).size = 5 := rfl
    have hs1 : (⟨#[10]⟩ : ByteArray).size = 1 := rfl
    have hhd : (⟨#[103, 114, 105, 100, 32]⟩ : ByteArray) ++ mkB (jnI [g.fx, g.fz, g.co, g.ro, g.st]) ++ ⟨#[10]⟩ = mkB (hdT g) := by
      rw [show (⟨#[103, 114, 105, 100, 32]⟩ : ByteArray) = mkB [103, 114, 105, 100, 32] from rfl, show (⟨#[10]⟩ : ByteArray) = mkB [10] from rfl, mkB_app, mkB_app]; rfl
    have hfl := fld_len hfk
    have c1 := hg.c1
    have c2 := hg.c2
    have r1 := hg.r1
    have r2 := hg.r2
    have hin := pw_in64 hfk
    have hcoN : ((g.co.toNat : Nat) : Int) = g.co := Int.toNat_of_nonneg (by omega)
    have hll : l.length ≤ 100000 := by have := hfk.len; have := mulb (a := g.co) (b := g.ro) (A := 40) (B := 40) (by omega) (by omega) (by omega) (by omega); omega
    have hit := chunkI_i l g.co.toNat g.ro.toNat (by omega) hfl hll
    rw [hcoN] at hit
    refine awp_skip ?_
    change Awp _ _ _ _ _
    refine awp_seq ?_
    refine awp_region 16 mixed (by kernel_rfl) ?_
    refine rg_q (q_fieldAddr fld25_0 rfl) ?_
    refine rg_q (q_fieldAddr fld23_0 rfl) ?_
    refine rg_q (q_load sz3 rfl rfl) ?_
    refine rg_q (q_fieldAddr fld25_0 rfl) ?_
    refine rg_q (q_fieldAddr fld23_1 rfl) ?_
    refine rg_q (q_load sz3 rfl rfl) ?_
    refine rg_q (q_fieldAddr fld25_1 rfl) ?_
    refine rg_q (q_load sz3 rfl rfl) ?_
    refine rg_q (q_fieldAddr fld25_2 rfl) ?_
    refine rg_q (q_load sz3 rfl rfl) ?_
    refine rg_q (q_fieldAddr fld25_3 rfl) ?_
    refine rg_q (q_load sz3 rfl rfl) ?_
    refine rg_q (q_buildSlice sl26 zr3 rfl rfl (by decide) (.cons rfl (by exact .inl rfl) (.cons rfl (by exact .inl rfl) (.cons rfl (by exact .inl rfl) (.cons rfl (by exact .inl rfl) (.cons rfl (by exact .inl rfl) .nil))))) ⟨rfl, rfl, rfl, rfl, rfl, rfl, rfl, rfl, rfl, rfl, trivial⟩ rfl (by decide) rfl) ?_
    refine rg_q (q_callG en21 (.cons rfl .nil) rfl hG (joined_p [g.fx, g.fz, g.co, g.ro, g.st] (by simp) (by simp) (grd_in64 hg))) ?_
    refine rg_q (q_adds rfl rfl (by (simp only [ByteArray.size_append, mkB_size, hs5, hs1, List.length_cons, List.length_nil] at jl5 ⊢; omega))) ?_
    refine rg_q (q_adds rfl rfl (by (simp only [ByteArray.size_append, mkB_size, hs5, hs1, List.length_cons, List.length_nil] at jl5 ⊢; omega))) ?_
    refine rg_nil ?_
    refine aops_alloc zr9 rfl rfl rfl ?_
    refine aops_store sz9 rfl rfl (by exact .inl rfl) rfl rfl (by decide) rfl ?_
    refine aops_nil ?_
    change Awp _ _ _ _ _
    refine awp_seq ?_
    refine awp_seq ?_
    refine awp_region 5 mixed (by kernel_rfl) ?_
    refine rg_q (q_fieldAddr fld72_1 rfl) ?_
    refine rg_q (q_load sz26 rfl rfl) ?_
    refine rg_q (q_fieldAddr fld25_1 rfl) ?_
    refine rg_q (q_load sz3 rfl rfl) ?_
    refine rg_q (q_call en22 (.cons rfl (.cons rfl .nil)) rfl (chunkI_p l g.co c1)) ?_
    refine rg_nil ?_
    refine aops_nil ?_
    change Awp _ _ _ _ _
    refine awp_block ?_
    refine awp_rangeFCG (α := List Int) (β := Nat) (n := 47) (enc := encI) (items := ckF l g.co.toNat g.ro.toNat) 1000 [(8, .ref 8 0), (39, .d (.fn (.func 53) [.pt [.sl 1 (l.map iC)] 0, .pt [.v (.int .i64 (g.co))] 0]))] (fun x => [(8, .box [.v (.string (mkB (prT g l x)))])]) (fun k x => x = k) (fun e x => False) 0 hrnd ?_ (.inr ⟨rfl, rfl⟩) en53 hit rfl (fun _ => rfl) rfl (fun x => fsl_mem (fsl_cons (fst_box (by repeat first | exact trivial | refine ⟨.v _, ?_⟩)) fsl_nil)) (fun _ => rfl) rfl (fun h => by cases h) ?_ ?_ ?_
    · exact le_cst (fun k => k) _ _ rfl ⟨(by rfl), (by rfl), trivial⟩ ⟨(by (show Site.box [D.v (Value.string _)] = Site.box [D.v (Value.string _)]; rw [hhd]; rfl)), trivial⟩ rfl (fun k b h => by rw [hpn k] at h; cases h)
    ·
      intro w1 hw1 hx1 k x y hI hy
      subst hI
      obtain ⟨hlt, rfl⟩ := ckF_at hy
      have hkl := ckI_len hfl hlt
      have hne : ckI l g.co.toNat x ≠ [] := fun e => by rw [e] at hkl; simp at hkl; omega
      have hcl : (ckI l g.co.toNat x).length ≤ 1000 := by omega
      have jlx := jnI_len (l := ckI l g.co.toNat x) (fun n hn => hin n (ckI_mem hn))
      rw [hkl] at jlx
      have plx := prT_len hfk x (by omega)
      have hst : mkB (prT g l x) ++ (mkB (jnI (ckI l g.co.toNat x)) ++ ⟨#[10]⟩) = mkB (prT g l (x + 1)) := by rw [show (⟨#[10]⟩ : ByteArray) = mkB [10] from rfl, mkB_app, mkB_app]; rfl
      refine awp_region 1 mixed (by kernel_rfl) ?_
      refine rg_q (q_assign (x := .d (.sl _ _)) rfl) ?_
      refine rg_nil ?_
      refine aops_nil ?_
      refine ⟨rfl, fun w2 hw2 hx2 => ?_⟩
      have hG := fun w h => hG w (hx2 w h)
      refine awp_block ?_
      refine awp_region 5 mixed (by kernel_rfl) ?_
      refine rg_q (q_load_ref sz9 rfl rfl rfl) ?_
      refine rg_q (q_move (x := .d (.sl _ _)) rfl) ?_
      refine rg_q (q_callG en21 (.cons rfl .nil) rfl hG (joined_p (ckI l g.co.toNat x) hne hcl (fun n hn => hin n (ckI_mem hn)))) ?_
      refine rg_q (q_adds rfl rfl (by (simp only [ByteArray.size_append, mkB_size, hs5, hs1, List.length_cons, List.length_nil] at jl5 ⊢; omega))) ?_
      refine rg_q (q_adds rfl rfl (by (simp only [ByteArray.size_append, mkB_size, hs5, hs1, List.length_cons, List.length_nil] at jl5 ⊢; omega))) ?_
      refine rg_nil ?_
      refine aops_store sz9 rfl rfl (by exact .inl rfl) rfl rfl (by simp; done) rfl ?_
      refine aops_nil ?_
      refine .inl ⟨rfl, x + 1, rfl, ?_⟩
      exact le_round [] _ hw2 rfl ⟨(by rfl), trivial⟩ rfl
    ·
      intro x hI
      have hI2 : x = g.ro.toNat := by rw [hI]; unfold ckF; rw [List.length_map, List.length_range]
      subst hI2
      change Awp _ _ _ _ _
      refine awp_seq ?_
      refine awp_region 3 mixed (by kernel_rfl) ?_
      refine rg_q (q_load_ref sz9 rfl rfl rfl) ?_
      refine rg_q (q_assign (x := .d (.v _)) rfl) ?_
      refine rg_q (q_assign (x := .d (.v _)) rfl) ?_
      refine rg_nil ?_
      refine aops_nil ?_
      change Awp _ _ _ _ _
      refine awp_ret ?_
      refine ⟨_, (.cons (.tmp (by exact .d _)) (.cons (.tmp (by exact .d _)) .nil)), ?_⟩
      rw [hz, h0]; rfl
    ·
      exact fun e x h => h.elim
set_option maxRecDepth 100000 in
theorem rprintPowers_p (g : Grd) (l : List Int) (hfk : FldOk g l) : PC Tryz.prog 10 [.agg (grdC g), .sl 1 (l.map iC)] (.v (.string (mkB (prT g l g.ro.toNat)))) := by
  have hg := hfk.gr
  have jl5 := jnI_len (grd_in64 hg)
  have hs5 : (⟨#[103, 114, 105, 100, 32]⟩ : ByteArray).size = 5 := rfl
  have hs1 : (⟨#[10]⟩ : ByteArray).size = 1 := rfl
  have hhd : (⟨#[103, 114, 105, 100, 32]⟩ : ByteArray) ++ mkB (jnI [g.fx, g.fz, g.co, g.ro, g.st]) ++ ⟨#[10]⟩ = mkB (hdT g) := by
    rw [show (⟨#[103, 114, 105, 100, 32]⟩ : ByteArray) = mkB [103, 114, 105, 100, 32] from rfl, show (⟨#[10]⟩ : ByteArray) = mkB [10] from rfl, mkB_app, mkB_app]; rfl
  have hfl := fld_len hfk
  have c1 := hg.c1
  have c2 := hg.c2
  have r1 := hg.r1
  have r2 := hg.r2
  have hin := pw_in64 hfk
  have hcoN : ((g.co.toNat : Nat) : Int) = g.co := Int.toNat_of_nonneg (by omega)
  refine pc_of_awpN Tryz.func10 rfl Tryz.ntmps10 (rs := [.tmp 4]) Tryz.results10 (by simp) fun w0 hmine hrnd hpn => ?_
  refine awp_seq ?_
  refine awp_region 2 mixed (by kernel_rfl) ?_
  refine rg_q (q_box rfl (by exact .inr ⟨_, rfl⟩)) ?_
  refine rg_q (q_assign (x := .d (.v _)) rfl) ?_
  refine rg_nil ?_
  refine aops_nil ?_
  change Awp _ _ _ _ _
  refine awp_seq ?_
  refine awp_region 17 mixed (by kernel_rfl) ?_
  refine rg_q (q_fieldAddr fld25_0 rfl) ?_
  refine rg_q (q_fieldAddr fld23_0 rfl) ?_
  refine rg_q (q_load sz3 rfl rfl) ?_
  refine rg_q (q_fieldAddr fld25_0 rfl) ?_
  refine rg_q (q_fieldAddr fld23_1 rfl) ?_
  refine rg_q (q_load sz3 rfl rfl) ?_
  refine rg_q (q_fieldAddr fld25_1 rfl) ?_
  refine rg_q (q_load sz3 rfl rfl) ?_
  refine rg_q (q_fieldAddr fld25_2 rfl) ?_
  refine rg_q (q_load sz3 rfl rfl) ?_
  refine rg_q (q_fieldAddr fld25_3 rfl) ?_
  refine rg_q (q_load sz3 rfl rfl) ?_
  refine rg_q (q_buildSlice sl26 zr3 rfl rfl (by decide) (.cons rfl (by exact .inl rfl) (.cons rfl (by exact .inl rfl) (.cons rfl (by exact .inl rfl) (.cons rfl (by exact .inl rfl) (.cons rfl (by exact .inl rfl) .nil))))) ⟨rfl, rfl, rfl, rfl, rfl, rfl, rfl, rfl, rfl, rfl, trivial⟩ rfl (by decide) rfl) ?_
  refine rg_q (q_call en29 (.cons rfl .nil) rfl (rrow_p [g.fx, g.fz, g.co, g.ro, g.st] (by simp) (grd_in64 hg))) ?_
  refine rg_q (q_adds rfl rfl (by (simp only [ByteArray.size_append, mkB_size, hs5, hs1, List.length_cons, List.length_nil] at jl5 ⊢; omega))) ?_
  refine rg_q (q_adds rfl rfl (by (simp only [ByteArray.size_append, mkB_size, hs5, hs1, List.length_cons, List.length_nil] at jl5 ⊢; omega))) ?_
  refine rg_q (q_assign (x := .d (.v _)) rfl) ?_
  refine rg_nil ?_
  refine aops_nil ?_
  change Awp _ _ _ _ _
  refine awp_seq ?_
  refine awp_seq ?_
  refine awp_region 1 mixed (by kernel_rfl) ?_
  refine rg_q (q_assign (x := .d (.v _)) rfl) ?_
  refine rg_nil ?_
  refine aops_nil ?_
  change Awp _ _ _ _ _
  refine awp_block ?_
  refine awp_loopH [5, 6, 23, 24, 25, 26, 27, 28, 29, 30, 31, 32, 33, 34, 35, 36, 37, 38, 39, 40, 41, 42, 43] [] (α := Nat) (fun k => [(6, T.i (k : Int)), (5, .d (.v (.string (mkB (prT g l k)))))]) (fun k => []) (fun k => k ≤ g.ro.toNat) (fun k => g.ro.toNat - k) 0 (Nat.zero_le _) ?_ ?_
  · exact le_head (ms := []) (by repeat (exact Out.refl _)) ⟨(by rfl), (by rfl), trivial⟩ trivial rfl rfl rfl rfl
  ·
    intro k hk
    refine awp_seq ?_
    refine awp_seq ?_
    refine awp_region 4 mixed (by kernel_rfl) ?_
    refine rg_q (q_move (x := .d (.v _)) rfl) ?_
    refine rg_q (q_fieldAddr fld25_2 rfl) ?_
    refine rg_q (q_load sz3 rfl rfl) ?_
    refine rg_q (q_lss rfl rfl) ?_
    refine rg_nil ?_
    refine aops_nil ?_
    change Awp _ _ _ _ _
    refine awp_cond rfl (fun hc3 => ?_) (fun hc3 => ?_)
    ·
      (try simp only [nb, ne_eq] at hc3)
      have hlt : k < g.ro.toNat := by omega
      have hkl := ckI_len hfl hlt
      have hcl : (ckI l g.co.toNat k).length ≤ 1000 := by omega
      have jlx := jnI_len (l := ckI l g.co.toNat k) (fun n hn => hin n (ckI_mem hn))
      rw [hkl] at jlx
      have plx := prT_len hfk k (by omega)
      have hs1' : g.co.toNat * (k + 1) = g.co.toNat * k + g.co.toNat := Nat.mul_succ _ k
      have hs2 : g.co.toNat * (k + 1) ≤ g.co.toNat * g.ro.toNat := Nat.mul_le_mul_left _ hlt
      have hlo : (k : Int) * g.co = ((g.co.toNat * k : Nat) : Int) := by rw [Int.natCast_mul, hcoN, Int.mul_comm]
      have hhi : ((k : Int) + 1) * g.co = ((g.co.toNat * k + g.co.toNat : Nat) : Int) := by rw [Int.add_mul, Int.one_mul, hlo, Int.natCast_add, hcoN]
      have hm1 := mulb (a := (k : Int)) (b := g.co) (A := 40) (B := 40) (by omega) (by omega) (by omega) (by omega)
      have hm2 := mulb (a := (k : Int) + 1) (b := g.co) (A := 41) (B := 40) (by omega) (by omega) (by omega) (by omega)
      have hst : mkB (prT g l k) ++ mkB (jnI (ckI l g.co.toNat k)) ++ ⟨#[10]⟩ = mkB (prT g l (k + 1)) := by rw [show (⟨#[10]⟩ : ByteArray) = mkB [10] from rfl, mkB_app, mkB_app, List.append_assoc]; rfl
      refine awp_skip ?_
      change Awp _ _ _ _ _
      refine awp_seq ?_
      refine awp_block ?_
      refine awp_region 16 mixed (by kernel_rfl) ?_
      refine rg_q (q_move (x := .d (.v _)) rfl) ?_
      refine rg_q (q_move (x := .d (.sl _ _)) rfl) ?_
      refine rg_q (q_move (x := .d (.v _)) rfl) ?_
      refine rg_q (q_fieldAddr fld25_1 rfl) ?_
      refine rg_q (q_load sz3 rfl rfl) ?_
      refine rg_q (q_mul rfl rfl (In64.mk (by omega) (by omega))) ?_
      refine rg_q (q_move (x := .d (.v _)) rfl) ?_
      refine rg_q (q_add rfl rfl (In64.mk (by omega) (by omega))) ?_
      refine rg_q (q_fieldAddr fld25_1 rfl) ?_
      refine rg_q (q_load sz3 rfl rfl) ?_
      refine rg_q (q_mul rfl rfl (In64.mk (by omega) (by omega))) ?_
      rw [hlo, hhi]
      refine rg_q (q_slice (lo := g.co.toNat * k) (hi := g.co.toNat * k + g.co.toNat) sl26 rfl rfl rfl (by omega) (by rw [List.length_map]; omega) (by exact map_slice _ _ _ _)) ?_
      refine rg_q (q_call en29 (.cons rfl .nil) rfl (rrow_p (ckI l g.co.toNat k) hcl (fun n hn => hin n (ckI_mem hn)))) ?_
      refine rg_q (q_adds rfl rfl (by (simp only [ByteArray.size_append, mkB_size, hs5, hs1, List.length_cons, List.length_nil] at jl5 ⊢; omega))) ?_
      refine rg_q (q_adds rfl rfl (by (simp only [ByteArray.size_append, mkB_size, hs5, hs1, List.length_cons, List.length_nil] at jl5 ⊢; omega))) ?_
      refine rg_q (q_assign (x := .d (.v _)) rfl) ?_
      refine rg_nil ?_
      refine aops_nil ?_
      change Awp _ _ _ _ _
      refine awp_region 3 mixed (by kernel_rfl) ?_
      refine rg_q (q_move (x := .d (.v _)) rfl) ?_
      refine rg_q (q_add rfl rfl (In64.mk (by omega) (by omega))) ?_
      refine rg_q (q_assign (x := .d (.v _)) rfl) ?_
      refine rg_nil ?_
      refine aops_nil ?_
      refine ⟨k + 1, by omega, by omega, ?_⟩
      exact le_head (ms := []) (by repeat (first | exact Out.head rfl rfl | (refine Out.put ?_ rfl))) ⟨(by rfl), (by (exact congrArg (fun b => T.d (.v (.string b))) hst)), trivial⟩ trivial rfl rfl rfl rfl
    ·
      (try simp only [nb, ne_eq] at hc3)
      have hkn : k = g.ro.toNat := by omega
      subst hkn
      refine awp_exit ?_
      change Awp _ _ _ _ _
      refine awp_seq ?_
      refine awp_region 2 mixed (by kernel_rfl) ?_
      refine rg_q (q_move (x := .d (.v _)) rfl) ?_
      refine rg_q (q_assign (x := .d (.v _)) rfl) ?_
      refine rg_nil ?_
      refine aops_nil ?_
      change Awp _ _ _ _ _
      refine awp_ret ?_
      refine ⟨_, (.cons (.tmp (by exact .d _)) .nil), ?_⟩
      rfl
end Go.Proofs.YtcdccdcbfbakfaaGreatDoor.Am.M
