/- Contracts over the abstract machine: chapter 9: the search. Conditions: none. -/
import Derived.Test.YthpggoophcdgnaaDoorS11
set_option linter.unusedVariables false
set_option linter.unusedSimpArgs false
-- mini
namespace Go.Proofs.YthpggoophcdgnaaDoor.Am.M
open Go

theorem sz96 : szB Tryd.prog 96 false 1 = true := by kernel_rfl
theorem sz97 : szB Tryd.prog 97 false 1 = true := by kernel_rfl
theorem sz81 : szB Tryd.prog 81 false 1 = true := by kernel_rfl
def ptR : Option (Option Mk) → D
  | some r => ptO r
  | none => .v (.pointer none)
theorem look_pt (k : Key) (es : Mem) : (lookV (.agg (stV k).toArray) (encM es) = none → ptR (lookM k es) = .v (.pointer none) ∧ (lookM k es).isSome = false) ∧ ∀ d, lookV (.agg (stV k).toArray) (encM es) = some d → ptR (lookM k es) = d ∧ (lookM k es).isSome = true := by
  rw [look_enc]
  cases lookM k es with
  | none => exact ⟨fun _ => ⟨rfl, rfl⟩, fun d h => by cases h⟩
  | some r => exact ⟨fun h => (by cases h), fun d h => (by cases h; exact ⟨rfl, rfl⟩)⟩
theorem loopM_at {g : Cl → Mem → Option Mk × Mem} {xs : List Cl} {k : Nat} {y : Cl} (h : xs[k]? = some y) (es : Mem) : loopM g (xs.drop k) es = match (g y es).1 with | some m => (some m, (g y es).2) | none => loopM g (xs.drop (k + 1)) (g y es).2 := by
  obtain ⟨hlt, rfl⟩ := List.getElem?_eq_some_iff.1 h
  rw [List.drop_eq_getElem_cons hlt]; rfl
def xC (isD : D) (l : List Rw) (b : Bx) (k : Nat) : List T := [.d (.sl 13 (l.map rwC)), .d (iv b.r0.1), .d (iv b.r0.2), .d (iv b.r1.1), .d (iv b.r1.2), .d (iv b.r2.1), .d (iv b.r2.2), .d (iv b.r3.1), .d (iv b.r3.2), .d (iv b.r4.1), .d (iv b.r4.2), .d (iv b.r5.1), .d (iv b.r5.2), .d (.fn (.func 50) [.pt [isD] 0]), T.mp k]
theorem xc_rg (isD : D) (l : List Rw) (b : Bx) (k : Nat) {c : Nat} (h : c < 6) : ((xC isD l b k).drop (0 + 1 + (c : Int).toNat * 2)).take 2 = (rgC (b.at c)).map T.d := by
  rcases lt6 h with rfl | rfl | rfl | rfl | rfl | rfl <;> rfl
def IsP (isD : D) (l : List Rw) (F : Nat → Nat → Bool) : Prop := ∀ one two, one < 2 ^ l.length → two < 2 ^ l.length → PCG Tryd.prog GW 50 [.v (.int .u64 ((one : Nat) : Int)), .v (.int .u64 ((two : Nat) : Int)), .pt [isD] 0] (.v (.bool (F one two)))
structure BxOk (b : Bx) : Prop where
  b : ∀ q, q < 6 → 0 ≤ (b.at q).1 ∧ (b.at q).2 ≤ 100000
def LstP (isD : D) (F : Nat → Nat → Bool) (l : List Rw) (b : Bx) (n c : Nat) : Prop := ∀ (one two : Nat) (es : Mem), one < 2 ^ l.length → two < 2 ^ l.length →
  PCSG Tryd.prog NGB GB 51 [.ref 0 0, .d (.agg [iv (c : Int), uv one, uv two])] [.tbox (xC isD l b 1), .mp (encM es) 0] (.d (ptO (lsM F l b n c one two es).1)) [.tbox (xC isD l b 1), .mp (encM (lsM F l b n c one two es).2) 0]
set_option maxRecDepth 100000 in
theorem least0_p (isD : D) (F : Nat → Nat → Bool) (l : List Rw) (b : Bx) (one two : Nat) (es : Mem) (hl : l.length ≤ 7) (hic : IsP isD l F) (h1 : one < 2 ^ l.length) (h2 : two < 2 ^ l.length) : PCSG Tryd.prog NGB GB 51 [.ref 0 0, .d (.agg [iv 6, uv one, uv two])] [.tbox (xC isD l b 1), .mp (encM es) 0] (.d (ptO (lsM F l b 0 6 one two es).1)) [.tbox (xC isD l b 1), .mp (encM (lsM F l b 0 6 one two es).2) 0] := by
  have h64 : 2 ^ l.length ≤ 18446744073709551616 := (Nat.pow_le_pow_right (by decide) (Nat.le_trans hl (by decide : 7 ≤ 64)))
  refine pcsg_of_awpY gb_low Tryd.func51 rfl Tryd.ntmps51 (rs := [.tmp 4]) Tryd.results51 (by simp) rfl fun w0 hrnd hGB hNG hmp hpd => ?_
  have hG : ∀ w, ExtM w0 w → GW w := fun w h => (hGB w h).1
  refine awp_seq ?_
  refine awp_region 0 mixed (by kernel_rfl) ?_
  refine rg_nil ?_
  refine aops_boxR rfl rfl rfl ?_
  refine aops_q rfl (q_box rfl (by exact .inr ⟨_, rfl⟩)) ?_
  refine aops_q rfl (q_assign (x := .d (.v _)) rfl) ?_
  refine aops_nil ?_
  change Awp _ _ _ _ _
  refine awp_seq ?_
  refine awp_seq ?_
  refine awp_region 3 mixed (by kernel_rfl) ?_
  refine rg_q (q_fieldAddr fld104_0 rfl) ?_
  refine rg_q (q_load sz3 rfl rfl) ?_
  refine rg_q (q_eql rfl rfl) ?_
  refine rg_nil ?_
  refine aops_nil ?_
  change Awp _ _ _ _ _
  refine awp_cond rfl (fun hc1 => ?_) (fun hc1 => ?_)
  ·
    (try simp only [nb, ne_eq] at hc1)
    refine awp_seq ?_
    refine awp_seq ?_
    refine awp_region 9 mixed (by kernel_rfl) ?_
    refine rg_q (q_load_tb (x := .ref _ _) sz95 rfl rfl rfl) ?_
    refine rg_q (q_nilCheck_ref rfl) ?_
    refine rg_q (q_fieldAddr_ref fld99_2 rfl) ?_
    refine rg_q (q_load_tb (x := .d _) sz96 rfl rfl rfl) ?_
    refine rg_q (q_fieldAddr fld104_1 rfl) ?_
    refine rg_q (q_load sz73 rfl rfl) ?_
    refine rg_q (q_fieldAddr fld104_2 rfl) ?_
    refine rg_q (q_load sz73 rfl rfl) ?_
    refine rg_q (q_callCG hG (cap := [.pt [isD] 0]) en50 rfl (.cons rfl (.cons rfl .nil)) (hic one two h1 h2)) ?_
    refine rg_nil ?_
    refine aops_nil ?_
    change Awp _ _ _ _ _
    refine awp_cond rfl (fun hc2 => ?_) (fun hc2 => ?_)
    ·
      (try simp only [nb, ne_eq] at hc2)
      have hz : lsM F l b 0 6 one two es = (some zMk, es) := by rw [lsM, if_pos hc2]
      refine awp_seq ?_
      refine awp_region 3 mixed (by kernel_rfl) ?_
      refine rg_q (q_buildA (cs := [_, _, _, _, _, _]) ar27 zr27 rfl .nil trivial rfl) ?_
      refine rg_q (q_box rfl (by exact .inr ⟨_, rfl⟩)) ?_
      refine rg_q (q_assign (x := .d (.pt _ _)) rfl) ?_
      refine rg_nil ?_
      refine aops_nil ?_
      change Awp _ _ _ _ _
      refine awp_ret ?_
      exact endx_mk (.inl rfl) _ [90, 91] (.cons (.tmp rfl) .nil) (by rw [hz]; rfl) (by repeat (first | exact trivial | refine ⟨(by rfl), ?_⟩)) rfl
    ·
      (try simp only [nb, ne_eq] at hc2)
      have hz : lsM F l b 0 6 one two es = (none, es) := by rw [lsM, if_neg (by rw [hc2]; decide)]
      refine awp_skip ?_
      change Awp _ _ _ _ _
      refine awp_seq ?_
      refine awp_region 1 mixed (by kernel_rfl) ?_
      refine rg_q (q_assign (x := .d (.v _)) rfl) ?_
      refine rg_nil ?_
      refine aops_nil ?_
      change Awp _ _ _ _ _
      refine awp_ret ?_
      exact endx_mk (.inl rfl) _ [90, 91] (.cons (.tmp rfl) .nil) (by rw [hz]; rfl) (by repeat (first | exact trivial | refine ⟨(by rfl), ?_⟩)) rfl
  ·
    cases hc1
set_option maxRecDepth 100000 in
theorem leastS_p (n c : Nat) (hnc : c + (n + 1) = 6) (isD : D) (F : Nat → Nat → Bool) (l : List Rw) (b : Bx) (one two : Nat) (es : Mem) (hl : l.length ≤ 7) (hic : IsP isD l F) (h1 : one < 2 ^ l.length) (h2 : two < 2 ^ l.length) (hb : BxOk b) (hok : RwsOk l) (ih : LstP isD F l b n (c + 1)) : PCSG Tryd.prog NGB GB 51 [.ref 0 0, .d (.agg [iv (c : Int), uv one, uv two])] [.tbox (xC isD l b 1), .mp (encM es) 0] (.d (ptO (lsM F l b (n + 1) c one two es).1)) [.tbox (xC isD l b 1), .mp (encM (lsM F l b (n + 1) c one two es).2) 0] := by
  have h64 : 2 ^ l.length ≤ 18446744073709551616 := (Nat.pow_le_pow_right (by decide) (Nat.le_trans hl (by decide : 7 ≤ 64)))
  have hcl6 : c < 6 := by omega
  obtain ⟨hb1, hb2⟩ := hb.b c hcl6
  have hor : one ||| two < 2 ^ l.length := Nat.or_lt_two_pow h1 h2
  have hlk := look_pt (c, one, two) es
  refine pcsg_of_awpY gb_low Tryd.func51 rfl Tryd.ntmps51 (rs := [.tmp 4]) Tryd.results51 (by simp) rfl fun w0 hrnd hGB hNG hmp hpd => ?_
  have hG : ∀ w, ExtM w0 w → GW w := fun w h => (hGB w h).1
  refine awp_seq ?_
  refine awp_region 0 mixed (by kernel_rfl) ?_
  refine rg_nil ?_
  refine aops_boxR rfl rfl rfl ?_
  refine aops_q rfl (q_box rfl (by exact .inr ⟨_, rfl⟩)) ?_
  refine aops_q rfl (q_assign (x := .d (.v _)) rfl) ?_
  refine aops_nil ?_
  change Awp _ _ _ _ _
  refine awp_seq ?_
  refine awp_seq ?_
  refine awp_region 3 mixed (by kernel_rfl) ?_
  refine rg_q (q_fieldAddr fld104_0 rfl) ?_
  refine rg_q (q_load sz3 rfl rfl) ?_
  refine rg_q (q_eql rfl rfl) ?_
  refine rg_nil ?_
  refine aops_nil ?_
  change Awp _ _ _ _ _
  refine awp_cond rfl (fun hc1 => ?_) (fun hc1 => ?_)
  ·
    exact absurd hc1 (by simp; omega)
  ·
    (try simp only [nb, ne_eq] at hc1)
    refine awp_skip ?_
    change Awp _ _ _ _ _
    refine awp_seq ?_
    refine awp_seq ?_
    refine awp_region 11 mixed (by kernel_rfl) ?_
    refine rg_q (q_load_tb (x := .ref _ _) sz95 rfl rfl rfl) ?_
    refine rg_q (q_nilCheck_ref rfl) ?_
    refine rg_q (q_fieldAddr_ref fld99_3 rfl) ?_
    refine rg_q (q_load_tb (x := .own _ _ _ _) sz97 rfl rfl rfl) ?_
    refine rg_q (q_loadA (ds := [_, _, _]) sz104 rfl rfl rfl) ?_
    refine rg_q (q_lookmap2 (ks := stV (c, one, two)) (kt := 104) (e := 100) (by kernel_rfl) keyB ⟨_, rfl⟩ (enc_keys es) zr100 rfl rfl rfl rfl hlk) ?_
    refine rg_q (q_move (x := .d (.tup _)) rfl) ?_
    refine rg_q (q_extract rfl rfl) ?_
    refine rg_q (q_extract rfl rfl) ?_
    refine rg_q (q_assign (x := .d _) rfl) ?_
    refine rg_q (q_assign (x := .d (.v _)) rfl) ?_
    refine rg_nil ?_
    refine aops_nil ?_
    change Awp _ _ _ _ _
    refine awp_seq ?_
    refine awp_region 1 mixed (by kernel_rfl) ?_
    refine rg_q (q_move (x := .d (.v _)) rfl) ?_
    refine rg_nil ?_
    refine aops_nil ?_
    change Awp _ _ _ _ _
    refine awp_cond rfl (fun hc6 => ?_) (fun hc6 => ?_)
    ·
      (try simp only [nb, ne_eq] at hc6)
      obtain ⟨r, hr⟩ := Option.isSome_iff_exists.1 hc6
      have hz := lsM_some (F := F) (l := l) (b := b) (n := n) hr
      rw [hr]
      refine awp_seq ?_
      refine awp_region 2 mixed (by kernel_rfl) ?_
      refine rg_q (q_move (x := .d _) rfl) ?_
      refine rg_q (q_assign (x := .d _) rfl) ?_
      refine rg_nil ?_
      refine aops_nil ?_
      change Awp _ _ _ _ _
      refine awp_ret ?_
      exact endx_mk (.inl rfl) _ [90, 91] (.cons (.tmp rfl) .nil) (by rw [hz]; rfl) (by repeat (first | exact trivial | refine ⟨(by first | rfl | (rw [hz]; rfl)), ?_⟩)) rfl
    ·
      (try simp only [nb, ne_eq] at hc6)
      have hno : lookM (c, one, two) es = none := by simpa using hc6
      refine awp_skip ?_
      change Awp _ _ _ _ _
      refine awp_seq ?_
      refine awp_region 0 mixed (by kernel_rfl) ?_
      refine rg_nil ?_
      refine aops_alloc zr100 rfl rfl rfl ?_
      refine aops_nil ?_
      change Awp _ _ _ _ _
      refine awp_seq ?_
      refine awp_seq ?_
      refine awp_region 19 mixed (by kernel_rfl) ?_
      refine rg_q (q_load_tb (x := .ref _ _) sz95 rfl rfl rfl) ?_
      refine rg_q (q_nilCheck_ref rfl) ?_
      refine rg_q (q_fieldAddr_ref fld99_0 rfl) ?_
      refine rg_q (q_load_tb (x := .d _) sz68 rfl rfl rfl) ?_
      refine rg_q (q_fieldAddr fld104_0 rfl) ?_
      refine rg_q (q_load sz3 rfl rfl) ?_
      refine rg_q (q_load_tb (x := .ref _ _) sz95 rfl rfl rfl) ?_
      refine rg_q (q_fieldAddr fld104_0 rfl) ?_
      refine rg_q (q_load sz3 rfl rfl) ?_
      refine rg_q (q_nilCheck_ref rfl) ?_
      refine rg_q (q_fieldAddr_ref fld99_1 rfl) ?_
      refine rg_q (q_indexAddr_aref ar41 rfl rfl (by omega) (by omega)) ?_
      refine rg_q (q_load_tbA (ds := rgC (b.at c)) sz39 rfl rfl (xc_rg isD l b _ hcl6) rfl rfl) ?_
      refine rg_q (q_fieldAddr fld104_1 rfl) ?_
      refine rg_q (q_load sz73 rfl rfl) ?_
      refine rg_q (q_fieldAddr fld104_2 rfl) ?_
      refine rg_q (q_load sz73 rfl rfl) ?_
      refine rg_q (q_orN rfl rfl (by omega) (by omega)) ?_
      refine rg_q (q_call en54 (.cons rfl (.cons rfl (.cons rfl (.cons rfl .nil)))) rfl (cells_p l c (b.at c) (one ||| two))) ?_
      refine rg_nil ?_
      refine aops_nil ?_
      change Awp _ _ _ _ _
      refine awp_block ?_
      refine awp_rangeCG (α := Cl) (β := Mem × Option Mk) (n := 90) (enc := encC) (items := cells l c (b.at c) (one ||| two)) 1000 [(2, .ref 2 0), (3, .d (.pt [.v (.int .i64 ((c : Int))), .v (.int .u64 ((one : Nat) : Int)), .v (.int .u64 ((two : Nat) : Int))] 0)), (7, .ref 7 0), (54, .d (.fn (.func 57) [.pt [.v (.int .i64 ((b.at c).1)), .v (.int .i64 ((b.at c).2))] 0, .pt [.v (.int .u64 ((one ||| two : Nat) : Int))] 0, .pt [.sl 13 (l.map rwC)] 0, .pt [.v (.int .i64 ((c : Int)))] 0]))] (fun x => [(90, .tbox (xC isD l b 91)), (91, .mp (encM x.1) 0), (2, .tbox [.ref 90 0]), (7, .box [ptO x.2])]) (fun k x => x.2 = none ∧ loopM (lsG F l b n c one two) (cells l c (b.at c) (one ||| two)) es = loopM (lsG F l b n c one two) ((cells l c (b.at c) (one ||| two)).drop k) x.1) (fun e x => e = .exit 0 ∧ loopM (lsG F l b n c one two) (cells l c (b.at c) (one ||| two)) es = (x.2, x.1)) (es, none) hrnd ?_ (.inr ⟨rfl, rfl⟩) en57 hG (cells_i l c (b.at c) (one ||| two) hok hcl6 hl hor ⟨hb1, hb2⟩) rfl (fun _ => rfl) rfl (fun _ => by repeat first | exact trivial | refine ⟨by exact D.Flat.aggF (by repeat first | exact trivial | refine ⟨.v _, ?_⟩), ?_⟩) (fun _ => rfl) ⟨rfl, rfl⟩ (fun h => by cases h) ?_ ?_ ?_
      · exact le_cst (fun k => k) _ _ rfl ⟨rfl, rfl, rfl, rfl, trivial⟩ ⟨rfl, rfl, rfl, rfl, trivial⟩ rfl (fun k b h => ⟨rfl, pin_has rfl (hpd k b h)⟩)
      ·
        intro w1 hw1 hx1 k x y hI hy
        obtain ⟨hI1, hI2⟩ := hI
        obtain ⟨hy1, hy2, hy3, hy4⟩ := cells_in hok hcl6 (List.mem_of_getElem? hy)
        have ha1 : one &&& y.inn < 2 ^ l.length := Nat.and_lt_two_pow _ hy4
        have ha2 : two &&& y.inn < 2 ^ l.length := Nat.and_lt_two_pow _ hy4
        have hat := loopM_at (g := lsG F l b n c one two) hy x.1
        refine awp_region 0 mixed (by kernel_rfl) ?_
        refine rg_nil ?_
        refine aops_alloc zr109 rfl rfl rfl ?_
        refine aops_store sz109 rfl rfl (by exact .inr ⟨_, rfl⟩) rfl rfl (by decide) rfl ?_
        refine aops_nil ?_
        refine ⟨rfl, fun w2 hw2 hx2 => ?_⟩
        have hG := fun w h => hG w (hx2.ext w h)
        have hGB := fun w h => hGB w (hx2.ext w h)
        have hNG := fun b h => hNG b (hx2.our b h)
        have hmw := hx2.mine (fun x k => allVar rfl k)
        refine awp_block ?_
        refine awp_seq ?_
        refine awp_region 15 mixed (by kernel_rfl) ?_
        refine rg_q (q_load_tb (x := .ref _ _) sz95 rfl rfl rfl) ?_
        refine rg_q (q_fieldAddr fld104_0 rfl) ?_
        refine rg_q (q_load sz3 rfl rfl) ?_
        refine rg_q (q_add rfl rfl (In64.mk (by omega) (by omega))) ?_
        refine rg_q (q_fieldAddr fld104_1 rfl) ?_
        refine rg_q (q_load sz73 rfl rfl) ?_
        refine rg_q (q_fieldAddr_ref fld109_1 rfl) ?_
        refine rg_q (q_load_ref sz73 rfl rfl rfl) ?_
        refine rg_q (q_andN rfl rfl (by omega) (by omega)) ?_
        refine rg_q (q_fieldAddr fld104_2 rfl) ?_
        refine rg_q (q_load sz73 rfl rfl) ?_
        refine rg_q (q_fieldAddr_ref fld109_1 rfl) ?_
        refine rg_q (q_load_ref sz73 rfl rfl rfl) ?_
        refine rg_q (q_andN rfl rfl (by omega) (by omega)) ?_
        refine rg_q (q_build (cs := [_, _, _]) pl104 zr104 rfl (.cons rfl (by exact .inl rfl) (.cons rfl (by exact .inl rfl) (.cons rfl (by exact .inl rfl) .nil))) ⟨⟨rfl, by decide⟩, ⟨rfl, by decide⟩, ⟨rfl, by decide⟩, trivial⟩ rfl) ?_
        refine rg_nil ?_
        refine aops_callLG hGB hNG [1090, 1091] [] en51 (ih (one &&& y.inn) (two &&& y.inn) x.1 ha1 ha2) (.cons rfl (.cons rfl .nil)) rfl rfl rfl (by repeat (first | exact trivial | refine ⟨rfl, ?_⟩)) (by repeat (exact trivial)) rfl ?_
        refine aops_q rfl (q_assign (x := .d _) rfl) ?_
        refine aops_nil ?_
        change Awp _ _ _ _ _
        refine awp_seq ?_
        refine awp_region 2 mixed (by kernel_rfl) ?_
        refine rg_q (q_move (x := .d _) rfl) ?_
        refine rg_q (q_neqO (by kernel_rfl) rfl) ?_
        refine rg_nil ?_
        refine aops_nil ?_
        change Awp _ _ _ _ _
        refine awp_cond rfl (fun hc12 => ?_) (fun hc12 => ?_)
        ·
          obtain ⟨m, hm⟩ := Option.isSome_iff_exists.1 hc12
          rw [hm]
          have hg1 : (lsG F l b n c one two y x.1).1 = some (m.set c y.lo) := by show Option.map _ _ = _; rw [hm]; rfl
          rw [hg1] at hat
          have hX1 : loopM (lsG F l b n c one two) (cells l c (b.at c) (one ||| two)) es = (some (m.set c y.lo), (lsM F l b n (c + 1) (one &&& y.inn) (two &&& y.inn) x.1).2) := hI2.trans hat
          refine awp_seq ?_
          refine awp_region 3 mixed (by kernel_rfl) ?_
          refine rg_q (q_move (x := .d (.pt _ _)) rfl) ?_
          refine rg_q (q_nilCheck rfl) ?_
          refine rg_q (q_loadA (ds := [_, _, _, _, _, _]) sz27 rfl rfl rfl) ?_
          refine rg_nil ?_
          refine aops_alloc zr27 rfl rfl rfl ?_
          refine aops_store sz27 rfl rfl (by exact .inr ⟨_, rfl⟩) rfl rfl (by decide) rfl ?_
          refine aops_nil ?_
          change Awp _ _ _ _ _
          refine awp_seq ?_
          refine awp_region 6 mixed (by kernel_rfl) ?_
          refine rg_q (q_fieldAddr fld104_0 rfl) ?_
          refine rg_q (q_load sz3 rfl rfl) ?_
          refine rg_q (q_fieldAddr_ref fld109_0 rfl) ?_
          refine rg_q (q_fieldAddr_ref fld39_0 rfl) ?_
          refine rg_q (q_load_ref sz3 rfl rfl rfl) ?_
          refine rg_q (q_indexAddr_aref ar27 rfl rfl (by omega) (by omega)) ?_
          refine rg_nil ?_
          refine aops_store (cs' := mkC (m.set c y.lo)) sz3 rfl rfl (by exact .inl rfl) rfl rfl (mk_room _ hcl6) (mk_set m _ hcl6) ?_
          refine aops_nil ?_
          change Awp _ _ _ _ _
          refine awp_seq ?_
          refine Awp.le (le_freezeW 10 10 0 (cs := mkC (m.set c y.lo)) rfl rfl rfl rfl hmw) ?_
          refine awp_region 0 mixed (by kernel_rfl) ?_
          refine rg_nil ?_
          refine aops_store sz100 rfl rfl (by exact .inl rfl) rfl rfl (by simp; done) rfl ?_
          refine aops_nil ?_
          change Awp _ _ _ _ _
          refine awp_exit ?_
          refine .inr ⟨rfl, ((lsM F l b n (c + 1) (one &&& y.inn) (two &&& y.inn) x.1).2, some (m.set c y.lo)), ⟨rfl, hX1⟩, ?_⟩
          exact le_round [] _ hw2 rfl ⟨(by rfl), (by rfl), (by rfl), (by rfl), trivial⟩ rfl
        ·
          have hm : (lsM F l b n (c + 1) (one &&& y.inn) (two &&& y.inn) x.1).1 = none := by simpa using hc12
          have hg1 : (lsG F l b n c one two y x.1).1 = none := by show Option.map _ _ = _; rw [hm]; rfl
          rw [hg1] at hat
          have hX1 : loopM (lsG F l b n c one two) (cells l c (b.at c) (one ||| two)) es = loopM (lsG F l b n c one two) ((cells l c (b.at c) (one ||| two)).drop (k + 1)) (lsM F l b n (c + 1) (one &&& y.inn) (two &&& y.inn) x.1).2 := hI2.trans hat
          refine awp_skip ?_
          refine .inl ⟨rfl, ((lsM F l b n (c + 1) (one &&& y.inn) (two &&& y.inn) x.1).2, none), ⟨rfl, hX1⟩, ?_⟩
          exact le_round [] _ hw2 rfl ⟨(by rfl), (by rfl), (by rfl), (by (show Site.box [_] = Site.box [_]; rw [hI1])), trivial⟩ rfl
      ·
        intro x hI
        obtain ⟨hI1, hI2⟩ := hI
        have hfin : loopM (lsG F l b n c one two) (cells l c (b.at c) (one ||| two)) es = (x.2, x.1) := by rw [hI2, List.drop_length, hI1]; rfl
        have hz := lsM_none hno hfin
        have hno2 : lookV (.agg (stV (c, one, two)).toArray) (encM x.1) = none := by rw [look_enc, lsG_keep hno hfin]; rfl
        change Awp _ _ _ _ _
        refine awp_seq ?_
        refine awp_region 6 mixed (by kernel_rfl) ?_
        refine rg_q (q_load_tb (x := .ref _ _) sz95 rfl rfl rfl) ?_
        refine rg_q (q_nilCheck_ref rfl) ?_
        refine rg_q (q_fieldAddr_ref fld99_3 rfl) ?_
        refine rg_q (q_load_tb (x := .own _ _ _ _) sz97 rfl rfl rfl) ?_
        refine rg_q (q_loadA (ds := [_, _, _]) sz104 rfl rfl rfl) ?_
        refine rg_q (q_load_ref sz100 rfl rfl rfl) ?_
        refine rg_nil ?_
        refine aops_mapUpdate2 (ks := stV (c, one, two)) (kt := 104) (e := 100) (by kernel_rfl) keyB ⟨_, rfl⟩ (enc_keys _) rfl rfl rfl rfl hno2 ?_
        refine aops_nil ?_
        change Awp _ _ _ _ _
        refine awp_seq ?_
        refine awp_region 2 mixed (by kernel_rfl) ?_
        refine rg_q (q_load_ref sz100 rfl rfl rfl) ?_
        refine rg_q (q_assign (x := .d _) rfl) ?_
        refine rg_nil ?_
        refine aops_nil ?_
        change Awp _ _ _ _ _
        refine awp_ret ?_
        exact endx_mk (.inl rfl) _ [90, 91] (.cons (.tmp rfl) .nil) (by rw [hz]; rfl) (by repeat (first | exact trivial | refine ⟨(by first | rfl | (rw [hz, encM_app]; rfl)), ?_⟩)) rfl
      ·
        rintro e x (⟨rfl, hX⟩)
        ·
          have hfin := hX
          have hz := lsM_none hno hfin
          have hno2 : lookV (.agg (stV (c, one, two)).toArray) (encM x.1) = none := by rw [look_enc, lsG_keep hno hfin]; rfl
          change Awp _ _ _ _ _
          refine awp_seq ?_
          refine awp_region 6 mixed (by kernel_rfl) ?_
          refine rg_q (q_load_tb (x := .ref _ _) sz95 rfl rfl rfl) ?_
          refine rg_q (q_nilCheck_ref rfl) ?_
          refine rg_q (q_fieldAddr_ref fld99_3 rfl) ?_
          refine rg_q (q_load_tb (x := .own _ _ _ _) sz97 rfl rfl rfl) ?_
          refine rg_q (q_loadA (ds := [_, _, _]) sz104 rfl rfl rfl) ?_
          refine rg_q (q_load_ref sz100 rfl rfl rfl) ?_
          refine rg_nil ?_
          refine aops_mapUpdate2 (ks := stV (c, one, two)) (kt := 104) (e := 100) (by kernel_rfl) keyB ⟨_, rfl⟩ (enc_keys _) rfl rfl rfl rfl hno2 ?_
          refine aops_nil ?_
          change Awp _ _ _ _ _
          refine awp_seq ?_
          refine awp_region 2 mixed (by kernel_rfl) ?_
          refine rg_q (q_load_ref sz100 rfl rfl rfl) ?_
          refine rg_q (q_assign (x := .d _) rfl) ?_
          refine rg_nil ?_
          refine aops_nil ?_
          change Awp _ _ _ _ _
          refine awp_ret ?_
          exact endx_mk (.inl rfl) _ [90, 91] (.cons (.tmp rfl) .nil) (by rw [hz]; rfl) (by repeat (first | exact trivial | refine ⟨(by first | rfl | (rw [hz, encM_app]; rfl)), ?_⟩)) rfl
end Go.Proofs.YthpggoophcdgnaaDoor.Am.M
