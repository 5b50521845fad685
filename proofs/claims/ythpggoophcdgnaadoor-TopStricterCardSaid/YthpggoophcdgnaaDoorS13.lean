/- Contracts over the abstract machine: chapter 9: find, Answer. Conditions: none. -/
import Derived.Test.YthpggoophcdgnaaDoorS12
set_option linter.unusedVariables false
set_option linter.unusedSimpArgs false
-- mini
namespace Go.Proofs.YthpggoophcdgnaaDoor.Am.M
open Go

theorem least_ok {isD : D} {F : Nat → Nat → Bool} {l : List Rw} {b : Bx} (hl : l.length ≤ 7) (hic : IsP isD l F) (hb : BxOk b) (hok : RwsOk l) : ∀ (n c : Nat), c + n = 6 → LstP isD F l b n c
  | 0, c, h => fun one two es h1 h2 => by
    have : c = 6 := by omega
    subst this
    exact least0_p isD F l b one two es hl hic h1 h2
  | n + 1, c, h => fun one two es h1 h2 => leastS_p n c h isD F l b one two es hl hic h1 h2 hb hok (least_ok hl hic hb hok n (c + 1) (by omega))
def fndR (F : Nat → Bool) (l : List Rw) (b : Bx) : Option Mk := (lsM (fun one _ => F one) l b 6 0 (2 ^ l.length - 1) 0 []).1
def fndM (F : Nat → Bool) (l : List Rw) (b : Bx) : Mk := (fndR F l b).getD zMk
set_option maxRecDepth 100000 in
theorem find_p (isD : D) (hsc : isD.sc = true) (F : Nat → Bool) (l : List Rw) (b : Bx) (hl : l.length ≤ 7) (hic : IsP isD l fun one _ => F one) (hb : BxOk b) (hok : RwsOk l) : PCG Tryd.prog GB 33 [.sl 13 (l.map rwC), .agg (bxC b), isD] (.tup [.agg (mkC (fndM F l b)), .v (.bool ((fndR F l b).isSome))]) := by
  have hcs : isD.cells = [isD] := by cases isD <;> first | rfl | cases hsc
  have hev : 2 ^ l.length - 1 < 2 ^ l.length := Nat.sub_lt (Nat.pow_pos (by decide)) (by decide)
  have h0p : 0 < 2 ^ l.length := Nat.pow_pos (by decide)
  have hlst := least_ok hl hic hb hok 6 0 rfl (2 ^ l.length - 1) 0 [] hev h0p
  refine pcg_of_awpO gb_low Tryd.func33 rfl Tryd.ntmps33 (rs := [.cell 6 27, .tmp 7]) Tryd.results33 (by simp) fun w0 hmine hrnd hpn hGB hNG => ?_
  have hG : ∀ w, ExtM w0 w → GW w := fun w h => (hGB w h).1
  refine awp_seq ?_
  refine awp_region 2 mixed (by kernel_rfl) ?_
  refine rg_q (q_box rfl (by exact .inr ⟨_, rfl⟩)) ?_
  refine rg_q (q_box rfl (.inl hsc)) ?_
  refine rg_nil ?_
  refine aops_alloc zr27 rfl rfl rfl ?_
  refine aops_q rfl (q_assign (x := .d (.v _)) rfl) ?_
  refine aops_nil ?_
  change Awp _ _ _ _ _
  refine awp_seq ?_
  rw [hcs]
  refine awp_region 3 mixed (by kernel_rfl) ?_
  refine rg_q (q_move (x := .d (.sl _ _)) rfl) ?_
  refine rg_q (q_loadA (ds := [_, _, _, _, _, _, _, _, _, _, _, _]) sz41 rfl rfl rfl) ?_
  refine rg_q (q_makeFunc (.cons rfl .nil)) ?_
  refine rg_nil ?_
  refine aops_makeMap rfl rfl ?_
  refine aops_buildbox (cs := [_, _, _, _, _, _, _, _, _, _, _, _, _, _, _]) pl99 zr99 rfl (by exact .one rfl rfl (by exact .agg rfl (by exact .one rfl rfl (by exact .one rfl rfl .nil)))) (by exact ⟨⟨rfl, by decide⟩, ⟨rfl, by decide⟩, ⟨rfl, by decide⟩, ⟨rfl, by decide⟩, trivial⟩) (by rfl) rfl rfl rfl ?_
  refine aops_q rfl (q_assign (x := .ref _ _) rfl) ?_
  refine aops_nil ?_
  change Awp _ _ _ _ _
  refine awp_seq ?_
  refine awp_region 4 mixed (by kernel_rfl) ?_
  refine rg_q (q_move (x := .ref _ _) rfl) ?_
  refine rg_q (q_move (x := .d (.sl _ _)) rfl) ?_
  refine rg_q (q_call en52 (.cons rfl .nil) rfl (everything_p l (by omega))) ?_
  refine rg_q (q_build (cs := [_, _, _]) pl104 zr104 rfl (.cons rfl (by exact .inl rfl) .nil) ⟨⟨rfl, by decide⟩, trivial⟩ rfl) ?_
  refine rg_nil ?_
  refine aops_callLG hGB hNG [15, 13] [] en51 (hlst) (.cons rfl (.cons rfl .nil)) rfl rfl rfl (by repeat (first | exact trivial | refine ⟨rfl, ?_⟩)) (by repeat (exact trivial)) rfl ?_
  refine aops_q rfl (q_assign (x := .d _) rfl) ?_
  refine aops_nil ?_
  change Awp _ _ _ _ _
  refine awp_seq ?_
  refine awp_seq ?_
  refine awp_region 2 mixed (by kernel_rfl) ?_
  refine rg_q (q_move (x := .d _) rfl) ?_
  refine rg_q (q_eqlO (by kernel_rfl) rfl) ?_
  refine rg_nil ?_
  refine aops_nil ?_
  change Awp _ _ _ _ _
  refine awp_cond rfl (fun hc3 => ?_) (fun hc3 => ?_)
  ·
    have hn : fndR F l b = none := by simpa [fndR] using hc3
    have hz : fndM F l b = zMk := by unfold fndM; rw [hn]; rfl
    refine awp_seq ?_
    refine awp_region 1 mixed (by kernel_rfl) ?_
    refine rg_q (q_buildA (cs := [_, _, _, _, _, _]) ar27 zr27 rfl .nil trivial rfl) ?_
    refine rg_nil ?_
    refine aops_store sz27 rfl rfl (by exact .inr ⟨_, rfl⟩) rfl rfl (by decide) rfl ?_
    refine aops_q rfl (q_assign (x := .d (.v _)) rfl) ?_
    refine aops_nil ?_
    change Awp _ _ _ _ _
    refine awp_ret ?_
    refine ⟨_, (.cons (.cellA rfl rfl sz27 rfl) (.cons (.tmp (by exact .d _)) .nil)), ?_⟩
    rw [hz, hn]; rfl
  ·
    obtain ⟨m, hm⟩ : ∃ m, fndR F l b = some m := Option.isSome_iff_exists.1 (by simpa [fndR] using hc3)
    have hz : fndM F l b = m := by unfold fndM; rw [hm]; rfl
    rw [show (lsM (fun one _ => F one) l b 6 0 (2 ^ l.length - 1) 0 []).1 = some m from hm]
    refine awp_skip ?_
    change Awp _ _ _ _ _
    refine awp_seq ?_
    refine awp_region 3 mixed (by kernel_rfl) ?_
    refine rg_q (q_move (x := .d (.pt _ _)) rfl) ?_
    refine rg_q (q_nilCheck rfl) ?_
    refine rg_q (q_loadA (ds := [_, _, _, _, _, _]) sz27 rfl rfl rfl) ?_
    refine rg_nil ?_
    refine aops_store sz27 rfl rfl (by exact .inr ⟨_, rfl⟩) rfl rfl (by decide) rfl ?_
    refine aops_q rfl (q_assign (x := .d (.v _)) rfl) ?_
    refine aops_nil ?_
    change Awp _ _ _ _ _
    refine awp_ret ?_
    refine ⟨_, (.cons (.cellA rfl rfl sz27 rfl) (.cons (.tmp (by exact .d _)) .nil)), ?_⟩
    rw [hz, hm]; rfl

section
variable {P : Program} {w0 : Cx} {n : Nat} {s : Nat → Site} {ev : Operand → T} {dst : Option Tmp} {ty : TypeId} {pos : String} {after : Array Edge} {g : Option (Nat × Bool)}
theorem q_callMG {G : World → Prop} (hG : ∀ w, ExtM w0 w → G w) {fv : Operand} {f : FuncId} {ys : List Operand} {at_ : Array TypeId} {cap ds : List D} {r : D} (he : enB P f = true) (hf : ev fv = .d (.mfn (.func f) cap)) (ha : ArgsD ev ys ds) (hr : PCG P G f (cap ++ ds) r) :
    QOp P w0 n s ev ⟨dst, .call ⟨.value fv, ys.toArray, at_⟩, ty, pos, after, g⟩ (.d r) := by
  intro st a w ⟨blk, val, hh⟩ hs hn hev hd
  obtain ⟨blk', hy, hsite, _⟩ := QOp.core hh hs hev
  have hargs := args_rep hy ha
  obtain ⟨vs, hv, hcap⟩ := mfn_inv (show Rep w _ (.mfn (.func f) cap) (a.eval fv) by have := hy fv; rw [hf] at this; exact this)
  refine ow_of_wp (fun c hc => by cases hc) ?_
  unfold Oper.wp
  rw [run_callValueM rfl hv he]
  have hc := hr w (okOf w0 blk) (vs ++ ys.map a.eval) (hG w hh.ext) (hcap.append hargs)
  have harr : ((vs ++ ys.map a.eval).toArray : Array Value) = vs.toArray ++ ys.toArray.map a.eval := by simp
  rw [harr] at hc
  refine hc.mono ?_
  rintro e w' ⟨v, rfl, hE, hR⟩
  refine ⟨blk, val, (hh.ext' hE).put dst (.d r) v (fun d h => by rw [hn]; exact hd d h) ?_⟩
  refine Rep.ok hR fun b _ hb => ?_
  rcases hb with hb | hb
  · exact hb
  · exact ⟨.inr (Nat.le_trans hh.ext.size hb), fun k hk => by have := (hh.new k b hk).2; omega⟩
end
set_option maxRecDepth 100000 in
theorem answer1_p (l : List Rw) (s : Nat) (hl : l.length ≤ 7) (hs : s < 2 ^ l.length) : PCG Tryd.prog GW 35 [.v (.int .u64 ((s : Nat) : Int)), .pt [.sl 13 (l.map rwC)] 0] (.v (.bool (!accB l s))) := by
  have hs64 : s < 18446744073709551616 := Nat.lt_of_lt_of_le hs (Nat.pow_le_pow_right (by decide) (Nat.le_trans hl (by decide : 7 ≤ 64)))
  have hcz : s ≠ 0 → ctz s < l.length := fun h => ctz_lt h hs (by omega)
  refine pcg_of_awpN gw_keep Tryd.func35 rfl Tryd.ntmps35 (rs := [.tmp 3]) Tryd.results35 (by simp) fun w0 hmine hrnd hpn hG => ?_
  refine awp_seq ?_
  refine awp_region 1 mixed (by kernel_rfl) ?_
  refine rg_q (q_assign (x := .d (.v _)) rfl) ?_
  refine rg_nil ?_
  refine aops_nil ?_
  change Awp _ _ _ _ _
  refine awp_seq ?_
  refine awp_region 5 mixed (by kernel_rfl) ?_
  refine rg_q (q_load sz68 rfl rfl) ?_
  refine rg_q (q_move (x := .d (.v _)) rfl) ?_
  refine rg_q (q_callG en34 (.cons rfl (.cons rfl .nil)) rfl hG (accepts_p l s hs64 hcz)) ?_
  refine rg_q (q_not rfl) ?_
  refine rg_q (q_assign (x := .d (.v _)) rfl) ?_
  refine rg_nil ?_
  refine aops_nil ?_
  change Awp _ _ _ _ _
  refine awp_ret ?_
  refine ⟨_, (.cons (.tmp (by exact .d _)) .nil), ?_⟩
  rfl
set_option maxRecDepth 100000 in
theorem find1a_p (l : List Rw) (s : Nat) (hl : l.length ≤ 7) (hs : s < 2 ^ l.length) (two : Nat) : PCG Tryd.prog GW 50 [.v (.int .u64 ((s : Nat) : Int)), .v (.int .u64 ((two : Nat) : Int)), .pt [.mfn (.func 34) [.sl 13 (l.map rwC)]] 0] (.v (.bool (accB l s))) := by
  have hs64 : s < 18446744073709551616 := Nat.lt_of_lt_of_le hs (Nat.pow_le_pow_right (by decide) (Nat.le_trans hl (by decide : 7 ≤ 64)))
  have hcz : s ≠ 0 → ctz s < l.length := fun h => ctz_lt h hs (by omega)
  refine pcg_of_awpN gw_keep Tryd.func50 rfl Tryd.ntmps50 (rs := [.tmp 5]) Tryd.results50 (by simp) fun w0 hmine hrnd hpn hG => ?_
  refine awp_seq ?_
  refine awp_region 1 mixed (by kernel_rfl) ?_
  refine rg_q (q_assign (x := .d (.v _)) rfl) ?_
  refine rg_nil ?_
  refine aops_nil ?_
  change Awp _ _ _ _ _
  refine awp_seq ?_
  refine awp_region 4 mixed (by kernel_rfl) ?_
  refine rg_q (q_load sz81 rfl rfl) ?_
  refine rg_q (q_move (x := .d (.v _)) rfl) ?_
  refine rg_q (q_callMG hG (cap := [.sl 13 (l.map rwC)]) en34 rfl (.cons rfl .nil) (accepts_p l s hs64 hcz)) ?_
  refine rg_q (q_assign (x := .d (.v _)) rfl) ?_
  refine rg_nil ?_
  refine aops_nil ?_
  change Awp _ _ _ _ _
  refine awp_ret ?_
  refine ⟨_, (.cons (.tmp (by exact .d _)) .nil), ?_⟩
  rfl
set_option maxRecDepth 100000 in
theorem find1b_p (l : List Rw) (s : Nat) (hl : l.length ≤ 7) (hs : s < 2 ^ l.length) (two : Nat) : PCG Tryd.prog GW 50 [.v (.int .u64 ((s : Nat) : Int)), .v (.int .u64 ((two : Nat) : Int)), .pt [.fn (.func 35) [.pt [.sl 13 (l.map rwC)] 0]] 0] (.v (.bool (!accB l s))) := by
  have hs64 : s < 18446744073709551616 := Nat.lt_of_lt_of_le hs (Nat.pow_le_pow_right (by decide) (Nat.le_trans hl (by decide : 7 ≤ 64)))
  have hcz : s ≠ 0 → ctz s < l.length := fun h => ctz_lt h hs (by omega)
  refine pcg_of_awpN gw_keep Tryd.func50 rfl Tryd.ntmps50 (rs := [.tmp 5]) Tryd.results50 (by simp) fun w0 hmine hrnd hpn hG => ?_
  refine awp_seq ?_
  refine awp_region 1 mixed (by kernel_rfl) ?_
  refine rg_q (q_assign (x := .d (.v _)) rfl) ?_
  refine rg_nil ?_
  refine aops_nil ?_
  change Awp _ _ _ _ _
  refine awp_seq ?_
  refine awp_region 4 mixed (by kernel_rfl) ?_
  refine rg_q (q_load sz81 rfl rfl) ?_
  refine rg_q (q_move (x := .d (.v _)) rfl) ?_
  refine rg_q (q_callCG hG (cap := [.pt [.sl 13 (l.map rwC)] 0]) en35 rfl (.cons rfl .nil) (answer1_p l s hl hs)) ?_
  refine rg_q (q_assign (x := .d (.v _)) rfl) ?_
  refine rg_nil ?_
  refine aops_nil ?_
  change Awp _ _ _ _ _
  refine awp_ret ?_
  refine ⟨_, (.cons (.tmp (by exact .d _)) .nil), ?_⟩
  rfl

theorem isA {l : List Rw} (hl : l.length ≤ 7) : IsP (.mfn (.func 34) [.sl 13 (l.map rwC)]) l fun one _ => accB l one := fun one two h _ => find1a_p l one hl h two
theorem isB {l : List Rw} (hl : l.length ≤ 7) : IsP (.fn (.func 35) [.pt [.sl 13 (l.map rwC)] 0]) l fun one _ => !accB l one := fun one two h _ => find1b_p l one hl h two
def ansS (some others : Bool) : Int := if (some && others) = true then 1 else if some = true then 2 else 0
def mk2 (a b : Mk) : List D := [iv a.x0, iv a.x1, iv a.x2, iv a.x3, iv a.x4, iv a.x5, iv b.x0, iv b.x1, iv b.x2, iv b.x3, iv b.x4, iv b.x5]
def ansR (c : Cd) (b : Bx) : Int := ansS (fndR (accB c.all) c.all b).isSome (fndR (fun s => !accB c.all s) c.all b).isSome
set_option maxRecDepth 100000 in
theorem answerOf_p (a b : Bool) : PC Tryd.prog 36 [.v (.bool (a)), .v (.bool (b))] (.v (.int .i64 (ansS a b))) := by
  refine pc_of_awp Tryd.func36 rfl Tryd.ntmps36 (rs := [.tmp 4]) Tryd.results36 (by simp) fun w0 => ?_
  refine awp_seq ?_
  refine awp_region 1 mixed (by kernel_rfl) ?_
  refine rg_q (q_assign (x := .d (.v _)) rfl) ?_
  refine rg_nil ?_
  refine aops_nil ?_
  change Awp _ _ _ _ _
  refine awp_seq ?_
  refine awp_block ?_
  refine awp_seq ?_
  refine awp_region 5 mixed (by kernel_rfl) ?_
  refine rg_q (q_move (x := .d (.v _)) rfl) ?_
  refine rg_q (q_move (x := .d (.v _)) rfl) ?_
  refine rg_g rfl rfl (fun hG => (q_move (x := .d (.v _)) rfl)) ?_
  refine rg_pick rfl rfl rfl rfl rfl rfl ?_
  refine rg_q (q_assign (x := .d (.v _)) rfl) ?_
  refine rg_nil ?_
  refine aops_nil ?_
  change Awp _ _ _ _ _
  refine awp_cond rfl (fun hc1 => ?_) (fun hc1 => ?_)
  ·
    have hz : ansS a b = 1 := if_pos (by simpa [bif_and] using hc1)
    refine awp_seq ?_
    refine awp_region 1 mixed (by kernel_rfl) ?_
    refine rg_q (q_assign (x := .d (.v _)) rfl) ?_
    refine rg_nil ?_
    refine aops_nil ?_
    change Awp _ _ _ _ _
    refine awp_ret ?_
    refine ⟨_, (.cons (.tmp (by exact .d _)) .nil), ?_⟩
    rw [hz]; rfl
  ·
    have e : (a && b) = false := by simpa [bif_and] using hc1
    have hn : ¬ (a && b) = true := by rw [e]; decide
    refine awp_seq ?_
    refine awp_region 2 mixed (by kernel_rfl) ?_
    refine rg_q (q_move (x := .d (.v _)) rfl) ?_
    refine rg_q (q_assign (x := .d (.v _)) rfl) ?_
    refine rg_nil ?_
    refine aops_nil ?_
    change Awp _ _ _ _ _
    refine awp_cond rfl (fun hc3 => ?_) (fun hc3 => ?_)
    ·
      have hz : ansS a b = 2 := (if_neg hn).trans (if_pos hc3)
      refine awp_seq ?_
      refine awp_region 1 mixed (by kernel_rfl) ?_
      refine rg_q (q_assign (x := .d (.v _)) rfl) ?_
      refine rg_nil ?_
      refine aops_nil ?_
      change Awp _ _ _ _ _
      refine awp_ret ?_
      refine ⟨_, (.cons (.tmp (by exact .d _)) .nil), ?_⟩
      rw [hz]; rfl
    ·
      have hz : ansS a b = 0 := (if_neg hn).trans (if_neg (by rw [hc3]; decide))
      refine awp_skip ?_
      change Awp _ _ _ _ _
      refine awp_seq ?_
      refine awp_region 1 mixed (by kernel_rfl) ?_
      refine rg_q (q_assign (x := .d (.v _)) rfl) ?_
      refine rg_nil ?_
      refine aops_nil ?_
      change Awp _ _ _ _ _
      refine awp_ret ?_
      refine ⟨_, (.cons (.tmp (by exact .d _)) .nil), ?_⟩
      rw [hz]; rfl
set_option maxRecDepth 100000 in
theorem answer_p (c : Cd) (hc : CdOk c) (b : Bx) (hb : BxOk b) (h2 : ckBx b = 0) : PCG Tryd.prog GB 14 [.agg (cdC c), .agg (bxC b)] (.tup [.v (.int .i64 (ansR c b)), .agg (mk2 (fndM (accB c.all) c.all b) (fndM (fun s => !accB c.all s) c.all b)), .v (.int .i64 (0))]) := by
  obtain ⟨hx, hr, hn, hl7, h1, hok⟩ := hc
  have hal : c.all.length = c.ex.length + c.ro.length := List.length_append
  refine pcg_of_awpO gb_low Tryd.func14 rfl Tryd.ntmps14 (rs := [.tmp 4, .cell 5 51, .tmp 6]) Tryd.results14 (by simp) fun w0 hmine hrnd hpn hGB hNG => ?_
  have hG : ∀ w, ExtM w0 w → GW w := fun w h => (hGB w h).1
  refine awp_seq ?_
  refine awp_region 3 mixed (by kernel_rfl) ?_
  refine rg_q (q_box rfl (by exact .inr ⟨_, rfl⟩)) ?_
  refine rg_q (q_box rfl (by exact .inr ⟨_, rfl⟩)) ?_
  refine rg_q (q_assign (x := .d (.v _)) rfl) ?_
  refine rg_nil ?_
  refine aops_alloc zr51 rfl rfl rfl ?_
  refine aops_q rfl (q_assign (x := .d (.v _)) rfl) ?_
  refine aops_nil ?_
  change Awp _ _ _ _ _
  refine awp_seq ?_
  refine awp_region 5 mixed (by kernel_rfl) ?_
  refine rg_q (q_loadA (ds := [_, _, _]) sz24 rfl rfl rfl) ?_
  refine rg_q (q_callG en27 (.cons rfl .nil) rfl hG (open_p _ (by omega) (by omega) (by omega))) ?_
  refine rg_q (q_move (x := .d (.tup _)) rfl) ?_
  refine rg_q (q_extract rfl rfl) ?_
  refine rg_q (q_extract rfl rfl) ?_
  refine rg_nil ?_
  refine aops_allocD zr68 rfl sz68 rfl rfl (by exact .inl rfl) rfl rfl ?_
  refine aops_q rfl (q_assign (x := .d (.v _)) rfl) ?_
  refine aops_nil ?_
  change Awp _ _ _ _ _
  refine awp_seq ?_
  refine awp_seq ?_
  refine awp_region 2 mixed (by kernel_rfl) ?_
  refine rg_q (q_move (x := .d (.v _)) rfl) ?_
  refine rg_q (q_eql rfl rfl) ?_
  refine rg_nil ?_
  refine aops_nil ?_
  change Awp _ _ _ _ _
  refine awp_cond rfl (fun hc2 => ?_) (fun hc2 => ?_)
  ·
    (try simp only [nb, ne_eq] at hc2)
    refine awp_region 3 mixed (by kernel_rfl) ?_
    refine rg_q (q_loadA (ds := [_, _, _, _, _, _, _, _, _, _, _, _]) sz41 rfl rfl rfl) ?_
    refine rg_q (q_callG en32 (.cons rfl .nil) rfl hG (checkBox_p _)) ?_
    refine rg_q (q_assign (x := .d (.v _)) rfl) ?_
    refine rg_nil ?_
    refine aops_nil ?_
    change Awp _ _ _ _ _
    refine awp_seq ?_
    refine awp_seq ?_
    refine awp_region 2 mixed (by kernel_rfl) ?_
    refine rg_q (q_move (x := .d (.v _)) rfl) ?_
    refine rg_q (q_neq rfl rfl) ?_
    refine rg_nil ?_
    refine aops_nil ?_
    change Awp _ _ _ _ _
    refine awp_cond rfl (fun hc4 => ?_) (fun hc4 => ?_)
    ·
      exact absurd h2 (by simpa using hc4)
    ·
      (try simp only [nb, ne_eq] at hc4)
      refine awp_skip ?_
      change Awp _ _ _ _ _
      refine awp_seq ?_
      refine awp_region 8 mixed (by kernel_rfl) ?_
      refine rg_q (q_load sz68 rfl rfl) ?_
      refine rg_q (q_loadA (ds := [_, _, _, _, _, _, _, _, _, _, _, _]) sz41 rfl rfl rfl) ?_
      refine rg_q (q_load sz68 rfl rfl) ?_
      refine rg_q (q_makeMfn (.cons rfl .nil)) ?_
      refine rg_q (q_callG en33 (.cons rfl (.cons rfl (.cons rfl .nil))) rfl hGB (find_p (.mfn (.func 34) [.sl 13 (c.all.map rwC)]) rfl (accB c.all) c.all b hl7 (isA hl7) hb hok)) ?_
      refine rg_q (q_move (x := .d (.tup _)) rfl) ?_
      refine rg_q (q_extract rfl rfl) ?_
      refine rg_q (q_extract rfl rfl) ?_
      refine rg_nil ?_
      refine aops_allocD zr27 rfl sz27 rfl rfl (by exact .inr ⟨_, rfl⟩) rfl rfl ?_
      refine aops_q rfl (q_assign (x := .d (.v _)) rfl) ?_
      refine aops_nil ?_
      change Awp _ _ _ _ _
      refine awp_seq ?_
      refine awp_region 7 mixed (by kernel_rfl) ?_
      refine rg_q (q_load sz68 rfl rfl) ?_
      refine rg_q (q_loadA (ds := [_, _, _, _, _, _, _, _, _, _, _, _]) sz41 rfl rfl rfl) ?_
      refine rg_q (q_makeFunc (.cons rfl .nil)) ?_
      refine rg_q (q_callG en33 (.cons rfl (.cons rfl (.cons rfl .nil))) rfl hGB (find_p (.fn (.func 35) [.pt [.sl 13 (c.all.map rwC)] 0]) rfl (fun s => !accB c.all s) c.all b hl7 (isB hl7) hb hok)) ?_
      refine rg_q (q_move (x := .d (.tup _)) rfl) ?_
      refine rg_q (q_extract rfl rfl) ?_
      refine rg_q (q_extract rfl rfl) ?_
      refine rg_nil ?_
      refine aops_allocD zr27 rfl sz27 rfl rfl (by exact .inr ⟨_, rfl⟩) rfl rfl ?_
      refine aops_q rfl (q_assign (x := .d (.v _)) rfl) ?_
      refine aops_nil ?_
      change Awp _ _ _ _ _
      refine awp_seq ?_
      refine awp_regionM 9 [none, none, none, none, none, none, none, some 5, none] mixed (by kernel_rfl) ?_
      refine rgm_q rfl (q_move (x := .d (.v _)) rfl) ?_
      refine rgm_q rfl (q_move (x := .d (.v _)) rfl) ?_
      refine rgm_q rfl (q_call en36 (.cons rfl (.cons rfl .nil)) rfl (answerOf_p _ _)) ?_
      refine rgm_q rfl (q_loadA (ds := [_, _, _, _, _, _]) sz27 rfl rfl rfl) ?_
      refine rgm_q rfl (q_loadA (ds := [_, _, _, _, _, _]) sz27 rfl rfl rfl) ?_
      refine rgm_q rfl (q_buildA (cs := [_, _, _, _, _, _, _, _, _, _, _, _]) ar51 zr51 rfl (.cons rfl (by exact .inr ⟨_, rfl⟩) (.cons rfl (by exact .inr ⟨_, rfl⟩) .nil)) ⟨⟨rfl, by decide⟩, ⟨rfl, by decide⟩, trivial⟩ rfl) ?_
      refine rgm_q rfl (q_assign (x := .d (.v _)) rfl) ?_
      refine rgm_m (k := 5) rfl rfl (by rfl) (m_store sz51 rfl rfl (by exact .inr ⟨_, rfl⟩) rfl rfl (by decide) rfl) ?_
      refine rgm_q rfl (q_assign (x := .d (.v _)) rfl) ?_
      refine rgm_nil (aops_nil ?_)
      change Awp _ _ _ _ _
      refine awp_ret ?_
      refine ⟨_, (.cons (.tmp (by exact .d _)) (.cons (.cellA rfl rfl sz51 rfl) (.cons (.tmp (by exact .d _)) .nil))), ?_⟩
      rfl
  ·
    exact absurd h1 (by simpa using hc2)
end Go.Proofs.YthpggoophcdgnaaDoor.Am.M
