/- Contracts over the abstract machine: laws of directions: the reference, an array of the call's own, LawPlanes. Conditions: none. -/
import Derived.Test.YtgeieocphgnipaaGreatDoorG14
import Derived.Test.YtgeieocphgnipaaGreatDoorG18
set_option linter.unusedVariables false
set_option linter.unusedSimpArgs false
-- mini
namespace Go.Proofs.YtgeieocphgnipaaGreatDoor.Am.M
open Go

section
variable {P : Program} {w0 : Cx} {st : St}
def RetA (P : Program) (st : St) (t0 : Tmp) (ty0 : TypeId) (f : Nat → Nat) (r : T) : Prop :=
  ∃ (k j m : Nat) (u v : List Value), st.t t0 = .ref k 0 ∧ st.s k = .tbox (agC j u v) ∧ szB P ty0 true m = true ∧ (agC j u v).length = m ∧ shiftT f r = .ag j u v
/-- The end of a function that hands back an aggregate with a row of its own. -/
def endA (P : Program) (n : Nat) (t0 : Tmp) (ty0 : TypeId) (m : Nat) (r : T) (ss' : List Site) : Exit → St → Prop
  | .ret, st | .normal, st => ∃ ns : List Nat, RetA P st t0 ty0 (nth ns) r ∧ SitesAt st ns ss' ∧ ns.length = ss'.length ∧ nodupN ns = true ∧ firstN n 0 m ns = true ∧ belowT ss'.length r = true ∧ ss'.all (belowS ss'.length) = true
  | _, _ => False
theorem enda_mk {n : Nat} {t0 : Tmp} {ty0 : TypeId} {m : Nat} {r : T} {ss' : List Site} {e : Exit} (he : e = .ret ∨ e = .normal) (ns : List Nat) (hr : RetA P st t0 ty0 (nth ns) r) (hs : holdS st (nth ns) ns ss')
    (hc : (Nat.beq ns.length ss'.length && nodupN ns && firstN n 0 m ns && belowT ss'.length r && ss'.all (belowS ss'.length)) = true) : endA P n t0 ty0 m r ss' e st := by
  simp only [Bool.and_eq_true] at hc
  obtain ⟨⟨⟨⟨h1, h2⟩, h3⟩, h4⟩, h5⟩ := hc
  have : ∃ ns : List Nat, RetA P st t0 ty0 (nth ns) r ∧ SitesAt st ns ss' ∧ ns.length = ss'.length ∧ nodupN ns = true ∧ firstN n 0 m ns = true ∧ belowT ss'.length r = true ∧ ss'.all (belowS ss'.length) = true :=
    ⟨ns, hr, hs.spec, Nat.eq_of_beq_eq_true h1, h2, h3, h4, h5⟩
  rcases he with rfl | rfl <;> exact this
theorem pcs_of_awpA {f : FuncId} {fn : Func} {c : Code} {n : Nat} {args : List T} {ss ss' : List Site} {r : T} {t0 : Tmp} {ty0 : TypeId} (hf : P.funcs[f]? = some fn) (hb : fn.body = some c) (hn : fn.ntmps = n) (hrs : fn.results = #[.cell t0 ty0]) (hl : args.length ≤ n)
    (h : ∀ w0 : Cx, w0.rnd = none → Awp P w0 c (endA P n t0 ty0 ss.length r ss') (startS n args ss)) : PCS P f args ss r ss' := by
  intro w ok blk val vs hblk hinj hnone hsite hL
  refine (callsIn_wide (n := 1)).1 (callsIn_of_wp_marks hf hb trivial ?_ rfl)
  let cx : Cx := ⟨w, ok, fun b => ∃ i, blk i = some b, fun k => bif Nat.ble n k && (getS ss (k - n)).isVar then blk (k - n) else none, fun _ => none, none⟩
  let blkE : Nat → Option Nat := fun k => bif Nat.ble n k then blk (k - n) else none
  let valE : Nat → Value := fun k => val (k - n)
  have hge : ∀ k, Nat.ble n (n + k) = true := fun k => by rw [Nat.ble_eq]; omega
  have hE : ∀ k b, blkE k = some b → n ≤ k ∧ blk (k - n) = some b := fun k b hk => by
    simp only [blkE] at hk
    cases hb : Nat.ble n k with
    | false => rw [hb] at hk; cases hk
    | true => rw [hb] at hk; exact ⟨Nat.le_of_ble_eq_true hb, hk⟩
  have hokE : ∀ b, b < w.heap.size → ok b → okOf cx blkE b := fun b hb h => ⟨.inl h, fun k hk => (hblk _ _ (hE k b hk).2).2 h⟩
  have hkE : ∀ k, blkE (n + k) = blk k ∧ valE (n + k) = val k ∧ inS n ss (n + k) = shiftS (n + ·) (getS ss k) := fun k => by
    simp only [blkE, valE, inS, hge k, cond_true, Nat.add_sub_cancel_left]
    exact ⟨trivial, trivial, trivial⟩
  have h0 : Hold cx (startS n args ss) { tmps := vs.toArray ++ Array.replicate (fn.ntmps - vs.toArray.size) undef, defers := [] } w blkE valE := by
    refine ⟨⟨rfl, rfl, rfl, Nat.le_refl _, fun _ _ _ => rfl⟩, Kept.nil rfl rfl, ?_, fun k b hk => ⟨.inr ⟨_, (hE k b hk).2⟩, (hblk _ _ (hE k b hk).2).1⟩, fun k k' b hk hk' => ?_, fun k b hk => ?_, fun k => ?_, fun t => ?_⟩
    · have := hL.length
      simp [startS, hn]; omega
    · have e := hinj _ _ _ (hE k b hk).2 (hE k' b hk').2
      have := (hE k b hk).1
      have := (hE k' b hk').1
      omega
    · simp only [cx] at hk
      cases hb : Nat.ble n k && (getS ss (k - n)).isVar with
      | false => rw [hb] at hk; cases hk
      | true =>
        rw [hb] at hk
        rw [Bool.and_eq_true] at hb
        refine ⟨by simp only [blkE, hb.1, cond_true]; exact hk, ?_, Nat.le_of_ble_eq_true hb.1⟩
        show (inS n ss k).isVar = true
        simp only [inS, hb.1, cond_true]
        have h2 := hb.2
        cases hs : getS ss (k - n) <;> rw [hs] at h2 <;> first | rfl | cases h2
    · show SiteIn _ _ _ _ (inS n ss) _ _ (inS n ss k)
      cases hb : Nat.ble n k with
      | false => simp only [blkE, inS, hb, cond_false]; rfl
      | true =>
        obtain ⟨i, rfl⟩ : ∃ i, k = n + i := ⟨k - n, by have := Nat.le_of_ble_eq_true hb; omega⟩
        obtain ⟨e1, e2, e3⟩ := hkE i
        rw [e1, e2, e3]
        exact (hsite i).shift hokE fun _ _ _ _ j _ => hkE j
    · have := argTT_rep (blk' := blkE) (val' := valE) (s' := inS n ss) (f := (n + ·)) (fn.ntmps - vs.toArray.size) hokE hkE hL t
      have e : (vs.toArray ++ Array.replicate (fn.ntmps - vs.toArray.size) undef) = (vs ++ List.replicate (fn.ntmps - vs.toArray.size) undef).toArray := by simp
      show RepT _ _ _ _ _ _ ((vs.toArray ++ Array.replicate (fn.ntmps - vs.toArray.size) undef).getD t undef)
      rw [e, Array.getD_eq_getD_getElem?, List.getElem?_toArray, ← List.getD_eq_getElem?_getD]
      exact this
  have fin : ∀ (a : Act) (w' : World) (st' : St), (∃ ns : List Nat, RetA P st' t0 ty0 (nth ns) r ∧ SitesAt st' ns ss' ∧ ns.length = ss'.length ∧ nodupN ns = true ∧ firstN n 0 ss.length ns = true ∧ belowT ss'.length r = true ∧ ss'.all (belowS ss'.length) = true) → Holds cx st' a w' →
      ∃ v, (results fn a.tmps).run P w' = .ok v w' ∧ ∃ v' blk' val', Ending.returned v = .returned v' ∧ (∀ i, (getS ss i).isVar = true → blk' i = blk i) ∧ (∀ i b, blk' i = some b → (∃ j, blk j = some b) ∨ w.heap.size ≤ b) ∧ (∀ i b, blk' i = some b → b < w'.heap.size) ∧
      (∀ i j b, blk' i = some b → blk' j = some b → i = j) ∧ ExtM ⟨w, ok, fun b => ∃ i, blk i = some b, fun _ => none, fun _ => none, none⟩ w' ∧
      (∀ i, SiteIn w' (fun b => (ok b ∨ w.heap.size ≤ b) ∧ ∀ i, blk' i ≠ some b) blk' val' (getS ss') (blk' i) (val' i) (getS ss' i)) ∧
      RepT w' (fun b => (ok b ∨ w.heap.size ≤ b) ∧ ∀ i, blk' i ≠ some b) blk' val' (getS ss') r v' := by
    intro a w' st' ⟨ns, hret, hsat, hlen, hnd, hfst, hbr, hbs⟩ ⟨blkF, valF, hh⟩
    let blk' : Nat → Option Nat := fun i => if i < ss'.length then blkF (nth ns i) else none
    let val' : Nat → Value := fun i => valF (nth ns i)
    have hb' : ∀ i b, blk' i = some b → i < ss'.length ∧ blkF (nth ns i) = some b := fun i b h => by
      simp only [blk'] at h
      split at h
      · exact ⟨by assumption, h⟩
      · cases h
    have hok' : ∀ b, b < w'.heap.size → okOf cx blkF b → (ok b ∨ w.heap.size ≤ b) ∧ ∀ i, blk' i ≠ some b := fun b _ h => ⟨h.1, fun i hi => h.2 _ (hb' i b hi).2⟩
    have hrel : ∀ k, k < ss'.length → blk' k = blkF (nth ns k) ∧ val' k = valF (nth ns k) ∧ st'.s (nth ns k) = shiftS (nth ns) (getS ss' k) := fun k hk => ⟨if_pos hk, rfl, hsat k hk⟩
    have hbelow : ∀ (ss : List Site) (m i : Nat), ss.all (belowS m) = true → belowS m (getS ss i) = true := by
      intro ss
      induction ss with
      | nil => intro m i _; rfl
      | cons x xs ih =>
        intro m i h
        simp only [List.all_cons, Bool.and_eq_true] at h
        cases i with
        | zero => exact h.1
        | succ i => exact ih m i h.2
    have sites : ∀ i, SiteIn w' (fun b => (ok b ∨ w.heap.size ≤ b) ∧ ∀ i, blk' i ≠ some b) blk' val' (getS ss') (blk' i) (val' i) (getS ss' i) := fun i => by
      rcases Nat.lt_or_ge i ss'.length with hi | hi
      · have h1 := hh.site (nth ns i)
        rw [hsat i hi] at h1
        rw [(hrel i hi).1]
        refine h1.unshift hok' fun cs hcs y hy k hk => ?_
        have h2 := hbelow ss' ss'.length i hbs
        rw [hcs] at h2
        exact hrel k (belowT_lt (List.all_eq_true.1 h2 y hy) k hk)
      · rw [getS_none hi]
        show blk' i = none
        exact if_neg (by omega)
    have repr : ∀ v, RepT w' (okOf cx blkF) blkF valF st'.s (shiftT (nth ns) r) v → RepT w' (fun b => (ok b ∨ w.heap.size ≤ b) ∧ ∀ i, blk' i ≠ some b) blk' val' (getS ss') r v := fun v h =>
      h.unshift hok' fun k hk => hrel k (belowT_lt hbr k hk)
    have hsl : ss.length ≤ ss'.length ∨ ss = [] := by
      rcases Nat.lt_or_ge ss'.length ss.length with h | h
      · right
        exfalso
        have : ∀ (m i : Nat) (ns : List Nat), firstN n i m ns = true → m ≤ ns.length := by
          intro m
          induction m with
          | zero => intro i ns _; omega
          | succ m ih =>
            intro i ns h
            cases ns with
            | nil => simp [firstN] at h
            | cons x xs =>
              simp only [firstN, Bool.and_eq_true] at h
              have := ih _ _ h.2
              simp; omega
        have := this _ _ _ hfst
        omega
      · exact .inl h
    have hname : ∀ i, i < ss.length → nth ns i = n + i := fun i hi => by
      have := nth_firstN hfst i hi
      rw [Nat.zero_add] at this; exact this
    have common : (∀ i, (getS ss i).isVar = true → blk' i = blk i) ∧ (∀ i b, blk' i = some b → (∃ j, blk j = some b) ∨ w.heap.size ≤ b) ∧ (∀ i b, blk' i = some b → b < w'.heap.size) ∧
        (∀ i j b, blk' i = some b → blk' j = some b → i = j) ∧ ExtM ⟨w, ok, fun b => ∃ i, blk i = some b, fun _ => none, fun _ => none, none⟩ w' := by
      refine ⟨fun i hi => ?_, fun i b hb => ?_, fun i b hb => (hh.new _ _ (hb' i b hb).2).2, fun i j b h1 h2 => ?_, ⟨hh.ext.os, hh.ext.tape, hh.ext.output, hh.ext.size, hh.ext.block⟩⟩
      · have him : i < ss.length := by
          rcases Nat.lt_or_ge i ss.length with h | h
          · exact h
          · rw [getS_none h] at hi; cases hi
        have hi' : i < ss'.length := by
          rcases hsl with h | h
          · omega
          · subst h; simp at him
        rw [(hrel i hi').1, hname i him]
        have hs := hsite i
        obtain ⟨b, hb⟩ : ∃ b, blk i = some b := by
          cases hg : getS ss i <;> rw [hg] at hs hi <;> first | (cases hi; done) | (obtain ⟨b, _, _, h, _⟩ := hs; exact ⟨b, h⟩)
        have hp := hh.pin (n + i) b (by
          show (bif Nat.ble n (n + i) && (getS ss (n + i - n)).isVar then blk (n + i - n) else none) = some b
          rw [Nat.add_sub_cancel_left, hge i, hi]
          exact hb)
        rw [hp.1, hb]
      · rcases (hh.new _ _ (hb' i b hb).2).1 with h | h
        · exact .inr h
        · exact .inl h
      · have e := hh.inj _ _ b (hb' i b h1).2 (hb' j b h2).2
        exact nth_inj hnd (by rw [hlen]; exact (hb' i b h1).1) (by rw [hlen]; exact (hb' j b h2).1) e
    obtain ⟨c1, c2, c4, c5, c6⟩ := common
    obtain ⟨k, j, m, u, z, a1, a2, a3, a4, a5⟩ := hret
    have h1 := hh.tmp t0
    rw [a1] at h1
    obtain ⟨_, b, hb, hv⟩ := h1
    have h2 := hh.site k
    rw [a2] at h2
    obtain ⟨b', e, vals, hb2, hheap, hsz, hc⟩ := h2
    rw [hb] at hb2; cases hb2
    have hld := run_loadBlock (P := P) hheap
    rw [hsz, a4] at hld
    obtain ⟨r1, r2⟩ := agC_out (vs := vals.toList) (w := w') (ok := okOf cx blkF) (blk := blkF) (val := valF) (s := st'.s) ⟨by simpa using hsz, fun i x hx => by
      obtain ⟨y, hy, h3⟩ := hc i x hx
      exact ⟨y, by simpa using hy, h3⟩⟩
    have hr1 : (readVar a.tmps (.cell t0 ty0)).run P w' = .ok (.agg vals) w' := by
      simp only [readVar, Sem.run_bind, hv, asAddr, Sem.run_pure, Result.andThen_ok, loadVar, szB_agg a3, if_true, szB_size a3, hld]
    have : (results fn a.tmps).run P w' = .ok (.agg vals) w' := by
      have e0 : results fn a.tmps = (do let vs ← fn.results.mapM (readVar a.tmps); pure (if h : vs.size = 1 then vs[0] else .tuple vs)) := by
        unfold results readVar
        rfl
      have hm : (fn.results.mapM (readVar a.tmps)).run P w' = .ok #[.agg vals] w' := by
        rw [hrs, show (#[ResultVar.cell t0 ty0] : Array ResultVar) = [ResultVar.cell t0 ty0].toArray from rfl, List.mapM_toArray]
        simp [hr1]
      rw [e0]
      simp only [Sem.run_bind, hm, Result.andThen_ok, Sem.run_pure]
      rfl
    exact ⟨_, this, _, blk', val', rfl, c1, c2, c4, c5, c6, sites, repr _ (by rw [a5]; exact ⟨r1, by rw [← r2]⟩)⟩
  refine wpIn_mono (h cx rfl Fence.wide 1 ⟨.inl rfl, rfl⟩ _ w ⟨_, _, h0⟩) fun e a w' ⟨st', hR, hH⟩ => ?_
  cases e with
  | normal =>
    obtain ⟨ms, m1, m2, m3, hH'⟩ := hH.shut rfl
    show LeavesInM _ _ _ _ _ _ _ _ _
    rw [m1]
    exact shut_leaves ms w' m2 m3 (fin { a with defers := [] } (shut ms w') st' hR hH')
  | ret =>
    obtain ⟨ms, m1, m2, m3, hH'⟩ := hH.shut rfl
    show LeavesInM _ _ _ _ _ _ _ _ _
    rw [m1]
    exact shut_leaves ms w' m2 m3 (fin { a with defers := [] } (shut ms w') st' hR hH')
  | exit id => exact hR.elim
  | goto l => exact hR.elim
  | panic c => exact hR.elim
  | outgrown => exact hR.elim


end
section
variable {P : Program} {w0 : Cx} {n : Nat} {s : Nat → Site} {ev : Operand → T} {dst : Option Tmp} {ty : TypeId} {pos : String} {after : Array Edge} {g : Option (Nat × Bool)}
theorem q_load_ag {t : TypeId} {y : Operand} {m k j : Nat} {u v : List Value} {cs : List T} (ht : szB P t true m = true) (hy : ev y = .ref k 0) (hk : s k = .tbox cs) (hc0 : cs = agC j u v) (hl : cs.length = m) : QOp P w0 n s ev ⟨dst, .load t y, ty, pos, after, g⟩ (.ag j u v) :=
  .mk fun a w ok blk val h hs hnew => by
    subst hc0
    have h1 := h y
    rw [hy] at h1
    obtain ⟨_, b, hb, hv⟩ := h1
    have h2 := hs k
    rw [hk] at h2
    obtain ⟨b', e, vals, hb2, hheap, hsz, hc⟩ := h2
    rw [hb] at hb2; cases hb2
    have hld := run_loadBlock (P := P) hheap
    rw [hsz, hl] at hld
    obtain ⟨r1, r2⟩ := agC_out (vs := vals.toList) (w := w) (ok := ok) (blk := blk) (val := val) (s := s) ⟨by simpa using hsz, fun i x hx => by
      obtain ⟨y, hy, h3⟩ := hc i x hx
      exact ⟨y, by simpa using hy, h3⟩⟩
    refine ⟨.agg vals, w, ?_, Ext.refl w, r1, by rw [← r2]⟩
    simp only [execOp, hv, Instr.loadAt, Instr.sureAddr, loadVar, Sem.run_bind, Sem.run_pure, Result.andThen_ok, szB_agg ht, if_true, szB_size ht, hld]
end

theorem shC_flat (x : Int × Int) : ∀ d ∈ shC x, D.Flat d := by
  intro d hd
  simp only [shC, List.mem_cons, List.not_mem_nil, or_false] at hd
  rcases hd with rfl | rfl <;> exact .v _
set_option maxRecDepth 100000 in
theorem copySpotsS_p (L : List (Int × Int)) (h1 : L.length ≤ 1000) : PCS Tryz.prog 45 [.d (.sl 2 (L.map shC))] [] (.rs 0) [.row 28 2 (L.map shC)] := by
  refine pcs_of_awp Tryz.func45 rfl Tryz.ntmps45 (rs := [.tmp 2]) Tryz.results45 (by simp) fun w0 => ?_
  refine awp_seq ?_
  refine awp_region 1 mixed (by kernel_rfl) ?_
  refine rg_q (q_assign (x := .d (.sl _ _)) rfl) ?_
  refine rg_nil ?_
  refine aops_nil ?_
  change Awp _ _ _ _ _
  refine awp_seq ?_
  refine awp_region 0 mixed (by kernel_rfl) ?_
  refine rg_nil ?_
  refine aops_empty sl22 zr28 rfl rfl ?_
  refine aops_q rfl (q_move (x := .d (.sl _ _)) rfl) ?_
  refine aops_append sl22 zr28 by28 rfl (by decide) rfl rfl rfl rfl (by (try simp only [List.length_map, List.length_append, List.length_cons, List.length_nil]); omega) (by (try simp only [List.length_map, List.length_append, List.length_cons, List.length_nil]); omega) rfl rfl ?_
  refine aops_q rfl (q_assign (x := .rs _) rfl) ?_
  refine aops_nil ?_
  change Awp _ _ _ _ _
  refine awp_ret ?_
  exact end_mk (.inl rfl) [3] (.tmp rfl) (by repeat (first | exact trivial | refine ⟨rfl, ?_⟩)) rfl
set_option maxRecDepth 100000 in
theorem copyArrayS_p (a : Lar) (h1 : a.el.length ≤ 1000) : PCS Tryz.prog 20 [.d (.agg (larC a))] [] (.ag 0 [] [.int .i64 a.md.w, .int .i64 a.md.m, .int .i64 a.md.k, .int .i64 a.md.t, .int .i64 a.ck]) [.row 28 2 (a.el.map shC)] := by
  refine pcs_of_awpA Tryz.func20 rfl Tryz.ntmps20 Tryz.results20 (by simp) fun w0 hrnd => ?_
  refine awp_seq ?_
  refine awp_region 0 mixed (by kernel_rfl) ?_
  refine rg_nil ?_
  refine aops_box (X := .agg (larC a)) rfl (by exact .inr ⟨_, rfl⟩) rfl rfl rfl ?_
  refine aops_alloc zr26 rfl rfl rfl ?_
  refine aops_nil ?_
  change Awp _ _ _ _ _
  refine awp_seq ?_
  refine Awp.le (le_tbox (k := 1) (cs := larC a) (ts := [_, _, _, _, _, _]) rfl rfl) ?_
  refine Awp.le (le_tbox (k := 2) (ts := [_, _, _, _, _, _]) rfl rfl) ?_
  refine awp_region 2 mixed (by kernel_rfl) ?_
  refine rg_q (q_fieldAddr_ref fld26_0 rfl) ?_
  refine rg_q (q_load_tb (x := .d _) sz22 rfl rfl rfl) ?_
  refine rg_nil ?_
  refine aops_callN [5] en45 (copySpotsS_p a.el (by omega)) rfl (.cons (by exact .d _) .nil) rfl (newS.none rfl rfl) rfl (fun s hs => by rcases List.mem_singleton.1 hs with rfl; exact flat_row shC 28 2 a.el shC_flat) trivial ?_
  refine aops_q rfl (q_fieldAddr_ref fld26_0 rfl) ?_
  refine aops_storeT (z := .rs _) sz22 rfl rfl rfl rfl (by simp) rfl ?_
  refine aops_nil ?_
  change Awp _ _ _ _ _
  refine awp_seq ?_
  refine awp_region 1 mixed (by kernel_rfl) ?_
  refine rg_q (q_load_ag (u := []) (v := [.int .i64 a.md.w, .int .i64 a.md.m, .int .i64 a.md.k, .int .i64 a.md.t, .int .i64 a.ck]) sz26 rfl rfl rfl rfl) ?_
  refine rg_nil ?_
  refine aops_storeAg sz26 rfl rfl rfl rfl rfl rfl rfl ?_
  refine aops_nil ?_
  change Awp _ _ _ _ _
  refine awp_ret ?_
  exact enda_mk (.inl rfl) [5] ⟨2, 5, 6, [], [.int .i64 a.md.w, .int .i64 a.md.m, .int .i64 a.md.k, .int .i64 a.md.t, .int .i64 a.ck], rfl, rfl, sz26, rfl, rfl⟩ (by repeat (first | exact trivial | refine ⟨rfl, ?_⟩)) rfl

theorem plF_at {a : Lar} {t : Trn} {k : Nat} {w : Int} (h : (plW a t)[k]? = some w) : plF a t (k : Int) = rndL ((w - minF (plW a t)) * 10000000) (t.r * a.md.w * a.ck) := by unfold plF; rw [List.getD_eq_getElem?_getD, Int.toNat_natCast, h]; rfl
set_option maxRecDepth 100000 in
theorem rplane_p (a : Lar) (t : Trn) (k1 : (ckLar a).2 = 0) (k2 : trnE t = 0) : PC Tryz.prog 50 [.agg (larC a), .agg (trnC t)] (.tup [.agg (dlyC (bltR (plF a t) a.ck a.el.length).1), .v (.int .i64 ((bltR (plF a t) a.ck a.el.length).2))]) := by
  have hla := (lar_ok k1).1
  have hn1 := hla.n1
  have hn2 := hla.n2
  have hc1 := hla.c1
  have hc22 := hla.c2
  obtain ⟨w1, w2, _, _, _, _, _, _⟩ := hla.md
  obtain ⟨r1, r2, p1, p2, q1, q2⟩ := trnE_ok k2
  have hwin : ∀ x ∈ plW a t, -200000000 ≤ x ∧ x ≤ 200000000 := fun x hx => by
    obtain ⟨s, hs, rfl⟩ := List.mem_map.1 hx
    obtain ⟨e1, e2, e3, e4⟩ := hla.el s hs
    have b1 := prod_in e1 e2 (show -1000 ≤ t.p by omega) (by omega)
    have b2 := prod_in e3 (show s.2 ≤ 100000 by omega) (show -1000 ≤ t.q by omega) (by omega)
    unfold wayX; omega
  have hwl : (plW a t).length = a.el.length := by unfold plW; rw [List.length_map]
  have hne : plW a t ≠ [] := fun e => by have := congrArg List.length e; simp only [List.length_nil] at this; omega
  have hmi := minF_in hne hwin
  obtain ⟨z, hx0⟩ : ∃ z, (plW a t)[0]? = some z := ⟨_, List.getElem?_eq_getElem (by omega)⟩
  have hfm := fdF_min hx0
  have c1 := mulb (a := t.r) (b := a.md.w) (A := 1000) (B := 10000) (by omega) (by omega) (by omega) (by omega)
  have c0 : 0 < t.r * a.md.w := Int.mul_pos (by omega) (by omega)
  have c2 := mulb (a := t.r * a.md.w) (b := a.ck) (A := 10000000) (B := 1000000) (by omega) (by omega) (by omega) (by omega)
  have c3 : 0 < t.r * a.md.w * a.ck := Int.mul_pos (by omega) (by omega)
  refine pc_of_awpN Tryz.func50 rfl Tryz.ntmps50 (rs := [.cell 4 33, .tmp 5]) Tryz.results50 (by simp) fun w0 hmine hrnd hpn => ?_
  refine awp_seq ?_
  refine awp_region 2 mixed (by kernel_rfl) ?_
  refine rg_q (q_box rfl (by exact .inr ⟨_, rfl⟩)) ?_
  refine rg_q (q_box rfl (by exact .inr ⟨_, rfl⟩)) ?_
  refine rg_nil ?_
  refine aops_alloc zr33 rfl rfl rfl ?_
  refine aops_q rfl (q_assign (x := .d (.v _)) rfl) ?_
  refine aops_nil ?_
  change Awp _ _ _ _ _
  refine awp_seq ?_
  refine awp_region 1 mixed (by kernel_rfl) ?_
  refine rg_q (q_assign_nil) ?_
  refine rg_nil ?_
  refine aops_nil ?_
  change Awp _ _ _ _ _
  refine Awp.le (le_own (k := 6) (e := 3) (sz := 1) rfl rfl) ?_
  refine awp_seq ?_
  refine awp_seq ?_
  refine awp_region 1 mixed (by kernel_rfl) ?_
  refine rg_q (q_assign (x := .d (.v _)) rfl) ?_
  refine rg_nil ?_
  refine aops_nil ?_
  change Awp _ _ _ _ _
  refine awp_block ?_
  refine awp_loopH [6, 7, 12, 13, 14, 15, 16, 17, 18, 19, 20, 21, 22, 23, 24, 25, 26, 27, 28, 29, 30, 31, 32, 33, 34, 35, 36, 37, 38, 39, 40] [6] (α := Nat) (fun k => [(7, T.i (k : Int)), (6, .rs 6)]) (fun k => [(6, .row 3 1 ((a.el.take k).map fun s => iC (wayX t s)))]) (fun k => k ≤ a.el.length) (fun k => a.el.length - k) 0 (Nat.zero_le _) ?_ ?_
  · exact le_head (ms := [6]) (by repeat (exact Out.refl _)) ⟨(by rfl), (by rfl), trivial⟩ ⟨(by rfl), trivial⟩ rfl rfl rfl rfl
  ·
    intro k hk
    refine awp_seq ?_
    refine awp_seq ?_
    refine awp_region 5 mixed (by kernel_rfl) ?_
    refine rg_q (q_move (x := .d (.v _)) rfl) ?_
    refine rg_q (q_fieldAddr fld26_0 rfl) ?_
    refine rg_q (q_load sz22 rfl rfl) ?_
    refine rg_q (q_len isl22 rfl (by exact len_map _ _)) ?_
    refine rg_q (q_lss rfl rfl) ?_
    refine rg_nil ?_
    refine aops_nil ?_
    change Awp _ _ _ _ _
    refine awp_len (t := 14) rfl (fun hl14 => ?_)
    (try simp only [List.length_map] at hl14)
    refine awp_cond rfl (fun hc3 => ?_) (fun hc3 => ?_)
    ·
      (try simp only [decide_eq_true_eq, decide_eq_false_iff_not, Bool.and_eq_true, Bool.or_eq_true, Bool.and_eq_false_iff, Bool.or_eq_false_iff, Bool.not_eq_true', Bool.not_eq_false', Bool.not_true, Bool.not_false, bif_and, bif_or, Bool.not_not, ne_eq, Decidable.not_not, not_true_eq_false, not_false_eq_true, Int.not_le, Int.not_lt] at hc3)
      have hlt : k < a.el.length := by omega
      obtain ⟨x, hx⟩ : ∃ x, a.el[k]? = some x := ⟨_, List.getElem?_eq_getElem hlt⟩
      obtain ⟨e1, e2, e3, e4⟩ := hla.el x (List.mem_of_getElem? hx)
      have b1 := prod_in e1 e2 (show -1000 ≤ t.p by omega) (by omega)
      have b2 := prod_in e3 (show x.2 ≤ 100000 by omega) (show -1000 ≤ t.q by omega) (by omega)
      have hsk : ((a.el.take (k + 1)).map fun s => iC (wayX t s)) = ((a.el.take k).map fun s => iC (wayX t s)) ++ [iC (wayX t x)] := by
        rw [List.take_succ_eq_append_getElem hlt, List.map_append, (List.getElem?_eq_some_iff.1 hx).2]; rfl
      have hln : (a.el.take k).length ≤ 16 := by rw [List.length_take]; omega
      refine awp_skip ?_
      change Awp _ _ _ _ _
      refine awp_seq ?_
      refine awp_block ?_
      refine awp_region 21 mixed (by kernel_rfl) ?_
      refine rg_q (q_move (x := .rs _) rfl) ?_
      refine rg_q (q_fieldAddr fld26_0 rfl) ?_
      refine rg_q (q_load sz22 rfl rfl) ?_
      refine rg_q (q_move (x := .d (.v _)) rfl) ?_
      refine rg_q (q_indexAddr sl22 rfl rfl (by omega) (map_at (by omega) hx)) ?_
      refine rg_q (q_fieldAddr fld28_0 rfl) ?_
      refine rg_q (q_load sz3 rfl rfl) ?_
      refine rg_q (q_fieldAddr fld66_0 rfl) ?_
      refine rg_q (q_load sz3 rfl rfl) ?_
      refine rg_q (q_mul rfl rfl (In64.mk (by omega) (by omega))) ?_
      refine rg_q (q_fieldAddr fld26_0 rfl) ?_
      refine rg_q (q_load sz22 rfl rfl) ?_
      refine rg_q (q_move (x := .d (.v _)) rfl) ?_
      refine rg_q (q_indexAddr sl22 rfl rfl (by omega) (map_at (by omega) hx)) ?_
      refine rg_q (q_fieldAddr fld28_1 rfl) ?_
      refine rg_q (q_load sz3 rfl rfl) ?_
      refine rg_q (q_fieldAddr fld66_1 rfl) ?_
      refine rg_q (q_load sz3 rfl rfl) ?_
      refine rg_q (q_mul rfl rfl (In64.mk (by omega) (by omega))) ?_
      refine rg_q (q_add rfl rfl (In64.mk (by omega) (by omega))) ?_
      refine rg_q (q_buildSlice sl31 zr3 rfl rfl (by decide) (.cons rfl (by exact .inl rfl) .nil) ⟨rfl, rfl, trivial⟩ rfl (by decide) rfl) ?_
      refine rg_nil ?_
      refine aops_append sl31 zr3 by3 rfl (by decide) rfl rfl rfl rfl (by (try simp only [List.length_map, List.length_append, List.length_cons, List.length_nil]); omega) (by (try simp only [List.length_map, List.length_append, List.length_cons, List.length_nil]); omega) rfl rfl ?_
      refine aops_q rfl (q_assign (x := .rs _) rfl) ?_
      refine aops_nil ?_
      change Awp _ _ _ _ _
      refine awp_region 3 mixed (by kernel_rfl) ?_
      refine rg_q (q_move (x := .d (.v _)) rfl) ?_
      refine rg_q (q_add rfl rfl (In64.mk (by omega) (by omega))) ?_
      refine rg_q (q_assign (x := .d (.v _)) rfl) ?_
      refine rg_nil ?_
      refine aops_nil ?_
      refine ⟨k + 1, by omega, by omega, ?_⟩
      exact le_head (ms := [6]) (by repeat (first | exact Out.head rfl rfl | (refine Out.put ?_ rfl) | (refine Out.site ?_ rfl) | (refine Out.killS ?_ rfl))) ⟨(by rfl), (by rfl), trivial⟩ ⟨(by (show Site.row 3 1 (_ ++ [_]) = Site.row 3 1 _; rw [hsk]; rfl)), trivial⟩ rfl rfl rfl rfl
    ·
      (try simp only [decide_eq_true_eq, decide_eq_false_iff_not, Bool.and_eq_true, Bool.or_eq_true, Bool.and_eq_false_iff, Bool.or_eq_false_iff, Bool.not_eq_true', Bool.not_eq_false', Bool.not_true, Bool.not_false, bif_and, bif_or, Bool.not_not, ne_eq, Decidable.not_not, not_true_eq_false, not_false_eq_true, Int.not_le, Int.not_lt] at hc3)
      have hkn : k = a.el.length := by omega
      have hw0 : ((a.el.take k).map fun s => iC (wayX t s)) = (plW a t).map iC := by unfold plW; rw [hkn, List.take_length, List.map_map]; rfl
      refine awp_exit ?_
      change Awp _ _ _ _ _
      refine awp_seq ?_
      refine Awp.le (le_freezeR (es := (plW a t).map iC) 6 6 (by show Site.row _ _ _ = _; rw [hw0]) rfl rfl rfl hmine) ?_
      refine awp_region 4 mixed (by kernel_rfl) ?_
      refine rg_q (q_move (x := .d (.sl _ _)) rfl) ?_
      refine rg_q (q_indexAddr sl31 rfl rfl (by omega) (map_at (k := 0) (by omega) hx0)) ?_
      refine rg_q (q_load sz3 rfl rfl) ?_
      refine rg_q (q_assign (x := .d (.v _)) rfl) ?_
      refine rg_nil ?_
      refine aops_nil ?_
      change Awp _ _ _ _ _
      refine awp_seq ?_
      refine awp_seq ?_
      refine awp_region 1 mixed (by kernel_rfl) ?_
      refine rg_q (q_assign (x := .d (.v _)) rfl) ?_
      refine rg_nil ?_
      refine aops_nil ?_
      change Awp _ _ _ _ _
      refine awp_block ?_
      refine awp_loopH [8, 9, 44, 45, 46, 47, 48, 49, 50, 51, 52, 53, 54, 55] [] (α := Nat) (fun k => [(9, T.i (k : Int)), (8, T.i (fdF min z (plW a t) k))]) (fun k => []) (fun k => k ≤ (plW a t).length) (fun k => (plW a t).length - k) 0 (Nat.zero_le _) ?_ ?_
      · exact le_head (ms := []) (by repeat (exact Out.refl _)) ⟨(by rfl), (by rfl), trivial⟩ trivial rfl rfl rfl rfl
      ·
        intro k hk
        refine awp_seq ?_
        refine awp_seq ?_
        refine awp_region 4 mixed (by kernel_rfl) ?_
        refine rg_q (q_move (x := .d (.v _)) rfl) ?_
        refine rg_q (q_move (x := .d (.sl _ _)) rfl) ?_
        refine rg_q (q_len isl31 rfl (by exact len_map _ _)) ?_
        refine rg_q (q_lss rfl rfl) ?_
        refine rg_nil ?_
        refine aops_nil ?_
        change Awp _ _ _ _ _
        refine awp_len (t := 45) rfl (fun hl45 => ?_)
        (try simp only [List.length_map] at hl45)
        refine awp_cond rfl (fun hc8 => ?_) (fun hc8 => ?_)
        ·
          (try simp only [decide_eq_true_eq, decide_eq_false_iff_not, Bool.and_eq_true, Bool.or_eq_true, Bool.and_eq_false_iff, Bool.or_eq_false_iff, Bool.not_eq_true', Bool.not_eq_false', Bool.not_true, Bool.not_false, bif_and, bif_or, Bool.not_not, ne_eq, Decidable.not_not, not_true_eq_false, not_false_eq_true, Int.not_le, Int.not_lt] at hc8)
          try simp only [List.length_map] at hc8
          have hlt : k < (plW a t).length := by omega
          obtain ⟨x, hx⟩ : ∃ x, (plW a t)[k]? = some x := ⟨_, List.getElem?_eq_getElem hlt⟩
          have s1 := fdF_succ (f := min) (z := z) hx
          refine awp_skip ?_
          change Awp _ _ _ _ _
          refine awp_seq ?_
          refine awp_block ?_
          refine awp_region 7 mixed (by kernel_rfl) ?_
          refine rg_q (q_move (x := .d (.v _)) rfl) ?_
          refine rg_q (q_move (x := .d (.sl _ _)) rfl) ?_
          refine rg_q (q_move (x := .d (.v _)) rfl) ?_
          refine rg_q (q_indexAddr sl31 rfl rfl (by omega) (map_at (by omega) hx)) ?_
          refine rg_q (q_load sz3 rfl rfl) ?_
          refine rg_q (q_min rfl rfl) ?_
          refine rg_q (q_assign (x := .d (.v _)) rfl) ?_
          refine rg_nil ?_
          refine aops_nil ?_
          change Awp _ _ _ _ _
          refine awp_region 3 mixed (by kernel_rfl) ?_
          refine rg_q (q_move (x := .d (.v _)) rfl) ?_
          refine rg_q (q_add rfl rfl (In64.mk (by omega) (by omega))) ?_
          refine rg_q (q_assign (x := .d (.v _)) rfl) ?_
          refine rg_nil ?_
          refine aops_nil ?_
          refine ⟨k + 1, by omega, by omega, ?_⟩
          exact le_head (ms := []) (by repeat (first | exact Out.head rfl rfl | (refine Out.put ?_ rfl))) ⟨(by rfl), (by (show T.i _ = T.i _; rw [s1])), trivial⟩ trivial rfl rfl rfl rfl
        ·
          (try simp only [decide_eq_true_eq, decide_eq_false_iff_not, Bool.and_eq_true, Bool.or_eq_true, Bool.and_eq_false_iff, Bool.or_eq_false_iff, Bool.not_eq_true', Bool.not_eq_false', Bool.not_true, Bool.not_false, bif_and, bif_or, Bool.not_not, ne_eq, Decidable.not_not, not_true_eq_false, not_false_eq_true, Int.not_le, Int.not_lt] at hc8)
          try simp only [List.length_map] at hc8
          have hkm : k = (plW a t).length := by omega
          have hmm : fdF min z (plW a t) k = minF (plW a t) := by rw [hkm, hfm]
          rw [hmm]
          refine awp_exit ?_
          change Awp _ _ _ _ _
          refine awp_seq ?_
          refine awp_region 1 mixed (by kernel_rfl) ?_
          refine rg_q (q_assign_nil) ?_
          refine rg_nil ?_
          refine aops_nil ?_
          change Awp _ _ _ _ _
          refine Awp.le (le_own (k := 10) (e := 3) (sz := 1) rfl rfl) ?_
          refine awp_seq ?_
          refine awp_seq ?_
          refine awp_region 1 mixed (by kernel_rfl) ?_
          refine rg_q (q_assign (x := .d (.v _)) rfl) ?_
          refine rg_nil ?_
          refine aops_nil ?_
          change Awp _ _ _ _ _
          refine awp_block ?_
          refine awp_loopH [10, 11, 56, 57, 58, 59, 60, 61, 62, 63, 64, 65, 66, 67, 68, 69, 70, 71, 72, 73, 74, 75, 76, 77, 78, 79, 80, 81] [10] (α := Nat) (fun k => [(11, T.i (k : Int)), (10, .rs 10)]) (fun k => [(10, .row 3 1 ((bltL (plF a t) k).map iC))]) (fun k => k ≤ a.el.length) (fun k => a.el.length - k) 0 (Nat.zero_le _) ?_ ?_
          · exact le_head (ms := [10]) (by repeat (exact Out.refl _)) ⟨(by rfl), (by rfl), trivial⟩ ⟨(by rfl), trivial⟩ rfl rfl rfl rfl
          ·
            intro k hk
            refine awp_seq ?_
            refine awp_seq ?_
            refine awp_region 4 mixed (by kernel_rfl) ?_
            refine rg_q (q_move (x := .d (.v _)) rfl) ?_
            refine rg_q (q_move (x := .d (.sl _ _)) rfl) ?_
            refine rg_q (q_len isl31 rfl (by exact len_map _ _)) ?_
            refine rg_q (q_lss rfl rfl) ?_
            refine rg_nil ?_
            refine aops_nil ?_
            change Awp _ _ _ _ _
            refine awp_len (t := 57) rfl (fun hl57 => ?_)
            (try simp only [List.length_map] at hl57)
            refine awp_cond rfl (fun hc13 => ?_) (fun hc13 => ?_)
            ·
              (try simp only [decide_eq_true_eq, decide_eq_false_iff_not, Bool.and_eq_true, Bool.or_eq_true, Bool.and_eq_false_iff, Bool.or_eq_false_iff, Bool.not_eq_true', Bool.not_eq_false', Bool.not_true, Bool.not_false, bif_and, bif_or, Bool.not_not, ne_eq, Decidable.not_not, not_true_eq_false, not_false_eq_true, Int.not_le, Int.not_lt] at hc13)
              try simp only [List.length_map] at hc13
              have hlt : k < (plW a t).length := by omega
              obtain ⟨x, hx⟩ : ∃ x, (plW a t)[k]? = some x := ⟨_, List.getElem?_eq_getElem hlt⟩
              have hxb := hwin x (List.mem_of_getElem? hx)
              have hv := plF_at hx
              have hsk0 := bltL_succ (plF a t) k
              rw [hv] at hsk0
              have hln : (bltL (plF a t) k).length ≤ 16 := by rw [bltL_len]; omega
              refine awp_skip ?_
              change Awp _ _ _ _ _
              refine awp_seq ?_
              refine awp_block ?_
              refine awp_region 19 mixed (by kernel_rfl) ?_
              refine rg_q (q_move (x := .rs _) rfl) ?_
              refine rg_q (q_move (x := .d (.sl _ _)) rfl) ?_
              refine rg_q (q_move (x := .d (.v _)) rfl) ?_
              refine rg_q (q_indexAddr sl31 rfl rfl (by omega) (map_at (by omega) hx)) ?_
              refine rg_q (q_load sz3 rfl rfl) ?_
              refine rg_q (q_move (x := .d (.v _)) rfl) ?_
              refine rg_q (q_sub rfl rfl (In64.mk (by omega) (by omega))) ?_
              refine rg_q (q_mul rfl rfl (In64.mk (by omega) (by omega))) ?_
              refine rg_q (q_fieldAddr fld66_2 rfl) ?_
              refine rg_q (q_load sz3 rfl rfl) ?_
              refine rg_q (q_fieldAddr fld26_1 rfl) ?_
              refine rg_q (q_fieldAddr fld24_0 rfl) ?_
              refine rg_q (q_load sz3 rfl rfl) ?_
              refine rg_q (q_mul rfl rfl (In64.mk (by omega) (by omega))) ?_
              refine rg_q (q_fieldAddr fld26_2 rfl) ?_
              refine rg_q (q_load sz3 rfl rfl) ?_
              refine rg_q (q_mul rfl rfl (In64.mk (by omega) (by omega))) ?_
              refine rg_q (q_call en85 (.cons rfl (.cons rfl .nil)) rfl (rround2_p _ _ (by omega) (by omega) (by omega) (by omega))) ?_
              refine rg_q (q_buildSlice sl31 zr3 rfl rfl (by decide) (.cons rfl (by exact .inl rfl) .nil) ⟨rfl, rfl, trivial⟩ rfl (by decide) rfl) ?_
              refine rg_nil ?_
              refine aops_append sl31 zr3 by3 rfl (by decide) rfl rfl rfl rfl (by (try simp only [List.length_map, List.length_append, List.length_cons, List.length_nil]); omega) (by (try simp only [List.length_map, List.length_append, List.length_cons, List.length_nil]); omega) rfl rfl ?_
              refine aops_q rfl (q_assign (x := .rs _) rfl) ?_
              refine aops_nil ?_
              change Awp _ _ _ _ _
              refine awp_region 3 mixed (by kernel_rfl) ?_
              refine rg_q (q_move (x := .d (.v _)) rfl) ?_
              refine rg_q (q_add rfl rfl (In64.mk (by omega) (by omega))) ?_
              refine rg_q (q_assign (x := .d (.v _)) rfl) ?_
              refine rg_nil ?_
              refine aops_nil ?_
              refine ⟨k + 1, by omega, by omega, ?_⟩
              exact le_head (ms := [10]) (by repeat (first | exact Out.head rfl rfl | (refine Out.put ?_ rfl) | (refine Out.site ?_ rfl) | (refine Out.killS ?_ rfl))) ⟨(by rfl), (by rfl), trivial⟩ ⟨(by (show Site.row 3 1 _ = Site.row 3 1 _; rw [hsk0, List.map_append]; rfl)), trivial⟩ rfl rfl rfl rfl
            ·
              (try simp only [decide_eq_true_eq, decide_eq_false_iff_not, Bool.and_eq_true, Bool.or_eq_true, Bool.and_eq_false_iff, Bool.or_eq_false_iff, Bool.not_eq_true', Bool.not_eq_false', Bool.not_true, Bool.not_false, bif_and, bif_or, Bool.not_not, ne_eq, Decidable.not_not, not_true_eq_false, not_false_eq_true, Int.not_le, Int.not_lt] at hc13)
              try simp only [List.length_map] at hc13
              have hkl : k = a.el.length := by omega
              subst hkl
              refine awp_exit ?_
              change Awp _ _ _ _ _
              refine awp_seq ?_
              refine Awp.le (le_freezeR (es := (bltL (plF a t) a.el.length).map iC) 10 10 (by show Site.row _ _ _ = _; rfl) rfl rfl rfl hmine) ?_
              refine awp_region 6 mixed (by kernel_rfl) ?_
              refine rg_q (q_fieldAddr fld26_2 rfl) ?_
              refine rg_q (q_load sz3 rfl rfl) ?_
              refine rg_q (q_move (x := .d (.sl _ _)) rfl) ?_
              refine rg_q (q_call en86 (.cons rfl (.cons rfl .nil)) rfl ((by have h := lawOf_p a.ck (bltL (plF a t) a.el.length); rw [lwo_blt] at h; exact h))) ?_
              refine rg_q (q_extract rfl rfl) ?_
              refine rg_q (q_extract rfl rfl) ?_
              refine rg_nil ?_
              refine aops_store sz33 rfl rfl (by exact .inr ⟨_, rfl⟩) rfl rfl (by decide) rfl ?_
              refine aops_q rfl (q_assign (x := .d (.v _)) rfl) ?_
              refine aops_nil ?_
              change Awp _ _ _ _ _
              refine awp_ret ?_
              refine ⟨_, (.cons (.cellA rfl rfl sz33 rfl) (.cons (.tmp (by exact .d _)) .nil)), ?_⟩
              rfl

def mvP (b : Int) (s : Int × Int) : Int × Int := (s.1 + b, s.2)
/-- The first k elements, moved. -/
def mvL (b : Int) (l : List (Int × Int)) (k : Nat) : List (Int × Int) := l.mapIdx fun i s => if i < k then mvP b s else s
theorem mvL_len (b : Int) (l : List (Int × Int)) (k : Nat) : (mvL b l k).length = l.length := by unfold mvL; rw [List.length_mapIdx]
theorem mvL_zero (b : Int) (l : List (Int × Int)) : mvL b l 0 = l := by
  refine List.ext_getElem? fun i => ?_
  unfold mvL; rw [List.getElem?_mapIdx]; cases l[i]? <;> simp
theorem mvL_all (b : Int) (l : List (Int × Int)) : mvL b l l.length = l.map (mvP b) := by
  refine List.ext_getElem? fun i => ?_
  unfold mvL; rw [List.getElem?_mapIdx, List.getElem?_map]
  by_cases h : i < l.length
  · rw [List.getElem?_eq_getElem h]; simp [h]
  · rw [List.getElem?_eq_none (by omega)]; rfl
theorem mvL_at {b : Int} {l : List (Int × Int)} {k : Nat} {s : Int × Int} (h : l[k]? = some s) : (mvL b l k)[k]? = some s := by
  unfold mvL; rw [List.getElem?_mapIdx, h]; simp
theorem mvL_set {b : Int} {l : List (Int × Int)} {k : Nat} {s : Int × Int} (h : l[k]? = some s) : ((mvL b l k).map shC).set k [.v (.int .i64 (s.1 + b)), .v (.int .i64 s.2)] = (mvL b l (k + 1)).map shC := by
  rw [show [D.v (.int .i64 (s.1 + b)), D.v (.int .i64 s.2)] = shC (mvP b s) from rfl, ← List.map_set]
  congr 1
  refine List.ext_getElem? fun i => ?_
  obtain ⟨hlt, hx⟩ := List.getElem?_eq_some_iff.1 h
  rw [List.getElem?_set, mvL_len]
  by_cases e : k = i
  · subst e
    rw [if_pos rfl, if_pos hlt]
    unfold mvL; rw [List.getElem?_mapIdx, h]; simp
  · rw [if_neg e]
    unfold mvL; rw [List.getElem?_mapIdx, List.getElem?_mapIdx]
    cases l[i]? with
    | none => rfl
    | some y =>
      simp only [Option.map_some]
      by_cases q : i < k
      · rw [if_pos q, if_pos (by omega)]
      · rw [if_neg q, if_neg (by omega)]
def mvA (b : Int) (a : Lar) : Lar := ⟨a.el.map (mvP b), a.md, a.ck⟩
theorem lel_mv {b : Int} {p : Int × Int} (h : p.2 < 0) : lelE (mvP b p) = 0 ∨ lelE (mvP b p) = 2 := by
  unfold lelE
  split
  · exact .inr rfl
  · rw [if_neg (by show ¬ 0 ≤ p.2; omega)]; exact .inl rfl
theorem ckl_mv {b : Int} : ∀ {l : List (Int × Int)} {i : Nat}, (∀ p ∈ l, p.2 < 0) → (ckLEl i (l.map (mvP b))).2 = 0 ∨ (ckLEl i (l.map (mvP b))).2 = 2
  | [], _, _ => .inl rfl
  | p :: l, i, h => by
    show (if lelE (mvP b p) ≠ 0 then ((i : Int), lelE (mvP b p)) else ckLEl (i + 1) (l.map (mvP b))).2 = 0 ∨ (if lelE (mvP b p) ≠ 0 then ((i : Int), lelE (mvP b p)) else ckLEl (i + 1) (l.map (mvP b))).2 = 2
    rcases lel_mv (b := b) (h p (by simp)) with e | e
    · rw [e, if_neg (by simp)]
      exact ckl_mv fun q hq => h q (by simp [hq])
    · rw [e, if_pos (by decide)]; exact .inr rfl
theorem cka_mv {b : Int} {a : Lar} (h : (ckLar a).2 = 0) : (ckLar (mvA b a)).2 = 0 ∨ (ckLar (mvA b a)).2 = 2 := by
  have hla := (lar_ok h).1
  have h1 := ckl_mv (b := b) (i := 0) fun p hp => (hla.el p hp).2.2.2
  unfold ckLar at h ⊢
  by_cases c0 : cntE a.el.length ≠ 0
  · rw [if_pos c0] at h; exact absurd h c0
  · rw [if_neg c0] at h
    rw [if_neg (show ¬ cntE (mvA b a).el.length ≠ 0 by show ¬ cntE (a.el.map (mvP b)).length ≠ 0; rw [List.length_map]; exact c0)]
    by_cases c1 : (ckLEl 0 a.el).2 ≠ 0
    · rw [if_pos c1] at h; exact absurd h c1
    · rw [if_neg c1] at h
      split
      · exact h1
      · exact .inl h
theorem plW_mv (b : Int) (a : Lar) (t : Trn) : plW (mvA b a) t = (plW a t).map (· + b * t.p) := by
  unfold plW mvA
  rw [List.map_map, List.map_map]
  refine List.map_congr_left fun s _ => ?_
  show (s.1 + b) * t.p + s.2 * t.q = s.1 * t.p + s.2 * t.q + b * t.p
  rw [Int.add_mul]; omega
theorem pl_mv {b : Int} {a : Lar} {t : Trn} (h : (ckLar a).2 = 0) (ht : trnE t = 0) : (plR (mvA b a) t).2 = 2 ∨ plR (mvA b a) t = bltR (plF a t) a.ck a.el.length := by
  have hla := (lar_ok h).1
  have hn1 := hla.n1
  rcases cka_mv (b := b) h with e | e
  · right
    have hz : plE (mvA b a) t = 0 := by unfold plE; rw [e, ht]; rfl
    unfold plR
    rw [if_neg (fun q => q hz), show (mvA b a).el.length = a.el.length from List.length_map _, show (mvA b a).ck = a.ck from rfl]
    refine bltR_congr fun i hi => ?_
    have hwl : (plW a t).length = a.el.length := by unfold plW; rw [List.length_map]
    obtain ⟨w, hw⟩ : ∃ w, (plW a t)[i]? = some w := ⟨_, List.getElem?_eq_getElem (by omega)⟩
    have hw2 : (plW (mvA b a) t)[i]? = some (w + b * t.p) := by rw [plW_mv, List.getElem?_map, hw]; rfl
    have hne : plW a t ≠ [] := fun e => by have := congrArg List.length e; simp only [List.length_nil] at this; omega
    rw [plF_at hw, plF_at hw2, plW_mv, minF_add _ hne, show w + b * t.p - (minF (plW a t) + b * t.p) = w - minF (plW a t) by omega]
    rfl
  · left
    have hz : plE (mvA b a) t = 2 := by unfold plE; rw [e]; rfl
    unfold plR
    rw [hz, if_pos (by decide)]
theorem plE_1 {a : Lar} {t : Trn} (h : (ckLar a).2 ≠ 0) : plE a t = (ckLar a).2 := by unfold plE firstE; rw [if_neg h]
theorem plE_2 {a : Lar} {t : Trn} (h : (ckLar a).2 = 0) : plE a t = trnE t := by
  unfold plE firstE
  rw [if_pos h]
  unfold firstE
  by_cases q : trnE t = 0
  · rw [if_pos q, q]; rfl
  · rw [if_neg q]
set_option maxRecDepth 100000 in
theorem lawPlanes_p (a : Lar) (t : Trn) (b : Int) : PCG Tryz.prog GW 10 [.agg (larC a), .agg (trnC t), .v (.int .i64 (b))] (.v (.bool (true))) := by
  refine pcg_of_awpN gw_keep Tryz.func10 rfl Tryz.ntmps10 (rs := [.tmp 6]) Tryz.results10 (by simp) fun w0 hmine hrnd hpn hG => ?_
  refine awp_seq ?_
  refine awp_region 3 mixed (by kernel_rfl) ?_
  refine rg_q (q_box rfl (by exact .inr ⟨_, rfl⟩)) ?_
  refine rg_q (q_box rfl (by exact .inr ⟨_, rfl⟩)) ?_
  refine rg_q (q_assign (x := .d (.v _)) rfl) ?_
  refine rg_nil ?_
  refine aops_nil ?_
  change Awp _ _ _ _ _
  refine awp_seq ?_
  refine awp_seq ?_
  refine awp_region 2 mixed (by kernel_rfl) ?_
  refine rg_q (q_callG en17 .nil rfl hG (awake_p)) ?_
  refine rg_q (q_not rfl) ?_
  refine rg_nil ?_
  refine aops_nil ?_
  change Awp _ _ _ _ _
  refine awp_cond rfl (fun hc1 => ?_) (fun hc1 => ?_)
  ·
    simp at hc1
  ·
    (try simp only [decide_eq_true_eq, decide_eq_false_iff_not, Bool.and_eq_true, Bool.or_eq_true, Bool.and_eq_false_iff, Bool.or_eq_false_iff, Bool.not_eq_true', Bool.not_eq_false', Bool.not_true, Bool.not_false, bif_and, bif_or, Bool.not_not, ne_eq, Decidable.not_not, not_true_eq_false, not_false_eq_true, Int.not_le, Int.not_lt] at hc1)
    refine awp_skip ?_
    change Awp _ _ _ _ _
    refine awp_seq ?_
    refine awp_seq ?_
    refine awp_region 5 mixed (by kernel_rfl) ?_
    refine rg_q (q_fieldAddr fld26_0 rfl) ?_
    refine rg_q (q_load sz22 rfl rfl) ?_
    refine rg_q (q_len isl22 rfl (by exact len_map _ _)) ?_
    refine rg_q (q_call en18 (.cons rfl .nil) rfl (few_p _)) ?_
    refine rg_q (q_not rfl) ?_
    refine rg_nil ?_
    refine aops_nil ?_
    change Awp _ _ _ _ _
    refine awp_len (t := 18) rfl (fun hl18 => ?_)
    (try simp only [List.length_map] at hl18)
    refine awp_cond rfl (fun hc3 => ?_) (fun hc3 => ?_)
    ·
      (try simp only [decide_eq_true_eq, decide_eq_false_iff_not, Bool.and_eq_true, Bool.or_eq_true, Bool.and_eq_false_iff, Bool.or_eq_false_iff, Bool.not_eq_true', Bool.not_eq_false', Bool.not_true, Bool.not_false, bif_and, bif_or, Bool.not_not, ne_eq, Decidable.not_not, not_true_eq_false, not_false_eq_true, Int.not_le, Int.not_lt] at hc3)
      refine awp_seq ?_
      refine awp_region 1 mixed (by kernel_rfl) ?_
      refine rg_q (q_assign (x := .d (.v _)) rfl) ?_
      refine rg_nil ?_
      refine aops_nil ?_
      change Awp _ _ _ _ _
      refine awp_ret ?_
      refine ⟨_, (.cons (.tmp (by exact .d _)) .nil), ?_⟩
      rfl
    ·
      (try simp only [decide_eq_true_eq, decide_eq_false_iff_not, Bool.and_eq_true, Bool.or_eq_true, Bool.and_eq_false_iff, Bool.or_eq_false_iff, Bool.not_eq_true', Bool.not_eq_false', Bool.not_true, Bool.not_false, bif_and, bif_or, Bool.not_not, ne_eq, Decidable.not_not, not_true_eq_false, not_false_eq_true, Int.not_le, Int.not_lt] at hc3)
      have hl1 : a.el.length ≤ 18 := by omega
      refine awp_skip ?_
      change Awp _ _ _ _ _
      refine awp_seq ?_
      refine awp_regionM 10 [none, none, none, none, none, none, none, some 7, some 7, none] mixed (by kernel_rfl) ?_
      refine rgm_q rfl (q_loadA (ds := [_, _, _, _, _, _]) sz26 rfl rfl rfl) ?_
      refine rgm_q rfl (q_call en20 (.cons rfl .nil) rfl (copyLar_p _ (by omega))) ?_
      refine rgm_q rfl (q_loadA (ds := [_, _, _]) sz66 rfl rfl rfl) ?_
      refine rgm_q rfl (q_call en49 (.cons rfl (.cons rfl .nil)) rfl (planeLaw_p _ _)) ?_
      refine rgm_q rfl (q_move (x := .d (.tup _)) rfl) ?_
      refine rgm_q rfl (q_extract rfl rfl) ?_
      refine rgm_q rfl (q_extract rfl rfl) ?_
      refine rgm_m (k := 7) rfl rfl (by rfl) (m_alloc zr33 rfl rfl) ?_
      refine rgm_m (k := 7) rfl rfl (by rfl) (m_store sz33 rfl rfl (by exact .inr ⟨_, rfl⟩) rfl rfl (by decide) rfl) ?_
      refine rgm_q rfl (q_assign (x := .d (.v _)) rfl) ?_
      refine rgm_nil ?_
      refine aops_nil ?_
      change Awp _ _ _ _ _
      refine awp_seq ?_
      refine awp_region 3 mixed (by kernel_rfl) ?_
      refine rg_q (q_loadA (ds := [_, _, _, _, _, _]) sz26 rfl rfl rfl) ?_
      refine rg_q (q_call en21 (.cons rfl .nil) rfl (yarrayErr_p _)) ?_
      refine rg_q (q_assign (x := .d (.v _)) rfl) ?_
      refine rg_nil ?_
      refine aops_nil ?_
      change Awp _ _ _ _ _
      refine awp_seq ?_
      refine awp_seq ?_
      refine awp_region 2 mixed (by kernel_rfl) ?_
      refine rg_q (q_move (x := .d (.v _)) rfl) ?_
      refine rg_q (q_eql rfl rfl) ?_
      refine rg_nil ?_
      refine aops_nil ?_
      change Awp _ _ _ _ _
      refine awp_cond rfl (fun hc7 => ?_) (fun hc7 => ?_)
      ·
        (try simp only [decide_eq_true_eq, decide_eq_false_iff_not, Bool.and_eq_true, Bool.or_eq_true, Bool.and_eq_false_iff, Bool.or_eq_false_iff, Bool.not_eq_true', Bool.not_eq_false', Bool.not_true, Bool.not_false, bif_and, bif_or, Bool.not_not, ne_eq, Decidable.not_not, not_true_eq_false, not_false_eq_true, Int.not_le, Int.not_lt] at hc7)
        have hk0 : (ckLar a).2 = 0 := by omega
        have he : plE a t = trnE t := plE_2 hk0
        refine awp_region 3 mixed (by kernel_rfl) ?_
        refine rg_q (q_loadA (ds := [_, _, _]) sz66 rfl rfl rfl) ?_
        refine rg_q (q_call en40 (.cons rfl .nil) rfl (rcheckTurn_p _)) ?_
        refine rg_q (q_assign (x := .d (.v _)) rfl) ?_
        refine rg_nil ?_
        refine aops_nil ?_
        change Awp _ _ _ _ _
        refine awp_seq ?_
        refine awp_region 0 mixed (by kernel_rfl) ?_
        refine rg_nil ?_
        refine aops_alloc zr33 rfl rfl rfl ?_
        refine aops_nil ?_
        change Awp _ _ _ _ _
        refine Awp.le (le_upB 10 (dlyC ⟨0, []⟩) rfl (.cons (.same _) (.cons (.nil 1) .nil))) ?_
        refine awp_seq ?_
        refine awp_seq ?_
        refine awp_region 2 mixed (by kernel_rfl) ?_
        refine rg_q (q_move (x := .d (.v _)) rfl) ?_
        refine rg_q (q_eql rfl rfl) ?_
        refine rg_nil ?_
        refine aops_nil ?_
        change Awp _ _ _ _ _
        refine awp_cond rfl (fun hc10 => ?_) (fun hc10 => ?_)
        ·
          (try simp only [decide_eq_true_eq, decide_eq_false_iff_not, Bool.and_eq_true, Bool.or_eq_true, Bool.and_eq_false_iff, Bool.or_eq_false_iff, Bool.not_eq_true', Bool.not_eq_false', Bool.not_true, Bool.not_false, bif_and, bif_or, Bool.not_not, ne_eq, Decidable.not_not, not_true_eq_false, not_false_eq_true, Int.not_le, Int.not_lt] at hc10)
          have ht0 : trnE t = 0 := by omega
          have hz : plR a t = bltR (plF a t) a.ck a.el.length := by unfold plR; rw [he, ht0]; rfl
          refine awp_region 6 mixed (by kernel_rfl) ?_
          refine rg_q (q_loadA (ds := [_, _, _, _, _, _]) sz26 rfl rfl rfl) ?_
          refine rg_q (q_loadA (ds := [_, _, _]) sz66 rfl rfl rfl) ?_
          refine rg_q (q_call en50 (.cons rfl (.cons rfl .nil)) rfl (rplane_p a t hk0 ht0)) ?_
          refine rg_q (q_move (x := .d (.tup _)) rfl) ?_
          refine rg_q (q_extract rfl rfl) ?_
          refine rg_q (q_extract rfl rfl) ?_
          refine rg_nil ?_
          refine aops_store sz33 rfl rfl (by exact .inr ⟨_, rfl⟩) rfl rfl (by decide) rfl ?_
          refine aops_q rfl (q_assign (x := .d (.v _)) rfl) ?_
          refine aops_nil ?_
          change Awp _ _ _ _ _
          refine awp_seq ?_
          refine awp_seq ?_
          refine awp_region 9 mixed (by kernel_rfl) ?_
          refine rg_q (q_move (x := .d (.v _)) rfl) ?_
          refine rg_q (q_move (x := .d (.v _)) rfl) ?_
          refine rg_q (q_neq rfl rfl) ?_
          refine rg_q (q_move (x := .d (.v _)) rfl) ?_
          refine rg_g rfl rfl (fun hG => (q_load_refA (ds := [_, _]) sz33 rfl rfl rfl rfl)) ?_
          refine rg_g rfl rfl (fun hG => (q_load_refA (ds := [_, _]) sz33 rfl rfl rfl rfl)) ?_
          refine rg_g rfl rfl (fun hG => (q_call en24 (.cons rfl (.cons rfl .nil)) rfl (same_p _ _))) ?_
          refine rg_g rfl rfl (fun hG => (q_not rfl)) ?_
          refine rg_pick rfl rfl rfl rfl rfl rfl ?_
          refine rg_nil ?_
          refine aops_nil ?_
          change Awp _ _ _ _ _
          refine awp_cond rfl (fun hc12 => ?_) (fun hc12 => ?_)
          ·
            rw [hz] at hc12
            simp at hc12
          ·
            (try simp only [decide_eq_true_eq, decide_eq_false_iff_not, Bool.and_eq_true, Bool.or_eq_true, Bool.and_eq_false_iff, Bool.or_eq_false_iff, Bool.not_eq_true', Bool.not_eq_false', Bool.not_true, Bool.not_false, bif_and, bif_or, Bool.not_not, ne_eq, Decidable.not_not, not_true_eq_false, not_false_eq_true, Int.not_le, Int.not_lt] at hc12)
            refine awp_skip ?_
            change Awp _ _ _ _ _
            refine awp_seq ?_
            refine awp_seq ?_
            refine awp_region 7 mixed (by kernel_rfl) ?_
            refine rg_q (q_move (x := .d (.v _)) rfl) ?_
            refine rg_q (q_neq rfl rfl) ?_
            refine rg_q (q_move (x := .d (.v _)) rfl) ?_
            refine rg_g rfl rfl (fun hG => (q_move (x := .d (.v _)) rfl)) ?_
            refine rg_g rfl rfl (fun hG => (q_call en34 (.cons rfl (.cons rfl (.cons rfl .nil))) rfl (Within_p _ _ _))) ?_
            refine rg_g rfl rfl (fun hG => (q_not rfl)) ?_
            refine rg_pick rfl rfl rfl rfl rfl rfl ?_
            refine rg_nil ?_
            refine aops_nil ?_
            change Awp _ _ _ _ _
            refine awp_cond rfl (fun hc14 => ?_) (fun hc14 => ?_)
            ·
              (try simp only [decide_eq_true_eq, decide_eq_false_iff_not, Bool.and_eq_true, Bool.or_eq_true, Bool.and_eq_false_iff, Bool.or_eq_false_iff, Bool.not_eq_true', Bool.not_eq_false', Bool.not_true, Bool.not_false, bif_and, bif_or, Bool.not_not, ne_eq, Decidable.not_not, not_true_eq_false, not_false_eq_true, Int.not_le, Int.not_lt] at hc14)
              refine awp_seq ?_
              refine awp_region 1 mixed (by kernel_rfl) ?_
              refine rg_q (q_assign (x := .d (.v _)) rfl) ?_
              refine rg_nil ?_
              refine aops_nil ?_
              change Awp _ _ _ _ _
              refine awp_ret ?_
              refine ⟨_, (.cons (.tmp (by exact .d _)) .nil), ?_⟩
              rfl
            ·
              (try simp only [decide_eq_true_eq, decide_eq_false_iff_not, Bool.and_eq_true, Bool.or_eq_true, Bool.and_eq_false_iff, Bool.or_eq_false_iff, Bool.not_eq_true', Bool.not_eq_false', Bool.not_true, Bool.not_false, bif_and, bif_or, Bool.not_not, ne_eq, Decidable.not_not, not_true_eq_false, not_false_eq_true, Int.not_le, Int.not_lt] at hc14)
              simp [inR] at hc14
              obtain ⟨hb0, hb1⟩ := hc14
              have hla := (lar_ok hk0).1
              have hn2 := hla.n2
              refine awp_skip ?_
              change Awp _ _ _ _ _
              refine awp_seq ?_
              refine awp_region 1 mixed (by kernel_rfl) ?_
              refine rg_q (q_loadA (ds := [_, _, _, _, _, _]) sz26 rfl rfl rfl) ?_
              refine rg_nil ?_
              refine aops_callN [60] en20 (copyArrayS_p a (by omega)) rfl (.cons (by exact .d _) .nil) rfl (newS.none rfl rfl) rfl (fun s hs => by rcases List.mem_singleton.1 hs with rfl; exact flat_row shC 28 2 a.el shC_flat) trivial ?_
              refine aops_alloc zr26 rfl rfl rfl ?_
              refine aops_le (le_tbox (k := 11) (ts := [_, _, _, _, _, _]) rfl rfl) ?_
              refine aops_storeAg sz26 rfl rfl rfl rfl rfl rfl rfl ?_
              refine aops_nil ?_
              change Awp _ _ _ _ _
              refine awp_seq ?_
              refine awp_seq ?_
              refine awp_region 1 mixed (by kernel_rfl) ?_
              refine rg_q (q_assign (x := .d (.v _)) rfl) ?_
              refine rg_nil ?_
              refine aops_nil ?_
              change Awp _ _ _ _ _
              refine awp_block ?_
              refine awp_loopH [12, 61, 62, 63, 64, 65, 66, 67, 68, 69, 70, 71, 72, 73, 74, 75, 76, 77, 78, 79, 80] [60] (α := Nat) (fun k => [(12, T.i (k : Int))]) (fun k => [(60, .row 28 2 ((mvL b a.el k).map shC))]) (fun k => k ≤ a.el.length) (fun k => a.el.length - k) 0 (Nat.zero_le _) ?_ ?_
              · exact le_head (ms := [60]) (by repeat (exact Out.refl _)) ⟨(by rfl), trivial⟩ ⟨(by (show Site.row 28 2 _ = Site.row 28 2 _; rw [mvL_zero])), trivial⟩ rfl rfl rfl rfl
              ·
                intro k hk
                refine awp_seq ?_
                refine awp_seq ?_
                refine awp_region 5 mixed (by kernel_rfl) ?_
                refine rg_q (q_move (x := .d (.v _)) rfl) ?_
                refine rg_q (q_fieldAddr_ref fld26_0 rfl) ?_
                refine rg_q (q_load_tb (x := .rs _) sz22 rfl rfl rfl) ?_
                refine rg_q (q_len_rs isl22 rfl rfl) ?_
                refine rg_q (q_lss rfl rfl) ?_
                refine rg_nil ?_
                refine aops_nil ?_
                change Awp _ _ _ _ _
                skip
                (try simp only [List.length_map] at hl63)
                refine awp_cond rfl (fun hc18 => ?_) (fun hc18 => ?_)
                ·
                  (try simp only [decide_eq_true_eq, decide_eq_false_iff_not, Bool.and_eq_true, Bool.or_eq_true, Bool.and_eq_false_iff, Bool.or_eq_false_iff, Bool.not_eq_true', Bool.not_eq_false', Bool.not_true, Bool.not_false, bif_and, bif_or, Bool.not_not, ne_eq, Decidable.not_not, not_true_eq_false, not_false_eq_true, Int.not_le, Int.not_lt] at hc18)
                  try simp only [List.length_map, mvL_len] at hc18
                  have hlt : k < a.el.length := by omega
                  obtain ⟨x, hx⟩ : ∃ x, a.el[k]? = some x := ⟨_, List.getElem?_eq_getElem hlt⟩
                  obtain ⟨e1, e2, e3, e4⟩ := hla.el x (List.mem_of_getElem? hx)
                  have hm := mvL_at (b := b) hx
                  have hmr : ((mvL b a.el k).map shC)[k]? = some (shC x) := by rw [List.getElem?_map, hm]; rfl
                  have hml : ((mvL b a.el k).map shC).length = a.el.length := by rw [List.length_map, mvL_len]
                  have hst := mvL_set (b := b) hx
                  refine awp_skip ?_
                  change Awp _ _ _ _ _
                  refine awp_seq ?_
                  refine awp_block ?_
                  refine awp_region 13 mixed (by kernel_rfl) ?_
                  refine rg_q (q_fieldAddr_ref fld26_0 rfl) ?_
                  refine rg_q (q_load_tb (x := .rs _) sz22 rfl rfl rfl) ?_
                  refine rg_q (q_move (x := .d (.v _)) rfl) ?_
                  refine rg_q (q_fieldAddr_ref fld26_0 rfl) ?_
                  refine rg_q (q_load_tb (x := .rs _) sz22 rfl rfl rfl) ?_
                  refine rg_q (q_move (x := .d (.v _)) rfl) ?_
                  refine rg_q (q_indexAddr_rs sl22 rfl rfl rfl (by omega) (by omega)) ?_
                  refine rg_q (q_fieldAddr_ref fld28_0 rfl) ?_
                  refine rg_q (q_load_row sz3 rfl rfl (i := k) (j := 0) (by omega) hmr rfl) ?_
                  refine rg_q (q_move (x := .d (.v _)) rfl) ?_
                  refine rg_q (q_add rfl rfl (In64.mk (by omega) (by omega))) ?_
                  refine rg_q (q_indexAddr_rs sl22 rfl rfl rfl (by omega) (by omega)) ?_
                  refine rg_q (q_fieldAddr_ref fld28_0 rfl) ?_
                  refine rg_nil ?_
                  refine aops_store_row sz3 rfl rfl (by exact .inl rfl) rfl rfl (i := k) (j := 0) (es' := (mvL b a.el (k + 1)).map shC) (by omega) hmr (by decide) hst ?_
                  refine aops_nil ?_
                  change Awp _ _ _ _ _
                  refine awp_region 3 mixed (by kernel_rfl) ?_
                  refine rg_q (q_move (x := .d (.v _)) rfl) ?_
                  refine rg_q (q_add rfl rfl (In64.mk (by omega) (by omega))) ?_
                  refine rg_q (q_assign (x := .d (.v _)) rfl) ?_
                  refine rg_nil ?_
                  refine aops_nil ?_
                  refine ⟨k + 1, by omega, by omega, ?_⟩
                  exact le_head (ms := [60]) (by repeat (first | exact Out.head rfl rfl | (refine Out.put ?_ rfl) | (refine Out.site ?_ rfl))) ⟨(by rfl), trivial⟩ ⟨(by rfl), trivial⟩ rfl rfl rfl rfl
                ·
                  (try simp only [decide_eq_true_eq, decide_eq_false_iff_not, Bool.and_eq_true, Bool.or_eq_true, Bool.and_eq_false_iff, Bool.or_eq_false_iff, Bool.not_eq_true', Bool.not_eq_false', Bool.not_true, Bool.not_false, bif_and, bif_or, Bool.not_not, ne_eq, Decidable.not_not, not_true_eq_false, not_false_eq_true, Int.not_le, Int.not_lt] at hc18)
                  try simp only [List.length_map, mvL_len] at hc18
                  have hkn : k = a.el.length := by omega
                  subst hkn
                  have hw0 : (mvL b a.el a.el.length).map shC = (mvA b a).el.map shC := by rw [mvL_all]; rfl
                  refine awp_exit ?_
                  change Awp _ _ _ _ _
                  refine awp_seq ?_
                  refine Awp.le (le_freezeTB 11 60 0 (es := (mvA b a).el.map shC) rfl rfl (by show Site.row _ _ _ = _; rw [hw0]) rfl hmine) ?_
                  refine Awp.le (le_boxT 11 (larC (mvA b a)) rfl rfl (by intro j d h; match j, h with | 0, h => cases h; rfl | 1, h => cases h; rfl | 2, h => cases h; rfl | 3, h => cases h; rfl | 4, h => cases h; rfl | 5, h => cases h; rfl)) ?_
                  refine awp_region 6 mixed (by kernel_rfl) ?_
                  refine rg_q (q_load_refA (ds := [_, _, _, _, _, _]) sz26 rfl rfl rfl rfl) ?_
                  refine rg_q (q_loadA (ds := [_, _, _]) sz66 rfl rfl rfl) ?_
                  refine rg_q (q_call en49 (.cons rfl (.cons rfl .nil)) rfl (planeLaw_p (mvA b a) t)) ?_
                  refine rg_q (q_move (x := .d (.tup _)) rfl) ?_
                  refine rg_q (q_extract rfl rfl) ?_
                  refine rg_q (q_extract rfl rfl) ?_
                  refine rg_nil ?_
                  refine aops_alloc zr33 rfl rfl rfl ?_
                  refine aops_store sz33 rfl rfl (by exact .inr ⟨_, rfl⟩) rfl rfl (by decide) rfl ?_
                  refine aops_q rfl (q_assign (x := .d (.v _)) rfl) ?_
                  refine aops_nil ?_
                  change Awp _ _ _ _ _
                  refine awp_seq ?_
                  refine awp_region 12 mixed (by kernel_rfl) ?_
                  refine rg_q (q_move (x := .d (.v _)) rfl) ?_
                  refine rg_q (q_eql rfl rfl) ?_
                  refine rg_q (q_move (x := .d (.v _)) rfl) ?_
                  refine rg_g rfl rfl (fun hG => (q_move (x := .d (.v _)) rfl)) ?_
                  refine rg_g rfl rfl (fun hG => (q_eql rfl rfl)) ?_
                  refine rg_g rfl rfl (fun hG => (q_move (x := .d (.v _)) rfl)) ?_
                  refine rg_g rfl rfl (fun hG => (q_load_refA (ds := [_, _]) sz33 rfl rfl rfl rfl)) ?_
                  refine rg_g rfl rfl (fun hG => (q_load_refA (ds := [_, _]) sz33 rfl rfl rfl rfl)) ?_
                  refine rg_g rfl rfl (fun hG => (q_call en24 (.cons rfl (.cons rfl .nil)) rfl (same_p _ _))) ?_
                  refine rg_pickg rfl rfl rfl rfl rfl rfl rfl rfl ?_
                  refine rg_pick rfl rfl rfl rfl rfl rfl ?_
                  refine rg_q (q_assign (x := .d (.v _)) rfl) ?_
                  refine rg_nil ?_
                  refine aops_nil ?_
                  change Awp _ _ _ _ _
                  refine awp_ret ?_
                  refine ⟨_, (.cons (.tmp (by exact .d _)) .nil), ?_⟩
                  rcases pl_mv (b := b) hk0 ht0 with hq | hq
                  · simp [hq, retD]
                  · rw [hq, hz]; simp [hb0, retD]
        ·
          (try simp only [decide_eq_true_eq, decide_eq_false_iff_not, Bool.and_eq_true, Bool.or_eq_true, Bool.and_eq_false_iff, Bool.or_eq_false_iff, Bool.not_eq_true', Bool.not_eq_false', Bool.not_true, Bool.not_false, bif_and, bif_or, Bool.not_not, ne_eq, Decidable.not_not, not_true_eq_false, not_false_eq_true, Int.not_le, Int.not_lt] at hc10)
          have hz : plR a t = (⟨0, []⟩, trnE t) := by unfold plR; rw [he, if_pos hc10]
          refine awp_skip ?_
          change Awp _ _ _ _ _
          refine awp_seq ?_
          refine awp_seq ?_
          refine awp_region 9 mixed (by kernel_rfl) ?_
          refine rg_q (q_move (x := .d (.v _)) rfl) ?_
          refine rg_q (q_move (x := .d (.v _)) rfl) ?_
          refine rg_q (q_neq rfl rfl) ?_
          refine rg_q (q_move (x := .d (.v _)) rfl) ?_
          refine rg_g rfl rfl (fun hG => (q_load_refA (ds := [_, _]) sz33 rfl rfl rfl rfl)) ?_
          refine rg_g rfl rfl (fun hG => (q_load_refA (ds := [_, _]) sz33 rfl rfl rfl rfl)) ?_
          refine rg_g rfl rfl (fun hG => (q_call en24 (.cons rfl (.cons rfl .nil)) rfl (same_p _ _))) ?_
          refine rg_g rfl rfl (fun hG => (q_not rfl)) ?_
          refine rg_pick rfl rfl rfl rfl rfl rfl ?_
          refine rg_nil ?_
          refine aops_nil ?_
          change Awp _ _ _ _ _
          refine awp_cond rfl (fun hc12 => ?_) (fun hc12 => ?_)
          ·
            rw [hz] at hc12
            simp at hc12
          ·
            (try simp only [decide_eq_true_eq, decide_eq_false_iff_not, Bool.and_eq_true, Bool.or_eq_true, Bool.and_eq_false_iff, Bool.or_eq_false_iff, Bool.not_eq_true', Bool.not_eq_false', Bool.not_true, Bool.not_false, bif_and, bif_or, Bool.not_not, ne_eq, Decidable.not_not, not_true_eq_false, not_false_eq_true, Int.not_le, Int.not_lt] at hc12)
            refine awp_skip ?_
            change Awp _ _ _ _ _
            refine awp_seq ?_
            refine awp_seq ?_
            refine awp_region 7 mixed (by kernel_rfl) ?_
            refine rg_q (q_move (x := .d (.v _)) rfl) ?_
            refine rg_q (q_neq rfl rfl) ?_
            refine rg_q (q_move (x := .d (.v _)) rfl) ?_
            refine rg_g rfl rfl (fun hG => (q_move (x := .d (.v _)) rfl)) ?_
            refine rg_g rfl rfl (fun hG => (q_call en34 (.cons rfl (.cons rfl (.cons rfl .nil))) rfl (Within_p _ _ _))) ?_
            refine rg_g rfl rfl (fun hG => (q_not rfl)) ?_
            refine rg_pick rfl rfl rfl rfl rfl rfl ?_
            refine rg_nil ?_
            refine aops_nil ?_
            change Awp _ _ _ _ _
            refine awp_cond rfl (fun hc14 => ?_) (fun hc14 => ?_)
            ·
              (try simp only [decide_eq_true_eq, decide_eq_false_iff_not, Bool.and_eq_true, Bool.or_eq_true, Bool.and_eq_false_iff, Bool.or_eq_false_iff, Bool.not_eq_true', Bool.not_eq_false', Bool.not_true, Bool.not_false, bif_and, bif_or, Bool.not_not, ne_eq, Decidable.not_not, not_true_eq_false, not_false_eq_true, Int.not_le, Int.not_lt] at hc14)
              refine awp_seq ?_
              refine awp_region 1 mixed (by kernel_rfl) ?_
              refine rg_q (q_assign (x := .d (.v _)) rfl) ?_
              refine rg_nil ?_
              refine aops_nil ?_
              change Awp _ _ _ _ _
              refine awp_ret ?_
              refine ⟨_, (.cons (.tmp (by exact .d _)) .nil), ?_⟩
              rfl
            ·
              simp at hc14
              exact absurd hc14.1 hc10
      ·
        (try simp only [decide_eq_true_eq, decide_eq_false_iff_not, Bool.and_eq_true, Bool.or_eq_true, Bool.and_eq_false_iff, Bool.or_eq_false_iff, Bool.not_eq_true', Bool.not_eq_false', Bool.not_true, Bool.not_false, bif_and, bif_or, Bool.not_not, ne_eq, Decidable.not_not, not_true_eq_false, not_false_eq_true, Int.not_le, Int.not_lt] at hc7)
        have he : plE a t = (ckLar a).2 := plE_1 hc7
        refine awp_skip ?_
        change Awp _ _ _ _ _
        refine awp_seq ?_
        refine awp_region 0 mixed (by kernel_rfl) ?_
        refine rg_nil ?_
        refine aops_alloc zr33 rfl rfl rfl ?_
        refine aops_nil ?_
        change Awp _ _ _ _ _
        refine Awp.le (le_upB 10 (dlyC ⟨0, []⟩) rfl (.cons (.same _) (.cons (.nil 1) .nil))) ?_
        refine awp_seq ?_
        refine awp_seq ?_
        refine awp_region 2 mixed (by kernel_rfl) ?_
        refine rg_q (q_move (x := .d (.v _)) rfl) ?_
        refine rg_q (q_eql rfl rfl) ?_
        refine rg_nil ?_
        refine aops_nil ?_
        change Awp _ _ _ _ _
        refine awp_cond rfl (fun hc10 => ?_) (fun hc10 => ?_)
        ·
          exfalso; (try simp only [decide_eq_true_eq, decide_eq_false_iff_not, Bool.and_eq_true, Bool.or_eq_true, Bool.and_eq_false_iff, Bool.or_eq_false_iff, Bool.not_eq_true', Bool.not_eq_false', Bool.not_true, Bool.not_false, bif_and, bif_or, Bool.not_not, ne_eq, Decidable.not_not, not_true_eq_false, not_false_eq_true, Int.not_le, Int.not_lt] at hc10); omega
        ·
          (try simp only [decide_eq_true_eq, decide_eq_false_iff_not, Bool.and_eq_true, Bool.or_eq_true, Bool.and_eq_false_iff, Bool.or_eq_false_iff, Bool.not_eq_true', Bool.not_eq_false', Bool.not_true, Bool.not_false, bif_and, bif_or, Bool.not_not, ne_eq, Decidable.not_not, not_true_eq_false, not_false_eq_true, Int.not_le, Int.not_lt] at hc10)
          have hz : plR a t = (⟨0, []⟩, (ckLar a).2) := by unfold plR; rw [he, if_pos hc7]
          refine awp_skip ?_
          change Awp _ _ _ _ _
          refine awp_seq ?_
          refine awp_seq ?_
          refine awp_region 9 mixed (by kernel_rfl) ?_
          refine rg_q (q_move (x := .d (.v _)) rfl) ?_
          refine rg_q (q_move (x := .d (.v _)) rfl) ?_
          refine rg_q (q_neq rfl rfl) ?_
          refine rg_q (q_move (x := .d (.v _)) rfl) ?_
          refine rg_g rfl rfl (fun hG => (q_load_refA (ds := [_, _]) sz33 rfl rfl rfl rfl)) ?_
          refine rg_g rfl rfl (fun hG => (q_load_refA (ds := [_, _]) sz33 rfl rfl rfl rfl)) ?_
          refine rg_g rfl rfl (fun hG => (q_call en24 (.cons rfl (.cons rfl .nil)) rfl (same_p _ _))) ?_
          refine rg_g rfl rfl (fun hG => (q_not rfl)) ?_
          refine rg_pick rfl rfl rfl rfl rfl rfl ?_
          refine rg_nil ?_
          refine aops_nil ?_
          change Awp _ _ _ _ _
          refine awp_cond rfl (fun hc12 => ?_) (fun hc12 => ?_)
          ·
            rw [hz] at hc12
            simp at hc12
          ·
            (try simp only [decide_eq_true_eq, decide_eq_false_iff_not, Bool.and_eq_true, Bool.or_eq_true, Bool.and_eq_false_iff, Bool.or_eq_false_iff, Bool.not_eq_true', Bool.not_eq_false', Bool.not_true, Bool.not_false, bif_and, bif_or, Bool.not_not, ne_eq, Decidable.not_not, not_true_eq_false, not_false_eq_true, Int.not_le, Int.not_lt] at hc12)
            refine awp_skip ?_
            change Awp _ _ _ _ _
            refine awp_seq ?_
            refine awp_seq ?_
            refine awp_region 7 mixed (by kernel_rfl) ?_
            refine rg_q (q_move (x := .d (.v _)) rfl) ?_
            refine rg_q (q_neq rfl rfl) ?_
            refine rg_q (q_move (x := .d (.v _)) rfl) ?_
            refine rg_g rfl rfl (fun hG => (q_move (x := .d (.v _)) rfl)) ?_
            refine rg_g rfl rfl (fun hG => (q_call en34 (.cons rfl (.cons rfl (.cons rfl .nil))) rfl (Within_p _ _ _))) ?_
            refine rg_g rfl rfl (fun hG => (q_not rfl)) ?_
            refine rg_pick rfl rfl rfl rfl rfl rfl ?_
            refine rg_nil ?_
            refine aops_nil ?_
            change Awp _ _ _ _ _
            refine awp_cond rfl (fun hc14 => ?_) (fun hc14 => ?_)
            ·
              (try simp only [decide_eq_true_eq, decide_eq_false_iff_not, Bool.and_eq_true, Bool.or_eq_true, Bool.and_eq_false_iff, Bool.or_eq_false_iff, Bool.not_eq_true', Bool.not_eq_false', Bool.not_true, Bool.not_false, bif_and, bif_or, Bool.not_not, ne_eq, Decidable.not_not, not_true_eq_false, not_false_eq_true, Int.not_le, Int.not_lt] at hc14)
              refine awp_seq ?_
              refine awp_region 1 mixed (by kernel_rfl) ?_
              refine rg_q (q_assign (x := .d (.v _)) rfl) ?_
              refine rg_nil ?_
              refine aops_nil ?_
              change Awp _ _ _ _ _
              refine awp_ret ?_
              refine ⟨_, (.cons (.tmp (by exact .d _)) .nil), ?_⟩
              rfl
            ·
              simp at hc14
              exact absurd hc14.1 hc10
end Go.Proofs.YtgeieocphgnipaaGreatDoor.Am.M
