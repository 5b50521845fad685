/- The abstract machine, part 58: a tuple of an aggregate with a row of its own and of data, handed back. Conditions: none. -/
import Derived.Test.YtamaocfjknpadaaAmF
set_option linter.unusedVariables false
set_option linter.unusedSimpArgs false
namespace Go.Proofs.Ytamaocfjknpadaa.Am
open Go Go.RowKit
def tagF (n : Nat) : Option Nat → Value → List Value → Value → Prop := fun _ u vs v => ∃ x us, vs = x :: us ∧ v = .tuple #[.agg (us.take n ++ u :: us.drop n).toArray, x]
abbrev T.tag (k : Nat) (f g : List D) (d : D) : T := .own k ⟨true, false⟩ (d :: (f ++ g)) (tagF f.length)
section
variable {P : Program} {w0 : Cx} {n : Nat} {s : Nat → Site} {ev : Operand → T} {dst : Option Tmp} {ty : TypeId} {pos : String} {after : Array Edge} {g : Option (Nat × Bool)}
theorem q_extract_tag0 {y : Operand} {k : Nat} {u v : List D} {d : D} (hy : ev y = T.tag k u v d) : QOp P w0 n s ev ⟨dst, .extract y 0, ty, pos, after, g⟩ (.ag k u v) :=
  .mk fun a w ok blk val h _ hnew => by
    have q := h y
    rw [hy] at q
    obtain ⟨q1, vs, q2, x, us, rfl, q3⟩ := q
    exact ⟨.agg (us.take u.length ++ val k :: us.drop u.length).toArray, w, by simp [execOp, q3, Instr.extract], Ext.refl w, ⟨q1.1, fun q => by cases q⟩, us, q2.2, rfl⟩
theorem q_extract_tag1 {y : Operand} {k : Nat} {u v : List D} {d : D} (hy : ev y = T.tag k u v d) : QOp P w0 n s ev ⟨dst, .extract y 1, ty, pos, after, g⟩ (.d d) :=
  .mk fun a w ok blk val h _ hnew => by
    have q := h y
    rw [hy] at q
    obtain ⟨q1, vs, q2, x, us, rfl, q3⟩ := q
    exact ⟨x, w, by simp [execOp, q3, Instr.extract], Ext.refl w, q2.1⟩
end
section
variable {P : Program} {w0 : Cx} {st : St}
def RetV (P : Program) (st : St) (t0 t1 : Tmp) (ty0 : TypeId) (f : Nat → Nat) (r : T) : Prop :=
  ∃ (k j m : Nat) (u v : List D) (d : D), st.t t0 = .ref k 0 ∧ st.s k = .tbox (agC j u v) ∧ szB P ty0 true m = true ∧ (agC j u v).length = m ∧ st.t t1 = .d d ∧ shiftT f r = T.tag j u v d
def endV (P : Program) (n : Nat) (t0 t1 : Tmp) (ty0 : TypeId) (m : Nat) (r : T) (ss' : List Site) : Exit → St → Prop
  | .ret, st | .normal, st => ∃ ns : List Nat, RetV P st t0 t1 ty0 (nth ns) r ∧ SitesAt st ns ss' ∧ ns.length = ss'.length ∧ nodupN ns = true ∧ firstN n 0 m ns = true ∧ belowT ss'.length r = true ∧ ss'.all (belowS ss'.length) = true
  | _, _ => False
theorem endv_mk {n : Nat} {t0 t1 : Tmp} {ty0 : TypeId} {m : Nat} {r : T} {ss' : List Site} {e : Exit} (he : e = .ret ∨ e = .normal) (ns : List Nat) (hr : RetV P st t0 t1 ty0 (nth ns) r) (hs : holdS st (nth ns) ns ss')
    (hc : (Nat.beq ns.length ss'.length && nodupN ns && firstN n 0 m ns && belowT ss'.length r && ss'.all (belowS ss'.length)) = true) : endV P n t0 t1 ty0 m r ss' e st := by
  simp only [Bool.and_eq_true] at hc
  obtain ⟨⟨⟨⟨h1, h2⟩, h3⟩, h4⟩, h5⟩ := hc
  have : ∃ ns : List Nat, RetV P st t0 t1 ty0 (nth ns) r ∧ SitesAt st ns ss' ∧ ns.length = ss'.length ∧ nodupN ns = true ∧ firstN n 0 m ns = true ∧ belowT ss'.length r = true ∧ ss'.all (belowS ss'.length) = true :=
    ⟨ns, hr, hs.spec, Nat.eq_of_beq_eq_true h1, h2, h3, h4, h5⟩
  rcases he with rfl | rfl <;> exact this
theorem pcs_of_awpV {f : FuncId} {fn : Func} {c : Code} {n : Nat} {args : List T} {ss ss' : List Site} {r : T} {t0 t1 : Tmp} {ty0 : TypeId} (hf : P.funcs[f]? = some fn) (hb : fn.body = some c) (hn : fn.ntmps = n) (hrs : fn.results = #[.cell t0 ty0, .tmp t1]) (hl : args.length ≤ n)
    (hs0 : ss = []) (h : ∀ w0 : Cx, (∀ b, w0.mine b → w0.ok b) → w0.rnd = none → (∀ k, w0.pin k = none) → Awp P w0 c (endV P n t0 t1 ty0 ss.length r ss') (startS n args ss)) : PCS P f args ss r ss' := by
  intro w ok blk val vs hblk hinj hnone hsite hL
  refine (callsIn_wide (n := 1)).1 (callsIn_of_wp_marks hf hb trivial ?_ rfl)
  let cx : Cx := ⟨w, ok, fun b => ∃ i, blk i = some b, fun k => bif Nat.ble n k && (getS ss (k - n)).isVar then blk (k - n) else none, fun _ => none, none⟩
  let blkE : Nat → Option Nat := fun k => bif Nat.ble n k then blk (k - n) else none
  let valE : Nat → Value := fun k => val (k - n)
  have hge : ∀ k, Nat.ble n (n + k) = true := fun k => by rw [Nat.ble_eq]; omega
  have hE : ∀ k b, blkE k = some b → n ≤ k ∧ blk (k - n) = some b := fun k b hk => by
    simp only [blkE] at hk
    cases hb : Nat.ble n k with
    | false => rw [hb] at hk; cases hk
    | true => rw [hb] at hk; exact ⟨Nat.le_of_ble_eq_true hb, hk⟩
  have hokE : ∀ b, b < w.heap.size → ok b → okOf cx blkE b := fun b hb h => ⟨.inl h, fun k hk => (hblk _ _ (hE k b hk).2).2 h⟩
  have hkE : ∀ k, blkE (n + k) = blk k ∧ valE (n + k) = val k ∧ inS n ss (n + k) = shiftS (n + ·) (getS ss k) := fun k => by
    simp only [blkE, valE, inS, hge k, cond_true, Nat.add_sub_cancel_left]
    exact ⟨trivial, trivial, trivial⟩
  have h0 : Hold cx (startS n args ss) { tmps := vs.toArray ++ Array.replicate (fn.ntmps - vs.toArray.size) undef, defers := [] } w blkE valE := by
    refine ⟨⟨rfl, rfl, rfl, Nat.le_refl _, fun _ _ _ => rfl⟩, Kept.nil rfl rfl, ?_, fun k b hk => ⟨.inr ⟨_, (hE k b hk).2⟩, (hblk _ _ (hE k b hk).2).1⟩, fun k k' b hk hk' => ?_, fun k b hk => ?_, fun k => ?_, fun t => ?_⟩
    · have := hL.length
      simp [startS, hn]; omega
    · have e := hinj _ _ _ (hE k b hk).2 (hE k' b hk').2
      have := (hE k b hk).1
      have := (hE k' b hk').1
      omega
    · simp only [cx] at hk
      cases hb : Nat.ble n k && (getS ss (k - n)).isVar with
      | false => rw [hb] at hk; cases hk
      | true =>
        rw [hb] at hk
        rw [Bool.and_eq_true] at hb
        refine ⟨by simp only [blkE, hb.1, cond_true]; exact hk, ?_, Nat.le_of_ble_eq_true hb.1⟩
        show (inS n ss k).isVar = true
        simp only [inS, hb.1, cond_true]
        have h2 := hb.2
        cases hs : getS ss (k - n) <;> rw [hs] at h2 <;> first | rfl | cases h2
    · show SiteIn _ _ _ _ (inS n ss) _ _ (inS n ss k)
      cases hb : Nat.ble n k with
      | false => simp only [blkE, inS, hb, cond_false]; rfl
      | true =>
        obtain ⟨i, rfl⟩ : ∃ i, k = n + i := ⟨k - n, by have := Nat.le_of_ble_eq_true hb; omega⟩
        obtain ⟨e1, e2, e3⟩ := hkE i
        rw [e1, e2, e3]
        exact (hsite i).shift hokE fun _ _ _ _ j _ => hkE j
    · have := argTT_rep (blk' := blkE) (val' := valE) (s' := inS n ss) (f := (n + ·)) (fn.ntmps - vs.toArray.size) hokE hkE hL t
      have e : (vs.toArray ++ Array.replicate (fn.ntmps - vs.toArray.size) undef) = (vs ++ List.replicate (fn.ntmps - vs.toArray.size) undef).toArray := by simp
      show RepT _ _ _ _ _ _ ((vs.toArray ++ Array.replicate (fn.ntmps - vs.toArray.size) undef).getD t undef)
      rw [e, Array.getD_eq_getD_getElem?, List.getElem?_toArray, ← List.getD_eq_getElem?_getD]
      exact this
  have fin : ∀ (a : Act) (w' : World) (st' : St), (∃ ns : List Nat, RetV P st' t0 t1 ty0 (nth ns) r ∧ SitesAt st' ns ss' ∧ ns.length = ss'.length ∧ nodupN ns = true ∧ firstN n 0 ss.length ns = true ∧ belowT ss'.length r = true ∧ ss'.all (belowS ss'.length) = true) → Holds cx st' a w' →
      ∃ v, (results fn a.tmps).run P w' = .ok v w' ∧ ∃ v' blk' val', Ending.returned v = .returned v' ∧ (∀ i, (getS ss i).isVar = true → blk' i = blk i) ∧ (∀ i b, blk' i = some b → (∃ j, blk j = some b) ∨ w.heap.size ≤ b) ∧ (∀ i b, blk' i = some b → b < w'.heap.size) ∧
      (∀ i j b, blk' i = some b → blk' j = some b → i = j) ∧ ExtM ⟨w, ok, fun b => ∃ i, blk i = some b, fun _ => none, fun _ => none, none⟩ w' ∧
      (∀ i, SiteIn w' (fun b => (ok b ∨ w.heap.size ≤ b) ∧ ∀ i, blk' i ≠ some b) blk' val' (getS ss') (blk' i) (val' i) (getS ss' i)) ∧
      RepT w' (fun b => (ok b ∨ w.heap.size ≤ b) ∧ ∀ i, blk' i ≠ some b) blk' val' (getS ss') r v' := by
    intro a w' st' ⟨ns, hret, hsat, hlen, hnd, hfst, hbr, hbs⟩ ⟨blkF, valF, hh⟩
    let blk' : Nat → Option Nat := fun i => if i < ss'.length then blkF (nth ns i) else none
    let val' : Nat → Value := fun i => valF (nth ns i)
    have hb' : ∀ i b, blk' i = some b → i < ss'.length ∧ blkF (nth ns i) = some b := fun i b h => by
      simp only [blk'] at h
      split at h
      · exact ⟨by assumption, h⟩
      · cases h
    have hok' : ∀ b, b < w'.heap.size → okOf cx blkF b → (ok b ∨ w.heap.size ≤ b) ∧ ∀ i, blk' i ≠ some b := fun b _ h => ⟨h.1, fun i hi => h.2 _ (hb' i b hi).2⟩
    have hrel : ∀ k, k < ss'.length → blk' k = blkF (nth ns k) ∧ val' k = valF (nth ns k) ∧ st'.s (nth ns k) = shiftS (nth ns) (getS ss' k) := fun k hk => ⟨if_pos hk, rfl, hsat k hk⟩
    have hbelow : ∀ (ss : List Site) (m i : Nat), ss.all (belowS m) = true → belowS m (getS ss i) = true := by
      intro ss
      induction ss with
      | nil => intro m i _; rfl
      | cons x xs ih =>
        intro m i h
        simp only [List.all_cons, Bool.and_eq_true] at h
        cases i with
        | zero => exact h.1
        | succ i => exact ih m i h.2
    have sites : ∀ i, SiteIn w' (fun b => (ok b ∨ w.heap.size ≤ b) ∧ ∀ i, blk' i ≠ some b) blk' val' (getS ss') (blk' i) (val' i) (getS ss' i) := fun i => by
      rcases Nat.lt_or_ge i ss'.length with hi | hi
      · have h1 := hh.site (nth ns i)
        rw [hsat i hi] at h1
        rw [(hrel i hi).1]
        refine h1.unshift hok' fun cs hcs y hy k hk => ?_
        have h2 := hbelow ss' ss'.length i hbs
        rw [hcs] at h2
        exact hrel k (belowT_lt (List.all_eq_true.1 h2 y hy) k hk)
      · rw [getS_none hi]
        show blk' i = none
        exact if_neg (by omega)
    have repr : ∀ v, RepT w' (okOf cx blkF) blkF valF st'.s (shiftT (nth ns) r) v → RepT w' (fun b => (ok b ∨ w.heap.size ≤ b) ∧ ∀ i, blk' i ≠ some b) blk' val' (getS ss') r v := fun v h =>
      h.unshift hok' fun k hk => hrel k (belowT_lt hbr k hk)
    have hsl : ss.length ≤ ss'.length ∨ ss = [] := by
      rcases Nat.lt_or_ge ss'.length ss.length with h | h
      · right
        exfalso
        have : ∀ (m i : Nat) (ns : List Nat), firstN n i m ns = true → m ≤ ns.length := by
          intro m
          induction m with
          | zero => intro i ns _; omega
          | succ m ih =>
            intro i ns h
            cases ns with
            | nil => simp [firstN] at h
            | cons x xs =>
              simp only [firstN, Bool.and_eq_true] at h
              have := ih _ _ h.2
              simp; omega
        have := this _ _ _ hfst
        omega
      · exact .inl h
    have hname : ∀ i, i < ss.length → nth ns i = n + i := fun i hi => by
      have := nth_firstN hfst i hi
      rw [Nat.zero_add] at this; exact this
    have common : (∀ i, (getS ss i).isVar = true → blk' i = blk i) ∧ (∀ i b, blk' i = some b → (∃ j, blk j = some b) ∨ w.heap.size ≤ b) ∧ (∀ i b, blk' i = some b → b < w'.heap.size) ∧
        (∀ i j b, blk' i = some b → blk' j = some b → i = j) ∧ ExtM ⟨w, ok, fun b => ∃ i, blk i = some b, fun _ => none, fun _ => none, none⟩ w' := by
      refine ⟨fun i hi => ?_, fun i b hb => ?_, fun i b hb => (hh.new _ _ (hb' i b hb).2).2, fun i j b h1 h2 => ?_, ⟨hh.ext.os, hh.ext.tape, hh.ext.output, hh.ext.size, hh.ext.block⟩⟩
      · have him : i < ss.length := by
          rcases Nat.lt_or_ge i ss.length with h | h
          · exact h
          · rw [getS_none h] at hi; cases hi
        have hi' : i < ss'.length := by
          rcases hsl with h | h
          · omega
          · subst h; simp at him
        rw [(hrel i hi').1, hname i him]
        have hs := hsite i
        obtain ⟨b, hb⟩ : ∃ b, blk i = some b := by
          cases hg : getS ss i <;> rw [hg] at hs hi <;> first | (cases hi; done) | (obtain ⟨b, _, _, h, _⟩ := hs; exact ⟨b, h⟩) | (obtain ⟨b, h, _⟩ := hs; exact ⟨b, h⟩)
        have hp := hh.pin (n + i) b (by
          show (bif Nat.ble n (n + i) && (getS ss (n + i - n)).isVar then blk (n + i - n) else none) = some b
          rw [Nat.add_sub_cancel_left, hge i, hi]
          exact hb)
        rw [hp.1, hb]
      · rcases (hh.new _ _ (hb' i b hb).2).1 with h | h
        · exact .inr h
        · exact .inl h
      · have e := hh.inj _ _ b (hb' i b h1).2 (hb' j b h2).2
        exact nth_inj hnd (by rw [hlen]; exact (hb' i b h1).1) (by rw [hlen]; exact (hb' j b h2).1) e
    obtain ⟨c1, c2, c4, c5, c6⟩ := common
    obtain ⟨k, j, m, u, z, d, a1, a2, a3, a4, a6, a5⟩ := hret
    have h1 := hh.tmp t0
    rw [a1] at h1
    obtain ⟨_, b, hb, hv⟩ := h1
    have h2 := hh.site k
    rw [a2] at h2
    obtain ⟨b', e, vals, hb2, hheap, hsz, hc⟩ := h2
    rw [hb] at hb2; cases hb2
    have hld := run_loadBlock (P := P) hheap
    rw [hsz, a4] at hld
    have r1 := agC_out (vs := vals.toList) (w := w') (ok := okOf cx blkF) (blk := blkF) (val := valF) (s := st'.s) ⟨by simpa using hsz, fun i x hx => by
      obtain ⟨y, hy, h3⟩ := hc i x hx
      exact ⟨y, by simpa using hy, h3⟩⟩
    have hr1 : (readVar a.tmps (.cell t0 ty0)).run P w' = .ok (.agg vals) w' := by
      simp only [readVar, Sem.run_bind, hv, asAddr, Sem.run_pure, Result.andThen_ok, loadVar, szB_agg a3, if_true, szB_size a3, hld]
    have h6 := hh.tmp t1
    rw [a6] at h6
    have hr2 : (readVar a.tmps (.tmp t1)).run P w' = .ok (a.tmps.getD t1 undef) w' := by simp [readVar]
    have : (results fn a.tmps).run P w' = .ok (.tuple #[.agg vals, a.tmps.getD t1 undef]) w' := by
      have e0 : results fn a.tmps = (do let vs ← fn.results.mapM (readVar a.tmps); pure (if h : vs.size = 1 then vs[0] else .tuple vs)) := by
        unfold results readVar
        rfl
      have hm : (fn.results.mapM (readVar a.tmps)).run P w' = .ok #[.agg vals, a.tmps.getD t1 undef] w' := by
        rw [hrs, show (#[ResultVar.cell t0 ty0, ResultVar.tmp t1] : Array ResultVar) = [ResultVar.cell t0 ty0, ResultVar.tmp t1].toArray from rfl, List.mapM_toArray]
        simp [hr1, hr2]
      rw [e0]
      simp only [Sem.run_bind, hm, Result.andThen_ok, Sem.run_pure]
      rfl
    obtain ⟨q1, us, q2, q3⟩ := r1
    exact ⟨_, this, _, blk', val', rfl, c1, c2, c4, c5, c6, sites, repr _ (by rw [a5]; exact ⟨⟨q1.1, fun q => by cases q⟩, _ :: us, ⟨h6, q2⟩, _, us, rfl, by rw [show vals = vals.toList.toArray by simp]; exact congrArg (fun x => Value.tuple #[x, a.tmps.getD t1 undef]) q3⟩)⟩
  refine wpIn_mono (h cx (fun b hb => by obtain ⟨i, hi⟩ := hb; subst hs0; rw [hnone i (Nat.zero_le _)] at hi; cases hi) rfl (fun k => by subst hs0; show (bif Nat.ble n k && (getS [] (k - n)).isVar then blk (k - n) else none) = none; rw [show (getS [] (k - n)).isVar = false from rfl, Bool.and_false]; rfl) Fence.wide 1 ⟨.inl rfl, rfl⟩ _ w ⟨_, _, h0⟩) fun e a w' ⟨st', hR, hH⟩ => ?_
  cases e with
  | normal =>
    obtain ⟨ms, m1, m2, m3, hH'⟩ := hH.shut rfl
    show LeavesInM _ _ _ _ _ _ _ _ _
    rw [m1]
    exact shut_leaves ms w' m2 m3 (fin { a with defers := [] } (shut ms w') st' hR hH')
  | ret =>
    obtain ⟨ms, m1, m2, m3, hH'⟩ := hH.shut rfl
    show LeavesInM _ _ _ _ _ _ _ _ _
    rw [m1]
    exact shut_leaves ms w' m2 m3 (fin { a with defers := [] } (shut ms w') st' hR hH')
  | exit id => exact hR.elim
  | goto l => exact hR.elim
  | panic c => exact hR.elim
  | outgrown => exact hR.elim


end
section
variable {P : Program} {w0 : Cx} {n : Nat} {s : Nat → Site} {ev : Operand → T} {ty : TypeId} {pos : String} {after : Array Edge}
theorem m_storeTR {t : TypeId} {y x : Operand} {k o j : Nat} {cs ts : List T} (ht : szB P t false 1 = true) (hy : ev y = .ref k o) (hx : ev x = .rs j) (hk : s k = .tbox cs) (ho : o + 1 ≤ cs.length) (hts : setTs cs o [.rs j] = ts) :
    MOp P w0 n s ev ⟨none, .store t y x, ty, pos, after, none⟩ k (.tbox ts) .dead :=
  fun st _ hk' _ hev _ => step_of_aops rfl fun ops rest R h => aops_storeT (z := .rs j) (k := k) (cs := cs) ht (live_ev hev hy (by simp)) (live_ev hev hx (by simp)) rfl (hk'.trans hk) ho hts h
theorem m_storeTD {t : TypeId} {y x : Operand} {k o : Nat} {X : D} {cs ts : List T} (ht : szB P t false 1 = true) (hy : ev y = .ref k o) (hx : ev x = .d X) (h1 : (T.d X).one = true) (hk : s k = .tbox cs) (ho : o + 1 ≤ cs.length) (hts : setTs cs o [.d X] = ts) :
    MOp P w0 n s ev ⟨none, .store t y x, ty, pos, after, none⟩ k (.tbox ts) .dead :=
  fun st _ hk' _ hev _ => step_of_aops rfl fun ops rest R h => aops_storeT (z := .d X) (k := k) (cs := cs) ht (live_ev hev hy (by simp)) (live_ev hev hx (by simp)) h1 (hk'.trans hk) ho hts h
end
end Go.Proofs.Ytamaocfjknpadaa.Am
