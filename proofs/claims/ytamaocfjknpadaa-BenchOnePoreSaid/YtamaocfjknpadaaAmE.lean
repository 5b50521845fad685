/- The abstract machine, parts 36 to 40. Conditions: none. -/
import Derived.Laws.CopyRow
import Derived.Test.YtamaocfjknpadaaAmD
set_option linter.unusedVariables false
set_option linter.unusedSimpArgs false
namespace Go.Proofs.Ytamaocfjknpadaa.Am
open Go Go.RowKit

section
variable {P : Program} {w0 : Cx} {ops : List Oper} {rest : List Oper} {R : Exit → St → Prop} {st : St} {ty : TypeId} {pos : String} {after : Array Edge}
theorem Ext.newRow {w : World} {o : Obj} {cs : Array Value} : Ext w ((w.alloc o).setRow w.heap.size cs) := by
  have h := (Ext.refl w).alloc o
  exact ⟨h.os, h.tape, h.output, by rw [setRow_size]; exact h.size, fun k hk => by rw [setRow_block (by omega)]; exact h.block k hk⟩
theorem aops_allocD {d : Nat} {e t : TypeId} {agg : Bool} {m : Nat} {z : Value} {x : Operand} {X : D} {ty' : TypeId} {pos' : String} {after' : Array Edge} (hz : zrB P e z) (hzs : z.cells.size = m) (ht : szB P t agg m = true) (hxd : (match x with | .tmp q => Nat.beq q d | _ => false) = false) (hx : st.ev x = .d X) (hX : X.sc = true ∨ ∃ cs, X = .agg cs) (hm : X.cells.length = m)
    (hd : Nat.blt d st.n = true) (h : Aops P w0 ops rest R (st.put (some d) (.d (.pt X.cells 0)))) :
    Aops P w0 ops (⟨some d, .alloc e, ty, pos, after, none⟩ :: ⟨none, .store t (.tmp d) x, ty', pos', after', none⟩ :: rest) R st := by
  intro F mm hF a w ⟨blk, val, hh⟩
  rw [Nat.blt_eq] at hd
  unfold wpListIn
  rw [if_pos (by simp [Region.wanted])]
  refine (wp_value (v := .pointer (some ⟨w.heap.size, 0, none⟩)) (w' := w.alloc (.cells z.cells e)) (by simp [execOp, Instr.alloc, run_zero hz, newVar, newRow]) (K := fun a' w' => a' = a.put (some d) (.pointer (some ⟨w.heap.size, 0, none⟩)) ∧ w' = w.alloc (.cells z.cells e)) ⟨rfl, rfl⟩).to hF ?_
  intro a2 w2 h2
  rw [h2.1, h2.2]
  unfold wpListIn
  rw [if_pos (by simp [Region.wanted])]
  have hs1 : d < a.tmps.size := by rw [hh.size]; exact hd
  have hev : (a.put (some d) (.pointer (some ⟨w.heap.size, 0, none⟩))).eval (.tmp d) = .pointer (some ⟨w.heap.size, 0, none⟩) := by simp [Act.eval, Act.put, hs1]
  have hevx : (a.put (some d) (.pointer (some ⟨w.heap.size, 0, none⟩))).eval x = a.eval x := by
    cases x with
    | tmp q =>
      have hq : q ≠ d := fun e => by subst e; simp at hxd
      simp [Act.eval, Act.put, Ne.symm hq]
    | _ => rfl
  have hr : Rep w (okOf w0 blk) X (a.eval x) := by have := hh.ev x; rw [hx] at this; exact this
  obtain ⟨hL, hs⟩ := cells_inv hr hX
  have hcl : (a.eval x).cells.size = m := by rw [← hm, ← hL.length, Array.length_toList]
  have hheap : (w.alloc (.cells z.cells e)).heap[w.heap.size]? = some (.cells z.cells e (0, 0)) := new_block _ _
  have hrun := run_storeAt (P := P) (o := 0) (v := a.eval x) ht hcl hheap (by omega) (hL.mem hs)
  have hcs : (z.cells.toList.take 0 ++ (a.eval x).cells.toList ++ z.cells.toList.drop (0 + m)).toArray = (a.eval x).cells := by
    rw [List.take_zero, List.nil_append, Nat.zero_add, List.drop_of_length_le (by rw [Array.length_toList]; omega), List.append_nil]
  rw [hcs] at hrun
  have hE : Ext w ((w.alloc (.cells z.cells e)).setRow w.heap.size (a.eval x).cells) := Ext.newRow
  have hblk : ((w.alloc (.cells z.cells e)).setRow w.heap.size (a.eval x).cells).heap[w.heap.size]? = some (.cells (a.eval x).cells e (0, 0)) := setRow_same hheap
  refine (show OW P w0 _ _ _ (fun a' w' => a' = a.put (some d) (.pointer (some ⟨w.heap.size, 0, none⟩)) ∧ w' = (w.alloc (.cells z.cells e)).setRow w.heap.size (a.eval x).cells) from ow_of_wp (fun c hc => by cases hc) (by
    unfold Oper.wp
    rw [show (execOp (a.put (some d) (.pointer (some ⟨w.heap.size, 0, none⟩))).eval ⟨none, .store t (.tmp d) x, ty', pos', after', none⟩).run P (w.alloc (.cells z.cells e)) = .ok .skip ((w.alloc (.cells z.cells e)).setRow w.heap.size (a.eval x).cells) by simp [execOp, hev, hevx, hrun]]
    exact ⟨rfl, rfl⟩)).to hF ?_
  intro a3 w3 h3
  rw [h3.1, h3.2]
  refine h F mm hF _ _ ⟨blk, val, put_hold (hh.ext' hE) hd ?_⟩
  have hok : okOf w0 blk w.heap.size := ⟨.inr hh.ext.size, fun k hk => by have := (hh.new k _ hk).2; omega⟩
  have hget : ∀ (j : Nat) (dj : D), X.cells[j]? = some dj → ∃ v, (a.eval x).cells[j]? = some v ∧ Rep w (okOf w0 blk) dj v := fun j dj hj => by
    obtain ⟨v, hv, h4⟩ := hL.at_ hj
    exact ⟨v, by simpa using hv, h4⟩
  refine Rep.pt X.cells 0 w.heap.size 0 (fun j => (a.eval x).cells.getD j undef) (heap_lt hblk) hok hs (fun j dj hj => ?_) fun j dj hj => ?_
  · obtain ⟨v, hv, _⟩ := hget j dj hj
    rw [cell_of_block hblk, Nat.zero_add, hv, getD_val hv]
  · obtain ⟨v, hv, h4⟩ := hget j dj hj
    rw [getD_val hv]
    exact h4.ext hE fun _ _ h => h
end
open Go Go.RowKit

section
variable {P : Program} {w0 : Cx} {n : Nat} {s : Nat → Site} {ev : Operand → T} {dst : Option Tmp} {ty : TypeId} {pos : String} {after : Array Edge} {g : Option (Nat × Bool)}
end
open Go Go.RowKit

section
variable {P : Program} {w0 : Cx}
end
open Go Go.RowKit

section
variable {P : Program} {w0 : Cx} {st : St}
def RetA (P : Program) (st : St) (t0 : Tmp) (ty0 : TypeId) (f : Nat → Nat) (r : T) : Prop :=
  ∃ (k j m : Nat) (u v : List D), st.t t0 = .ref k 0 ∧ st.s k = .tbox (agC j u v) ∧ szB P ty0 true m = true ∧ (agC j u v).length = m ∧ shiftT f r = .ag j u v
def endA (P : Program) (n : Nat) (t0 : Tmp) (ty0 : TypeId) (m : Nat) (r : T) (ss' : List Site) : Exit → St → Prop
  | .ret, st | .normal, st => ∃ ns : List Nat, RetA P st t0 ty0 (nth ns) r ∧ SitesAt st ns ss' ∧ ns.length = ss'.length ∧ nodupN ns = true ∧ firstN n 0 m ns = true ∧ belowT ss'.length r = true ∧ ss'.all (belowS ss'.length) = true
  | _, _ => False
theorem enda_mk {n : Nat} {t0 : Tmp} {ty0 : TypeId} {m : Nat} {r : T} {ss' : List Site} {e : Exit} (he : e = .ret ∨ e = .normal) (ns : List Nat) (hr : RetA P st t0 ty0 (nth ns) r) (hs : holdS st (nth ns) ns ss')
    (hc : (Nat.beq ns.length ss'.length && nodupN ns && firstN n 0 m ns && belowT ss'.length r && ss'.all (belowS ss'.length)) = true) : endA P n t0 ty0 m r ss' e st := by
  simp only [Bool.and_eq_true] at hc
  obtain ⟨⟨⟨⟨h1, h2⟩, h3⟩, h4⟩, h5⟩ := hc
  have : ∃ ns : List Nat, RetA P st t0 ty0 (nth ns) r ∧ SitesAt st ns ss' ∧ ns.length = ss'.length ∧ nodupN ns = true ∧ firstN n 0 m ns = true ∧ belowT ss'.length r = true ∧ ss'.all (belowS ss'.length) = true :=
    ⟨ns, hr, hs.spec, Nat.eq_of_beq_eq_true h1, h2, h3, h4, h5⟩
  rcases he with rfl | rfl <;> exact this
theorem pcs_of_awpA {f : FuncId} {fn : Func} {c : Code} {n : Nat} {args : List T} {ss ss' : List Site} {r : T} {t0 : Tmp} {ty0 : TypeId} (hf : P.funcs[f]? = some fn) (hb : fn.body = some c) (hn : fn.ntmps = n) (hrs : fn.results = #[.cell t0 ty0]) (hl : args.length ≤ n)
    (h : ∀ w0 : Cx, w0.rnd = none → Awp P w0 c (endA P n t0 ty0 ss.length r ss') (startS n args ss)) : PCS P f args ss r ss' := by
  intro w ok blk val vs hblk hinj hnone hsite hL
  refine (callsIn_wide (n := 1)).1 (callsIn_of_wp_marks hf hb trivial ?_ rfl)
  let cx : Cx := ⟨w, ok, fun b => ∃ i, blk i = some b, fun k => bif Nat.ble n k && (getS ss (k - n)).isVar then blk (k - n) else none, fun _ => none, none⟩
  let blkE : Nat → Option Nat := fun k => bif Nat.ble n k then blk (k - n) else none
  let valE : Nat → Value := fun k => val (k - n)
  have hge : ∀ k, Nat.ble n (n + k) = true := fun k => by rw [Nat.ble_eq]; omega
  have hE : ∀ k b, blkE k = some b → n ≤ k ∧ blk (k - n) = some b := fun k b hk => by
    simp only [blkE] at hk
    cases hb : Nat.ble n k with
    | false => rw [hb] at hk; cases hk
    | true => rw [hb] at hk; exact ⟨Nat.le_of_ble_eq_true hb, hk⟩
  have hokE : ∀ b, b < w.heap.size → ok b → okOf cx blkE b := fun b hb h => ⟨.inl h, fun k hk => (hblk _ _ (hE k b hk).2).2 h⟩
  have hkE : ∀ k, blkE (n + k) = blk k ∧ valE (n + k) = val k ∧ inS n ss (n + k) = shiftS (n + ·) (getS ss k) := fun k => by
    simp only [blkE, valE, inS, hge k, cond_true, Nat.add_sub_cancel_left]
    exact ⟨trivial, trivial, trivial⟩
  have h0 : Hold cx (startS n args ss) { tmps := vs.toArray ++ Array.replicate (fn.ntmps - vs.toArray.size) undef, defers := [] } w blkE valE := by
    refine ⟨⟨rfl, rfl, rfl, Nat.le_refl _, fun _ _ _ => rfl⟩, Kept.nil rfl rfl, ?_, fun k b hk => ⟨.inr ⟨_, (hE k b hk).2⟩, (hblk _ _ (hE k b hk).2).1⟩, fun k k' b hk hk' => ?_, fun k b hk => ?_, fun k => ?_, fun t => ?_⟩
    · have := hL.length
      simp [startS, hn]; omega
    · have e := hinj _ _ _ (hE k b hk).2 (hE k' b hk').2
      have := (hE k b hk).1
      have := (hE k' b hk').1
      omega
    · simp only [cx] at hk
      cases hb : Nat.ble n k && (getS ss (k - n)).isVar with
      | false => rw [hb] at hk; cases hk
      | true =>
        rw [hb] at hk
        rw [Bool.and_eq_true] at hb
        refine ⟨by simp only [blkE, hb.1, cond_true]; exact hk, ?_, Nat.le_of_ble_eq_true hb.1⟩
        show (inS n ss k).isVar = true
        simp only [inS, hb.1, cond_true]
        have h2 := hb.2
        cases hs : getS ss (k - n) <;> rw [hs] at h2 <;> first | rfl | cases h2
    · show SiteIn _ _ _ _ (inS n ss) _ _ (inS n ss k)
      cases hb : Nat.ble n k with
      | false => simp only [blkE, inS, hb, cond_false]; rfl
      | true =>
        obtain ⟨i, rfl⟩ : ∃ i, k = n + i := ⟨k - n, by have := Nat.le_of_ble_eq_true hb; omega⟩
        obtain ⟨e1, e2, e3⟩ := hkE i
        rw [e1, e2, e3]
        exact (hsite i).shift hokE fun _ _ _ _ j _ => hkE j
    · have := argTT_rep (blk' := blkE) (val' := valE) (s' := inS n ss) (f := (n + ·)) (fn.ntmps - vs.toArray.size) hokE hkE hL t
      have e : (vs.toArray ++ Array.replicate (fn.ntmps - vs.toArray.size) undef) = (vs ++ List.replicate (fn.ntmps - vs.toArray.size) undef).toArray := by simp
      show RepT _ _ _ _ _ _ ((vs.toArray ++ Array.replicate (fn.ntmps - vs.toArray.size) undef).getD t undef)
      rw [e, Array.getD_eq_getD_getElem?, List.getElem?_toArray, ← List.getD_eq_getElem?_getD]
      exact this
  have fin : ∀ (a : Act) (w' : World) (st' : St), (∃ ns : List Nat, RetA P st' t0 ty0 (nth ns) r ∧ SitesAt st' ns ss' ∧ ns.length = ss'.length ∧ nodupN ns = true ∧ firstN n 0 ss.length ns = true ∧ belowT ss'.length r = true ∧ ss'.all (belowS ss'.length) = true) → Holds cx st' a w' →
      ∃ v, (results fn a.tmps).run P w' = .ok v w' ∧ ∃ v' blk' val', Ending.returned v = .returned v' ∧ (∀ i, (getS ss i).isVar = true → blk' i = blk i) ∧ (∀ i b, blk' i = some b → (∃ j, blk j = some b) ∨ w.heap.size ≤ b) ∧ (∀ i b, blk' i = some b → b < w'.heap.size) ∧
      (∀ i j b, blk' i = some b → blk' j = some b → i = j) ∧ ExtM ⟨w, ok, fun b => ∃ i, blk i = some b, fun _ => none, fun _ => none, none⟩ w' ∧
      (∀ i, SiteIn w' (fun b => (ok b ∨ w.heap.size ≤ b) ∧ ∀ i, blk' i ≠ some b) blk' val' (getS ss') (blk' i) (val' i) (getS ss' i)) ∧
      RepT w' (fun b => (ok b ∨ w.heap.size ≤ b) ∧ ∀ i, blk' i ≠ some b) blk' val' (getS ss') r v' := by
    intro a w' st' ⟨ns, hret, hsat, hlen, hnd, hfst, hbr, hbs⟩ ⟨blkF, valF, hh⟩
    let blk' : Nat → Option Nat := fun i => if i < ss'.length then blkF (nth ns i) else none
    let val' : Nat → Value := fun i => valF (nth ns i)
    have hb' : ∀ i b, blk' i = some b → i < ss'.length ∧ blkF (nth ns i) = some b := fun i b h => by
      simp only [blk'] at h
      split at h
      · exact ⟨by assumption, h⟩
      · cases h
    have hok' : ∀ b, b < w'.heap.size → okOf cx blkF b → (ok b ∨ w.heap.size ≤ b) ∧ ∀ i, blk' i ≠ some b := fun b _ h => ⟨h.1, fun i hi => h.2 _ (hb' i b hi).2⟩
    have hrel : ∀ k, k < ss'.length → blk' k = blkF (nth ns k) ∧ val' k = valF (nth ns k) ∧ st'.s (nth ns k) = shiftS (nth ns) (getS ss' k) := fun k hk => ⟨if_pos hk, rfl, hsat k hk⟩
    have hbelow : ∀ (ss : List Site) (m i : Nat), ss.all (belowS m) = true → belowS m (getS ss i) = true := by
      intro ss
      induction ss with
      | nil => intro m i _; rfl
      | cons x xs ih =>
        intro m i h
        simp only [List.all_cons, Bool.and_eq_true] at h
        cases i with
        | zero => exact h.1
        | succ i => exact ih m i h.2
    have sites : ∀ i, SiteIn w' (fun b => (ok b ∨ w.heap.size ≤ b) ∧ ∀ i, blk' i ≠ some b) blk' val' (getS ss') (blk' i) (val' i) (getS ss' i) := fun i => by
      rcases Nat.lt_or_ge i ss'.length with hi | hi
      · have h1 := hh.site (nth ns i)
        rw [hsat i hi] at h1
        rw [(hrel i hi).1]
        refine h1.unshift hok' fun cs hcs y hy k hk => ?_
        have h2 := hbelow ss' ss'.length i hbs
        rw [hcs] at h2
        exact hrel k (belowT_lt (List.all_eq_true.1 h2 y hy) k hk)
      · rw [getS_none hi]
        show blk' i = none
        exact if_neg (by omega)
    have repr : ∀ v, RepT w' (okOf cx blkF) blkF valF st'.s (shiftT (nth ns) r) v → RepT w' (fun b => (ok b ∨ w.heap.size ≤ b) ∧ ∀ i, blk' i ≠ some b) blk' val' (getS ss') r v := fun v h =>
      h.unshift hok' fun k hk => hrel k (belowT_lt hbr k hk)
    have hsl : ss.length ≤ ss'.length ∨ ss = [] := by
      rcases Nat.lt_or_ge ss'.length ss.length with h | h
      · right
        exfalso
        have : ∀ (m i : Nat) (ns : List Nat), firstN n i m ns = true → m ≤ ns.length := by
          intro m
          induction m with
          | zero => intro i ns _; omega
          | succ m ih =>
            intro i ns h
            cases ns with
            | nil => simp [firstN] at h
            | cons x xs =>
              simp only [firstN, Bool.and_eq_true] at h
              have := ih _ _ h.2
              simp; omega
        have := this _ _ _ hfst
        omega
      · exact .inl h
    have hname : ∀ i, i < ss.length → nth ns i = n + i := fun i hi => by
      have := nth_firstN hfst i hi
      rw [Nat.zero_add] at this; exact this
    have common : (∀ i, (getS ss i).isVar = true → blk' i = blk i) ∧ (∀ i b, blk' i = some b → (∃ j, blk j = some b) ∨ w.heap.size ≤ b) ∧ (∀ i b, blk' i = some b → b < w'.heap.size) ∧
        (∀ i j b, blk' i = some b → blk' j = some b → i = j) ∧ ExtM ⟨w, ok, fun b => ∃ i, blk i = some b, fun _ => none, fun _ => none, none⟩ w' := by
      refine ⟨fun i hi => ?_, fun i b hb => ?_, fun i b hb => (hh.new _ _ (hb' i b hb).2).2, fun i j b h1 h2 => ?_, ⟨hh.ext.os, hh.ext.tape, hh.ext.output, hh.ext.size, hh.ext.block⟩⟩
      · have him : i < ss.length := by
          rcases Nat.lt_or_ge i ss.length with h | h
          · exact h
          · rw [getS_none h] at hi; cases hi
        have hi' : i < ss'.length := by
          rcases hsl with h | h
          · omega
          · subst h; simp at him
        rw [(hrel i hi').1, hname i him]
        have hs := hsite i
        obtain ⟨b, hb⟩ : ∃ b, blk i = some b := by
          cases hg : getS ss i <;> rw [hg] at hs hi <;> first | (cases hi; done) | (obtain ⟨b, _, _, h, _⟩ := hs; exact ⟨b, h⟩) | (obtain ⟨b, h, _⟩ := hs; exact ⟨b, h⟩)
        have hp := hh.pin (n + i) b (by
          show (bif Nat.ble n (n + i) && (getS ss (n + i - n)).isVar then blk (n + i - n) else none) = some b
          rw [Nat.add_sub_cancel_left, hge i, hi]
          exact hb)
        rw [hp.1, hb]
      · rcases (hh.new _ _ (hb' i b hb).2).1 with h | h
        · exact .inr h
        · exact .inl h
      · have e := hh.inj _ _ b (hb' i b h1).2 (hb' j b h2).2
        exact nth_inj hnd (by rw [hlen]; exact (hb' i b h1).1) (by rw [hlen]; exact (hb' j b h2).1) e
    obtain ⟨c1, c2, c4, c5, c6⟩ := common
    obtain ⟨k, j, m, u, z, a1, a2, a3, a4, a5⟩ := hret
    have h1 := hh.tmp t0
    rw [a1] at h1
    obtain ⟨_, b, hb, hv⟩ := h1
    have h2 := hh.site k
    rw [a2] at h2
    obtain ⟨b', e, vals, hb2, hheap, hsz, hc⟩ := h2
    rw [hb] at hb2; cases hb2
    have hld := run_loadBlock (P := P) hheap
    rw [hsz, a4] at hld
    have r1 := agC_out (vs := vals.toList) (w := w') (ok := okOf cx blkF) (blk := blkF) (val := valF) (s := st'.s) ⟨by simpa using hsz, fun i x hx => by
      obtain ⟨y, hy, h3⟩ := hc i x hx
      exact ⟨y, by simpa using hy, h3⟩⟩
    have hr1 : (readVar a.tmps (.cell t0 ty0)).run P w' = .ok (.agg vals) w' := by
      simp only [readVar, Sem.run_bind, hv, asAddr, Sem.run_pure, Result.andThen_ok, loadVar, szB_agg a3, if_true, szB_size a3, hld]
    have : (results fn a.tmps).run P w' = .ok (.agg vals) w' := by
      have e0 : results fn a.tmps = (do let vs ← fn.results.mapM (readVar a.tmps); pure (if h : vs.size = 1 then vs[0] else .tuple vs)) := by
        unfold results readVar
        rfl
      have hm : (fn.results.mapM (readVar a.tmps)).run P w' = .ok #[.agg vals] w' := by
        rw [hrs, show (#[ResultVar.cell t0 ty0] : Array ResultVar) = [ResultVar.cell t0 ty0].toArray from rfl, List.mapM_toArray]
        simp [hr1]
      rw [e0]
      simp only [Sem.run_bind, hm, Result.andThen_ok, Sem.run_pure]
      rfl
    exact ⟨_, this, _, blk', val', rfl, c1, c2, c4, c5, c6, sites, repr _ (by rw [a5]; simpa using r1)⟩
  refine wpIn_mono (h cx rfl Fence.wide 1 ⟨.inl rfl, rfl⟩ _ w ⟨_, _, h0⟩) fun e a w' ⟨st', hR, hH⟩ => ?_
  cases e with
  | normal =>
    obtain ⟨ms, m1, m2, m3, hH'⟩ := hH.shut rfl
    show LeavesInM _ _ _ _ _ _ _ _ _
    rw [m1]
    exact shut_leaves ms w' m2 m3 (fin { a with defers := [] } (shut ms w') st' hR hH')
  | ret =>
    obtain ⟨ms, m1, m2, m3, hH'⟩ := hH.shut rfl
    show LeavesInM _ _ _ _ _ _ _ _ _
    rw [m1]
    exact shut_leaves ms w' m2 m3 (fin { a with defers := [] } (shut ms w') st' hR hH')
  | exit id => exact hR.elim
  | goto l => exact hR.elim
  | panic c => exact hR.elim
  | outgrown => exact hR.elim


end
section
variable {P : Program} {w0 : Cx} {n : Nat} {s : Nat → Site} {ev : Operand → T} {dst : Option Tmp} {ty : TypeId} {pos : String} {after : Array Edge} {g : Option (Nat × Bool)}
theorem q_load_ag {t : TypeId} {y : Operand} {m k j : Nat} {u v : List D} {cs : List T} (ht : szB P t true m = true) (hy : ev y = .ref k 0) (hk : s k = .tbox cs) (hc0 : cs = agC j u v) (hl : cs.length = m) : QOp P w0 n s ev ⟨dst, .load t y, ty, pos, after, g⟩ (.ag j u v) :=
  .mk fun a w ok blk val h hs hnew => by
    subst hc0
    have h1 := h y
    rw [hy] at h1
    obtain ⟨_, b, hb, hv⟩ := h1
    have h2 := hs k
    rw [hk] at h2
    obtain ⟨b', e, vals, hb2, hheap, hsz, hc⟩ := h2
    rw [hb] at hb2; cases hb2
    have hld := run_loadBlock (P := P) hheap
    rw [hsz, hl] at hld
    have r1 := agC_out (vs := vals.toList) (w := w) (ok := ok) (blk := blk) (val := val) (s := s) ⟨by simpa using hsz, fun i x hx => by
      obtain ⟨y, hy, h3⟩ := hc i x hx
      exact ⟨y, by simpa using hy, h3⟩⟩
    refine ⟨.agg vals, w, ?_, Ext.refl w, by simpa using r1⟩
    simp only [execOp, hv, Instr.loadAt, Instr.sureAddr, loadVar, Sem.run_bind, Sem.run_pure, Result.andThen_ok, szB_agg ht, if_true, szB_size ht, hld]
end

open Go Go.RowKit

def subV (sz lo hi : Nat) (u v : Value) : Prop :=
  (u = .slice none 0 0 ∧ v = .slice none 0 0 ∧ hi = 0 ∧ lo = 0) ∨
  ∃ b n cap, u = .slice (some ⟨b, 0, none⟩) n cap ∧ ((cap = lo ∧ hi = lo ∧ v = .slice (some ⟨b, 0, none⟩) 0 0) ∨ (lo < cap ∧ lo ≤ hi ∧ hi ≤ cap ∧ v = .slice (some ⟨b, lo * sz, none⟩) (hi - lo) (cap - lo)))
abbrev T.sub (k sz lo hi : Nat) : T := .own k ⟨true, true⟩ [] (fun _ u _ v => subV sz lo hi u v)
section
variable {P : Program} {w0 : Cx} {n : Nat} {s : Nat → Site} {ev : Operand → T} {dst : Option Tmp} {ty : TypeId} {pos : String} {after : Array Edge} {g : Option (Nat × Bool)}
end
section
variable {P : Program} {w0 : Cx} {ops : List Oper} {rest : List Oper} {R : Exit → St → Prop} {st : St} {ty : TypeId} {pos : String} {after : Array Edge}
end
section
variable {w0 : Cx} {st : St}
end
end Go.Proofs.Ytamaocfjknpadaa.Am
