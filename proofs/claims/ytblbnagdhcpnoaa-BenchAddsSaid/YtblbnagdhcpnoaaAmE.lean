/- The abstract machine, parts 36 to 40. Conditions: none. -/
import Derived.Laws.CopyRow
import Derived.Test.YtblbnagdhcpnoaaAmD
set_option linter.unusedVariables false
set_option linter.unusedSimpArgs false
namespace Go.Proofs.Ytblbnagdhcpnoaa.Am
open Go Go.RowKit

section
variable {P : Program} {w0 : Cx} {ops : List Oper} {rest : List Oper} {R : Exit → St → Prop} {st : St} {ty : TypeId} {pos : String} {after : Array Edge}
theorem Ext.newRow {w : World} {o : Obj} {cs : Array Value} : Ext w ((w.alloc o).setRow w.heap.size cs) := by
  have h := (Ext.refl w).alloc o
  exact ⟨h.os, h.tape, h.output, by rw [setRow_size]; exact h.size, fun k hk => by rw [setRow_block (by omega)]; exact h.block k hk⟩
/-- A variable that is stored into once, right where it is made: data. -/
theorem aops_allocD {d : Nat} {e t : TypeId} {agg : Bool} {m : Nat} {z : Value} {x : Operand} {X : D} {ty' : TypeId} {pos' : String} {after' : Array Edge} (hz : zrB P e z) (hzs : z.cells.size = m) (ht : szB P t agg m = true) (hxd : (match x with | .tmp q => Nat.beq q d | _ => false) = false) (hx : st.ev x = .d X) (hX : X.sc = true ∨ ∃ cs, X = .agg cs) (hm : X.cells.length = m)
    (hd : Nat.blt d st.n = true) (h : Aops P w0 ops rest R (st.put (some d) (.d (.pt X.cells 0)))) :
    Aops P w0 ops (⟨some d, .alloc e, ty, pos, after, none⟩ :: ⟨none, .store t (.tmp d) x, ty', pos', after', none⟩ :: rest) R st := by
  intro F mm hF a w ⟨blk, val, hh⟩
  rw [Nat.blt_eq] at hd
  unfold wpListIn
  rw [if_pos (by simp [Region.wanted])]
  refine (wp_value (v := .pointer (some ⟨w.heap.size, 0, none⟩)) (w' := w.alloc (.cells z.cells e)) (by simp [execOp, Instr.alloc, run_zero hz, newVar, newRow]) (K := fun a' w' => a' = a.put (some d) (.pointer (some ⟨w.heap.size, 0, none⟩)) ∧ w' = w.alloc (.cells z.cells e)) ⟨rfl, rfl⟩).to hF ?_
  intro a2 w2 h2
  rw [h2.1, h2.2]
  unfold wpListIn
  rw [if_pos (by simp [Region.wanted])]
  have hs1 : d < a.tmps.size := by rw [hh.size]; exact hd
  have hev : (a.put (some d) (.pointer (some ⟨w.heap.size, 0, none⟩))).eval (.tmp d) = .pointer (some ⟨w.heap.size, 0, none⟩) := by simp [Act.eval, Act.put, hs1]
  have hevx : (a.put (some d) (.pointer (some ⟨w.heap.size, 0, none⟩))).eval x = a.eval x := by
    cases x with
    | tmp q =>
      have hq : q ≠ d := fun e => by subst e; simp at hxd
      simp [Act.eval, Act.put, Ne.symm hq]
    | _ => rfl
  have hr : Rep w (okOf w0 blk) X (a.eval x) := by have := hh.ev x; rw [hx] at this; exact this
  obtain ⟨hL, hs⟩ := cells_inv hr hX
  have hcl : (a.eval x).cells.size = m := by rw [← hm, ← hL.length, Array.length_toList]
  have hheap : (w.alloc (.cells z.cells e)).heap[w.heap.size]? = some (.cells z.cells e (0, 0)) := new_block _ _
  have hrun := run_storeAt (P := P) (o := 0) (v := a.eval x) ht hcl hheap (by omega) (hL.mem hs)
  have hcs : (z.cells.toList.take 0 ++ (a.eval x).cells.toList ++ z.cells.toList.drop (0 + m)).toArray = (a.eval x).cells := by
    rw [List.take_zero, List.nil_append, Nat.zero_add, List.drop_of_length_le (by rw [Array.length_toList]; omega), List.append_nil]
  rw [hcs] at hrun
  have hE : Ext w ((w.alloc (.cells z.cells e)).setRow w.heap.size (a.eval x).cells) := Ext.newRow
  have hblk : ((w.alloc (.cells z.cells e)).setRow w.heap.size (a.eval x).cells).heap[w.heap.size]? = some (.cells (a.eval x).cells e (0, 0)) := setRow_same hheap
  refine (show OW P w0 _ _ _ (fun a' w' => a' = a.put (some d) (.pointer (some ⟨w.heap.size, 0, none⟩)) ∧ w' = (w.alloc (.cells z.cells e)).setRow w.heap.size (a.eval x).cells) from ow_of_wp (fun c hc => by cases hc) (by
    unfold Oper.wp
    rw [show (execOp (a.put (some d) (.pointer (some ⟨w.heap.size, 0, none⟩))).eval ⟨none, .store t (.tmp d) x, ty', pos', after', none⟩).run P (w.alloc (.cells z.cells e)) = .ok .skip ((w.alloc (.cells z.cells e)).setRow w.heap.size (a.eval x).cells) by simp [execOp, hev, hevx, hrun]]
    exact ⟨rfl, rfl⟩)).to hF ?_
  intro a3 w3 h3
  rw [h3.1, h3.2]
  refine h F mm hF _ _ ⟨blk, val, put_hold (hh.ext' hE) hd ?_⟩
  have hok : okOf w0 blk w.heap.size := ⟨.inr hh.ext.size, fun k hk => by have := (hh.new k _ hk).2; omega⟩
  have hget : ∀ (j : Nat) (dj : D), X.cells[j]? = some dj → ∃ v, (a.eval x).cells[j]? = some v ∧ Rep w (okOf w0 blk) dj v := fun j dj hj => by
    obtain ⟨v, hv, h4⟩ := hL.at_ hj
    exact ⟨v, by simpa using hv, h4⟩
  refine Rep.pt X.cells 0 w.heap.size 0 (fun j => (a.eval x).cells.getD j undef) (heap_lt hblk) hok hs (fun j dj hj => ?_) fun j dj hj => ?_
  · obtain ⟨v, hv, _⟩ := hget j dj hj
    rw [cell_of_block hblk, Nat.zero_add, hv, getD_val hv]
  · obtain ⟨v, hv, h4⟩ := hget j dj hj
    rw [getD_val hv]
    exact h4.ext hE fun _ _ h => h
end
end Go.Proofs.Ytblbnagdhcpnoaa.Am
namespace Go.Proofs.Ytblbnagdhcpnoaa.Am
open Go Go.RowKit

section
variable {P : Program} {w0 : Cx} {n : Nat} {s : Nat → Site} {ev : Operand → T} {dst : Option Tmp} {ty : TypeId} {pos : String} {after : Array Edge} {g : Option (Nat × Bool)}
end
end Go.Proofs.Ytblbnagdhcpnoaa.Am
namespace Go.Proofs.Ytblbnagdhcpnoaa.Am
open Go Go.RowKit

section
variable {P : Program} {w0 : Cx}
end
end Go.Proofs.Ytblbnagdhcpnoaa.Am
namespace Go.Proofs.Ytblbnagdhcpnoaa.Am
open Go Go.RowKit

section
variable {P : Program} {w0 : Cx} {st : St}
def RetA (P : Program) (st : St) (t0 : Tmp) (ty0 : TypeId) (f : Nat → Nat) (r : T) : Prop :=
  ∃ (k j m : Nat) (u v : List D), st.t t0 = .ref k 0 ∧ st.s k = .tbox (agC j u v) ∧ szB P ty0 true m = true ∧ (agC j u v).length = m ∧ shiftT f r = .ag j u v
/-- The end of a function that hands back an aggregate with a row of its own. -/
def endA (P : Program) (n : Nat) (t0 : Tmp) (ty0 : TypeId) (m : Nat) (r : T) (ss' : List Site) : Exit → St → Prop
  | .ret, st | .normal, st => ∃ ns : List Nat, RetA P st t0 ty0 (nth ns) r ∧ SitesAt st ns ss' ∧ ns.length = ss'.length ∧ nodupN ns = true ∧ firstN n 0 m ns = true ∧ belowT ss'.length r = true ∧ ss'.all (belowS ss'.length) = true
  | _, _ => False
theorem enda_mk {n : Nat} {t0 : Tmp} {ty0 : TypeId} {m : Nat} {r : T} {ss' : List Site} {e : Exit} (he : e = .ret ∨ e = .normal) (ns : List Nat) (hr : RetA P st t0 ty0 (nth ns) r) (hs : holdS st (nth ns) ns ss')
    (hc : (Nat.beq ns.length ss'.length && nodupN ns && firstN n 0 m ns && belowT ss'.length r && ss'.all (belowS ss'.length)) = true) : endA P n t0 ty0 m r ss' e st := by
  simp only [Bool.and_eq_true] at hc
  obtain ⟨⟨⟨⟨h1, h2⟩, h3⟩, h4⟩, h5⟩ := hc
  have : ∃ ns : List Nat, RetA P st t0 ty0 (nth ns) r ∧ SitesAt st ns ss' ∧ ns.length = ss'.length ∧ nodupN ns = true ∧ firstN n 0 m ns = true ∧ belowT ss'.length r = true ∧ ss'.all (belowS ss'.length) = true :=
    ⟨ns, hr, hs.spec, Nat.eq_of_beq_eq_true h1, h2, h3, h4, h5⟩
  rcases he with rfl | rfl <;> exact this
theorem pcs_of_awpA {f : FuncId} {fn : Func} {c : Code} {n : Nat} {args : List T} {ss ss' : List Site} {r : T} {t0 : Tmp} {ty0 : TypeId} (hf : P.funcs[f]? = some fn) (hb : fn.body = some c) (hn : fn.ntmps = n) (hrs : fn.results = #[.cell t0 ty0]) (hl : args.length ≤ n)
    (h : ∀ w0 : Cx, w0.rnd = none → Awp P w0 c (endA P n t0 ty0 ss.length r ss') (startS n args ss)) : PCS P f args ss r ss' := by
  intro w ok blk val vs hblk hinj hnone hsite hL
  refine (callsIn_wide (n := 1)).1 (callsIn_of_wp_marks hf hb trivial ?_ rfl)
  let cx : Cx := ⟨w, ok, fun b => ∃ i, blk i = some b, fun k => bif Nat.ble n k && (getS ss (k - n)).isVar then blk (k - n) else none, fun _ => none, none⟩
  let blkE : Nat → Option Nat := fun k => bif Nat.ble n k then blk (k - n) else none
  let valE : Nat → Value := fun k => val (k - n)
  have hge : ∀ k, Nat.ble n (n + k) = true := fun k => by rw [Nat.ble_eq]; omega
  have hE : ∀ k b, blkE k = some b → n ≤ k ∧ blk (k - n) = some b := fun k b hk => by
    simp only [blkE] at hk
    cases hb : Nat.ble n k with
    | false => rw [hb] at hk; cases hk
    | true => rw [hb] at hk; exact ⟨Nat.le_of_ble_eq_true hb, hk⟩
  have hokE : ∀ b, b < w.heap.size → ok b → okOf cx blkE b := fun b hb h => ⟨.inl h, fun k hk => (hblk _ _ (hE k b hk).2).2 h⟩
  have hkE : ∀ k, blkE (n + k) = blk k ∧ valE (n + k) = val k ∧ inS n ss (n + k) = shiftS (n + ·) (getS ss k) := fun k => by
    simp only [blkE, valE, inS, hge k, cond_true, Nat.add_sub_cancel_left]
    exact ⟨trivial, trivial, trivial⟩
  have h0 : Hold cx (startS n args ss) { tmps := vs.toArray ++ Array.replicate (fn.ntmps - vs.toArray.size) undef, defers := [] } w blkE valE := by
    refine ⟨⟨rfl, rfl, rfl, Nat.le_refl _, fun _ _ _ => rfl⟩, Kept.nil rfl rfl, ?_, fun k b hk => ⟨.inr ⟨_, (hE k b hk).2⟩, (hblk _ _ (hE k b hk).2).1⟩, fun k k' b hk hk' => ?_, fun k b hk => ?_, fun k => ?_, fun t => ?_⟩
    · have := hL.length
      simp [startS, hn]; omega
    · have e := hinj _ _ _ (hE k b hk).2 (hE k' b hk').2
      have := (hE k b hk).1
      have := (hE k' b hk').1
      omega
    · simp only [cx] at hk
      cases hb : Nat.ble n k && (getS ss (k - n)).isVar with
      | false => rw [hb] at hk; cases hk
      | true =>
        rw [hb] at hk
        rw [Bool.and_eq_true] at hb
        refine ⟨by simp only [blkE, hb.1, cond_true]; exact hk, ?_, Nat.le_of_ble_eq_true hb.1⟩
        show (inS n ss k).isVar = true
        simp only [inS, hb.1, cond_true]
        have h2 := hb.2
        cases hs : getS ss (k - n) <;> rw [hs] at h2 <;> first | rfl | cases h2
    · show SiteIn _ _ _ _ (inS n ss) _ _ (inS n ss k)
      cases hb : Nat.ble n k with
      | false => simp only [blkE, inS, hb, cond_false]; rfl
      | true =>
        obtain ⟨i, rfl⟩ : ∃ i, k = n + i := ⟨k - n, by have := Nat.le_of_ble_eq_true hb; omega⟩
        obtain ⟨e1, e2, e3⟩ := hkE i
        rw [e1, e2, e3]
        exact (hsite i).shift hokE fun _ _ _ _ j _ => hkE j
    · have := argTT_rep (blk' := blkE) (val' := valE) (s' := inS n ss) (f := (n + ·)) (fn.ntmps - vs.toArray.size) hokE hkE hL t
      have e : (vs.toArray ++ Array.replicate (fn.ntmps - vs.toArray.size) undef) = (vs ++ List.replicate (fn.ntmps - vs.toArray.size) undef).toArray := by simp
      show RepT _ _ _ _ _ _ ((vs.toArray ++ Array.replicate (fn.ntmps - vs.toArray.size) undef).getD t undef)
      rw [e, Array.getD_eq_getD_getElem?, List.getElem?_toArray, ← List.getD_eq_getElem?_getD]
      exact this
  have fin : ∀ (a : Act) (w' : World) (st' : St), (∃ ns : List Nat, RetA P st' t0 ty0 (nth ns) r ∧ SitesAt st' ns ss' ∧ ns.length = ss'.length ∧ nodupN ns = true ∧ firstN n 0 ss.length ns = true ∧ belowT ss'.length r = true ∧ ss'.all (belowS ss'.length) = true) → Holds cx st' a w' →
      ∃ v, (results fn a.tmps).run P w' = .ok v w' ∧ ∃ v' blk' val', Ending.returned v = .returned v' ∧ (∀ i, (getS ss i).isVar = true → blk' i = blk i) ∧ (∀ i b, blk' i = some b → (∃ j, blk j = some b) ∨ w.heap.size ≤ b) ∧ (∀ i b, blk' i = some b → b < w'.heap.size) ∧
      (∀ i j b, blk' i = some b → blk' j = some b → i = j) ∧ ExtM ⟨w, ok, fun b => ∃ i, blk i = some b, fun _ => none, fun _ => none, none⟩ w' ∧
      (∀ i, SiteIn w' (fun b => (ok b ∨ w.heap.size ≤ b) ∧ ∀ i, blk' i ≠ some b) blk' val' (getS ss') (blk' i) (val' i) (getS ss' i)) ∧
      RepT w' (fun b => (ok b ∨ w.heap.size ≤ b) ∧ ∀ i, blk' i ≠ some b) blk' val' (getS ss') r v' := by
    intro a w' st' ⟨ns, hret, hsat, hlen, hnd, hfst, hbr, hbs⟩ ⟨blkF, valF, hh⟩
    let blk' : Nat → Option Nat := fun i => if i < ss'.length then blkF (nth ns i) else none
    let val' : Nat → Value := fun i => valF (nth ns i)
    have hb' : ∀ i b, blk' i = some b → i < ss'.length ∧ blkF (nth ns i) = some b := fun i b h => by
      simp only [blk'] at h
      split at h
      · exact ⟨by assumption, h⟩
      · cases h
    have hok' : ∀ b, b < w'.heap.size → okOf cx blkF b → (ok b ∨ w.heap.size ≤ b) ∧ ∀ i, blk' i ≠ some b := fun b _ h => ⟨h.1, fun i hi => h.2 _ (hb' i b hi).2⟩
    have hrel : ∀ k, k < ss'.length → blk' k = blkF (nth ns k) ∧ val' k = valF (nth ns k) ∧ st'.s (nth ns k) = shiftS (nth ns) (getS ss' k) := fun k hk => ⟨if_pos hk, rfl, hsat k hk⟩
    have hbelow : ∀ (ss : List Site) (m i : Nat), ss.all (belowS m) = true → belowS m (getS ss i) = true := by
      intro ss
      induction ss with
      | nil => intro m i _; rfl
      | cons x xs ih =>
        intro m i h
        simp only [List.all_cons, Bool.and_eq_true] at h
        cases i with
        | zero => exact h.1
        | succ i => exact ih m i h.2
    have sites : ∀ i, SiteIn w' (fun b => (ok b ∨ w.heap.size ≤ b) ∧ ∀ i, blk' i ≠ some b) blk' val' (getS ss') (blk' i) (val' i) (getS ss' i) := fun i => by
      rcases Nat.lt_or_ge i ss'.length with hi | hi
      · have h1 := hh.site (nth ns i)
        rw [hsat i hi] at h1
        rw [(hrel i hi).1]
        refine h1.unshift hok' fun cs hcs y hy k hk => ?_
        have h2 := hbelow ss' ss'.length i hbs
        rw [hcs] at h2
        exact hrel k (belowT_lt (List.all_eq_true.1 h2 y hy) k hk)
      · rw [getS_none hi]
        show blk' i = none
        exact if_neg (by omega)
    have repr : ∀ v, RepT w' (okOf cx blkF) blkF valF st'.s (shiftT (nth ns) r) v → RepT w' (fun b => (ok b ∨ w.heap.size ≤ b) ∧ ∀ i, blk' i ≠ some b) blk' val' (getS ss') r v := fun v h =>
      h.unshift hok' fun k hk => hrel k (belowT_lt hbr k hk)
    have hsl : ss.length ≤ ss'.length ∨ ss = [] := by
      rcases Nat.lt_or_ge ss'.length ss.length with h | h
      · right
        exfalso
        have : ∀ (m i : Nat) (ns : List Nat), firstN n i m ns = true → m ≤ ns.length := by
          intro m
          induction m with
          | zero => intro i ns _; omega
          | succ m ih =>
            intro i ns h
            cases ns with
            | nil => simp [firstN] at h
            | cons x xs =>
              simp only [firstN, Bool.and_eq_true] at h
              have := ih _ _ h.2
              simp; omega
        have := this _ _ _ hfst
        omega
      · exact .inl h
    have hname : ∀ i, i < ss.length → nth ns i = n + i := fun i hi => by
      have := nth_firstN hfst i hi
      rw [Nat.zero_add] at this; exact this
    have common : (∀ i, (getS ss i).isVar = true → blk' i = blk i) ∧ (∀ i b, blk' i = some b → (∃ j, blk j = some b) ∨ w.heap.size ≤ b) ∧ (∀ i b, blk' i = some b → b < w'.heap.size) ∧
        (∀ i j b, blk' i = some b → blk' j = some b → i = j) ∧ ExtM ⟨w, ok, fun b => ∃ i, blk i = some b, fun _ => none, fun _ => none, none⟩ w' := by
      refine ⟨fun i hi => ?_, fun i b hb => ?_, fun i b hb => (hh.new _ _ (hb' i b hb).2).2, fun i j b h1 h2 => ?_, ⟨hh.ext.os, hh.ext.tape, hh.ext.output, hh.ext.size, hh.ext.block⟩⟩
      · have him : i < ss.length := by
          rcases Nat.lt_or_ge i ss.length with h | h
          · exact h
          · rw [getS_none h] at hi; cases hi
        have hi' : i < ss'.length := by
          rcases hsl with h | h
          · omega
          · subst h; simp at him
        rw [(hrel i hi').1, hname i him]
        have hs := hsite i
        obtain ⟨b, hb⟩ : ∃ b, blk i = some b := by
          cases hg : getS ss i <;> rw [hg] at hs hi <;> first | (cases hi; done) | (obtain ⟨b, _, _, h, _⟩ := hs; exact ⟨b, h⟩) | (obtain ⟨b, h, _⟩ := hs; exact ⟨b, h⟩)
        have hp := hh.pin (n + i) b (by
          show (bif Nat.ble n (n + i) && (getS ss (n + i - n)).isVar then blk (n + i - n) else none) = some b
          rw [Nat.add_sub_cancel_left, hge i, hi]
          exact hb)
        rw [hp.1, hb]
      · rcases (hh.new _ _ (hb' i b hb).2).1 with h | h
        · exact .inr h
        · exact .inl h
      · have e := hh.inj _ _ b (hb' i b h1).2 (hb' j b h2).2
        exact nth_inj hnd (by rw [hlen]; exact (hb' i b h1).1) (by rw [hlen]; exact (hb' j b h2).1) e
    obtain ⟨c1, c2, c4, c5, c6⟩ := common
    obtain ⟨k, j, m, u, z, a1, a2, a3, a4, a5⟩ := hret
    have h1 := hh.tmp t0
    rw [a1] at h1
    obtain ⟨_, b, hb, hv⟩ := h1
    have h2 := hh.site k
    rw [a2] at h2
    obtain ⟨b', e, vals, hb2, hheap, hsz, hc⟩ := h2
    rw [hb] at hb2; cases hb2
    have hld := run_loadBlock (P := P) hheap
    rw [hsz, a4] at hld
    have r1 := agC_out (vs := vals.toList) (w := w') (ok := okOf cx blkF) (blk := blkF) (val := valF) (s := st'.s) ⟨by simpa using hsz, fun i x hx => by
      obtain ⟨y, hy, h3⟩ := hc i x hx
      exact ⟨y, by simpa using hy, h3⟩⟩
    have hr1 : (readVar a.tmps (.cell t0 ty0)).run P w' = .ok (.agg vals) w' := by
      simp only [readVar, Sem.run_bind, hv, asAddr, Sem.run_pure, Result.andThen_ok, loadVar, szB_agg a3, if_true, szB_size a3, hld]
    have : (results fn a.tmps).run P w' = .ok (.agg vals) w' := by
      have e0 : results fn a.tmps = (do let vs ← fn.results.mapM (readVar a.tmps); pure (if h : vs.size = 1 then vs[0] else .tuple vs)) := by
        unfold results readVar
        rfl
      have hm : (fn.results.mapM (readVar a.tmps)).run P w' = .ok #[.agg vals] w' := by
        rw [hrs, show (#[ResultVar.cell t0 ty0] : Array ResultVar) = [ResultVar.cell t0 ty0].toArray from rfl, List.mapM_toArray]
        simp [hr1]
      rw [e0]
      simp only [Sem.run_bind, hm, Result.andThen_ok, Sem.run_pure]
      rfl
    exact ⟨_, this, _, blk', val', rfl, c1, c2, c4, c5, c6, sites, repr _ (by rw [a5]; simpa using r1)⟩
  refine wpIn_mono (h cx rfl Fence.wide 1 ⟨.inl rfl, rfl⟩ _ w ⟨_, _, h0⟩) fun e a w' ⟨st', hR, hH⟩ => ?_
  cases e with
  | normal =>
    obtain ⟨ms, m1, m2, m3, hH'⟩ := hH.shut rfl
    show LeavesInM _ _ _ _ _ _ _ _ _
    rw [m1]
    exact shut_leaves ms w' m2 m3 (fin { a with defers := [] } (shut ms w') st' hR hH')
  | ret =>
    obtain ⟨ms, m1, m2, m3, hH'⟩ := hH.shut rfl
    show LeavesInM _ _ _ _ _ _ _ _ _
    rw [m1]
    exact shut_leaves ms w' m2 m3 (fin { a with defers := [] } (shut ms w') st' hR hH')
  | exit id => exact hR.elim
  | goto l => exact hR.elim
  | panic c => exact hR.elim
  | outgrown => exact hR.elim


end
section
variable {P : Program} {w0 : Cx} {n : Nat} {s : Nat → Site} {ev : Operand → T} {dst : Option Tmp} {ty : TypeId} {pos : String} {after : Array Edge} {g : Option (Nat × Bool)}
theorem q_load_ag {t : TypeId} {y : Operand} {m k j : Nat} {u v : List D} {cs : List T} (ht : szB P t true m = true) (hy : ev y = .ref k 0) (hk : s k = .tbox cs) (hc0 : cs = agC j u v) (hl : cs.length = m) : QOp P w0 n s ev ⟨dst, .load t y, ty, pos, after, g⟩ (.ag j u v) :=
  .mk fun a w ok blk val h hs hnew => by
    subst hc0
    have h1 := h y
    rw [hy] at h1
    obtain ⟨_, b, hb, hv⟩ := h1
    have h2 := hs k
    rw [hk] at h2
    obtain ⟨b', e, vals, hb2, hheap, hsz, hc⟩ := h2
    rw [hb] at hb2; cases hb2
    have hld := run_loadBlock (P := P) hheap
    rw [hsz, hl] at hld
    have r1 := agC_out (vs := vals.toList) (w := w) (ok := ok) (blk := blk) (val := val) (s := s) ⟨by simpa using hsz, fun i x hx => by
      obtain ⟨y, hy, h3⟩ := hc i x hx
      exact ⟨y, by simpa using hy, h3⟩⟩
    refine ⟨.agg vals, w, ?_, Ext.refl w, by simpa using r1⟩
    simp only [execOp, hv, Instr.loadAt, Instr.sureAddr, loadVar, Sem.run_bind, Sem.run_pure, Result.andThen_ok, szB_agg ht, if_true, szB_size ht, hld]
end

end Go.Proofs.Ytblbnagdhcpnoaa.Am
namespace Go.Proofs.Ytblbnagdhcpnoaa.Am
open Go Go.RowKit

/-- The slice v is elements lo to hi of the slice u, whose elements take sz cells each. -/
def subV (sz lo hi : Nat) (u v : Value) : Prop :=
  (u = .slice none 0 0 ∧ v = .slice none 0 0 ∧ hi = 0 ∧ lo = 0) ∨
  ∃ b n cap, u = .slice (some ⟨b, 0, none⟩) n cap ∧ ((cap = lo ∧ hi = lo ∧ v = .slice (some ⟨b, 0, none⟩) 0 0) ∨ (lo < cap ∧ lo ≤ hi ∧ hi ≤ cap ∧ v = .slice (some ⟨b, lo * sz, none⟩) (hi - lo) (cap - lo)))
theorem subV_one {sz lo hi : Nat} {u v : Value} (h : subV sz lo hi u v) : v.oneCell' = true := by
  rcases h with ⟨_, rfl, _⟩ | ⟨b, n, cap, _, ⟨_, _, rfl⟩ | ⟨_, _, _, rfl⟩⟩ <;> rfl
abbrev T.sub (k sz lo hi : Nat) : T := .own k ⟨true, true⟩ [] (fun _ u _ v => subV sz lo hi u v)
theorem sub_mk {w : World} {ok : Nat → Prop} {blk : Nat → Option Nat} {val : Nat → Value} {s : Nat → Site} {k e sz sz' lo hi : Nat} {es : List (List D)} {v : Value} (hk : s k = .row e sz es) (h : subV sz' lo hi (val k) v) : RepT w ok blk val s (.sub k sz' lo hi) v :=
  ⟨⟨⟨by rw [hk]; simp, fun _ => ⟨_, _, _, hk⟩⟩, fun _ => subV_one h⟩, [], trivial, h⟩
theorem sub_inv {w : World} {ok : Nat → Prop} {blk : Nat → Option Nat} {val : Nat → Value} {s : Nat → Site} {k sz lo hi : Nat} {v : Value} (h : RepT w ok blk val s (.sub k sz lo hi) v) : subV sz lo hi (val k) v := by
  obtain ⟨_, vs, _, h2⟩ := h
  exact h2
section
variable {P : Program} {w0 : Cx} {n : Nat} {s : Nat → Site} {ev : Operand → T} {dst : Option Tmp} {ty : TypeId} {pos : String} {after : Array Edge} {g : Option (Nat × Bool)}
theorem q_slice_rs {t : TypeId} {y : Operand} {l h : Option Operand} {k e sz lo hi : Nat} {es : List (List D)} (ht : slB P t e sz = true) (hy : ev y = .rs k) (hk : s k = .row e sz es) (hl : boundOk ev l 0 lo) (hh : boundOk ev h es.length hi) (h1 : lo ≤ hi) (h2 : hi ≤ es.length) :
    QOp P w0 n s ev ⟨dst, .slice t y l h none, ty, pos, after, g⟩ (.sub k sz lo hi) :=
  .mk fun a w ok blk val hv hs hnew => by
    have h0 := hv y
    rw [hy] at h0
    obtain ⟨_, hval⟩ := h0
    obtain ⟨inf, hi', hs'⟩ := slB_info ht
    have h3 := hs k
    rw [hk] at h3
    obtain ⟨_, _, h4⟩ := h3
    rcases h4 with ⟨_, he, hu⟩ | ⟨b, vals, cap, hb, hu, hn, _⟩
    · subst he
      have e1 : hi = 0 := by simpa using h2
      have e2 : lo = 0 := by omega
      subst e1; subst e2
      have hbd := run_bounds (P := P) (cap := 0) hv hl hh h1 h2 (Nat.zero_le _) true
      refine ⟨.slice none 0 0, w, ?_, Ext.refl w, sub_mk hk (.inl ⟨hu, rfl, rfl, rfl⟩)⟩
      simp only [List.length_nil] at hbd
      simp only [execOp, Instr.sliceAt, Sem.run_bind, run_underlying (slB_under ht), Result.andThen_ok, Instr.slice, hval, hu, hbd, sizeOf, my_typeInfo hi', Option.map_none]
      simp
    · have hbd := run_bounds (P := P) (cap := cap) hv hl hh h1 h2 hn true
      by_cases hcl : cap = lo
      · refine ⟨.slice (some ⟨b, 0, none⟩) 0 0, w, ?_, Ext.refl w, sub_mk hk (.inr ⟨b, es.length, cap, hu, .inl ⟨hcl, by omega, rfl⟩⟩)⟩
        have e1 : hi = lo := by omega
        subst e1
        simp only [execOp, Instr.sliceAt, Sem.run_bind, run_underlying (slB_under ht), Result.andThen_ok, Instr.slice, hval, hu, hbd, sizeOf, my_typeInfo hi', Option.map_none]
        simp [hcl]
      · refine ⟨.slice (some ⟨b, 0 + lo * sz, none⟩) (hi - lo) (cap - lo), w, ?_, Ext.refl w, sub_mk hk (.inr ⟨b, es.length, cap, hu, .inr ⟨by omega, h1, by omega, by rw [Nat.zero_add]⟩⟩)⟩
        simp only [execOp, Instr.sliceAt, Sem.run_bind, run_underlying (slB_under ht), Result.andThen_ok, Instr.slice, hval, hu, hbd, sizeOf, my_typeInfo hi', Option.map_none]
        simp [hcl, hs', addr_add]
/-- A part of a part that begins at 0, by both its ends: up to the end of the row. -/
theorem q_slice_sub {t : TypeId} {y yl yh : Operand} {k e sz m lo hi : Nat} {es : List (List D)} (ht : slB P t e sz = true) (hy : ev y = .sub k sz 0 m) (hk : s k = .row e sz es) (hl : ev yl = T.i lo) (hh : ev yh = T.i hi) (h1 : lo ≤ hi) (h2 : hi ≤ es.length) (h0 : 0 < es.length) :
    QOp P w0 n s ev ⟨dst, .slice t y (some yl) (some yh) none, ty, pos, after, g⟩ (.sub k sz lo hi) :=
  .mk fun a w ok blk val hv hs hnew => by
    have hy0 := hv y
    rw [hy] at hy0
    have hsv := sub_inv hy0
    obtain ⟨inf, hi', hs'⟩ := slB_info ht
    have h3 := hs k
    rw [hk] at h3
    obtain ⟨_, _, h4⟩ := h3
    rcases h4 with ⟨_, he, hu⟩ | ⟨b, vals, cap, hb, hu, hn, _⟩
    · subst he; simp at h0
    rcases hsv with ⟨hu', _⟩ | ⟨b', n', cap', hu', hc⟩
    · rw [hu] at hu'; cases hu'
    rw [hu] at hu'; cases hu'
    rcases hc with ⟨hc, _⟩ | ⟨_, _, hmc, hval⟩
    · omega
    simp only [Nat.zero_mul, Nat.sub_zero] at hval
    have hbd : (Instr.sliceBounds true m cap (some (a.eval yl)) (some (a.eval yh)) none).run P w = .ok (lo, hi, cap) w :=
      run_bounds (P := P) (l := some yl) (h := some yh) (len := hi) (cap := cap) hv hl hh h1 (Nat.le_refl _) (by omega) true
    by_cases hcl : cap = lo
    · refine ⟨.slice (some ⟨b, 0, none⟩) 0 0, w, ?_, Ext.refl w, sub_mk hk (.inr ⟨b, es.length, cap, hu, .inl ⟨hcl, by omega, rfl⟩⟩)⟩
      have e1 : hi = lo := by omega
      subst e1
      simp only [execOp, Instr.sliceAt, Sem.run_bind, run_underlying (slB_under ht), Result.andThen_ok, Instr.slice, hval, hbd, sizeOf, my_typeInfo hi', Option.map_none, Option.map_some]
      simp [hcl]
    · refine ⟨.slice (some ⟨b, 0 + lo * sz, none⟩) (hi - lo) (cap - lo), w, ?_, Ext.refl w, sub_mk hk (.inr ⟨b, es.length, cap, hu, .inr ⟨by omega, h1, by omega, by rw [Nat.zero_add]⟩⟩)⟩
      simp only [execOp, Instr.sliceAt, Sem.run_bind, run_underlying (slB_under ht), Result.andThen_ok, Instr.slice, hval, hbd, sizeOf, my_typeInfo hi', Option.map_none, Option.map_some]
      simp [hcl, hs', addr_add]
/-- A full slice expression whose value nobody reads. -/
theorem q_slice3 {t : TypeId} {y yl yh ym : Operand} {k e sz lo hi m : Nat} {es : List (List D)} (ht : slB P t e sz = true) (hy : ev y = .rs k) (hk : s k = .row e sz es) (hl : ev yl = T.i lo) (hh : ev yh = T.i hi) (hm : ev ym = T.i m) (h1 : lo ≤ hi) (h2 : hi ≤ m) (h3 : m ≤ es.length) :
    QOp P w0 n s ev ⟨dst, .slice t y (some yl) (some yh) (some ym), ty, pos, after, g⟩ .dead :=
  .mk fun a w ok blk val hv hs hnew => by
    have h0 := hv y
    rw [hy] at h0
    obtain ⟨_, hval⟩ := h0
    obtain ⟨inf, hi', hs'⟩ := slB_info ht
    have el : a.eval yl = .int .i64 (lo : Int) := RepT.v_eq ((show ev yl = T.i lo from hl) ▸ hv yl)
    have eh : a.eval yh = .int .i64 (hi : Int) := RepT.v_eq ((show ev yh = T.i hi from hh) ▸ hv yh)
    have em : a.eval ym = .int .i64 (m : Int) := RepT.v_eq ((show ev ym = T.i m from hm) ▸ hv ym)
    have key : ∀ (ad : Option Addr) (cap : Nat), m ≤ cap → val k = .slice ad es.length cap → ∃ v w', (execOp a.eval ⟨dst, .slice t y (some yl) (some yh) (some ym), ty, pos, after, g⟩).run P w = .ok (.value v) w' ∧ Ext w w' ∧ RepT w' ok blk val s .dead v := fun ad cap hc hu => by
      have hbd : (Instr.sliceBounds true es.length cap (some (a.eval yl)) (some (a.eval yh)) (some (a.eval ym))).run P w = .ok (lo, hi, m) w := by
        rw [el, eh, em]
        simp [Instr.sliceBounds, Instr.sliceBound, asIntOf, show (lo : Int) ≤ (hi : Int) by omega, show (hi : Int) ≤ (m : Int) by omega, show (m : Int) ≤ (cap : Int) by omega, h1, h2, hc]
      refine ⟨.slice (if m = lo then ad else ad.map (·.add (lo * sz))) (hi - lo) (m - lo), w, ?_, Ext.refl w, trivial⟩
      · simp only [execOp, Instr.sliceAt, Sem.run_bind, run_underlying (slB_under ht), Result.andThen_ok, Instr.slice, hval, hu, hbd, sizeOf, my_typeInfo hi', Option.map_some]
        simp [hs']
    have h4 := hs k
    rw [hk] at h4
    obtain ⟨_, _, h4⟩ := h4
    rcases h4 with ⟨_, he, hu⟩ | ⟨b, vals, cap, hb, hu, hn, _⟩
    · subst he; exact key _ 0 (by simpa using h3) hu
    · exact key _ cap (by omega) hu
theorem q_len_sub {y : Operand} {t : TypeId} {k sz lo hi m : Nat} (ht : isSl P t = true) (hy : ev y = .sub k sz lo hi) (hm : hi - lo = m) : QOp P w0 n s ev ⟨dst, .call ⟨.builtin .len, #[y], #[t]⟩, ty, pos, after, g⟩ (T.i m) :=
  .mk fun a w ok blk val hv hs hnew => by
    subst hm
    have hy0 := hv y
    rw [hy] at hy0
    have hsv := sub_inv hy0
    have : ∃ A cap, a.eval y = .slice A (hi - lo) cap := by
      rcases hsv with ⟨_, hv, rfl, rfl⟩ | ⟨b', n', cap', hu', ⟨_, rfl, hv⟩ | ⟨_, _, _, hv⟩⟩
      · exact ⟨_, _, hv⟩
      · exact ⟨_, _, by rw [hv, Nat.sub_self]⟩
      · exact ⟨_, _, hv⟩
    obtain ⟨A, cap, hval⟩ := this
    obtain ⟨e, he⟩ := isSl_under ht
    exact ⟨_, w, run_builtin_len rfl (by simp [Builtin.len_, run_underlying he, hval, goInt]), Ext.refl w, .v _ rfl⟩
end
/-- Some elements of a row change. -/
theorem Hold.spliceRow {w0 : Cx} {st : St} {a : Act} {w : World} {blk : Nat → Option Nat} {val : Nat → Value} {k e sz b cap p : Nat} {es ys es' : List (List D)} {vals : Array Value} {news : List Value} (hh : Hold w0 st a w blk val) (hk : st.s k = .row e sz es)
    (hb : blk k = some b) (hval : val k = .slice (some ⟨b, 0, none⟩) es.length cap) (hn : es.length ≤ cap) (hcap : cap ≤ maxLen) (hheap : w.heap[b]? = some (.cells vals e (0, 0))) (hvs : vals.size = cap * sz)
    (hl : es'.length = es.length) (hnl : news.length = ys.length * sz) (hp : p + ys.length ≤ es.length)
    (hes : ∀ (i : Nat) (x : List D), es'[i]? = some x → ((i < p ∨ p + ys.length ≤ i) ∧ es[i]? = some x) ∨ (p ≤ i ∧ i < p + ys.length ∧ ys[i - p]? = some x))
    (hys : ∀ (i : Nat) (x : List D), ys[i]? = some x → x.length = sz ∧ ∀ d ∈ x, d.sc = true)
    (hr : ∀ (i : Nat) (x : List D) (j : Nat) (d : D), ys[i]? = some x → x[j]? = some d → ∃ v, news[i * sz + j]? = some v ∧ Rep w (okOf w0 blk) d v) :
    Hold w0 (st.site k (.row e sz es')) a (w.setRow b (vals.toList.take (p * sz) ++ news ++ vals.toList.drop (p * sz + news.length)).toArray) blk val := by
  have hsite := hh.site k
  rw [hk] at hsite
  obtain ⟨a1, a2, a3⟩ := hsite
  have hc : ∀ (i : Nat) (x : List D) (j : Nat) (d : D), es[i]? = some x → x[j]? = some d → ∃ v, vals[i * sz + j]? = some v ∧ Rep w (okOf w0 blk) d v := by
    rcases a3 with ⟨hb0, _⟩ | ⟨b', vals', cap', hb', hval', hn', hcap', hheap', hvs', hc⟩
    · rw [hb] at hb0; cases hb0
    · rw [hb] at hb'; cases hb'
      rw [hheap] at hheap'; cases hheap'
      exact hc
  have hle : (p + ys.length) * sz ≤ cap * sz := Nat.mul_le_mul_right _ (by omega)
  rw [Nat.add_mul] at hle
  have hvl : p * sz + news.length ≤ vals.toList.length := by simp; omega
  have keep : ∀ {d : D} {v : Value}, Rep w (okOf w0 blk) d v → Rep (w.setRow b (vals.toList.take (p * sz) ++ news ++ vals.toList.drop (p * sz + news.length)).toArray) (okOf w0 blk) d v := fun h =>
    h.keep (by rw [setRow_size]; exact Nat.le_refl _) (fun b' o hok ho => by rw [setRow_block (fun e => hok.2 k (by rw [e]; exact hb))]; exact ho) fun _ _ h => h
  have put : ∀ (q : Nat) (v : Value), ((q < p * sz ∧ vals.toList[q]? = some v) ∨ (p * sz ≤ q ∧ q < p * sz + news.length ∧ news[q - p * sz]? = some v) ∨ (p * sz + news.length ≤ q ∧ vals.toList[q]? = some v)) →
      ((vals.toList.take (p * sz) ++ news ++ vals.toList.drop (p * sz + news.length)).toArray)[q]? = some v := fun q v h => by
    rw [List.getElem?_toArray]
    exact splice_put hvl h
  have hxl : ∀ (i : Nat) (x : List D), es'[i]? = some x → x.length = sz := fun i x hx => by
    rcases hes i x hx with ⟨_, h⟩ | ⟨_, _, h⟩
    · exact a1 i x h
    · exact (hys _ x h).1
  refine hh.setRow hb ?_ (fun e' sz' es'' he => ⟨_, _, _, rfl⟩) (by simp) (by rw [hk]; intro h; cases h)
  refine ⟨hxl, fun i x j d hx hd => ?_, .inr ⟨b, _, cap, rfl, by rw [hl]; exact hval, by rw [hl]; exact hn, hcap, setRow_same hheap, ?_, fun i x j d hx hd => ?_⟩⟩
  · rcases hes i x hx with ⟨_, h⟩ | ⟨_, _, h⟩
    · exact a2 i x j d h hd
    · exact (hys _ x h).2 d (List.mem_of_getElem? hd)
  · simp; omega
  · have hjl : j < sz := by have := (List.getElem?_eq_some_iff.1 hd).1; rw [hxl i x hx] at this; exact this
    rcases hes i x hx with ⟨h0, h⟩ | ⟨h1, h2, h⟩
    · obtain ⟨v, hv, hr'⟩ := hc i x j d h hd
      refine ⟨v, put _ _ ?_, keep hr'⟩
      rcases h0 with h0 | h0
      · have : (i + 1) * sz ≤ p * sz := Nat.mul_le_mul_right _ h0
        rw [Nat.succ_mul] at this
        exact .inl ⟨by omega, by simpa using hv⟩
      · have : (p + ys.length) * sz ≤ i * sz := Nat.mul_le_mul_right _ h0
        rw [Nat.add_mul] at this
        exact .inr (.inr ⟨by omega, by simpa using hv⟩)
    · obtain ⟨v, hv, hr'⟩ := hr (i - p) x j d h hd
      have e1 : i * sz = p * sz + (i - p) * sz := by rw [← Nat.add_mul]; congr 1; omega
      have : (i - p + 1) * sz ≤ ys.length * sz := Nat.mul_le_mul_right _ (by omega)
      rw [Nat.succ_mul] at this
      exact ⟨v, put _ _ (.inr (.inl ⟨by omega, by omega, by rw [show i * sz + j - p * sz = (i - p) * sz + j by omega]; exact hv⟩)), keep hr'⟩
section
variable {P : Program} {w0 : Cx} {ops : List Oper} {rest : List Oper} {R : Exit → St → Prop} {st : St} {ty : TypeId} {pos : String} {after : Array Edge}
/-- Elements of a row are moved to the front within it: append(x[:p], x[c:d]...). -/
theorem aops_appendIn {d k : Nat} {t e sz p lo hi m : Nat} {y x : Operand} {es es' : List (List D)} (ht : slB P t e sz = true) (hy : st.ev y = .sub k sz 0 p) (hx : st.ev x = .sub k sz lo hi) (hk : st.s k = .row e sz es) (h0 : 0 < es.length) (hlh : lo ≤ hi) (hhi : hi ≤ es.length) (hm : p + (hi - lo) = m) (hml : m ≤ es.length)
    (hd : Nat.blt d st.n = true) (hes : es.take p ++ (es.take hi).drop lo ++ es.drop m = es') (h : Aops P w0 ops rest R ((st.site k (.row e sz es')).put (some d) (.sub k sz 0 m))) :
    Aops P w0 ops (⟨some d, .call ⟨.builtin .append, #[y, x], #[t, t]⟩, ty, pos, after, none⟩ :: rest) R st := by
  subst hes
  refine aops_step (K := fun s => s = (st.site k (.row e sz (es.take p ++ (es.take hi).drop lo ++ es.drop m))).put (some d) (.sub k sz 0 m)) rfl (fun a w ⟨blk, val, hh⟩ => ?_) (fun _ e => e ▸ h)
  obtain ⟨i, hi', hsi⟩ := slB_info ht
  have hy1 := sub_inv (hy ▸ hh.ev y)
  have hx1 := sub_inv (hx ▸ hh.ev x)
  have hsite := hh.site k
  rw [hk] at hsite
  obtain ⟨a1, a2, a3⟩ := hsite
  rcases a3 with ⟨_, he, _⟩ | ⟨b, vals, cap, hb, hval, hn, hcap, hheap, hvs, hc⟩
  · subst he; simp at h0
  have hle : es.length * sz ≤ cap * sz := Nat.mul_le_mul_right _ hn
  have hyl : ((es.take hi).drop lo).length = hi - lo := by rw [List.length_drop, List.length_take]; omega
  have hyv : a.eval y = .slice (some ⟨b, 0, none⟩) p cap := by
    rcases hy1 with ⟨hu, _⟩ | ⟨b', n', cap', hu, hq⟩
    · rw [hval] at hu; cases hu
    rw [hval] at hu; cases hu
    rcases hq with ⟨hq, _⟩ | ⟨_, _, _, hq⟩
    · omega
    · rw [hq]; simp
  obtain ⟨ao, c, hxv, hao⟩ : ∃ ao c, a.eval x = .slice (some ⟨b, ao, none⟩) (hi - lo) c ∧ (hi - lo = 0 ∨ ao = lo * sz) := by
    rcases hx1 with ⟨hu, _⟩ | ⟨b', n', cap', hu, hq⟩
    · rw [hval] at hu; cases hu
    rw [hval] at hu; cases hu
    rcases hq with ⟨_, hq, hv⟩ | ⟨_, _, _, hv⟩
    · exact ⟨0, 0, by rw [hv, hq, Nat.sub_self], .inl (by omega)⟩
    · exact ⟨_, _, hv, .inr rfl⟩
  obtain ⟨news, hnw⟩ : ∃ news, news = (vals.toList.drop (lo * sz)).take ((hi - lo) * sz) := ⟨_, rfl⟩
  have hle2 : hi * sz ≤ cap * sz := Nat.mul_le_mul_right _ (by omega)
  have hsub : (hi - lo) * sz + lo * sz = hi * sz := by rw [← Nat.add_mul]; congr 1; omega
  have hnl : news.length = (hi - lo) * sz := by rw [hnw, List.length_take, List.length_drop]; simp; omega
  have hng : ∀ (j : Nat) (u : Value), news[j]? = some u → j < (hi - lo) * sz ∧ vals[lo * sz + j]? = some u := fun j u hj => by
    have hjl := (List.getElem?_eq_some_iff.1 hj).1
    rw [hnl] at hjl
    rw [hnw, List.getElem?_take, if_pos hjl, List.getElem?_drop] at hj
    exact ⟨hjl, by simpa using hj⟩
  have hrep : ∀ (q : Nat) (x : List D) (j : Nat) (d : D), ((es.take hi).drop lo)[q]? = some x → x[j]? = some d → ∃ v, news[q * sz + j]? = some v ∧ Rep w (okOf w0 blk) d v := fun q x j d hq hj => by
    have hql := (List.getElem?_eq_some_iff.1 hq).1
    rw [hyl] at hql
    rw [List.getElem?_drop, List.getElem?_take, if_pos (by omega)] at hq
    obtain ⟨v, hv, hr⟩ := hc _ x j d hq hj
    have hjl : j < sz := by have := (List.getElem?_eq_some_iff.1 hj).1; rw [a1 _ x hq] at this; exact this
    refine ⟨v, ?_, hr⟩
    have := mul_lt_of hql hjl
    rw [hnw, List.getElem?_take, if_pos this, List.getElem?_drop, show lo * sz + (q * sz + j) = (lo + q) * sz + j by rw [Nat.add_mul]; omega]
    simpa using hv
  have hone : ∀ u ∈ news, u.oneCell' = true := fun u hu => by
    obtain ⟨j, hj⟩ := List.getElem?_of_mem hu
    have hjl := (hng j u hj).1
    have hsz : 0 < sz := by
      rcases Nat.eq_zero_or_pos sz with h | h
      · subst h; simp at hjl
      · exact h
    have hjd : j / sz < hi - lo := Nat.div_lt_of_lt_mul (by rw [Nat.mul_comm]; exact hjl)
    have hq : ((es.take hi).drop lo)[j / sz]? = some (((es.take hi).drop lo)[j / sz]'(by rw [hyl]; exact hjd)) := List.getElem?_eq_getElem _
    obtain ⟨x, hqx⟩ : ∃ x, ((es.take hi).drop lo)[j / sz]? = some x := ⟨_, hq⟩
    have hqx' := hqx
    rw [List.getElem?_drop, List.getElem?_take, if_pos (by omega)] at hqx'
    have hxl := a1 _ x hqx'
    obtain ⟨d, hd⟩ : ∃ d, x[j % sz]? = some d := ⟨_, List.getElem?_eq_getElem (by rw [hxl]; exact Nat.mod_lt _ hsz)⟩
    obtain ⟨v, hv, hr⟩ := hrep _ x _ d hqx hd
    rw [Nat.mul_comm, Nat.div_add_mod, hj] at hv
    cases hv
    exact hr.one (a2 _ x _ d hqx' hd)
  have hps : p * sz + (hi - lo) * sz = m * sz := by rw [← Nat.add_mul, hm]
  have hms : m * sz ≤ cap * sz := Nat.mul_le_mul_right _ (by omega)
  have hst := run_storeCells_at (P := P) b (p * sz) e news 0 vals w hheap (by rw [hnl]; omega) hone
  simp only [Nat.add_zero] at hst
  have hfc := run_firstCells_some (P := P) w i.size (hi - lo) ⟨b, ao, none⟩ (hi - lo) c news (by rw [hnl, hsi]) (fun j v hj => by
    obtain ⟨h1, h2⟩ := hng j v hj
    rcases hao with h | h
    · rw [h] at h1; simp at h1
    · rw [addr_add, h]
      simp [World.cell?, hheap, h2])
  have hrun : (Builtin.append_ #[t, t] ty #[a.eval y, a.eval x]).run P w = .ok (.slice (some ⟨b, 0, none⟩) m cap) (w.setRow b (vals.toList.take (p * sz) ++ news ++ vals.toList.drop (p * sz + news.length)).toArray) := by
    rw [hyv, hxv, ← hm]
    simp [Builtin.append_, run_underlying (slB_under ht), sizeOf, my_typeInfo hi', hsi, Builtin.lenOf, show p + (hi - lo) ≤ cap by omega, addr_add]
    rw [hsi] at hfc
    simp [hfc, hst]
  have hH := hh.spliceRow (p := p) (ys := (es.take hi).drop lo) (es' := es.take p ++ (es.take hi).drop lo ++ es.drop m) hk hb hval hn hcap hheap hvs (by simp only [List.length_append, List.length_take, List.length_drop]; omega) (by rw [hnl, hyl]) (by rw [hyl]; omega) (fun q x hq => by
      rw [hyl]
      have hpl : (es.take p).length = p := by rw [List.length_take]; omega
      rcases Nat.lt_or_ge q p with h1 | h1
      · rw [List.append_assoc, List.getElem?_append_left (by omega), List.getElem?_take, if_pos h1] at hq
        exact .inl ⟨.inl h1, hq⟩
      · rw [List.append_assoc, List.getElem?_append_right (by omega), hpl] at hq
        rcases Nat.lt_or_ge (q - p) (hi - lo) with h2 | h2
        · rw [List.getElem?_append_left (by omega)] at hq
          exact .inr ⟨h1, by omega, hq⟩
        · rw [List.getElem?_append_right (by omega), List.getElem?_drop] at hq
          exact .inl ⟨.inr (by omega), by rw [hyl] at hq; rw [← hq]; congr 1; omega⟩) (fun q x hq => by
      have hql := (List.getElem?_eq_some_iff.1 hq).1
      rw [List.getElem?_drop, List.getElem?_take, if_pos (by omega)] at hq
      exact ⟨a1 _ x hq, fun d hd => by obtain ⟨j, hj⟩ := List.getElem?_of_mem hd; exact a2 _ x j d hq hj⟩) hrep
  generalize w.setRow b (vals.toList.take (p * sz) ++ news ++ vals.toList.drop (p * sz + news.length)).toArray = W' at hrun hH
  refine wp_value (v := .slice (some ⟨b, 0, none⟩) m cap) (w' := W') (by simp [execOp, resolve, invoke, builtin, hrun]) ⟨_, rfl, ?_⟩
  exact ⟨_, _, put_hold hH (by simpa [Nat.blt_eq, St.site] using hd) (sub_mk (s := (st.site k (.row e sz (es.take p ++ (es.take hi).drop lo ++ es.drop m))).s) (e := e) (sz := sz) (es := es.take p ++ (es.take hi).drop lo ++ es.drop m) (by simp [St.site]) (.inr ⟨b, es.length, cap, hval, .inr ⟨by omega, Nat.zero_le _, by omega, by simp⟩⟩))⟩
/-- Elements of a row become zeros. -/
theorem aops_clearSub {k : Nat} {t e sz lo hi : Nat} {z : Value} {y : Operand} {es es' : List (List D)} (ht : slB P t e sz = true) (hz : zrB P e z) (hzs : z.cells.size = sz) (hz1 : z.cells.toList.all Value.oneCell' = true) (hs0 : 0 < sz) (hy : st.ev y = .sub k sz lo hi) (hk : st.s k = .row e sz es) (h0 : 0 < es.length) (hlh : lo ≤ hi) (hhi : hi ≤ es.length)
    (hes : es.take lo ++ List.replicate (hi - lo) (constD z) ++ es.drop hi = es') (h : Aops P w0 ops rest R (st.site k (.row e sz es'))) :
    Aops P w0 ops (⟨none, .call ⟨.builtin .clear, #[y], #[t]⟩, ty, pos, after, none⟩ :: rest) R st := by
  subst hes
  refine aops_step (K := fun s => s = st.site k (.row e sz (es.take lo ++ List.replicate (hi - lo) (constD z) ++ es.drop hi))) rfl (fun a w ⟨blk, val, hh⟩ => ?_) (fun _ e => e ▸ h)
  obtain ⟨i, hi', hsi⟩ := slB_info ht
  have hy1 := sub_inv (hy ▸ hh.ev y)
  have hsite := hh.site k
  rw [hk] at hsite
  obtain ⟨a1, a2, a3⟩ := hsite
  rcases a3 with ⟨_, he, _⟩ | ⟨b, vals, cap, hb, hval, hn, hcap, hheap, hvs, hc⟩
  · subst he; simp at h0
  obtain ⟨ao, c, hyv, hao⟩ : ∃ ao c, a.eval y = .slice (some ⟨b, ao, none⟩) (hi - lo) c ∧ (hi - lo = 0 ∨ ao = lo * sz) := by
    rcases hy1 with ⟨hu, _⟩ | ⟨b', n', cap', hu, hq⟩
    · rw [hval] at hu; cases hu
    rw [hval] at hu; cases hu
    rcases hq with ⟨_, hq, hv⟩ | ⟨_, _, _, hv⟩
    · exact ⟨0, 0, by rw [hv, hq, Nat.sub_self], .inl (by omega)⟩
    · exact ⟨_, _, hv, .inr rfl⟩
  have hfin : ∀ w', (Builtin.clear_ #[t] ty #[a.eval y]).run P w = .ok (.tuple #[]) w' → Hold w0 (st.site k (.row e sz (es.take lo ++ List.replicate (hi - lo) (constD z) ++ es.drop hi))) a w' blk val →
      OW P w0 ⟨none, .call ⟨.builtin .clear, #[y], #[t]⟩, ty, pos, after, none⟩ a w (fun a' w' => ∃ st', st' = st.site k (.row e sz (es.take lo ++ List.replicate (hi - lo) (constD z) ++ es.drop hi)) ∧ Holds w0 st' a' w') := fun w' hrun hH =>
    wp_value (v := .tuple #[]) (w' := w') (by simp [execOp, resolve, invoke, builtin, hrun]) ⟨_, rfl, _, _, hH⟩
  by_cases hm : hi - lo = 0
  · have e1 : lo = hi := by omega
    subst e1
    refine hfin w (by rw [hyv, hm]; simp [Builtin.clear_, run_underlying (slB_under ht)]) ?_
    have : st.site k (.row e sz (es.take lo ++ List.replicate (lo - lo) (constD z) ++ es.drop lo)) = st := by
      rw [Nat.sub_self, List.replicate_zero, List.append_nil, List.take_append_drop, ← hk]
      simp only [St.site]
      congr 1
      funext j
      cases hj : Nat.beq j k
      · rfl
      · rw [Nat.eq_of_beq_eq_true hj]; rfl
    rw [this]; exact hh
  · obtain ⟨hz2, hz3⟩ := constD_rep (w := w) (ok := okOf w0 blk) hz1
    have hao : ao = lo * sz := by
      rcases hao with h | h
      · exact absurd h hm
      · exact h
    have hcl : (constD z).length = sz := by have := hz2.length; rw [Array.length_toList] at this; omega
    obtain ⟨news, hnw⟩ : ∃ news, news = (Builtin.zeroCells z.cells (hi - lo)).toList := ⟨_, rfl⟩
    have hnl : news.length = (hi - lo) * sz := by rw [hnw]; simp [Builtin.zeroCells, hzs]
    have hng : ∀ j, j < (hi - lo) * sz → news[j]? = some z.cells[j % sz]! := fun j hj => by
      rw [hnw]
      simp [Builtin.zeroCells, hzs, hj]
    have hone : ∀ u ∈ news, u.oneCell' = true := fun u hu => by
      obtain ⟨j, hj⟩ := List.getElem?_of_mem hu
      have hjl := (List.getElem?_eq_some_iff.1 hj).1
      rw [hng j (by omega)] at hj
      cases hj
      have hmo := Nat.mod_lt j hs0
      rw [getElem!_pos z.cells (j % sz) (by omega)]
      exact List.all_eq_true.1 hz1 _ (by simp)
    have hle : hi * sz ≤ cap * sz := Nat.mul_le_mul_right _ (by omega)
    have hps : lo * sz + (hi - lo) * sz = hi * sz := by rw [← Nat.add_mul]; congr 1; omega
    have hst := run_storeCells_at (P := P) b (lo * sz) e news 0 vals w hheap (by rw [hnl]; omega) hone
    simp only [Nat.add_zero] at hst
    have hrun : (Builtin.clear_ #[t] ty #[a.eval y]).run P w = .ok (.tuple #[]) (w.setRow b (vals.toList.take (lo * sz) ++ news ++ vals.toList.drop (lo * sz + news.length)).toArray) := by
      have hzr := run_zero (P := P) (w := w) hz
      obtain ⟨m, hm'⟩ : ∃ m, hi - lo = m + 1 := ⟨hi - lo - 1, by omega⟩
      rw [hm'] at hyv hnw
      rw [hyv, hao]
      unfold Builtin.clear_
      simp [run_underlying (slB_under ht), hzr, ← hnw, hst]
    refine hfin _ hrun (hh.spliceRow (p := lo) (ys := List.replicate (hi - lo) (constD z)) hk hb hval hn hcap hheap hvs (by simp only [List.length_append, List.length_take, List.length_drop, List.length_replicate]; omega) (by rw [hnl, List.length_replicate]) (by rw [List.length_replicate]; omega) (fun q x hq => ?_) (fun q x hq => ?_) (fun q x j d hq hj => ?_))
    · rw [List.length_replicate]
      have hpl : (es.take lo).length = lo := by rw [List.length_take]; omega
      rcases Nat.lt_or_ge q lo with h1 | h1
      · rw [List.append_assoc, List.getElem?_append_left (by omega), List.getElem?_take, if_pos h1] at hq
        exact .inl ⟨.inl h1, hq⟩
      · rw [List.append_assoc, List.getElem?_append_right (by omega), hpl] at hq
        rcases Nat.lt_or_ge (q - lo) (hi - lo) with h2 | h2
        · rw [List.getElem?_append_left (by rw [List.length_replicate]; omega)] at hq
          exact .inr ⟨h1, by omega, hq⟩
        · rw [List.getElem?_append_right (by rw [List.length_replicate]; omega), List.getElem?_drop, List.length_replicate] at hq
          exact .inl ⟨.inr (by omega), by rw [← hq]; congr 1; omega⟩
    · have := List.eq_of_mem_replicate (List.mem_of_getElem? hq)
      subst this
      exact ⟨hcl, hz3⟩
    · have hql := (List.getElem?_eq_some_iff.1 hq).1
      rw [List.length_replicate] at hql
      have := List.eq_of_mem_replicate (List.mem_of_getElem? hq)
      subst this
      have hjl : j < sz := by have := (List.getElem?_eq_some_iff.1 hj).1; omega
      have hv : z.cells.toList[j]? = some z.cells[j]! := by rw [getElem!_pos z.cells j (by omega)]; simp [show j < z.cells.size by omega]
      refine ⟨z.cells[j]!, ?_, hz2.get j d _ hj hv⟩
      rw [hng _ (mul_lt_of hql hjl), Nat.mul_comm, Nat.mul_add_mod, Nat.mod_eq_of_lt hjl]
end
section
variable {w0 : Cx} {st : St}
/-- A part of a row, in a box, that nobody changes any more. -/
theorem le_freezeTBS (k j o : Nat) {lo hi : Nat} {cs : List T} {e sz : Nat} {es : List (List D)} (hk : st.s k = .tbox cs) (ho : cs[o]? = some (.sub j sz lo hi)) (hs : st.s j = .row e sz es) (hjn : Nat.blt j st.n = true) (hlh : lo ≤ hi) (hhi : hi ≤ es.length) (hm : ∀ b, w0.mine b → w0.ok b) :
    Le w0 st ((headSt st [j] [] []).site k (.tbox ((cs.map (killT [j])).set o (.d (.sl sz ((es.take hi).drop lo)))))) := by
  intro a w ⟨blk, val, hh⟩
  have hH : Hold w0 (headSt st [j] [] []) a w (headBlk [j] [] blk) val := hold_headW (ms := []) (Out.refl st) (by simp) (by simp) (by intro k h; cases h) (by intro p h; cases h) rfl (by simpa using hjn) hh
  have hkj : memN k [j] = false := by
    cases h : memN k [j] with
    | false => rfl
    | true =>
      simp [memN] at h
      have := h; subst this
      rw [hk] at hs; cases hs
  have hsk : (headSt st [j] [] []).s k = .tbox (cs.map (killT [j])) := by
    simp only [headSt, lookN, hkj, cond_false, hk, killSite]
  have h1 := hh.site k
  rw [hk] at h1
  obtain ⟨b1, e1, vals1, p1, p2, p3, p4⟩ := h1
  obtain ⟨v, hv, hone, hsub⟩ := p4 o _ ho
  have hvj := sub_inv hsub
  have h2 := hh.site j
  rw [hs] at h2
  obtain ⟨a1, a2, a3⟩ := h2
  have hok : ∀ c, okOf w0 blk c → okOf w0 (headBlk [j] [] blk) c := fun c ⟨q1, q2⟩ => ⟨q1, fun i hi => by
    simp only [headBlk, lookN] at hi
    cases hm : memN i [j] <;> rw [hm] at hi
    · exact q2 i hi
    · cases hi⟩
  have hrep : Rep w (okOf w0 (headBlk [j] [] blk)) (.sl sz ((es.take hi).drop lo)) v := by
    rcases a3 with ⟨_, he, hval⟩ | ⟨b, vals, cap, hb, hval, hn, hcap, hh', hsz, hc⟩
    · rcases hvj with ⟨_, hv, _⟩ | ⟨b', n', cap', hu, _⟩
      · rw [hv, he, List.take_nil, List.drop_nil]; exact .emp sz none 0 (Nat.zero_le _)
      · rw [hval] at hu; cases hu
    · have hokb : okOf w0 (headBlk [j] [] blk) b := by
        refine ⟨(hh.new j b hb).1.elim .inr (fun h => .inl (hm b h)), fun i hi => ?_⟩
        simp only [headBlk, lookN] at hi
        cases hmi : memN i [j] <;> rw [hmi] at hi
        · have := hh.inj i j b hi hb
          subst this
          simp [memN] at hmi
        · cases hi
      rcases hvj with ⟨hu, _⟩ | ⟨b', n', cap', hu, hq⟩
      · rw [hval] at hu; cases hu
      rw [hval] at hu; cases hu
      rcases hq with ⟨_, hq, hv⟩ | ⟨_, _, _, hv⟩
      · rw [hv, hq, List.drop_eq_nil_of_le (by rw [List.length_take]; omega)]; exact .emp sz _ 0 (Nat.zero_le _)
      · rw [hv]
        have := slice_rep (w := w) (ok := okOf w0 (headBlk [j] [] blk)) (sz := sz) (es := es) (off := 0) (vs := fun i j => vals.getD (i * sz + j) undef) (lo := lo) (hi := hi) (heap_lt hh') hokb hcap hn a1 a2 (fun i x j d hi hj => by
          obtain ⟨v, hv, _⟩ := hc i x j d hi hj
          rw [cell_of_block hh', Nat.zero_add, hv, getD_val hv]) (fun i x j d hi hj => by
          obtain ⟨v, hv, hr⟩ := hc i x j d hi hj
          rw [getD_val hv]; exact hr.ok fun _ _ h => hok _ h) hlh hhi
        rw [Nat.zero_add] at this
        exact this
  refine ⟨_, _, hH.retell ?_ (by simp) (fun e sz es q => by rw [hsk] at q; cases q)⟩
  have h3 := hH.site k
  rw [hsk] at h3
  obtain ⟨b, e', vals, q1, q2, q3, q4⟩ := h3
  have hbb : b = b1 := by
    have : headBlk [j] [] blk k = blk k := by simp only [headBlk, lookN, hkj, cond_false]
    rw [this, p1] at q1; cases q1; rfl
  subst hbb
  rw [p2] at q2
  cases q2
  refine ⟨b, _, _, q1, p2, by simpa using q3, fun i x hx => ?_⟩
  rw [List.getElem?_set] at hx
  by_cases hi : o = i
  · subst hi
    split at hx
    · split at hx
      · cases hx; exact ⟨v, hv, hone, hrep⟩
      · cases hx
    · exact absurd rfl ‹_›
  · rw [if_neg hi] at hx
    exact q4 i x hx
end
end Go.Proofs.Ytblbnagdhcpnoaa.Am
