/- The abstract machine, part 8: stores, make, append; a function's contract from its body. Conditions: none. -/
import Derived.Test.YtgdcidbpadhkpaaAm7
import Derived.Laws.CopyRow
import Derived.Laws.OwnMore
set_option linter.unusedVariables false
set_option linter.unusedSimpArgs false
namespace Go.Proofs.Ytgdcidbpadhkpaa.Am
open Go

section
variable {P : Program} {w0 : Cx} {ops : List Oper} {rest : List Oper} {R : Exit → St → Prop} {st : St} {ty : TypeId} {pos : String} {after : Array Edge}

theorem RepL.mem {w : World} {ok : Nat → Prop} : ∀ {ds : List D} {vs : List Value}, RepL w ok ds vs → (∀ (j : Nat) (x : D), ds[j]? = some x → x.sc = true) → ∀ v ∈ vs, v.oneCell' = true
  | [], [], _, _, v, hv => by cases hv
  | d :: ds, u :: vs, h, hs, v, hv => by
    rcases List.mem_cons.1 hv with rfl | hv
    · exact h.1.one (hs 0 d rfl)
    · exact RepL.mem h.2 (fun j x hx => hs (j + 1) x (by simpa using hx)) v hv
  | [], _ :: _, h, _, _, _ => h.elim
  | _ :: _, [], h, _, _, _ => h.elim
theorem run_storeAt {t : TypeId} {agg : Bool} {m b o : Nat} {v : Value} {cur : Array Value} {e : TypeId} {w : World} (ht : szB P t agg m = true) (hm : v.cells.size = m) (hb : w.heap[b]? = some (.cells cur e (0, 0))) (ho : o + m ≤ cur.size)
    (h1 : ∀ u ∈ v.cells.toList, u.oneCell' = true) : (Instr.storeAt t (.pointer (some ⟨b, o, none⟩)) v).run P w = .ok () (w.setRow b (cur.toList.take o ++ v.cells.toList ++ cur.toList.drop (o + m)).toArray) := by
  have := run_storeCells_at (P := P) b o e v.cells.toList 0 cur w hb (by simp; omega) h1
  simp only [Nat.add_zero, Array.length_toList, hm] at this
  simp [Instr.storeAt, Instr.sureAddr, storeVar, szB_size ht, hm, this]
def setCs (cs : List D) (o : Nat) (xs : List D) : List D := cs.take o ++ xs ++ cs.drop (o + xs.length)
theorem splice_get {α : Type} {l m : List α} {o j : Nat} {x : α} (ho : o + m.length ≤ l.length) (h : (l.take o ++ m ++ l.drop (o + m.length))[j]? = some x) :
    (j < o ∧ l[j]? = some x) ∨ (o ≤ j ∧ j < o + m.length ∧ m[j - o]? = some x) ∨ (o + m.length ≤ j ∧ l[j]? = some x) := by
  have hlen : (l.take o).length = o := by simp; omega
  rcases Nat.lt_or_ge j o with h1 | h1
  · left
    rw [List.append_assoc, List.getElem?_append_left (by omega), List.getElem?_take, if_pos h1] at h
    exact ⟨h1, h⟩
  · right
    rw [List.append_assoc, List.getElem?_append_right (by omega), hlen] at h
    rcases Nat.lt_or_ge j (o + m.length) with h2 | h2
    · left
      rw [List.getElem?_append_left (by omega)] at h
      exact ⟨h1, h2, h⟩
    · right
      rw [List.getElem?_append_right (by omega), List.getElem?_drop, show o + m.length + (j - o - m.length) = j by omega] at h
      exact ⟨h2, h⟩
theorem splice_put {α : Type} {l m : List α} {o j : Nat} {x : α} (ho : o + m.length ≤ l.length) (h : (j < o ∧ l[j]? = some x) ∨ (o ≤ j ∧ j < o + m.length ∧ m[j - o]? = some x) ∨ (o + m.length ≤ j ∧ l[j]? = some x)) :
    (l.take o ++ m ++ l.drop (o + m.length))[j]? = some x := by
  have hlen : (l.take o).length = o := by simp; omega
  rw [List.append_assoc]
  rcases h with ⟨h1, h⟩ | ⟨h1, h2, h⟩ | ⟨h2, h⟩
  · rw [List.getElem?_append_left (by omega), List.getElem?_take, if_pos h1]; exact h
  · rw [List.getElem?_append_right (by omega), hlen, List.getElem?_append_left (by omega)]; exact h
  · rw [List.getElem?_append_right (by omega), hlen, List.getElem?_append_right (by omega), List.getElem?_drop, show o + m.length + (j - o - m.length) = j by omega]; exact h
theorem aops_store {t : TypeId} {y x : Operand} {agg : Bool} {m k o : Nat} {X : D} {cs cs' : List D} (ht : szB P t agg m = true) (hy : st.ev y = .ref k o) (hx : st.ev x = .d X) (hX : X.sc = true ∨ ∃ cs, X = .agg cs) (hm : X.cells.length = m)
    (hk : st.s k = .box cs) (ho : o + m ≤ cs.length) (hcs : setCs cs o X.cells = cs') (h : Aops P w0 ops rest R (st.site k (.box cs'))) :
    Aops P w0 ops (⟨none, .store t y x, ty, pos, after, none⟩ :: rest) R st := by
  subst hcs
  refine aops_step (K := fun s => s = st.site k (.box (setCs cs o X.cells))) rfl (fun a w ⟨blk, val, hh⟩ => ?_) (fun _ e => e ▸ h)
  have h1 := hh.ev y
  rw [hy] at h1
  obtain ⟨_, b, hb, hv⟩ := h1
  have hr : Rep w (okOf w0 blk) X (a.eval x) := by have := hh.ev x; rw [hx] at this; exact this
  obtain ⟨hL, hs⟩ := cells_inv hr hX
  have hsite := hh.site k
  rw [hk] at hsite
  obtain ⟨b', e, vals, hb', hheap, hsz, hsc, hc⟩ := hsite
  rw [hb] at hb'; cases hb'
  have hcl : (a.eval x).cells.size = m := by rw [← hm, ← hL.length, Array.length_toList]
  have hrun := run_storeAt (P := P) (o := o) ht hcl hheap (by omega) (hL.mem hs)
  unfold Oper.wp
  rw [show (execOp a.eval ⟨none, .store t y x, ty, pos, after, none⟩).run P w = .ok .skip (w.setRow b (vals.toList.take o ++ (a.eval x).cells.toList ++ vals.toList.drop (o + m)).toArray) by simp [execOp, hv, hrun]]
  refine ⟨_, rfl, blk, val, hh.setRow hb ?_ (fun e sz es he => by rw [hk] at he; cases he) (by simp)⟩
  have hvl : vals.toList.length = cs.length := by simpa using hsz
  have hlc : (a.eval x).cells.toList.length = X.cells.length := hL.length
  refine ⟨b, e, _, rfl, setRow_same hheap, ?_, ?_, ?_⟩
  · simp [setCs]; omega
  · intro j d hd
    rcases splice_get (by omega) hd with ⟨_, h⟩ | ⟨_, _, h⟩ | ⟨_, h⟩
    · exact hsc j d h
    · exact hs _ d h
    · exact hsc j d h
  · intro j d hd
    have keep : ∀ {d : D} {v : Value}, Rep w (okOf w0 blk) d v → Rep (w.setRow b (vals.toList.take o ++ (a.eval x).cells.toList ++ vals.toList.drop (o + m)).toArray) (okOf w0 blk) d v := fun h =>
      h.keep (by rw [setRow_size]; exact Nat.le_refl _) (fun b' o hok ho => by rw [setRow_block (fun e => hok.2 k (by rw [e]; exact hb))]; exact ho) fun _ _ h => h
    have hm' : m = (a.eval x).cells.toList.length := by omega
    rcases splice_get (by omega) hd with ⟨h1, h⟩ | ⟨h1, h2, h⟩ | ⟨h1, h⟩
    · obtain ⟨v, hv, hr⟩ := hc j d h
      refine ⟨v, ?_, keep hr⟩
      rw [hm', List.getElem?_toArray]
      exact splice_put (by omega) (.inl ⟨h1, by simpa using hv⟩)
    · obtain ⟨v, hv, hr⟩ := hL.at_ h
      refine ⟨v, ?_, keep hr⟩
      rw [hm', List.getElem?_toArray]
      exact splice_put (by omega) (.inr (.inl ⟨h1, by omega, hv⟩))
    · obtain ⟨v, hv, hr⟩ := hc j d h
      refine ⟨v, ?_, keep hr⟩
      rw [hm', List.getElem?_toArray]
      exact splice_put (by omega) (.inr (.inr ⟨by omega, by simpa using hv⟩))

/-- Results. -/
inductive RetD (P : Program) (st : St) : ResultVar → D → Prop
  | tmp {t : Tmp} {d : D} (h : AsD st.s (st.t t) d) : RetD P st (.tmp t) d
  | cellA {t : Tmp} {ty m k : Nat} {cs : List D} (h : st.t t = .ref k 0) (hk : st.s k = .box cs) (hs : szB P ty true m = true) (hl : cs.length = m) : RetD P st (.cell t ty) (.agg cs)
  | cellT {t : Tmp} {ty m k : Nat} {cs : List T} {ds : List D} (h : st.t t = .ref k 0) (hk : st.s k = .tbox cs) (hc : AsL st.s cs ds) (hs : szB P ty true m = true) (hl : ds.length = m) : RetD P st (.cell t ty) (.agg ds)
  | cell1 {t : Tmp} {ty m k : Nat} {d : D} (h : st.t t = .ref k 0) (hk : st.s k = .box [d]) (hs : szB P ty false m = true) : RetD P st (.cell t ty) d
inductive RetDs (P : Program) (st : St) : List ResultVar → List D → Prop
  | nil : RetDs P st [] []
  | cons {r : ResultVar} {rs : List ResultVar} {d : D} {ds : List D} (h : RetD P st r d) (hs : RetDs P st rs ds) : RetDs P st (r :: rs) (d :: ds)
def retD : List D → D
  | [d] => d
  | ds => .tup ds
def endR (P : Program) (rs : List ResultVar) (r : D) : Exit → St → Prop
  | .ret, st | .normal, st => ∃ ds, RetDs P st rs ds ∧ r = retD ds
  | _, _ => False

def readVar (tmps : Array Value) : ResultVar → Sem Value
  | .tmp t => pure (tmps.getD t undef)
  | .cell a t => do loadVar t (← asAddr (tmps.getD a undef))
theorem run_loadBlock {b : Nat} {cs : Array Value} {e : TypeId} {w : World} (h : w.heap[b]? = some (.cells cs e (0, 0))) : (loadCells ⟨b, 0, none⟩ cs.size).run P w = .ok cs w := by
  have := run_loadCells_list (P := P) w ⟨b, 0, none⟩ cs.toList (fun j v hv => by rw [addr_add, cell_of_block h, Nat.zero_add]; simpa using hv)
  simpa using this
theorem ret_one {a : Act} {w : World} {blk : Nat → Option Nat} {val : Nat → Value} {r : ResultVar} {d : D} (hh : Hold w0 st a w blk val) (h : RetD P st r d) : ∃ v, (readVar a.tmps r).run P w = .ok v w ∧ Rep w (fun b => w0.ok b ∨ Ours w0 b) d v := by
  cases h with
  | tmp h =>
    rename_i t
    exact ⟨_, rfl, Rep.as' (hh.tmp t) hh.site h (fun b hb => hb.1.imp id .inl) (fun k b hb => .inr (hh.new k b hb).1)⟩
  | cellA h hk hs hl =>
    rename_i t ty m k cs
    have h1 := hh.tmp t
    rw [h] at h1
    obtain ⟨_, b, hb, hv⟩ := h1
    have h2 := hh.site k
    rw [hk] at h2
    obtain ⟨b', e, vals, hb', hheap, hsz, hsc, hc⟩ := h2
    rw [hb] at hb'; cases hb'
    have hld := run_loadBlock (P := P) hheap
    rw [hsz, hl] at hld
    refine ⟨.agg vals, ?_, ?_⟩
    · simp only [readVar, Sem.run_bind, hv, asAddr, Sem.run_pure, Result.andThen_ok, loadVar, szB_agg hs, if_true, szB_size hs, hld]
    · have := Rep.agg (w := w) (ok := fun b => w0.ok b ∨ Ours w0 b) cs vals.toList (by simpa using hsz) hsc (fun j d v hd hv => by
        obtain ⟨u, hu, hr⟩ := hc j d hd
        have : u = v := by have h3 : vals.toList[j]? = some u := by simpa using hu
                           rw [h3] at hv; exact Option.some.inj hv
        subst this
        exact hr.ok fun b _ hb => hb.1.imp id .inl)
      simpa using this
  | cellT h hk hcs hs hl =>
    rename_i t ty m k cs ds
    have h1 := hh.tmp t
    rw [h] at h1
    obtain ⟨_, b, hb, hv⟩ := h1
    have h2 := hh.site k
    rw [hk] at h2
    obtain ⟨b', e, vals, hb', hheap, hsz, hc⟩ := h2
    rw [hb] at hb'; cases hb'
    obtain ⟨hcl, hcd⟩ := hcs.at_
    have hld := run_loadBlock (P := P) hheap
    rw [hsz, hcl, hl] at hld
    refine ⟨.agg vals, ?_, ?_⟩
    · simp only [readVar, Sem.run_bind, hv, asAddr, Sem.run_pure, Result.andThen_ok, loadVar, szB_agg hs, if_true, szB_size hs, hld]
    · have := Rep.agg (w := w) (ok := fun b => w0.ok b ∨ Ours w0 b) ds vals.toList (by simp; omega) (fun j d hd => by obtain ⟨x, _, h⟩ := hcd j d hd; exact h.sc) (fun j d v hd hv => by
        obtain ⟨x, hx, hxd⟩ := hcd j d hd
        obtain ⟨u, hu, _, hr⟩ := hc j x hx
        have : u = v := by have h3 : vals.toList[j]? = some u := by simpa using hu
                           rw [h3] at hv; exact Option.some.inj hv
        subst this
        exact Rep.asC hr hh.site hxd (fun b hb => hb.1.imp id .inl) (fun k b hb => .inr (hh.new k b hb).1))
      simpa using this
  | cell1 h hk hs =>
    rename_i t ty m k
    have h1 := hh.tmp t
    rw [h] at h1
    obtain ⟨_, b, hb, hv⟩ := h1
    have h2 := hh.site k
    rw [hk] at h2
    obtain ⟨b', e, vals, hb', hheap, hsz, hsc, hc⟩ := h2
    rw [hb] at hb'; cases hb'
    obtain ⟨v, hv0, hr⟩ := hc 0 d rfl
    refine ⟨v, ?_, hr.ok fun b _ hb => hb.1.imp id .inl⟩
    have hcell : w.cell? ⟨b, 0, none⟩ = some v := by rw [cell_of_block hheap]; exact hv0
    simp only [readVar, Sem.run_bind, hv, asAddr, Sem.run_pure, Result.andThen_ok, loadVar, szB_agg hs]
    simp [hcell]
theorem ret_many {a : Act} {w : World} {blk : Nat → Option Nat} {val : Nat → Value} (hh : Hold w0 st a w blk val) : ∀ {rs : List ResultVar} {ds : List D}, RetDs P st rs ds →
    ∃ vs : List Value, (rs.mapM (readVar a.tmps)).run P w = .ok vs w ∧ RepL w (fun b => w0.ok b ∨ Ours w0 b) ds vs
  | _, _, .nil => ⟨[], rfl, trivial⟩
  | _, _, .cons h hs => by
    obtain ⟨v, h1, h2⟩ := ret_one hh h
    obtain ⟨vs, h3, h4⟩ := ret_many hh hs
    refine ⟨v :: vs, ?_, h2, h4⟩
    rw [List.mapM_cons]
    simp [h1, h3]
theorem run_results {fn : Func} {a : Act} {w : World} {blk : Nat → Option Nat} {val : Nat → Value} {rs : List ResultVar} {ds : List D} (hh : Hold w0 st a w blk val) (hr : fn.results = rs.toArray) (h : RetDs P st rs ds) :
    ∃ v, (results fn a.tmps).run P w = .ok v w ∧ Rep w (fun b => w0.ok b ∨ Ours w0 b) (retD ds) v := by
  obtain ⟨vs, h1, h2⟩ := ret_many hh h
  have hm : (fn.results.mapM (readVar a.tmps)).run P w = .ok vs.toArray w := by
    rw [hr, List.mapM_toArray]
    simp [h1]
  have hres : (results fn a.tmps).run P w = .ok (if h : vs.toArray.size = 1 then vs.toArray[0] else .tuple vs.toArray) w := by
    have : results fn a.tmps = (do let vs ← fn.results.mapM (readVar a.tmps); pure (if h : vs.size = 1 then vs[0] else .tuple vs)) := by
      unfold results readVar
      rfl
    rw [this]
    simp only [Sem.run_bind, hm, Result.andThen_ok, Sem.run_pure]
  refine ⟨_, hres, ?_⟩
  match ds, vs, h2 with
  | [], [], _ => simp [retD]; exact Rep.tup [] [] rfl (fun j d v h => by simp at h)
  | [d], [v], h2 => simpa [retD] using h2.1
  | d :: d' :: ds, v :: v' :: vs, h2 =>
    simp [retD]
    exact Rep.tup _ (v :: v' :: vs) (h2.length) fun j d v h1 h3 => h2.get j d v h1 h3

def argT : List D → Nat → T
  | [], _ => .un
  | d :: ds, k => match k with
    | 0 => .d d
    | k + 1 => argT ds k
def startSt (n : Nat) (args : List D) : St := { n := n, t := argT args, s := fun _ => .no }
theorem argT_rep {w : World} {ok : Nat → Prop} {blk : Nat → Option Nat} {val : Nat → Value} {s : Nat → Site} (m : Nat) : ∀ {ds : List D} {vs : List Value}, RepL w ok ds vs → ∀ k, RepT w ok blk val s (argT ds k) ((vs ++ List.replicate m undef).getD k undef)
  | [], [], _, k => by
    show _ = _
    rw [List.nil_append, List.getD_eq_getElem?_getD, List.getElem?_replicate]
    split <;> rfl
  | d :: ds, v :: vs, h, 0 => h.1
  | d :: ds, v :: vs, h, k + 1 => by
    have := argT_rep (blk := blk) (val := val) (s := s) m h.2 k
    simpa [argT] using this
  | [], _ :: _, h, _ => h.elim
  | _ :: _, [], h, _ => h.elim
theorem pc_of_awpN {f : FuncId} {fn : Func} {c : Code} {n : Nat} {args : List D} {r : D} {rs : List ResultVar} (hf : P.funcs[f]? = some fn) (hb : fn.body = some c) (hn : fn.ntmps = n) (hrs : fn.results = rs.toArray) (hl : args.length ≤ n)
    (h : ∀ w0 : Cx, (∀ b, ¬ w0.mine b) → Awp P w0 c (endR P rs r) (startSt n args)) : PC P f args r := by
  intro w ok vs hL
  refine calls_of_wp hf hb ?_
  have h0 : Hold ⟨w, ok, fun _ => False, fun _ => none⟩ (startSt n args) { tmps := vs.toArray ++ Array.replicate (fn.ntmps - vs.toArray.size) undef, defers := [] } w (fun _ => none) (fun _ => undef) := by
    refine ⟨⟨rfl, rfl, rfl, Nat.le_refl _, fun _ _ _ => rfl⟩, rfl, ?_, fun s b h => by simp at h, fun s s' b h => by simp at h, (fun k b h => by cases h), fun s => rfl, fun t => ?_⟩
    · have := hL.length
      simp [startSt, hn]; omega
    · have := argT_rep (blk := fun _ => none) (val := fun _ => undef) (s := fun _ => Site.no) (fn.ntmps - vs.toArray.size) (RepL.of (ok := okOf ⟨w, ok, fun _ => False, fun _ => none⟩ fun _ => none) hL.length fun j d v h1 h2 => (hL.get j d v h1 h2).ok fun b _ hb => ⟨.inl hb, fun s h => by cases h⟩) t
      have e : (vs.toArray ++ Array.replicate (fn.ntmps - vs.toArray.size) undef) = (vs ++ List.replicate (fn.ntmps - vs.toArray.size) undef).toArray := by simp
      show RepT _ _ _ _ _ _ ((vs.toArray ++ Array.replicate (fn.ntmps - vs.toArray.size) undef).getD t undef)
      rw [e, Array.getD_eq_getD_getElem?, List.getElem?_toArray, ← List.getD_eq_getElem?_getD]
      exact this
  refine wp_mono (h ⟨w, ok, fun _ => False, fun _ => none⟩ (fun _ h => h) _ w ⟨_, _, h0⟩) fun e a w' ⟨st', hR, blk, val, hh⟩ => ?_
  cases e with
  | normal =>
    obtain ⟨ds, hd, rfl⟩ := hR
    obtain ⟨v, h1, h2⟩ := run_results hh hrs hd
    exact ⟨hh.defers, v, h1, v, rfl, ⟨hh.ext.os, hh.ext.tape, hh.ext.output, hh.ext.size, fun k hk => hh.ext.block k hk (fun h => h)⟩, h2.ok fun b _ hb => hb.imp id fun h => h.resolve_right (fun h => h)⟩
  | ret =>
    obtain ⟨ds, hd, rfl⟩ := hR
    obtain ⟨v, h1, h2⟩ := run_results hh hrs hd
    exact ⟨hh.defers, v, h1, v, rfl, ⟨hh.ext.os, hh.ext.tape, hh.ext.output, hh.ext.size, fun k hk => hh.ext.block k hk (fun h => h)⟩, h2.ok fun b _ hb => hb.imp id fun h => h.resolve_right (fun h => h)⟩
  | exit id => exact hR.elim
  | goto l => exact hR.elim
  | panic c => exact hR.elim
  | outgrown => exact hR.elim
theorem pc_of_awp {f : FuncId} {fn : Func} {c : Code} {n : Nat} {args : List D} {r : D} {rs : List ResultVar} (hf : P.funcs[f]? = some fn) (hb : fn.body = some c) (hn : fn.ntmps = n) (hrs : fn.results = rs.toArray) (hl : args.length ≤ n)
    (h : ∀ w0 : Cx, Awp P w0 c (endR P rs r) (startSt n args)) : PC P f args r := pc_of_awpN hf hb hn hrs hl fun w0 _ => h w0
end
end Go.Proofs.Ytgdcidbpadhkpaa.Am
