/- The abstract machine, part 62: raw pointers into variables of the call's own; closures that change them. Conditions: none. -/
import Derived.Test.YtkbdnkjjklbddaaGreatDoorAmF
set_option linter.unusedVariables false
set_option linter.unusedSimpArgs false
namespace Go.Proofs.YtkbdnkjjklbddaaGreatDoor.Am
open Go Go.RowKit
abbrev ptr (b o : Nat) : Value := .pointer (some ⟨b, o, none⟩)
def gatF (b : Nat) : Option Nat → Value → List Value → Value → Prop := fun b' _ _ _ => b' = some b
abbrev T.gat (k b : Nat) : T := .own k ⟨false, false⟩ [] (gatF b)
section
variable {P : Program} {w0 : Cx} {ops : List Oper} {rest : List Oper} {R : Exit → St → Prop} {st : St} {a : Act} {w : World} {blk : Nat → Option Nat} {val : Nat → Value}
theorem Hold.tput (hh : Hold w0 st a w blk val) (t : Nat) (x : T) (hx : RepT w (okOf w0 blk) blk val st.s x (a.tmps.getD t undef)) : Hold w0 (st.put (some t) x) a w blk val := by
  refine ⟨hh.ext, hh.defers, by simpa [St.put] using hh.size, hh.new, hh.inj, hh.pin, hh.site, fun q => ?_⟩
  show RepT w (okOf w0 blk) blk val st.s (bif Nat.beq q t then x else st.t q) _
  by_cases hq : q = t
  · subst hq; simpa using hx
  · have : Nat.beq q t = false := by rw [← Bool.not_eq_true]; exact fun e => hq (Nat.eq_of_beq_eq_true e)
    rw [this]; exact hh.tmp q
theorem Hold.gat (hh : Hold w0 st a w blk val) (g : Nat) {k b : Nat} (hk : (st.s k).isVar = true) (hb : blk k = some b) : Hold w0 (st.put (some g) (T.gat k b)) a w blk val :=
  hh.tput g (T.gat k b) ⟨⟨⟨fun e => (by rw [e] at hk; cases hk), fun q => (by cases q)⟩, fun q => (by cases q)⟩, [], trivial, hb⟩
theorem Hold.var (hh : Hold w0 st a w blk val) {k : Nat} (hk : (st.s k).isVar = true) : ∃ b, blk k = some b := by
  have hs := hh.site k
  cases hg : st.s k <;> rw [hg] at hs hk <;> first | (cases hk; done) | (obtain ⟨b, _, _, h, _⟩ := hs; exact ⟨b, h⟩) | (obtain ⟨b, h, _⟩ := hs; exact ⟨b, h⟩)
theorem Hold.gats (hh : Hold w0 st a w blk val) {g k b : Nat} (hg : st.t g = T.gat k b) : st.s k ≠ .no ∧ blk k = some b := by
  have h := hh.tmp g
  rw [hg] at h
  obtain ⟨⟨⟨h1, _⟩, _⟩, vs, _, h2⟩ := h
  exact ⟨h1, h2⟩
theorem awp_gat {c : Code} (g k : Nat) (hk : (st.s k).isVar = true) (h : ∀ b, Awp P w0 c R (st.put (some g) (T.gat k b))) : Awp P w0 c R st := fun F m hF a w ⟨blk, val, hh⟩ => by
  obtain ⟨b, hb⟩ := hh.var hk
  exact h b F m hF a w ⟨blk, val, hh.gat g hk hb⟩
theorem aops_gat (g k : Nat) (hk : (st.s k).isVar = true) (h : ∀ b, Aops P w0 ops rest R (st.put (some g) (T.gat k b))) : Aops P w0 ops rest R st := fun F m hF a w ⟨blk, val, hh⟩ => by
  obtain ⟨b, hb⟩ := hh.var hk
  exact h b F m hF a w ⟨blk, val, hh.gat g hk hb⟩
theorem le_unref {k b o : Nat} (g t : Nat) (hg : st.t g = T.gat k b) (ht : st.t t = .ref k o) : Le w0 st (st.put (some t) (.d (.v (ptr b o)))) := fun a w ⟨blk, val, hh⟩ => by
  refine ⟨blk, val, hh.tput t (.d (.v (ptr b o))) ?_⟩
  have h := hh.tmp t
  rw [ht] at h
  obtain ⟨_, b', h1, h2⟩ := h
  rw [(hh.gats hg).2] at h1; cases h1
  rw [h2]
  exact Rep.v _ rfl
theorem le_reref {k b o : Nat} (g t : Nat) (hg : st.t g = T.gat k b) (ht : st.t t = .d (.v (ptr b o))) : Le w0 st (st.put (some t) (.ref k o)) := fun a w ⟨blk, val, hh⟩ => by
  refine ⟨blk, val, hh.tput t (.ref k o) ?_⟩
  have h := hh.tmp t
  rw [ht] at h
  obtain ⟨h1, h2⟩ := hh.gats hg
  exact ⟨h1, b, h2, Rep.v_eq h⟩
theorem Hold.wants {o : Oper} {j d : Nat} {g b : Bool} (hh : Hold w0 st a w blk val) (hg : o.guard = some (j, b)) (hj : (ops[j]?).bind (·.dst) = some d) (ht : st.t d = T.bool g) (hd : Nat.blt d st.n = true) :
    Region.wanted o (yielded ops.toArray a.tmps) = (g == b) := by
  rw [Nat.blt_eq] at hd
  have hv := hh.tmp d
  rw [ht] at hv
  have hv := Rep.v_eq hv
  have hs : d < a.tmps.size := by rw [hh.size]; exact hd
  have hy : yielded ops.toArray a.tmps j = some g := by
    unfold yielded
    rw [List.getElem?_toArray, hj]
    simp only [Option.bind_some]
    rw [Array.getElem?_eq_getElem hs]
    have : a.tmps[d] = .bool g := by
      rw [← hv]; simp [Array.getD, hs]
    rw [this]
  simp only [Region.wanted, hg, hy]
  cases g <;> cases b <;> rfl
theorem aops_skip {o : Oper} {j d : Nat} {g b : Bool} (hg : o.guard = some (j, b)) (hj : (ops[j]?).bind (·.dst) = some d) (ht : st.t d = T.bool g) (hd : Nat.blt d st.n = true) (hgb : (g == b) = false)
    (hdst : ∀ d, o.dst = some d → d < st.n) (hr : Aops P w0 ops rest R (st.put o.dst .un)) : Aops P w0 ops (o :: rest) R st := by
  intro F m hF a w ⟨blk, val, hh⟩
  unfold wpListIn
  rw [if_neg (by rw [hh.wants hg hj ht hd, hgb]; simp)]
  refine ⟨fun f _ => hF.fn f, ?_⟩
  exact hr F m hF _ w ⟨blk, val, hh.put o.dst .un undef hdst rfl⟩
theorem aops_want {dst : Option Tmp} {op : Op} {ty : TypeId} {pos : String} {after : Array Edge} {j d : Nat} {b : Bool} (hj : (ops[j]?).bind (·.dst) = some d) (ht : st.t d = T.bool b) (hd : Nat.blt d st.n = true)
    (hr : Aops P w0 ops (⟨dst, op, ty, pos, after, none⟩ :: rest) R st) : Aops P w0 ops (⟨dst, op, ty, pos, after, some (j, b)⟩ :: rest) R st := by
  intro F m hF a w hH
  have h1 := hr F m hF a w hH
  obtain ⟨blk, val, hh⟩ := hH
  unfold wpListIn at h1 ⊢
  rw [if_pos (by simp [Region.wanted])] at h1
  rw [if_pos (by rw [hh.wants rfl hj ht hd]; simp)]
  exact h1
end
section
variable {P : Program} {w0 : Cx} {n : Nat} {s : Nat → Site} {ev : Operand → T} {dst : Option Tmp} {ty : TypeId} {pos : String} {after : Array Edge} {g : Option (Nat × Bool)}
theorem q_fieldAddr_raw {t : TypeId} {y : Operand} {f off o b : Nat} (ht : fldB P t f off = true) (hy : ev y = .d (.v (ptr b o))) : QOp P w0 n s ev ⟨dst, .fieldAddr t y f, ty, pos, after, g⟩ (.d (.v (ptr b (o + off)))) :=
  .mk fun a w ok blk val h _ hnew => by
    have hv : a.eval y = ptr b o := RepT.v_eq (hy ▸ h y)
    refine ⟨.pointer (some ⟨b, o + off, none⟩), w, ?_, Ext.refl w, .v _ rfl⟩
    simp [execOp, hv, run_fieldAt ht]
theorem q_nilCheck_raw {y : Operand} {o b : Nat} (hy : ev y = .d (.v (ptr b o))) : QOp P w0 n s ev ⟨dst, .nilCheck y, ty, pos, after, g⟩ (.d (.v (ptr b o))) :=
  .mk fun a w ok blk val h _ hnew => by
    have hv : a.eval y = ptr b o := RepT.v_eq (hy ▸ h y)
    exact ⟨ptr b o, w, by simp [execOp, hv], Ext.refl w, .v _ rfl⟩
theorem q_pickT {c y z : Operand} {q : Bool} (hc : ev c = T.bool true) (hz : ev y = T.bool q) : QOp P w0 n s ev ⟨dst, .pick c y z, ty, pos, after, g⟩ (T.bool q) :=
  .mk fun a w ok blk val h _ hnew => by
    refine ⟨.bool q, w, ?_, Ext.refl w, Rep.v _ rfl⟩
    have h1 := h c; rw [hc] at h1; have h1 := Rep.v_eq h1
    have h2 := h y; rw [hz] at h2; have h2 := Rep.v_eq h2
    simp only [execOp, h1, h2, asBool]; rfl
theorem q_index_arA {t e m sz : TypeId} {y z : Operand} {cs es : List D} {i : Int} {k : IntKind} (ht : arB P t m e sz = true) (hs : szB P e true sz = true) (hy : ev y = .d (.agg cs)) (hz : ev z = .d (.v (.int k i))) (h0 : 0 ≤ i) (h1 : i < m) (hes : (cs.drop (i.toNat * sz)).take sz = es) :
    QOp P w0 n s ev ⟨dst, .index t y z, ty, pos, after, g⟩ (.d (.agg es)) :=
  .mk fun a w ok blk val h _ hnew => by
    obtain ⟨vs, hv, hL, hsc⟩ := agg_inv (show Rep w _ (.agg cs) (a.eval y) by have := h y; rw [hy] at this; exact this)
    have h2 : a.eval z = .int k i := RepT.v_eq (hz ▸ h z)
    obtain ⟨inf, hi, hsz⟩ := arB_info ht
    refine ⟨.agg (vs.toArray.extract (i.toNat * sz) (i.toNat * sz + sz)), w, ?_, Ext.refl w, ?_⟩
    · simp [execOp, Instr.index, asIntOf, run_underlying (arB_under ht), hv, h2, h0, h1, sizeOf, my_typeInfo hi, hsz, part, szB_agg hs]
    · subst hes
      have e : vs.toArray.extract (i.toNat * sz) (i.toNat * sz + sz) = ((vs.drop (i.toNat * sz)).take sz).toArray := by
        apply Array.ext'
        simp [List.extract_eq_take_drop]
      rw [e]
      have at_ : ∀ {α : Type} (l : List α) (j : Nat) (x : α), ((l.drop (i.toNat * sz)).take sz)[j]? = some x → l[i.toNat * sz + j]? = some x := fun l j x hx => by
        rw [List.getElem?_take] at hx
        split at hx
        · rw [List.getElem?_drop] at hx; exact hx
        · cases hx
      exact Rep.agg _ _ (by simp [hL.length]) (fun j d hd => hsc _ d (at_ cs j d hd)) fun j d v h1 h2 => hL.get _ d v (at_ cs j d h1) (at_ vs j v h2)
theorem q_load_globC {t : TypeId} {m g0 : Nat} {us : List Value} (ht : szB P t true m = true) (hl : us.length = m) (hG : ∀ w, ExtM w0 w → ∀ (j : Nat) (u : Value), us[j]? = some u → w.cell? ⟨g0, j, none⟩ = some u) (hu : us.all Value.oneCell' = true) : QOp P w0 n s ev ⟨dst, .load t (.global g0), ty, pos, after, g⟩ (.d (.agg (us.map .v))) :=
  .mkW fun a w ok blk val hE h => by
    have h3 : a.eval (.global g0) = .pointer (some ⟨g0, 0, none⟩) := rfl
    have hld := run_loadCells_list (P := P) w ⟨g0, 0, none⟩ us (fun j v hv => by rw [addr_add]; simpa using hG w hE j v hv)
    rw [hl] at hld
    refine ⟨.agg us.toArray, by simp only [execOp, h3, Instr.loadAt, Instr.sureAddr, loadVar, Sem.run_bind, Sem.run_pure, Result.andThen_ok, szB_agg ht, if_true, szB_size ht, hld], ?_⟩
    refine Rep.agg _ _ (by simp) (fun j d hd => ?_) (fun j d v h1 h2 => ?_)
    · rw [List.getElem?_map, Option.map_eq_some_iff] at hd
      obtain ⟨u, _, rfl⟩ := hd
      rfl
    · rw [List.getElem?_map, Option.map_eq_some_iff] at h1
      obtain ⟨u, hu1, rfl⟩ := h1
      rw [hu1] at h2
      cases h2
      exact .v _ (List.all_eq_true.1 hu _ (List.mem_of_getElem? hu1))
end
section
variable {P : Program} {w0 : Cx} {n : Nat} {s : Nat → Site} {ev : Operand → T} {dst : Option Tmp} {ty : TypeId} {pos : String} {after : Array Edge} {g : Option (Nat × Bool)}
theorem q_load_rawA {t : TypeId} {y : Operand} {m q o : Nat} {cs ds : List D} (ht : szB P t true m = true) {gy : Operand} {b0 : Nat} (hg : ev gy = T.gat q b0) (hy : ev y = .d (.v (ptr b0 o))) (hq : s q = .box cs) (hd : (cs.drop o).take m = ds) (hl : ds.length = m) : QOp P w0 n s ev ⟨dst, .load t y, ty, pos, after, g⟩ (.d (.agg ds)) :=
  .mk fun a w ok blk val h hs hnew => by
    subst hd
    have hv : a.eval y = ptr b0 o := RepT.v_eq (hy ▸ h y)
    have h1 := h gy
    rw [hg] at h1
    obtain ⟨⟨⟨_, _⟩, _⟩, vs0, _, hb⟩ := h1
    have hb : blk q = some b0 := hb
    obtain ⟨b, rfl⟩ : ∃ b, b = b0 := ⟨_, rfl⟩
    have h2 := hs q
    rw [hq] at h2
    obtain ⟨b', e, vals, hb', hheap, hsz, hsc, hc⟩ := h2
    rw [hb] at hb'; cases hb'
    have hget : ∀ (j : Nat) (d : D), ((cs.drop o).take m)[j]? = some d → cs[o + j]? = some d := fun j d hj => by
      rw [List.getElem?_take] at hj
      split at hj
      · simpa [List.getElem?_drop] using hj
      · cases hj
    have hj : ∀ j, j < m → ∃ d, ((cs.drop o).take m)[j]? = some d := fun j hj => ⟨_, List.getElem?_eq_getElem (by omega)⟩
    have hrun := run_loadCells (P := P) w ⟨b, o, none⟩ m (fun j => vals.getD (o + j) undef) (fun j hjm => by
      obtain ⟨d, hd⟩ := hj j hjm
      obtain ⟨v, hv, _⟩ := hc _ d (hget j d hd)
      rw [addr_add, cell_of_block hheap, hv, getD_val hv])
    refine ⟨.agg ((List.range m).map fun j => vals.getD (o + j) undef).toArray, w, ?_, Ext.refl w, ?_⟩
    · simp only [execOp, hv, Instr.loadAt, Instr.sureAddr, loadVar, Sem.run_bind, Sem.run_pure, Result.andThen_ok, szB_agg ht, if_true, szB_size ht, hrun]
    · refine Rep.agg _ _ (by simpa using hl.symm) (fun j d hd => hsc _ d (hget j d hd)) fun j d v hd hv => ?_
      have hjm : j < m := by have := (List.getElem?_eq_some_iff.1 hv).1; simpa using this
      simp [hjm] at hv
      subst hv
      obtain ⟨v, hv, hr⟩ := hc _ d (hget j d hd)
      have := getD_val hv
      simp [Array.getD_eq_getD_getElem?] at this
      rw [this]; exact hr
theorem q_load_tbR {t : TypeId} {y : Operand} {m q o : Nat} {cs : List T} {x : T} (ht : szB P t false m = true) {gy : Operand} {b0 : Nat} (hg : ev gy = T.gat q b0) (hy : ev y = .d (.v (ptr b0 o))) (hq : s q = .tbox cs) (hd : cs[o]? = some x) : QOp P w0 n s ev ⟨dst, .load t y, ty, pos, after, g⟩ x :=
  .mk fun a w ok blk val h hs hnew => by
    have hv : a.eval y = ptr b0 o := RepT.v_eq (hy ▸ h y)
    have h1 := h gy
    rw [hg] at h1
    obtain ⟨⟨⟨_, _⟩, _⟩, vs0, _, hb⟩ := h1
    have hb : blk q = some b0 := hb
    obtain ⟨b, rfl⟩ : ∃ b, b = b0 := ⟨_, rfl⟩
    have h2 := hs q
    rw [hq] at h2
    obtain ⟨b', e, vals, hb', hheap, hsz, hc⟩ := h2
    rw [hb] at hb'; cases hb'
    obtain ⟨v, hv0, _, hr⟩ := hc o x hd
    refine ⟨v, w, ?_, Ext.refl w, hr⟩
    have hcell : w.cell? ⟨b, o, none⟩ = some v := by rw [cell_of_block hheap]; exact hv0
    simp [execOp, hv, Instr.loadAt, Instr.sureAddr, loadVar, szB_agg ht, hcell]
end
section
variable {P : Program} {w0 : Cx} {ops : List Oper} {rest : List Oper} {R : Exit → St → Prop} {st : St} {ty : TypeId} {pos : String} {after : Array Edge}
theorem aops_storeWX {t : TypeId} {y x : Operand} {agg : Bool} {m k o : Nat} {cs ts cs' : List T} (ht : szB P t agg m = true) {gy : Operand} {b0 : Nat} (hg : st.ev gy = T.gat k b0) (hy : st.ev y = .d (.v (ptr b0 o))) (hk : st.s k = .tbox cs) (ho : o + m ≤ cs.length) (hcs : setTs cs o ts = cs') (htl : ts.length = m)
    (hv : ∀ (a : Act) (w : World) (blk : Nat → Option Nat) (val : Nat → Value), Hold w0 st a w blk val → ∃ us : List Value, (a.eval x).cells.toList = us ∧ us.length = m ∧ ∀ (j : Nat) (z : T), ts[j]? = some z → ∃ v, us[j]? = some v ∧ v.oneCell' = true ∧ RepT w (okOf w0 blk) blk val st.s z v)
    (h : Aops P w0 ops rest R (st.site k (.tbox cs'))) : Aops P w0 ops (⟨none, .store t y x, ty, pos, after, none⟩ :: rest) R st := by
  subst hcs
  refine aops_step (K := fun s => s = st.site k (.tbox (setTs cs o ts))) rfl (fun a w ⟨blk, val, hh⟩ => ?_) (fun _ e => e ▸ h)
  have hva : a.eval y = ptr b0 o := RepT.v_eq (hy ▸ hh.ev y)
  have h1 := hh.ev gy
  rw [hg] at h1
  obtain ⟨⟨⟨_, _⟩, _⟩, vs0, _, hb⟩ := h1
  have hb : blk k = some b0 := hb
  obtain ⟨b, rfl⟩ : ∃ b, b = b0 := ⟨_, rfl⟩
  obtain ⟨us, hus, hul, hur⟩ := hv a w blk val hh
  have hsite := hh.site k
  rw [hk] at hsite
  obtain ⟨b', e, vals, hb', hheap, hsz, hc⟩ := hsite
  rw [hb] at hb'; cases hb'
  have hone : ∀ u ∈ (a.eval x).cells.toList, u.oneCell' = true := fun u hu => by
    rw [hus] at hu
    obtain ⟨j, hj⟩ := List.getElem?_of_mem hu
    have hjl : j < ts.length := by have := (List.getElem?_eq_some_iff.1 hj).1; omega
    obtain ⟨v, hv, ho, _⟩ := hur j _ (List.getElem?_eq_getElem hjl)
    rw [hj] at hv; cases hv; exact ho
  have hcl : (a.eval x).cells.size = m := by rw [← hul, ← hus, Array.length_toList]
  have hrun := run_storeAt (P := P) (o := o) ht hcl hheap (by omega) hone
  refine ow_of_wp (fun c hc => by cases hc) ?_
  unfold Oper.wp
  rw [show (execOp a.eval ⟨none, .store t y x, ty, pos, after, none⟩).run P w = .ok .skip (w.setRow b (vals.toList.take o ++ (a.eval x).cells.toList ++ vals.toList.drop (o + m)).toArray) by simp [execOp, hva, hrun]]
  refine ⟨_, rfl, blk, val, hh.setRow hb ?_ (fun e sz es he => by rw [hk] at he; cases he) (by simp)⟩
  have keep : ∀ {d : D} {v : Value}, Rep w (okOf w0 blk) d v → Rep (w.setRow b (vals.toList.take o ++ (a.eval x).cells.toList ++ vals.toList.drop (o + m)).toArray) (okOf w0 blk) d v := fun h =>
    h.keep (by rw [setRow_size]; exact Nat.le_refl _) (fun b' o hok ho => by rw [setRow_block (fun e => hok.2 k (by rw [e]; exact hb))]; exact ho) fun _ _ h => h
  have keepT : ∀ {z : T} {v : Value}, RepT w (okOf w0 blk) blk val st.s z v → RepT (w.setRow b (vals.toList.take o ++ (a.eval x).cells.toList ++ vals.toList.drop (o + m)).toArray) (okOf w0 blk) blk val st.s z v := fun {z v} h => by
    cases z with
    | d z => exact keep h
    | own k r ds F => exact ⟨h.1, h.2.imp fun _ _ h => keep h⟩
    | _ => exact h
  have hvl : vals.toList.length = cs.length := by simpa using hsz
  have hm' : m = (a.eval x).cells.toList.length := by rw [hus]; omega
  refine ⟨b, e, _, rfl, setRow_same hheap, ?_, ?_⟩
  · simp [setTs]; omega
  · intro j z hz
    rcases splice_get (by omega) hz with ⟨h1, h⟩ | ⟨h1, h2, h⟩ | ⟨h1, h⟩
    · obtain ⟨v, hv, ho', hr⟩ := hc j z h
      refine ⟨v, ?_, ho', keepT hr⟩
      rw [hm', List.getElem?_toArray]
      exact splice_put (by omega) (.inl ⟨h1, by simpa using hv⟩)
    · obtain ⟨v, hv, ho', hr⟩ := hur _ z h
      refine ⟨v, ?_, ho', keepT hr⟩
      rw [hm', List.getElem?_toArray]
      exact splice_put (by omega) (.inr (.inl ⟨h1, by omega, by rw [hus]; exact hv⟩))
    · obtain ⟨v, hv, ho', hr⟩ := hc j z h
      refine ⟨v, ?_, ho', keepT hr⟩
      rw [hm', List.getElem?_toArray]
      exact splice_put (by omega) (.inr (.inr ⟨by omega, by simpa using hv⟩))
theorem aops_storeTX {t : TypeId} {y x : Operand} {k o : Nat} {cs cs' : List T} {z : T} (ht : szB P t false 1 = true) {gy : Operand} {b0 : Nat} (hg : st.ev gy = T.gat k b0) (hy : st.ev y = .d (.v (ptr b0 o))) (hx : st.ev x = z) (hz : z.one = true) (hk : st.s k = .tbox cs) (ho : o + 1 ≤ cs.length) (hcs : setTs cs o [z] = cs')
    (h : Aops P w0 ops rest R (st.site k (.tbox cs'))) : Aops P w0 ops (⟨none, .store t y x, ty, pos, after, none⟩ :: rest) R st :=
  aops_storeWX ht hg hy hk ho hcs rfl (fun a w blk val hh => by
    have hr : RepT w (okOf w0 blk) blk val st.s z (a.eval x) := hx ▸ hh.ev x
    have h1 := hr.one hh.site hz
    refine ⟨[a.eval x], one_cells h1, rfl, fun j u hu => ?_⟩
    cases j with
    | zero => simp at hu; subst hu; exact ⟨_, rfl, h1, hr⟩
    | succ j => simp at hu) h
end
section
variable {P : Program} {w0 : Cx} {s : St} {ev : Operand → T} {ty : TypeId} {pos : String} {after : Array Edge}
theorem c_storeRX {t : TypeId} {y x gy : Operand} {k o j b0 : Nat} {cs cs' : List T} (ht : szB P t false 1 = true) (hg : ev gy = T.gat k b0) (hy : ev y = .d (.v (ptr b0 o))) (hx : ev x = .rs j) (hk : s.s k = .tbox cs) (ho : o + 1 ≤ cs.length) (hcs : setTs cs o [.rs j] = cs') :
    COp P w0 s ev ⟨none, .store t y x, ty, pos, after, none⟩ (.set k (.tbox cs') none .dead) :=
  fun st hk' _ hev _ => step_of_aops rfl fun ops rest R h => aops_storeTX (z := .rs j) ht (live_ev hev hg (by simp)) (live_ev hev hy (by simp)) (live_ev hev hx (by simp)) rfl (by rw [hk']; exact hk) ho hcs h
end
def PCSX (P : Program) (NG : Nat) (G : World → Prop) (b0 : Nat) (f : FuncId) (args : List T) (ss : List Site) (r : T) (ss' : List Site) : Prop :=
  ∀ (w : World) (ok : Nat → Prop) (blk : Nat → Option Nat) (val : Nat → Value) (vs : List Value), blk 0 = some b0 → G w → (∀ i b, blk i = some b → NG ≤ b) →
    (∀ i b, blk i = some b → b < w.heap.size ∧ ¬ ok b) → (∀ i j b, blk i = some b → blk j = some b → i = j) → (∀ i, ss.length ≤ i → blk i = none) →
    (∀ i, SiteIn w ok blk val (getS ss) (blk i) (val i) (getS ss i)) → RepLT w ok blk val (getS ss) args vs →
    Calls P f vs.toArray w fun e w' => ∃ v blk' val', e = .returned v ∧ (∀ i, (getS ss i).isVar = true → blk' i = blk i) ∧ (∀ i b, blk' i = some b → (∃ j, blk j = some b) ∨ w.heap.size ≤ b) ∧ (∀ i b, blk' i = some b → b < w'.heap.size) ∧
      (∀ i j b, blk' i = some b → blk' j = some b → i = j) ∧ ExtM ⟨w, ok, fun b => ∃ i, blk i = some b, fun _ => none, fun _ => none, none⟩ w' ∧
      (∀ i, SiteIn w' (fun b => (ok b ∨ w.heap.size ≤ b) ∧ ∀ i, blk' i ≠ some b) blk' val' (getS ss') (blk' i) (val' i) (getS ss' i)) ∧
      RepT w' (fun b => (ok b ∨ w.heap.size ≤ b) ∧ ∀ i, blk' i ≠ some b) blk' val' (getS ss') r v
theorem PCSG.x {P : Program} {NG : Nat} {G : World → Prop} {f : FuncId} {args : List T} {ss : List Site} {r : T} {ss' : List Site} (h : PCSG P NG G f args ss r ss') (b0 : Nat) : PCSX P NG G b0 f args ss r ss' := fun w ok blk val vs _ => h w ok blk val vs
theorem PCSX.eqs {P : Program} {NG : Nat} {G : World → Prop} {b0 : Nat} {f : FuncId} {args : List T} {ss : List Site} {r r1 : T} {ss' ss1 : List Site} (h : PCSX P NG G b0 f args ss r ss') (e1 : r = r1) (e2 : ss' = ss1) : PCSX P NG G b0 f args ss r1 ss1 := by subst e1; subst e2; exact h
section
variable {P : Program} {w0 : Cx} {st : St}
theorem aops_callWX {ops rest : List Oper} {R : Exit → St → Prop} {ty : TypeId} {pos : String} {after : Array Edge} {dst : Option Tmp} {f : FuncId} {ys : List Operand} {at_ : Array TypeId} {args : List T} {ss ss' : List Site} {r : T} {NG : Nat} {G : World → Prop} {g b0 : Nat} {fv : Operand} (hGw : ∀ w, ExtM w0 w → G w) (hNG : ∀ b, Ours w0 b → NG ≤ b) (ks rows : List Nat)
    (he : enB P f = true) (hg : st.t g = T.gat (nth ks 0) b0) (hs0 : Nat.blt 0 ss.length = true) (hr : PCSX P NG G b0 f args ss r ss') (hc : callOk ks args ss r ss' = true) (hkd : kindOk ss ss' = true) (hrows : rowsOf ks ss 0 = rows)
    (hold : ∀ i, i < ss.length → st.s (nth ks i) = shiftS (nth ks) (getS ss i)) (hnew : ∀ i, ss.length ≤ i → i < ss'.length → st.s (nth ks i) = .no) (hd : (match dst with | none => true | some d => Nat.blt d st.n) = true)
    (hA : ∀ (a : Act) (w : World) (blk : Nat → Option Nat) (val : Nat → Value), Hold w0 st a w blk val → ∃ (okA : Nat → Prop) (cap : List Value), a.eval fv = .func (.func f) #[] cap.toArray ∧ (∀ b, okOf w0 blk b → okA b) ∧ (∀ i b, i < ss.length → blk (nth ks i) = some b → ¬ okA b) ∧
      RepLT w okA (fun i => if i < ss.length then blk (nth ks i) else none) (fun i => val (nth ks i)) (getS ss) args (ys.map a.eval ++ cap) ∧ ((∀ b, okA b → okOf w0 blk b) ∨ ((∀ x ∈ ss', FlatS x) ∧ FlatT r)))
    (h : Aops P w0 ops rest R ((afterS st ks rows ss').put dst (shiftT (nth ks) r))) : Aops P w0 ops (⟨dst, .call ⟨.value fv, ys.toArray, at_⟩, ty, pos, after, none⟩ :: rest) R st := by
  subst hrows
  simp only [callOk, Bool.and_eq_true] at hc
  obtain ⟨⟨⟨⟨⟨⟨hnd, hkl⟩, hle⟩, hba⟩, hbs⟩, hbr⟩, hbs'⟩ := hc
  have hkl := Nat.eq_of_beq_eq_true hkl
  have hle := Nat.le_of_ble_eq_true hle
  refine aops_step (K := fun s => s = (afterS st ks (rowsOf ks ss 0) ss').put dst (shiftT (nth ks) r)) rfl (fun a w ⟨blk, val, hh⟩ => ?_) (fun _ e => e ▸ h)
  have hbelow : ∀ (ss : List Site) (m i : Nat), ss.all (belowS m) = true → belowS m (getS ss i) = true := by
    intro ss
    induction ss with
    | nil => intro m i _; rfl
    | cons x xs ih =>
      intro m i h
      simp only [List.all_cons, Bool.and_eq_true] at h
      cases i with
      | zero => exact h.1
      | succ i => exact ih m i h.2
  obtain ⟨okA, cap, hfv, hA1, hA2, hA3, hA4⟩ := hA a w blk val hh
  let blkC : Nat → Option Nat := fun i => if i < ss.length then blk (nth ks i) else none
  let valC : Nat → Value := fun i => val (nth ks i)
  have hrel : ∀ k, k < ss.length → blkC k = blk (nth ks k) ∧ valC k = val (nth ks k) ∧ st.s (nth ks k) = shiftS (nth ks) (getS ss k) := fun k hk => ⟨if_pos hk, rfl, hold k hk⟩
  have hbC : ∀ i b, blkC i = some b → i < ss.length ∧ blk (nth ks i) = some b := fun i b h => by
    simp only [blkC] at h
    split at h
    · exact ⟨by assumption, h⟩
    · cases h
  have hcall := hr w okA blkC valC (ys.map a.eval ++ cap) ((if_pos (Nat.le_of_ble_eq_true hs0)).trans (hh.gats hg).2) (hGw w hh.ext) (fun i b h => hNG b (hh.new _ _ (hbC i b h).2).1) (fun i b h => ⟨(hh.new _ _ (hbC i b h).2).2, hA2 i b (hbC i b h).1 (hbC i b h).2⟩)
    (fun i j b h1 h2 => nth_inj hnd (by have := (hbC i b h1).1; omega) (by have := (hbC j b h2).1; omega) (hh.inj _ _ b (hbC i b h1).2 (hbC j b h2).2)) (fun i hi => if_neg (by omega)) (fun i => by
      rcases Nat.lt_or_ge i ss.length with hi | hi
      · have h1 := hh.site (nth ks i)
        rw [hold i hi] at h1
        rw [(hrel i hi).1]
        refine h1.unshift (fun b _ h => hA1 b h) fun cs hcs y hy k hk => ?_
        have h2 := hbelow ss ss.length i hbs
        rw [hcs] at h2
        exact hrel k (belowT_lt (List.all_eq_true.1 h2 y hy) k hk)
      · rw [getS_none hi]; exact if_neg (by omega)) hA3
  refine ow_of_wp (fun c hc => by cases hc) ?_
  unfold Oper.wp
  rw [run_callValue (f := f) (cap := cap.toArray) rfl hfv he]
  have harr : ((ys.map a.eval ++ cap).toArray : Array Value) = ys.toArray.map a.eval ++ cap.toArray := by simp
  rw [harr] at hcall
  refine hcall.mono ?_
  rintro e w' ⟨v, blk', val', rfl, c1, c2, c4, c5, c6, hsites, hres⟩
  let blkN : Nat → Option Nat := fun k => match idxN k ks with | some i => blk' i | none => blk k
  let valN : Nat → Value := fun k => match idxN k ks with | some i => val' i | none => val k
  have hnN : ∀ i, i < ss'.length → blkN (nth ks i) = blk' i ∧ valN (nth ks i) = val' i := fun i hi => by
    have := idxN_nth hnd (i := i) (by omega)
    simp only [blkN, valN, this]
    exact ⟨trivial, trivial⟩
  have mineK : ∀ k b, idxN k ks = none → blk k = some b → ¬ ∃ i, blkC i = some b := fun k b hk hb ⟨i, hi⟩ => by
    have e := hh.inj _ _ b hb (hbC i b hi).2
    subst e
    rw [idxN_nth hnd (by have := (hbC i b hi).1; omega)] at hk; cases hk
  have hNb : ∀ k b, blkN k = some b → (idxN k ks = none ∧ blk k = some b) ∨ ∃ i, idxN k ks = some i ∧ blk' i = some b := fun k b h => by
    simp only [blkN] at h
    cases hk : idxN k ks with
    | none => rw [hk] at h; exact .inl ⟨rfl, h⟩
    | some i => rw [hk] at h; exact .inr ⟨i, rfl, h⟩
  have hokN : ∀ b, b < w.heap.size → okOf w0 blk b → okOf w0 blkN b := fun b hb h => ⟨h.1, fun k hk => by
    rcases hNb k b hk with ⟨_, h1⟩ | ⟨i, _, h1⟩
    · exact h.2 k h1
    · rcases c2 i b h1 with ⟨j, hj⟩ | h2
      · exact h.2 _ (hbC j b hj).2
      · omega⟩
  have hokR : (∀ b, okA b → okOf w0 blk b) → ∀ b, b < w'.heap.size → ((okA b ∨ w.heap.size ≤ b) ∧ ∀ i, blk' i ≠ some b) → okOf w0 blkN b := fun hq b _ h => by
    have h : (okOf w0 blk b ∨ w.heap.size ≤ b) ∧ ∀ i, blk' i ≠ some b := ⟨h.1.imp (hq b) id, h.2⟩
    refine ⟨h.1.elim (fun q => q.1) fun q => .inr (Nat.le_trans hh.ext.size q), fun k hk => ?_⟩
    rcases hNb k b hk with ⟨_, h1⟩ | ⟨i, _, h1⟩
    · rcases h.1 with q | q
      · exact q.2 k h1
      · have := (hh.new k b h1).2; omega
    · exact h.2 i h1
  have hsites : ∀ i, SiteIn w' (okOf w0 blkN) blk' val' (getS ss') (blk' i) (val' i) (getS ss' i) := fun i => by
    rcases hA4 with q | ⟨q, _⟩
    · exact (hsites i).okw (hokR q)
    · exact (hsites i).flat (flatS_at q i)
  have hres : RepT w' (okOf w0 blkN) blk' val' (getS ss') r v := by
    rcases hA4 with q | ⟨_, q⟩
    · exact hres.ok' (hokR q)
    · exact hres.flat q
  have keepB : ∀ b o, okOf w0 blk b → w.heap[b]? = some o → w'.heap[b]? = some o := fun b o hok ho => by
    rw [c6.block b (heap_lt ho) (fun ⟨i, hi⟩ => hok.2 _ (hbC i b hi).2)]; exact ho
  have keep : ∀ {d : D} {u : Value}, Rep w (okOf w0 blk) d u → Rep w' (okOf w0 blkN) d u := fun h => h.keep c6.size keepB fun b hb h => hokN b hb h
  -- a site that was handed in, as the caller names it
  have inKs : ∀ j i, idxN j ks = some i → nth ks i = j ∧ i < ss'.length := fun j i h => by
    obtain ⟨h1, h2⟩ := idxN_some h
    exact ⟨h2, by omega⟩
  have keepT : ∀ {y : T} {u : Value}, RepT w (okOf w0 blk) blk val st.s y u → RepT w' (okOf w0 blkN) blkN valN (afterS st ks (rowsOf ks ss 0) ss').s (killT (rowsOf ks ss 0) y) u := by
    have rowIn : ∀ (ss : List Site) (i j : Nat), j < ss.length → (∃ e sz es, getS ss j = .row e sz es) → memN (nth ks (i + j)) (rowsOf ks ss i) = true := by
      intro ss
      induction ss with
      | nil => intro i j h; simp at h
      | cons x xs ih =>
        intro i j hj hrow
        cases j with
        | zero =>
          obtain ⟨e, sz, es, hx⟩ := hrow
          simp only [getS] at hx
          subst hx
          simp [rowsOf, memN]
        | succ j =>
          have := ih (i + 1) j (by simpa using hj) hrow
          rw [show i + 1 + j = i + (j + 1) by omega] at this
          cases x <;> simp only [rowsOf, memN] <;> first | exact this | (rw [this]; simp)
    intro y u h
    cases y with
    | d y => exact keep h
    | ref k o =>
      simp only [killT]
      cases hkr : memN k (rowsOf ks ss 0) with
      | true => simp only [if_true]; trivial
      | false =>
        simp only [Bool.false_eq_true, if_false]
        obtain ⟨q1, b, q2, q3⟩ := h
        cases hk : idxN k ks with
        | none =>
          exact ⟨by simp only [afterS, hk]; exact killSite_row.1 q1, b, by simp only [blkN, hk]; exact q2, q3⟩
        | some i =>
          obtain ⟨e1, e2⟩ := inKs k i hk
          have him : i < ss.length := by
            rcases Nat.lt_or_ge i ss.length with h | h
            · exact h
            · exact absurd (by rw [← e1]; exact hnew i h e2) q1
          rcases kindOk_at hkd i him with ⟨v1, v2⟩ | ⟨v1, _⟩
          · refine ⟨?_, b, ?_, q3⟩
            · simp only [afterS, hk]
              cases hg : getS ss' i <;> rw [hg] at v2 <;> first | (cases v2; done) | simp [shiftS]
            · simp only [blkN, hk]
              rw [c1 i v1, (hrel i him).1, e1]; exact q2
          · have := rowIn ss 0 i him v1
            rw [Nat.zero_add, e1, hkr] at this; cases this
    | rs k =>
      simp only [killT]
      cases hkr : memN k (rowsOf ks ss 0) with
      | true => simp only [if_true]; trivial
      | false =>
        simp only [Bool.false_eq_true, if_false]
        obtain ⟨q1, q3⟩ := h
        cases hk : idxN k ks with
        | none => exact ⟨by simp only [afterS, hk]; exact killSite_row.2 q1, by simp only [valN, hk]; exact q3⟩
        | some i =>
          obtain ⟨e1, e2⟩ := inKs k i hk
          obtain ⟨e, sz, es, q1⟩ := q1
          have him : i < ss.length := by
            rcases Nat.lt_or_ge i ss.length with h | h
            · exact h
            · have := hnew i h e2; rw [e1, q1] at this; cases this
          have hr : ∃ e sz es, getS ss i = .row e sz es := by
            have := hold i him
            rw [e1, q1] at this
            cases hg : getS ss i <;> rw [hg] at this <;> simp [shiftS] at this ⊢
          have := rowIn ss 0 i him hr
          rw [Nat.zero_add, e1, hkr] at this; cases this
    | own k r g1 g2 =>
      simp only [killT]
      cases hkr : memN k (rowsOf ks ss 0) with
      | true => simp only [if_true]; trivial
      | false =>
        simp only [Bool.false_eq_true, if_false]
        obtain ⟨⟨⟨q0, q1⟩, qo⟩, q3⟩ := h
        cases hk : idxN k ks with
        | none => exact ⟨⟨⟨by simp only [afterS, hk]; exact killSite_row.1 q0, fun hr => by simp only [afterS, hk]; exact killSite_row.2 (q1 hr)⟩, qo⟩, by simp only [valN, blkN, hk]; exact q3.imp fun _ _ h => keep h⟩
        | some i =>
          obtain ⟨e1, e2⟩ := inKs k i hk
          have him : i < ss.length := by
            rcases Nat.lt_or_ge i ss.length with h | h
            · exact h
            · exact absurd (by rw [← e1]; exact hnew i h e2) q0
          cases hrr : r.row with
          | true =>
            obtain ⟨e, sz, es, q1⟩ := q1 hrr
            have hr : ∃ e sz es, getS ss i = .row e sz es := by
              have := hold i him
              rw [e1, q1] at this
              cases hg : getS ss i <;> rw [hg] at this <;> simp [shiftS] at this ⊢
            have := rowIn ss 0 i him hr
            rw [Nat.zero_add, e1, hkr] at this; cases this
          | false =>
            rcases kindOk_at hkd i him with ⟨v1, v2⟩ | ⟨v1, _⟩
            · refine ⟨⟨⟨?_, fun hr => by rw [hrr] at hr; cases hr⟩, qo⟩, ?_⟩
              · simp only [afterS, hk]
                cases hg : getS ss' i <;> rw [hg] at v2 <;> first | (cases v2; done) | simp [shiftS]
              · simp only [blkN, hk, hrr, cond_false] at q3 ⊢
                rw [c1 i v1, (hrel i him).1, e1]; exact q3.imp fun _ _ h => keep h
            · have := rowIn ss 0 i him v1
              rw [Nat.zero_add, e1, hkr] at this; cases this
    | un => exact h
    | dead => trivial
  have relN : ∀ k, k < ss'.length → blkN (nth ks k) = blk' k ∧ valN (nth ks k) = val' k ∧ (afterS st ks (rowsOf ks ss 0) ss').s (nth ks k) = shiftS (nth ks) (getS ss' k) := fun k hk => by
    obtain ⟨h1, h2⟩ := hnN k hk
    refine ⟨h1, h2, ?_⟩
    simp only [afterS, idxN_nth hnd (i := k) (by omega)]
  have hH : Hold w0 (afterS st ks (rowsOf ks ss 0) ss') a w' blkN valN := by
    refine ⟨⟨c6.os.trans hh.ext.os, c6.tape.trans hh.ext.tape, c6.output.trans hh.ext.output, Nat.le_trans hh.ext.size c6.size, fun k hk hm => ?_⟩, hh.kept fun j hj hn => c6.block j hj (fun ⟨i, hi⟩ => hn _ (hbC i j hi).2), hh.size, fun k b hb => ?_, fun i j b hi hj => ?_, fun k b hp => ?_, fun k => ?_, fun t => keepT (hh.tmp t)⟩
    · have hk' : k < w.heap.size := Nat.lt_of_lt_of_le hk hh.ext.size
      have e := c6.block k hk' (fun ⟨i, hi⟩ => by
        rcases (hh.new _ _ (hbC i k hi).2).1 with q | q
        · omega
        · exact hm q)
      exact e.trans (hh.ext.block k hk hm)
    · rcases hNb k b hb with ⟨_, h1⟩ | ⟨i, _, h1⟩
      · exact ⟨(hh.new k b h1).1, Nat.lt_of_lt_of_le (hh.new k b h1).2 c6.size⟩
      · refine ⟨?_, c4 i b h1⟩
        rcases c2 i b h1 with ⟨j, hj⟩ | h2
        · exact (hh.new _ _ (hbC j b hj).2).1
        · exact .inl (Nat.le_trans hh.ext.size h2)
    · rcases hNb i b hi with ⟨n1, h1⟩ | ⟨i', n1, h1⟩ <;> rcases hNb j b hj with ⟨n2, h2⟩ | ⟨j', n2, h2⟩
      · exact hh.inj i j b h1 h2
      · rcases c2 j' b h2 with ⟨q, hq⟩ | h3
        · exact absurd ⟨q, hq⟩ (mineK i b n1 h1)
        · have := (hh.new i b h1).2; omega
      · rcases c2 i' b h1 with ⟨q, hq⟩ | h3
        · exact absurd ⟨q, hq⟩ (mineK j b n2 h2)
        · have := (hh.new j b h2).2; omega
      · have := c5 i' j' b h1 h2
        subst this
        rw [← (inKs i i' n1).1, (inKs j i' n2).1]
    · obtain ⟨q1, q2, q3⟩ := hh.pin k b hp
      cases hk : idxN k ks with
      | none =>
        refine ⟨by simp only [blkN, hk]; exact q1, ?_, q3⟩
        simp only [afterS, hk]
        cases hs : st.s k <;> rw [hs] at q2 <;> first | (cases q2; done) | rfl
      | some i =>
        obtain ⟨e1, e2⟩ := inKs k i hk
        have him : i < ss.length := by
          rcases Nat.lt_or_ge i ss.length with h | h
          · exact h
          · have := hnew i h e2; rw [e1] at this; rw [this] at q2; cases q2
        rcases kindOk_at hkd i him with ⟨v1, v2⟩ | ⟨⟨e, sz, es, v1⟩, _⟩
        · refine ⟨by simp only [blkN, hk]; rw [c1 i v1, (hrel i him).1, e1]; exact q1, ?_, q3⟩
          simp only [afterS, hk]
          cases hg : getS ss' i <;> rw [hg] at v2 <;> first | (cases v2; done) | rfl
        · have := hold i him
          rw [e1, v1] at this
          rw [this] at q2; cases q2
    · cases hk : idxN k ks with
      | some i =>
        obtain ⟨e1, e2⟩ := inKs k i hk
        have h1 := hsites i
        obtain ⟨n1, n2, n3⟩ := relN i e2
        rw [e1] at n1 n2 n3
        rw [n1, n2, n3]
        refine h1.shift (fun _ _ h => h) fun cs hcs y hy j hj => ?_
        have h2 := hbelow ss' ss'.length i hbs'
        rw [hcs] at h2
        exact relN j (belowT_lt (List.all_eq_true.1 h2 y hy) j hj)
      | none =>
        have hs := hh.site k
        have e0 : (afterS st ks (rowsOf ks ss 0) ss').s k = killSite (rowsOf ks ss 0) (st.s k) := by simp only [afterS, hk]
        have e1 : blkN k = blk k := by simp only [blkN, hk]
        have e2 : valN k = val k := by simp only [valN, hk]
        rw [e0, e1, e2]
        have hbk : ∀ c, blk k = some c → w'.heap[c]? = w.heap[c]? := fun c hc => c6.block c (hh.new k c hc).2 (mineK k c hk hc)
        cases hsk : st.s k with
        | no => rw [hsk] at hs; exact hs
        | box cs' =>
          rw [hsk] at hs
          obtain ⟨c, e, vals, h1, h2, h3, h4, h5⟩ := hs
          exact ⟨c, e, vals, h1, by rw [hbk c h1]; exact h2, h3, h4, fun j d hd => let ⟨v, hv, hr⟩ := h5 j d hd; ⟨v, hv, keep hr⟩⟩
        | tbox cs' =>
          rw [hsk] at hs
          obtain ⟨c, e, vals, h1, h2, h3, h5⟩ := hs
          refine ⟨c, e, vals, h1, by rw [hbk c h1]; exact h2, by simpa using h3, fun i y hy => ?_⟩
          rw [List.getElem?_map] at hy
          cases hi : cs'[i]? with
          | none => rw [hi] at hy; cases hy
          | some z =>
            rw [hi] at hy; cases hy
            obtain ⟨v, hv, ho, hr⟩ := h5 i z hi
            exact ⟨v, hv, ho, keepT hr⟩
        | mp es c =>
          rw [hsk] at hs
          obtain ⟨c', h1, h2⟩ := hs
          exact ⟨c', h1, by rw [hbk c' h1]; exact h2⟩
        | row e sz es =>
          rw [hsk] at hs
          obtain ⟨h1, h2, h3⟩ := hs
          exact ⟨h1, h2, h3.imp id fun ⟨c, vals, cap, k1, k2, k3, k4, k5, k6, k7⟩ => ⟨c, vals, cap, k1, k2, k3, k4, by rw [hbk c k1]; exact k5, k6, fun i x j d hi hj => let ⟨v, hv, hr⟩ := k7 i x j d hi hj; ⟨v, hv, keep hr⟩⟩⟩
  refine ⟨_, rfl, blkN, valN, hH.put dst _ v (fun d hd' => ?_) (hres.shift (fun _ _ h => h) fun k hk => relN k (belowT_lt hbr k hk))⟩
  subst hd'
  simpa [Nat.blt_eq, afterS] using hd
theorem aops_callLX {ops rest : List Oper} {R : Exit → St → Prop} {ty : TypeId} {pos : String} {after : Array Edge} {dst : Option Tmp} {f : FuncId} {ys : List Operand} {at_ : Array TypeId} {args : List T} {ss ss' : List Site} {r : T} {NG : Nat} {G : World → Prop} {b0 : Nat} (hGw : ∀ w, ExtM w0 w → G w) (hNG : ∀ b, Ours w0 b → NG ≤ b) (g : Nat) (ks rows : List Nat)
    (he : enB P f = true) (hg : st.t g = T.gat (nth ks 0) b0) (hs0 : Nat.blt 0 ss.length = true) (hr : PCSX P NG G b0 f args ss r ss') (ha : ArgsS st.ev (nth ks) ys args) (hc : callOk ks args ss r ss' = true) (hkd : kindOk ss ss' = true) (hrows : rowsOf ks ss 0 = rows)
    (hold : holdS st (nth ks) ks ss) (hnew : newS st ks ss ss') (hd : (match dst with | none => true | some d => Nat.blt d st.n) = true)
    (h : Aops P w0 ops rest R ((afterS st ks rows ss').put dst (shiftT (nth ks) r))) : Aops P w0 ops (⟨dst, .call ⟨.value (.func f), ys.toArray, at_⟩, ty, pos, after, none⟩ :: rest) R st :=
  aops_callWX hGw hNG ks rows he hg hs0 hr hc hkd hrows hold.spec (hnew.spec (by have q := hc; simp only [callOk, Bool.and_eq_true] at q; exact Nat.eq_of_beq_eq_true q.1.1.1.1.1.2)) hd (fun a w blk val hh => ⟨okOf w0 blk, [], rfl, fun _ h => h, fun i b _ hb hok => hok.2 _ hb, by
    rw [List.append_nil]
    exact argsS_rep (m := ss.length) (fun y => hh.ev y) (fun _ _ h => h) (fun k hk => ⟨if_pos hk, rfl, hold.spec k hk⟩) ha (by simp only [callOk, Bool.and_eq_true] at hc; exact hc.1.1.1.2), .inl fun _ h => h⟩) h
theorem repLT_app {w : World} {ok : Nat → Prop} {blk : Nat → Option Nat} {val : Nat → Value} {s : Nat → Site} : ∀ {xs ys : List T} {us vs : List Value}, RepLT w ok blk val s xs us → RepLT w ok blk val s ys vs → RepLT w ok blk val s (xs ++ ys) (us ++ vs)
  | [], _, [], _, _, h => h
  | _ :: _, _, _ :: _, _, ⟨h1, h2⟩, h => ⟨h1, repLT_app h2 h⟩
  | [], _, _ :: _, _, h, _ => h.elim
  | _ :: _, _, [], _, h, _ => h.elim
theorem repLT_d {w : World} {ok : Nat → Prop} {blk : Nat → Option Nat} {val : Nat → Value} {s : Nat → Site} : ∀ {ds : List D} {vs : List Value}, RepL w ok ds vs → RepLT w ok blk val s (ds.map T.d) vs
  | [], [], _ => trivial
  | _ :: _, _ :: _, ⟨h1, h2⟩ => ⟨h1, repLT_d h2⟩
  | [], _ :: _, h => h.elim
  | _ :: _, [], h => h.elim
theorem aops_callLXC {ops rest : List Oper} {R : Exit → St → Prop} {ty : TypeId} {pos : String} {after : Array Edge} {dst : Option Tmp} {f : FuncId} {fv : Operand} {cap : List D} {ys : List Operand} {at_ : Array TypeId} {args : List T} {ss ss' : List Site} {r : T} {NG : Nat} {G : World → Prop} {b0 : Nat} (hGw : ∀ w, ExtM w0 w → G w) (hNG : ∀ b, Ours w0 b → NG ≤ b) (g : Nat) (ks rows : List Nat)
    (he : enB P f = true) (hf : st.ev fv = .d (.fn (.func f) cap)) (hg : st.t g = T.gat (nth ks 0) b0) (hs0 : Nat.blt 0 ss.length = true) (hr : PCSX P NG G b0 f (args ++ cap.map T.d) ss r ss') (ha : ArgsS st.ev (nth ks) ys args) (hba : args.all (belowT ss.length) = true) (hc : callOk ks (args ++ cap.map T.d) ss r ss' = true) (hkd : kindOk ss ss' = true) (hrows : rowsOf ks ss 0 = rows)
    (hold : holdS st (nth ks) ks ss) (hnew : newS st ks ss ss') (hd : (match dst with | none => true | some d => Nat.blt d st.n) = true)
    (h : Aops P w0 ops rest R ((afterS st ks rows ss').put dst (shiftT (nth ks) r))) : Aops P w0 ops (⟨dst, .call ⟨.value fv, ys.toArray, at_⟩, ty, pos, after, none⟩ :: rest) R st :=
  aops_callWX hGw hNG ks rows he hg hs0 hr hc hkd hrows hold.spec (hnew.spec (by have q := hc; simp only [callOk, Bool.and_eq_true] at q; exact Nat.eq_of_beq_eq_true q.1.1.1.1.1.2)) hd (fun a w blk val hh => by
    have q := hh.ev fv
    rw [hf] at q
    obtain ⟨vs, hv, hL⟩ := fn_inv (show Rep w _ (.fn (.func f) cap) (a.eval fv) from q)
    exact ⟨okOf w0 blk, vs, hv, fun _ h => h, fun i b _ hb hok => hok.2 _ hb,
      repLT_app (argsS_rep (m := ss.length) (fun y => hh.ev y) (fun _ _ h => h) (fun k hk => ⟨if_pos hk, rfl, hold.spec k hk⟩) ha hba) (repLT_d hL), .inl fun _ h => h⟩) h
end
section
variable {P : Program} {w0 : Cx} {st : St}
theorem pcsx_of_awp {NG : Nat} {G : World → Prop} (hgk : GLow NG G) {f : FuncId} {fn : Func} {c : Code} {n : Nat} {args : List T} {ss ss' : List Site} {r : T} {rs : List ResultVar} (hf : P.funcs[f]? = some fn) (hb : fn.body = some c) (hn : fn.ntmps = n) (hrs : fn.results = rs.toArray) (hl : args.length ≤ n) (gi b0 : Nat) (hs0 : (getS ss 0).isVar = true)
    (h : ∀ w0 : Cx, w0.rnd = none → (∀ w, ExtM w0 w → G w) → (∀ b, Ours w0 b → NG ≤ b) → Awp P w0 c (endS n rs ss.length r ss') ((startS n args ss).put (some gi) (T.gat n b0))) : PCSX P NG G b0 f args ss r ss' := by
  intro w ok blk val vs hb00 hGw hNGw hblk hinj hnone hsite hL
  refine (callsIn_wide (n := 1)).1 (callsIn_of_wp_marks hf hb trivial ?_ rfl)
  let cx : Cx := ⟨w, ok, fun b => ∃ i, blk i = some b, fun k => bif Nat.ble n k && (getS ss (k - n)).isVar then blk (k - n) else none, fun _ => none, none⟩
  let blkE : Nat → Option Nat := fun k => bif Nat.ble n k then blk (k - n) else none
  let valE : Nat → Value := fun k => val (k - n)
  have hge : ∀ k, Nat.ble n (n + k) = true := fun k => by rw [Nat.ble_eq]; omega
  have hE : ∀ k b, blkE k = some b → n ≤ k ∧ blk (k - n) = some b := fun k b hk => by
    simp only [blkE] at hk
    cases hb : Nat.ble n k with
    | false => rw [hb] at hk; cases hk
    | true => rw [hb] at hk; exact ⟨Nat.le_of_ble_eq_true hb, hk⟩
  have hokE : ∀ b, b < w.heap.size → ok b → okOf cx blkE b := fun b hb h => ⟨.inl h, fun k hk => (hblk _ _ (hE k b hk).2).2 h⟩
  have hkE : ∀ k, blkE (n + k) = blk k ∧ valE (n + k) = val k ∧ inS n ss (n + k) = shiftS (n + ·) (getS ss k) := fun k => by
    simp only [blkE, valE, inS, hge k, cond_true, Nat.add_sub_cancel_left]
    exact ⟨trivial, trivial, trivial⟩
  have h0 : Hold cx (startS n args ss) { tmps := vs.toArray ++ Array.replicate (fn.ntmps - vs.toArray.size) undef, defers := [] } w blkE valE := by
    refine ⟨⟨rfl, rfl, rfl, Nat.le_refl _, fun _ _ _ => rfl⟩, Kept.nil rfl rfl, ?_, fun k b hk => ⟨.inr ⟨_, (hE k b hk).2⟩, (hblk _ _ (hE k b hk).2).1⟩, fun k k' b hk hk' => ?_, fun k b hk => ?_, fun k => ?_, fun t => ?_⟩
    · have := hL.length
      simp [startS, hn]; omega
    · have e := hinj _ _ _ (hE k b hk).2 (hE k' b hk').2
      have := (hE k b hk).1
      have := (hE k' b hk').1
      omega
    · simp only [cx] at hk
      cases hb : Nat.ble n k && (getS ss (k - n)).isVar with
      | false => rw [hb] at hk; cases hk
      | true =>
        rw [hb] at hk
        rw [Bool.and_eq_true] at hb
        refine ⟨by simp only [blkE, hb.1, cond_true]; exact hk, ?_, Nat.le_of_ble_eq_true hb.1⟩
        show (inS n ss k).isVar = true
        simp only [inS, hb.1, cond_true]
        have h2 := hb.2
        cases hs : getS ss (k - n) <;> rw [hs] at h2 <;> first | rfl | cases h2
    · show SiteIn _ _ _ _ (inS n ss) _ _ (inS n ss k)
      cases hb : Nat.ble n k with
      | false => simp only [blkE, inS, hb, cond_false]; rfl
      | true =>
        obtain ⟨i, rfl⟩ : ∃ i, k = n + i := ⟨k - n, by have := Nat.le_of_ble_eq_true hb; omega⟩
        obtain ⟨e1, e2, e3⟩ := hkE i
        rw [e1, e2, e3]
        exact (hsite i).shift hokE fun _ _ _ _ j _ => hkE j
    · have := argTT_rep (blk' := blkE) (val' := valE) (s' := inS n ss) (f := (n + ·)) (fn.ntmps - vs.toArray.size) hokE hkE hL t
      have e : (vs.toArray ++ Array.replicate (fn.ntmps - vs.toArray.size) undef) = (vs ++ List.replicate (fn.ntmps - vs.toArray.size) undef).toArray := by simp
      show RepT _ _ _ _ _ _ ((vs.toArray ++ Array.replicate (fn.ntmps - vs.toArray.size) undef).getD t undef)
      rw [e, Array.getD_eq_getD_getElem?, List.getElem?_toArray, ← List.getD_eq_getElem?_getD]
      exact this
  have fin : ∀ (a : Act) (w' : World) (st' : St), (∃ ns : List Nat, RetS st' rs (nth ns) r ∧ SitesAt st' ns ss' ∧ ns.length = ss'.length ∧ nodupN ns = true ∧ firstN n 0 ss.length ns = true ∧ belowT ss'.length r = true ∧ ss'.all (belowS ss'.length) = true) → Holds cx st' a w' →
      ∃ v, (results fn a.tmps).run P w' = .ok v w' ∧ ∃ v' blk' val', Ending.returned v = .returned v' ∧ (∀ i, (getS ss i).isVar = true → blk' i = blk i) ∧ (∀ i b, blk' i = some b → (∃ j, blk j = some b) ∨ w.heap.size ≤ b) ∧ (∀ i b, blk' i = some b → b < w'.heap.size) ∧
      (∀ i j b, blk' i = some b → blk' j = some b → i = j) ∧ ExtM ⟨w, ok, fun b => ∃ i, blk i = some b, fun _ => none, fun _ => none, none⟩ w' ∧
      (∀ i, SiteIn w' (fun b => (ok b ∨ w.heap.size ≤ b) ∧ ∀ i, blk' i ≠ some b) blk' val' (getS ss') (blk' i) (val' i) (getS ss' i)) ∧
      RepT w' (fun b => (ok b ∨ w.heap.size ≤ b) ∧ ∀ i, blk' i ≠ some b) blk' val' (getS ss') r v' := by
    intro a w' st' ⟨ns, hret, hsat, hlen, hnd, hfst, hbr, hbs⟩ ⟨blkF, valF, hh⟩
    let blk' : Nat → Option Nat := fun i => if i < ss'.length then blkF (nth ns i) else none
    let val' : Nat → Value := fun i => valF (nth ns i)
    have hb' : ∀ i b, blk' i = some b → i < ss'.length ∧ blkF (nth ns i) = some b := fun i b h => by
      simp only [blk'] at h
      split at h
      · exact ⟨by assumption, h⟩
      · cases h
    have hok' : ∀ b, b < w'.heap.size → okOf cx blkF b → (ok b ∨ w.heap.size ≤ b) ∧ ∀ i, blk' i ≠ some b := fun b _ h => ⟨h.1, fun i hi => h.2 _ (hb' i b hi).2⟩
    have hrel : ∀ k, k < ss'.length → blk' k = blkF (nth ns k) ∧ val' k = valF (nth ns k) ∧ st'.s (nth ns k) = shiftS (nth ns) (getS ss' k) := fun k hk => ⟨if_pos hk, rfl, hsat k hk⟩
    have hbelow : ∀ (ss : List Site) (m i : Nat), ss.all (belowS m) = true → belowS m (getS ss i) = true := by
      intro ss
      induction ss with
      | nil => intro m i _; rfl
      | cons x xs ih =>
        intro m i h
        simp only [List.all_cons, Bool.and_eq_true] at h
        cases i with
        | zero => exact h.1
        | succ i => exact ih m i h.2
    have sites : ∀ i, SiteIn w' (fun b => (ok b ∨ w.heap.size ≤ b) ∧ ∀ i, blk' i ≠ some b) blk' val' (getS ss') (blk' i) (val' i) (getS ss' i) := fun i => by
      rcases Nat.lt_or_ge i ss'.length with hi | hi
      · have h1 := hh.site (nth ns i)
        rw [hsat i hi] at h1
        rw [(hrel i hi).1]
        refine h1.unshift hok' fun cs hcs y hy k hk => ?_
        have h2 := hbelow ss' ss'.length i hbs
        rw [hcs] at h2
        exact hrel k (belowT_lt (List.all_eq_true.1 h2 y hy) k hk)
      · rw [getS_none hi]
        show blk' i = none
        exact if_neg (by omega)
    have repr : ∀ v, RepT w' (okOf cx blkF) blkF valF st'.s (shiftT (nth ns) r) v → RepT w' (fun b => (ok b ∨ w.heap.size ≤ b) ∧ ∀ i, blk' i ≠ some b) blk' val' (getS ss') r v := fun v h =>
      h.unshift hok' fun k hk => hrel k (belowT_lt hbr k hk)
    have hsl : ss.length ≤ ss'.length ∨ ss = [] := by
      rcases Nat.lt_or_ge ss'.length ss.length with h | h
      · right
        exfalso
        have : ∀ (m i : Nat) (ns : List Nat), firstN n i m ns = true → m ≤ ns.length := by
          intro m
          induction m with
          | zero => intro i ns _; omega
          | succ m ih =>
            intro i ns h
            cases ns with
            | nil => simp [firstN] at h
            | cons x xs =>
              simp only [firstN, Bool.and_eq_true] at h
              have := ih _ _ h.2
              simp; omega
        have := this _ _ _ hfst
        omega
      · exact .inl h
    have hname : ∀ i, i < ss.length → nth ns i = n + i := fun i hi => by
      have := nth_firstN hfst i hi
      rw [Nat.zero_add] at this; exact this
    have common : (∀ i, (getS ss i).isVar = true → blk' i = blk i) ∧ (∀ i b, blk' i = some b → (∃ j, blk j = some b) ∨ w.heap.size ≤ b) ∧ (∀ i b, blk' i = some b → b < w'.heap.size) ∧
        (∀ i j b, blk' i = some b → blk' j = some b → i = j) ∧ ExtM ⟨w, ok, fun b => ∃ i, blk i = some b, fun _ => none, fun _ => none, none⟩ w' := by
      refine ⟨fun i hi => ?_, fun i b hb => ?_, fun i b hb => (hh.new _ _ (hb' i b hb).2).2, fun i j b h1 h2 => ?_, ⟨hh.ext.os, hh.ext.tape, hh.ext.output, hh.ext.size, hh.ext.block⟩⟩
      · have him : i < ss.length := by
          rcases Nat.lt_or_ge i ss.length with h | h
          · exact h
          · rw [getS_none h] at hi; cases hi
        have hi' : i < ss'.length := by
          rcases hsl with h | h
          · omega
          · subst h; simp at him
        rw [(hrel i hi').1, hname i him]
        have hs := hsite i
        obtain ⟨b, hb⟩ : ∃ b, blk i = some b := by
          cases hg : getS ss i <;> rw [hg] at hs hi <;> first | (cases hi; done) | (obtain ⟨b, _, _, h, _⟩ := hs; exact ⟨b, h⟩) | (obtain ⟨b, h, _⟩ := hs; exact ⟨b, h⟩)
        have hp := hh.pin (n + i) b (by
          show (bif Nat.ble n (n + i) && (getS ss (n + i - n)).isVar then blk (n + i - n) else none) = some b
          rw [Nat.add_sub_cancel_left, hge i, hi]
          exact hb)
        rw [hp.1, hb]
      · rcases (hh.new _ _ (hb' i b hb).2).1 with h | h
        · exact .inr h
        · exact .inl h
      · have e := hh.inj _ _ b (hb' i b h1).2 (hb' j b h2).2
        exact nth_inj hnd (by rw [hlen]; exact (hb' i b h1).1) (by rw [hlen]; exact (hb' j b h2).1) e
    obtain ⟨c1, c2, c4, c5, c6⟩ := common
    cases hret with
    | none =>
      have : (results fn a.tmps).run P w' = .ok (.tuple #[]) w' := by simp [results, hrs]
      exact ⟨_, this, _, blk', val', rfl, c1, c2, c4, c5, c6, sites, Rep.tup [] [] rfl (fun j d v h => by simp at h)⟩
    | tmp ht =>
      rename_i t
      have : (results fn a.tmps).run P w' = .ok (a.tmps.getD t undef) w' := by simp [results, hrs]
      exact ⟨_, this, _, blk', val', rfl, c1, c2, c4, c5, c6, sites, repr _ (by rw [← ht]; exact hh.tmp t)⟩
  have hlow := hgk.low w hGw
  have hG1 : ∀ w', ExtM cx w' → G w' := fun w' hx => hgk.keep w w' hGw hx.size fun k hk => hx.block k (Nat.lt_of_lt_of_le hk hlow) (fun ⟨i, hi⟩ => by have := hNGw i k hi; omega)
  have hN1 : ∀ b, Ours cx b → NG ≤ b := fun b hb => by
    rcases hb with q | ⟨i, hi⟩
    · exact Nat.le_trans hlow q
    · exact hNGw i b hi
  have h0 := h0.gat gi (k := n) (b := b0) (by
    show (inS n ss n).isVar = true
    have q := (hkE 0).2.2
    rw [Nat.add_zero] at q
    rw [q]
    cases hs : getS ss 0 <;> rw [hs] at hs0 <;> first | rfl | cases hs0) (by have q := (hkE 0).1; rw [Nat.add_zero] at q; exact q.trans hb00)
  refine wpIn_mono (h cx rfl hG1 hN1 Fence.wide 1 ⟨.inl rfl, rfl⟩ _ w ⟨_, _, h0⟩) fun e a w' ⟨st', hR, hH⟩ => ?_
  cases e with
  | normal =>
    obtain ⟨ms, m1, m2, m3, hH'⟩ := hH.shut rfl
    show LeavesInM _ _ _ _ _ _ _ _ _
    rw [m1]
    exact shut_leaves ms w' m2 m3 (fin { a with defers := [] } (shut ms w') st' hR hH')
  | ret =>
    obtain ⟨ms, m1, m2, m3, hH'⟩ := hH.shut rfl
    show LeavesInM _ _ _ _ _ _ _ _ _
    rw [m1]
    exact shut_leaves ms w' m2 m3 (fin { a with defers := [] } (shut ms w') st' hR hH')
  | exit id => exact hR.elim
  | goto l => exact hR.elim
  | panic c => exact hR.elim
  | outgrown => exact hR.elim

end
inductive RetX (P : Program) (st : St) : ResultVar → D → Prop
  | tmp {t : Tmp} {d : D} (h : st.t t = .d d) : RetX P st (.tmp t) d
  | cellA {t : Tmp} {ty m k : Nat} {cs : List D} (h : st.t t = .ref k 0) (hk : st.s k = .box cs) (hs : szB P ty true m = true) (hl : cs.length = m) : RetX P st (.cell t ty) (.agg cs)
inductive RetXs (P : Program) (st : St) : List ResultVar → List D → Prop
  | nil : RetXs P st [] []
  | cons {r : ResultVar} {rs : List ResultVar} {d : D} {ds : List D} (h : RetX P st r d) (hs : RetXs P st rs ds) : RetXs P st (r :: rs) (d :: ds)
def endX (P : Program) (n : Nat) (rs : List ResultVar) (m : Nat) (r : D) (ss' : List Site) : Exit → St → Prop
  | .ret, st | .normal, st => ∃ (ds : List D) (ns : List Nat), RetXs P st rs ds ∧ r = retD ds ∧ SitesAt st ns ss' ∧ ns.length = ss'.length ∧ nodupN ns = true ∧ firstN n 0 m ns = true ∧ ss'.all (belowS ss'.length) = true
  | _, _ => False
theorem endx_mk {P : Program} {st : St} {n : Nat} {rs : List ResultVar} {m : Nat} {r : D} {ss' : List Site} {e : Exit} (he : e = .ret ∨ e = .normal) (ds : List D) (ns : List Nat) (hr : RetXs P st rs ds) (hrd : r = retD ds) (hs : holdS st (nth ns) ns ss') (h : (Nat.beq ns.length ss'.length && (nodupN ns && (firstN n 0 m ns && ss'.all (belowS ss'.length)))) = true) : endX P n rs m r ss' e st := by
  simp only [Bool.and_eq_true] at h
  obtain ⟨h1, h2, h3, h4⟩ := h
  rcases he with rfl | rfl
  · exact ⟨ds, ns, hr, hrd, hs.spec, Nat.eq_of_beq_eq_true h1, h2, h3, h4⟩
  · exact ⟨ds, ns, hr, hrd, hs.spec, Nat.eq_of_beq_eq_true h1, h2, h3, h4⟩
theorem retx_one {P : Program} {w0 : Cx} {st : St} {a : Act} {w : World} {blk : Nat → Option Nat} {val : Nat → Value} {r : ResultVar} {d : D} (hh : Hold w0 st a w blk val) (h : RetX P st r d) : ∃ v, (readVar a.tmps r).run P w = .ok v w ∧ Rep w (okOf w0 blk) d v := by
  cases h with
  | tmp h =>
    rename_i t
    have q := hh.tmp t
    rw [h] at q
    exact ⟨_, rfl, q⟩
  | cellA h hk hs hl =>
    rename_i t ty m k cs
    have h1 := hh.tmp t
    rw [h] at h1
    obtain ⟨_, b, hb, hv⟩ := h1
    have h2 := hh.site k
    rw [hk] at h2
    obtain ⟨b', e, vals, hb', hheap, hsz, hsc, hc⟩ := h2
    rw [hb] at hb'; cases hb'
    have hld := run_loadBlock (P := P) hheap
    rw [hsz, hl] at hld
    refine ⟨.agg vals, ?_, ?_⟩
    · simp only [readVar, Sem.run_bind, hv, asAddr, Sem.run_pure, Result.andThen_ok, loadVar, szB_agg hs, if_true, szB_size hs, hld]
    · have := Rep.agg (w := w) (ok := okOf w0 blk) cs vals.toList (by simpa using hsz) hsc (fun j d v hd hv => by
        obtain ⟨u, hu, hr⟩ := hc j d hd
        have : u = v := by have h3 : vals.toList[j]? = some u := by simpa using hu
                           rw [h3] at hv; exact Option.some.inj hv
        subst this
        exact hr)
      simpa using this
theorem le_ownT {c : Cx} {st : St} (k j o e sz : Nat) {cs : List T} (hs : st.s k = .tbox cs) (hj : st.s j = .no) (ho : cs[o]? = some (.d (.v (.slice none 0 0)))) :
    Le c st ((st.site j (.row e sz [])).site k (.tbox (cs.set o (.rs j)))) := by
  intro a w ⟨blk, val, hh⟩
  have hne : ∀ i, st.s i ≠ .no → Nat.beq i j = false := fun i hi => by rw [← Bool.not_eq_true]; intro h; rw [Nat.eq_of_beq_eq_true h] at hi; exact hi hj
  have hkj : Nat.beq k j = false := hne k (by rw [hs]; simp)
  have hbj : blk j = none := by have := hh.site j; rw [hj] at this; exact this
  obtain ⟨val', hval'⟩ : ∃ val' : Nat → Value, val' = fun i => bif Nat.beq i j then .slice none 0 0 else val i := ⟨_, rfl⟩
  have hvne : ∀ i, Nat.beq i j = false → val' i = val i := fun i hi => by rw [hval']; simp [hi]
  have hsite : ∀ i, ((st.site j (.row e sz [])).site k (.tbox (cs.set o (.rs j)))).s i = bif Nat.beq i k then .tbox (cs.set o (.rs j)) else bif Nat.beq i j then .row e sz [] else st.s i := fun i => rfl
  have hrel : ∀ i, st.s i ≠ .no → val' i = val i ∧ ((st.site j (.row e sz [])).site k (.tbox (cs.set o (.rs j)))).s i ≠ .no ∧ ((∃ e' sz' es', st.s i = .row e' sz' es') → ∃ e' sz' es', ((st.site j (.row e sz [])).site k (.tbox (cs.set o (.rs j)))).s i = .row e' sz' es') := fun i hi => by
    refine ⟨hvne i (hne i hi), ?_, ?_⟩
    · rw [hsite]
      cases Nat.beq i k
      · simp only [cond_false, hne i hi]; exact hi
      · simp
    · rintro ⟨e', sz', es', h⟩
      rw [hsite]
      cases hik : Nat.beq i k with
      | false => simp only [cond_false, hne i hi]; exact ⟨e', sz', es', h⟩
      | true => rw [Nat.eq_of_beq_eq_true hik, hs] at h; cases h
  have hT : ∀ (x : T) (v : Value), RepT w (okOf c blk) blk val st.s x v → RepT w (okOf c blk) blk val' ((st.site j (.row e sz [])).site k (.tbox (cs.set o (.rs j)))).s x v := fun x v h => by
    cases x with
    | ref i _ =>
      obtain ⟨q1, q2⟩ := h
      exact ⟨(hrel i q1).2.1, q2⟩
    | rs i =>
      obtain ⟨⟨e', sz', es', q1⟩, q2⟩ := h
      obtain ⟨r1, _, r3⟩ := hrel i (by rw [q1]; simp)
      exact ⟨r3 ⟨e', sz', es', q1⟩, by rw [r1]; exact q2⟩
    | own i r _ _ =>
      obtain ⟨⟨⟨q0, q1⟩, qo⟩, q2⟩ := h
      obtain ⟨r1, r2, r3⟩ := hrel i q0
      exact ⟨⟨⟨r2, fun hr => r3 (q1 hr)⟩, qo⟩, by rw [r1]; exact q2⟩
    | _ => exact h
  refine ⟨blk, val', hh.ext, hh.defers, hh.size, hh.new, hh.inj, fun i b h => ?_, fun i => ?_, fun t => hT _ _ (hh.tmp t)⟩
  · obtain ⟨p1, p2, p3⟩ := hh.pin i b h
    refine ⟨p1, ?_, p3⟩
    rw [hsite]
    cases hik : Nat.beq i k with
    | true => rfl
    | false => simp only [cond_false, hne i (by intro h0; rw [h0] at p2; cases p2)]; exact p2
  · rw [hsite]
    have h1 := hh.site i
    cases hik : Nat.beq i k with
    | true =>
      have hik' := Nat.eq_of_beq_eq_true hik
      subst hik'
      rw [hs] at h1
      obtain ⟨b, e0, vals, h1, h2, h3, h5⟩ := h1
      simp only [cond_true]
      refine ⟨b, e0, vals, h1, h2, by simpa using h3, fun m x hx => ?_⟩
      rw [List.getElem?_set] at hx
      by_cases hom : o = m
      · subst hom
        rw [if_pos rfl] at hx
        split at hx
        · cases hx
          obtain ⟨v, hv, _, hr⟩ := h5 o _ ho
          have hv0 := Rep.v_eq hr
          subst hv0
          refine ⟨_, hv, rfl, ⟨e, sz, [], ?_⟩, by rw [hval']; simp⟩
          rw [hsite]
          have : Nat.beq j i = false := by rw [← Bool.not_eq_true]; intro h; rw [Nat.eq_of_beq_eq_true h, hs] at hj; cases hj
          rw [this]; simp
        · cases hx
      · rw [if_neg hom] at hx
        obtain ⟨v, hv, ho1, hr⟩ := h5 m x hx
        exact ⟨v, hv, ho1, hT x v hr⟩
    | false =>
      simp only [cond_false]
      cases hij : Nat.beq i j with
      | true =>
        have hij' := Nat.eq_of_beq_eq_true hij
        subst hij'
        simp only [cond_true]
        refine ⟨fun m x hx => by simp at hx, fun m x n d hx => by simp at hx, .inl ⟨hbj, rfl, by rw [hval']; simp⟩⟩
      | false =>
        simp only [cond_false]
        rw [hvne i hij]
        cases hz : st.s i with
        | no => rw [hz] at h1; exact h1
        | box ds => rw [hz] at h1; exact h1
        | tbox ts =>
          rw [hz] at h1
          obtain ⟨b, e0, vals, h1, h2, h3, h5⟩ := h1
          exact ⟨b, e0, vals, h1, h2, h3, fun m x hx => let ⟨v, hv, ho, hr⟩ := h5 m x hx; ⟨v, hv, ho, hT x v hr⟩⟩
        | row e1 sz1 es1 => rw [hz] at h1; exact h1
        | mp es1 c1 => rw [hz] at h1; exact h1

section
variable {P : Program} {w0 : Cx} {ops : List Oper} {rest : List Oper} {R : Exit → St → Prop} {st : St} {ty : TypeId} {pos : String} {after : Array Edge}
theorem aops_three {d : Nat} {t e : Nat} {z u0 u1 u2 : Value} {y0 y1 y2 : Operand} (ht : slB P t e 1 = true) (hz : zrB P e z) (hzs : z.cells.size = 1) (e0 : st.ev y0 = .d (.v u0)) (e1 : st.ev y1 = .d (.v u1)) (e2 : st.ev y2 = .d (.v u2)) (c0 : u0.cells = #[u0]) (c1 : u1.cells = #[u1]) (c2 : u2.cells = #[u2]) (h0 : u0.oneCell' = true) (h1 : u1.oneCell' = true) (h2 : u2.oneCell' = true) (hd : Nat.blt d st.n = true) (hs : st.s d = .no)
    (h : Aops P w0 ops rest R ((st.site d (.row e 1 [[.v u0], [.v u1], [.v u2]])).put (some d) (.rs d))) : Aops P w0 ops (⟨some d, .buildSlice t 3 #[(0, y0), (1, y1), (2, y2)], ty, pos, after, none⟩ :: rest) R st := by
  refine aops_step (K := fun s => s = (st.site d (.row e 1 [[.v u0], [.v u1], [.v u2]])).put (some d) (.rs d)) rfl (fun a w ⟨blk, val, hh⟩ => ?_) (fun _ e => e ▸ h)
  obtain ⟨i, hi, hsi⟩ := slB_info ht
  have v0 : a.eval y0 = u0 := RepT.v_eq (e0 ▸ hh.ev y0)
  have v1 : a.eval y1 = u1 := RepT.v_eq (e1 ▸ hh.ev y1)
  have v2 : a.eval y2 = u2 := RepT.v_eq (e2 ▸ hh.ev y2)
  have hr1 : Array.range 3 = #[0, 1, 2] := rfl
  obtain ⟨c, hcs⟩ : ∃ c, z.cells = #[c] := by
    match hq : z.cells, hzs with
    | ⟨[c]⟩, _ => exact ⟨c, rfl⟩
  refine wp_value (v := .slice (some ⟨w.heap.size, 0, none⟩) 3 3) (w' := w.alloc (.cells #[u0, u1, u2] e)) (by
    simp [execOp, Instr.buildSlice, run_underlying (slB_under ht), sizeOf, my_typeInfo hi, hsi, hr1, run_zero hz, Instr.fill, newRow, v0, v1, v2, c0, c1, c2, hcs]) ⟨_, rfl, ?_⟩
  have hH := hh.allocSite (k := d) (x := .row e 1 [[.v u0], [.v u1], [.v u2]]) (u := .slice (some ⟨w.heap.size, 0, none⟩) 3 3) (o := .cells #[u0, u1, u2] e) hs ⟨fun i x hx => (by
      match i, hx with
      | 0, hx => cases hx; rfl
      | 1, hx => cases hx; rfl
      | 2, hx => cases hx; rfl), fun i x j y hx hy => (by
      match i, hx with
      | 0, hx => cases hx; match j, hy with
        | 0, hy => cases hy; rfl
      | 1, hx => cases hx; match j, hy with
        | 0, hy => cases hy; rfl
      | 2, hx => cases hx; match j, hy with
        | 0, hy => cases hy; rfl), .inr ⟨w.heap.size, #[u0, u1, u2], 3, rfl, rfl, Nat.le_refl _, by simp [maxLen], new_block _ _, by simp, fun i x j y hx hy => (by
      match i, hx with
      | 0, hx => cases hx; match j, hy with
        | 0, hy => cases hy; exact ⟨u0, rfl, .v u0 h0⟩
      | 1, hx => cases hx; match j, hy with
        | 0, hy => cases hy; exact ⟨u1, rfl, .v u1 h1⟩
      | 2, hx => cases hx; match j, hy with
        | 0, hy => cases hy; exact ⟨u2, rfl, .v u2 h2⟩)⟩⟩
  exact ⟨_, _, put_hold hH (by simpa [Nat.blt_eq, St.site] using hd) ⟨⟨e, 1, _, by simp [St.site]; rfl⟩, by simp⟩⟩
end
theorem getS_all : ∀ {ss : List Site} {i : Nat}, ss.all Site.isVar = true → i < ss.length → (getS ss i).isVar = true
  | x :: _, 0, h, _ => by simp only [List.all_cons, Bool.and_eq_true] at h; exact h.1
  | _ :: xs, i + 1, h, hi => by simp only [List.all_cons, Bool.and_eq_true] at h; exact getS_all (ss := xs) h.2 (by simpa using hi)
  | [], _, _, hi => by cases hi
section
variable {P : Program} {w0 : Cx} {st : St}
theorem le_freezeTBP (k j o : Nat) {cs : List T} {e sz : Nat} {es : List (List D)} (hk : st.s k = .tbox cs) (ho : cs[o]? = some (.rs j)) (hs : st.s j = .row e sz es) (hjn : Nat.blt j st.n = true) (hm : ∀ b, w0.mine b → ∃ k, w0.pin k = some b) :
    Le w0 st ((headSt st [j] [] []).site k (.tbox ((cs.map (killT [j])).set o (.d (.sl sz es))))) := by
  intro a w ⟨blk, val, hh⟩
  have hH : Hold w0 (headSt st [j] [] []) a w (headBlk [j] [] blk) val := hold_headW (ms := []) (Out.refl st) (by simp) (by simp) (by intro k h; cases h) (by intro p h; cases h) rfl (by simpa using hjn) hh
  have hkj : memN k [j] = false := by
    cases h : memN k [j] with
    | false => rfl
    | true =>
      simp [memN] at h
      have := h; subst this
      rw [hk] at hs; cases hs
  have hsk : (headSt st [j] [] []).s k = .tbox (cs.map (killT [j])) := by
    simp only [headSt, lookN, hkj, cond_false, hk, killSite]
  have h1 := hh.site k
  rw [hk] at h1
  obtain ⟨b1, e1, vals1, p1, p2, p3, p4⟩ := h1
  obtain ⟨v, hv, hone, _, hvj⟩ := p4 o _ ho
  have h2 := hh.site j
  rw [hs] at h2
  obtain ⟨a1, a2, a3⟩ := h2
  have hok : ∀ c, okOf w0 blk c → okOf w0 (headBlk [j] [] blk) c := fun c ⟨q1, q2⟩ => ⟨q1, fun i hi => by
    simp only [headBlk, lookN] at hi
    cases hm : memN i [j] <;> rw [hm] at hi
    · exact q2 i hi
    · cases hi⟩
  have hrep : Rep w (okOf w0 (headBlk [j] [] blk)) (.sl sz es) v := by
    rcases a3 with ⟨_, he, hval⟩ | ⟨b, vals, cap, hb, hval, hn, hcap, hh', hsz, hc⟩
    · rw [hvj, hval, he]; exact .emp sz none 0 (Nat.zero_le _)
    · have hokb : okOf w0 (headBlk [j] [] blk) b := by
        refine ⟨(hh.new j b hb).1.elim .inr (fun h => by
        obtain ⟨k9, h9⟩ := hm b h
        obtain ⟨p1, _, p3⟩ := hh.pin k9 b h9
        have e9 := hh.inj k9 j b p1 hb
        rw [e9] at p3
        have h8 := hjn
        rw [Nat.blt_eq] at h8
        exact absurd h8 (by omega)), fun i hi => ?_⟩
        simp only [headBlk, lookN] at hi
        cases hmi : memN i [j] <;> rw [hmi] at hi
        · have := hh.inj i j b hi hb
          subst this
          simp [memN] at hmi
        · cases hi
      rw [hvj, hval]
      exact .sl sz es b 0 cap (fun i j => vals.getD (i * sz + j) undef) (heap_lt hh') hokb hn hcap a1 a2 (fun i x j d hi hj => by
        obtain ⟨v, hv, _⟩ := hc i x j d hi hj
        rw [cell_of_block hh', Nat.zero_add, hv, getD_val hv]) (fun i x j d hi hj => by
        obtain ⟨v, hv, hr⟩ := hc i x j d hi hj
        rw [getD_val hv]; exact hr.ok fun _ _ h => hok _ h)
  refine ⟨_, _, hH.retell ?_ (by simp) (fun e sz es q => by rw [hsk] at q; cases q)⟩
  have h3 := hH.site k
  rw [hsk] at h3
  obtain ⟨b, e', vals, q1, q2, q3, q4⟩ := h3
  have hbb : b = b1 := by
    have : headBlk [j] [] blk k = blk k := by simp only [headBlk, lookN, hkj, cond_false]
    rw [this, p1] at q1; cases q1; rfl
  subst hbb
  rw [p2] at q2
  cases q2
  refine ⟨b, _, _, q1, p2, by simpa using q3, fun i x hx => ?_⟩
  rw [List.getElem?_set] at hx
  by_cases hi : o = i
  · subst hi
    split at hx
    · split at hx
      · cases hx; exact ⟨v, hv, hone, hrep⟩
      · cases hx
    · exact absurd rfl ‹_›
  · rw [if_neg hi] at hx
    exact q4 i x hx
theorem retx_many {a : Act} {w : World} {blk : Nat → Option Nat} {val : Nat → Value} (hh : Hold w0 st a w blk val) : ∀ {rs : List ResultVar} {ds : List D}, RetXs P st rs ds →
    ∃ vs : List Value, (rs.mapM (readVar a.tmps)).run P w = .ok vs w ∧ RepL w (okOf w0 blk) ds vs
  | _, _, .nil => ⟨[], rfl, trivial⟩
  | _, _, .cons h hs => by
    obtain ⟨v, h1, h2⟩ := retx_one hh h
    obtain ⟨vs, h3, h4⟩ := retx_many hh hs
    refine ⟨v :: vs, ?_, h2, h4⟩
    rw [List.mapM_cons]
    simp [h1, h3]
theorem runx_results {fn : Func} {a : Act} {w : World} {blk : Nat → Option Nat} {val : Nat → Value} {rs : List ResultVar} {ds : List D} (hh : Hold w0 st a w blk val) (hr : fn.results = rs.toArray) (h : RetXs P st rs ds) :
    ∃ v, (results fn a.tmps).run P w = .ok v w ∧ Rep w (okOf w0 blk) (retD ds) v := by
  obtain ⟨vs, h1, h2⟩ := retx_many hh h
  have hm : (fn.results.mapM (readVar a.tmps)).run P w = .ok vs.toArray w := by
    rw [hr, List.mapM_toArray]
    simp [h1]
  have hres : (results fn a.tmps).run P w = .ok (if h : vs.toArray.size = 1 then vs.toArray[0] else .tuple vs.toArray) w := by
    have : results fn a.tmps = (do let vs ← fn.results.mapM (readVar a.tmps); pure (if h : vs.size = 1 then vs[0] else .tuple vs)) := by
      unfold results readVar
      rfl
    rw [this]
    simp only [Sem.run_bind, hm, Result.andThen_ok, Sem.run_pure]
  refine ⟨_, hres, ?_⟩
  match ds, vs, h2 with
  | [], [], _ => simp [retD]; exact Rep.tup [] [] rfl (fun j d v h => by simp at h)
  | [d], [v], h2 => simpa [retD] using h2.1
  | d :: d' :: ds, v :: v' :: vs, h2 =>
    simp [retD]
    exact Rep.tup _ (v :: v' :: vs) (h2.length) fun j d v h1 h3 => h2.get j d v h1 h3

theorem pcsg_of_awpX {NG : Nat} {G : World → Prop} (hgk : GLow NG G) {f : FuncId} {fn : Func} {c : Code} {n : Nat} {args : List T} {ss ss' : List Site} {r : D} {rs : List ResultVar} (hf : P.funcs[f]? = some fn) (hb : fn.body = some c) (hn : fn.ntmps = n) (hrs : fn.results = rs.toArray) (hl : args.length ≤ n) (hvar : ss.all Site.isVar = true)
    (h : ∀ w0 : Cx, w0.rnd = none → (∀ w, ExtM w0 w → G w) → (∀ b, Ours w0 b → NG ≤ b) → (∀ b, w0.mine b → ∃ k, w0.pin k = some b) → Awp P w0 c (endX P n rs ss.length r ss') (startS n args ss)) : PCSG P NG G f args ss (.d r) ss' := by
  intro w ok blk val vs hGw hNGw hblk hinj hnone hsite hL
  refine (callsIn_wide (n := 1)).1 (callsIn_of_wp_marks hf hb trivial ?_ rfl)
  let cx : Cx := ⟨w, ok, fun b => ∃ i, blk i = some b, fun k => bif Nat.ble n k && (getS ss (k - n)).isVar then blk (k - n) else none, fun _ => none, none⟩
  let blkE : Nat → Option Nat := fun k => bif Nat.ble n k then blk (k - n) else none
  let valE : Nat → Value := fun k => val (k - n)
  have hge : ∀ k, Nat.ble n (n + k) = true := fun k => by rw [Nat.ble_eq]; omega
  have hE : ∀ k b, blkE k = some b → n ≤ k ∧ blk (k - n) = some b := fun k b hk => by
    simp only [blkE] at hk
    cases hb : Nat.ble n k with
    | false => rw [hb] at hk; cases hk
    | true => rw [hb] at hk; exact ⟨Nat.le_of_ble_eq_true hb, hk⟩
  have hokE : ∀ b, b < w.heap.size → ok b → okOf cx blkE b := fun b hb h => ⟨.inl h, fun k hk => (hblk _ _ (hE k b hk).2).2 h⟩
  have hkE : ∀ k, blkE (n + k) = blk k ∧ valE (n + k) = val k ∧ inS n ss (n + k) = shiftS (n + ·) (getS ss k) := fun k => by
    simp only [blkE, valE, inS, hge k, cond_true, Nat.add_sub_cancel_left]
    exact ⟨trivial, trivial, trivial⟩
  have h0 : Hold cx (startS n args ss) { tmps := vs.toArray ++ Array.replicate (fn.ntmps - vs.toArray.size) undef, defers := [] } w blkE valE := by
    refine ⟨⟨rfl, rfl, rfl, Nat.le_refl _, fun _ _ _ => rfl⟩, Kept.nil rfl rfl, ?_, fun k b hk => ⟨.inr ⟨_, (hE k b hk).2⟩, (hblk _ _ (hE k b hk).2).1⟩, fun k k' b hk hk' => ?_, fun k b hk => ?_, fun k => ?_, fun t => ?_⟩
    · have := hL.length
      simp [startS, hn]; omega
    · have e := hinj _ _ _ (hE k b hk).2 (hE k' b hk').2
      have := (hE k b hk).1
      have := (hE k' b hk').1
      omega
    · simp only [cx] at hk
      cases hb : Nat.ble n k && (getS ss (k - n)).isVar with
      | false => rw [hb] at hk; cases hk
      | true =>
        rw [hb] at hk
        rw [Bool.and_eq_true] at hb
        refine ⟨by simp only [blkE, hb.1, cond_true]; exact hk, ?_, Nat.le_of_ble_eq_true hb.1⟩
        show (inS n ss k).isVar = true
        simp only [inS, hb.1, cond_true]
        have h2 := hb.2
        cases hs : getS ss (k - n) <;> rw [hs] at h2 <;> first | rfl | cases h2
    · show SiteIn _ _ _ _ (inS n ss) _ _ (inS n ss k)
      cases hb : Nat.ble n k with
      | false => simp only [blkE, inS, hb, cond_false]; rfl
      | true =>
        obtain ⟨i, rfl⟩ : ∃ i, k = n + i := ⟨k - n, by have := Nat.le_of_ble_eq_true hb; omega⟩
        obtain ⟨e1, e2, e3⟩ := hkE i
        rw [e1, e2, e3]
        exact (hsite i).shift hokE fun _ _ _ _ j _ => hkE j
    · have := argTT_rep (blk' := blkE) (val' := valE) (s' := inS n ss) (f := (n + ·)) (fn.ntmps - vs.toArray.size) hokE hkE hL t
      have e : (vs.toArray ++ Array.replicate (fn.ntmps - vs.toArray.size) undef) = (vs ++ List.replicate (fn.ntmps - vs.toArray.size) undef).toArray := by simp
      show RepT _ _ _ _ _ _ ((vs.toArray ++ Array.replicate (fn.ntmps - vs.toArray.size) undef).getD t undef)
      rw [e, Array.getD_eq_getD_getElem?, List.getElem?_toArray, ← List.getD_eq_getElem?_getD]
      exact this
  have fin : ∀ (a : Act) (w' : World) (st' : St), (∃ (ds : List D) (ns : List Nat), RetXs P st' rs ds ∧ r = retD ds ∧ SitesAt st' ns ss' ∧ ns.length = ss'.length ∧ nodupN ns = true ∧ firstN n 0 ss.length ns = true ∧ ss'.all (belowS ss'.length) = true) → Holds cx st' a w' →
      ∃ v, (results fn a.tmps).run P w' = .ok v w' ∧ ∃ v' blk' val', Ending.returned v = .returned v' ∧ (∀ i, (getS ss i).isVar = true → blk' i = blk i) ∧ (∀ i b, blk' i = some b → (∃ j, blk j = some b) ∨ w.heap.size ≤ b) ∧ (∀ i b, blk' i = some b → b < w'.heap.size) ∧
      (∀ i j b, blk' i = some b → blk' j = some b → i = j) ∧ ExtM ⟨w, ok, fun b => ∃ i, blk i = some b, fun _ => none, fun _ => none, none⟩ w' ∧
      (∀ i, SiteIn w' (fun b => (ok b ∨ w.heap.size ≤ b) ∧ ∀ i, blk' i ≠ some b) blk' val' (getS ss') (blk' i) (val' i) (getS ss' i)) ∧
      RepT w' (fun b => (ok b ∨ w.heap.size ≤ b) ∧ ∀ i, blk' i ≠ some b) blk' val' (getS ss') (.d r) v' := by
    intro a w' st' ⟨ds, ns, hret, hrd, hsat, hlen, hnd, hfst, hbs⟩ ⟨blkF, valF, hh⟩
    let blk' : Nat → Option Nat := fun i => if i < ss'.length then blkF (nth ns i) else none
    let val' : Nat → Value := fun i => valF (nth ns i)
    have hb' : ∀ i b, blk' i = some b → i < ss'.length ∧ blkF (nth ns i) = some b := fun i b h => by
      simp only [blk'] at h
      split at h
      · exact ⟨by assumption, h⟩
      · cases h
    have hok' : ∀ b, b < w'.heap.size → okOf cx blkF b → (ok b ∨ w.heap.size ≤ b) ∧ ∀ i, blk' i ≠ some b := fun b _ h => ⟨h.1, fun i hi => h.2 _ (hb' i b hi).2⟩
    have hrel : ∀ k, k < ss'.length → blk' k = blkF (nth ns k) ∧ val' k = valF (nth ns k) ∧ st'.s (nth ns k) = shiftS (nth ns) (getS ss' k) := fun k hk => ⟨if_pos hk, rfl, hsat k hk⟩
    have hbelow : ∀ (ss : List Site) (m i : Nat), ss.all (belowS m) = true → belowS m (getS ss i) = true := by
      intro ss
      induction ss with
      | nil => intro m i _; rfl
      | cons x xs ih =>
        intro m i h
        simp only [List.all_cons, Bool.and_eq_true] at h
        cases i with
        | zero => exact h.1
        | succ i => exact ih m i h.2
    have sites : ∀ i, SiteIn w' (fun b => (ok b ∨ w.heap.size ≤ b) ∧ ∀ i, blk' i ≠ some b) blk' val' (getS ss') (blk' i) (val' i) (getS ss' i) := fun i => by
      rcases Nat.lt_or_ge i ss'.length with hi | hi
      · have h1 := hh.site (nth ns i)
        rw [hsat i hi] at h1
        rw [(hrel i hi).1]
        refine h1.unshift hok' fun cs hcs y hy k hk => ?_
        have h2 := hbelow ss' ss'.length i hbs
        rw [hcs] at h2
        exact hrel k (belowT_lt (List.all_eq_true.1 h2 y hy) k hk)
      · rw [getS_none hi]
        show blk' i = none
        exact if_neg (by omega)
    have hsl : ss.length ≤ ss'.length ∨ ss = [] := by
      rcases Nat.lt_or_ge ss'.length ss.length with h | h
      · right
        exfalso
        have : ∀ (m i : Nat) (ns : List Nat), firstN n i m ns = true → m ≤ ns.length := by
          intro m
          induction m with
          | zero => intro i ns _; omega
          | succ m ih =>
            intro i ns h
            cases ns with
            | nil => simp [firstN] at h
            | cons x xs =>
              simp only [firstN, Bool.and_eq_true] at h
              have := ih _ _ h.2
              simp; omega
        have := this _ _ _ hfst
        omega
      · exact .inl h
    have hname : ∀ i, i < ss.length → nth ns i = n + i := fun i hi => by
      have := nth_firstN hfst i hi
      rw [Nat.zero_add] at this; exact this
    have common : (∀ i, (getS ss i).isVar = true → blk' i = blk i) ∧ (∀ i b, blk' i = some b → (∃ j, blk j = some b) ∨ w.heap.size ≤ b) ∧ (∀ i b, blk' i = some b → b < w'.heap.size) ∧
        (∀ i j b, blk' i = some b → blk' j = some b → i = j) ∧ ExtM ⟨w, ok, fun b => ∃ i, blk i = some b, fun _ => none, fun _ => none, none⟩ w' := by
      refine ⟨fun i hi => ?_, fun i b hb => ?_, fun i b hb => (hh.new _ _ (hb' i b hb).2).2, fun i j b h1 h2 => ?_, ⟨hh.ext.os, hh.ext.tape, hh.ext.output, hh.ext.size, hh.ext.block⟩⟩
      · have him : i < ss.length := by
          rcases Nat.lt_or_ge i ss.length with h | h
          · exact h
          · rw [getS_none h] at hi; cases hi
        have hi' : i < ss'.length := by
          rcases hsl with h | h
          · omega
          · subst h; simp at him
        rw [(hrel i hi').1, hname i him]
        have hs := hsite i
        obtain ⟨b, hb⟩ : ∃ b, blk i = some b := by
          cases hg : getS ss i <;> rw [hg] at hs hi <;> first | (cases hi; done) | (obtain ⟨b, _, _, h, _⟩ := hs; exact ⟨b, h⟩) | (obtain ⟨b, h, _⟩ := hs; exact ⟨b, h⟩)
        have hp := hh.pin (n + i) b (by
          show (bif Nat.ble n (n + i) && (getS ss (n + i - n)).isVar then blk (n + i - n) else none) = some b
          rw [Nat.add_sub_cancel_left, hge i, hi]
          exact hb)
        rw [hp.1, hb]
      · rcases (hh.new _ _ (hb' i b hb).2).1 with h | h
        · exact .inr h
        · exact .inl h
      · have e := hh.inj _ _ b (hb' i b h1).2 (hb' j b h2).2
        exact nth_inj hnd (by rw [hlen]; exact (hb' i b h1).1) (by rw [hlen]; exact (hb' j b h2).1) e
    obtain ⟨c1, c2, c4, c5, c6⟩ := common
    obtain ⟨v, q1, q2⟩ := runx_results hh hrs hret
    exact ⟨v, q1, _, blk', val', rfl, c1, c2, c4, c5, c6, sites, by subst hrd; exact q2.ok hok'⟩
  have hlow := hgk.low w hGw
  have hG1 : ∀ w', ExtM cx w' → G w' := fun w' hx => hgk.keep w w' hGw hx.size fun k hk => hx.block k (Nat.lt_of_lt_of_le hk hlow) (fun ⟨i, hi⟩ => by have := hNGw i k hi; omega)
  have hN1 : ∀ b, Ours cx b → NG ≤ b := fun b hb => by
    rcases hb with q | ⟨i, hi⟩
    · exact Nat.le_trans hlow q
    · exact hNGw i b hi
  have hmp : ∀ b, cx.mine b → ∃ k, cx.pin k = some b := fun b ⟨i, hi⟩ => by
    refine ⟨n + i, ?_⟩
    have him : i < ss.length := by
      rcases Nat.lt_or_ge i ss.length with h | h
      · exact h
      · rw [hnone i h] at hi; cases hi
    have hv : (getS ss i).isVar = true := getS_all hvar him
    show (bif Nat.ble n (n + i) && (getS ss (n + i - n)).isVar then blk (n + i - n) else none) = some b
    rw [Nat.add_sub_cancel_left, hge i, hv]
    exact hi
  refine wpIn_mono (h cx rfl hG1 hN1 hmp Fence.wide 1 ⟨.inl rfl, rfl⟩ _ w ⟨_, _, h0⟩) fun e a w' ⟨st', hR, hH⟩ => ?_
  cases e with
  | normal =>
    obtain ⟨ms, m1, m2, m3, hH'⟩ := hH.shut rfl
    show LeavesInM _ _ _ _ _ _ _ _ _
    rw [m1]
    exact shut_leaves ms w' m2 m3 (fin { a with defers := [] } (shut ms w') st' hR hH')
  | ret =>
    obtain ⟨ms, m1, m2, m3, hH'⟩ := hH.shut rfl
    show LeavesInM _ _ _ _ _ _ _ _ _
    rw [m1]
    exact shut_leaves ms w' m2 m3 (fin { a with defers := [] } (shut ms w') st' hR hH')
  | exit id => exact hR.elim
  | goto l => exact hR.elim
  | panic c => exact hR.elim
  | outgrown => exact hR.elim

end
end Go.Proofs.YtkbdnkjjklbddaaGreatDoor.Am
