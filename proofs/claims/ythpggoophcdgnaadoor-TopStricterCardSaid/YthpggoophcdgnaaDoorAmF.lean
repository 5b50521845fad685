/- The abstract machine, parts 41 to 64. Conditions: none. -/
import Derived.MapKept
import Derived.Laws.StructEq
import Derived.RangeFuncRecord
import Derived.Stop.IfaceNil
import Derived.Test.YthpggoophcdgnaaDoorAmE
set_option linter.unusedVariables false
set_option linter.unusedSimpArgs false
namespace Go.Proofs.YthpggoophcdgnaaDoor.Am
open Go Go.RowKit

section
variable {P : Program} {w0 : Cx} {ops : List Oper} {rest : List Oper} {R : Exit → St → Prop} {st : St} {ty : TypeId} {pos : String} {after : Array Edge}
end
section
variable {P : Program} {w0 : Cx} {n : Nat} {s : Nat → Site} {ev : Operand → T} {ty : TypeId} {pos : String} {after : Array Edge}
end
section
variable {P : Program} {w0 : Cx} {n : Nat} {s : Nat → Site} {ev : Operand → T} {dst : Option Tmp} {ty : TypeId} {pos : String} {after : Array Edge} {g : Option (Nat × Bool)}
theorem q_eqnil_v {t t' e' sz : TypeId} {x : Operand} {b : Bool} {A : Option Addr} {cap : Nat} (ht : slB P t e' sz = true) (hx : ev x = .d (.v (.slice A 0 cap))) (hb : A.isNone = b) : QOp P w0 n s ev ⟨dst, .binOp .eql t x (.const (.slice none 0 0)) t', ty, pos, after, g⟩ (T.bool b) :=
  .mk fun a w ok blk val h hs hnew => by
    have hv : a.eval x = .slice A 0 cap := RepT.v_eq (hx ▸ h x)
    refine ⟨.bool b, w, ?_, Ext.refl w, .v _ rfl⟩
    have hc : a.eval (.const (.slice none 0 0)) = .slice none 0 0 := rfl
    have hr : (binOp .eql t (.slice A 0 cap) (.slice none 0 0)).run P w = .ok (.bool b) w := by
      subst hb
      simp only [binOp]
      simp [Op.equal, Op.maxDepth, Lib.run_equalIn_slice_nil w 9999 t e' A 0 cap 0 0 (slB_under ht)]
    simp [execOp, hv, hc, eqGuard, hr]
theorem q_append0v {t e sz cap : Nat} {z : Value} {A : Option Addr} {y x : Operand} (ht : slB P t e sz = true) (hz : zrB P e z) (hy : ev y = .d .e0) (hx : ev x = .d (.v (.slice A 0 cap))) : QOp P w0 n s ev ⟨dst, .call ⟨.builtin .append, #[y, x], #[t, t]⟩, ty, pos, after, g⟩ (.d (.sl sz [])) :=
  .mk fun a w ok blk val h _ hnew => by
    obtain ⟨i, hi, hsi⟩ := slB_info ht
    obtain ⟨A0, hv0⟩ := e0_inv (show Rep w ok .e0 (a.eval y) by have := h y; rw [hy] at this; exact this)
    have hxv : a.eval x = .slice A 0 cap := RepT.v_eq (hx ▸ h x)
    have hrun : (Builtin.append_ #[t, t] ty #[a.eval y, a.eval x]).run P w = .ok (.slice A0 0 0) w := by
      rw [hv0, hxv]
      cases A0 with
      | none => cases A <;> simp [Builtin.append_, run_underlying (slB_under ht), sizeOf, my_typeInfo hi, Builtin.lenOf, Builtin.firstCells, loadCells, loadCellsFrom]
      | some a0 => cases A <;> simp [Builtin.append_, run_underlying (slB_under ht), sizeOf, my_typeInfo hi, Builtin.lenOf, Builtin.firstCells, loadCells, loadCellsFrom, storeCells]
    exact ⟨.slice A0 0 0, w, by simp [execOp, resolve, invoke, builtin, hrun], Ext.refl w, Rep.emp _ _ _ (Nat.zero_le _)⟩
end
theorem pc_empty {P : Program} {f : FuncId} {sz : Nat} {r : D} (h : ∀ (A : Option Addr) (cap : Nat), PC P f [.v (.slice A 0 cap)] r) : PC P f [.sl sz []] r := by
  intro w ok vs hL
  obtain ⟨v, rfl⟩ : ∃ v, vs = [v] := by
    match vs, hL with
    | [v], _ => exact ⟨v, rfl⟩
  obtain ⟨A, cap, hv, _⟩ := sl_inv hL.1
  subst hv
  exact h A cap w ok _ ⟨.v _ rfl, trivial⟩
open Go Go.RowKit

section
variable {P : Program} {w0 : Cx} {n : Nat} {s : Nat → Site} {ev : Operand → T} {ty : TypeId} {pos : String} {after : Array Edge}
end
section
variable {P : Program} {w0 : Cx} {n : Nat} {s : Nat → Site} {ev : Operand → T} {dst : Option Tmp} {ty : TypeId} {pos : String} {after : Array Edge} {g : Option (Nat × Bool)}
end
open Go Go.RowKit

def mpB (P : Program) (t kt e : TypeId) : Bool := match P.underlying t with | some (.map k e') => Nat.beq k kt && Nat.beq e' e | _ => false
theorem mpB_info {P : Program} {t kt e : TypeId} (h : mpB P t kt e = true) : P.underlying t = some (.map kt e) := by
  unfold mpB at h
  split at h
  · rename_i k e' hu
    rw [Bool.and_eq_true] at h
    rw [hu, Nat.eq_of_beq_eq_true h.1, Nat.eq_of_beq_eq_true h.2]
  · cases h
structure KeyB (P : Program) (kt : TypeId) (K : Value → Prop) : Prop where
  chk : ∀ w em v, K v → (Instr.checkKey em 10000 kt v).run P w = .ok () w
  eql : ∀ w a b, K a → K b → ∃ r, (Op.equal kt a b).run P w = .ok r w ∧ (r = true ↔ a = b)
  now : ∃ d, P.underlying kt = some d ∧ ∀ a b, K a → K b → Instr.sameNow d a b = none
open Classical in
noncomputable def lookV (k : Value) : List (Value × D) → Option D
  | [] => none
  | p :: ps => if k = p.1 then some p.2 else lookV k ps
theorem find_look {P : Program} {kt : TypeId} {K : Value → Prop} (hK : KeyB P kt K) {w : World} {ok : Nat → Prop} {k : Value} (hk : K k) : ∀ (es : List (Value × D)) (ms : List MapEntry) (i : Nat), MapIn w ok es ms → (∀ p ∈ es, K p.1) →
    (lookV k es = none ∧ (Instr.findAsking kt k ms i).run P w = .ok none w) ∨ ∃ d v j, lookV k es = some d ∧ (Instr.findAsking kt k ms i).run P w = .ok (some (j, v)) w ∧ Rep w ok d v
  | [], [], _, _, _ => .inl ⟨rfl, rfl⟩
  | [], _ :: _, _, h, _ => by cases h.1
  | _ :: _, [], _, h, _ => by cases h.1
  | p :: ps, m :: ms, i, h, hp => by
    obtain ⟨h1, h2⟩ := h
    simp only [List.map_cons, List.cons.injEq] at h1
    obtain ⟨r, hr, hiff⟩ := hK.eql w k m.key hk (by rw [h1.1]; exact hp p (by simp))
    by_cases e : k = p.1
    · have er : r = true := hiff.2 (by rw [h1.1]; exact e)
      subst er
      exact .inr ⟨p.2, m.val, i, by rw [lookV, if_pos e], by simp [Instr.findAsking, hr, Result.andThen], h2.1⟩
    · have er : r = false := by cases r with | false => rfl | true => exact absurd (by rw [← h1.1]; exact hiff.1 rfl) e
      subst er
      rcases find_look hK hk ps ms (i + 1) ⟨h1.2, h2.2⟩ (fun q hq => hp q (by simp [hq])) with ⟨q1, q2⟩ | ⟨d, v, j, q1, q2, q3⟩
      · exact .inl ⟨by rw [lookV, if_neg e]; exact q1, by simp [Instr.findAsking, hr, q2, Result.andThen]⟩
      · exact .inr ⟨d, v, j, by rw [lookV, if_neg e]; exact q1, by simp [Instr.findAsking, hr, q2, Result.andThen], q3⟩
theorem run_find {P : Program} {kt : TypeId} {K : Value → Prop} (hK : KeyB P kt K) {w : World} {ok : Nat → Prop} {k : Value} (hk : K k) {es : List (Value × D)} {ms : List MapEntry} (h : MapIn w ok es ms) (hp : ∀ p ∈ es, K p.1) :
    (lookV k es = none ∧ (Instr.findKey kt k ms).run P w = .ok none w) ∨ ∃ d v j, lookV k es = some d ∧ (Instr.findKey kt k ms).run P w = .ok (some (j, v)) w ∧ Rep w ok d v := by
  obtain ⟨d, hu, hd⟩ := hK.now
  cases ms with
  | nil =>
    cases es with
    | nil => exact .inl ⟨rfl, by simp [Instr.findKey, run_underlying hu, Result.andThen, Instr.findNow]⟩
    | cons => cases h.1
  | cons m ms =>
    have hm : K m.key := by
      cases es with
      | nil => cases h.1
      | cons p ps =>
        have := h.1
        simp only [List.map_cons, List.cons.injEq] at this
        rw [this.1]; exact hp p (by simp)
    have e : (Instr.findKey kt k (m :: ms)).run P w = (Instr.findAsking kt k (m :: ms) 0).run P w := by
      simp [Instr.findKey, run_underlying hu, Result.andThen, Instr.findNow, hd k m.key hk hm]
    rw [e]
    exact find_look hK hk es (m :: ms) 0 h hp
def mapF : Option Nat → Value → List Value → Value → Prop := fun b _ _ v => ∃ b', b = some b' ∧ v = .map (some b')
abbrev T.mp (k : Nat) : T := .own k ⟨false, true⟩ [] mapF
theorem mp_inv {w : World} {ok : Nat → Prop} {blk : Nat → Option Nat} {val : Nat → Value} {s : Nat → Site} {k : Nat} {v : Value} (h : RepT w ok blk val s (.mp k) v) : ∃ b, blk k = some b ∧ v = .map (some b) := by
  obtain ⟨_, vs, _, h2⟩ := h
  exact h2
section
variable {P : Program} {w0 : Cx} {n : Nat} {s : Nat → Site} {ev : Operand → T} {dst : Option Tmp} {ty : TypeId} {pos : String} {after : Array Edge} {g : Option (Nat × Bool)}
theorem q_lookmap2 {t kt e : TypeId} {K : Value → Prop} {y x : Operand} {k cl : Nat} {ks : List Value} {z : Value} {es : List (Value × D)} {d' : D} {b' : Bool} (ht : mpB P t kt e = true) (hK : KeyB P kt K) (hk : K (.agg ks.toArray)) (hes : ∀ p ∈ es, K p.1) (hz : zrB P e z) (hz1 : z.oneCell' = true)
    (hy : ev y = .mp k) (hx : ev x = .d (.agg (ks.map D.v))) (hs' : s k = .mp es cl) (hr : (lookV (.agg ks.toArray) es = none → d' = .v z ∧ b' = false) ∧ ∀ d, lookV (.agg ks.toArray) es = some d → d' = d ∧ b' = true) :
    QOp P w0 n s ev ⟨dst, .lookup t y x true, ty, pos, after, g⟩ (.d (.tup [d', .v (.bool b')])) :=
  .mk fun a w ok blk val h hs hnew => by
    have hu := mpB_info ht
    have h1 := h y
    rw [hy] at h1
    obtain ⟨b, hb, hv⟩ := mp_inv h1
    have h2 := hs k
    rw [hs'] at h2
    obtain ⟨b', ms, c', hb', hheap, hin⟩ := h2
    rw [hb] at hb'; cases hb'
    have hxv : a.eval x = .agg ks.toArray := by
      have h3 := h x
      rw [hx] at h3
      obtain ⟨vs, hvs, hL, _⟩ := agg_inv (show Rep w _ (.agg (ks.map D.v)) (a.eval x) from h3)
      have : ∀ (xs : List Value) (vs : List Value), RepL w ok (xs.map D.v) vs → vs = xs := by
        intro xs
        induction xs with
        | nil => intro vs h; cases vs with
          | nil => rfl
          | cons => exact h.elim
        | cons x xs ih =>
          intro vs h
          cases vs with
          | nil => exact h.elim
          | cons v vs =>
            obtain ⟨h1, h2⟩ := h
            rw [ih vs h2, Rep.v_eq h1]
      rw [hvs, this _ _ hL]
    have hck := fun em => hK.chk w em _ hk
    rcases run_find hK hk hin hes with ⟨q1, q2⟩ | ⟨d, v, j, q1, q2, q3⟩
    · obtain ⟨rfl, rfl⟩ := hr.1 q1
      refine ⟨.tuple #[z, .bool false], w, ?_, Ext.refl w, ?_⟩
      · simp [execOp, Instr.lookup, hv, hxv, run_underlying hu, MapKept.run_getObj_map hheap, hck, q2, run_zero hz, Result.andThen]
      · exact Rep.tup (w := w) (ok := _) [.v z, .v (.bool false)] [z, .bool false] rfl fun j d v e1 e2 => by
          match j with
          | 0 => cases e1; cases e2; exact .v _ hz1
          | 1 => cases e1; cases e2; exact .v _ rfl
          | j + 2 => simp at e1
    · obtain ⟨rfl, rfl⟩ := hr.2 d q1
      refine ⟨.tuple #[v, .bool true], w, ?_, Ext.refl w, ?_⟩
      · simp [execOp, Instr.lookup, hv, hxv, run_underlying hu, MapKept.run_getObj_map hheap, hck, q2, Result.andThen]
      · exact Rep.tup (w := w) (ok := _) [d', .v (.bool true)] [v, .bool true] rfl fun j d v e1 e2 => by
          match j with
          | 0 => cases e1; cases e2; exact q3
          | 1 => cases e1; cases e2; exact .v _ rfl
          | j + 2 => simp at e1
end
section
variable {P : Program} {w0 : Cx} {st : St} {ops rest : List Oper} {R : Exit → St → Prop} {ty : TypeId} {pos : String} {after : Array Edge}
theorem Hold.setMap {a : Act} {w : World} {blk : Nat → Option Nat} {val : Nat → Value} {k b : Nat} {es es' : List (Value × D)} {ms' : Array MapEntry} {cl cl' c0 : Nat} (hh : Hold w0 st a w blk val) (hk : st.s k = .mp es cl) (hb : blk k = some b) (hin : MapIn w (okOf w0 blk) es' ms'.toList) :
    Hold w0 (st.site k (.mp es' cl')) a (w.putObj b (.map ms' c0)) blk val := by
  obtain ⟨ms, c1, hbl⟩ : ∃ ms c1, w.heap[b]? = some (.map ms c1) := by
    have := hh.site k
    rw [hk] at this
    obtain ⟨b', ms, c1, h1, h2, _⟩ := this
    rw [hb] at h1; cases h1; exact ⟨ms, c1, h2⟩
  have hrow : ∀ e sz rs, st.s k = .row e sz rs → ∃ e' sz' es'', (Site.mp es' cl') = .row e' sz' es'' := fun e sz rs q => by rw [hk] at q; cases q
  have hno : (Site.mp es' cl') ≠ .no := by simp
  have hvar : (st.s k).isVar = true → (Site.mp es' cl').isVar = true := fun _ => rfl
  have hbn := hh.new k b hb
  have keep : ∀ {d : D} {v : Value}, Rep w (okOf w0 blk) d v → Rep (w.putObj b (.map ms' c0)) (okOf w0 blk) d v := fun h =>
    h.keep (by rw [World.putObj_size]; exact Nat.le_refl _) (fun b' o hok ho => by rw [World.putObj_heap_other (fun e => hok.2 k (by rw [e]; exact hb))]; exact ho) fun _ _ h => h
  have hx : SiteIn (w.putObj b (.map ms' c0)) (okOf w0 blk) blk val st.s (some b) (val k) (.mp es' cl') := ⟨b, ms', c0, rfl, World.putObj_heap_same (heap_lt hbl), hin.imp fun _ _ h => keep h⟩
  have keepT : ∀ {y : T} {v : Value}, RepT w (okOf w0 blk) blk val st.s y v → RepT (w.putObj b (.map ms' c0)) (okOf w0 blk) blk val st.s y v := fun {y v} h => by
    cases y with
    | d y => exact keep h
    | own k r ds F => exact ⟨h.1, h.2.imp fun _ _ h => keep h⟩
    | _ => exact h
  have hrel : ∀ j, blk j = blk j ∧ val j = val j ∧ (st.s j ≠ .no → (st.site k (.mp es' cl')).s j ≠ .no) ∧ ((∃ e sz es, st.s j = .row e sz es) → ∃ e sz es, (st.site k (.mp es' cl')).s j = .row e sz es) := fun j => by
    refine ⟨rfl, rfl, ?_⟩
    simp only [St.site]
    cases hjk : Nat.beq j k
    · exact ⟨id, id⟩
    · rw [Nat.eq_of_beq_eq_true hjk]
      exact ⟨fun _ => hno, fun ⟨e, sz, es, q⟩ => hrow e sz es q⟩
  refine ⟨⟨hh.ext.os, hh.ext.tape, hh.ext.output, by rw [World.putObj_size]; exact hh.ext.size, fun j hj hm => by rw [World.putObj_heap_other (fun e => by subst e; rcases hbn.1 with q | q; omega; exact hm q)]; exact hh.ext.block j hj hm⟩, hh.kept fun j _ hn => World.putObj_heap_other (fun e => hn k (by rw [e]; exact hb)), hh.size, fun j c hj => by rw [World.putObj_size]; exact hh.new j c hj, hh.inj, fun j c hj => ?_, fun j => ?_, fun t => ?_⟩
  · obtain ⟨q1, q2, q3⟩ := hh.pin j c hj
    refine ⟨q1, ?_, q3⟩
    simp only [St.site]
    cases hjk : Nat.beq j k
    · exact q2
    · rw [Nat.eq_of_beq_eq_true hjk] at q2; exact hvar q2
  · have step : SiteIn (w.putObj b (.map ms' c0)) (okOf w0 blk) blk val st.s (blk j) (val j) ((st.site k (.mp es' cl')).s j) := by
      cases hjk : Nat.beq j k
      · simp only [St.site, hjk, cond_false]
        have hs := hh.site j
        have hne : ∀ c, blk j = some c → c ≠ b := fun c hc e => by
          subst e
          have := hh.inj j k c hc hb
          subst this; simp at hjk
        cases hsj : st.s j with
        | no => rw [hsj] at hs; exact hs
        | box cs' =>
          rw [hsj] at hs
          obtain ⟨c, e, vals, h1, h2, h3, h4, h5⟩ := hs
          exact ⟨c, e, vals, h1, by rw [World.putObj_heap_other (hne c h1)]; exact h2, h3, h4, fun j d hd => let ⟨v, hv, hr⟩ := h5 j d hd; ⟨v, hv, keep hr⟩⟩
        | tbox cs' =>
          rw [hsj] at hs
          obtain ⟨c, e, vals, h1, h2, h3, h5⟩ := hs
          exact ⟨c, e, vals, h1, by rw [World.putObj_heap_other (hne c h1)]; exact h2, h3, fun j d hd => let ⟨v, hv, ho, hr⟩ := h5 j d hd; ⟨v, hv, ho, keepT hr⟩⟩
        | mp es c =>
          rw [hsj] at hs
          obtain ⟨c', ms, c2, h1, h2, h3⟩ := hs
          exact ⟨c', ms, c2, h1, by rw [World.putObj_heap_other (hne c' h1)]; exact h2, h3.imp fun _ _ h => keep h⟩
        | row e sz es =>
          rw [hsj] at hs
          obtain ⟨h1, h2, h3⟩ := hs
          exact ⟨h1, h2, h3.imp id fun ⟨c, vals, cap, k1, k2, k3, k4, k5, k6, k7⟩ => ⟨c, vals, cap, k1, k2, k3, k4, by rw [World.putObj_heap_other (hne c k1)]; exact k5, k6, fun i x j d hi hj => let ⟨v, hv, hr⟩ := k7 i x j d hi hj; ⟨v, hv, keep hr⟩⟩⟩
      · simp only [St.site, hjk, cond_true]
        rw [Nat.eq_of_beq_eq_true hjk, hb]; exact hx
    exact step.to (fun _ _ h => h) (.inl rfl) fun _ _ _ _ j _ => hrel j
  · exact (keepT (hh.tmp t)).to (fun _ _ h => h) fun j _ => hrel j
theorem aops_makeMap {d : Nat} {t : TypeId} (hd : Nat.blt d st.n = true) (hs : st.s d = .no) (h : Aops P w0 ops rest R ((st.site d (.mp [] 0)).put (some d) (.mp d))) :
    Aops P w0 ops (⟨some d, .makeMap t none, ty, pos, after, none⟩ :: rest) R st := by
  refine aops_step (K := fun s => s = (st.site d (.mp [] 0)).put (some d) (.mp d)) rfl (fun a w ⟨blk, val, hh⟩ => ?_) (fun _ e => e ▸ h)
  refine wp_value (v := .map (some w.heap.size)) (w' := w.alloc (.map #[] 0)) (by simp [execOp, Instr.makeMap]) ⟨_, rfl, ?_⟩
  have hH := hh.allocSite (k := d) (x := .mp [] 0) (u := undef) (o := .map #[] 0) hs ⟨w.heap.size, #[], 0, rfl, new_block _ _, rfl, trivial⟩
  exact ⟨_, _, put_hold hH (by simpa [Nat.blt_eq, St.site] using hd) ⟨⟨⟨by simp [St.site], fun h => by cases h⟩, fun _ => rfl⟩, [], trivial, w.heap.size, by simp, rfl⟩⟩
theorem aops_mapUpdate2 {t kt e : TypeId} {K : Value → Prop} {y x v : Operand} {k cl : Nat} {ks : List Value} {es : List (Value × D)} {X : D} (ht : mpB P t kt e = true) (hK : KeyB P kt K) (hk : K (.agg ks.toArray)) (hes : ∀ p ∈ es, K p.1) (hy : st.ev y = .mp k) (hx : st.ev x = .d (.agg (ks.map D.v))) (hv : st.ev v = .d X) (hs : st.s k = .mp es cl) (hi : lookV (.agg ks.toArray) es = none)
    (h : Aops P w0 ops rest R (st.site k (.mp (es ++ [(.agg ks.toArray, X)]) 0))) : Aops P w0 ops (⟨none, .mapUpdate t y x v, ty, pos, after, none⟩ :: rest) R st := by
  refine aops_step (K := fun s => s = st.site k (.mp (es ++ [(.agg ks.toArray, X)]) 0)) rfl (fun a w ⟨blk, val, hh⟩ => ?_) (fun _ e => e ▸ h)
  have hu := mpB_info ht
  have h1 := hh.ev y
  rw [hy] at h1
  obtain ⟨b, hb, hyv⟩ := mp_inv h1
  have h2 := hh.site k
  rw [hs] at h2
  obtain ⟨b', ms, c', hb', hheap, hin⟩ := h2
  rw [hb] at hb'; cases hb'
  have hxv : a.eval x = .agg ks.toArray := by
    have h3 := hh.ev x
    rw [hx] at h3
    obtain ⟨vs, hvs, hL, _⟩ := agg_inv (show Rep w _ (.agg (ks.map D.v)) (a.eval x) from h3)
    have : ∀ (xs : List Value) (vs : List Value), RepL w (okOf w0 blk) (xs.map D.v) vs → vs = xs := by
      intro xs
      induction xs with
      | nil => intro vs h; cases vs with
        | nil => rfl
        | cons => exact h.elim
      | cons x xs ih =>
        intro vs h
        cases vs with
        | nil => exact h.elim
        | cons v vs =>
          obtain ⟨h1, h2⟩ := h
          rw [ih vs h2, Rep.v_eq h1]
    rw [hvs, this _ _ hL]
  have hvv : Rep w (okOf w0 blk) X (a.eval v) := by have := hh.ev v; rw [hv] at this; exact this
  have hck := hK.chk w false _ hk
  rcases run_find hK hk hin hes with ⟨q1, q2⟩ | ⟨d, v, j, q1, q2, q3⟩
  · have hput : (w.putObj b (.map (ms.push ⟨.agg ks.toArray, a.eval v, c'⟩) (c' + 1))) = { w with heap := w.heap.setIfInBounds b (.map (ms.push ⟨.agg ks.toArray, a.eval v, c'⟩) (c' + 1)) } := rfl
    have hrun : (execOp a.eval ⟨none, .mapUpdate t y x v, ty, pos, after, none⟩).run P w = .ok .skip (w.putObj b (.map (ms.push ⟨.agg ks.toArray, a.eval v, c'⟩) (c' + 1))) := by
      rw [hput]
      simp [execOp, Instr.mapUpdate, hyv, hxv, run_underlying hu, MapKept.run_getObj_map hheap, hck, q2, MapKept.run_setObj_map _ hheap, Result.andThen]
    refine ow_of_wp (fun c hc => by cases hc) ?_
    unfold Oper.wp
    rw [hrun]
    refine ⟨_, rfl, blk, val, hh.setMap hs hb ⟨?_, ?_⟩⟩
    · simp [hin.1]
    · simpa using RepL.append hin.2 (show RepL w (okOf w0 blk) [X] [a.eval v] from ⟨hvv, trivial⟩)
  · rw [hi] at q1; cases q1
end
open Go Go.RowKit

def flU (l : List Oper) (n : Nat) (Fl : List Nat) (L : Nat → Bool) (t : Tmp) : Bool :=
  match prodIdx l n t with
  | some p => memN p Fl && !L p
  | none => false
def mk (U : Tmp → Bool) (S : St) : St := { n := S.n, t := fun t => bif U t then .dead else S.t t, s := S.s }
def FloatOK (P : Program) (w0 : Cx) (l : List Oper) (n : Nat) (Fl : List Nat) (S : St) : List Nat → Prop
  | [] => True
  | i :: is => (match l[i]? with
      | some o => (match o.dst with
        | some d => COp P w0 S (mk (flU l n Fl (afterB o)) S).ev o (.put (some d) (S.t d))
        | none => False)
      | none => False) ∧ FloatOK P w0 l n Fl S is
def LateW (P : Program) (w0 : Cx) (l : List Oper) (n : Nat) (Fl : List Nat) : List Oper → St → (St → Prop) → Prop
  | [], S, K => K S
  | o :: os, S, K => ∃ f : Eff, f.dst = o.dst ∧ COp P w0 S (mk (flU l n Fl (afterB o)) S).ev o f ∧ FloatOK P w0 l n Fl (f.app S) Fl ∧ LateW P w0 l n Fl os (f.app S) K
def behindB (l : List Oper) (n : Nat) (Fl : List Nat) (j : Nat) : Bool :=
  (List.range n).any fun k => decide (j < k) && !(memN k Fl) && (match l[k]? with | some ok => afterB ok j | none => false)
def lateB (l : List Oper) (n q : Nat) (Fl : List Nat) : Bool :=
  (Fl.all fun i => decide (i < n) && (match l[i]? with | some o => o.guard.isNone && o.dst.isSome | none => false)) &&
  ((List.range q).all fun p => match l[n + p]? with
    | some o => o.guard.isNone && (Nat.beq p 0 || afterB o (n + p - 1)) && (match o.dst with | some d => (prodIdx l n d).isNone | none => true)
    | none => false) &&
  (match l[n]? with | some o => (List.range n).all fun j => memN j Fl || afterB o j || behindB l n Fl j | none => false)
section
variable {P : Program} {w0 : Cx}
theorem float_at {l : List Oper} {n : Nat} {Fl : List Nat} {S : St} : ∀ {is : List Nat}, FloatOK P w0 l n Fl S is → ∀ i o d, memN i is = true → l[i]? = some o → o.dst = some d → COp P w0 S (mk (flU l n Fl (afterB o)) S).ev o (.put (some d) (S.t d))
  | [], _, i, o, d, hi, _, _ => by cases hi
  | j :: js, h, i, o, d, hi, ho, hd => by
    simp only [memN, Bool.or_eq_true] at hi
    rcases hi with hi | hi
    · have := Nat.eq_of_beq_eq_true hi
      subst this
      have h1 := h.1
      rw [ho] at h1
      simp only [hd] at h1
      exact h1
    · exact float_at h.2 i o d hi ho hd
structure LateSeq (P : Program) (w0 : Cx) (l : List Oper) (n q : Nat) (Fl : List Nat) (Sq : Nat → St) : Prop where
  step : ∀ p, p < q → ∀ o, l[n + p]? = some o → ∃ f : Eff, f.dst = o.dst ∧ Sq (p + 1) = f.app (Sq p) ∧ COp P w0 (Sq p) (mk (flU l n Fl (afterB o)) (Sq p)).ev o f
  fl : ∀ p, 1 ≤ p → p ≤ q → FloatOK P w0 l n Fl (Sq p) Fl
theorem lateW_seq {l : List Oper} {n : Nat} {Fl : List Nat} {K : St → Prop} : ∀ (q : Nat) (os : List Oper) (i : Nat) (S : St), os.length = q → (∀ k, k < q → os[k]? = l[n + i + k]?) → LateW P w0 l n Fl os S K →
    ∃ Sq : Nat → St, Sq i = S ∧ K (Sq (i + q)) ∧ (∀ p, i ≤ p → p < i + q → ∀ o, l[n + p]? = some o → ∃ f : Eff, f.dst = o.dst ∧ Sq (p + 1) = f.app (Sq p) ∧ COp P w0 (Sq p) (mk (flU l n Fl (afterB o)) (Sq p)).ev o f) ∧
      ∀ p, i + 1 ≤ p → p ≤ i + q → FloatOK P w0 l n Fl (Sq p) Fl
  | 0, [], i, S, _, _, h => ⟨fun _ => S, rfl, h, fun p h1 h2 => by omega, fun p h1 h2 => by omega⟩
  | 0, _ :: _, _, _, h, _, _ => by simp at h
  | _ + 1, [], _, _, h, _, _ => by simp at h
  | q + 1, o :: os, i, S, hl, hos, h => by
    obtain ⟨f, hf, hc, hfl, hr⟩ := h
    obtain ⟨Sq, h1, h2, h3, h4⟩ := lateW_seq (l := l) (n := n) (Fl := Fl) (K := K) q os (i + 1) _ (by simpa using hl) (fun k hk => by have := hos (k + 1) (by omega); simpa [Nat.add_assoc, Nat.add_comm 1 k] using this) hr
    have ho : l[n + i]? = some o := by have := hos 0 (by omega); simpa using this.symm
    refine ⟨fun p => if p = i then S else Sq p, by simp, ?_, fun p hp1 hp2 o' ho' => ?_, fun p hp1 hp2 => ?_⟩
    · show K (if i + (q + 1) = i then S else Sq (i + (q + 1)))
      rw [if_neg (by omega), show i + (q + 1) = i + 1 + q by omega]; exact h2
    · by_cases e : p = i
      · subst e
        rw [ho] at ho'; cases ho'
        refine ⟨f, hf, ?_, ?_⟩
        · show (if p + 1 = p then S else Sq (p + 1)) = f.app (if p = p then S else Sq p)
          rw [if_neg (by omega), if_pos rfl]; exact h1
        · simp only [if_true]; exact hc
      · simp only [if_neg e, if_neg (show ¬ p + 1 = i by omega)]
        exact h3 p (by omega) (by omega) o' ho'
    · simp only [if_neg (show ¬ p = i by omega)]
      by_cases e : p = i + 1
      · rw [e, h1]; exact hfl
      · exact h4 p (by omega) (by omega)
theorem setL_ne {L : Nat → Bool} {i j : Nat} (h : j ≠ i) : setL L i j = L j := by
  unfold setL
  rw [show (j == i) = false from beq_false_of_ne h]; rfl
theorem setL_eq {L : Nat → Bool} {i : Nat} : setL L i i = true := by simp [setL]
theorem setL_tr {L : Nat → Bool} {i j : Nat} (h : L j = true) : setL L i j = true := by
  unfold setL
  rw [h, Bool.or_true]
def cntT (n : Nat) (L : Nat → Bool) : Nat → Nat
  | 0 => 0
  | q + 1 => if L (n + q) = true then q + 1 else cntT n L q
theorem cntT_le {n : Nat} {L : Nat → Bool} : ∀ q, cntT n L q ≤ q
  | 0 => Nat.le_refl _
  | q + 1 => by
    unfold cntT
    split
    · exact Nat.le_refl _
    · exact Nat.le_succ_of_le (cntT_le q)
theorem cntT_at {n : Nat} {L : Nat → Bool} {p : Nat} : ∀ {q : Nat}, p ≤ q → (∀ j, j < p → L (n + j) = true) → (∀ j, p ≤ j → j < q → L (n + j) = false) → cntT n L q = p
  | 0, hp, _, _ => by show 0 = p; omega
  | q + 1, hp, h1, h2 => by
    unfold cntT
    by_cases e : p = q + 1
    · rw [if_pos (h1 q (by omega))]; exact e.symm
    · rw [if_neg (by rw [h2 q (by omega) (by omega)]; simp)]
      exact cntT_at (by omega) h1 fun j a b => h2 j a (by omega)
open Classical in
noncomputable def lateF (st : St) (l : List Oper) (n q : Nat) (Fl : List Nat) (xs : Nat → T) (Sq : Nat → St) (L : Nat → Bool) : St :=
  if L n = true then mk (flU l n Fl L) (Sq (cntT n L q)) else stOf st l n xs L
theorem mk_put {U : Tmp → Bool} {S : St} {dst : Option Tmp} {x : T} (h : ∀ d, dst = some d → U d = false) : (mk U S).put dst x = mk U (S.put dst x) := by
  cases dst with
  | none => rfl
  | some d =>
    simp only [mk, St.put, St.mk.injEq, true_and, and_true]
    funext t
    cases ht : Nat.beq t d with
    | false => rfl
    | true =>
      have := Nat.eq_of_beq_eq_true ht
      subst this
      rw [h t rfl]; rfl
theorem mk_app {U : Tmp → Bool} {S : St} {f : Eff} (h : ∀ d, f.dst = some d → U d = false) : f.app (mk U S) = mk U (f.app S) := by
  cases f with
  | grow k d z =>
    show (((mk U S).killS k).site k z).put (some d) (.rs k) = mk U (((S.killS k).site k z).put (some d) (.rs k))
    have e : ((mk U S).killS k).site k z = mk U ((S.killS k).site k z) := by
      simp only [mk, St.killS, St.site, St.mk.injEq, true_and, and_true]
      funext t
      cases U t <;> rfl
    rw [e]
    exact mk_put h
  | set k z dst x =>
    show ((mk U S).site k z).put dst x = mk U ((S.site k z).put dst x)
    have e : (mk U S).site k z = mk U (S.site k z) := rfl
    rw [e]
    exact mk_put h
  | put dst x => exact mk_put h
open Classical in
theorem late_step {st : St} {l : List Oper} {n q i : Nat} {Fl : List Nat} {xs : Nat → T} {Sq : Nat → St} {o : Oper} {L : Nat → Bool} {a : Act} {w : World} (h : regB l n st.n = true) (h' : regB l (n + q) st.n = true) (hB : lateB l n q Fl = true) (hq : 1 ≤ q)
    (hS0 : Wk (stOf st l n xs (ltB n)) (Sq 0)) (hSq : LateSeq P w0 l n q Fl Sq) (hnS : ∀ p, p ≤ q → (Sq p).n = st.n) (hO : ∀ k o, k < n → l[k]? = some o → Owes P w0 st l n xs k o)
    (hi : i < n + q) (ho : l[i]? = some o) (hD : Done l (n + q) L) (hLi : L i = false) (hLa : ∀ e ∈ o.after, Region.binds .any e = true → L e.on = true) (hH : Holds w0 (lateF st l n q Fl xs Sq L) a w) :
    (Region.wanted o (yielded l.toArray a.tmps) = true ∧ OW P w0 o a w (fun a' w' => Holds w0 (lateF st l n q Fl xs Sq (setL L i)) a' w')) ∨
    (Region.wanted o (yielded l.toArray a.tmps) = false ∧ Holds w0 (lateF st l n q Fl xs Sq (setL L i)) (a.put o.dst undef) w) := by
  simp only [lateB, Bool.and_eq_true] at hB
  obtain ⟨⟨hB1, hB2⟩, hB3⟩ := hB
  have aft : ∀ j, afterB o j = true → L j = true := fun j hj => by obtain ⟨e, he, hb, rfl⟩ := afterB_spec hj; exact hLa e he hb
  -- a tail operation that is done has the one ahead of it done
  have tl : ∀ p op, p < q → l[n + p]? = some op → op.guard = none ∧ (1 ≤ p → afterB op (n + p - 1) = true) ∧ ∀ d, op.dst = some d → prodIdx l n d = none := fun p op hp hop => by
    have := List.all_eq_true.1 hB2 p (List.mem_range.2 hp)
    rw [hop] at this
    simp only [Bool.and_eq_true, Bool.or_eq_true, Option.isNone_iff_eq_none] at this
    refine ⟨this.1.1, fun h1 => ?_, fun d hd => ?_⟩
    · rcases this.1.2 with e | e
      · have := Nat.eq_of_beq_eq_true e; omega
      · exact e
    · have h2 := this.2
      rw [hd] at h2
      exact Option.isNone_iff_eq_none.1 h2
  have len : ∀ p, p < q → ∃ op, l[n + p]? = some op := fun p hp => by
    have := List.all_eq_true.1 hB2 p (List.mem_range.2 hp)
    cases e : l[n + p]? with
    | none => rw [e] at this; cases this
    | some op => exact ⟨op, rfl⟩
  have down : ∀ p, p < q → L (n + p) = true → ∀ j, j ≤ p → L (n + j) = true := by
    intro p
    induction p with
    | zero => intro _ h1 j hj; have : j = 0 := by omega
              subst this; exact h1
    | succ p ih =>
      intro hp h1 j hj
      by_cases e : j = p + 1
      · rw [e]; exact h1
      · obtain ⟨op, hop⟩ := len (p + 1) hp
        obtain ⟨e', he', hb', hj'⟩ := afterB_spec ((tl (p + 1) op hp hop).2.1 (by omega))
        have := hD.closed (n + (p + 1)) op (by omega) hop h1 e' he' hb'
        rw [hj', show n + (p + 1) - 1 = n + p by omega] at this
        exact ih (by omega) this j (by omega)
  -- T_0 stands behind all that are not late
  have nonl : ∀ op, l[n]? = some op → (∀ j, afterB op j = true → L j = true) → ∀ d j, n - j = d → j < n → memN j Fl = false → L j = true := fun op hop hop' d => by
    induction d using Nat.strongRecOn with
    | _ d ih =>
      intro j hd hj hf
      rw [hop] at hB3
      have := List.all_eq_true.1 hB3 j (List.mem_range.2 hj)
      rw [hf] at this
      simp only [Bool.false_or, Bool.or_eq_true] at this
      rcases this with e | e
      · exact hop' j e
      · unfold behindB at e
        obtain ⟨k, hk, e⟩ := List.any_eq_true.1 e
        have hk := List.mem_range.1 hk
        simp only [Bool.and_eq_true, decide_eq_true_eq, Bool.not_eq_true'] at e
        obtain ⟨⟨hjk, hkf⟩, hka⟩ := e
        have hLk := ih (n - k) (by omega) k rfl hk hkf
        cases hok : l[k]? with
        | none => rw [hok] at hka; cases hka
        | some ok =>
          rw [hok] at hka
          obtain ⟨e', he', hb', hj'⟩ := afterB_spec hka
          have := hD.closed k ok (by omega) hok hLk e' he' hb'
          rw [hj'] at this; exact this
  have wanted : o.guard = none → Region.wanted o (yielded l.toArray a.tmps) = true := fun hg => by simp [Region.wanted, hg]
  by_cases hLn : L n = true
  · -- the tail has begun
    have hFL : lateF st l n q Fl xs Sq L = mk (flU l n Fl L) (Sq (cntT n L q)) := if_pos hLn
    rw [hFL] at hH
    by_cases hin : i < n
    · -- a late operation
      have hfl : memN i Fl = true := by
        rw [← Bool.not_eq_false]
        intro hf
        obtain ⟨op, hop⟩ := len 0 (by omega)
        have := nonl op hop (fun j hj => by
          obtain ⟨e, he, hb, hj'⟩ := afterB_spec hj
          have := hD.closed n op (by omega) hop hLn e he hb
          rw [hj'] at this; exact this) _ i rfl hin hf
        rw [hLi] at this; cases this
      have hfi : ∀ {js : List Nat}, (js.all fun i => decide (i < n) && (match l[i]? with | some o => o.guard.isNone && o.dst.isSome | none => false)) = true → memN i js = true → o.guard = none ∧ o.dst.isSome = true := by
        intro js
        induction js with
        | nil => intro _ h2; cases h2
        | cons j js ih =>
          intro h1 h2
          simp only [List.all_cons, Bool.and_eq_true] at h1
          simp only [memN, Bool.or_eq_true] at h2
          rcases h2 with h2 | h2
          · have := Nat.eq_of_beq_eq_true h2
            subst this
            have h3 := h1.1.2
            rw [ho] at h3
            simp only [Bool.and_eq_true, Option.isNone_iff_eq_none] at h3
            exact h3
          · exact ih h1.2 h2
      obtain ⟨hg, hds⟩ := hfi hB1 hfl
      obtain ⟨d, hd⟩ := Option.isSome_iff_exists.1 hds
      obtain ⟨hpd, hdN⟩ := reg_dst h hin ho hd
      obtain ⟨p, hp⟩ : ∃ p, cntT n L q = p := ⟨_, rfl⟩
      have hp1 : 1 ≤ p := by
        rw [← hp]
        rcases Nat.eq_zero_or_pos (cntT n L q) with e | e
        · exfalso
          have : ∀ q, 1 ≤ q → cntT n L q ≠ 0 := by
            intro q
            induction q with
            | zero => intro h; omega
            | succ q ih =>
              intro _
              unfold cntT
              split
              · omega
              · rename_i hc
                rcases Nat.eq_zero_or_pos q with e0 | e0
                · subst e0; exact absurd hLn hc
                · exact ih e0
          exact this q hq e
        · exact e
      have hpq : p ≤ q := by rw [← hp]; exact cntT_le q
      have hco := float_at (hSq.fl p hp1 hpq) i o d hfl ho hd
      rw [hp] at hH
      refine .inl ⟨wanted hg, ?_⟩
      have hst := hco (mk (flU l n Fl L) (Sq p)) rfl rfl (fun y => ?_) (fun d' hd' => by rw [hd] at hd'; cases hd'; rw [hnS p hpq]; exact hdN) a w hH
      · have e2 : (Eff.put (some d) ((Sq p).t d)).app (mk (flU l n Fl L) (Sq p)) = lateF st l n q Fl xs Sq (setL L i) := by
          have e3 : lateF st l n q Fl xs Sq (setL L i) = mk (flU l n Fl (setL L i)) (Sq (cntT n (setL L i) q)) := if_pos (setL_tr hLn)
          have e4 : cntT n (setL L i) q = p := by
            rw [← hp]
            have : ∀ q, cntT n (setL L i) q = cntT n L q := by
              intro q
              induction q with
              | zero => rfl
              | succ q ih =>
                unfold cntT
                have : setL L i (n + q) = L (n + q) := setL_ne (by omega)
                rw [this, ih]
            exact this q
          rw [e3, e4]
          show (mk (flU l n Fl L) (Sq p)).put (some d) ((Sq p).t d) = _
          simp only [mk, St.put, St.mk.injEq, true_and, and_true]
          funext t
          cases ht : Nat.beq t d with
          | true =>
            have := Nat.eq_of_beq_eq_true ht
            subst this
            have : flU l n Fl (setL L i) t = false := by unfold flU; rw [hpd]; simp [setL_eq]
            rw [this]; rfl
          | false =>
            simp only [cond_false]
            have : flU l n Fl (setL L i) t = flU l n Fl L t := by
              unfold flU
              cases hpt : prodIdx l n t with
              | none => rfl
              | some r =>
                simp only
                have hri : r ≠ i := fun e => by
                  subst e
                  obtain ⟨_, op, hop, hdp⟩ := prodIdx_spec hpt
                  rw [ho] at hop; cases hop
                  rw [hd] at hdp; cases hdp
                  simp at ht
                have : setL L i r = L r := setL_ne hri
                rw [this]
            rw [this]
        rw [e2] at hst
        exact hst
      · cases y with
        | tmp t =>
          show (bif flU l n Fl (afterB o) t then T.dead else (Sq p).t t) = .dead ∨ (bif flU l n Fl L t then T.dead else (Sq p).t t) = (bif flU l n Fl (afterB o) t then T.dead else (Sq p).t t)
          cases hu : flU l n Fl (afterB o) t with
          | true => exact .inl rfl
          | false =>
            have : flU l n Fl L t = false := by
              unfold flU at hu ⊢
              cases hpt : prodIdx l n t with
              | none => rfl
              | some r =>
                rw [hpt] at hu
                simp only [Bool.and_eq_false_iff, Bool.not_eq_false'] at hu ⊢
                exact hu.imp id fun h => aft r h
            rw [this]; exact .inr rfl
        | _ => exact .inr rfl
    · -- the next one of the tail
      obtain ⟨p, rfl⟩ : ∃ p, i = n + p := ⟨i - n, by omega⟩
      have hpq : p < q := by omega
      obtain ⟨hg, hprev, hdn⟩ := tl p o hpq ho
      have hp0 : 1 ≤ p := by
        rcases Nat.eq_zero_or_pos p with e | e
        · subst e; rw [Nat.add_zero, hLn] at hLi; cases hLi
        · exact e
      have hLp : L (n + (p - 1)) = true := by have := aft _ (hprev hp0); rwa [show n + p - 1 = n + (p - 1) by omega] at this
      have h1 := down (p - 1) (by omega) hLp
      have h2 : ∀ j, p ≤ j → j < q → L (n + j) = false := fun j a b => by
        rw [← Bool.not_eq_true]
        intro hj
        have := down j b hj p a
        rw [hLi] at this; cases this
      have hc : cntT n L q = p := cntT_at (by omega) (fun j hj => h1 j (by omega)) h2
      rw [hc] at hH
      obtain ⟨f, hfd, hS, hco⟩ := hSq.step p hpq o ho
      refine .inl ⟨wanted hg, ?_⟩
      have hst := hco (mk (flU l n Fl L) (Sq p)) rfl rfl (fun y => ?_) (fun d hd => by rw [hnS p (by omega)]; exact (reg_dst h' hi ho hd).2) a w hH
      · have e2 : f.app (mk (flU l n Fl L) (Sq p)) = lateF st l n q Fl xs Sq (setL L (n + p)) := by
          have e3 : lateF st l n q Fl xs Sq (setL L (n + p)) = mk (flU l n Fl (setL L (n + p))) (Sq (cntT n (setL L (n + p)) q)) := if_pos (setL_tr hLn)
          have e4 : cntT n (setL L (n + p)) q = p + 1 := cntT_at (by omega) (fun j hj => by
            by_cases e : j = p
            · rw [e]; exact setL_eq
            · exact setL_tr (h1 j (by omega))) fun j a b => by
            rw [setL_ne (by omega)]; exact h2 j (by omega) b
          have e5 : flU l n Fl (setL L (n + p)) = flU l n Fl L := by
            funext t
            unfold flU
            cases hpt : prodIdx l n t with
            | none => rfl
            | some r =>
              have hr := (prodIdx_spec hpt).1
              have : setL L (n + p) r = L r := setL_ne (by omega)
              simp only [this]
          rw [e3, e4, e5, hS]
          refine mk_app fun d hd => ?_
          unfold flU
          rw [hdn d (by rw [← hfd]; exact hd)]
        rw [e2] at hst
        exact hst
      · cases y with
        | tmp t =>
          show (bif flU l n Fl (afterB o) t then T.dead else (Sq p).t t) = .dead ∨ (bif flU l n Fl L t then T.dead else (Sq p).t t) = (bif flU l n Fl (afterB o) t then T.dead else (Sq p).t t)
          cases hu : flU l n Fl (afterB o) t with
          | true => exact .inl rfl
          | false =>
            have : flU l n Fl L t = false := by
              unfold flU at hu ⊢
              cases hpt : prodIdx l n t with
              | none => rfl
              | some r =>
                rw [hpt] at hu
                simp only [Bool.and_eq_false_iff, Bool.not_eq_false'] at hu ⊢
                exact hu.imp id fun h => aft r h
            rw [this]; exact .inr rfl
        | _ => exact .inr rfl
  · -- the tail has not begun
    have hLn' : L n = false := by cases e : L n with | true => exact absurd e hLn | false => rfl
    have hFL : lateF st l n q Fl xs Sq L = stOf st l n xs L := if_neg hLn
    rw [hFL] at hH
    by_cases hin : i < n
    · have hD' : Done l n L := ⟨fun p op hp hop hL e he hb => hD.closed p op (by omega) hop hL e he hb⟩
      have e3 : lateF st l n q Fl xs Sq (setL L i) = stOf st l n xs (setL L i) := if_neg (by rw [setL_ne (by omega), hLn']; simp)
      rw [e3]
      exact reg_step h hin ho hD' hLi hLa hH (hO i o hin ho)
    · obtain ⟨p, rfl⟩ : ∃ p, i = n + p := ⟨i - n, by omega⟩
      have hp0 : p = 0 := by
        rcases Nat.eq_zero_or_pos p with e | e
        · exact e
        · have h1 := aft _ ((tl p o (by omega) ho).2.1 e)
          have := down (p - 1) (by omega) (by rwa [show n + p - 1 = n + (p - 1) by omega] at h1) 0 (Nat.zero_le _)
          rw [Nat.add_zero, hLn'] at this; cases this
      subst hp0
      obtain ⟨hg, _, hdn⟩ := tl 0 o (by omega) ho
      obtain ⟨f, hfd, hS, hco⟩ := hSq.step 0 (by omega) o ho
      have hall : ∀ j, j < n → memN j Fl = false → L j = true := fun j hj hf => nonl o ho aft _ j rfl hj hf
      have hwk : Wk (stOf st l n xs L) (mk (flU l n Fl L) (Sq 0)) := by
        refine ⟨hS0.1, hS0.2.1, fun t => ?_⟩
        show (bif flU l n Fl L t then T.dead else (Sq 0).t t) = _ ∨ (bif flU l n Fl L t then T.dead else (Sq 0).t t) = .dead
        cases hu : flU l n Fl L t with
        | true => exact .inr rfl
        | false =>
          simp only [cond_false]
          have e1 : (stOf st l n xs L).t t = (stOf st l n xs (ltB n)).t t := by
            simp only [stOf]
            cases hpt : prodIdx l n t with
            | none => rfl
            | some r =>
              have hr := (prodIdx_spec hpt).1
              have hLr : L r = true := by
                cases hf : memN r Fl with
                | false => exact hall r hr hf
                | true =>
                  unfold flU at hu
                  rw [hpt] at hu
                  simp only [hf, Bool.true_and, Bool.not_eq_false'] at hu
                  exact hu
              simp only [hLr, ltB, hr, decide_true]
          rw [e1]
          exact hS0.2.2 t
      have hH2 := hH.weak hwk
      refine .inl ⟨wanted hg, ?_⟩
      have hst := hco (mk (flU l n Fl L) (Sq 0)) rfl rfl (fun y => ?_) (fun d hd => by rw [hnS 0 (Nat.zero_le _)]; exact (reg_dst h' hi ho hd).2) a w hH2
      · have e2 : f.app (mk (flU l n Fl L) (Sq 0)) = lateF st l n q Fl xs Sq (setL L (n + 0)) := by
          have e3 : lateF st l n q Fl xs Sq (setL L (n + 0)) = mk (flU l n Fl (setL L (n + 0))) (Sq (cntT n (setL L (n + 0)) q)) := if_pos setL_eq
          have h2 : ∀ j, 1 ≤ j → j < q → L (n + j) = false := fun j a b => by
            rw [← Bool.not_eq_true]
            intro hj
            have := down j b hj 0 (Nat.zero_le _)
            rw [Nat.add_zero, hLn'] at this; cases this
          have e4 : cntT n (setL L (n + 0)) q = 1 := cntT_at (by omega) (fun j hj => by
            have : j = 0 := by omega
            subst this; exact setL_eq) fun j a b => by
            rw [setL_ne (by omega)]; exact h2 j a b
          have e5 : flU l n Fl (setL L (n + 0)) = flU l n Fl L := by
            funext t
            unfold flU
            cases hpt : prodIdx l n t with
            | none => rfl
            | some r =>
              have hr := (prodIdx_spec hpt).1
              have : setL L (n + 0) r = L r := setL_ne (by omega)
              simp only [this]
          rw [e3, e4, e5, hS]
          refine mk_app fun d hd => ?_
          unfold flU
          rw [hdn d (by rw [← hfd]; exact hd)]
        rw [e2] at hst
        exact hst
      · cases y with
        | tmp t =>
          show (bif flU l n Fl (afterB o) t then T.dead else (Sq 0).t t) = .dead ∨ (bif flU l n Fl L t then T.dead else (Sq 0).t t) = (bif flU l n Fl (afterB o) t then T.dead else (Sq 0).t t)
          cases hu : flU l n Fl (afterB o) t with
          | true => exact .inl rfl
          | false =>
            have : flU l n Fl L t = false := by
              unfold flU at hu ⊢
              cases hpt : prodIdx l n t with
              | none => rfl
              | some r =>
                rw [hpt] at hu
                simp only [Bool.and_eq_false_iff, Bool.not_eq_false'] at hu ⊢
                exact hu.imp id fun h => aft r h
            rw [this]; exact .inr rfl
        | _ => exact .inr rfl
theorem eff_n {f : Eff} {S : St} : (f.app S).n = S.n := by
  cases f with
  | grow k d z => rfl
  | set k z dst x => cases dst <;> rfl
  | put dst x => cases dst <;> rfl
theorem awp_regionL {st : St} {l : List Oper} {id : Nat} {R : Exit → St → Prop} (n q : Nat) (Fl : List Nat) (hm : P.follows .mixedOrders = true)
    (h : (regB l n st.n && regB l (n + q) st.n && decide (n + q ≤ l.length) && decide (1 ≤ q) && tailOk l (n + q) && lateB l n q Fl) = true)
    (hW : RegW P w0 st l n (l.take n) 0 (fun _ => .dead) st (fun st' => LateW P w0 l n Fl ((l.drop n).take q) st' fun S => Aops P w0 l (l.drop (n + q)) R S)) : Awp P w0 (.region id l.toArray true) R st := by
  simp only [Bool.and_eq_true, decide_eq_true_eq] at h
  obtain ⟨⟨⟨⟨⟨h, h'⟩, hn⟩, hq⟩, hT0⟩, hB⟩ := h
  have htl : (l.take n).length = n := by simp; omega
  have hto : ∀ k, k < (l.take n).length → (l.take n)[k]? = l[0 + k]? := fun k hk => by rw [htl] at hk; simp [hk]
  obtain ⟨xs, _, hO, hL⟩ := regw_xs h (l.take n) 0 _ _ (by omega) hto hW
  obtain ⟨Sq, hS, hK, hs1, hs2⟩ := lateW_seq q ((l.drop n).take q) 0 _ (by simp; omega) (fun k hk => by rw [List.getElem?_take, if_pos hk, List.getElem?_drop]; rfl) hL
  rw [Nat.zero_add] at hK
  have hSeq : LateSeq P w0 l n q Fl Sq := ⟨fun p hp => hs1 p (Nat.zero_le _) (by omega), fun p h1 h2 => hs2 p (by omega) (by omega)⟩
  have hS0 : Wk (stOf st l n xs (ltB n)) (Sq 0) := by
    rw [hS]
    exact out_wk h (l.take n) 0 st (by omega) hto (by rw [stOf_none (fun p _ => by simp [ltB])]; exact ⟨rfl, rfl, fun _ => .inl rfl⟩)
  have len : ∀ p, p < q → ∃ op, l[n + p]? = some op := fun p hp => ⟨_, List.getElem?_eq_getElem (by omega)⟩
  have hnS : ∀ p, p ≤ q → (Sq p).n = st.n := by
    intro p
    induction p with
    | zero => intro _; exact hS0.1
    | succ p ih =>
      intro hp
      obtain ⟨op, hop⟩ := len p (by omega)
      obtain ⟨f, _, hSp, _⟩ := hSeq.step p (by omega) op hop
      rw [hSp, eff_n]; exact ih (by omega)
  intro Fe m hFe
  have hF : ∀ L : Nat → Bool, (∀ p, p < n + q → L p = true) → lateF st l n q Fl xs Sq L = lateF st l n q Fl xs Sq (ltB (n + q)) := fun L hL => by
    have e : ∀ L : Nat → Bool, (∀ p, p < n + q → L p = true) → lateF st l n q Fl xs Sq L = Sq q := fun L hL => by
      have e1 : lateF st l n q Fl xs Sq L = mk (flU l n Fl L) (Sq (cntT n L q)) := if_pos (hL n (by omega))
      rw [e1, cntT_at (Nat.le_refl q) (fun j hj => hL _ (by omega)) fun j a b => by omega]
      have e2 : ∀ t, flU l n Fl L t = false := fun t => by
        unfold flU
        cases hpt : prodIdx l n t with
        | none => rfl
        | some r =>
          have hr := (prodIdx_spec hpt).1
          simp [hL r (by omega)]
      cases hS : Sq q
      simp only [mk, e2, cond_false]
    rw [e L hL, e (ltB (n + q)) fun p hp => by simp [ltB, hp]]
  have hT : ∀ a w, Holds w0 (lateF st l n q Fl xs Sq (ltB (n + q))) a w → wpListIn Fe m P l.toArray (Post w0 R) (l.drop (n + q)) a w := fun a w hH => by
    have e1 : lateF st l n q Fl xs Sq (ltB (n + q)) = Sq q := by
      have e1 : lateF st l n q Fl xs Sq (ltB (n + q)) = mk (flU l n Fl (ltB (n + q))) (Sq (cntT n (ltB (n + q)) q)) := if_pos (by simp [ltB]; omega)
      rw [e1, cntT_at (Nat.le_refl q) (fun j hj => by simp [ltB]; omega) fun j a b => by omega]
      have e2 : ∀ t, flU l n Fl (ltB (n + q)) t = false := fun t => by
        unfold flU
        cases hpt : prodIdx l n t with
        | none => rfl
        | some r =>
          have hr := (prodIdx_spec hpt).1
          simp [ltB]; intro _; omega
      cases hS : Sq q
      simp only [mk, e2, cond_false]
    rw [e1] at hH
    exact hK Fe m hFe a w hH
  intro a w hH
  refine wpIn_region_any hm ?_
  have inv0 : HeadInv .any l.toArray (n + q) (Array.replicate l.toArray.size false) :=
    ⟨by simp, fun j oj _ hl => (by rw [getD_replicate_false] at hl; cases hl), fun t _ ht => getD_in (by simpa using ht) (getD_replicate_false _ _)⟩
  have hF0 : lateF st l n q Fl xs Sq ((Array.replicate l.toArray.size false).getD · false) = st := by
    have e1 : lateF st l n q Fl xs Sq ((Array.replicate l.toArray.size false).getD · false) = stOf st l n xs ((Array.replicate l.toArray.size false).getD · false) := if_neg (by show ¬ (Array.replicate l.toArray.size false).getD n false = true; rw [getD_replicate_false]; simp)
    rw [e1, stOf_none (fun p _ => getD_replicate_false _ _)]
  have := any_preF (m := m) hFe (F := fun L => lateF st l n q Fl xs Sq L) h' hn hT0 (fun L i o a w hi ho hD hLi hLa hH => late_step h h' hB hq hS0 hSeq hnS (fun k o hk ho => hO k o (Nat.zero_le _) hk ho) hi ho hD hLi hLa hH) hF hT (n + q) _ a { w with drawn := w.drawn + 1 } inv0 cntU_none (by rw [hF0]; exact hH.drew)
  rw [show n + q + (l.length - (n + q)) = l.toArray.size by simp; omega] at this
  exact this
end
section
variable {P : Program} {w0 : Cx} {S s : St} {ev : Operand → T} {l os : List Oper} {n : Nat} {Fl is : List Nat} {K : St → Prop} {dst : Option Tmp} {op : Op} {ty : TypeId} {pos : String} {after : Array Edge}
theorem fl_nil : FloatOK P w0 l n Fl S [] := trivial
theorem fl_cons {i : Nat} {o : Oper} {d : Tmp} {x : T} (ho : l[i]? = some o) (hd : o.dst = some d) (hx : S.t d = x) (h : COp P w0 S (mk (flU l n Fl (afterB o)) S).ev o (.put (some d) x)) (hs : FloatOK P w0 l n Fl S is) : FloatOK P w0 l n Fl S (i :: is) := by
  refine ⟨?_, hs⟩
  rw [ho]
  simp only [hd]
  rw [hx]; exact h
theorem late_nil (h : K S) : LateW P w0 l n Fl [] S K := h
theorem late_q {x : T} (hq : QOp P w0 S.n S.s (mk (flU l n Fl (afterB ⟨dst, op, ty, pos, after, none⟩)) S).ev ⟨dst, op, ty, pos, after, none⟩ x) (hf : FloatOK P w0 l n Fl (S.put dst x) Fl) (h : LateW P w0 l n Fl os (S.put dst x) K) :
    LateW P w0 l n Fl (⟨dst, op, ty, pos, after, none⟩ :: os) S K := ⟨.put dst x, rfl, c_q hq, hf, h⟩
theorem late_set {k : Nat} {z : Site} (hc : COp P w0 S (mk (flU l n Fl (afterB ⟨none, op, ty, pos, after, none⟩)) S).ev ⟨none, op, ty, pos, after, none⟩ (.set k z none .dead)) (hf : FloatOK P w0 l n Fl (S.site k z) Fl) (h : LateW P w0 l n Fl os (S.site k z) K) :
    LateW P w0 l n Fl (⟨none, op, ty, pos, after, none⟩ :: os) S K := ⟨.set k z none .dead, rfl, hc, hf, h⟩
end
open Go Go.RowKit

section
variable {P : Program} {w0 : Cx} {n : Nat} {s : Nat → Site} {ev : Operand → T} {dst : Option Tmp} {ty : TypeId} {pos : String} {after : Array Edge} {g : Option (Nat × Bool)}
end
section
variable {P : Program} {w0 : Cx} {st : St} {a : Act} {w A B : World} {blk : Nat → Option Nat} {val : Nat → Value} {Y : Nat → Prop}
end
section
variable {P : Program} {w0 : Cx} {st : St} {a : Act} {w : World} {blk : Nat → Option Nat} {val : Nat → Value}
end
section
variable {P : Program} {α σ : Type} {J : (Nat → Prop) → σ → World → Prop} {c : Cx} {st : St} {s : σ}
end
open Go Go.RowKit

section
variable {P : Program} {w0 : Cx} {n : Nat} {s : Nat → Site} {ev : Operand → T} {dst : Option Tmp} {ty : TypeId} {pos : String} {after : Array Edge} {g : Option (Nat × Bool)}
theorem run_callValueM {o : Oper} {a : Act} {w : World} {fv : Operand} {args : Array Operand} {at_ : Array TypeId} {f : FuncId} {vs : Array Value} (ho : o.op = .call ⟨.value fv, args, at_⟩) (hf : a.eval fv = .func (.func f) vs #[]) (h : enB P f = true) :
    (execOp a.eval o).run P w = .ok (.enter f (vs ++ args.map a.eval)) w := by
  simp [execOp, ho, resolve, hf, Deferred.ofValue, invoke, run_callFunc h]
theorem q_index_ar {t e m : TypeId} {y z : Operand} {cs : List D} {d : D} {i : Int} {k : IntKind} (ht : arB P t m e 1 = true) (hs : szB P e false 1 = true) (hy : ev y = .d (.agg cs)) (hz : ev z = .d (.v (.int k i))) (h0 : 0 ≤ i) (h1 : i < m) (hd : cs[i.toNat]? = some d) :
    QOp P w0 n s ev ⟨dst, .index t y z, ty, pos, after, g⟩ (.d d) :=
  .mk fun a w ok blk val h _ hnew => by
    obtain ⟨vs, hv, hL, _⟩ := agg_inv (show Rep w _ (.agg cs) (a.eval y) by have := h y; rw [hy] at this; exact this)
    have h2 : a.eval z = .int k i := RepT.v_eq (hz ▸ h z)
    obtain ⟨v, hvi, hr⟩ := hL.at_ hd
    refine ⟨v, w, ?_, Ext.refl w, hr⟩
    obtain ⟨inf, hi, hsz⟩ := arB_info ht
    simp [execOp, Instr.index, asIntOf, run_underlying (arB_under ht), hv, h2, h0, h1, sizeOf, my_typeInfo hi, hsz, part, szB_agg hs, hvi]
end
open Go Go.RowKit

section
variable {P : Program} {w0 : Cx} {n : Nat} {s : Nat → Site} {ev : Operand → T} {dst : Option Tmp} {ty : TypeId} {pos : String} {after : Array Edge} {g : Option (Nat × Bool)}
end
section
variable {H : Type} {enc : TypeId × Value → H} {P : Program} {w : World} {base : Nat} {spare : Nat → Bool} {held : Bool}
end
open Go Go.RowKit
section
variable {P : Program} {w0 : Cx} {n : Nat} {s : Nat → Site} {ev : Operand → T} {dst : Option Tmp} {ty : TypeId} {pos : String} {after : Array Edge} {g : Option (Nat × Bool)}
end
open Go Go.RowKit
section
variable {P : Program} {w0 : Cx} {n : Nat} {s : Nat → Site} {ev : Operand → T} {dst : Option Tmp} {ty : TypeId} {pos : String} {after : Array Edge} {g : Option (Nat × Bool)}
end
open Go Go.RowKit
section
variable {P : Program}
end
section
variable {P : Program} {w0 : Cx} {n : Nat} {s : Nat → Site} {ev : Operand → T} {dst : Option Tmp} {ty : TypeId} {pos : String} {after : Array Edge} {g : Option (Nat × Bool)}
end
open Go Go.RowKit
def clF (f : FuncId) : Option Nat → Value → List Value → Value → Prop := fun b _ vs v => ∃ b', b = some b' ∧ v = .func (.func f) #[] (Value.pointer (some ⟨b', 0, none⟩) :: vs).toArray
abbrev T.cl (k : Nat) (f : FuncId) (ds : List D) : T := .own k ⟨false, true⟩ ds (clF f)
section
variable {P : Program} {w0 : Cx} {st : St} {a : Act} {w A B : World} {blk : Nat → Option Nat} {val : Nat → Value} {Y : Nat → Prop}
end
section
variable {P : Program} {w0 : Cx} {n : Nat} {s : Nat → Site} {ev : Operand → T} {dst : Option Tmp} {ty : TypeId} {pos : String} {after : Array Edge} {g : Option (Nat × Bool)}
end
section
variable {P : Program} {α : Type}
end
open Go Go.RowKit
section
variable {P : Program}
end
open Go Go.RowKit
section
variable {P : Program} {w0 : Cx}
end
open Go Go.RowKit
section
variable {P : Program} {w0 : Cx} {n : Nat} {s : Nat → Site} {ev : Operand → T} {dst : Option Tmp} {ty : TypeId} {pos : String} {after : Array Edge} {g : Option (Nat × Bool)}
end
section
variable {P : Program} {w0 : Cx} {ops rest : List Oper} {R : Exit → St → Prop} {st : St} {ty : TypeId} {pos : String} {after : Array Edge}
end
open Go Go.RowKit
section
variable {P : Program} {w0 : Cx} {ops rest : List Oper} {R : Exit → St → Prop} {st : St} {ty : TypeId} {pos : String} {after : Array Edge}
end
open Go Go.RowKit
section
variable {P : Program} {w0 : Cx} {st : St} {a : Act} {w A B : World} {blk : Nat → Option Nat} {val : Nat → Value} {Y : Nat → Prop}
end
open Go Go.RowKit
section
variable {P : Program} {w0 : Cx} {st : St}
end
section
variable {P : Program} {w0 : Cx} {st : St}
end
open Go Go.RowKit
section
variable {P : Program} {w0 : Cx} {n : Nat} {s : Nat → Site} {ev : Operand → T} {dst : Option Tmp} {ty : TypeId} {pos : String} {after : Array Edge} {g : Option (Nat × Bool)}
end
section
variable {P : Program} {w0 : Cx} {st : St}
end
section
variable {P : Program} {w0 : Cx} {n : Nat} {s : Nat → Site} {ev : Operand → T} {ty : TypeId} {pos : String} {after : Array Edge}
end
open Go Go.RowKit
section
variable {P : Program} {w0 : Cx} {n : Nat} {s : Nat → Site} {ev : Operand → T} {dst : Option Tmp} {ty : TypeId} {pos : String} {after : Array Edge} {g : Option (Nat × Bool)}
end
section
variable {P : Program} {w0 : Cx} {ops rest : List Oper} {R : Exit → St → Prop} {st : St} {ty : TypeId} {pos : String} {after : Array Edge}
end
open Go Go.RowKit
structure GLow (NG : Nat) (G : World → Prop) : Prop where
  low : ∀ w, G w → NG ≤ w.heap.size
  keep : ∀ w w', G w → w.heap.size ≤ w'.heap.size → (∀ k, k < NG → w'.heap[k]? = w.heap[k]?) → G w'
def PCSG (P : Program) (NG : Nat) (G : World → Prop) (f : FuncId) (args : List T) (ss : List Site) (r : T) (ss' : List Site) : Prop :=
  ∀ (w : World) (ok : Nat → Prop) (blk : Nat → Option Nat) (val : Nat → Value) (vs : List Value), G w → (∀ i b, blk i = some b → NG ≤ b) →
    (∀ i b, blk i = some b → b < w.heap.size ∧ ¬ ok b) → (∀ i j b, blk i = some b → blk j = some b → i = j) → (∀ i, ss.length ≤ i → blk i = none) →
    (∀ i, SiteIn w ok blk val (getS ss) (blk i) (val i) (getS ss i)) → RepLT w ok blk val (getS ss) args vs →
    Calls P f vs.toArray w fun e w' => ∃ v blk' val', e = .returned v ∧ (∀ i, (getS ss i).isVar = true → blk' i = blk i) ∧ (∀ i b, blk' i = some b → (∃ j, blk j = some b) ∨ w.heap.size ≤ b) ∧ (∀ i b, blk' i = some b → b < w'.heap.size) ∧
      (∀ i j b, blk' i = some b → blk' j = some b → i = j) ∧ ExtM ⟨w, ok, fun b => ∃ i, blk i = some b, fun _ => none, fun _ => none, none⟩ w' ∧
      (∀ i, SiteIn w' (fun b => (ok b ∨ w.heap.size ≤ b) ∧ ∀ i, blk' i ≠ some b) blk' val' (getS ss') (blk' i) (val' i) (getS ss' i)) ∧
      RepT w' (fun b => (ok b ∨ w.heap.size ≤ b) ∧ ∀ i, blk' i ≠ some b) blk' val' (getS ss') r v
theorem PCS.g {P : Program} {f : FuncId} {args : List T} {ss : List Site} {r : T} {ss' : List Site} (h : PCS P f args ss r ss') (NG : Nat) (G : World → Prop) : PCSG P NG G f args ss r ss' := fun w ok blk val vs _ _ => h w ok blk val vs
section
variable {P : Program} {w0 : Cx} {st : St}
theorem aops_callWG {ops rest : List Oper} {R : Exit → St → Prop} {ty : TypeId} {pos : String} {after : Array Edge} {dst : Option Tmp} {f : FuncId} {ys : List Operand} {at_ : Array TypeId} {args : List T} {ss ss' : List Site} {r : T} {NG : Nat} {G : World → Prop} (hGw : ∀ w, ExtM w0 w → G w) (hNG : ∀ b, Ours w0 b → NG ≤ b) (ks rows : List Nat)
    (he : enB P f = true) (hr : PCSG P NG G f args ss r ss') (hc : callOk ks args ss r ss' = true) (hkd : kindOk ss ss' = true) (hrows : rowsOf ks ss 0 = rows)
    (hold : ∀ i, i < ss.length → st.s (nth ks i) = shiftS (nth ks) (getS ss i)) (hnew : ∀ i, ss.length ≤ i → i < ss'.length → st.s (nth ks i) = .no) (hd : (match dst with | none => true | some d => Nat.blt d st.n) = true)
    (hA : ∀ (a : Act) (w : World) (blk : Nat → Option Nat) (val : Nat → Value), Hold w0 st a w blk val → ∃ okA : Nat → Prop, (∀ b, okOf w0 blk b → okA b) ∧ (∀ i b, i < ss.length → blk (nth ks i) = some b → ¬ okA b) ∧
      RepLT w okA (fun i => if i < ss.length then blk (nth ks i) else none) (fun i => val (nth ks i)) (getS ss) args (ys.map a.eval) ∧ ((∀ b, okA b → okOf w0 blk b) ∨ ((∀ x ∈ ss', FlatS x) ∧ FlatT r)))
    (h : Aops P w0 ops rest R ((afterS st ks rows ss').put dst (shiftT (nth ks) r))) : Aops P w0 ops (⟨dst, .call ⟨.value (.func f), ys.toArray, at_⟩, ty, pos, after, none⟩ :: rest) R st := by
  subst hrows
  simp only [callOk, Bool.and_eq_true] at hc
  obtain ⟨⟨⟨⟨⟨⟨hnd, hkl⟩, hle⟩, hba⟩, hbs⟩, hbr⟩, hbs'⟩ := hc
  have hkl := Nat.eq_of_beq_eq_true hkl
  have hle := Nat.le_of_ble_eq_true hle
  refine aops_step (K := fun s => s = (afterS st ks (rowsOf ks ss 0) ss').put dst (shiftT (nth ks) r)) rfl (fun a w ⟨blk, val, hh⟩ => ?_) (fun _ e => e ▸ h)
  have hbelow : ∀ (ss : List Site) (m i : Nat), ss.all (belowS m) = true → belowS m (getS ss i) = true := by
    intro ss
    induction ss with
    | nil => intro m i _; rfl
    | cons x xs ih =>
      intro m i h
      simp only [List.all_cons, Bool.and_eq_true] at h
      cases i with
      | zero => exact h.1
      | succ i => exact ih m i h.2
  obtain ⟨okA, hA1, hA2, hA3, hA4⟩ := hA a w blk val hh
  let blkC : Nat → Option Nat := fun i => if i < ss.length then blk (nth ks i) else none
  let valC : Nat → Value := fun i => val (nth ks i)
  have hrel : ∀ k, k < ss.length → blkC k = blk (nth ks k) ∧ valC k = val (nth ks k) ∧ st.s (nth ks k) = shiftS (nth ks) (getS ss k) := fun k hk => ⟨if_pos hk, rfl, hold k hk⟩
  have hbC : ∀ i b, blkC i = some b → i < ss.length ∧ blk (nth ks i) = some b := fun i b h => by
    simp only [blkC] at h
    split at h
    · exact ⟨by assumption, h⟩
    · cases h
  have hcall := hr w okA blkC valC (ys.map a.eval) (hGw w hh.ext) (fun i b h => hNG b (hh.new _ _ (hbC i b h).2).1) (fun i b h => ⟨(hh.new _ _ (hbC i b h).2).2, hA2 i b (hbC i b h).1 (hbC i b h).2⟩)
    (fun i j b h1 h2 => nth_inj hnd (by have := (hbC i b h1).1; omega) (by have := (hbC j b h2).1; omega) (hh.inj _ _ b (hbC i b h1).2 (hbC j b h2).2)) (fun i hi => if_neg (by omega)) (fun i => by
      rcases Nat.lt_or_ge i ss.length with hi | hi
      · have h1 := hh.site (nth ks i)
        rw [hold i hi] at h1
        rw [(hrel i hi).1]
        refine h1.unshift (fun b _ h => hA1 b h) fun cs hcs y hy k hk => ?_
        have h2 := hbelow ss ss.length i hbs
        rw [hcs] at h2
        exact hrel k (belowT_lt (List.all_eq_true.1 h2 y hy) k hk)
      · rw [getS_none hi]; exact if_neg (by omega)) hA3
  refine ow_of_wp (fun c hc => by cases hc) ?_
  unfold Oper.wp
  rw [run_callValue (f := f) (cap := #[]) rfl rfl he]
  have harr : ((ys.map a.eval).toArray : Array Value) = ys.toArray.map a.eval ++ #[] := by simp
  rw [harr] at hcall
  refine hcall.mono ?_
  rintro e w' ⟨v, blk', val', rfl, c1, c2, c4, c5, c6, hsites, hres⟩
  let blkN : Nat → Option Nat := fun k => match idxN k ks with | some i => blk' i | none => blk k
  let valN : Nat → Value := fun k => match idxN k ks with | some i => val' i | none => val k
  have hnN : ∀ i, i < ss'.length → blkN (nth ks i) = blk' i ∧ valN (nth ks i) = val' i := fun i hi => by
    have := idxN_nth hnd (i := i) (by omega)
    simp only [blkN, valN, this]
    exact ⟨trivial, trivial⟩
  have mineK : ∀ k b, idxN k ks = none → blk k = some b → ¬ ∃ i, blkC i = some b := fun k b hk hb ⟨i, hi⟩ => by
    have e := hh.inj _ _ b hb (hbC i b hi).2
    subst e
    rw [idxN_nth hnd (by have := (hbC i b hi).1; omega)] at hk; cases hk
  have hNb : ∀ k b, blkN k = some b → (idxN k ks = none ∧ blk k = some b) ∨ ∃ i, idxN k ks = some i ∧ blk' i = some b := fun k b h => by
    simp only [blkN] at h
    cases hk : idxN k ks with
    | none => rw [hk] at h; exact .inl ⟨rfl, h⟩
    | some i => rw [hk] at h; exact .inr ⟨i, rfl, h⟩
  have hokN : ∀ b, b < w.heap.size → okOf w0 blk b → okOf w0 blkN b := fun b hb h => ⟨h.1, fun k hk => by
    rcases hNb k b hk with ⟨_, h1⟩ | ⟨i, _, h1⟩
    · exact h.2 k h1
    · rcases c2 i b h1 with ⟨j, hj⟩ | h2
      · exact h.2 _ (hbC j b hj).2
      · omega⟩
  have hokR : (∀ b, okA b → okOf w0 blk b) → ∀ b, b < w'.heap.size → ((okA b ∨ w.heap.size ≤ b) ∧ ∀ i, blk' i ≠ some b) → okOf w0 blkN b := fun hq b _ h => by
    have h : (okOf w0 blk b ∨ w.heap.size ≤ b) ∧ ∀ i, blk' i ≠ some b := ⟨h.1.imp (hq b) id, h.2⟩
    refine ⟨h.1.elim (fun q => q.1) fun q => .inr (Nat.le_trans hh.ext.size q), fun k hk => ?_⟩
    rcases hNb k b hk with ⟨_, h1⟩ | ⟨i, _, h1⟩
    · rcases h.1 with q | q
      · exact q.2 k h1
      · have := (hh.new k b h1).2; omega
    · exact h.2 i h1
  have hsites : ∀ i, SiteIn w' (okOf w0 blkN) blk' val' (getS ss') (blk' i) (val' i) (getS ss' i) := fun i => by
    rcases hA4 with q | ⟨q, _⟩
    · exact (hsites i).okw (hokR q)
    · exact (hsites i).flat (flatS_at q i)
  have hres : RepT w' (okOf w0 blkN) blk' val' (getS ss') r v := by
    rcases hA4 with q | ⟨_, q⟩
    · exact hres.ok' (hokR q)
    · exact hres.flat q
  have keepB : ∀ b o, okOf w0 blk b → w.heap[b]? = some o → w'.heap[b]? = some o := fun b o hok ho => by
    rw [c6.block b (heap_lt ho) (fun ⟨i, hi⟩ => hok.2 _ (hbC i b hi).2)]; exact ho
  have keep : ∀ {d : D} {u : Value}, Rep w (okOf w0 blk) d u → Rep w' (okOf w0 blkN) d u := fun h => h.keep c6.size keepB fun b hb h => hokN b hb h
  -- a site that was handed in, as the caller names it
  have inKs : ∀ j i, idxN j ks = some i → nth ks i = j ∧ i < ss'.length := fun j i h => by
    obtain ⟨h1, h2⟩ := idxN_some h
    exact ⟨h2, by omega⟩
  have keepT : ∀ {y : T} {u : Value}, RepT w (okOf w0 blk) blk val st.s y u → RepT w' (okOf w0 blkN) blkN valN (afterS st ks (rowsOf ks ss 0) ss').s (killT (rowsOf ks ss 0) y) u := by
    have rowIn : ∀ (ss : List Site) (i j : Nat), j < ss.length → (∃ e sz es, getS ss j = .row e sz es) → memN (nth ks (i + j)) (rowsOf ks ss i) = true := by
      intro ss
      induction ss with
      | nil => intro i j h; simp at h
      | cons x xs ih =>
        intro i j hj hrow
        cases j with
        | zero =>
          obtain ⟨e, sz, es, hx⟩ := hrow
          simp only [getS] at hx
          subst hx
          simp [rowsOf, memN]
        | succ j =>
          have := ih (i + 1) j (by simpa using hj) hrow
          rw [show i + 1 + j = i + (j + 1) by omega] at this
          cases x <;> simp only [rowsOf, memN] <;> first | exact this | (rw [this]; simp)
    intro y u h
    cases y with
    | d y => exact keep h
    | ref k o =>
      simp only [killT]
      cases hkr : memN k (rowsOf ks ss 0) with
      | true => simp only [if_true]; trivial
      | false =>
        simp only [Bool.false_eq_true, if_false]
        obtain ⟨q1, b, q2, q3⟩ := h
        cases hk : idxN k ks with
        | none =>
          exact ⟨by simp only [afterS, hk]; exact killSite_row.1 q1, b, by simp only [blkN, hk]; exact q2, q3⟩
        | some i =>
          obtain ⟨e1, e2⟩ := inKs k i hk
          have him : i < ss.length := by
            rcases Nat.lt_or_ge i ss.length with h | h
            · exact h
            · exact absurd (by rw [← e1]; exact hnew i h e2) q1
          rcases kindOk_at hkd i him with ⟨v1, v2⟩ | ⟨v1, _⟩
          · refine ⟨?_, b, ?_, q3⟩
            · simp only [afterS, hk]
              cases hg : getS ss' i <;> rw [hg] at v2 <;> first | (cases v2; done) | simp [shiftS]
            · simp only [blkN, hk]
              rw [c1 i v1, (hrel i him).1, e1]; exact q2
          · have := rowIn ss 0 i him v1
            rw [Nat.zero_add, e1, hkr] at this; cases this
    | rs k =>
      simp only [killT]
      cases hkr : memN k (rowsOf ks ss 0) with
      | true => simp only [if_true]; trivial
      | false =>
        simp only [Bool.false_eq_true, if_false]
        obtain ⟨q1, q3⟩ := h
        cases hk : idxN k ks with
        | none => exact ⟨by simp only [afterS, hk]; exact killSite_row.2 q1, by simp only [valN, hk]; exact q3⟩
        | some i =>
          obtain ⟨e1, e2⟩ := inKs k i hk
          obtain ⟨e, sz, es, q1⟩ := q1
          have him : i < ss.length := by
            rcases Nat.lt_or_ge i ss.length with h | h
            · exact h
            · have := hnew i h e2; rw [e1, q1] at this; cases this
          have hr : ∃ e sz es, getS ss i = .row e sz es := by
            have := hold i him
            rw [e1, q1] at this
            cases hg : getS ss i <;> rw [hg] at this <;> simp [shiftS] at this ⊢
          have := rowIn ss 0 i him hr
          rw [Nat.zero_add, e1, hkr] at this; cases this
    | own k r g1 g2 =>
      simp only [killT]
      cases hkr : memN k (rowsOf ks ss 0) with
      | true => simp only [if_true]; trivial
      | false =>
        simp only [Bool.false_eq_true, if_false]
        obtain ⟨⟨⟨q0, q1⟩, qo⟩, q3⟩ := h
        cases hk : idxN k ks with
        | none => exact ⟨⟨⟨by simp only [afterS, hk]; exact killSite_row.1 q0, fun hr => by simp only [afterS, hk]; exact killSite_row.2 (q1 hr)⟩, qo⟩, by simp only [valN, blkN, hk]; exact q3.imp fun _ _ h => keep h⟩
        | some i =>
          obtain ⟨e1, e2⟩ := inKs k i hk
          have him : i < ss.length := by
            rcases Nat.lt_or_ge i ss.length with h | h
            · exact h
            · exact absurd (by rw [← e1]; exact hnew i h e2) q0
          cases hrr : r.row with
          | true =>
            obtain ⟨e, sz, es, q1⟩ := q1 hrr
            have hr : ∃ e sz es, getS ss i = .row e sz es := by
              have := hold i him
              rw [e1, q1] at this
              cases hg : getS ss i <;> rw [hg] at this <;> simp [shiftS] at this ⊢
            have := rowIn ss 0 i him hr
            rw [Nat.zero_add, e1, hkr] at this; cases this
          | false =>
            rcases kindOk_at hkd i him with ⟨v1, v2⟩ | ⟨v1, _⟩
            · refine ⟨⟨⟨?_, fun hr => by rw [hrr] at hr; cases hr⟩, qo⟩, ?_⟩
              · simp only [afterS, hk]
                cases hg : getS ss' i <;> rw [hg] at v2 <;> first | (cases v2; done) | simp [shiftS]
              · simp only [blkN, hk, hrr, cond_false] at q3 ⊢
                rw [c1 i v1, (hrel i him).1, e1]; exact q3.imp fun _ _ h => keep h
            · have := rowIn ss 0 i him v1
              rw [Nat.zero_add, e1, hkr] at this; cases this
    | un => exact h
    | dead => trivial
  have relN : ∀ k, k < ss'.length → blkN (nth ks k) = blk' k ∧ valN (nth ks k) = val' k ∧ (afterS st ks (rowsOf ks ss 0) ss').s (nth ks k) = shiftS (nth ks) (getS ss' k) := fun k hk => by
    obtain ⟨h1, h2⟩ := hnN k hk
    refine ⟨h1, h2, ?_⟩
    simp only [afterS, idxN_nth hnd (i := k) (by omega)]
  have hH : Hold w0 (afterS st ks (rowsOf ks ss 0) ss') a w' blkN valN := by
    refine ⟨⟨c6.os.trans hh.ext.os, c6.tape.trans hh.ext.tape, c6.output.trans hh.ext.output, Nat.le_trans hh.ext.size c6.size, fun k hk hm => ?_⟩, hh.kept fun j hj hn => c6.block j hj (fun ⟨i, hi⟩ => hn _ (hbC i j hi).2), hh.size, fun k b hb => ?_, fun i j b hi hj => ?_, fun k b hp => ?_, fun k => ?_, fun t => keepT (hh.tmp t)⟩
    · have hk' : k < w.heap.size := Nat.lt_of_lt_of_le hk hh.ext.size
      have e := c6.block k hk' (fun ⟨i, hi⟩ => by
        rcases (hh.new _ _ (hbC i k hi).2).1 with q | q
        · omega
        · exact hm q)
      exact e.trans (hh.ext.block k hk hm)
    · rcases hNb k b hb with ⟨_, h1⟩ | ⟨i, _, h1⟩
      · exact ⟨(hh.new k b h1).1, Nat.lt_of_lt_of_le (hh.new k b h1).2 c6.size⟩
      · refine ⟨?_, c4 i b h1⟩
        rcases c2 i b h1 with ⟨j, hj⟩ | h2
        · exact (hh.new _ _ (hbC j b hj).2).1
        · exact .inl (Nat.le_trans hh.ext.size h2)
    · rcases hNb i b hi with ⟨n1, h1⟩ | ⟨i', n1, h1⟩ <;> rcases hNb j b hj with ⟨n2, h2⟩ | ⟨j', n2, h2⟩
      · exact hh.inj i j b h1 h2
      · rcases c2 j' b h2 with ⟨q, hq⟩ | h3
        · exact absurd ⟨q, hq⟩ (mineK i b n1 h1)
        · have := (hh.new i b h1).2; omega
      · rcases c2 i' b h1 with ⟨q, hq⟩ | h3
        · exact absurd ⟨q, hq⟩ (mineK j b n2 h2)
        · have := (hh.new j b h2).2; omega
      · have := c5 i' j' b h1 h2
        subst this
        rw [← (inKs i i' n1).1, (inKs j i' n2).1]
    · obtain ⟨q1, q2, q3⟩ := hh.pin k b hp
      cases hk : idxN k ks with
      | none =>
        refine ⟨by simp only [blkN, hk]; exact q1, ?_, q3⟩
        simp only [afterS, hk]
        cases hs : st.s k <;> rw [hs] at q2 <;> first | (cases q2; done) | rfl
      | some i =>
        obtain ⟨e1, e2⟩ := inKs k i hk
        have him : i < ss.length := by
          rcases Nat.lt_or_ge i ss.length with h | h
          · exact h
          · have := hnew i h e2; rw [e1] at this; rw [this] at q2; cases q2
        rcases kindOk_at hkd i him with ⟨v1, v2⟩ | ⟨⟨e, sz, es, v1⟩, _⟩
        · refine ⟨by simp only [blkN, hk]; rw [c1 i v1, (hrel i him).1, e1]; exact q1, ?_, q3⟩
          simp only [afterS, hk]
          cases hg : getS ss' i <;> rw [hg] at v2 <;> first | (cases v2; done) | rfl
        · have := hold i him
          rw [e1, v1] at this
          rw [this] at q2; cases q2
    · cases hk : idxN k ks with
      | some i =>
        obtain ⟨e1, e2⟩ := inKs k i hk
        have h1 := hsites i
        obtain ⟨n1, n2, n3⟩ := relN i e2
        rw [e1] at n1 n2 n3
        rw [n1, n2, n3]
        refine h1.shift (fun _ _ h => h) fun cs hcs y hy j hj => ?_
        have h2 := hbelow ss' ss'.length i hbs'
        rw [hcs] at h2
        exact relN j (belowT_lt (List.all_eq_true.1 h2 y hy) j hj)
      | none =>
        have hs := hh.site k
        have e0 : (afterS st ks (rowsOf ks ss 0) ss').s k = killSite (rowsOf ks ss 0) (st.s k) := by simp only [afterS, hk]
        have e1 : blkN k = blk k := by simp only [blkN, hk]
        have e2 : valN k = val k := by simp only [valN, hk]
        rw [e0, e1, e2]
        have hbk : ∀ c, blk k = some c → w'.heap[c]? = w.heap[c]? := fun c hc => c6.block c (hh.new k c hc).2 (mineK k c hk hc)
        cases hsk : st.s k with
        | no => rw [hsk] at hs; exact hs
        | box cs' =>
          rw [hsk] at hs
          obtain ⟨c, e, vals, h1, h2, h3, h4, h5⟩ := hs
          exact ⟨c, e, vals, h1, by rw [hbk c h1]; exact h2, h3, h4, fun j d hd => let ⟨v, hv, hr⟩ := h5 j d hd; ⟨v, hv, keep hr⟩⟩
        | tbox cs' =>
          rw [hsk] at hs
          obtain ⟨c, e, vals, h1, h2, h3, h5⟩ := hs
          refine ⟨c, e, vals, h1, by rw [hbk c h1]; exact h2, by simpa using h3, fun i y hy => ?_⟩
          rw [List.getElem?_map] at hy
          cases hi : cs'[i]? with
          | none => rw [hi] at hy; cases hy
          | some z =>
            rw [hi] at hy; cases hy
            obtain ⟨v, hv, ho, hr⟩ := h5 i z hi
            exact ⟨v, hv, ho, keepT hr⟩
        | mp es c =>
          rw [hsk] at hs
          obtain ⟨c', ms, c0, h1, h2, h3⟩ := hs
          exact ⟨c', ms, c0, h1, by rw [hbk c' h1]; exact h2, h3.imp fun _ _ h => keep h⟩
        | row e sz es =>
          rw [hsk] at hs
          obtain ⟨h1, h2, h3⟩ := hs
          exact ⟨h1, h2, h3.imp id fun ⟨c, vals, cap, k1, k2, k3, k4, k5, k6, k7⟩ => ⟨c, vals, cap, k1, k2, k3, k4, by rw [hbk c k1]; exact k5, k6, fun i x j d hi hj => let ⟨v, hv, hr⟩ := k7 i x j d hi hj; ⟨v, hv, keep hr⟩⟩⟩
  refine ⟨_, rfl, blkN, valN, hH.put dst _ v (fun d hd' => ?_) (hres.shift (fun _ _ h => h) fun k hk => relN k (belowT_lt hbr k hk))⟩
  subst hd'
  simpa [Nat.blt_eq, afterS] using hd
theorem aops_callLG {ops rest : List Oper} {R : Exit → St → Prop} {ty : TypeId} {pos : String} {after : Array Edge} {dst : Option Tmp} {f : FuncId} {ys : List Operand} {at_ : Array TypeId} {args : List T} {ss ss' : List Site} {r : T} {NG : Nat} {G : World → Prop} (hGw : ∀ w, ExtM w0 w → G w) (hNG : ∀ b, Ours w0 b → NG ≤ b) (ks rows : List Nat)
    (he : enB P f = true) (hr : PCSG P NG G f args ss r ss') (ha : ArgsS st.ev (nth ks) ys args) (hc : callOk ks args ss r ss' = true) (hkd : kindOk ss ss' = true) (hrows : rowsOf ks ss 0 = rows)
    (hold : holdS st (nth ks) ks ss) (hnew : newS st ks ss ss') (hd : (match dst with | none => true | some d => Nat.blt d st.n) = true)
    (h : Aops P w0 ops rest R ((afterS st ks rows ss').put dst (shiftT (nth ks) r))) : Aops P w0 ops (⟨dst, .call ⟨.value (.func f), ys.toArray, at_⟩, ty, pos, after, none⟩ :: rest) R st :=
  aops_callWG hGw hNG ks rows he hr hc hkd hrows hold.spec (hnew.spec (by have q := hc; simp only [callOk, Bool.and_eq_true] at q; exact Nat.eq_of_beq_eq_true q.1.1.1.1.1.2)) hd (fun a w blk val hh => ⟨okOf w0 blk, fun _ h => h, fun i b _ hb hok => hok.2 _ hb,
    argsS_rep (m := ss.length) (fun y => hh.ev y) (fun _ _ h => h) (fun k hk => ⟨if_pos hk, rfl, hold.spec k hk⟩) ha (by simp only [callOk, Bool.and_eq_true] at hc; exact hc.1.1.1.2), .inl fun _ h => h⟩) h
end
section
variable {P : Program} {w0 : Cx} {st : St}
end
section
variable {P : Program} {w0 : Cx} {ops : List Oper} {rest : List Oper} {R : Exit → St → Prop} {st : St} {ty : TypeId} {pos : String} {after : Array Edge}
theorem pcg_of_awpO {NG : Nat} {G : World → Prop} (hgk : GLow NG G) {f : FuncId} {fn : Func} {c : Code} {n : Nat} {args : List D} {r : D} {rs : List ResultVar} (hf : P.funcs[f]? = some fn) (hb : fn.body = some c) (hn : fn.ntmps = n) (hrs : fn.results = rs.toArray) (hl : args.length ≤ n)
    (h : ∀ w0 : Cx, (∀ b, w0.mine b → w0.ok b) → w0.rnd = none → (∀ k, w0.pin k = none) → (∀ w, ExtM w0 w → G w) → (∀ b, Ours w0 b → NG ≤ b) → Awp P w0 c (endR P rs r) (startSt n args)) : PCG P G f args r := by
  intro w ok vs hg hL
  refine (callsIn_wide (n := 1)).1 (callsIn_of_wp_marks hf hb trivial ?_ rfl)
  have h0 : Hold ⟨w, ok, fun _ => False, fun _ => none, fun _ => none, none⟩ (startSt n args) { tmps := vs.toArray ++ Array.replicate (fn.ntmps - vs.toArray.size) undef, defers := [] } w (fun _ => none) (fun _ => undef) := by
    refine ⟨⟨rfl, rfl, rfl, Nat.le_refl _, fun _ _ _ => rfl⟩, Kept.nil rfl rfl, ?_, fun s b h => by simp at h, fun s s' b h => by simp at h, (fun k b h => by cases h), fun s => rfl, fun t => ?_⟩
    · have := hL.length
      simp [startSt, hn]; omega
    · have := argT_rep (blk := fun _ => none) (val := fun _ => undef) (s := fun _ => Site.no) (fn.ntmps - vs.toArray.size) (RepL.of (ok := okOf ⟨w, ok, fun _ => False, fun _ => none, fun _ => none, none⟩ fun _ => none) hL.length fun j d v h1 h2 => (hL.get j d v h1 h2).ok fun b _ hb => ⟨.inl hb, fun s h => by cases h⟩) t
      have e : (vs.toArray ++ Array.replicate (fn.ntmps - vs.toArray.size) undef) = (vs ++ List.replicate (fn.ntmps - vs.toArray.size) undef).toArray := by simp
      show RepT _ _ _ _ _ _ ((vs.toArray ++ Array.replicate (fn.ntmps - vs.toArray.size) undef).getD t undef)
      rw [e, Array.getD_eq_getD_getElem?, List.getElem?_toArray, ← List.getD_eq_getElem?_getD]
      exact this
  refine wpIn_mono (h ⟨w, ok, fun _ => False, fun _ => none, fun _ => none, none⟩ (fun _ h => h.elim) rfl (fun _ => rfl) (fun w' hx => hgk.keep w w' hg hx.size fun k hk => hx.block k (Nat.lt_of_lt_of_le hk (hgk.low w hg)) (fun h => h)) (fun b hb => hb.elim (fun q => Nat.le_trans (hgk.low w hg) q) fun q => q.elim) Fence.wide 1 ⟨.inl rfl, rfl⟩ _ w ⟨_, _, h0⟩) fun e a w' ⟨st', hR, hH⟩ => ?_
  cases e with
  | normal =>
    obtain ⟨ds, hd, rfl⟩ := hR
    obtain ⟨ms, m1, m2, m3, blk, val, hh⟩ := hH.shut rfl
    obtain ⟨v, h1, h2⟩ := run_results hh hrs hd
    show LeavesInM _ _ _ _ _ _ _ _ _
    rw [m1]
    exact shut_leaves ms w' m2 m3 ⟨v, h1, v, rfl, ⟨hh.ext.os, hh.ext.tape, hh.ext.output, hh.ext.size, fun k hk => hh.ext.block k hk (fun h => h)⟩, h2.ok fun b _ hb => hb.imp id fun h => h.resolve_right (fun h => h)⟩
  | ret =>
    obtain ⟨ds, hd, rfl⟩ := hR
    obtain ⟨ms, m1, m2, m3, blk, val, hh⟩ := hH.shut rfl
    obtain ⟨v, h1, h2⟩ := run_results hh hrs hd
    show LeavesInM _ _ _ _ _ _ _ _ _
    rw [m1]
    exact shut_leaves ms w' m2 m3 ⟨v, h1, v, rfl, ⟨hh.ext.os, hh.ext.tape, hh.ext.output, hh.ext.size, fun k hk => hh.ext.block k hk (fun h => h)⟩, h2.ok fun b _ hb => hb.imp id fun h => h.resolve_right (fun h => h)⟩
  | exit id => exact hR.elim
  | goto l => exact hR.elim
  | panic c => exact hR.elim
  | outgrown => exact hR.elim
end
open Go Go.RowKit
section
variable {P : Program} {w0 : Cx} {n : Nat} {s : Nat → Site} {ev : Operand → T} {dst : Option Tmp} {ty : TypeId} {pos : String} {after : Array Edge} {g : Option (Nat × Bool)}
theorem QOp.mkW {o : Oper} {x : T} (h : ∀ (a : Act) (w : World) (ok : Nat → Prop) (blk : Nat → Option Nat) (val : Nat → Value), ExtM w0 w → (∀ y, RepT w ok blk val s (ev y) (a.eval y)) → ∃ v, (execOp a.eval o).run P w = .ok (.value v) w ∧ RepT w ok blk val s x v) : QOp P w0 n s ev o x := by
  intro st a w ⟨blk, val, hh⟩ hs hn hev hd
  obtain ⟨blk', h1, h2, h3⟩ := QOp.core hh hs hev
  obtain ⟨v, h1, h2⟩ := h a w (okOf w0 blk) blk' val hh.ext h1
  exact wp_value h1 ⟨blk, val, (hh.ext' (Ext.refl w)).put o.dst x v (fun d h => by rw [hn]; exact hd d h) (h3 _ _ _ _ h2)⟩
theorem q_indexAddr_glob {t : TypeId} {z : Operand} {m e sz g0 : Nat} {i : Int} {k : IntKind} (ht : arB P t m e sz = true) (hz : ev z = .d (.v (.int k i))) (h0 : 0 ≤ i) (h1 : i < m) : QOp P w0 n s ev ⟨dst, .indexAddr t (.global g0) z, ty, pos, after, g⟩ (.d (.v (.pointer (some ⟨g0, 0 + i.toNat * sz, none⟩)))) :=
  .mkW fun a w ok blk val _ h => by
    have h2 : a.eval z = .int k i := RepT.v_eq (hz ▸ h z)
    have h3 : a.eval (.global g0) = .pointer (some ⟨g0, 0, none⟩) := rfl
    exact ⟨.pointer (some ⟨g0, 0 + i.toNat * sz, none⟩), by simp [execOp, h3, h2, run_indexAt_ar ht h0 h1], .v _ rfl⟩
theorem q_load_glob {t : TypeId} {y : Operand} {g0 o : Nat} {u : Value} (ht : szB P t false 1 = true) (hy : ev y = .d (.v (.pointer (some ⟨g0, o, none⟩)))) (hG : ∀ w, ExtM w0 w → w.cell? ⟨g0, o, none⟩ = some u) (hu : u.oneCell' = true) : QOp P w0 n s ev ⟨dst, .load t y, ty, pos, after, g⟩ (.d (.v u)) :=
  .mkW fun a w ok blk val hE h => by
    have hv : a.eval y = .pointer (some ⟨g0, o, none⟩) := RepT.v_eq (hy ▸ h y)
    have hc := hG w hE
    exact ⟨u, by simp [execOp, hv, Instr.loadAt, Instr.sureAddr, loadVar, szB_agg ht, hc], .v _ hu⟩
end
open Go Go.RowKit
section
variable {P : Program} {w0 : Cx} {ops : List Oper} {rest : List Oper} {R : Exit → St → Prop} {st : St} {a : Act} {w : World} {blk : Nat → Option Nat} {val : Nat → Value}
end
section
variable {P : Program} {w0 : Cx} {n : Nat} {s : Nat → Site} {ev : Operand → T} {dst : Option Tmp} {ty : TypeId} {pos : String} {after : Array Edge} {g : Option (Nat × Bool)}
theorem q_load_globC {t : TypeId} {m g0 : Nat} {us : List Value} (ht : szB P t true m = true) (hl : us.length = m) (hG : ∀ w, ExtM w0 w → ∀ (j : Nat) (u : Value), us[j]? = some u → w.cell? ⟨g0, j, none⟩ = some u) (hu : us.all Value.oneCell' = true) : QOp P w0 n s ev ⟨dst, .load t (.global g0), ty, pos, after, g⟩ (.d (.agg (us.map .v))) :=
  .mkW fun a w ok blk val hE h => by
    have h3 : a.eval (.global g0) = .pointer (some ⟨g0, 0, none⟩) := rfl
    have hld := run_loadCells_list (P := P) w ⟨g0, 0, none⟩ us (fun j v hv => by rw [addr_add]; simpa using hG w hE j v hv)
    rw [hl] at hld
    refine ⟨.agg us.toArray, by simp only [execOp, h3, Instr.loadAt, Instr.sureAddr, loadVar, Sem.run_bind, Sem.run_pure, Result.andThen_ok, szB_agg ht, if_true, szB_size ht, hld], ?_⟩
    refine Rep.agg _ _ (by simp) (fun j d hd => ?_) (fun j d v h1 h2 => ?_)
    · rw [List.getElem?_map, Option.map_eq_some_iff] at hd
      obtain ⟨u, _, rfl⟩ := hd
      rfl
    · rw [List.getElem?_map, Option.map_eq_some_iff] at h1
      obtain ⟨u, hu1, rfl⟩ := h1
      rw [hu1] at h2
      cases h2
      exact .v _ (List.all_eq_true.1 hu _ (List.mem_of_getElem? hu1))
end
section
variable {P : Program} {w0 : Cx} {n : Nat} {s : Nat → Site} {ev : Operand → T} {dst : Option Tmp} {ty : TypeId} {pos : String} {after : Array Edge} {g : Option (Nat × Bool)}
end
section
variable {P : Program} {w0 : Cx} {ops : List Oper} {rest : List Oper} {R : Exit → St → Prop} {st : St} {ty : TypeId} {pos : String} {after : Array Edge}
end
section
variable {P : Program} {w0 : Cx} {s : St} {ev : Operand → T} {ty : TypeId} {pos : String} {after : Array Edge}
end
def PCSX (P : Program) (NG : Nat) (G : World → Prop) (b0 : Nat) (f : FuncId) (args : List T) (ss : List Site) (r : T) (ss' : List Site) : Prop :=
  ∀ (w : World) (ok : Nat → Prop) (blk : Nat → Option Nat) (val : Nat → Value) (vs : List Value), blk 0 = some b0 → G w → (∀ i b, blk i = some b → NG ≤ b) →
    (∀ i b, blk i = some b → b < w.heap.size ∧ ¬ ok b) → (∀ i j b, blk i = some b → blk j = some b → i = j) → (∀ i, ss.length ≤ i → blk i = none) →
    (∀ i, SiteIn w ok blk val (getS ss) (blk i) (val i) (getS ss i)) → RepLT w ok blk val (getS ss) args vs →
    Calls P f vs.toArray w fun e w' => ∃ v blk' val', e = .returned v ∧ (∀ i, (getS ss i).isVar = true → blk' i = blk i) ∧ (∀ i b, blk' i = some b → (∃ j, blk j = some b) ∨ w.heap.size ≤ b) ∧ (∀ i b, blk' i = some b → b < w'.heap.size) ∧
      (∀ i j b, blk' i = some b → blk' j = some b → i = j) ∧ ExtM ⟨w, ok, fun b => ∃ i, blk i = some b, fun _ => none, fun _ => none, none⟩ w' ∧
      (∀ i, SiteIn w' (fun b => (ok b ∨ w.heap.size ≤ b) ∧ ∀ i, blk' i ≠ some b) blk' val' (getS ss') (blk' i) (val' i) (getS ss' i)) ∧
      RepT w' (fun b => (ok b ∨ w.heap.size ≤ b) ∧ ∀ i, blk' i ≠ some b) blk' val' (getS ss') r v
theorem PCSG.x {P : Program} {NG : Nat} {G : World → Prop} {f : FuncId} {args : List T} {ss : List Site} {r : T} {ss' : List Site} (h : PCSG P NG G f args ss r ss') (b0 : Nat) : PCSX P NG G b0 f args ss r ss' := fun w ok blk val vs _ => h w ok blk val vs
section
variable {P : Program} {w0 : Cx} {st : St}
end
section
variable {P : Program} {w0 : Cx} {st : St}
end
inductive RetX (P : Program) (st : St) : ResultVar → D → Prop
  | tmp {t : Tmp} {d : D} (h : st.t t = .d d) : RetX P st (.tmp t) d
  | cellA {t : Tmp} {ty m k : Nat} {cs : List D} (h : st.t t = .ref k 0) (hk : st.s k = .box cs) (hs : szB P ty true m = true) (hl : cs.length = m) : RetX P st (.cell t ty) (.agg cs)
inductive RetXs (P : Program) (st : St) : List ResultVar → List D → Prop
  | nil : RetXs P st [] []
  | cons {r : ResultVar} {rs : List ResultVar} {d : D} {ds : List D} (h : RetX P st r d) (hs : RetXs P st rs ds) : RetXs P st (r :: rs) (d :: ds)
def endX (P : Program) (n : Nat) (rs : List ResultVar) (m : Nat) (r : D) (ss' : List Site) : Exit → St → Prop
  | .ret, st | .normal, st => ∃ (ds : List D) (ns : List Nat), RetXs P st rs ds ∧ r = retD ds ∧ SitesAt st ns ss' ∧ ns.length = ss'.length ∧ nodupN ns = true ∧ firstN n 0 m ns = true ∧ ss'.all (belowS ss'.length) = true
  | _, _ => False
theorem endx_mk {P : Program} {st : St} {n : Nat} {rs : List ResultVar} {m : Nat} {r : D} {ss' : List Site} {e : Exit} (he : e = .ret ∨ e = .normal) (ds : List D) (ns : List Nat) (hr : RetXs P st rs ds) (hrd : r = retD ds) (hs : holdS st (nth ns) ns ss') (h : (Nat.beq ns.length ss'.length && (nodupN ns && (firstN n 0 m ns && ss'.all (belowS ss'.length)))) = true) : endX P n rs m r ss' e st := by
  simp only [Bool.and_eq_true] at h
  obtain ⟨h1, h2, h3, h4⟩ := h
  rcases he with rfl | rfl
  · exact ⟨ds, ns, hr, hrd, hs.spec, Nat.eq_of_beq_eq_true h1, h2, h3, h4⟩
  · exact ⟨ds, ns, hr, hrd, hs.spec, Nat.eq_of_beq_eq_true h1, h2, h3, h4⟩
theorem retx_one {P : Program} {w0 : Cx} {st : St} {a : Act} {w : World} {blk : Nat → Option Nat} {val : Nat → Value} {r : ResultVar} {d : D} (hh : Hold w0 st a w blk val) (h : RetX P st r d) : ∃ v, (readVar a.tmps r).run P w = .ok v w ∧ Rep w (okOf w0 blk) d v := by
  cases h with
  | tmp h =>
    rename_i t
    have q := hh.tmp t
    rw [h] at q
    exact ⟨_, rfl, q⟩
  | cellA h hk hs hl =>
    rename_i t ty m k cs
    have h1 := hh.tmp t
    rw [h] at h1
    obtain ⟨_, b, hb, hv⟩ := h1
    have h2 := hh.site k
    rw [hk] at h2
    obtain ⟨b', e, vals, hb', hheap, hsz, hsc, hc⟩ := h2
    rw [hb] at hb'; cases hb'
    have hld := run_loadBlock (P := P) hheap
    rw [hsz, hl] at hld
    refine ⟨.agg vals, ?_, ?_⟩
    · simp only [readVar, Sem.run_bind, hv, asAddr, Sem.run_pure, Result.andThen_ok, loadVar, szB_agg hs, if_true, szB_size hs, hld]
    · have := Rep.agg (w := w) (ok := okOf w0 blk) cs vals.toList (by simpa using hsz) hsc (fun j d v hd hv => by
        obtain ⟨u, hu, hr⟩ := hc j d hd
        have : u = v := by have h3 : vals.toList[j]? = some u := by simpa using hu
                           rw [h3] at hv; exact Option.some.inj hv
        subst this
        exact hr)
      simpa using this
section
variable {P : Program} {w0 : Cx} {ops : List Oper} {rest : List Oper} {R : Exit → St → Prop} {st : St} {ty : TypeId} {pos : String} {after : Array Edge}
end
theorem getS_all : ∀ {ss : List Site} {i : Nat}, ss.all Site.isVar = true → i < ss.length → (getS ss i).isVar = true
  | x :: _, 0, h, _ => by simp only [List.all_cons, Bool.and_eq_true] at h; exact h.1
  | _ :: xs, i + 1, h, hi => by simp only [List.all_cons, Bool.and_eq_true] at h; exact getS_all (ss := xs) h.2 (by simpa using hi)
  | [], _, _, hi => by cases hi
section
variable {P : Program} {w0 : Cx} {st : St}
theorem retx_many {a : Act} {w : World} {blk : Nat → Option Nat} {val : Nat → Value} (hh : Hold w0 st a w blk val) : ∀ {rs : List ResultVar} {ds : List D}, RetXs P st rs ds →
    ∃ vs : List Value, (rs.mapM (readVar a.tmps)).run P w = .ok vs w ∧ RepL w (okOf w0 blk) ds vs
  | _, _, .nil => ⟨[], rfl, trivial⟩
  | _, _, .cons h hs => by
    obtain ⟨v, h1, h2⟩ := retx_one hh h
    obtain ⟨vs, h3, h4⟩ := retx_many hh hs
    refine ⟨v :: vs, ?_, h2, h4⟩
    rw [List.mapM_cons]
    simp [h1, h3]
theorem runx_results {fn : Func} {a : Act} {w : World} {blk : Nat → Option Nat} {val : Nat → Value} {rs : List ResultVar} {ds : List D} (hh : Hold w0 st a w blk val) (hr : fn.results = rs.toArray) (h : RetXs P st rs ds) :
    ∃ v, (results fn a.tmps).run P w = .ok v w ∧ Rep w (okOf w0 blk) (retD ds) v := by
  obtain ⟨vs, h1, h2⟩ := retx_many hh h
  have hm : (fn.results.mapM (readVar a.tmps)).run P w = .ok vs.toArray w := by
    rw [hr, List.mapM_toArray]
    simp [h1]
  have hres : (results fn a.tmps).run P w = .ok (if h : vs.toArray.size = 1 then vs.toArray[0] else .tuple vs.toArray) w := by
    have : results fn a.tmps = (do let vs ← fn.results.mapM (readVar a.tmps); pure (if h : vs.size = 1 then vs[0] else .tuple vs)) := by
      unfold results readVar
      rfl
    rw [this]
    simp only [Sem.run_bind, hm, Result.andThen_ok, Sem.run_pure]
  refine ⟨_, hres, ?_⟩
  match ds, vs, h2 with
  | [], [], _ => simp [retD]; exact Rep.tup [] [] rfl (fun j d v h => by simp at h)
  | [d], [v], h2 => simpa [retD] using h2.1
  | d :: d' :: ds, v :: v' :: vs, h2 =>
    simp [retD]
    exact Rep.tup _ (v :: v' :: vs) (h2.length) fun j d v h1 h3 => h2.get j d v h1 h3

end
open Go Go.RowKit
structure RoundK (w0 w1 : Cx) (V : Prop) : Prop where
  ext : ∀ w', ExtM w1 w' → ExtM w0 w'
  our : ∀ b, Ours w1 b → Ours w0 b
  mine : V → ∀ b, w1.mine b → (∃ k, w1.pin k = some b) ∨ ∃ o, w1.fix b = some o
theorem allVar {l : List (Nat × Site)} (h : l.all (fun p => p.2.isVar) = true) (k : Nat) : siteOf l k = .no ∨ (siteOf l k).isVar = true := by
  unfold siteOf
  cases hl : lookN k l with
  | none => exact .inl rfl
  | some z => exact .inr (List.all_eq_true.1 h _ (lookN_mem hl))
def PIG (P : Program) (G : World → Prop) (f : FuncId) (pre post : List D) {α : Type} (enc : α → List D) (items : List α) (fin : Bool := true) : Prop :=
  ∀ (w : World) (ok : Nat → Prop) (v1 v2 : List Value), RepL w ok pre v1 → RepL w ok post v2 →
  ∀ (m l : Nat) (J : (Nat → Prop) → Bool × List α → World → Prop) (W : World) (Y0 : Nat → Prop),
    (∀ (Y : Nat → Prop) (s : Bool × List α) (A B : World), J Y s A → A.heap.size ≤ B.heap.size → SameIO A B → (∀ g, g < A.heap.size → ¬ Y g → B.heap[g]? = A.heap[g]?) → J (fun g => Y g ∨ (A.heap.size ≤ g ∧ g < B.heap.size)) s B) →
    (∀ (Y : Nat → Prop) (s : Bool × List α) (A : World), J Y s A → w.heap.size ≤ A.heap.size ∧ (∀ g, Y g → g < A.heap.size) ∧ ∀ g, g < w.heap.size → ok g → A.heap[g]? = w.heap[g]? ∧ ¬ Y g) →
    (∀ (Y : Nat → Prop) (s : List α) (x : α) (us : List Value) (A : World), J Y (true, s) A → (s ++ [x]) <+: items → RepL A (fun b => ok b ∨ Y b) (enc x) us → ∀ m', YieldAt Fence.wide m' P l us.toArray A fun e B =>
      ∃ b, e = .returned (.bool b) ∧ J Y (b, s ++ [x]) B ∧ A.heap.size ≤ B.heap.size ∧ SameIO A B ∧ ∀ g, Y g → B.heap[g]? = A.heap[g]?) →
    (∀ (Y : Nat → Prop) (s : Bool × List α) (A : World), J Y s A → G A) →
    (fin = false → ∀ (Y : Nat → Prop) (A : World), ¬ J Y (true, items) A) →
    J Y0 (true, []) W →
    CallsIn Fence.wide (m + 1) P f (v1 ++ Value.func (.yield l) #[] #[] :: v2).toArray W fun e B => (∃ v, e = .returned v) ∧ ∃ Y s, J Y s B ∧ (s.1 = true → s.2 = items)

section
variable {P : Program} {w0 : Cx} {st : St} {a : Act} {w A B : World} {blk : Nat → Option Nat} {val : Nat → Value} {Y : Nat → Prop}
theorem awp_rangeG {α β : Type} {g : Operand} {ps : Array Tmp} {assign body : Code} {R : Exit → St → Prop} {f : FuncId} {pre post : List D} {enc : α → List D} {items : List α} {fin : Bool} (N : Nat) (S : β → Nat → Site) (I : Nat → β → Prop) (X : Exit → β → Prop) (x0 : β)
    (hrnd : w0.rnd = none) (hg : (st.ev g = .d (.mfn (.func f) pre) ∧ post = []) ∨ (st.ev g = .d (.fn (.func f) post) ∧ pre = [])) (he : enB P f = true) {G : World → Prop} (hG : ∀ w, ExtM w0 w → G w) (hit : PIG P G f pre post enc items fin) (hN : Nat.ble st.n N = true) (hps : ∀ y, (enc y).length = ps.size) (hpn : ∀ p ∈ ps.toList, p < st.n) (hfl : ∀ y, ∀ z ∈ enc y, z.Flat)
    (hvar : ∀ x k, (S x k).isVar = (st.s k).isVar) (h0 : I 0 x0) (hs : Le w0 st (loopSt st (S x0))) (hfin : fin = false → ∀ x, ¬ I items.length x)
    (hround : ∀ w1 : Cx, (∀ k b, w1.pin k = some b → (Nat.ble N k && (st.s (k - N)).isVar) = true) → RoundK w0 w1 (∀ x k, S x k = .no ∨ (S x k).isVar = true) → ∀ k x y, I k x → items[k]? = some y → Awp P w1 assign (fun e s => e = .normal ∧ ∀ w2 : Cx, (∀ k b, w2.pin k = some b → (Nat.ble N k && (st.s (k - N)).isVar) = true) → RoundK w0 w2 (∀ x k, S x k = .no ∨ (S x k).isVar = true) → Awp P w2 body (fun e s' => (e = .normal ∧ ∃ x', I (k + 1) x' ∧ Le w2 s' (upSt N (deadSt st (S x')))) ∨ ((jumpOf e).isSome = true ∧ ∃ x', X e x' ∧ Le w2 s' (upSt N (deadSt st (S x'))))) s) (putL ps.toList (enc y) (upSt N (loopSt st (S x)))))
    (hdone : ∀ x, I items.length x → R .normal (loopSt st (S x))) (hstop : ∀ e x, X e x → R e (loopSt st (S x))) : Awp P w0 (.rangeFunc g ps assign body) R st := by
  intro F m hF a w hH
  rw [Nat.ble_eq] at hN
  have hFw : F = Fence.wide := by
    rcases hF.1 with e | ⟨l, e⟩
    · exact e
    · have := hF.2; rw [e, hrnd] at this; cases this
  subst hFw
  obtain ⟨blk0, val0, hh0⟩ := hs a w hH
  obtain ⟨v1, v2, hga, hv1', hv2'⟩ : ∃ v1 v2 : List Value, a.eval g = .func (.func f) v1.toArray v2.toArray ∧ RepL w (okOf w0 blk0) pre v1 ∧ RepL w (okOf w0 blk0) post v2 := by
    have evg : ∀ x, st.ev g = .d x → Rep w (okOf w0 blk0) x (a.eval g) := fun x hx => by
      have h1 := hh0.ev g
      have : (loopSt st (S x0)).ev g = .d x := by
        cases g with
        | tmp t => show loopT st.s (st.t t) = _; rw [show st.t t = _ from hx]; rfl
        | _ => exact hx
      rw [this] at h1; exact h1
    rcases hg with ⟨h1, rfl⟩ | ⟨h1, rfl⟩
    · obtain ⟨vs, h2, h3⟩ := mfn_inv (evg _ h1)
      exact ⟨vs, [], h2, h3, trivial⟩
    · obtain ⟨vs, h2, h3⟩ := fn_inv (evg _ h1)
      exact ⟨[], vs, h2, trivial, h3⟩
  have hlow : ∀ {ds : List D} {vs : List Value}, RepL w (okOf w0 blk0) ds vs → RepL w (fun b => okOf w0 blk0 b ∧ b < w.heap.size) ds vs := fun h => RepL.of h.length fun j d v h1 h2 => (h.get j d v h1 h2).ok fun b hb h => ⟨h, hb⟩
  have hv1 := hlow hv1'
  have hv2 := hlow hv2'
  refine wpIn_rangeFunc ?_
  intro fn hfn
  obtain ⟨rec, hrec⟩ : ∃ rec : LoopState → Option Code → Loop, rec = fun st pe => { state := st, pending := pe, fn, tmps := a.tmps, params := ps, assign, body, defers := w.heap.size } := ⟨_, rfl⟩
  obtain ⟨W1, hW1⟩ : ∃ W1, (w.alloc (.deferred (some []))).alloc (.loop (rec .ready none)) = W1 := ⟨_, rfl⟩
  have hL1 : W1.heap[w.heap.size + 1]? = some (.loop (rec .ready none)) := by
    rw [← hW1]; have := World.alloc_heap_new (w.alloc (.deferred (some []))) (.loop (rec .ready none)); rwa [World.size_alloc] at this
  have hK1 : W1.heap[w.heap.size]? = some (.deferred (some [])) := by
    rw [← hW1]; exact (Below.heap_alloc _ _ _ (by simp)).trans (World.alloc_heap_new w _)
  have hE1 : Ext w W1 := by rw [← hW1]; exact ((Ext.refl w).alloc _).alloc _
  have hs1 : W1.heap.size = w.heap.size + 2 := by rw [← hW1]; simp
  have hJ1 : Between w0 st a w (fun b => okOf w0 blk0 b ∧ b < w.heap.size) (w.heap.size + 1) w.heap.size (rec .ready none) (S x0) (fun _ => False) W1 :=
    ⟨⟨blk0, val0, HoldY.of (hh0.ext' hE1), fun g hg => ⟨hg.1, fun h => h⟩⟩, hL1, hK1, ⟨fun h => h, fun h => h⟩, by omega, fun g hg => hE1.block g hg.2⟩
  refine ⟨w.heap.size + 1, [{ target := .collected w.heap.size, args := #[] }], W1, { target := .fn (.func f) v2.toArray, args := v1.toArray ++ #[.func (.yield (w.heap.size + 1)) #[] #[]] }, W1, f,
    v1.toArray ++ #[.func (.yield (w.heap.size + 1)) #[] #[]] ++ v2.toArray, W1, ?_, ?_, fun _ _ => trivial, ?_, fun h => (by simp [Fence.wide] at h), ?_⟩
  · rw [← hW1, hrec]; exact run_enterLoop_outer _ _ _ _ _
  · simp only [resolve, hga]
    simp [go_sem]
  · simp [invoke, go_sem, run_callFunc he]
  · have hargs : v1.toArray ++ #[Value.func (.yield (w.heap.size + 1)) #[] #[]] ++ v2.toArray = (v1 ++ Value.func (.yield (w.heap.size + 1)) #[] #[] :: v2).toArray := by simp
    rw [hargs]
    refine callsIn_wide.2 (callsIn_wide.1 ((hit w (fun b => okOf w0 blk0 b ∧ b < w.heap.size) v1 v2 hv1 hv2 0 (w.heap.size + 1)
      (fun Y s A => match s with
        | (true, s) => ∃ x, I s.length x ∧ Between w0 st a w (fun b => okOf w0 blk0 b ∧ b < w.heap.size) (w.heap.size + 1) w.heap.size (rec .ready none) (S x) Y A
        | (false, _) => ∃ e c x, jumpOf e = some c ∧ X e x ∧ Between w0 st a w (fun b => okOf w0 blk0 b ∧ b < w.heap.size) (w.heap.size + 1) w.heap.size (rec .done (some c)) (S x) Y A) W1 (fun _ => False) ?_ ?_ ?_ ?_ ?_ ⟨x0, h0, hJ1⟩).mono ?_))
    · have step : ∀ (r : Loop) (x : β) (Y : Nat → Prop) (A B : World), Between w0 st a w (fun b => okOf w0 blk0 b ∧ b < w.heap.size) (w.heap.size + 1) w.heap.size r (S x) Y A → A.heap.size ≤ B.heap.size → SameIO A B → (∀ g, g < A.heap.size → ¬ Y g → B.heap[g]? = A.heap[g]?) →
          Between w0 st a w (fun b => okOf w0 blk0 b ∧ b < w.heap.size) (w.heap.size + 1) w.heap.size r (S x) (fun g => Y g ∨ (A.heap.size ≤ g ∧ g < B.heap.size)) B := by
        intro r x Y A B hb hAB hio hsame
        obtain ⟨blk, val, hh, hD⟩ := hb.hold
        have hlA := heap_lt hb.rcd
        have hkA := heap_lt hb.def_
        refine ⟨⟨blk, val, hh.step hAB hio hsame, fun g hg => ⟨(hD g hg).1, fun h => ?_⟩⟩, (hsame _ hlA hb.out.1).trans hb.rcd, (hsame _ hkA hb.out.2).trans hb.def_, ⟨fun h => ?_, fun h => ?_⟩, Nat.le_trans hb.size hAB, fun g hg => ?_⟩
        · rcases h with h | ⟨h, _⟩
          · exact (hD g hg).2 h
          · have := hb.size; have := hg.2; omega
        · rcases h with h | ⟨h, _⟩
          · exact hb.out.1 h
          · omega
        · rcases h with h | ⟨h, _⟩
          · exact hb.out.2 h
          · omega
        · rw [hsame g (by have := hb.size; have := hg.2; omega) (hD g hg).2]; exact hb.data g hg
      rintro Y ⟨go, s⟩ A B hJ hAB hio hsame
      cases go with
      | true => obtain ⟨x, hI, hb⟩ := hJ; exact ⟨x, hI, step _ x Y A B hb hAB hio hsame⟩
      | false => obtain ⟨e, c, x, hc, hX, hb⟩ := hJ; exact ⟨e, c, x, hc, hX, step _ x Y A B hb hAB hio hsame⟩
    · have info : ∀ (r : Loop) (x : β) (Y : Nat → Prop) (A : World), Between w0 st a w (fun b => okOf w0 blk0 b ∧ b < w.heap.size) (w.heap.size + 1) w.heap.size r (S x) Y A →
          w.heap.size ≤ A.heap.size ∧ (∀ g, Y g → g < A.heap.size) ∧ ∀ g, g < w.heap.size → (okOf w0 blk0 g ∧ g < w.heap.size) → A.heap[g]? = w.heap[g]? ∧ ¬ Y g := by
        intro r x Y A hb
        obtain ⟨blk, val, hh, hD⟩ := hb.hold
        exact ⟨by have := hb.size; omega, fun g hg => (hh.newY g hg).2, fun g _ hg => ⟨hb.data g hg, (hD g hg).2⟩⟩
      rintro Y ⟨go, s⟩ A hJ
      cases go with
      | true => obtain ⟨x, hI, hb⟩ := hJ; exact info _ x Y A hb
      | false => obtain ⟨e, c, x, hc, hX, hb⟩ := hJ; exact info _ x Y A hb
    · rintro Y s y us A ⟨x, hI, hb⟩ hpre hus m'
      obtain ⟨blk, val, hh, hD⟩ := hb.hold
      have hul : us.length = ps.size := by rw [RepL.length hus]; exact hps y
      have hy := run_yield (P := P) (args := us.toArray) hb.rcd (by rw [hrec]; simpa using hul)
      rw [hrec] at hy
      have hE : ∀ k b, upB N blk k = some b → blk (k - N) = some b := fun k b hk => by
        simp only [upB] at hk
        cases hb : Nat.ble N k with
        | false => rw [hb] at hk; cases hk
        | true => rw [hb] at hk; exact hk
      have hst : Holds (roundCx w0 Y N (w.heap.size + 1) (rec .ready none) (loopSt st (S x)) A blk) (Am.putL ps.toList (enc y) (upSt N (loopSt st (S x)))) { tmps := (ps.toList.zip us).foldl (fun t (x : Tmp × Value) => t.setIfInBounds x.1 x.2) a.tmps, defers := [] } A :=
        ⟨_, _, Hold.putL ps.toList (enc y) us _ _ (hh.round N (w.heap.size + 1) hN hb.rcd) (RepL.of (RepL.length hus) fun j d v h1 h2 => (RepL.get hus j d v h1 h2).flat (hfl y d (List.mem_of_getElem? h1))) hpn⟩
      have hit' : items[s.length]? = some y := by obtain ⟨t, ht⟩ := hpre; rw [← ht]; simp
      have hact : ({ tmps := (ps.zip us.toArray).foldl (fun tmps (x : Tmp × Value) => tmps.setIfInBounds x.1 x.2) a.tmps, defers := [] } : Act) = { tmps := (ps.toList.zip us).foldl (fun t (x : Tmp × Value) => t.setIfInBounds x.1 x.2) a.tmps, defers := [] } := by
        rw [← Array.foldl_toList, Array.toList_zip]
      have hpins : ∀ k b, (bif Nat.ble N k && ((loopSt st (S x)).s (k - N)).isVar then blk (k - N) else none) = some b → (Nat.ble N k && (st.s (k - N)).isVar) = true := fun k b hk => by
        have e : ((loopSt st (S x)).s (k - N)).isVar = (st.s (k - N)).isVar := hvar x (k - N)
        rw [e] at hk
        cases hb : Nat.ble N k && (st.s (k - N)).isVar with
        | true => rfl
        | false => rw [hb] at hk; cases hk
      have hxt : ∀ r' : Loop, RoundK w0 { roundCx w0 Y N (w.heap.size + 1) (rec .ready none) (loopSt st (S x)) A blk with fix := fixL (w.heap.size + 1) r' } (∀ x k, S x k = .no ∨ (S x k).isVar = true) := fun r' => by
        have e0 := hh.ext
        have esw : w0.w.heap.size ≤ w.heap.size := hh0.ext.size
        refine ⟨fun w' hW => ⟨by rw [hW.os]; exact e0.os, by rw [hW.tape]; exact e0.tape, by rw [hW.output]; exact e0.output, Nat.le_trans e0.size hW.size, fun k hk hm => ?_⟩, fun b hb => ?_, fun hV b hb => ?_⟩
        · rw [hW.block k (Nat.lt_of_lt_of_le hk e0.size) (fun q => ?_)]
          · exact e0.block k hk hm
          · rcases q with ⟨j, hj⟩ | e
            · rcases (hh.new j k hj).1 with q | q
              · omega
              · exact hm q
            · omega
        · rcases hb with q | ⟨j, hj⟩ | e
          · exact .inl (Nat.le_trans e0.size q)
          · exact (hh.new j b hj).1
          · exact .inl (by omega)
        · rcases hb with ⟨j, hj⟩ | e
          · left
            refine ⟨N + j, ?_⟩
            have e1 : Nat.ble N (N + j) = true := by rw [Nat.ble_eq]; omega
            show (bif Nat.ble N (N + j) && ((loopSt st (S x)).s (N + j - N)).isVar then blk (N + j - N) else none) = some b
            rw [e1, Nat.add_sub_cancel_left]
            have h1 := hh.site j
            rcases hV x j with q | q
            · rw [show (loopSt st (S x)).s j = .no from q, hj] at h1; cases h1
            · rw [show ((loopSt st (S x)).s j).isVar = true from q]; exact hj
          · right; subst e; exact ⟨_, by simp [fixL]; rfl⟩
      refine ⟨fn, _, assign, body, hy, roundIn_of_wpIn hfn (wpIn_mono (show assign.wpIn _ _ P _ ({ tmps := (ps.zip us.toArray).foldl (fun tmps (x : Tmp × Value) => tmps.setIfInBounds x.1 x.2) a.tmps, defers := [] } : Act) A from by rw [hact]; exact hround (roundCx w0 Y N (w.heap.size + 1) (rec .ready none) (loopSt st (S x)) A blk) hpins (hxt _) s.length x y hI hit' (Fence.wide.inRound (w.heap.size + 1)) _ ⟨.inr ⟨_, rfl⟩, rfl⟩ _ _ hst) ?_)⟩
      rintro e a₁ W₁ ⟨s1, ⟨rfl, hw2⟩, blk1, val1, h1⟩
      have hl1 := (h1.defers.fix (w.heap.size + 1) (.loop (rec .ready none)) (by simp [roundCx, fixL])).1
      have h1' := h1.refix (rec .busy none) rfl (.inr rfl)
      refine ⟨_, run_beginRound hl1 (by rw [hrec]), wpIn_mono (hw2 _ hpins (hxt _) (Fence.wide.inRound (w.heap.size + 1)) _ ⟨.inr ⟨_, rfl⟩, rfl⟩ _ _ ⟨_, _, by rw [hrec] at h1' ⊢; exact h1'⟩) ?_⟩
      -- the end of a round, with or without a jump
      have fin_ : ∀ (c1 : Cx), c1 = { roundCx w0 Y N (w.heap.size + 1) (rec .ready none) (loopSt st (S x)) A blk with fix := fixL (w.heap.size + 1) (rec .busy none) } → ∀ (a₂ : Act) (W₂ : World) (s2 : St) (x' : β) (jump : Option Code), Le c1 s2 (upSt N (deadSt st (S x'))) → Holds c1 s2 a₂ W₂ →
          (Instr.endRound (w.heap.size + 1) jump).run P W₂ = .ok (.bool jump.isNone) (W₂.putObj (w.heap.size + 1) (.loop (rec (if jump.isNone then .ready else .done) jump))) ∧
          ∃ B, W₂.putObj (w.heap.size + 1) (.loop (rec (if jump.isNone then .ready else .done) jump)) = B ∧
            Between w0 st a w (fun b => okOf w0 blk0 b ∧ b < w.heap.size) (w.heap.size + 1) w.heap.size (rec (if jump.isNone then .ready else .done) jump) (S x') Y B ∧ A.heap.size ≤ B.heap.size ∧ SameIO A B ∧ ∀ g, Y g → B.heap[g]? = A.heap[g]? := by
        intro c1 hc1 a₂ W₂ s2 x' jump hle hH2
        subst hc1
        obtain ⟨blk2, val2, h2⟩ := hle a₂ W₂ hH2
        have hl2 := (h2.defers.fix (w.heap.size + 1) (.loop (rec .busy none)) (by simp [fixL, hrec])).1
        have h3 := h2.refix (rec (if jump.isNone then .ready else .done) jump) rfl (.inr rfl)
        have hB : (W₂.putObj (w.heap.size + 1) (.loop (rec (if jump.isNone then .ready else .done) jump))).heap[w.heap.size + 1]? = some (.loop (rec (if jump.isNone then .ready else .done) jump)) := World.putObj_heap_same (heap_lt hl2)
        have hrun : (Instr.endRound (w.heap.size + 1) jump).run P W₂ = .ok (.bool jump.isNone) (W₂.putObj (w.heap.size + 1) (.loop (rec (if jump.isNone then .ready else .done) jump))) := by
          have := run_endRound (P := P) jump hl2
          rw [hrec] at this ⊢; exact this
        refine ⟨hrun, _, rfl, ?_⟩
        generalize hBe : W₂.putObj (w.heap.size + 1) (.loop (rec (if jump.isNone then .ready else .done) jump)) = B at h3 hB
        have hsz : A.heap.size ≤ B.heap.size := h3.ext.size
        have hio : SameIO A B := ⟨h3.ext.os, h3.ext.tape, h3.ext.output⟩
        have hfr : ∀ g, g < A.heap.size → (∀ k, blk k ≠ some g) → g ≠ w.heap.size + 1 → B.heap[g]? = A.heap[g]? := fun g hg hnb hgl => h3.ext.block g hg (fun hm => by
          rcases hm with ⟨k, hk⟩ | hk
          · exact hnb k hk
          · exact hgl hk)
        have hnew : ∀ k b, blk2 (N + k) = some b → (∃ j, blk j = some b) ∨ A.heap.size ≤ b := fun k b hb2 => by
          rcases (h3.new _ b hb2).1 with q | q | q
          · exact .inr q
          · exact .inl q
          · exact absurd (by rw [← q]; exact hb2) ((HoldY.of h3).siteNc hB rfl (N + k))
        have hsw : w0.w.heap.size ≤ w.heap.size := hh0.ext.size
        have hback := hh.back (N := N) (l := w.heap.size + 1) (r := rec .ready none) (S := S x') (B := B) h3 hsz hio hfr hb.rcd (by omega) (fun o ho => by have := heap_lt (hh0.defers.fix _ o ho).1; omega)
          (fun k b hv hbk => by
            have e : Nat.ble N (N + k) = true := by rw [Nat.ble_eq]; omega
            show (bif Nat.ble N (N + k) && ((loopSt st (S x)).s (N + k - N)).isVar then blk (N + k - N) else none) = some b
            rw [e, Nat.add_sub_cancel_left, hv]; exact hbk)
          hnew (fun b _ hok => hok.1) (fun k => (hvar x' k).trans (hvar x k).symm)
        rw [loopSt_loopSt (hvar x)] at hback
        have hlA := heap_lt hb.rcd
        refine ⟨⟨⟨_, _, hback, fun g hg => ⟨⟨(hD g hg).1.1, fun k hk => ?_⟩, (hD g hg).2⟩⟩, hB, ?_, hb.out, Nat.le_trans hb.size hsz, fun g hg => ?_⟩, hsz, hio, fun g hg => ?_⟩
        · rcases hnew k g hk with ⟨j, hj⟩ | q
          · exact (hD g hg).1.2 j hj
          · have := hb.size; have := hg.2; omega
        · rw [hfr _ (heap_lt hb.def_) (hh.siteNc hb.def_ rfl) (by omega)]; exact hb.def_
        · rw [hfr g (by have := hb.size; have := hg.2; omega) (hD g hg).1.2 (by have := hg.2; omega)]; exact hb.data g hg
        · exact hfr g (hh.newY g hg).2 (fun k hk => (hh.new k g hk).2.2 hg) (fun e => hb.out.1 (by rw [← e]; exact hg))
      rintro e a₂ W₂ ⟨s2, hend, hH2⟩
      rcases hend with ⟨rfl, x', hI', hle⟩ | ⟨hj, x', hX, hle⟩
      · obtain ⟨hrun, B, hB, h1, h2, h3, h4⟩ := fin_ _ (by rw [hrec]) a₂ W₂ s2 x' none hle hH2
        exact ⟨_, _, hrun, true, rfl, by rw [hB]; exact ⟨x', by rw [List.length_append]; exact hI', h1⟩, by rw [hB]; exact h2, by rw [hB]; exact h3, by rw [hB]; exact h4⟩
      · cases e with
        | ret =>
          obtain ⟨hrun, B, hB, h1, h2, h3, h4⟩ := fin_ _ (by rw [hrec]) a₂ W₂ s2 x' (some .ret) hle hH2
          exact ⟨_, _, hrun, false, rfl, by rw [hB]; exact ⟨.ret, .ret, x', rfl, hX, h1⟩, by rw [hB]; exact h2, by rw [hB]; exact h3, by rw [hB]; exact h4⟩
        | exit id =>
          obtain ⟨hrun, B, hB, h1, h2, h3, h4⟩ := fin_ _ (by rw [hrec]) a₂ W₂ s2 x' (some (.exit id)) hle hH2
          exact ⟨_, _, hrun, false, rfl, by rw [hB]; exact ⟨.exit id, .exit id, x', rfl, hX, h1⟩, by rw [hB]; exact h2, by rw [hB]; exact h3, by rw [hB]; exact h4⟩
        | _ => cases hj
    · rintro Y ⟨go, s⟩ A hJ
      cases go with
      | true => obtain ⟨x, hI, hb⟩ := hJ; obtain ⟨blk, val, hh, hD⟩ := hb.hold; exact hG A hh.ext
      | false => obtain ⟨e, c, x, hc, hX, hb⟩ := hJ; obtain ⟨blk, val, hh, hD⟩ := hb.hold; exact hG A hh.ext
    · rintro hf Y A ⟨x, hI, _⟩
      exact hfin hf x hI
    · have behind : ∀ (W2 : World) (r : Loop) (x : β) (Y : Nat → Prop) (st' : LoopState), Between w0 st a w (fun b => okOf w0 blk0 b ∧ b < w.heap.size) (w.heap.size + 1) w.heap.size r (S x) Y W2 →
          Holds w0 (loopSt st (S x)) { a with defers := { target := .collected w.heap.size, args := #[] } :: a.defers } (W2.putObj (w.heap.size + 1) (.loop { r with state := st' })) := by
        intro W2 r x Y st' hb
        obtain ⟨blk, val, hh, hD⟩ := hb.hold
        refine ⟨blk, val, ?_⟩
        have hlA := heap_lt hb.rcd
        have hck : CK W2 (W2.putObj (w.heap.size + 1) (.loop { r with state := st' })) := ⟨by rw [World.putObj_size]; exact Nat.le_refl _, fun b vals e z hc => by
          rw [World.putObj_heap_other (fun e' => by rw [e', hb.rcd] at hc; cases hc)]; exact hc, fun b es z hc => by
          rw [World.putObj_heap_other (fun e' => by rw [e', hb.rcd] at hc; cases hc)]; exact hc⟩
        have hm := hh.hold
        obtain ⟨⟨ms0, n1, n2, n3⟩, _⟩ := hh0.defers
        obtain ⟨⟨ms, m1, m2, m3⟩, mf⟩ := hm.defers
        have hlt : ∀ b ∈ ms, b < w.heap.size := fun b hb' => by
          have : ({ target := .collected b, args := #[] } : Deferred) ∈ a.defers := by rw [m1]; exact List.mem_map.2 ⟨b, hb', rfl⟩
          rw [n1] at this
          obtain ⟨b', hb2, e⟩ := List.mem_map.1 this
          cases e
          exact heap_lt (n3 b hb2).2
        refine ⟨⟨hm.ext.os, hm.ext.tape, hm.ext.output, by rw [World.putObj_size]; exact hm.ext.size, fun k hk hmk => ?_⟩, ⟨⟨w.heap.size :: ms, ?_, List.nodup_cons.2 ⟨fun h => by have := hlt _ h; omega, m2⟩, fun b hb' => ?_⟩, fun b o hf => ?_⟩, hm.size, fun s b hsb => ⟨(hm.new s b hsb).1, by rw [World.putObj_size]; exact (hm.new s b hsb).2⟩, hm.inj, hm.pin, fun s => (hm.site s).keepC hck, fun t => (hm.tmp t).keepC hck⟩
        · rw [World.putObj_heap_other (by have := hh0.ext.size; omega)]; exact hm.ext.block k hk hmk
        · show _ :: a.defers = _
          rw [m1]; rfl
        · rcases List.mem_cons.1 hb' with rfl | hb'
          · exact ⟨.inl hh0.ext.size, by rw [World.putObj_heap_other (by omega)]; exact hb.def_⟩
          · exact ⟨(m3 b hb').1, by rw [World.putObj_heap_other (by have := hlt b hb'; omega)]; exact (m3 b hb').2⟩
        · refine ⟨?_, (mf b o hf).2⟩
          rw [World.putObj_heap_other (by have := heap_lt (hh0.defers.fix b o hf).1; omega)]; exact (mf b o hf).1
      rintro e W2 ⟨⟨v, rfl⟩, Y, ⟨go, s⟩, hJ, hgo⟩
      cases go with
      | true =>
        obtain ⟨x, hI, hb⟩ := hJ
        have hsi : s = items := hgo rfl
        subst hsi
        refine ⟨none, _, by have := run_endLoop (P := P) hb.rcd (by rw [hrec]; simp); rw [hrec] at this; exact this, ?_⟩
        exact ⟨_, hdone x hI, by have := behind W2 _ x Y .exhausted hb; rw [hrec] at this; exact this⟩
      | false =>
        obtain ⟨e, c, x, hc, hX, hb⟩ := hJ
        refine ⟨some c, _, by have := run_endLoop (P := P) hb.rcd (by rw [hrec]; simp); rw [hrec] at this; exact this, ?_⟩
        have hq : Post w0 R e _ _ := ⟨_, hstop e x hX, by have := behind W2 _ x Y .exhausted hb; rw [hrec] at this; exact this⟩
        cases e with
        | ret => cases hc; exact wpIn_ret hq
        | exit id => cases hc; exact wpIn_exit hq
        | _ => cases hc
theorem awp_rangeCG {α β : Type} {g : Operand} {ps : Array Tmp} {assign body : Code} {R : Exit → St → Prop} {f : FuncId} {pre post : List D} {enc : α → List D} {items : List α} {fin : Bool} {n : Nat} (N : Nat) (sl : List (Nat × T)) (ss : β → List (Nat × Site)) (I : Nat → β → Prop) (X : Exit → β → Prop) (x0 : β)
    (hrnd : w0.rnd = none) (hle : Le w0 st (cSt n sl (ss x0))) (hg : ((cSt n sl (ss x0)).ev g = .d (.mfn (.func f) pre) ∧ post = []) ∨ ((cSt n sl (ss x0)).ev g = .d (.fn (.func f) post) ∧ pre = [])) (he : enB P f = true) {G : World → Prop} (hG : ∀ w, ExtM w0 w → G w) (hit : PIG P G f pre post enc items fin) (hN : Nat.ble n N = true) (hps : ∀ y, (enc y).length = ps.size) (hpn : ps.toList.all (fun p => Nat.blt p n) = true) (hfl : ∀ y, FlatAll (enc y))
    (hvar : ∀ x, (ss x).map kvS = (ss x0).map kvS) (h0 : I 0 x0) (hfin : fin = false → ∀ x, ¬ I items.length x)
    (hround : ∀ w1 : Cx, (∀ k b, w1.pin k = some b → (Nat.ble N k && ((cSt n sl (ss x0)).s (k - N)).isVar) = true) → RoundK w0 w1 (∀ x k, siteOf (ss x) k = .no ∨ (siteOf (ss x) k).isVar = true) → ∀ k x y, I k x → items[k]? = some y → Awp P w1 assign (fun e s => e = .normal ∧ ∀ w2 : Cx, (∀ k b, w2.pin k = some b → (Nat.ble N k && ((cSt n sl (ss x0)).s (k - N)).isVar) = true) → RoundK w0 w2 (∀ x k, siteOf (ss x) k = .no ∨ (siteOf (ss x) k).isVar = true) →
      Awp P w2 body (fun e s' => (e = .normal ∧ ∃ x', I (k + 1) x' ∧ Le w2 s' (upSt N (deadSt (cSt n sl (ss x0)) (siteOf (ss x'))))) ∨ ((jumpOf e).isSome = true ∧ ∃ x', X e x' ∧ Le w2 s' (upSt N (deadSt (cSt n sl (ss x0)) (siteOf (ss x')))))) s) (putL ps.toList (enc y) (upSt N (loopSt (cSt n sl (ss x0)) (siteOf (ss x))))))
    (hdone : ∀ x, I items.length x → R .normal (loopSt (cSt n sl (ss x0)) (siteOf (ss x)))) (hstop : ∀ e x, X e x → R e (loopSt (cSt n sl (ss x0)) (siteOf (ss x)))) : Awp P w0 (.rangeFunc g ps assign body) R st := by
  refine Awp.le hle (awp_rangeG N (fun x => siteOf (ss x)) I X x0 hrnd hg he hG hit hN hps (fun p hp => ?_) (fun y => (hfl y).mem) (fun x k => siteOf_var (hvar x) k) h0 (fun a w h => h.weak ⟨rfl, rfl, fun t => ?_⟩) hfin hround hdone hstop)
  · have := List.all_eq_true.1 hpn p hp
    rw [Nat.blt_eq] at this; exact this
  · simp only [loopSt]
    cases hx : (cSt n sl (ss x0)).t t with
    | ref k o =>
      simp only [loopT]
      cases ((cSt n sl (ss x0)).s k).isVar
      · exact .inr rfl
      · exact .inl rfl
    | rs k => exact .inr rfl
    | own k r f g => exact .inr rfl
    | _ => exact .inl rfl
end
section
variable {P : Program} {α σ : Type} {J : (Nat → Prop) → σ → World → Prop} {c : Cx} {st : St} {a : Act} {w A B : World} {blk : Nat → Option Nat} {val : Nat → Value} {Y : Nat → Prop} {s : σ}
theorem iwp_liftG {G : World → Prop} {code : Code} {R : Exit → St → Prop} {R' : Exit → St → σ → Prop} (hJ : JStep J) (hJG : ∀ (Y : Nat → Prop) (s : σ) (A : World), J Y s A → G A) (h : ∀ c', (∀ b, c'.mine b → c'.ok b) → c'.rnd = none → (∀ w, ExtM c' w → G w) → Awp P c' code R st) (hR : ∀ e st', R e st' → R' e st' s) : Iwp P J c code R' st s := by
  intro m Y a w blk val hh hj
  have mineY0 : ∀ b, (innerCx c Y a w blk).mine b → Y b := fun b hb => by
    rcases hb with ⟨k, hk⟩ | ⟨d, hd, hdb⟩
    · exact hh.new k b hk
    · obtain ⟨ms, m1, m2, m3⟩ := hh.marks
      rw [m1] at hd
      obtain ⟨b', hb', rfl⟩ := List.mem_map.1 hd
      cases hdb
      exact (m3 b hb').1
  have hgg : ∀ w', ExtM (innerCx c Y a w blk) w' → G w' := fun w' hE => hJG _ s w' (hJ Y s w w' hj hE.size ⟨hE.os, hE.tape, hE.output⟩ fun g hg hY => hE.block g hg fun hm => hY (mineY0 g hm))
  refine wpIn_mono (h (innerCx c Y a w blk) hh.mineOk rfl hgg Fence.wide m ⟨.inl rfl, rfl⟩ a w ⟨blk, val, hh.inner⟩) ?_
  rintro e a' w' ⟨st', hr, blk', val', hk⟩
  have mineY : ∀ b, (innerCx c Y a w blk).mine b → Y b := fun b hb => by
    rcases hb with ⟨k, hk⟩ | ⟨d, hd, hdb⟩
    · exact hh.new k b hk
    · obtain ⟨ms, m1, m2, m3⟩ := hh.marks
      rw [m1] at hd
      obtain ⟨b', hb', rfl⟩ := List.mem_map.1 hd
      cases hdb
      exact (m3 b hb').1
  have hs : w.heap.size ≤ w'.heap.size := hk.ext.size
  have hsame : ∀ g, g < w.heap.size → ¬ Y g → w'.heap[g]? = w.heap[g]? := fun g hg hY => hk.ext.block g hg fun hm => hY (mineY g hm)
  have hours : ∀ b, b < w'.heap.size → Ours (innerCx c Y a w blk) b → Y b ∨ (w.heap.size ≤ b ∧ b < w'.heap.size) := fun b hb ho => by
    rcases ho with q | q
    · exact .inr ⟨q, hb⟩
    · exact .inl (mineY b q)
  have hok : ∀ b, b < w'.heap.size → okOf (innerCx c Y a w blk) blk' b → (c.ok b ∨ (Y b ∨ (w.heap.size ≤ b ∧ b < w'.heap.size))) ∧ ∀ s, blk' s ≠ some b := fun b hb ho => ⟨by
    rcases ho.1 with (q | q) | q
    · exact .inl q
    · exact .inr (.inl q)
    · exact .inr (.inr ⟨q, hb⟩), ho.2⟩
  refine ⟨st', s, fun g => Y g ∨ (w.heap.size ≤ g ∧ g < w'.heap.size), blk', val', hR e st' hr, ⟨Nat.le_trans hh.size0 hs, fun g hg => ?_, ?_, fun g hg => ?_, hk.size, fun k b hb => hours b (hk.new k b hb).2 (hk.new k b hb).1, hk.inj, fun k => ?_, fun t => ?_⟩, hJ Y s w w' hj hs ⟨hk.ext.os, hk.ext.tape, hk.ext.output⟩ hsame⟩
  · obtain ⟨d1, d2, d3⟩ := hh.data g hg
    refine ⟨d1, fun hY => ?_, ?_⟩
    · rcases hY with q | ⟨q, _⟩
      · exact d2 q
      · have := hh.size0; omega
    · rw [hsame g (Nat.lt_of_lt_of_le d1 hh.size0) d2]; exact d3
  · obtain ⟨ms, m1, m2, m3⟩ := hk.defers.marks
    exact ⟨ms, m1, m2, fun b hb => ⟨hours b (heap_lt (m3 b hb).2) (m3 b hb).1, (m3 b hb).2⟩⟩
  · rcases hg with hg | hg
    · exact Nat.lt_of_lt_of_le (hh.newY g hg) hs
    · exact hg.2
  · exact (hk.site k).keepOk (Nat.le_refl _) (fun _ _ _ h => h) (fun _ _ => rfl) hok
  · exact (hk.tmp t).keepOk (Nat.le_refl _) (fun _ _ _ h => h) hok
theorem iwp_regG {G : World → Prop} {code : Code} {R : Exit → St → σ → Prop} {S : St} (hJ : JStep J) (hJG : ∀ (Y : Nat → Prop) (s : σ) (A : World), J Y s A → G A) (h : ∀ c', (∀ b, c'.mine b → c'.ok b) → c'.rnd = none → (∀ w, ExtM c' w → G w) → Awp P c' code (fun e st' => e = .normal ∧ st' = S) st) (k : R .normal S s) : Iwp P J c code R st s :=
  iwp_liftG hJ hJG h fun e st' ⟨h1, h2⟩ => by subst h1; subst h2; exact k
theorem pig_of_iwp {G : World → Prop} {f : FuncId} {fn : Func} {code : Code} {n : Nat} {pre post : List D} {enc : α → List D} {items : List α} {fin : Bool} (hf : P.funcs[f]? = some fn) (hb : fn.body = some code) (hn : fn.ntmps = n) (hrs : fn.results = #[]) (hl : Nat.ble (pre.length + 1 + post.length) n = true)
    (h : ∀ (J : (Nat → Prop) → Bool × List α → World → Prop) (c : Cx) (l : Nat), JStep J → (∀ (Y : Nat → Prop) (s : Bool × List α) (A : World), J Y s A → G A) → JYield P J l c.ok enc items → (∀ (Y : Nat → Prop) (t : Bool × List α) (B : World), J Y t B → (∀ g, Y g → g < B.heap.size) ∧ ∀ g, c.ok g → B.heap[g]? = c.w.heap[g]?) → (fin = false → ∀ (Y : Nat → Prop) (A : World), ¬ J Y (true, items) A) →
      Iwp P J c code (fun e _ s => (e = .ret ∨ e = .normal) ∧ (s.1 = true → s.2 = items)) (startSt n (pre ++ D.fn (.yield l) [] :: post)) (true, [])) : PIG P G f pre post enc items fin := by
  rw [Nat.ble_eq] at hl
  intro w ok v1 v2 hv1 hv2 m l J W Y0 hJ hinfo hyield hJG hfin h0
  obtain ⟨s0, y0, d0⟩ := hinfo _ _ _ h0
  refine callsIn_of_wp_marks hf hb trivial ?_ rfl
  have hlow : ∀ {ds : List D} {vs : List Value}, RepL w ok ds vs → RepL W (fun b => (ok b ∧ b < w.heap.size) ∨ Y0 b) ds vs := fun h => RepL.of h.length fun j d v h1 h2 => ((h.get j d v h1 h2).ok (ok' := fun b => ok b ∧ b < w.heap.size) fun b hb h => ⟨h, hb⟩).keep s0 (fun b o hb ho => by rw [(d0 b hb.2 hb.1).1]; exact ho) fun b hb h => .inl h
  have hargs : RepL W (fun b => (ok b ∧ b < w.heap.size) ∨ Y0 b) (pre ++ D.fn (.yield l) [] :: post) (v1 ++ Value.func (.yield l) #[] #[] :: v2) :=
    (hlow hv1).append ⟨Rep.fn (.yield l) [] [] rfl (fun j d v h => by simp at h), hlow hv2⟩
  generalize hvs : v1 ++ Value.func (.yield l) #[] #[] :: v2 = vs at hargs ⊢
  obtain ⟨c, hc⟩ : ∃ c : Cx, c = ⟨w, fun b => ok b ∧ b < w.heap.size, fun _ => False, fun _ => none, fun _ => none, none⟩ := ⟨_, rfl⟩
  have hcw : c.w = w := by rw [hc]
  have hcok : ∀ b, c.ok b ↔ (ok b ∧ b < w.heap.size) := fun b => by rw [hc]
  have hst : HoldI c Y0 (startSt n (pre ++ D.fn (.yield l) [] :: post)) { tmps := vs.toArray ++ Array.replicate (fn.ntmps - vs.toArray.size) undef, defers := [] } W (fun _ => none) (fun _ => undef) := by
    refine ⟨by rw [hcw]; exact s0, fun g hg => ?_, ⟨[], rfl, .nil, fun b hb => by cases hb⟩, y0, ?_, fun s b h => (by cases h), fun s s' b h => (by cases h), fun s => rfl, fun t => ?_⟩
    · obtain ⟨h1, h2⟩ := (hcok g).1 hg
      rw [hcw]
      exact ⟨h2, (d0 g h2 h1).2, (d0 g h2 h1).1⟩
    · have := hargs.length
      simp at this
      simp [startSt, hn]; omega
    · have := argT_rep (blk := fun _ => none) (val := fun _ => undef) (s := fun _ => Site.no) (fn.ntmps - vs.toArray.size) (RepL.of (ok := fun b => (c.ok b ∨ Y0 b) ∧ ∀ s : Nat, (none : Option Nat) ≠ some b) hargs.length fun j d v h1 h2 => (hargs.get j d v h1 h2).ok fun b _ hb => ⟨hb.imp (hcok b).2 id, fun s h => by cases h⟩) t
      have e : (vs.toArray ++ Array.replicate (fn.ntmps - vs.toArray.size) undef) = (vs ++ List.replicate (fn.ntmps - vs.toArray.size) undef).toArray := by simp
      show RepT _ _ _ _ _ _ ((vs.toArray ++ Array.replicate (fn.ntmps - vs.toArray.size) undef).getD t undef)
      rw [e, Array.getD_eq_getD_getElem?, List.getElem?_toArray, ← List.getD_eq_getElem?_getD]
      exact this
  refine wpIn_mono (h J c l hJ hJG (fun Y s x us A hj hp hr m' => hyield Y s x us A hj hp (RepL.of hr.length fun j d v h1 h2 => (hr.get j d v h1 h2).ok fun b _ hb => hb.imp (fun q => ((hcok b).1 q).1) id) m')
    (fun Y t B hj => by
      obtain ⟨_, q2, q3⟩ := hinfo Y t B hj
      refine ⟨q2, fun g hg => ?_⟩
      obtain ⟨h1, h2⟩ := (hcok g).1 hg
      rw [hcw]
      exact (q3 g h2 h1).1) hfin (m + 1) Y0 _ W _ _ hst h0) fun e a w' ⟨st', s', Y', blk', val', hR, hH, hj⟩ => ?_
  have fin_ : LeavesInM Fence.wide (m + 1) P fn a.tmps (fun e B => (∃ v, e = .returned v) ∧ ∃ Y s, J Y s B ∧ (s.1 = true → s.2 = items)) a.defers .returning w' := by
    obtain ⟨ms, m1, m2, m3⟩ := hH.marks
    rw [m1]
    obtain ⟨k1, k2, k3, k4, k5, k6⟩ := shut_ck ms w' m2 fun b hb => (m3 b hb).2
    refine shut_leaves ms w' m2 (fun b hb => (m3 b hb).2) ⟨.tuple #[], ?_, ⟨_, rfl⟩, _, s', hJ Y' s' w' (shut ms w') hj (by rw [k2]; exact Nat.le_refl _) ⟨k3, k4, k5⟩ (fun g _ hg => k6 g fun hm => hg (m3 g hm).1), hR.2⟩
    simp [results, hrs]
  cases e with
  | normal => exact fin_
  | ret => exact fin_
  | exit id => rcases hR.1 with q | q <;> cases q
  | goto l => rcases hR.1 with q | q <;> cases q
  | panic c => rcases hR.1 with q | q <;> cases q
  | outgrown => rcases hR.1 with q | q <;> cases q
end
open Go Go.RowKit
section
variable {P : Program} {w0 : Cx} {st : St}
theorem pin_has {n : Nat} {ss : List Site} {l : List (Nat × Site)} (h : (List.range ss.length).all (fun i => hasK (n + i) l) = true) {k : Nat} (hk : (Nat.ble n k && (getS ss (k - n)).isVar) = true) : hasK k l = true := by
  rw [Bool.and_eq_true] at hk
  have h1 := Nat.le_of_ble_eq_true hk.1
  have h2 : k - n < ss.length := by
    rcases Nat.lt_or_ge (k - n) ss.length with q | q
    · exact q
    · rw [getS_none q] at hk; cases hk.2
  have := List.all_eq_true.1 h (k - n) (List.mem_range.2 h2)
  rwa [show n + (k - n) = k by omega] at this
theorem pcsg_of_awpY {NG : Nat} {G : World → Prop} (hgk : GLow NG G) {f : FuncId} {fn : Func} {c : Code} {n : Nat} {args : List T} {ss ss' : List Site} {r : D} {rs : List ResultVar} (hf : P.funcs[f]? = some fn) (hb : fn.body = some c) (hn : fn.ntmps = n) (hrs : fn.results = rs.toArray) (hl : args.length ≤ n) (hvar : ss.all Site.isVar = true)
    (h : ∀ w0 : Cx, w0.rnd = none → (∀ w, ExtM w0 w → G w) → (∀ b, Ours w0 b → NG ≤ b) → (∀ b, w0.mine b → ∃ k, w0.pin k = some b) → (∀ k b, w0.pin k = some b → (Nat.ble n k && (getS ss (k - n)).isVar) = true) → Awp P w0 c (endX P n rs ss.length r ss') (startS n args ss)) : PCSG P NG G f args ss (.d r) ss' := by
  intro w ok blk val vs hGw hNGw hblk hinj hnone hsite hL
  refine (callsIn_wide (n := 1)).1 (callsIn_of_wp_marks hf hb trivial ?_ rfl)
  let cx : Cx := ⟨w, ok, fun b => ∃ i, blk i = some b, fun k => bif Nat.ble n k && (getS ss (k - n)).isVar then blk (k - n) else none, fun _ => none, none⟩
  let blkE : Nat → Option Nat := fun k => bif Nat.ble n k then blk (k - n) else none
  let valE : Nat → Value := fun k => val (k - n)
  have hge : ∀ k, Nat.ble n (n + k) = true := fun k => by rw [Nat.ble_eq]; omega
  have hE : ∀ k b, blkE k = some b → n ≤ k ∧ blk (k - n) = some b := fun k b hk => by
    simp only [blkE] at hk
    cases hb : Nat.ble n k with
    | false => rw [hb] at hk; cases hk
    | true => rw [hb] at hk; exact ⟨Nat.le_of_ble_eq_true hb, hk⟩
  have hokE : ∀ b, b < w.heap.size → ok b → okOf cx blkE b := fun b hb h => ⟨.inl h, fun k hk => (hblk _ _ (hE k b hk).2).2 h⟩
  have hkE : ∀ k, blkE (n + k) = blk k ∧ valE (n + k) = val k ∧ inS n ss (n + k) = shiftS (n + ·) (getS ss k) := fun k => by
    simp only [blkE, valE, inS, hge k, cond_true, Nat.add_sub_cancel_left]
    exact ⟨trivial, trivial, trivial⟩
  have h0 : Hold cx (startS n args ss) { tmps := vs.toArray ++ Array.replicate (fn.ntmps - vs.toArray.size) undef, defers := [] } w blkE valE := by
    refine ⟨⟨rfl, rfl, rfl, Nat.le_refl _, fun _ _ _ => rfl⟩, Kept.nil rfl rfl, ?_, fun k b hk => ⟨.inr ⟨_, (hE k b hk).2⟩, (hblk _ _ (hE k b hk).2).1⟩, fun k k' b hk hk' => ?_, fun k b hk => ?_, fun k => ?_, fun t => ?_⟩
    · have := hL.length
      simp [startS, hn]; omega
    · have e := hinj _ _ _ (hE k b hk).2 (hE k' b hk').2
      have := (hE k b hk).1
      have := (hE k' b hk').1
      omega
    · simp only [cx] at hk
      cases hb : Nat.ble n k && (getS ss (k - n)).isVar with
      | false => rw [hb] at hk; cases hk
      | true =>
        rw [hb] at hk
        rw [Bool.and_eq_true] at hb
        refine ⟨by simp only [blkE, hb.1, cond_true]; exact hk, ?_, Nat.le_of_ble_eq_true hb.1⟩
        show (inS n ss k).isVar = true
        simp only [inS, hb.1, cond_true]
        have h2 := hb.2
        cases hs : getS ss (k - n) <;> rw [hs] at h2 <;> first | rfl | cases h2
    · show SiteIn _ _ _ _ (inS n ss) _ _ (inS n ss k)
      cases hb : Nat.ble n k with
      | false => simp only [blkE, inS, hb, cond_false]; rfl
      | true =>
        obtain ⟨i, rfl⟩ : ∃ i, k = n + i := ⟨k - n, by have := Nat.le_of_ble_eq_true hb; omega⟩
        obtain ⟨e1, e2, e3⟩ := hkE i
        rw [e1, e2, e3]
        exact (hsite i).shift hokE fun _ _ _ _ j _ => hkE j
    · have := argTT_rep (blk' := blkE) (val' := valE) (s' := inS n ss) (f := (n + ·)) (fn.ntmps - vs.toArray.size) hokE hkE hL t
      have e : (vs.toArray ++ Array.replicate (fn.ntmps - vs.toArray.size) undef) = (vs ++ List.replicate (fn.ntmps - vs.toArray.size) undef).toArray := by simp
      show RepT _ _ _ _ _ _ ((vs.toArray ++ Array.replicate (fn.ntmps - vs.toArray.size) undef).getD t undef)
      rw [e, Array.getD_eq_getD_getElem?, List.getElem?_toArray, ← List.getD_eq_getElem?_getD]
      exact this
  have fin : ∀ (a : Act) (w' : World) (st' : St), (∃ (ds : List D) (ns : List Nat), RetXs P st' rs ds ∧ r = retD ds ∧ SitesAt st' ns ss' ∧ ns.length = ss'.length ∧ nodupN ns = true ∧ firstN n 0 ss.length ns = true ∧ ss'.all (belowS ss'.length) = true) → Holds cx st' a w' →
      ∃ v, (results fn a.tmps).run P w' = .ok v w' ∧ ∃ v' blk' val', Ending.returned v = .returned v' ∧ (∀ i, (getS ss i).isVar = true → blk' i = blk i) ∧ (∀ i b, blk' i = some b → (∃ j, blk j = some b) ∨ w.heap.size ≤ b) ∧ (∀ i b, blk' i = some b → b < w'.heap.size) ∧
      (∀ i j b, blk' i = some b → blk' j = some b → i = j) ∧ ExtM ⟨w, ok, fun b => ∃ i, blk i = some b, fun _ => none, fun _ => none, none⟩ w' ∧
      (∀ i, SiteIn w' (fun b => (ok b ∨ w.heap.size ≤ b) ∧ ∀ i, blk' i ≠ some b) blk' val' (getS ss') (blk' i) (val' i) (getS ss' i)) ∧
      RepT w' (fun b => (ok b ∨ w.heap.size ≤ b) ∧ ∀ i, blk' i ≠ some b) blk' val' (getS ss') (.d r) v' := by
    intro a w' st' ⟨ds, ns, hret, hrd, hsat, hlen, hnd, hfst, hbs⟩ ⟨blkF, valF, hh⟩
    let blk' : Nat → Option Nat := fun i => if i < ss'.length then blkF (nth ns i) else none
    let val' : Nat → Value := fun i => valF (nth ns i)
    have hb' : ∀ i b, blk' i = some b → i < ss'.length ∧ blkF (nth ns i) = some b := fun i b h => by
      simp only [blk'] at h
      split at h
      · exact ⟨by assumption, h⟩
      · cases h
    have hok' : ∀ b, b < w'.heap.size → okOf cx blkF b → (ok b ∨ w.heap.size ≤ b) ∧ ∀ i, blk' i ≠ some b := fun b _ h => ⟨h.1, fun i hi => h.2 _ (hb' i b hi).2⟩
    have hrel : ∀ k, k < ss'.length → blk' k = blkF (nth ns k) ∧ val' k = valF (nth ns k) ∧ st'.s (nth ns k) = shiftS (nth ns) (getS ss' k) := fun k hk => ⟨if_pos hk, rfl, hsat k hk⟩
    have hbelow : ∀ (ss : List Site) (m i : Nat), ss.all (belowS m) = true → belowS m (getS ss i) = true := by
      intro ss
      induction ss with
      | nil => intro m i _; rfl
      | cons x xs ih =>
        intro m i h
        simp only [List.all_cons, Bool.and_eq_true] at h
        cases i with
        | zero => exact h.1
        | succ i => exact ih m i h.2
    have sites : ∀ i, SiteIn w' (fun b => (ok b ∨ w.heap.size ≤ b) ∧ ∀ i, blk' i ≠ some b) blk' val' (getS ss') (blk' i) (val' i) (getS ss' i) := fun i => by
      rcases Nat.lt_or_ge i ss'.length with hi | hi
      · have h1 := hh.site (nth ns i)
        rw [hsat i hi] at h1
        rw [(hrel i hi).1]
        refine h1.unshift hok' fun cs hcs y hy k hk => ?_
        have h2 := hbelow ss' ss'.length i hbs
        rw [hcs] at h2
        exact hrel k (belowT_lt (List.all_eq_true.1 h2 y hy) k hk)
      · rw [getS_none hi]
        show blk' i = none
        exact if_neg (by omega)
    have hsl : ss.length ≤ ss'.length ∨ ss = [] := by
      rcases Nat.lt_or_ge ss'.length ss.length with h | h
      · right
        exfalso
        have : ∀ (m i : Nat) (ns : List Nat), firstN n i m ns = true → m ≤ ns.length := by
          intro m
          induction m with
          | zero => intro i ns _; omega
          | succ m ih =>
            intro i ns h
            cases ns with
            | nil => simp [firstN] at h
            | cons x xs =>
              simp only [firstN, Bool.and_eq_true] at h
              have := ih _ _ h.2
              simp; omega
        have := this _ _ _ hfst
        omega
      · exact .inl h
    have hname : ∀ i, i < ss.length → nth ns i = n + i := fun i hi => by
      have := nth_firstN hfst i hi
      rw [Nat.zero_add] at this; exact this
    have common : (∀ i, (getS ss i).isVar = true → blk' i = blk i) ∧ (∀ i b, blk' i = some b → (∃ j, blk j = some b) ∨ w.heap.size ≤ b) ∧ (∀ i b, blk' i = some b → b < w'.heap.size) ∧
        (∀ i j b, blk' i = some b → blk' j = some b → i = j) ∧ ExtM ⟨w, ok, fun b => ∃ i, blk i = some b, fun _ => none, fun _ => none, none⟩ w' := by
      refine ⟨fun i hi => ?_, fun i b hb => ?_, fun i b hb => (hh.new _ _ (hb' i b hb).2).2, fun i j b h1 h2 => ?_, ⟨hh.ext.os, hh.ext.tape, hh.ext.output, hh.ext.size, hh.ext.block⟩⟩
      · have him : i < ss.length := by
          rcases Nat.lt_or_ge i ss.length with h | h
          · exact h
          · rw [getS_none h] at hi; cases hi
        have hi' : i < ss'.length := by
          rcases hsl with h | h
          · omega
          · subst h; simp at him
        rw [(hrel i hi').1, hname i him]
        have hs := hsite i
        obtain ⟨b, hb⟩ : ∃ b, blk i = some b := by
          cases hg : getS ss i <;> rw [hg] at hs hi <;> first | (cases hi; done) | (obtain ⟨b, _, _, h, _⟩ := hs; exact ⟨b, h⟩) | (obtain ⟨b, h, _⟩ := hs; exact ⟨b, h⟩)
        have hp := hh.pin (n + i) b (by
          show (bif Nat.ble n (n + i) && (getS ss (n + i - n)).isVar then blk (n + i - n) else none) = some b
          rw [Nat.add_sub_cancel_left, hge i, hi]
          exact hb)
        rw [hp.1, hb]
      · rcases (hh.new _ _ (hb' i b hb).2).1 with h | h
        · exact .inr h
        · exact .inl h
      · have e := hh.inj _ _ b (hb' i b h1).2 (hb' j b h2).2
        exact nth_inj hnd (by rw [hlen]; exact (hb' i b h1).1) (by rw [hlen]; exact (hb' j b h2).1) e
    obtain ⟨c1, c2, c4, c5, c6⟩ := common
    obtain ⟨v, q1, q2⟩ := runx_results hh hrs hret
    exact ⟨v, q1, _, blk', val', rfl, c1, c2, c4, c5, c6, sites, by subst hrd; exact q2.ok hok'⟩
  have hlow := hgk.low w hGw
  have hG1 : ∀ w', ExtM cx w' → G w' := fun w' hx => hgk.keep w w' hGw hx.size fun k hk => hx.block k (Nat.lt_of_lt_of_le hk hlow) (fun ⟨i, hi⟩ => by have := hNGw i k hi; omega)
  have hN1 : ∀ b, Ours cx b → NG ≤ b := fun b hb => by
    rcases hb with q | ⟨i, hi⟩
    · exact Nat.le_trans hlow q
    · exact hNGw i b hi
  have hmp : ∀ b, cx.mine b → ∃ k, cx.pin k = some b := fun b ⟨i, hi⟩ => by
    refine ⟨n + i, ?_⟩
    have him : i < ss.length := by
      rcases Nat.lt_or_ge i ss.length with h | h
      · exact h
      · rw [hnone i h] at hi; cases hi
    have hv : (getS ss i).isVar = true := getS_all hvar him
    show (bif Nat.ble n (n + i) && (getS ss (n + i - n)).isVar then blk (n + i - n) else none) = some b
    rw [Nat.add_sub_cancel_left, hge i, hv]
    exact hi
  refine wpIn_mono (h cx rfl hG1 hN1 hmp (fun k b hk => by
    simp only [cx] at hk
    cases hb : Nat.ble n k && (getS ss (k - n)).isVar with
    | true => rfl
    | false => rw [hb] at hk; cases hk) Fence.wide 1 ⟨.inl rfl, rfl⟩ _ w ⟨_, _, h0⟩) fun e a w' ⟨st', hR, hH⟩ => ?_
  cases e with
  | normal =>
    obtain ⟨ms, m1, m2, m3, hH'⟩ := hH.shut rfl
    show LeavesInM _ _ _ _ _ _ _ _ _
    rw [m1]
    exact shut_leaves ms w' m2 m3 (fin { a with defers := [] } (shut ms w') st' hR hH')
  | ret =>
    obtain ⟨ms, m1, m2, m3, hH'⟩ := hH.shut rfl
    show LeavesInM _ _ _ _ _ _ _ _ _
    rw [m1]
    exact shut_leaves ms w' m2 m3 (fin { a with defers := [] } (shut ms w') st' hR hH')
  | exit id => exact hR.elim
  | goto l => exact hR.elim
  | panic c => exact hR.elim
  | outgrown => exact hR.elim

theorem le_freezeW (k t o : Nat) {cs : List D} (hs : st.s k = .box cs) (ht : st.t t = .ref k o) (hk : Nat.blt k st.n = true) (htn : Nat.blt t st.n = true) (hm : ∀ b, w0.mine b → (∃ k, w0.pin k = some b) ∨ ∃ o, w0.fix b = some o) : Le w0 st ((headSt st [k] [] []).put (some t) (.d (.pt cs o))) := by
  intro a w ⟨blk, val, hh⟩
  have hH : Hold w0 (headSt st [k] [] []) a w (headBlk [k] [] blk) val := hold_headW (ms := []) (Out.refl st) (by simp) (by simp) (by intro k h; cases h) (by intro p h; cases h) rfl (by simpa using hk) hh
  have h1 := hh.tmp t
  rw [ht] at h1
  obtain ⟨_, b, hb, hv⟩ := h1
  have h2 := hh.site k
  rw [hs] at h2
  obtain ⟨b', e, vals, hb', hheap, hsz, hsc, hc⟩ := h2
  rw [hb] at hb'; cases hb'
  have hok : ∀ c, okOf w0 blk c → okOf w0 (headBlk [k] [] blk) c := fun c ⟨q1, q2⟩ => ⟨q1, fun j hj => by
    simp only [headBlk, lookN] at hj
    cases hm : memN j [k] <;> rw [hm] at hj
    · exact q2 j hj
    · cases hj⟩
  have hokb : okOf w0 (headBlk [k] [] blk) b := by
    refine ⟨(hh.new k b hb).1.elim .inr (fun h => by
        rcases hm b h with ⟨k9, h9⟩ | ⟨o9, h9⟩
        rotate_left
        · obtain ⟨q1, q2⟩ := hh.defers.fix b o9 h9
          rw [hheap] at q1; cases q1; cases q2
        obtain ⟨p1, _, p3⟩ := hh.pin k9 b h9
        have e9 := hh.inj k9 k b p1 hb
        rw [e9] at p3
        have h8 := hk
        rw [Nat.blt_eq] at h8
        exact absurd h8 (by omega)), fun j hj => ?_⟩
    simp only [headBlk, lookN] at hj
    cases hmj : memN j [k] <;> rw [hmj] at hj
    · have := hh.inj j k b hj hb
      subst this
      simp [memN] at hmj
    · cases hj
  rw [Nat.blt_eq] at htn
  refine ⟨_, _, Hold.same t htn (put_hold (v := a.tmps.getD t undef) hH htn ?_)⟩
  show Rep w _ (.pt cs o) _
  have := Rep.pt (w := w) (ok := okOf w0 (headBlk [k] [] blk)) cs o b 0 (fun j => vals.getD j undef) (heap_lt hheap) hokb hsc (fun j d hj => by
    obtain ⟨v, h1, h2⟩ := hc j d hj
    rw [cell_of_block hheap]
    simp [Array.getD_eq_getD_getElem?, h1]) (fun j d hj => by
    obtain ⟨v, h1, h2⟩ := hc j d hj
    simp only [Array.getD_eq_getD_getElem?, h1]
    exact h2.ok fun _ _ h => hok _ h)
  rw [hv]
  simpa using this

end
end Go.Proofs.YthpggoophcdgnaaDoor.Am
