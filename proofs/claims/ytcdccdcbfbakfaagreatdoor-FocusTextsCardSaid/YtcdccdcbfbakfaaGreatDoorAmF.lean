/- The abstract machine, parts 41 to 54. Conditions: none. -/
import Derived.MapKept
import Derived.RangeFuncRecord
import Derived.Stop.IfaceNil
import Derived.Test.YtcdccdcbfbakfaaGreatDoorAmE
set_option linter.unusedVariables false
set_option linter.unusedSimpArgs false
namespace Go.Proofs.YtcdccdcbfbakfaaGreatDoor.Am
open Go Go.RowKit

section
variable {P : Program} {w0 : Cx} {ops : List Oper} {rest : List Oper} {R : Exit → St → Prop} {st : St} {ty : TypeId} {pos : String} {after : Array Edge}
end
section
variable {P : Program} {w0 : Cx} {n : Nat} {s : Nat → Site} {ev : Operand → T} {ty : TypeId} {pos : String} {after : Array Edge}
end
section
variable {P : Program} {w0 : Cx} {n : Nat} {s : Nat → Site} {ev : Operand → T} {dst : Option Tmp} {ty : TypeId} {pos : String} {after : Array Edge} {g : Option (Nat × Bool)}
end
open Go Go.RowKit

section
variable {P : Program} {w0 : Cx} {n : Nat} {s : Nat → Site} {ev : Operand → T} {ty : TypeId} {pos : String} {after : Array Edge}
end
section
variable {P : Program} {w0 : Cx} {n : Nat} {s : Nat → Site} {ev : Operand → T} {dst : Option Tmp} {ty : TypeId} {pos : String} {after : Array Edge} {g : Option (Nat × Bool)}
end
open Go Go.RowKit

def mpL : List Int → Nat → List MapEntry
  | [], _ => []
  | k :: ks, n => ⟨.int .i64 k, .bool true, n⟩ :: mpL ks (n + 1)
def mpE (ks : List Int) : Array MapEntry := (mpL ks 0).toArray
theorem mpL_len : ∀ (ks : List Int) (n : Nat), (mpL ks n).length = ks.length
  | [], _ => rfl
  | k :: ks, n => by show (mpL ks (n + 1)).length + 1 = ks.length + 1; rw [mpL_len ks (n + 1)]
theorem mpL_app (x : Int) : ∀ (ks : List Int) (n : Nat), mpL (ks ++ [x]) n = mpL ks n ++ [⟨.int .i64 x, .bool true, n + ks.length⟩]
  | [], n => rfl
  | k :: ks, n => by
    show _ :: mpL (ks ++ [x]) (n + 1) = _ :: (mpL ks (n + 1) ++ _)
    rw [mpL_app x ks (n + 1), List.length_cons, show n + 1 + ks.length = n + (ks.length + 1) by omega]
theorem mpE_push (x : Int) (ks : List Int) : (mpE ks).push ⟨.int .i64 x, .bool true, ks.length⟩ = mpE (ks ++ [x]) := by
  unfold mpE
  rw [mpL_app, Nat.zero_add]; simp
theorem findNow_mp (x : Int) : ∀ (ks : List Int) (n i : Nat), (x ∈ ks ∧ ∃ j, Instr.findNow (.int .i64) (.int .i64 x) (mpL ks n) i = some (some (j, .bool true))) ∨ (x ∉ ks ∧ Instr.findNow (.int .i64) (.int .i64 x) (mpL ks n) i = some none)
  | [], _, _ => .inr ⟨by simp, rfl⟩
  | k :: ks, n, i => by
    by_cases h : x = k
    · subst h
      exact .inl ⟨by simp, i, by simp [mpL, Instr.findNow, Instr.sameNow]⟩
    · rcases findNow_mp x ks (n + 1) (i + 1) with ⟨h1, j, h2⟩ | ⟨h1, h2⟩
      · exact .inl ⟨by simp [h1], j, by simp [mpL, Instr.findNow, Instr.sameNow, beq_false_of_ne h, h2]⟩
      · exact .inr ⟨by simp [h, h1], by simp [mpL, Instr.findNow, Instr.sameNow, beq_false_of_ne h, h2]⟩
def mapF : Option Nat → Value → List Value → Value → Prop := fun b _ _ v => ∃ b', b = some b' ∧ v = .map (some b')
abbrev T.mp (k : Nat) : T := .own k ⟨false, true⟩ [] mapF
def mpB (P : Program) (t : TypeId) (e : TypeId) : Bool :=
  match P.underlying t with
  | some (.map k e') => (match P.underlying k with | some (.int .i64) => true | _ => false) && Nat.beq e' e
  | _ => false
theorem mpB_info {P : Program} {t e : TypeId} (h : mpB P t e = true) : ∃ k, P.underlying t = some (.map k e) ∧ P.underlying k = some (.int .i64) := by
  unfold mpB at h
  split at h
  · rename_i k e' hu
    rw [Bool.and_eq_true] at h
    obtain ⟨h1, h2⟩ := h
    have := Nat.eq_of_beq_eq_true h2
    subst this
    refine ⟨k, hu, ?_⟩
    split at h1
    · assumption
    · cases h1
  · cases h
theorem mp_inv {w : World} {ok : Nat → Prop} {blk : Nat → Option Nat} {val : Nat → Value} {s : Nat → Site} {k : Nat} {v : Value} (h : RepT w ok blk val s (.mp k) v) : ∃ b, blk k = some b ∧ v = .map (some b) := by
  obtain ⟨_, vs, _, h2⟩ := h
  exact h2
section
variable {P : Program} {w0 : Cx} {n : Nat} {s : Nat → Site} {ev : Operand → T} {dst : Option Tmp} {ty : TypeId} {pos : String} {after : Array Edge} {g : Option (Nat × Bool)}
theorem q_lookmap {t e : TypeId} {y x : Operand} {k cl : Nat} {i : Int} {ks : List Int} (ht : mpB P t e = true) (hz : zrB P e (.bool false)) (hy : ev y = .mp k) (hx : ev x = .d (.v (.int .i64 i))) (hk : s k = .mp (mpE ks) cl) :
    QOp P w0 n s ev ⟨dst, .lookup t y x false, ty, pos, after, g⟩ (T.bool (decide (i ∈ ks))) :=
  .mk fun a w ok blk val h hs hnew => by
    obtain ⟨tk, hu, huk⟩ := mpB_info ht
    have h1 := h y
    rw [hy] at h1
    obtain ⟨b, hb, hv⟩ := mp_inv h1
    have h2 := hs k
    rw [hk] at h2
    obtain ⟨b', hb', hheap⟩ := h2
    rw [hb] at hb'; cases hb'
    have hxv : a.eval x = .int .i64 i := RepT.v_eq (hx ▸ h x)
    have hck := fun em => MapKept.run_checkKey (P := P) (w := w) (k := .int .i64 i) huk (by trivial) em 9999
    refine ⟨.bool (decide (i ∈ ks)), w, ?_, Ext.refl w, .v _ rfl⟩
    have hml : (mpE ks).toList = mpL ks 0 := rfl
    rcases findNow_mp i ks 0 0 with ⟨h3, j, h4⟩ | ⟨h3, h4⟩
    · have hf : (Instr.findKey tk (.int .i64 i) (mpE ks).toList).run P w = .ok (some (j, .bool true)) w := MapKept.run_findKey huk (by rw [hml]; exact h4)
      rw [decide_eq_true h3]
      simp [execOp, Instr.lookup, hv, hxv, run_underlying hu, MapKept.run_getObj_map hheap, hck, hf, Result.andThen]
    · have hf : (Instr.findKey tk (.int .i64 i) (mpE ks).toList).run P w = .ok none w := MapKept.run_findKey huk (by rw [hml]; exact h4)
      rw [decide_eq_false h3]
      simp [execOp, Instr.lookup, hv, hxv, run_underlying hu, MapKept.run_getObj_map hheap, hck, hf, run_zero hz, Result.andThen]
theorem q_lenmap {y : Operand} {t e : TypeId} {k cl m : Nat} {ks : List Int} (ht : mpB P t e = true) (hy : ev y = .mp k) (hk : s k = .mp (mpE ks) cl) (hm : ks.length = m) : QOp P w0 n s ev ⟨dst, .call ⟨.builtin .len, #[y], #[t]⟩, ty, pos, after, g⟩ (T.i m) :=
  .mk fun a w ok blk val h hs hnew => by
    subst hm
    obtain ⟨tk, hu, huk⟩ := mpB_info ht
    have h1 := h y
    rw [hy] at h1
    obtain ⟨b, hb, hv⟩ := mp_inv h1
    have h2 := hs k
    rw [hk] at h2
    obtain ⟨b', hb', hheap⟩ := h2
    rw [hb] at hb'; cases hb'
    have hsz : (mpE ks).size = ks.length := by show (mpL ks 0).length = _; exact mpL_len _ _
    exact ⟨_, w, run_builtin_len rfl (by simp [Builtin.len_, run_underlying hu, hv, MapKept.run_getObj_map hheap, goInt, hsz]), Ext.refl w, .v _ rfl⟩
end
section
variable {P : Program} {w0 : Cx} {st : St} {ops rest : List Oper} {R : Exit → St → Prop} {ty : TypeId} {pos : String} {after : Array Edge}
theorem Hold.setMap {a : Act} {w : World} {blk : Nat → Option Nat} {val : Nat → Value} {k b : Nat} {es es' : Array MapEntry} {cl cl' : Nat} (hh : Hold w0 st a w blk val) (hk : st.s k = .mp es cl) (hb : blk k = some b) :
    Hold w0 (st.site k (.mp es' cl')) a (w.putObj b (.map es' cl')) blk val := by
  have hbl : w.heap[b]? = some (.map es cl) := by
    have := hh.site k
    rw [hk] at this
    obtain ⟨b', h1, h2⟩ := this
    rw [hb] at h1; cases h1; exact h2
  have hx : SiteIn (w.putObj b (.map es' cl')) (okOf w0 blk) blk val st.s (some b) (val k) (.mp es' cl') := ⟨b, rfl, World.putObj_heap_same (heap_lt hbl)⟩
  have hrow : ∀ e sz rs, st.s k = .row e sz rs → ∃ e' sz' es'', (Site.mp es' cl') = .row e' sz' es'' := fun e sz rs q => by rw [hk] at q; cases q
  have hno : (Site.mp es' cl') ≠ .no := by simp
  have hvar : (st.s k).isVar = true → (Site.mp es' cl').isVar = true := fun _ => rfl
  have hbn := hh.new k b hb
  have keep : ∀ {d : D} {v : Value}, Rep w (okOf w0 blk) d v → Rep (w.putObj b (.map es' cl')) (okOf w0 blk) d v := fun h =>
    h.keep (by rw [World.putObj_size]; exact Nat.le_refl _) (fun b' o hok ho => by rw [World.putObj_heap_other (fun e => hok.2 k (by rw [e]; exact hb))]; exact ho) fun _ _ h => h
  have keepT : ∀ {y : T} {v : Value}, RepT w (okOf w0 blk) blk val st.s y v → RepT (w.putObj b (.map es' cl')) (okOf w0 blk) blk val st.s y v := fun {y v} h => by
    cases y with
    | d y => exact keep h
    | own k r ds F => exact ⟨h.1, h.2.imp fun _ _ h => keep h⟩
    | _ => exact h
  have hrel : ∀ j, blk j = blk j ∧ val j = val j ∧ (st.s j ≠ .no → (st.site k (.mp es' cl')).s j ≠ .no) ∧ ((∃ e sz es, st.s j = .row e sz es) → ∃ e sz es, (st.site k (.mp es' cl')).s j = .row e sz es) := fun j => by
    refine ⟨rfl, rfl, ?_⟩
    simp only [St.site]
    cases hjk : Nat.beq j k
    · exact ⟨id, id⟩
    · rw [Nat.eq_of_beq_eq_true hjk]
      exact ⟨fun _ => hno, fun ⟨e, sz, es, q⟩ => hrow e sz es q⟩
  refine ⟨⟨hh.ext.os, hh.ext.tape, hh.ext.output, by rw [World.putObj_size]; exact hh.ext.size, fun j hj hm => by rw [World.putObj_heap_other (fun e => by subst e; rcases hbn.1 with q | q; omega; exact hm q)]; exact hh.ext.block j hj hm⟩, hh.kept fun j _ hn => World.putObj_heap_other (fun e => hn k (by rw [e]; exact hb)), hh.size, fun j c hj => by rw [World.putObj_size]; exact hh.new j c hj, hh.inj, fun j c hj => ?_, fun j => ?_, fun t => ?_⟩
  · obtain ⟨q1, q2, q3⟩ := hh.pin j c hj
    refine ⟨q1, ?_, q3⟩
    simp only [St.site]
    cases hjk : Nat.beq j k
    · exact q2
    · rw [Nat.eq_of_beq_eq_true hjk] at q2; exact hvar q2
  · have step : SiteIn (w.putObj b (.map es' cl')) (okOf w0 blk) blk val st.s (blk j) (val j) ((st.site k (.mp es' cl')).s j) := by
      cases hjk : Nat.beq j k
      · simp only [St.site, hjk, cond_false]
        have hs := hh.site j
        have hne : ∀ c, blk j = some c → c ≠ b := fun c hc e => by
          subst e
          have := hh.inj j k c hc hb
          subst this; simp at hjk
        cases hsj : st.s j with
        | no => rw [hsj] at hs; exact hs
        | box cs' =>
          rw [hsj] at hs
          obtain ⟨c, e, vals, h1, h2, h3, h4, h5⟩ := hs
          exact ⟨c, e, vals, h1, by rw [World.putObj_heap_other (hne c h1)]; exact h2, h3, h4, fun j d hd => let ⟨v, hv, hr⟩ := h5 j d hd; ⟨v, hv, keep hr⟩⟩
        | tbox cs' =>
          rw [hsj] at hs
          obtain ⟨c, e, vals, h1, h2, h3, h5⟩ := hs
          exact ⟨c, e, vals, h1, by rw [World.putObj_heap_other (hne c h1)]; exact h2, h3, fun j d hd => let ⟨v, hv, ho, hr⟩ := h5 j d hd; ⟨v, hv, ho, keepT hr⟩⟩
        | mp es c =>
          rw [hsj] at hs
          obtain ⟨c', h1, h2⟩ := hs
          exact ⟨c', h1, by rw [World.putObj_heap_other (hne c' h1)]; exact h2⟩
        | row e sz es =>
          rw [hsj] at hs
          obtain ⟨h1, h2, h3⟩ := hs
          exact ⟨h1, h2, h3.imp id fun ⟨c, vals, cap, k1, k2, k3, k4, k5, k6, k7⟩ => ⟨c, vals, cap, k1, k2, k3, k4, by rw [World.putObj_heap_other (hne c k1)]; exact k5, k6, fun i x j d hi hj => let ⟨v, hv, hr⟩ := k7 i x j d hi hj; ⟨v, hv, keep hr⟩⟩⟩
      · simp only [St.site, hjk, cond_true]
        rw [Nat.eq_of_beq_eq_true hjk, hb]; exact hx
    exact step.to (fun _ _ h => h) (.inl rfl) fun _ _ _ _ j _ => hrel j
  · exact (keepT (hh.tmp t)).to (fun _ _ h => h) fun j _ => hrel j
theorem aops_makeMap {d : Nat} {t : TypeId} (hd : Nat.blt d st.n = true) (hs : st.s d = .no) (h : Aops P w0 ops rest R ((st.site d (.mp (mpE []) 0)).put (some d) (.mp d))) :
    Aops P w0 ops (⟨some d, .makeMap t none, ty, pos, after, none⟩ :: rest) R st := by
  refine aops_step (K := fun s => s = (st.site d (.mp (mpE []) 0)).put (some d) (.mp d)) rfl (fun a w ⟨blk, val, hh⟩ => ?_) (fun _ e => e ▸ h)
  refine wp_value (v := .map (some w.heap.size)) (w' := w.alloc (.map #[] 0)) (by simp [execOp, Instr.makeMap]) ⟨_, rfl, ?_⟩
  have hH := hh.allocSite (k := d) (x := .mp (mpE []) 0) (u := undef) (o := .map #[] 0) hs ⟨w.heap.size, rfl, new_block _ _⟩
  exact ⟨_, _, put_hold hH (by simpa [Nat.blt_eq, St.site] using hd) ⟨⟨⟨by simp [St.site], fun h => by cases h⟩, fun _ => rfl⟩, [], trivial, w.heap.size, by simp, rfl⟩⟩
theorem aops_mapUpdate {t e : TypeId} {y x v : Operand} {k : Nat} {i : Int} {ks : List Int} (ht : mpB P t e = true) (hy : st.ev y = .mp k) (hx : st.ev x = .d (.v (.int .i64 i))) (hv : st.ev v = .d (.v (.bool true))) (hk : st.s k = .mp (mpE ks) ks.length) (hi : i ∉ ks)
    (h : Aops P w0 ops rest R (st.site k (.mp (mpE (ks ++ [i])) (ks ++ [i]).length))) : Aops P w0 ops (⟨none, .mapUpdate t y x v, ty, pos, after, none⟩ :: rest) R st := by
  refine aops_step (K := fun s => s = st.site k (.mp (mpE (ks ++ [i])) (ks ++ [i]).length)) rfl (fun a w ⟨blk, val, hh⟩ => ?_) (fun _ e => e ▸ h)
  obtain ⟨tk, hu, huk⟩ := mpB_info ht
  have h1 := hh.ev y
  rw [hy] at h1
  obtain ⟨b, hb, hyv⟩ := mp_inv h1
  have h2 := hh.site k
  rw [hk] at h2
  obtain ⟨b', hb', hheap⟩ := h2
  rw [hb] at hb'; cases hb'
  have hxv : a.eval x = .int .i64 i := RepT.v_eq (hx ▸ hh.ev x)
  have hvv : a.eval v = .bool true := RepT.v_eq (hv ▸ hh.ev v)
  have hck := MapKept.run_checkKey (P := P) (w := w) (k := .int .i64 i) huk (by trivial) false 9999
  have hml : (mpE ks).toList = mpL ks 0 := rfl
  rcases findNow_mp i ks 0 0 with ⟨h3, _⟩ | ⟨_, h4⟩
  · exact absurd h3 hi
  have hf : (Instr.findKey tk (.int .i64 i) (mpE ks).toList).run P w = .ok none w := MapKept.run_findKey huk (by rw [hml]; exact h4)
  have hput : (w.putObj b (.map (mpE (ks ++ [i])) (ks ++ [i]).length)) = { w with heap := w.heap.setIfInBounds b (.map ((mpE ks).push ⟨.int .i64 i, .bool true, ks.length⟩) (ks.length + 1)) } := by
    rw [mpE_push, List.length_append]; rfl
  have hrun : (execOp a.eval ⟨none, .mapUpdate t y x v, ty, pos, after, none⟩).run P w = .ok .skip (w.putObj b (.map (mpE (ks ++ [i])) (ks ++ [i]).length)) := by
    rw [hput]
    simp [execOp, Instr.mapUpdate, hyv, hxv, hvv, run_underlying hu, MapKept.run_getObj_map hheap, hck, hf, MapKept.run_setObj_map _ hheap, Result.andThen]
  refine ow_of_wp (fun c hc => by cases hc) ?_
  unfold Oper.wp
  rw [hrun]
  exact ⟨_, rfl, blk, val, hh.setMap hk hb⟩
end
open Go Go.RowKit

def flU (l : List Oper) (n : Nat) (Fl : List Nat) (L : Nat → Bool) (t : Tmp) : Bool :=
  match prodIdx l n t with
  | some p => memN p Fl && !L p
  | none => false
def mk (U : Tmp → Bool) (S : St) : St := { n := S.n, t := fun t => bif U t then .dead else S.t t, s := S.s }
def FloatOK (P : Program) (w0 : Cx) (l : List Oper) (n : Nat) (Fl : List Nat) (S : St) : List Nat → Prop
  | [] => True
  | i :: is => (match l[i]? with
      | some o => (match o.dst with
        | some d => COp P w0 S (mk (flU l n Fl (afterB o)) S).ev o (.put (some d) (S.t d))
        | none => False)
      | none => False) ∧ FloatOK P w0 l n Fl S is
def LateW (P : Program) (w0 : Cx) (l : List Oper) (n : Nat) (Fl : List Nat) : List Oper → St → (St → Prop) → Prop
  | [], S, K => K S
  | o :: os, S, K => ∃ f : Eff, f.dst = o.dst ∧ COp P w0 S (mk (flU l n Fl fun _ => false) S).ev o f ∧ FloatOK P w0 l n Fl (f.app S) Fl ∧ LateW P w0 l n Fl os (f.app S) K
def behindB (l : List Oper) (n : Nat) (Fl : List Nat) (j : Nat) : Bool :=
  (List.range n).any fun k => decide (j < k) && !(memN k Fl) && (match l[k]? with | some ok => afterB ok j | none => false)
def lateB (l : List Oper) (n q : Nat) (Fl : List Nat) : Bool :=
  (Fl.all fun i => decide (i < n) && (match l[i]? with | some o => o.guard.isNone && o.dst.isSome | none => false)) &&
  ((List.range q).all fun p => match l[n + p]? with
    | some o => o.guard.isNone && (Nat.beq p 0 || afterB o (n + p - 1)) && (match o.dst with | some d => (prodIdx l n d).isNone | none => true)
    | none => false) &&
  (match l[n]? with | some o => (List.range n).all fun j => memN j Fl || afterB o j || behindB l n Fl j | none => false)
section
variable {P : Program} {w0 : Cx}
theorem float_at {l : List Oper} {n : Nat} {Fl : List Nat} {S : St} : ∀ {is : List Nat}, FloatOK P w0 l n Fl S is → ∀ i o d, memN i is = true → l[i]? = some o → o.dst = some d → COp P w0 S (mk (flU l n Fl (afterB o)) S).ev o (.put (some d) (S.t d))
  | [], _, i, o, d, hi, _, _ => by cases hi
  | j :: js, h, i, o, d, hi, ho, hd => by
    simp only [memN, Bool.or_eq_true] at hi
    rcases hi with hi | hi
    · have := Nat.eq_of_beq_eq_true hi
      subst this
      have h1 := h.1
      rw [ho] at h1
      simp only [hd] at h1
      exact h1
    · exact float_at h.2 i o d hi ho hd
structure LateSeq (P : Program) (w0 : Cx) (l : List Oper) (n q : Nat) (Fl : List Nat) (Sq : Nat → St) : Prop where
  step : ∀ p, p < q → ∀ o, l[n + p]? = some o → ∃ f : Eff, f.dst = o.dst ∧ Sq (p + 1) = f.app (Sq p) ∧ COp P w0 (Sq p) (mk (flU l n Fl fun _ => false) (Sq p)).ev o f
  fl : ∀ p, 1 ≤ p → p ≤ q → FloatOK P w0 l n Fl (Sq p) Fl
theorem lateW_seq {l : List Oper} {n : Nat} {Fl : List Nat} {K : St → Prop} : ∀ (q : Nat) (os : List Oper) (i : Nat) (S : St), os.length = q → (∀ k, k < q → os[k]? = l[n + i + k]?) → LateW P w0 l n Fl os S K →
    ∃ Sq : Nat → St, Sq i = S ∧ K (Sq (i + q)) ∧ (∀ p, i ≤ p → p < i + q → ∀ o, l[n + p]? = some o → ∃ f : Eff, f.dst = o.dst ∧ Sq (p + 1) = f.app (Sq p) ∧ COp P w0 (Sq p) (mk (flU l n Fl fun _ => false) (Sq p)).ev o f) ∧
      ∀ p, i + 1 ≤ p → p ≤ i + q → FloatOK P w0 l n Fl (Sq p) Fl
  | 0, [], i, S, _, _, h => ⟨fun _ => S, rfl, h, fun p h1 h2 => by omega, fun p h1 h2 => by omega⟩
  | 0, _ :: _, _, _, h, _, _ => by simp at h
  | _ + 1, [], _, _, h, _, _ => by simp at h
  | q + 1, o :: os, i, S, hl, hos, h => by
    obtain ⟨f, hf, hc, hfl, hr⟩ := h
    obtain ⟨Sq, h1, h2, h3, h4⟩ := lateW_seq (l := l) (n := n) (Fl := Fl) (K := K) q os (i + 1) _ (by simpa using hl) (fun k hk => by have := hos (k + 1) (by omega); simpa [Nat.add_assoc, Nat.add_comm 1 k] using this) hr
    have ho : l[n + i]? = some o := by have := hos 0 (by omega); simpa using this.symm
    refine ⟨fun p => if p = i then S else Sq p, by simp, ?_, fun p hp1 hp2 o' ho' => ?_, fun p hp1 hp2 => ?_⟩
    · show K (if i + (q + 1) = i then S else Sq (i + (q + 1)))
      rw [if_neg (by omega), show i + (q + 1) = i + 1 + q by omega]; exact h2
    · by_cases e : p = i
      · subst e
        rw [ho] at ho'; cases ho'
        refine ⟨f, hf, ?_, ?_⟩
        · show (if p + 1 = p then S else Sq (p + 1)) = f.app (if p = p then S else Sq p)
          rw [if_neg (by omega), if_pos rfl]; exact h1
        · simp only [if_true]; exact hc
      · simp only [if_neg e, if_neg (show ¬ p + 1 = i by omega)]
        exact h3 p (by omega) (by omega) o' ho'
    · simp only [if_neg (show ¬ p = i by omega)]
      by_cases e : p = i + 1
      · rw [e, h1]; exact hfl
      · exact h4 p (by omega) (by omega)
theorem setL_ne {L : Nat → Bool} {i j : Nat} (h : j ≠ i) : setL L i j = L j := by
  unfold setL
  rw [show (j == i) = false from beq_false_of_ne h]; rfl
theorem setL_eq {L : Nat → Bool} {i : Nat} : setL L i i = true := by simp [setL]
theorem setL_tr {L : Nat → Bool} {i j : Nat} (h : L j = true) : setL L i j = true := by
  unfold setL
  rw [h, Bool.or_true]
def cntT (n : Nat) (L : Nat → Bool) : Nat → Nat
  | 0 => 0
  | q + 1 => if L (n + q) = true then q + 1 else cntT n L q
theorem cntT_le {n : Nat} {L : Nat → Bool} : ∀ q, cntT n L q ≤ q
  | 0 => Nat.le_refl _
  | q + 1 => by
    unfold cntT
    split
    · exact Nat.le_refl _
    · exact Nat.le_succ_of_le (cntT_le q)
theorem cntT_at {n : Nat} {L : Nat → Bool} {p : Nat} : ∀ {q : Nat}, p ≤ q → (∀ j, j < p → L (n + j) = true) → (∀ j, p ≤ j → j < q → L (n + j) = false) → cntT n L q = p
  | 0, hp, _, _ => by show 0 = p; omega
  | q + 1, hp, h1, h2 => by
    unfold cntT
    by_cases e : p = q + 1
    · rw [if_pos (h1 q (by omega))]; exact e.symm
    · rw [if_neg (by rw [h2 q (by omega) (by omega)]; simp)]
      exact cntT_at (by omega) h1 fun j a b => h2 j a (by omega)
open Classical in
noncomputable def lateF (st : St) (l : List Oper) (n q : Nat) (Fl : List Nat) (xs : Nat → T) (Sq : Nat → St) (L : Nat → Bool) : St :=
  if L n = true then mk (flU l n Fl L) (Sq (cntT n L q)) else stOf st l n xs L
theorem mk_put {U : Tmp → Bool} {S : St} {dst : Option Tmp} {x : T} (h : ∀ d, dst = some d → U d = false) : (mk U S).put dst x = mk U (S.put dst x) := by
  cases dst with
  | none => rfl
  | some d =>
    simp only [mk, St.put, St.mk.injEq, true_and, and_true]
    funext t
    cases ht : Nat.beq t d with
    | false => rfl
    | true =>
      have := Nat.eq_of_beq_eq_true ht
      subst this
      rw [h t rfl]; rfl
theorem mk_app {U : Tmp → Bool} {S : St} {f : Eff} (h : ∀ d, f.dst = some d → U d = false) : f.app (mk U S) = mk U (f.app S) := by
  cases f with
  | grow k d z =>
    show (((mk U S).killS k).site k z).put (some d) (.rs k) = mk U (((S.killS k).site k z).put (some d) (.rs k))
    have e : ((mk U S).killS k).site k z = mk U ((S.killS k).site k z) := by
      simp only [mk, St.killS, St.site, St.mk.injEq, true_and, and_true]
      funext t
      cases U t <;> rfl
    rw [e]
    exact mk_put h
  | set k z dst x =>
    show ((mk U S).site k z).put dst x = mk U ((S.site k z).put dst x)
    have e : (mk U S).site k z = mk U (S.site k z) := rfl
    rw [e]
    exact mk_put h
  | put dst x => exact mk_put h
open Classical in
theorem late_step {st : St} {l : List Oper} {n q i : Nat} {Fl : List Nat} {xs : Nat → T} {Sq : Nat → St} {o : Oper} {L : Nat → Bool} {a : Act} {w : World} (h : regB l n st.n = true) (h' : regB l (n + q) st.n = true) (hB : lateB l n q Fl = true) (hq : 1 ≤ q)
    (hS0 : Wk (stOf st l n xs (ltB n)) (Sq 0)) (hSq : LateSeq P w0 l n q Fl Sq) (hnS : ∀ p, p ≤ q → (Sq p).n = st.n) (hO : ∀ k o, k < n → l[k]? = some o → Owes P w0 st l n xs k o)
    (hi : i < n + q) (ho : l[i]? = some o) (hD : Done l (n + q) L) (hLi : L i = false) (hLa : ∀ e ∈ o.after, Region.binds .any e = true → L e.on = true) (hH : Holds w0 (lateF st l n q Fl xs Sq L) a w) :
    (Region.wanted o (yielded l.toArray a.tmps) = true ∧ OW P w0 o a w (fun a' w' => Holds w0 (lateF st l n q Fl xs Sq (setL L i)) a' w')) ∨
    (Region.wanted o (yielded l.toArray a.tmps) = false ∧ Holds w0 (lateF st l n q Fl xs Sq (setL L i)) (a.put o.dst undef) w) := by
  simp only [lateB, Bool.and_eq_true] at hB
  obtain ⟨⟨hB1, hB2⟩, hB3⟩ := hB
  have aft : ∀ j, afterB o j = true → L j = true := fun j hj => by obtain ⟨e, he, hb, rfl⟩ := afterB_spec hj; exact hLa e he hb
  -- a tail operation that is done has the one ahead of it done
  have tl : ∀ p op, p < q → l[n + p]? = some op → op.guard = none ∧ (1 ≤ p → afterB op (n + p - 1) = true) ∧ ∀ d, op.dst = some d → prodIdx l n d = none := fun p op hp hop => by
    have := List.all_eq_true.1 hB2 p (List.mem_range.2 hp)
    rw [hop] at this
    simp only [Bool.and_eq_true, Bool.or_eq_true, Option.isNone_iff_eq_none] at this
    refine ⟨this.1.1, fun h1 => ?_, fun d hd => ?_⟩
    · rcases this.1.2 with e | e
      · have := Nat.eq_of_beq_eq_true e; omega
      · exact e
    · have h2 := this.2
      rw [hd] at h2
      exact Option.isNone_iff_eq_none.1 h2
  have len : ∀ p, p < q → ∃ op, l[n + p]? = some op := fun p hp => by
    have := List.all_eq_true.1 hB2 p (List.mem_range.2 hp)
    cases e : l[n + p]? with
    | none => rw [e] at this; cases this
    | some op => exact ⟨op, rfl⟩
  have down : ∀ p, p < q → L (n + p) = true → ∀ j, j ≤ p → L (n + j) = true := by
    intro p
    induction p with
    | zero => intro _ h1 j hj; have : j = 0 := by omega
              subst this; exact h1
    | succ p ih =>
      intro hp h1 j hj
      by_cases e : j = p + 1
      · rw [e]; exact h1
      · obtain ⟨op, hop⟩ := len (p + 1) hp
        obtain ⟨e', he', hb', hj'⟩ := afterB_spec ((tl (p + 1) op hp hop).2.1 (by omega))
        have := hD.closed (n + (p + 1)) op (by omega) hop h1 e' he' hb'
        rw [hj', show n + (p + 1) - 1 = n + p by omega] at this
        exact ih (by omega) this j (by omega)
  -- T_0 stands behind all that are not late
  have nonl : ∀ op, l[n]? = some op → (∀ j, afterB op j = true → L j = true) → ∀ d j, n - j = d → j < n → memN j Fl = false → L j = true := fun op hop hop' d => by
    induction d using Nat.strongRecOn with
    | _ d ih =>
      intro j hd hj hf
      rw [hop] at hB3
      have := List.all_eq_true.1 hB3 j (List.mem_range.2 hj)
      rw [hf] at this
      simp only [Bool.false_or, Bool.or_eq_true] at this
      rcases this with e | e
      · exact hop' j e
      · unfold behindB at e
        obtain ⟨k, hk, e⟩ := List.any_eq_true.1 e
        have hk := List.mem_range.1 hk
        simp only [Bool.and_eq_true, decide_eq_true_eq, Bool.not_eq_true'] at e
        obtain ⟨⟨hjk, hkf⟩, hka⟩ := e
        have hLk := ih (n - k) (by omega) k rfl hk hkf
        cases hok : l[k]? with
        | none => rw [hok] at hka; cases hka
        | some ok =>
          rw [hok] at hka
          obtain ⟨e', he', hb', hj'⟩ := afterB_spec hka
          have := hD.closed k ok (by omega) hok hLk e' he' hb'
          rw [hj'] at this; exact this
  have wanted : o.guard = none → Region.wanted o (yielded l.toArray a.tmps) = true := fun hg => by simp [Region.wanted, hg]
  by_cases hLn : L n = true
  · -- the tail has begun
    have hFL : lateF st l n q Fl xs Sq L = mk (flU l n Fl L) (Sq (cntT n L q)) := if_pos hLn
    rw [hFL] at hH
    by_cases hin : i < n
    · -- a late operation
      have hfl : memN i Fl = true := by
        rw [← Bool.not_eq_false]
        intro hf
        obtain ⟨op, hop⟩ := len 0 (by omega)
        have := nonl op hop (fun j hj => by
          obtain ⟨e, he, hb, hj'⟩ := afterB_spec hj
          have := hD.closed n op (by omega) hop hLn e he hb
          rw [hj'] at this; exact this) _ i rfl hin hf
        rw [hLi] at this; cases this
      have hfi : ∀ {js : List Nat}, (js.all fun i => decide (i < n) && (match l[i]? with | some o => o.guard.isNone && o.dst.isSome | none => false)) = true → memN i js = true → o.guard = none ∧ o.dst.isSome = true := by
        intro js
        induction js with
        | nil => intro _ h2; cases h2
        | cons j js ih =>
          intro h1 h2
          simp only [List.all_cons, Bool.and_eq_true] at h1
          simp only [memN, Bool.or_eq_true] at h2
          rcases h2 with h2 | h2
          · have := Nat.eq_of_beq_eq_true h2
            subst this
            have h3 := h1.1.2
            rw [ho] at h3
            simp only [Bool.and_eq_true, Option.isNone_iff_eq_none] at h3
            exact h3
          · exact ih h1.2 h2
      obtain ⟨hg, hds⟩ := hfi hB1 hfl
      obtain ⟨d, hd⟩ := Option.isSome_iff_exists.1 hds
      obtain ⟨hpd, hdN⟩ := reg_dst h hin ho hd
      obtain ⟨p, hp⟩ : ∃ p, cntT n L q = p := ⟨_, rfl⟩
      have hp1 : 1 ≤ p := by
        rw [← hp]
        rcases Nat.eq_zero_or_pos (cntT n L q) with e | e
        · exfalso
          have : ∀ q, 1 ≤ q → cntT n L q ≠ 0 := by
            intro q
            induction q with
            | zero => intro h; omega
            | succ q ih =>
              intro _
              unfold cntT
              split
              · omega
              · rename_i hc
                rcases Nat.eq_zero_or_pos q with e0 | e0
                · subst e0; exact absurd hLn hc
                · exact ih e0
          exact this q hq e
        · exact e
      have hpq : p ≤ q := by rw [← hp]; exact cntT_le q
      have hco := float_at (hSq.fl p hp1 hpq) i o d hfl ho hd
      rw [hp] at hH
      refine .inl ⟨wanted hg, ?_⟩
      have hst := hco (mk (flU l n Fl L) (Sq p)) rfl rfl (fun y => ?_) (fun d' hd' => by rw [hd] at hd'; cases hd'; rw [hnS p hpq]; exact hdN) a w hH
      · have e2 : (Eff.put (some d) ((Sq p).t d)).app (mk (flU l n Fl L) (Sq p)) = lateF st l n q Fl xs Sq (setL L i) := by
          have e3 : lateF st l n q Fl xs Sq (setL L i) = mk (flU l n Fl (setL L i)) (Sq (cntT n (setL L i) q)) := if_pos (setL_tr hLn)
          have e4 : cntT n (setL L i) q = p := by
            rw [← hp]
            have : ∀ q, cntT n (setL L i) q = cntT n L q := by
              intro q
              induction q with
              | zero => rfl
              | succ q ih =>
                unfold cntT
                have : setL L i (n + q) = L (n + q) := setL_ne (by omega)
                rw [this, ih]
            exact this q
          rw [e3, e4]
          show (mk (flU l n Fl L) (Sq p)).put (some d) ((Sq p).t d) = _
          simp only [mk, St.put, St.mk.injEq, true_and, and_true]
          funext t
          cases ht : Nat.beq t d with
          | true =>
            have := Nat.eq_of_beq_eq_true ht
            subst this
            have : flU l n Fl (setL L i) t = false := by unfold flU; rw [hpd]; simp [setL_eq]
            rw [this]; rfl
          | false =>
            simp only [cond_false]
            have : flU l n Fl (setL L i) t = flU l n Fl L t := by
              unfold flU
              cases hpt : prodIdx l n t with
              | none => rfl
              | some r =>
                simp only
                have hri : r ≠ i := fun e => by
                  subst e
                  obtain ⟨_, op, hop, hdp⟩ := prodIdx_spec hpt
                  rw [ho] at hop; cases hop
                  rw [hd] at hdp; cases hdp
                  simp at ht
                have : setL L i r = L r := setL_ne hri
                rw [this]
            rw [this]
        rw [e2] at hst
        exact hst
      · cases y with
        | tmp t =>
          show (bif flU l n Fl (afterB o) t then T.dead else (Sq p).t t) = .dead ∨ (bif flU l n Fl L t then T.dead else (Sq p).t t) = (bif flU l n Fl (afterB o) t then T.dead else (Sq p).t t)
          cases hu : flU l n Fl (afterB o) t with
          | true => exact .inl rfl
          | false =>
            have : flU l n Fl L t = false := by
              unfold flU at hu ⊢
              cases hpt : prodIdx l n t with
              | none => rfl
              | some r =>
                rw [hpt] at hu
                simp only [Bool.and_eq_false_iff, Bool.not_eq_false'] at hu ⊢
                exact hu.imp id fun h => aft r h
            rw [this]; exact .inr rfl
        | _ => exact .inr rfl
    · -- the next one of the tail
      obtain ⟨p, rfl⟩ : ∃ p, i = n + p := ⟨i - n, by omega⟩
      have hpq : p < q := by omega
      obtain ⟨hg, hprev, hdn⟩ := tl p o hpq ho
      have hp0 : 1 ≤ p := by
        rcases Nat.eq_zero_or_pos p with e | e
        · subst e; rw [Nat.add_zero, hLn] at hLi; cases hLi
        · exact e
      have hLp : L (n + (p - 1)) = true := by have := aft _ (hprev hp0); rwa [show n + p - 1 = n + (p - 1) by omega] at this
      have h1 := down (p - 1) (by omega) hLp
      have h2 : ∀ j, p ≤ j → j < q → L (n + j) = false := fun j a b => by
        rw [← Bool.not_eq_true]
        intro hj
        have := down j b hj p a
        rw [hLi] at this; cases this
      have hc : cntT n L q = p := cntT_at (by omega) (fun j hj => h1 j (by omega)) h2
      rw [hc] at hH
      obtain ⟨f, hfd, hS, hco⟩ := hSq.step p hpq o ho
      refine .inl ⟨wanted hg, ?_⟩
      have hst := hco (mk (flU l n Fl L) (Sq p)) rfl rfl (fun y => ?_) (fun d hd => by rw [hnS p (by omega)]; exact (reg_dst h' hi ho hd).2) a w hH
      · have e2 : f.app (mk (flU l n Fl L) (Sq p)) = lateF st l n q Fl xs Sq (setL L (n + p)) := by
          have e3 : lateF st l n q Fl xs Sq (setL L (n + p)) = mk (flU l n Fl (setL L (n + p))) (Sq (cntT n (setL L (n + p)) q)) := if_pos (setL_tr hLn)
          have e4 : cntT n (setL L (n + p)) q = p + 1 := cntT_at (by omega) (fun j hj => by
            by_cases e : j = p
            · rw [e]; exact setL_eq
            · exact setL_tr (h1 j (by omega))) fun j a b => by
            rw [setL_ne (by omega)]; exact h2 j (by omega) b
          have e5 : flU l n Fl (setL L (n + p)) = flU l n Fl L := by
            funext t
            unfold flU
            cases hpt : prodIdx l n t with
            | none => rfl
            | some r =>
              have hr := (prodIdx_spec hpt).1
              have : setL L (n + p) r = L r := setL_ne (by omega)
              simp only [this]
          rw [e3, e4, e5, hS]
          refine mk_app fun d hd => ?_
          unfold flU
          rw [hdn d (by rw [← hfd]; exact hd)]
        rw [e2] at hst
        exact hst
      · cases y with
        | tmp t =>
          show (bif flU l n Fl (fun _ => false) t then T.dead else (Sq p).t t) = .dead ∨ (bif flU l n Fl L t then T.dead else (Sq p).t t) = (bif flU l n Fl (fun _ => false) t then T.dead else (Sq p).t t)
          cases hu : flU l n Fl (fun _ => false) t with
          | true => exact .inl rfl
          | false =>
            have : flU l n Fl L t = false := by
              unfold flU at hu ⊢
              cases hpt : prodIdx l n t with
              | none => rfl
              | some r =>
                rw [hpt] at hu
                simp only [Bool.not_false, Bool.and_true] at hu
                simp only [hu, Bool.false_and]
            rw [this]; exact .inr rfl
        | _ => exact .inr rfl
  · -- the tail has not begun
    have hLn' : L n = false := by cases e : L n with | true => exact absurd e hLn | false => rfl
    have hFL : lateF st l n q Fl xs Sq L = stOf st l n xs L := if_neg hLn
    rw [hFL] at hH
    by_cases hin : i < n
    · have hD' : Done l n L := ⟨fun p op hp hop hL e he hb => hD.closed p op (by omega) hop hL e he hb⟩
      have e3 : lateF st l n q Fl xs Sq (setL L i) = stOf st l n xs (setL L i) := if_neg (by rw [setL_ne (by omega), hLn']; simp)
      rw [e3]
      exact reg_step h hin ho hD' hLi hLa hH (hO i o hin ho)
    · obtain ⟨p, rfl⟩ : ∃ p, i = n + p := ⟨i - n, by omega⟩
      have hp0 : p = 0 := by
        rcases Nat.eq_zero_or_pos p with e | e
        · exact e
        · have h1 := aft _ ((tl p o (by omega) ho).2.1 e)
          have := down (p - 1) (by omega) (by rwa [show n + p - 1 = n + (p - 1) by omega] at h1) 0 (Nat.zero_le _)
          rw [Nat.add_zero, hLn'] at this; cases this
      subst hp0
      obtain ⟨hg, _, hdn⟩ := tl 0 o (by omega) ho
      obtain ⟨f, hfd, hS, hco⟩ := hSq.step 0 (by omega) o ho
      have hall : ∀ j, j < n → memN j Fl = false → L j = true := fun j hj hf => nonl o ho aft _ j rfl hj hf
      have hwk : Wk (stOf st l n xs L) (mk (flU l n Fl L) (Sq 0)) := by
        refine ⟨hS0.1, hS0.2.1, fun t => ?_⟩
        show (bif flU l n Fl L t then T.dead else (Sq 0).t t) = _ ∨ (bif flU l n Fl L t then T.dead else (Sq 0).t t) = .dead
        cases hu : flU l n Fl L t with
        | true => exact .inr rfl
        | false =>
          simp only [cond_false]
          have e1 : (stOf st l n xs L).t t = (stOf st l n xs (ltB n)).t t := by
            simp only [stOf]
            cases hpt : prodIdx l n t with
            | none => rfl
            | some r =>
              have hr := (prodIdx_spec hpt).1
              have hLr : L r = true := by
                cases hf : memN r Fl with
                | false => exact hall r hr hf
                | true =>
                  unfold flU at hu
                  rw [hpt] at hu
                  simp only [hf, Bool.true_and, Bool.not_eq_false'] at hu
                  exact hu
              simp only [hLr, ltB, hr, decide_true]
          rw [e1]
          exact hS0.2.2 t
      have hH2 := hH.weak hwk
      refine .inl ⟨wanted hg, ?_⟩
      have hst := hco (mk (flU l n Fl L) (Sq 0)) rfl rfl (fun y => ?_) (fun d hd => by rw [hnS 0 (Nat.zero_le _)]; exact (reg_dst h' hi ho hd).2) a w hH2
      · have e2 : f.app (mk (flU l n Fl L) (Sq 0)) = lateF st l n q Fl xs Sq (setL L (n + 0)) := by
          have e3 : lateF st l n q Fl xs Sq (setL L (n + 0)) = mk (flU l n Fl (setL L (n + 0))) (Sq (cntT n (setL L (n + 0)) q)) := if_pos setL_eq
          have h2 : ∀ j, 1 ≤ j → j < q → L (n + j) = false := fun j a b => by
            rw [← Bool.not_eq_true]
            intro hj
            have := down j b hj 0 (Nat.zero_le _)
            rw [Nat.add_zero, hLn'] at this; cases this
          have e4 : cntT n (setL L (n + 0)) q = 1 := cntT_at (by omega) (fun j hj => by
            have : j = 0 := by omega
            subst this; exact setL_eq) fun j a b => by
            rw [setL_ne (by omega)]; exact h2 j a b
          have e5 : flU l n Fl (setL L (n + 0)) = flU l n Fl L := by
            funext t
            unfold flU
            cases hpt : prodIdx l n t with
            | none => rfl
            | some r =>
              have hr := (prodIdx_spec hpt).1
              have : setL L (n + 0) r = L r := setL_ne (by omega)
              simp only [this]
          rw [e3, e4, e5, hS]
          refine mk_app fun d hd => ?_
          unfold flU
          rw [hdn d (by rw [← hfd]; exact hd)]
        rw [e2] at hst
        exact hst
      · cases y with
        | tmp t =>
          show (bif flU l n Fl (fun _ => false) t then T.dead else (Sq 0).t t) = .dead ∨ (bif flU l n Fl L t then T.dead else (Sq 0).t t) = (bif flU l n Fl (fun _ => false) t then T.dead else (Sq 0).t t)
          cases hu : flU l n Fl (fun _ => false) t with
          | true => exact .inl rfl
          | false =>
            have : flU l n Fl L t = false := by
              unfold flU at hu ⊢
              cases hpt : prodIdx l n t with
              | none => rfl
              | some r =>
                rw [hpt] at hu
                simp only [Bool.not_false, Bool.and_true] at hu
                simp only [hu, Bool.false_and]
            rw [this]; exact .inr rfl
        | _ => exact .inr rfl
theorem eff_n {f : Eff} {S : St} : (f.app S).n = S.n := by
  cases f with
  | grow k d z => rfl
  | set k z dst x => cases dst <;> rfl
  | put dst x => cases dst <;> rfl
theorem awp_regionL {st : St} {l : List Oper} {id : Nat} {R : Exit → St → Prop} (n q : Nat) (Fl : List Nat) (hm : P.follows .mixedOrders = true)
    (h : (regB l n st.n && regB l (n + q) st.n && decide (n + q ≤ l.length) && decide (1 ≤ q) && tailOk l (n + q) && lateB l n q Fl) = true)
    (hW : RegW P w0 st l n (l.take n) 0 (fun _ => .dead) st (fun st' => LateW P w0 l n Fl ((l.drop n).take q) st' fun S => Aops P w0 l (l.drop (n + q)) R S)) : Awp P w0 (.region id l.toArray true) R st := by
  simp only [Bool.and_eq_true, decide_eq_true_eq] at h
  obtain ⟨⟨⟨⟨⟨h, h'⟩, hn⟩, hq⟩, hT0⟩, hB⟩ := h
  have htl : (l.take n).length = n := by simp; omega
  have hto : ∀ k, k < (l.take n).length → (l.take n)[k]? = l[0 + k]? := fun k hk => by rw [htl] at hk; simp [hk]
  obtain ⟨xs, _, hO, hL⟩ := regw_xs h (l.take n) 0 _ _ (by omega) hto hW
  obtain ⟨Sq, hS, hK, hs1, hs2⟩ := lateW_seq q ((l.drop n).take q) 0 _ (by simp; omega) (fun k hk => by rw [List.getElem?_take, if_pos hk, List.getElem?_drop]; rfl) hL
  rw [Nat.zero_add] at hK
  have hSeq : LateSeq P w0 l n q Fl Sq := ⟨fun p hp => hs1 p (Nat.zero_le _) (by omega), fun p h1 h2 => hs2 p (by omega) (by omega)⟩
  have hS0 : Wk (stOf st l n xs (ltB n)) (Sq 0) := by
    rw [hS]
    exact out_wk h (l.take n) 0 st (by omega) hto (by rw [stOf_none (fun p _ => by simp [ltB])]; exact ⟨rfl, rfl, fun _ => .inl rfl⟩)
  have len : ∀ p, p < q → ∃ op, l[n + p]? = some op := fun p hp => ⟨_, List.getElem?_eq_getElem (by omega)⟩
  have hnS : ∀ p, p ≤ q → (Sq p).n = st.n := by
    intro p
    induction p with
    | zero => intro _; exact hS0.1
    | succ p ih =>
      intro hp
      obtain ⟨op, hop⟩ := len p (by omega)
      obtain ⟨f, _, hSp, _⟩ := hSeq.step p (by omega) op hop
      rw [hSp, eff_n]; exact ih (by omega)
  intro Fe m hFe
  have hF : ∀ L : Nat → Bool, (∀ p, p < n + q → L p = true) → lateF st l n q Fl xs Sq L = lateF st l n q Fl xs Sq (ltB (n + q)) := fun L hL => by
    have e : ∀ L : Nat → Bool, (∀ p, p < n + q → L p = true) → lateF st l n q Fl xs Sq L = Sq q := fun L hL => by
      have e1 : lateF st l n q Fl xs Sq L = mk (flU l n Fl L) (Sq (cntT n L q)) := if_pos (hL n (by omega))
      rw [e1, cntT_at (Nat.le_refl q) (fun j hj => hL _ (by omega)) fun j a b => by omega]
      have e2 : ∀ t, flU l n Fl L t = false := fun t => by
        unfold flU
        cases hpt : prodIdx l n t with
        | none => rfl
        | some r =>
          have hr := (prodIdx_spec hpt).1
          simp [hL r (by omega)]
      cases hS : Sq q
      simp only [mk, e2, cond_false]
    rw [e L hL, e (ltB (n + q)) fun p hp => by simp [ltB, hp]]
  have hT : ∀ a w, Holds w0 (lateF st l n q Fl xs Sq (ltB (n + q))) a w → wpListIn Fe m P l.toArray (Post w0 R) (l.drop (n + q)) a w := fun a w hH => by
    have e1 : lateF st l n q Fl xs Sq (ltB (n + q)) = Sq q := by
      have e1 : lateF st l n q Fl xs Sq (ltB (n + q)) = mk (flU l n Fl (ltB (n + q))) (Sq (cntT n (ltB (n + q)) q)) := if_pos (by simp [ltB]; omega)
      rw [e1, cntT_at (Nat.le_refl q) (fun j hj => by simp [ltB]; omega) fun j a b => by omega]
      have e2 : ∀ t, flU l n Fl (ltB (n + q)) t = false := fun t => by
        unfold flU
        cases hpt : prodIdx l n t with
        | none => rfl
        | some r =>
          have hr := (prodIdx_spec hpt).1
          simp [ltB]; intro _; omega
      cases hS : Sq q
      simp only [mk, e2, cond_false]
    rw [e1] at hH
    exact hK Fe m hFe a w hH
  intro a w hH
  refine wpIn_region_any hm ?_
  have inv0 : HeadInv .any l.toArray (n + q) (Array.replicate l.toArray.size false) :=
    ⟨by simp, fun j oj _ hl => (by rw [getD_replicate_false] at hl; cases hl), fun t _ ht => getD_in (by simpa using ht) (getD_replicate_false _ _)⟩
  have hF0 : lateF st l n q Fl xs Sq ((Array.replicate l.toArray.size false).getD · false) = st := by
    have e1 : lateF st l n q Fl xs Sq ((Array.replicate l.toArray.size false).getD · false) = stOf st l n xs ((Array.replicate l.toArray.size false).getD · false) := if_neg (by show ¬ (Array.replicate l.toArray.size false).getD n false = true; rw [getD_replicate_false]; simp)
    rw [e1, stOf_none (fun p _ => getD_replicate_false _ _)]
  have := any_preF (m := m) hFe (F := fun L => lateF st l n q Fl xs Sq L) h' hn hT0 (fun L i o a w hi ho hD hLi hLa hH => late_step h h' hB hq hS0 hSeq hnS (fun k o hk ho => hO k o (Nat.zero_le _) hk ho) hi ho hD hLi hLa hH) hF hT (n + q) _ a { w with drawn := w.drawn + 1 } inv0 cntU_none (by rw [hF0]; exact hH.drew)
  rw [show n + q + (l.length - (n + q)) = l.toArray.size by simp; omega] at this
  exact this
end
section
variable {P : Program} {w0 : Cx} {S s : St} {ev : Operand → T} {l os : List Oper} {n : Nat} {Fl is : List Nat} {K : St → Prop} {dst : Option Tmp} {op : Op} {ty : TypeId} {pos : String} {after : Array Edge}
theorem c_storeRow {t : TypeId} {y x : Operand} {agg : Bool} {m k o e sz i j : Nat} {X : D} {es es' : List (List D)} {z : List D} (ht : szB P t agg m = true) (hy : ev y = .ref k o) (hx : ev x = .d X) (hX : X.sc = true ∨ ∃ cs, X = .agg cs) (hm : X.cells.length = m)
    (hk : s.s k = .row e sz es) (ho : o = i * sz + j) (hz : es[i]? = some z) (hj : j + m ≤ sz) (hes : es.set i (setCs z j X.cells) = es') : COp P w0 s ev ⟨none, .store t y x, ty, pos, after, none⟩ (.set k (.row e sz es') none .dead) :=
  fun st hk' _ hev _ => step_of_aops rfl fun ops rest R h => aops_store_row ht (live_ev hev hy (by simp)) (live_ev hev hx (by simp)) hX hm (by rw [hk']; exact hk) ho hz hj hes h
theorem fl_nil : FloatOK P w0 l n Fl S [] := trivial
theorem fl_cons {i : Nat} {o : Oper} {d : Tmp} {x : T} (ho : l[i]? = some o) (hd : o.dst = some d) (hx : S.t d = x) (h : COp P w0 S (mk (flU l n Fl (afterB o)) S).ev o (.put (some d) x)) (hs : FloatOK P w0 l n Fl S is) : FloatOK P w0 l n Fl S (i :: is) := by
  refine ⟨?_, hs⟩
  rw [ho]
  simp only [hd]
  rw [hx]; exact h
theorem late_nil (h : K S) : LateW P w0 l n Fl [] S K := h
theorem late_q {x : T} (hq : QOp P w0 S.n S.s (mk (flU l n Fl fun _ => false) S).ev ⟨dst, op, ty, pos, after, none⟩ x) (hf : FloatOK P w0 l n Fl (S.put dst x) Fl) (h : LateW P w0 l n Fl os (S.put dst x) K) :
    LateW P w0 l n Fl (⟨dst, op, ty, pos, after, none⟩ :: os) S K := ⟨.put dst x, rfl, c_q hq, hf, h⟩
theorem late_set {k : Nat} {z : Site} (hc : COp P w0 S (mk (flU l n Fl fun _ => false) S).ev ⟨none, op, ty, pos, after, none⟩ (.set k z none .dead)) (hf : FloatOK P w0 l n Fl (S.site k z) Fl) (h : LateW P w0 l n Fl os (S.site k z) K) :
    LateW P w0 l n Fl (⟨none, op, ty, pos, after, none⟩ :: os) S K := ⟨.set k z none .dead, rfl, hc, hf, h⟩
theorem late_grow {k d : Nat} {z : Site} (hc : COp P w0 S (mk (flU l n Fl fun _ => false) S).ev ⟨some d, op, ty, pos, after, none⟩ (.grow k d z)) (hf : FloatOK P w0 l n Fl (((S.killS k).site k z).put (some d) (.rs k)) Fl) (h : LateW P w0 l n Fl os (((S.killS k).site k z).put (some d) (.rs k)) K) :
    LateW P w0 l n Fl (⟨some d, op, ty, pos, after, none⟩ :: os) S K := ⟨.grow k d z, rfl, hc, hf, h⟩
end
open Go Go.RowKit

section
variable {P : Program} {w0 : Cx} {n : Nat} {s : Nat → Site} {ev : Operand → T} {dst : Option Tmp} {ty : TypeId} {pos : String} {after : Array Edge} {g : Option (Nat × Bool)}
theorem q_slice3d {t : TypeId} {y yl yh ym : Operand} {e sz lo hi : Nat} {es es' : List (List D)} (ht : slB P t e sz = true) (hy : ev y = .d (.sl sz es)) (hl : ev yl = T.i lo) (hh : ev yh = T.i hi) (hm : ev ym = T.i hi) (h1 : lo < hi) (h2 : hi ≤ es.length) (hes : (es.take hi).drop lo = es') :
    QOp P w0 n s ev ⟨dst, .slice t y (some yl) (some yh) (some ym), ty, pos, after, g⟩ (.d (.sl sz es')) :=
  .mk fun a w ok blk val hv _ hnew => by
    subst hes
    obtain ⟨A, cap, hval, hn, hcap, hsz, hs, hrest⟩ := sl_inv (show Rep w _ (.sl sz es) (a.eval y) by have := hv y; rw [hy] at this; exact this)
    obtain ⟨inf, hi', hs'⟩ := slB_info ht
    have el : a.eval yl = .int .i64 (lo : Int) := RepT.v_eq ((show ev yl = T.i lo from hl) ▸ hv yl)
    have eh : a.eval yh = .int .i64 (hi : Int) := RepT.v_eq ((show ev yh = T.i hi from hh) ▸ hv yh)
    have em : a.eval ym = .int .i64 (hi : Int) := RepT.v_eq ((show ev ym = T.i hi from hm) ▸ hv ym)
    have hbd : (Instr.sliceBounds true es.length cap (some (a.eval yl)) (some (a.eval yh)) (some (a.eval ym))).run P w = .ok (lo, hi, hi) w := by
      rw [el, eh, em]
      simp [Instr.sliceBounds, Instr.sliceBound, asIntOf, show (lo : Int) ≤ (hi : Int) by omega, show (hi : Int) ≤ (cap : Int) by omega, show lo ≤ hi by omega, show hi ≤ cap by omega]
    rcases hrest with rfl | ⟨b, off, vs, rfl, hb', hok, hc, hr⟩
    · simp at h2; omega
    · have hlen : es.length ≤ maxLen := Nat.le_trans hn hcap
      have tk : ∀ (i : Nat) (e : List D), (es.take hi)[i]? = some e → es[i]? = some e := fun i e h => by
        rw [List.getElem?_take] at h
        split at h
        · exact h
        · cases h
      have hl' : (es.take hi).length = hi := by rw [List.length_take]; omega
      have key := slice_rep (w := w) (ok := ok) (es := es.take hi) (lo := lo) (hi := hi) (cap := hi) hb' hok (by omega) (by omega) (fun i e h => hsz i e (tk i e h)) (fun i e j d h => hs i e j d (tk i e h)) (fun i e j d h => hc i e j d (tk i e h)) (fun i e j d h => hr i e j d (tk i e h)) (show lo ≤ hi by omega) (by omega)
      rw [List.take_take, Nat.min_self] at key
      refine ⟨.slice (some ⟨b, off + lo * sz, none⟩) (hi - lo) (hi - lo), w, ?_, Ext.refl w, ?_⟩
      · simp only [execOp, Instr.sliceAt, Sem.run_bind, run_underlying (slB_under ht), Result.andThen_ok, Instr.slice, hval, hbd, sizeOf, my_typeInfo hi', Option.map_some]
        simp [hs', addr_add, show ¬ hi = lo by omega]
      · exact key
end
section
variable {P : Program} {w0 : Cx} {st : St} {a : Act} {w A B : World} {blk : Nat → Option Nat} {val : Nat → Value} {Y : Nat → Prop}
def roundCxY (w0 : Cx) (Y : Nat → Prop) (N l : Nat) (r : Loop) (st : St) (A : World) (blk : Nat → Option Nat) : Cx :=
  { roundCx w0 Y N l r st A blk with ok := fun b => (okOf w0 blk b ∧ ¬ Y b) ∨ Y b }
theorem HoldY.roundY (h : HoldY w0 Y st a A blk val) (N l : Nat) (hN : st.n ≤ N) {r : Loop} (hl : A.heap[l]? = some (.loop r)) : Hold (roundCxY w0 Y N l r st A blk) (upSt N st) { tmps := a.tmps, defers := [] } A (upB N blk) (upV N val) := by
  have hE : ∀ k b, upB N blk k = some b → N ≤ k ∧ blk (k - N) = some b := fun k b hk => by
    simp only [upB] at hk
    cases hb : Nat.ble N k with
    | false => rw [hb] at hk; cases hk
    | true => rw [hb] at hk; exact ⟨Nat.le_of_ble_eq_true hb, hk⟩
  have hge : ∀ k, Nat.ble N (N + k) = true := fun k => by rw [Nat.ble_eq]; omega
  have hok : ∀ b, b < A.heap.size → (okOf w0 blk b ∧ ¬ Y b) → okOf (roundCxY w0 Y N l r st A blk) (upB N blk) b := fun b _ hb => ⟨.inl (.inl hb), fun s hs => hb.1.2 _ (hE s b hs).2⟩
  have hkE : ∀ k, upB N blk (N + k) = blk k ∧ upV N val (N + k) = val k ∧ (upSt N st).s (N + k) = shiftS (N + ·) (st.s k) := fun k => by
    simp only [upB, upV, upSt, upS, hge k, cond_true, Nat.add_sub_cancel_left]
    exact ⟨trivial, trivial, trivial⟩
  refine ⟨⟨rfl, rfl, rfl, Nat.le_refl _, fun _ _ _ => rfl⟩, ⟨⟨[], rfl, .nil, fun b hb => by cases hb⟩, fun b o hb => by obtain ⟨rfl, rfl⟩ := fixL_some hb; exact ⟨hl, rfl⟩⟩, h.size, fun k b hk => ⟨.inr (.inl ⟨_, (hE k b hk).2⟩), (h.new _ b (hE k b hk).2).2.1⟩, fun k k' b hk hk' => ?_, fun k b hk => ?_, fun k => ?_, fun t => ?_⟩
  · have e := h.inj _ _ b (hE k b hk).2 (hE k' b hk').2
    have := (hE k b hk).1
    have := (hE k' b hk').1
    omega
  · simp only [roundCxY, roundCx] at hk
    cases hb : Nat.ble N k && (st.s (k - N)).isVar with
    | false => rw [hb] at hk; cases hk
    | true =>
      rw [hb] at hk
      rw [Bool.and_eq_true] at hb
      refine ⟨by simp only [upB, hb.1, cond_true]; exact hk, ?_, Nat.le_trans hN (Nat.le_of_ble_eq_true hb.1)⟩
      show (upS N st.s k).isVar = true
      simp only [upS, hb.1, cond_true]
      have h2 := hb.2
      cases hs : st.s (k - N) <;> rw [hs] at h2 <;> first | rfl | cases h2
  · show SiteIn _ _ _ _ (upS N st.s) _ _ (upS N st.s k)
    cases hb : Nat.ble N k with
    | false => simp only [upB, upS, hb, cond_false]; rfl
    | true =>
      simp only [upB, upS, hb, cond_true, upV]
      exact (h.site (k - N)).shift hok fun cs _ y _ j _ => hkE j
  · exact (h.tmp t).shift hok fun k _ => hkE k
theorem HoldY.backF {N l : Nat} {r : Loop} {c : Cx} {S : Nat → Site} {a' : Act} {blk2 : Nat → Option Nat} {val2 : Nat → Value} (h : HoldY w0 Y st a A blk val) (hH : Hold c (upSt N (deadSt st S)) a' B blk2 val2)
    (hs : A.heap.size ≤ B.heap.size) (hio : SameIO A B) (hfr : ∀ g, g < A.heap.size → (∀ k, blk k ≠ some g) → g ≠ l → B.heap[g]? = A.heap[g]?) (hl : A.heap[l]? = some (.loop r)) (hlw : w0.w.heap.size ≤ l) (hlf : ∀ o, w0.fix l ≠ some o)
    (hpin : ∀ k b, (st.s k).isVar = true → blk k = some b → c.pin (N + k) = some b) (hnew : ∀ k b, blk2 (N + k) = some b → (∃ j, blk j = some b) ∨ A.heap.size ≤ b)
    (hflat : ∀ k, FlatS (S k)) (hvar : ∀ k, (S k).isVar = (st.s k).isVar) : HoldY w0 Y (loopSt st S) a B (fun k => blk2 (N + k)) (fun k => val2 (N + k)) := by
  have hge : ∀ k, Nat.ble N (N + k) = true := fun k => by rw [Nat.ble_eq]; omega
  have hup : ∀ k, upS N S (N + k) = shiftS (N + ·) (S k) := fun k => by simp only [upS, hge k, cond_true, Nat.add_sub_cancel_left]
  obtain ⟨⟨ms, m1, m2, m3⟩, f1⟩ := h.kept
  have nY : ∀ b, A.heap.size ≤ b → ¬ Y b := fun b hb hY => by have := (h.newY b hY).2; omega
  have pinned : ∀ k b, (st.s k).isVar = true → blk k = some b → blk2 (N + k) = some b := fun k b hv hb => (hH.pin _ _ (hpin k b hv hb)).1
  refine ⟨⟨hio.1.trans h.ext.os, hio.2.1.trans h.ext.tape, hio.2.2.trans h.ext.output, Nat.le_trans h.ext.size hs, fun k hk hm => ?_⟩, ⟨⟨ms, m1, m2, fun b hb => ⟨(m3 b hb).1, ?_⟩⟩, fun b o hf => ⟨?_, (f1 b o hf).2⟩⟩, h.markY, h.fixY, fun g hg => ⟨(h.newY g hg).1, Nat.lt_of_lt_of_le (h.newY g hg).2 hs⟩, h.size, fun k b hb => ?_, fun k k' b hb hb' => ?_, fun k b hb => ?_, fun k => ?_, fun t => ?_⟩
  · rw [hfr k (Nat.lt_of_lt_of_le hk h.ext.size) (fun j hj => ?_) (by omega)]
    · exact h.ext.block k hk hm
    · rcases (h.new j k hj).1 with q | q
      · omega
      · exact hm q
  · have hb' := (m3 b hb).2
    rw [hfr b (heap_lt hb') (h.siteNc hb' rfl) (fun e => by rw [e, hl] at hb'; cases hb')]; exact hb'
  · obtain ⟨q1, q2⟩ := f1 b o hf
    rw [hfr b (heap_lt q1) (h.siteNc q1 q2) (fun e => hlf o (by rw [← e]; exact hf))]; exact q1
  · refine ⟨?_, (hH.new _ b hb).2, ?_⟩
    · rcases hnew k b hb with ⟨j, hj⟩ | q
      · exact (h.new j b hj).1
      · exact .inl (Nat.le_trans h.ext.size q)
    · rcases hnew k b hb with ⟨j, hj⟩ | q
      · exact (h.new j b hj).2.2
      · exact nY b q
  · have := hH.inj _ _ b hb hb'
    omega
  · obtain ⟨q1, q2, q3⟩ := h.pin k b hb
    exact ⟨pinned k b q2 q1, by show (S k).isVar = true; rw [hvar k]; exact q2, q3⟩
  · have h1 := hH.site (N + k)
    rw [show (upSt N (deadSt st S)).s (N + k) = shiftS (N + ·) (S k) from hup k] at h1
    exact SiteIn.flat (h1.unshift (fun b hb hok => hok) fun cs _ y _ j _ => ⟨rfl, rfl, hup j⟩) (hflat k)
  · have h1 := h.tmp t
    show RepT B _ _ _ S (loopT st.s (st.t t)) _
    cases hx : st.t t with
    | d x =>
      rw [hx] at h1
      refine Rep.keepOC (show Rep A _ x _ from h1) hs (fun b vals e z hok hb => ?_) fun b hlt hok => ⟨⟨hok.1.1, fun s hsb => ?_⟩, hok.2⟩
      · rw [hfr b (heap_lt hb) hok.1.2 (fun e => by rw [e, hl] at hb; cases hb)]; exact hb
      · rcases hnew s b hsb with ⟨j, hj⟩ | q
        · exact hok.1.2 j hj
        · omega
    | ref k o =>
      rw [hx] at h1
      simp only [loopT]
      cases hv : (st.s k).isVar with
      | false => trivial
      | true =>
        obtain ⟨q1, b, q2, q3⟩ := h1
        exact ⟨(fun hn => by have := hvar k; rw [hn, hv] at this; cases this), b, pinned k b hv q2, q3⟩
    | rs k => trivial
    | own k r f g => trivial
    | un => rw [hx] at h1; exact h1
    | dead => trivial
theorem awp_rangeH {α β : Type} {g : Operand} {ps : Array Tmp} {assign body : Code} {R : Exit → St → Prop} {f : FuncId} {pre post : List D} {enc : α → List D} {items : List α} {fin : Bool} (N : Nat) (dh : List D) (SH : List Value → β → Nat → Site) (S' : β → Nat → Site) (I : Nat → β → Prop) (X : Exit → β → Prop) (x0 : β)
    (hrnd : w0.rnd = none) (hg : (st.ev g = .d (.mfn (.func f) pre) ∧ post = []) ∨ (st.ev g = .d (.fn (.func f) post) ∧ pre = [])) (he : enB P f = true) (hit : PI P f pre post enc items fin) (hN : Nat.ble st.n N = true) (hps : ∀ y, (enc y).length = ps.size) (hpn : ∀ p ∈ ps.toList, p < st.n) (hfl : ∀ us x k, FlatS (SH us x k))
    (hvar : ∀ us x k, (SH us x k).isVar = (st.s k).isVar) (h0 : I 0 x0) (hs : ∀ a w blk val, Hold w0 st a w blk val → ∃ us blk' val', RepL w (okOf w0 blk') dh us ∧ Hold w0 (loopSt st (SH us x0)) a w blk' val') (hfin : fin = false → ∀ x, ¬ I items.length x)
    (hround : ∀ us, ∀ w1 : Cx, (∀ k b, w1.pin k = some b → (Nat.ble N k && (st.s (k - N)).isVar) = true) → ∀ k x y, I k x → items[k]? = some y → Awp P w1 assign (fun e s => e = .normal ∧ ∀ w2 : Cx, (∀ k b, w2.pin k = some b → (Nat.ble N k && (st.s (k - N)).isVar) = true) →
      Awp P w2 body (fun e s' => (e = .normal ∧ ∃ x', I (k + 1) x' ∧ Le w2 s' (upSt N (deadSt st (SH us x')))) ∨ ((jumpOf e).isSome = true ∧ ∃ x', X e x' ∧ Le w2 s' (upSt N (deadSt st (SH us x'))))) s) (putL ps.toList (enc y) (upSt N (loopSt st (SH us x)))))
    (hback : ∀ us x a w blk val, RepL w (okOf w0 blk) dh us → Hold w0 (loopSt st (SH us x)) a w blk val → Hold w0 (loopSt st (S' x)) a w blk val)
    (hdone : ∀ x, I items.length x → R .normal (loopSt st (S' x))) (hstop : ∀ e x, X e x → R e (loopSt st (S' x))) : Awp P w0 (.rangeFunc g ps assign body) R st := by
  intro F m hF a w hH
  rw [Nat.ble_eq] at hN
  have hFw : F = Fence.wide := by
    rcases hF.1 with e | ⟨l, e⟩
    · exact e
    · have := hF.2; rw [e, hrnd] at this; cases this
  subst hFw
  obtain ⟨blkI, valI, hhI⟩ := hH
  obtain ⟨us0, blk0, val0, hus0, hh0⟩ := hs a w blkI valI hhI
  obtain ⟨S, hSe⟩ : ∃ S : β → Nat → Site, S = SH us0 := ⟨_, rfl⟩
  have hround := hround us0
  have hvar := hvar us0
  have hfl := hfl us0
  have hback0 := hback us0
  rw [← hSe] at hround hvar hfl hback0 hh0
  obtain ⟨v1, v2, hga, hv1', hv2'⟩ : ∃ v1 v2 : List Value, a.eval g = .func (.func f) v1.toArray v2.toArray ∧ RepL w (okOf w0 blk0) pre v1 ∧ RepL w (okOf w0 blk0) post v2 := by
    have evg : ∀ x, st.ev g = .d x → Rep w (okOf w0 blk0) x (a.eval g) := fun x hx => by
      have h1 := hh0.ev g
      have : (loopSt st (S x0)).ev g = .d x := by
        cases g with
        | tmp t => show loopT st.s (st.t t) = _; rw [show st.t t = _ from hx]; rfl
        | _ => exact hx
      rw [this] at h1; exact h1
    rcases hg with ⟨h1, rfl⟩ | ⟨h1, rfl⟩
    · obtain ⟨vs, h2, h3⟩ := mfn_inv (evg _ h1)
      exact ⟨vs, [], h2, h3, trivial⟩
    · obtain ⟨vs, h2, h3⟩ := fn_inv (evg _ h1)
      exact ⟨[], vs, h2, trivial, h3⟩
  have hlow : ∀ {ds : List D} {vs : List Value}, RepL w (okOf w0 blk0) ds vs → RepL w (fun b => okOf w0 blk0 b ∧ b < w.heap.size) ds vs := fun h => RepL.of h.length fun j d v h1 h2 => (h.get j d v h1 h2).ok fun b hb h => ⟨h, hb⟩
  have hv1 := hlow hv1'
  have hv2 := hlow hv2'
  refine wpIn_rangeFunc ?_
  intro fn hfn
  obtain ⟨rec, hrec⟩ : ∃ rec : LoopState → Option Code → Loop, rec = fun st pe => { state := st, pending := pe, fn, tmps := a.tmps, params := ps, assign, body, defers := w.heap.size } := ⟨_, rfl⟩
  obtain ⟨W1, hW1⟩ : ∃ W1, (w.alloc (.deferred (some []))).alloc (.loop (rec .ready none)) = W1 := ⟨_, rfl⟩
  have hL1 : W1.heap[w.heap.size + 1]? = some (.loop (rec .ready none)) := by
    rw [← hW1]; have := World.alloc_heap_new (w.alloc (.deferred (some []))) (.loop (rec .ready none)); rwa [World.size_alloc] at this
  have hK1 : W1.heap[w.heap.size]? = some (.deferred (some [])) := by
    rw [← hW1]; exact (Below.heap_alloc _ _ _ (by simp)).trans (World.alloc_heap_new w _)
  have hE1 : Ext w W1 := by rw [← hW1]; exact ((Ext.refl w).alloc _).alloc _
  have hs1 : W1.heap.size = w.heap.size + 2 := by rw [← hW1]; simp
  have hJ1 : Between w0 st a w (fun b => okOf w0 blk0 b ∧ b < w.heap.size) (w.heap.size + 1) w.heap.size (rec .ready none) (S x0) (fun _ => False) W1 :=
    ⟨⟨blk0, val0, HoldY.of (hh0.ext' hE1), fun g hg => ⟨hg.1, fun h => h⟩⟩, hL1, hK1, ⟨fun h => h, fun h => h⟩, by omega, fun g hg => hE1.block g hg.2⟩
  refine ⟨w.heap.size + 1, [{ target := .collected w.heap.size, args := #[] }], W1, { target := .fn (.func f) v2.toArray, args := v1.toArray ++ #[.func (.yield (w.heap.size + 1)) #[] #[]] }, W1, f,
    v1.toArray ++ #[.func (.yield (w.heap.size + 1)) #[] #[]] ++ v2.toArray, W1, ?_, ?_, fun _ _ => trivial, ?_, fun h => (by simp [Fence.wide] at h), ?_⟩
  · rw [← hW1, hrec]; exact run_enterLoop_outer _ _ _ _ _
  · simp only [resolve, hga]
    simp [go_sem]
  · simp [invoke, go_sem, run_callFunc he]
  · have hargs : v1.toArray ++ #[Value.func (.yield (w.heap.size + 1)) #[] #[]] ++ v2.toArray = (v1 ++ Value.func (.yield (w.heap.size + 1)) #[] #[] :: v2).toArray := by simp
    rw [hargs]
    refine callsIn_wide.2 (callsIn_wide.1 ((hit w (fun b => okOf w0 blk0 b ∧ b < w.heap.size) v1 v2 hv1 hv2 0 (w.heap.size + 1)
      (fun Y s A => match s with
        | (true, s) => ∃ x, I s.length x ∧ Between w0 st a w (fun b => okOf w0 blk0 b ∧ b < w.heap.size) (w.heap.size + 1) w.heap.size (rec .ready none) (S x) Y A
        | (false, _) => ∃ e c x, jumpOf e = some c ∧ X e x ∧ Between w0 st a w (fun b => okOf w0 blk0 b ∧ b < w.heap.size) (w.heap.size + 1) w.heap.size (rec .done (some c)) (S x) Y A) W1 (fun _ => False) ?_ ?_ ?_ ?_ ⟨x0, h0, hJ1⟩).mono ?_))
    · have step : ∀ (r : Loop) (x : β) (Y : Nat → Prop) (A B : World), Between w0 st a w (fun b => okOf w0 blk0 b ∧ b < w.heap.size) (w.heap.size + 1) w.heap.size r (S x) Y A → A.heap.size ≤ B.heap.size → SameIO A B → (∀ g, g < A.heap.size → ¬ Y g → B.heap[g]? = A.heap[g]?) →
          Between w0 st a w (fun b => okOf w0 blk0 b ∧ b < w.heap.size) (w.heap.size + 1) w.heap.size r (S x) (fun g => Y g ∨ (A.heap.size ≤ g ∧ g < B.heap.size)) B := by
        intro r x Y A B hb hAB hio hsame
        obtain ⟨blk, val, hh, hD⟩ := hb.hold
        have hlA := heap_lt hb.rcd
        have hkA := heap_lt hb.def_
        refine ⟨⟨blk, val, hh.step hAB hio hsame, fun g hg => ⟨(hD g hg).1, fun h => ?_⟩⟩, (hsame _ hlA hb.out.1).trans hb.rcd, (hsame _ hkA hb.out.2).trans hb.def_, ⟨fun h => ?_, fun h => ?_⟩, Nat.le_trans hb.size hAB, fun g hg => ?_⟩
        · rcases h with h | ⟨h, _⟩
          · exact (hD g hg).2 h
          · have := hb.size; have := hg.2; omega
        · rcases h with h | ⟨h, _⟩
          · exact hb.out.1 h
          · omega
        · rcases h with h | ⟨h, _⟩
          · exact hb.out.2 h
          · omega
        · rw [hsame g (by have := hb.size; have := hg.2; omega) (hD g hg).2]; exact hb.data g hg
      rintro Y ⟨go, s⟩ A B hJ hAB hio hsame
      cases go with
      | true => obtain ⟨x, hI, hb⟩ := hJ; exact ⟨x, hI, step _ x Y A B hb hAB hio hsame⟩
      | false => obtain ⟨e, c, x, hc, hX, hb⟩ := hJ; exact ⟨e, c, x, hc, hX, step _ x Y A B hb hAB hio hsame⟩
    · have info : ∀ (r : Loop) (x : β) (Y : Nat → Prop) (A : World), Between w0 st a w (fun b => okOf w0 blk0 b ∧ b < w.heap.size) (w.heap.size + 1) w.heap.size r (S x) Y A →
          w.heap.size ≤ A.heap.size ∧ (∀ g, Y g → g < A.heap.size) ∧ ∀ g, g < w.heap.size → (okOf w0 blk0 g ∧ g < w.heap.size) → A.heap[g]? = w.heap[g]? ∧ ¬ Y g := by
        intro r x Y A hb
        obtain ⟨blk, val, hh, hD⟩ := hb.hold
        exact ⟨by have := hb.size; omega, fun g hg => (hh.newY g hg).2, fun g _ hg => ⟨hb.data g hg, (hD g hg).2⟩⟩
      rintro Y ⟨go, s⟩ A hJ
      cases go with
      | true => obtain ⟨x, hI, hb⟩ := hJ; exact info _ x Y A hb
      | false => obtain ⟨e, c, x, hc, hX, hb⟩ := hJ; exact info _ x Y A hb
    · rintro Y s y us A ⟨x, hI, hb⟩ hpre hus m'
      obtain ⟨blk, val, hh, hD⟩ := hb.hold
      have hul : us.length = ps.size := by rw [RepL.length hus]; exact hps y
      have hy := run_yield (P := P) (args := us.toArray) hb.rcd (by rw [hrec]; simpa using hul)
      rw [hrec] at hy
      have hE : ∀ k b, upB N blk k = some b → blk (k - N) = some b := fun k b hk => by
        simp only [upB] at hk
        cases hb : Nat.ble N k with
        | false => rw [hb] at hk; cases hk
        | true => rw [hb] at hk; exact hk
      have hst : Holds (roundCxY w0 Y N (w.heap.size + 1) (rec .ready none) (loopSt st (S x)) A blk) (Am.putL ps.toList (enc y) (upSt N (loopSt st (S x)))) { tmps := (ps.toList.zip us).foldl (fun t (x : Tmp × Value) => t.setIfInBounds x.1 x.2) a.tmps, defers := [] } A :=
        ⟨_, _, Hold.putL ps.toList (enc y) us _ _ (hh.roundY N (w.heap.size + 1) hN hb.rcd) (RepL.of (RepL.length hus) fun j d v h1 h2 => (RepL.get hus j d v h1 h2).ok fun b hb hok => ⟨.inl (by
          rcases hok with q | q
          · exact .inl (hD b q)
          · exact .inr q), fun k hk => by
          have hk2 := hE k b hk
          rcases hok with q | q
          · exact (hD b q).1.2 _ hk2
          · exact (hh.new _ b hk2).2.2 q⟩) hpn⟩
      have hit' : items[s.length]? = some y := by obtain ⟨t, ht⟩ := hpre; rw [← ht]; simp
      have hact : ({ tmps := (ps.zip us.toArray).foldl (fun tmps (x : Tmp × Value) => tmps.setIfInBounds x.1 x.2) a.tmps, defers := [] } : Act) = { tmps := (ps.toList.zip us).foldl (fun t (x : Tmp × Value) => t.setIfInBounds x.1 x.2) a.tmps, defers := [] } := by
        rw [← Array.foldl_toList, Array.toList_zip]
      have hpins : ∀ k b, (bif Nat.ble N k && ((loopSt st (S x)).s (k - N)).isVar then blk (k - N) else none) = some b → (Nat.ble N k && (st.s (k - N)).isVar) = true := fun k b hk => by
        have e : ((loopSt st (S x)).s (k - N)).isVar = (st.s (k - N)).isVar := hvar x (k - N)
        rw [e] at hk
        cases hb : Nat.ble N k && (st.s (k - N)).isVar with
        | true => rfl
        | false => rw [hb] at hk; cases hk
      refine ⟨fn, _, assign, body, hy, roundIn_of_wpIn hfn (wpIn_mono (show assign.wpIn _ _ P _ ({ tmps := (ps.zip us.toArray).foldl (fun tmps (x : Tmp × Value) => tmps.setIfInBounds x.1 x.2) a.tmps, defers := [] } : Act) A from by rw [hact]; exact hround (roundCxY w0 Y N (w.heap.size + 1) (rec .ready none) (loopSt st (S x)) A blk) hpins s.length x y hI hit' (Fence.wide.inRound (w.heap.size + 1)) _ ⟨.inr ⟨_, rfl⟩, rfl⟩ _ _ hst) ?_)⟩
      rintro e a₁ W₁ ⟨s1, ⟨rfl, hw2⟩, blk1, val1, h1⟩
      have hl1 := (h1.defers.fix (w.heap.size + 1) (.loop (rec .ready none)) (by simp [roundCxY, roundCx, fixL])).1
      have h1' := h1.refix (rec .busy none) rfl (.inr rfl)
      refine ⟨_, run_beginRound hl1 (by rw [hrec]), wpIn_mono (hw2 _ hpins (Fence.wide.inRound (w.heap.size + 1)) _ ⟨.inr ⟨_, rfl⟩, rfl⟩ _ _ ⟨_, _, by rw [hrec] at h1' ⊢; exact h1'⟩) ?_⟩
      -- the end of a round, with or without a jump
      have fin_ : ∀ (c1 : Cx), c1 = { roundCxY w0 Y N (w.heap.size + 1) (rec .ready none) (loopSt st (S x)) A blk with fix := fixL (w.heap.size + 1) (rec .busy none) } → ∀ (a₂ : Act) (W₂ : World) (s2 : St) (x' : β) (jump : Option Code), Le c1 s2 (upSt N (deadSt st (S x'))) → Holds c1 s2 a₂ W₂ →
          (Instr.endRound (w.heap.size + 1) jump).run P W₂ = .ok (.bool jump.isNone) (W₂.putObj (w.heap.size + 1) (.loop (rec (if jump.isNone then .ready else .done) jump))) ∧
          ∃ B, W₂.putObj (w.heap.size + 1) (.loop (rec (if jump.isNone then .ready else .done) jump)) = B ∧
            Between w0 st a w (fun b => okOf w0 blk0 b ∧ b < w.heap.size) (w.heap.size + 1) w.heap.size (rec (if jump.isNone then .ready else .done) jump) (S x') Y B ∧ A.heap.size ≤ B.heap.size ∧ SameIO A B ∧ ∀ g, Y g → B.heap[g]? = A.heap[g]? := by
        intro c1 hc1 a₂ W₂ s2 x' jump hle hH2
        subst hc1
        obtain ⟨blk2, val2, h2⟩ := hle a₂ W₂ hH2
        have hl2 := (h2.defers.fix (w.heap.size + 1) (.loop (rec .busy none)) (by simp [fixL, hrec])).1
        have h3 := h2.refix (rec (if jump.isNone then .ready else .done) jump) rfl (.inr rfl)
        have hB : (W₂.putObj (w.heap.size + 1) (.loop (rec (if jump.isNone then .ready else .done) jump))).heap[w.heap.size + 1]? = some (.loop (rec (if jump.isNone then .ready else .done) jump)) := World.putObj_heap_same (heap_lt hl2)
        have hrun : (Instr.endRound (w.heap.size + 1) jump).run P W₂ = .ok (.bool jump.isNone) (W₂.putObj (w.heap.size + 1) (.loop (rec (if jump.isNone then .ready else .done) jump))) := by
          have := run_endRound (P := P) jump hl2
          rw [hrec] at this ⊢; exact this
        refine ⟨hrun, _, rfl, ?_⟩
        generalize hBe : W₂.putObj (w.heap.size + 1) (.loop (rec (if jump.isNone then .ready else .done) jump)) = B at h3 hB
        have hsz : A.heap.size ≤ B.heap.size := h3.ext.size
        have hio : SameIO A B := ⟨h3.ext.os, h3.ext.tape, h3.ext.output⟩
        have hfr : ∀ g, g < A.heap.size → (∀ k, blk k ≠ some g) → g ≠ w.heap.size + 1 → B.heap[g]? = A.heap[g]? := fun g hg hnb hgl => h3.ext.block g hg (fun hm => by
          rcases hm with ⟨k, hk⟩ | hk
          · exact hnb k hk
          · exact hgl hk)
        have hnew : ∀ k b, blk2 (N + k) = some b → (∃ j, blk j = some b) ∨ A.heap.size ≤ b := fun k b hb2 => by
          rcases (h3.new _ b hb2).1 with q | q | q
          · exact .inr q
          · exact .inl q
          · exact absurd (by rw [← q]; exact hb2) ((HoldY.of h3).siteNc hB rfl (N + k))
        have hsw : w0.w.heap.size ≤ w.heap.size := hh0.ext.size
        have hback := hh.backF (N := N) (l := w.heap.size + 1) (r := rec .ready none) (S := S x') (B := B) h3 hsz hio hfr hb.rcd (by omega) (fun o ho => by have := heap_lt (hh0.defers.fix _ o ho).1; omega)
          (fun k b hv hbk => by
            have e : Nat.ble N (N + k) = true := by rw [Nat.ble_eq]; omega
            show (bif Nat.ble N (N + k) && ((loopSt st (S x)).s (N + k - N)).isVar then blk (N + k - N) else none) = some b
            rw [e, Nat.add_sub_cancel_left, hv]; exact hbk)
          hnew (fun k => hfl x' k) (fun k => (hvar x' k).trans (hvar x k).symm)
        rw [loopSt_loopSt (hvar x)] at hback
        have hlA := heap_lt hb.rcd
        refine ⟨⟨⟨_, _, hback, fun g hg => ⟨⟨(hD g hg).1.1, fun k hk => ?_⟩, (hD g hg).2⟩⟩, hB, ?_, hb.out, Nat.le_trans hb.size hsz, fun g hg => ?_⟩, hsz, hio, fun g hg => ?_⟩
        · rcases hnew k g hk with ⟨j, hj⟩ | q
          · exact (hD g hg).1.2 j hj
          · have := hb.size; have := hg.2; omega
        · rw [hfr _ (heap_lt hb.def_) (hh.siteNc hb.def_ rfl) (by omega)]; exact hb.def_
        · rw [hfr g (by have := hb.size; have := hg.2; omega) (hD g hg).1.2 (by have := hg.2; omega)]; exact hb.data g hg
        · exact hfr g (hh.newY g hg).2 (fun k hk => (hh.new k g hk).2.2 hg) (fun e => hb.out.1 (by rw [← e]; exact hg))
      rintro e a₂ W₂ ⟨s2, hend, hH2⟩
      rcases hend with ⟨rfl, x', hI', hle⟩ | ⟨hj, x', hX, hle⟩
      · obtain ⟨hrun, B, hB, h1, h2, h3, h4⟩ := fin_ _ (by rw [hrec]) a₂ W₂ s2 x' none hle hH2
        exact ⟨_, _, hrun, true, rfl, by rw [hB]; exact ⟨x', by rw [List.length_append]; exact hI', h1⟩, by rw [hB]; exact h2, by rw [hB]; exact h3, by rw [hB]; exact h4⟩
      · cases e with
        | ret =>
          obtain ⟨hrun, B, hB, h1, h2, h3, h4⟩ := fin_ _ (by rw [hrec]) a₂ W₂ s2 x' (some .ret) hle hH2
          exact ⟨_, _, hrun, false, rfl, by rw [hB]; exact ⟨.ret, .ret, x', rfl, hX, h1⟩, by rw [hB]; exact h2, by rw [hB]; exact h3, by rw [hB]; exact h4⟩
        | exit id =>
          obtain ⟨hrun, B, hB, h1, h2, h3, h4⟩ := fin_ _ (by rw [hrec]) a₂ W₂ s2 x' (some (.exit id)) hle hH2
          exact ⟨_, _, hrun, false, rfl, by rw [hB]; exact ⟨.exit id, .exit id, x', rfl, hX, h1⟩, by rw [hB]; exact h2, by rw [hB]; exact h3, by rw [hB]; exact h4⟩
        | _ => cases hj
    · rintro hf Y A ⟨x, hI, _⟩
      exact hfin hf x hI
    · have behind : ∀ (W2 : World) (r : Loop) (x : β) (Y : Nat → Prop) (st' : LoopState), Between w0 st a w (fun b => okOf w0 blk0 b ∧ b < w.heap.size) (w.heap.size + 1) w.heap.size r (S x) Y W2 →
          Holds w0 (loopSt st (S' x)) { a with defers := { target := .collected w.heap.size, args := #[] } :: a.defers } (W2.putObj (w.heap.size + 1) (.loop { r with state := st' })) := by
        intro W2 r x Y st' hb
        obtain ⟨blk, val, hh, hD⟩ := hb.hold
        have hlA := heap_lt hb.rcd
        have hck : CK W2 (W2.putObj (w.heap.size + 1) (.loop { r with state := st' })) := ⟨by rw [World.putObj_size]; exact Nat.le_refl _, fun b vals e z hc => by
          rw [World.putObj_heap_other (fun e' => by rw [e', hb.rcd] at hc; cases hc)]; exact hc, fun b es z hc => by
          rw [World.putObj_heap_other (fun e' => by rw [e', hb.rcd] at hc; cases hc)]; exact hc⟩
        have hm := hh.hold
        obtain ⟨⟨ms0, n1, n2, n3⟩, _⟩ := hh0.defers
        obtain ⟨⟨ms, m1, m2, m3⟩, mf⟩ := hm.defers
        have hlt : ∀ b ∈ ms, b < w.heap.size := fun b hb' => by
          have : ({ target := .collected b, args := #[] } : Deferred) ∈ a.defers := by rw [m1]; exact List.mem_map.2 ⟨b, hb', rfl⟩
          rw [n1] at this
          obtain ⟨b', hb2, e⟩ := List.mem_map.1 this
          cases e
          exact heap_lt (n3 b hb2).2
        have hgood : RepL (W2.putObj (w.heap.size + 1) (.loop { r with state := st' })) (okOf w0 blk) dh us0 := (hlow hus0).imp fun d v h => (h.keep (w' := W2) (ok' := okOf w0 blk) (by have := hb.size; omega) (fun b o hok ho => by rw [hb.data b hok]; exact ho) (fun b _ hok => (hD b hok).1)).keepC hck
        refine ⟨blk, val, hback0 x _ _ _ _ hgood ?_⟩
        refine ⟨⟨hm.ext.os, hm.ext.tape, hm.ext.output, by rw [World.putObj_size]; exact hm.ext.size, fun k hk hmk => ?_⟩, ⟨⟨w.heap.size :: ms, ?_, List.nodup_cons.2 ⟨fun h => by have := hlt _ h; omega, m2⟩, fun b hb' => ?_⟩, fun b o hf => ?_⟩, hm.size, fun s b hsb => ⟨(hm.new s b hsb).1, by rw [World.putObj_size]; exact (hm.new s b hsb).2⟩, hm.inj, hm.pin, fun s => (hm.site s).keepC hck, fun t => (hm.tmp t).keepC hck⟩
        · rw [World.putObj_heap_other (by have := hh0.ext.size; omega)]; exact hm.ext.block k hk hmk
        · show _ :: a.defers = _
          rw [m1]; rfl
        · rcases List.mem_cons.1 hb' with rfl | hb'
          · exact ⟨.inl hh0.ext.size, by rw [World.putObj_heap_other (by omega)]; exact hb.def_⟩
          · exact ⟨(m3 b hb').1, by rw [World.putObj_heap_other (by have := hlt b hb'; omega)]; exact (m3 b hb').2⟩
        · refine ⟨?_, (mf b o hf).2⟩
          rw [World.putObj_heap_other (by have := heap_lt (hh0.defers.fix b o hf).1; omega)]; exact (mf b o hf).1
      rintro e W2 ⟨⟨v, rfl⟩, Y, ⟨go, s⟩, hJ, hgo⟩
      cases go with
      | true =>
        obtain ⟨x, hI, hb⟩ := hJ
        have hsi : s = items := hgo rfl
        subst hsi
        refine ⟨none, _, by have := run_endLoop (P := P) hb.rcd (by rw [hrec]; simp); rw [hrec] at this; exact this, ?_⟩
        exact ⟨_, hdone x hI, by have := behind W2 _ x Y .exhausted hb; rw [hrec] at this; exact this⟩
      | false =>
        obtain ⟨e, c, x, hc, hX, hb⟩ := hJ
        refine ⟨some c, _, by have := run_endLoop (P := P) hb.rcd (by rw [hrec]; simp); rw [hrec] at this; exact this, ?_⟩
        have hq : Post w0 R e _ _ := ⟨_, hstop e x hX, by have := behind W2 _ x Y .exhausted hb; rw [hrec] at this; exact this⟩
        cases e with
        | ret => cases hc; exact wpIn_ret hq
        | exit id => cases hc; exact wpIn_exit hq
        | _ => cases hc
end
section
variable {P : Program} {w0 : Cx} {st : St} {a : Act} {w : World} {blk : Nat → Option Nat} {val : Nat → Value}
def hideS (j : Nat) (u : Value) : Site → Site
  | .tbox cs => .tbox (cs.set j (.d (.v u)))
  | x => x
def hideL (k j : Nat) (u : Value) : List (Nat × Site) → List (Nat × Site)
  | [] => []
  | p :: ps => (p.1, bif Nat.beq p.1 k then hideS j u p.2 else p.2) :: hideL k j u ps
theorem siteOf_hide (k j : Nat) (u : Value) : ∀ (ss : List (Nat × Site)) (i : Nat), siteOf (hideL k j u ss) i = bif Nat.beq i k then hideS j u (siteOf ss i) else siteOf ss i
  | [], i => by
    show Site.no = bif Nat.beq i k then hideS j u .no else .no
    cases Nat.beq i k <;> rfl
  | (q, x) :: ss, i => by
    have ih := siteOf_hide k j u ss i
    simp only [siteOf, hideL, lookN] at ih ⊢
    cases hq : Nat.beq i q with
    | true =>
      simp only [cond_true]
      rw [Nat.eq_of_beq_eq_true hq]
    | false => exact ih
theorem hide_var (k j : Nat) (u : Value) (ss : List (Nat × Site)) (i : Nat) : (siteOf (hideL k j u ss) i).isVar = (siteOf ss i).isVar := by
  rw [siteOf_hide]
  cases Nat.beq i k
  · rfl
  · simp only [cond_true]
    cases siteOf ss i <;> rfl
theorem flatS_of {l : List (Nat × Site)} (h : ∀ p ∈ l, FlatS p.2) (i : Nat) : FlatS (siteOf l i) := by
  unfold siteOf
  cases hx : lookN i l with
  | none => trivial
  | some x =>
    simp only
    induction l with
    | nil => cases hx
    | cons p l ih =>
      simp only [lookN] at hx
      cases hq : Nat.beq i p.1 with
      | true => rw [hq] at hx; cases hx; exact h p (by simp)
      | false => rw [hq] at hx; exact ih (fun q hq => h q (by simp [hq])) hx
theorem Hold.weakH {s s' : St} (hh : Hold w0 s a w blk val) (hw : Wk s s') : Hold w0 s' a w blk val := by
  obtain ⟨h1, h2, h3⟩ := hw
  refine ⟨hh.ext, hh.defers, by rw [h1]; exact hh.size, hh.new, hh.inj, by rw [h1, h2]; exact hh.pin, by rw [h2]; exact hh.site, fun t => ?_⟩
  rw [h2]
  rcases h3 t with e | e
  · rw [e]; exact hh.tmp t
  · rw [e]; trivial
def FlatTL : List T → Prop
  | [] => True
  | x :: xs => FlatT x ∧ FlatTL xs
theorem ftl_nil : FlatTL [] := trivial
theorem ftl_cons {x : T} {xs : List T} (h : FlatT x) (hs : FlatTL xs) : FlatTL (x :: xs) := ⟨h, hs⟩
theorem ftl_mem : ∀ {xs : List T}, FlatTL xs → ∀ x ∈ xs, FlatT x
  | [], _, x, hx => by cases hx
  | y :: ys, h, x, hx => by
    rcases List.mem_cons.1 hx with rfl | hx
    · exact h.1
    · exact ftl_mem h.2 x hx
theorem fst_tbox {cs : List T} (h : FlatTL cs) : FlatS (.tbox cs) := fun x hx => ftl_mem h x hx
theorem fst_box {cs : List D} (h : FlatAll cs) : FlatS (.box cs) := fun x hx => FlatAll.mem h x hx
def FlatSL : List (Nat × Site) → Prop
  | [] => True
  | p :: ps => FlatS p.2 ∧ FlatSL ps
theorem fsl_nil : FlatSL [] := trivial
theorem fsl_cons {k : Nat} {x : Site} {ps : List (Nat × Site)} (h : FlatS x) (hs : FlatSL ps) : FlatSL ((k, x) :: ps) := ⟨h, hs⟩
theorem fsl_mem : ∀ {ps : List (Nat × Site)}, FlatSL ps → ∀ p ∈ ps, FlatS p.2
  | [], _, x, hx => by cases hx
  | y :: ys, h, x, hx => by
    rcases List.mem_cons.1 hx with rfl | hx
    · exact h.1
    · exact fsl_mem h.2 x hx
theorem Hold.swap {st st' : St} {k : Nat} {cs cs' : List T} (hh : Hold w0 st a w blk val) (hk : st.s k = .tbox cs) (hn : st'.n = st.n) (ht : st'.t = st.t) (hk' : st'.s k = .tbox cs') (ho : ∀ i, i ≠ k → st'.s i = st.s i) (hl : cs'.length = cs.length)
    (hc : ∀ (vals : Array Value), (∀ (j : Nat) (x : T), cs[j]? = some x → ∃ v, vals[j]? = some v ∧ v.oneCell' = true ∧ RepT w (okOf w0 blk) blk val st.s x v) → (∃ b e, blk k = some b ∧ w.heap[b]? = some (.cells vals e (0, 0))) → ∀ (j : Nat) (y : T), cs'[j]? = some y → ∃ v, vals[j]? = some v ∧ v.oneCell' = true ∧ RepT w (okOf w0 blk) blk val st.s y v) :
    Hold w0 st' a w blk val := by
  have hrel : ∀ j, blk j = blk j ∧ val j = val j ∧ (st.s j ≠ .no → st'.s j ≠ .no) ∧ ((∃ e sz es, st.s j = .row e sz es) → ∃ e sz es, st'.s j = .row e sz es) := fun j => by
    refine ⟨rfl, rfl, ?_⟩
    by_cases e : j = k
    · subst e
      exact ⟨fun _ => by rw [hk']; simp, fun ⟨e, sz, es, q⟩ => by rw [hk] at q; cases q⟩
    · rw [ho j e]; exact ⟨id, id⟩
  refine ⟨hh.ext, hh.defers, by rw [hn]; exact hh.size, hh.new, hh.inj, fun i b hi => ?_, fun i => ?_, fun t => ?_⟩
  · obtain ⟨q1, q2, q3⟩ := hh.pin i b hi
    refine ⟨q1, ?_, by rw [hn]; exact q3⟩
    by_cases e : i = k
    · subst e; rw [hk']; rfl
    · rw [ho i e]; exact q2
  · by_cases e : i = k
    · subst e
      have hs := hh.site i
      rw [hk] at hs
      obtain ⟨b, e, vals, h1, h2, h3, h5⟩ := hs
      rw [hk']
      have h6 := hc vals h5 ⟨b, e, h1, h2⟩
      exact ⟨b, e, vals, h1, h2, by omega, fun j y hy => let ⟨v, hv, hv1, hr⟩ := h6 j y hy; ⟨v, hv, hv1, hr.to (fun _ _ h => h) fun j _ => hrel j⟩⟩
    · rw [ho i e]
      exact (hh.site i).to (fun _ _ h => h) (.inl rfl) fun _ _ _ _ j _ => hrel j
  · rw [ht]
    exact (hh.tmp t).to (fun _ _ h => h) fun j _ => hrel j
theorem set_at {cs : List T} {j i : Nat} {x y : T} (h : (cs.set j x)[i]? = some y) : (i = j ∧ y = x) ∨ (i ≠ j ∧ cs[i]? = some y) := by
  rw [List.getElem?_set] at h
  split at h
  · rename_i e
    split at h
    · cases h; exact .inl ⟨e.symm, rfl⟩
    · cases h
  · rename_i e; exact .inr ⟨fun q => e q.symm, h⟩
theorem awp_rangeHC {α β : Type} {g : Operand} {ps : Array Tmp} {assign body : Code} {R : Exit → St → Prop} {f : FuncId} {pre post : List D} {enc : α → List D} {items : List α} {fin : Bool} {n : Nat} (N : Nat) (sl : List (Nat × T)) (ss : β → List (Nat × Site)) (I : Nat → β → Prop) (X : Exit → β → Prop) (x0 : β) (k j : Nat) (d : D)
    (hrnd : w0.rnd = none) (hle : Le w0 st (cSt n sl (ss x0))) (hg : ((cSt n sl (ss x0)).ev g = .d (.mfn (.func f) pre) ∧ post = []) ∨ ((cSt n sl (ss x0)).ev g = .d (.fn (.func f) post) ∧ pre = [])) (he : enB P f = true) (hit : PI P f pre post enc items fin) (hN : Nat.ble n N = true) (hps : ∀ y, (enc y).length = ps.size) (hpn : ps.toList.all (fun p => Nat.blt p n) = true)
    (hfl : ∀ u x, ∀ p ∈ hideL k j u (ss x), FlatS p.2) (hcell : ∀ x, ∃ cs, siteOf (ss x) k = .tbox cs ∧ cs[j]? = some (.d d))
    (hvar : ∀ x, (ss x).map kvS = (ss x0).map kvS) (h0 : I 0 x0) (hfin : fin = false → ∀ x, ¬ I items.length x)
    (hround : ∀ u : Value, ∀ w1 : Cx, (∀ k b, w1.pin k = some b → (Nat.ble N k && ((cSt n sl (ss x0)).s (k - N)).isVar) = true) → ∀ i x y, I i x → items[i]? = some y → Awp P w1 assign (fun e s => e = .normal ∧ ∀ w2 : Cx, (∀ k b, w2.pin k = some b → (Nat.ble N k && ((cSt n sl (ss x0)).s (k - N)).isVar) = true) →
      Awp P w2 body (fun e s' => (e = .normal ∧ ∃ x', I (i + 1) x' ∧ Le w2 s' (upSt N (deadSt (cSt n sl (ss x0)) (siteOf (hideL k j u (ss x')))))) ∨ ((jumpOf e).isSome = true ∧ ∃ x', X e x' ∧ Le w2 s' (upSt N (deadSt (cSt n sl (ss x0)) (siteOf (hideL k j u (ss x'))))))) s) (putL ps.toList (enc y) (upSt N (loopSt (cSt n sl (ss x0)) (siteOf (hideL k j u (ss x)))))))
    (hdone : ∀ x, I items.length x → R .normal (loopSt (cSt n sl (ss x0)) (siteOf (ss x)))) (hstop : ∀ e x, X e x → R e (loopSt (cSt n sl (ss x0)) (siteOf (ss x)))) : Awp P w0 (.rangeFunc g ps assign body) R st := by
  have weak : ∀ (S : Nat → Site), (∀ i, (S i).isVar = ((cSt n sl (ss x0)).s i).isVar) → ∀ {s1 : St}, s1.n = n → s1.s = S → s1.t = (cSt n sl (ss x0)).t → Wk s1 (loopSt (cSt n sl (ss x0)) S) := fun S hS s1 h1 h2 h3 => by
    refine ⟨h1.symm, h2.symm, fun t => ?_⟩
    show loopT (cSt n sl (ss x0)).s ((cSt n sl (ss x0)).t t) = _ ∨ loopT (cSt n sl (ss x0)).s ((cSt n sl (ss x0)).t t) = .dead
    rw [h3]
    cases hx : (cSt n sl (ss x0)).t t with
    | ref k o =>
      simp only [loopT]
      cases ((cSt n sl (ss x0)).s k).isVar
      · exact .inr rfl
      · exact .inl rfl
    | rs k => exact .inr rfl
    | own k r f g => exact .inr rfl
    | _ => exact .inl rfl
  refine Awp.le hle (awp_rangeH N [d] (fun us x => siteOf (hideL k j (us.headD undef) (ss x))) (fun x => siteOf (ss x)) I X x0 hrnd hg he hit hN hps (fun p hp => ?_) (fun us x i => flatS_of (hfl _ x) i) (fun us x i => (hide_var k j _ (ss x) i).trans (siteOf_var (hvar x) i)) h0 (fun a w blk val h => ?_) hfin (fun us => hround (us.headD undef)) (fun us x a w blk val hus h => ?_) hdone hstop)
  · have := List.all_eq_true.1 hpn p hp
    rw [Nat.blt_eq] at this; exact this
  · obtain ⟨cs, hcs, hj⟩ := hcell x0
    have hs := h.site k
    rw [show (cSt n sl (ss x0)).s k = .tbox cs from hcs] at hs
    obtain ⟨b, e, vals, h1, h2, h3, h5⟩ := hs
    obtain ⟨u, hu, hu1, hr⟩ := h5 j _ hj
    let s1 : St := { n := n, t := (cSt n sl (ss x0)).t, s := siteOf (hideL k j u (ss x0)) }
    have hsw : Hold w0 s1 a w blk val := h.swap (st' := s1) (k := k) (cs' := cs.set j (.d (.v u))) hcs rfl rfl (by
        show siteOf (hideL k j u (ss x0)) k = _
        rw [siteOf_hide, Nat.beq_refl, hcs]; rfl) (fun i hi => by
        show siteOf (hideL k j u (ss x0)) i = siteOf (ss x0) i
        rw [siteOf_hide]
        have : Nat.beq i k = false := by rw [← Bool.not_eq_true]; exact fun e => hi (Nat.eq_of_beq_eq_true e)
        rw [this]; rfl) (by simp) (fun vals' h5' ⟨b', e', h1', h2'⟩ i y hy => by
        rw [h1] at h1'; cases h1'
        rw [h2] at h2'; cases h2'
        rcases set_at hy with ⟨rfl, rfl⟩ | ⟨_, hy⟩
        · exact ⟨u, hu, hu1, Rep.v u hu1⟩
        · exact h5' i y hy)
    exact ⟨[u], blk, val, ⟨hr, trivial⟩, Hold.weakH hsw (weak _ (fun i => (hide_var k j u (ss x0) i)) rfl rfl rfl)⟩
  · obtain ⟨cs, hcs, hj⟩ := hcell x
    match us, hus with
    | [u], hus =>
      have hkk : siteOf (hideL k j u (ss x)) k = .tbox (cs.set j (.d (.v u))) := by rw [siteOf_hide, Nat.beq_refl, hcs]; rfl
      refine h.swap (k := k) (cs := cs.set j (.d (.v u))) (cs' := cs) hkk rfl rfl hcs (fun i hi => ?_) (by simp) (fun vals' h5' _ i y hy => ?_)
      · show siteOf (ss x) i = siteOf (hideL k j u (ss x)) i
        rw [siteOf_hide]
        have : Nat.beq i k = false := by rw [← Bool.not_eq_true]; exact fun e => hi (Nat.eq_of_beq_eq_true e)
        rw [this]; rfl
      · by_cases e : i = j
        · subst e
          have hlt := (List.getElem?_eq_some_iff.1 hj).1
          obtain ⟨v, hv, hv1, hr⟩ := h5' i (.d (.v u)) (by rw [List.getElem?_set_self hlt])
          have : v = u := Rep.v_eq hr
          subst this
          rw [hj] at hy; cases hy
          exact ⟨v, hv, hv1, hus.1⟩
        · exact h5' i y (by rw [List.getElem?_set_ne (fun q => e q.symm)]; exact hy)
theorem awp_rangeFC {α β : Type} {g : Operand} {ps : Array Tmp} {assign body : Code} {R : Exit → St → Prop} {f : FuncId} {pre post : List D} {enc : α → List D} {items : List α} {fin : Bool} {n : Nat} (N : Nat) (sl : List (Nat × T)) (ss : β → List (Nat × Site)) (I : Nat → β → Prop) (X : Exit → β → Prop) (x0 : β)
    (hrnd : w0.rnd = none) (hle : Le w0 st (cSt n sl (ss x0))) (hg : ((cSt n sl (ss x0)).ev g = .d (.mfn (.func f) pre) ∧ post = []) ∨ ((cSt n sl (ss x0)).ev g = .d (.fn (.func f) post) ∧ pre = [])) (he : enB P f = true) (hit : PI P f pre post enc items fin) (hN : Nat.ble n N = true) (hps : ∀ y, (enc y).length = ps.size) (hpn : ps.toList.all (fun p => Nat.blt p n) = true)
    (hfl : ∀ x, ∀ p ∈ ss x, FlatS p.2)
    (hvar : ∀ x, (ss x).map kvS = (ss x0).map kvS) (h0 : I 0 x0) (hfin : fin = false → ∀ x, ¬ I items.length x)
    (hround : ∀ w1 : Cx, (∀ k b, w1.pin k = some b → (Nat.ble N k && ((cSt n sl (ss x0)).s (k - N)).isVar) = true) → ∀ k x y, I k x → items[k]? = some y → Awp P w1 assign (fun e s => e = .normal ∧ ∀ w2 : Cx, (∀ k b, w2.pin k = some b → (Nat.ble N k && ((cSt n sl (ss x0)).s (k - N)).isVar) = true) →
      Awp P w2 body (fun e s' => (e = .normal ∧ ∃ x', I (k + 1) x' ∧ Le w2 s' (upSt N (deadSt (cSt n sl (ss x0)) (siteOf (ss x'))))) ∨ ((jumpOf e).isSome = true ∧ ∃ x', X e x' ∧ Le w2 s' (upSt N (deadSt (cSt n sl (ss x0)) (siteOf (ss x')))))) s) (putL ps.toList (enc y) (upSt N (loopSt (cSt n sl (ss x0)) (siteOf (ss x))))))
    (hdone : ∀ x, I items.length x → R .normal (loopSt (cSt n sl (ss x0)) (siteOf (ss x)))) (hstop : ∀ e x, X e x → R e (loopSt (cSt n sl (ss x0)) (siteOf (ss x)))) : Awp P w0 (.rangeFunc g ps assign body) R st := by
  refine Awp.le hle (awp_rangeH N [] (fun _ x => siteOf (ss x)) (fun x => siteOf (ss x)) I X x0 hrnd hg he hit hN hps (fun p hp => ?_) (fun _ x i => flatS_of (hfl x) i) (fun _ x i => siteOf_var (hvar x) i) h0 (fun a w blk val h => ⟨[], blk, val, trivial, Hold.weakH h ⟨rfl, rfl, fun t => ?_⟩⟩) hfin (fun _ => hround) (fun _ _ _ _ _ _ _ h => h) hdone hstop)
  · have := List.all_eq_true.1 hpn p hp
    rw [Nat.blt_eq] at this; exact this
  · show loopT (cSt n sl (ss x0)).s ((cSt n sl (ss x0)).t t) = _ ∨ loopT (cSt n sl (ss x0)).s ((cSt n sl (ss x0)).t t) = .dead
    cases hx : (cSt n sl (ss x0)).t t with
    | ref k o =>
      simp only [loopT]
      cases ((cSt n sl (ss x0)).s k).isVar
      · exact .inr rfl
      · exact .inl rfl
    | rs k => exact .inr rfl
    | own k r f g => exact .inr rfl
    | _ => exact .inl rfl
end
section
variable {P : Program} {α σ : Type} {J : (Nat → Prop) → σ → World → Prop} {c : Cx} {st : St} {s : σ}
theorem iwp_regionD {l : List Oper} {id : Nat} {R : Exit → St → σ → Prop} (n : Nat) (hm : P.follows .mixedOrders = true) (hJ : JStep J) (h : (regB l n st.n && decide (n ≤ l.length) && tailOk l n) = true)
    (hW : ∀ c' : Cx, (∀ b, c'.mine b → c'.ok b) → RegW P c' st l n (l.take n) 0 (fun _ => .dead) st (fun st' => Iops P J c l (l.drop n) R st' s)) : Iwp P J c (.region id l.toArray true) R st s := by
  simp only [Bool.and_eq_true, decide_eq_true_eq] at h
  obtain ⟨⟨h, hn⟩, hB⟩ := h
  have htl : (l.take n).length = n := by simp; omega
  have hto : ∀ k, k < (l.take n).length → (l.take n)[k]? = l[0 + k]? := fun k hk => by rw [htl] at hk; simp [hk]
  intro m Y a w blk val hh hj
  obtain ⟨xs, _, hO, hK⟩ := regw_xs h (l.take n) 0 _ _ (by omega) hto (hW (innerCx c Y a w blk) hh.mineOk)
  have hH : Holds (innerCx c Y a w blk) st a w := ⟨blk, val, hh.inner⟩
  have hT : ∀ a' w', Holds (innerCx c Y a w blk) (stOf st l n xs (ltB n)) a' w' → wpListIn Fence.wide m P l.toArray (fun e a' w' => ∃ st' s' Y' blk' val', R e st' s' ∧ HoldI c Y' st' a' w' blk' val' ∧ J Y' s' w') (l.drop n) a' w' := fun a' w' hH' => by
    obtain ⟨blk', val', hk⟩ := hH'.weak (out_wk h (l.take n) 0 st (by omega) hto (by rw [stOf_none (fun p _ => by simp [ltB])]; exact ⟨rfl, rfl, fun _ => .inl rfl⟩))
    obtain ⟨Y', h1, h2⟩ := hh.after hJ hj hk
    exact hK m Y' a' w' blk' val' h1 h2
  refine wpIn_region_any hm ?_
  have inv0 : HeadInv .any l.toArray n (Array.replicate l.toArray.size false) :=
    ⟨by simp, fun j oj _ hl => (by rw [getD_replicate_false] at hl; cases hl), fun t _ ht => getD_in (by simpa using ht) (getD_replicate_false _ _)⟩
  have := any_pre (F := Fence.wide) (m := m) (w0 := innerCx c Y a w blk) ⟨.inl rfl, rfl⟩ h hn hB (fun k o hk ho => hO k o (Nat.zero_le _) hk ho) hT n _ a { w with drawn := w.drawn + 1 } inv0 cntU_none (by rw [stOf_none (fun p _ => getD_replicate_false _ _)]; exact hH.drew)
  rw [show n + (l.length - n) = l.toArray.size by simp; omega] at this
  exact this
end
open Go Go.RowKit

section
variable {P : Program} {w0 : Cx} {n : Nat} {s : Nat → Site} {ev : Operand → T} {dst : Option Tmp} {ty : TypeId} {pos : String} {after : Array Edge} {g : Option (Nat × Bool)}
theorem run_callValueM {o : Oper} {a : Act} {w : World} {fv : Operand} {args : Array Operand} {at_ : Array TypeId} {f : FuncId} {vs : Array Value} (ho : o.op = .call ⟨.value fv, args, at_⟩) (hf : a.eval fv = .func (.func f) vs #[]) (h : enB P f = true) :
    (execOp a.eval o).run P w = .ok (.enter f (vs ++ args.map a.eval)) w := by
  simp [execOp, ho, resolve, hf, Deferred.ofValue, invoke, run_callFunc h]
theorem q_callM {fv : Operand} {f : FuncId} {ys : List Operand} {at_ : Array TypeId} {cap ds : List D} {r : D} (he : enB P f = true) (hf : ev fv = .d (.mfn (.func f) cap)) (ha : ArgsD ev ys ds) (hr : PC P f (cap ++ ds) r) :
    QOp P w0 n s ev ⟨dst, .call ⟨.value fv, ys.toArray, at_⟩, ty, pos, after, g⟩ (.d r) := by
  intro st a w ⟨blk, val, hh⟩ hs hn hev hd
  obtain ⟨blk', hy, hsite, _⟩ := QOp.core hh hs hev
  have hargs := args_rep hy ha
  obtain ⟨vs, hv, hcap⟩ := mfn_inv (show Rep w _ (.mfn (.func f) cap) (a.eval fv) by have := hy fv; rw [hf] at this; exact this)
  refine ow_of_wp (fun c hc => by cases hc) ?_
  unfold Oper.wp
  rw [run_callValueM rfl hv he]
  have hc := hr w (okOf w0 blk) (vs ++ ys.map a.eval) (hcap.append hargs)
  have harr : ((vs ++ ys.map a.eval).toArray : Array Value) = vs.toArray ++ ys.toArray.map a.eval := by simp
  rw [harr] at hc
  refine hc.mono ?_
  rintro e w' ⟨v, rfl, hE, hR⟩
  refine ⟨blk, val, (hh.ext' hE).put dst (.d r) v (fun d h => by rw [hn]; exact hd d h) ?_⟩
  refine Rep.ok hR fun b _ hb => ?_
  rcases hb with hb | hb
  · exact hb
  · exact ⟨.inr (Nat.le_trans hh.ext.size hb), fun k hk => by have := (hh.new k b hk).2; omega⟩
theorem q_index_ar {t e m : TypeId} {y z : Operand} {cs : List D} {d : D} {i : Int} {k : IntKind} (ht : arB P t m e 1 = true) (hs : szB P e false 1 = true) (hy : ev y = .d (.agg cs)) (hz : ev z = .d (.v (.int k i))) (h0 : 0 ≤ i) (h1 : i < m) (hd : cs[i.toNat]? = some d) :
    QOp P w0 n s ev ⟨dst, .index t y z, ty, pos, after, g⟩ (.d d) :=
  .mk fun a w ok blk val h _ hnew => by
    obtain ⟨vs, hv, hL, _⟩ := agg_inv (show Rep w _ (.agg cs) (a.eval y) by have := h y; rw [hy] at this; exact this)
    have h2 : a.eval z = .int k i := RepT.v_eq (hz ▸ h z)
    obtain ⟨v, hvi, hr⟩ := hL.at_ hd
    refine ⟨v, w, ?_, Ext.refl w, hr⟩
    obtain ⟨inf, hi, hsz⟩ := arB_info ht
    simp [execOp, Instr.index, asIntOf, run_underlying (arB_under ht), hv, h2, h0, h1, sizeOf, my_typeInfo hi, hsz, part, szB_agg hs, hvi]
end
open Go Go.RowKit

section
variable {P : Program} {w0 : Cx} {n : Nat} {s : Nat → Site} {ev : Operand → T} {dst : Option Tmp} {ty : TypeId} {pos : String} {after : Array Edge} {g : Option (Nat × Bool)}
end
section
variable {H : Type} {enc : TypeId × Value → H} {P : Program} {w : World} {base : Nat} {spare : Nat → Bool} {held : Bool}
end
open Go Go.RowKit
section
variable {P : Program} {w0 : Cx} {n : Nat} {s : Nat → Site} {ev : Operand → T} {dst : Option Tmp} {ty : TypeId} {pos : String} {after : Array Edge} {g : Option (Nat × Bool)}
end
open Go Go.RowKit
section
variable {P : Program} {w0 : Cx} {n : Nat} {s : Nat → Site} {ev : Operand → T} {dst : Option Tmp} {ty : TypeId} {pos : String} {after : Array Edge} {g : Option (Nat × Bool)}
end
open Go Go.RowKit
def tpF (o : Nat) : Option Nat → Value → List Value → Value → Prop := fun b _ vs v => ∃ b', b = some b' ∧ v = .tuple (Value.pointer (some ⟨b', o, none⟩) :: vs).toArray
abbrev T.tp (k o : Nat) (ds : List D) : T := .own k ⟨false, false⟩ ds (tpF o)
section
variable {P : Program}
end
section
variable {P : Program} {w0 : Cx} {n : Nat} {s : Nat → Site} {ev : Operand → T} {dst : Option Tmp} {ty : TypeId} {pos : String} {after : Array Edge} {g : Option (Nat × Bool)}
end
open Go Go.RowKit
def clF (f : FuncId) : Option Nat → Value → List Value → Value → Prop := fun b _ vs v => ∃ b', b = some b' ∧ v = .func (.func f) #[] (Value.pointer (some ⟨b', 0, none⟩) :: vs).toArray
abbrev T.cl (k : Nat) (f : FuncId) (ds : List D) : T := .own k ⟨false, true⟩ ds (clF f)
section
variable {P : Program} {w0 : Cx} {st : St} {a : Act} {w A B : World} {blk : Nat → Option Nat} {val : Nat → Value} {Y : Nat → Prop}
end
section
variable {P : Program} {w0 : Cx} {n : Nat} {s : Nat → Site} {ev : Operand → T} {dst : Option Tmp} {ty : TypeId} {pos : String} {after : Array Edge} {g : Option (Nat × Bool)}
end
section
variable {P : Program} {α : Type}
end
open Go Go.RowKit
section
variable {P : Program}
end
open Go Go.RowKit
section
variable {P : Program} {w0 : Cx}
end
open Go Go.RowKit
def errV (b : Bool) (v : Value) : Prop := (b = true ∧ v = .nilIface) ∨ (b = false ∧ ∃ tp p, v = .iface tp p)
def errF (b : Bool) : Option Nat → Value → List Value → Value → Prop := fun _ _ _ v => errV b v
def numE (n : Int) (b : Bool) (v : Value) : Prop := ∃ e, v = .tuple #[.int .i64 n, e] ∧ errV b e
def numF (n : Int) (b : Bool) : Option Nat → Value → List Value → Value → Prop := fun _ _ _ v => numE n b v
def PCQ (P : Program) (G : World → Prop) (f : FuncId) (args : List D) (Q : Value → Prop) : Prop :=
  ∀ (w : World) (ok : Nat → Prop) (vs : List Value), G w → RepL w ok args vs → Calls P f vs.toArray w fun e w' => ∃ v, e = .returned v ∧ Q v ∧ Ext w w'
section
variable {P : Program} {w0 : Cx} {n : Nat} {s : Nat → Site} {ev : Operand → T} {dst : Option Tmp} {ty : TypeId} {pos : String} {after : Array Edge} {g : Option (Nat × Bool)}
theorem q_neqErr {t t' : TypeId} {x : Operand} {k : Nat} {kd : Kd} {ds : List D} {b : Bool} (ht : P.isIface t = true) (hx : ev x = .own k kd ds (errF b)) : QOp P w0 n s ev ⟨dst, .binOp .neq t x (.const .nilIface) t', ty, pos, after, g⟩ (T.bool (!b)) :=
  .mk fun a w ok blk val h _ hnew => by
    have q := h x
    rw [hx] at q
    obtain ⟨_, vs, _, hF⟩ := q
    have hc : a.eval (.const .nilIface) = .nilIface := rfl
    rcases hF with ⟨rfl, hv⟩ | ⟨rfl, tp, p, hv⟩
    · refine ⟨.bool false, w, ?_, Ext.refl w, .v _ rfl⟩
      have hr := run_neq_nil_nil_at (P := P) w t ht
      simp [execOp, hv, hc, eqGuard, hr]
    · refine ⟨.bool true, w, ?_, Ext.refl w, .v _ rfl⟩
      have hr := run_neq_iface_nil (P := P) w t ht tp p
      simp [execOp, hv, hc, eqGuard, hr]
theorem q_extractE0 {y : Operand} {k : Nat} {kd : Kd} {ds : List D} {i : Int} {b : Bool} (hy : ev y = .own k kd ds (numF i b)) : QOp P w0 n s ev ⟨dst, .extract y 0, ty, pos, after, g⟩ (.d (.v (.int .i64 i))) :=
  .mk fun a w ok blk val h _ hnew => by
    have q := h y
    rw [hy] at q
    obtain ⟨_, vs, _, e, h3, _⟩ := q
    exact ⟨.int .i64 i, w, by simp [execOp, h3, Instr.extract], Ext.refl w, .v _ rfl⟩
theorem q_extractE1 {y : Operand} {k : Nat} {kd : Kd} {ds : List D} {i : Int} {b : Bool} (hy : ev y = .own k kd ds (numF i b)) : QOp P w0 n s ev ⟨dst, .extract y 1, ty, pos, after, g⟩ (.own k ⟨false, true⟩ [] (errF b)) :=
  .mk fun a w ok blk val h _ hnew => by
    have q := h y
    rw [hy] at q
    obtain ⟨⟨⟨h1, _⟩, _⟩, vs, _, e, h3, h4⟩ := q
    refine ⟨e, w, by simp [execOp, h3, Instr.extract], Ext.refl w, ⟨⟨h1, fun q => by cases q⟩, fun _ => ?_⟩, [], trivial, h4⟩
    rcases h4 with ⟨_, rfl⟩ | ⟨_, tp, p, rfl⟩ <;> rfl
end
section
variable {P : Program} {w0 : Cx} {ops rest : List Oper} {R : Exit → St → Prop} {st : St} {ty : TypeId} {pos : String} {after : Array Edge}
end
end Go.Proofs.YtcdccdcbfbakfaaGreatDoor.Am
