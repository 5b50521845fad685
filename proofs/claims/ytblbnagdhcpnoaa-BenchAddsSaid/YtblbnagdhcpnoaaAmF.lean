/- The abstract machine, parts 41 to 44. Conditions: none. -/
import Derived.MapKept
import Derived.RangeFuncRecord
import Derived.Test.YtblbnagdhcpnoaaAmE
set_option linter.unusedVariables false
set_option linter.unusedSimpArgs false
namespace Go.Proofs.Ytblbnagdhcpnoaa.Am
open Go Go.RowKit

section
variable {P : Program} {w0 : Cx} {ops : List Oper} {rest : List Oper} {R : Exit → St → Prop} {st : St} {ty : TypeId} {pos : String} {after : Array Edge}
theorem aops_append0 {d : Nat} {t e sz b m : Nat} {z : Value} {y x : Operand} {news : List (List D)} (ht : slB P t e sz = true) (hz : zrB P e z) (hb : byB P e b = true) (hzs : z.cells.size = sz) (hs0 : 0 < sz) (hy : st.ev y = .d .e0) (hx : st.ev x = .d (.sl sz news)) (hm : news.length = m) (hpos : 0 < m)
    (hbm : m * b ≤ 140737488355328) (hmax : m ≤ 9223372036854775807) (hd : Nat.blt d st.n = true) (hs : st.s d = .no) (h : Aops P w0 ops rest R ((st.site d (.row e sz news)).put (some d) (.rs d))) :
    Aops P w0 ops (⟨some d, .call ⟨.builtin .append, #[y, x], #[t, t]⟩, ty, pos, after, none⟩ :: rest) R st := by
  subst hm
  refine aops_step (K := fun s => s = (st.site d (.row e sz news)).put (some d) (.rs d)) rfl (fun a w ⟨blk, val, hh⟩ => ?_) (fun _ e => e ▸ h)
  obtain ⟨i, hi, hsi⟩ := slB_info ht
  obtain ⟨i', hi', hbi⟩ := byB_info hb
  rw [hi] at hi'; cases hi'
  obtain ⟨A0, hv0⟩ := e0_inv (show Rep w (okOf w0 blk) .e0 (a.eval y) by have := hh.ev y; rw [hy] at this; exact this)
  obtain ⟨A, cap', hxv, hnx, hcapx, hxs, hxsc, hxr⟩ := sl_inv (show Rep w (okOf w0 blk) (.sl sz news) (a.eval x) by have := hh.ev x; rw [hx] at this; exact this)
  rcases hxr with hnil | ⟨b', off, vs, hA, hb', hok', hc', hr'⟩
  · subst hnil; simp at hpos
  let nv : List Value := (List.range (news.length * sz)).map fun q => vs (q / sz) (q % sz)
  have hnvl : nv.length = news.length * i.size := by simp [nv, hsi]
  have hnv : ∀ q u, nv[q]? = some u → ∃ x d, news[q / sz]? = some x ∧ x[q % sz]? = some d ∧ u = vs (q / sz) (q % sz) := fun q u hq => by
    have hql : q < news.length * sz := by have := (List.getElem?_eq_some_iff.1 hq).1; rw [hnvl, hsi] at this; exact this
    have hqd : q / sz < news.length := Nat.div_lt_of_lt_mul (by rw [Nat.mul_comm]; exact hql)
    have hx0 := List.getElem?_eq_getElem hqd
    have hqm : q % sz < (news[q / sz]).length := by rw [hxs _ _ hx0]; exact Nat.mod_lt _ hs0
    simp [nv, hql] at hq
    exact ⟨_, _, hx0, List.getElem?_eq_getElem hqm, hq.symm⟩
  have hcells : ∀ q u, nv[q]? = some u → w.cell? ((⟨b', off, none⟩ : Addr).add q) = some u := fun q u hq => by
    obtain ⟨x, d, h1, h2, rfl⟩ := hnv q u hq
    have := hc' _ x _ d h1 h2
    rw [addr_add, show off + q = off + q / sz * sz + q % sz by have := Nat.div_add_mod q sz; rw [Nat.mul_comm] at this; omega]
    exact this
  have hbm' : news.length * i.bytes ≤ 140737488355328 := by rw [hbi]; exact hbm
  have hrun : ∃ k cs, k = grownCap w news.length 0 e ∧ cs = nv.toArray ++ Builtin.zeroCells z.cells (k - news.length) ∧ (Builtin.append_ #[t, t] ty #[a.eval y, a.eval x]).run P w = .ok (.slice (some ⟨w.heap.size, 0, none⟩) news.length k) (w.drew.alloc (.cells cs e)) := by
    rw [hv0, hxv, hA]
    cases A0 with
    | none =>
      have hr := run_append_nil (P := P) w t ty e i z (slB_under ht) hi (zrB_info hz hi) ⟨b', off, none⟩ news.length cap' nv hnvl hcells hpos (by omega) (by omega)
      exact ⟨_, _, rfl, rfl, hr⟩
    | some a0 =>
      have hr := run_append_grow (P := P) w t ty e i z (slB_under ht) hi (zrB_info hz hi) a0 0 0 [] (by simp) (fun j u hu => by simp at hu) ⟨b', off, none⟩ news.length cap' nv hnvl hcells (by omega) (by omega) (by
        rw [Nat.zero_add]; exact growslice_fits hpos hbm')
      simp only [Nat.zero_add, Array.empty_append] at hr
      exact ⟨_, _, rfl, rfl, hr⟩
  obtain ⟨k, cs, hk, hcs, hrun⟩ := hrun
  have hge : news.length ≤ k := by rw [hk]; exact grownCap_ge w _ 0 e
  have hkm : k ≤ maxLen := by rw [hk]; exact grownCap_le_maxLen w _ 0 e (by simp [maxLen]; omega)
  have hE0 : Ext w w.drew := (Ext.refl w).drew
  have hE : Ext w (w.drew.alloc (.cells cs e)) := hE0.alloc _
  have hsz : w.drew.heap.size = w.heap.size := rfl
  have hblk : (w.drew.alloc (.cells cs e)).heap[w.heap.size]? = some (.cells cs e (0, 0)) := heap_alloc_new w.drew _
  refine wp_value (v := .slice (some ⟨w.heap.size, 0, none⟩) news.length k) (w' := w.drew.alloc (.cells cs e)) (by simp [execOp, resolve, invoke, builtin, hrun]) ⟨_, rfl, ?_⟩
  have hH := (hh.ext' hE0).allocSite (k := d) (x := .row e sz news) (u := .slice (some ⟨w.heap.size, 0, none⟩) news.length k) (o := .cells cs e) hs ⟨hxs, hxsc, .inr ⟨w.heap.size, cs, k, by rw [hsz], rfl, hge, hkm, hblk, by rw [hcs]; simp [nv, Builtin.zeroCells, hzs]; rw [← Nat.add_mul]; congr 1; omega, fun j x q d hi hj => ?_⟩⟩
  · exact ⟨_, _, put_hold hH (by simpa [Nat.blt_eq, St.site] using hd) ⟨⟨e, sz, news, by simp [St.site]⟩, by simp⟩⟩
  · refine ⟨vs j q, ?_, (hr' j x q d hi hj).ext hE fun b hb h => ⟨h, by rw [hsz]; omega⟩⟩
    have hil := (List.getElem?_eq_some_iff.1 hi).1
    have hjl : q < sz := by have := (List.getElem?_eq_some_iff.1 hj).1; rw [hxs j x hi] at this; exact this
    have hq : j * sz + q < news.length * sz := mul_lt_of hil hjl
    have e1 : (j * sz + q) / sz = j := by rw [Nat.add_comm, Nat.add_mul_div_right _ _ hs0, Nat.div_eq_of_lt hjl, Nat.zero_add]
    have e2 : (j * sz + q) % sz = q := by rw [Nat.add_comm, Nat.add_mul_mod_self_right, Nat.mod_eq_of_lt hjl]
    rw [hcs, Array.getElem?_append_left (by simp [nv, hq])]
    simp [nv, hq, e1, e2]
end
section
variable {P : Program} {w0 : Cx} {n : Nat} {s : Nat → Site} {ev : Operand → T} {ty : TypeId} {pos : String} {after : Array Edge}
theorem m_append0 {d : Nat} {t e sz b m : Nat} {z : Value} {y x : Operand} {news : List (List D)} (ht : slB P t e sz = true) (hz : zrB P e z) (hb : byB P e b = true) (hzs : z.cells.size = sz) (hs0 : 0 < sz) (hy : ev y = .d .e0) (hx : ev x = .d (.sl sz news)) (hm : news.length = m) (hpos : 0 < m)
    (hbm : m * b ≤ 140737488355328) (hmax : m ≤ 9223372036854775807) (hs : s d = .no) :
    MOp P w0 n s ev ⟨some d, .call ⟨.builtin .append, #[y, x], #[t, t]⟩, ty, pos, after, none⟩ d (.row e sz news) (.rs d) :=
  fun st _ hk hn hev hd => step_of_aops rfl fun ops rest R h => aops_append0 ht hz hb hzs hs0 (live_ev hev hy (by simp)) (live_ev hev hx (by simp)) hm hpos hbm hmax (by rw [Nat.blt_eq, hn]; exact hd d rfl) (hk.trans hs) h
end
section
variable {P : Program} {w0 : Cx} {n : Nat} {s : Nat → Site} {ev : Operand → T} {dst : Option Tmp} {ty : TypeId} {pos : String} {after : Array Edge} {g : Option (Nat × Bool)}
end
end Go.Proofs.Ytblbnagdhcpnoaa.Am
namespace Go.Proofs.Ytblbnagdhcpnoaa.Am
open Go Go.RowKit

section
variable {P : Program} {w0 : Cx} {n : Nat} {s : Nat → Site} {ev : Operand → T} {ty : TypeId} {pos : String} {after : Array Edge}
theorem m_storeR {t : TypeId} {y x : Operand} {k o j : Nat} {cs : List D} {ts : List T} (ht : szB P t false 1 = true) (hy : ev y = .ref k o) (hx : ev x = .rs j) (hk : s k = .box cs) (ho : o + 1 ≤ cs.length) (hts : setTs (cs.map T.d) o [.rs j] = ts) :
    MOp P w0 n s ev ⟨none, .store t y x, ty, pos, after, none⟩ k (.tbox ts) .dead :=
  fun st _ hk' _ hev _ => step_of_aops rfl fun ops rest R h => aops_le (le_tbox (hk'.trans hk) rfl) (aops_storeT (z := .rs j) (k := k) (cs := cs.map T.d) ht (by have := live_ev hev hy (by simp); cases y <;> exact this) (by have := live_ev hev hx (by simp); cases x <;> exact this) rfl (by show (bif Nat.beq k k then _ else _) = _; rw [Nat.beq_refl]; rfl) (by rw [List.length_map]; exact ho) hts (by rw [site_site]; exact h))
end
section
variable {P : Program} {w0 : Cx} {n : Nat} {s : Nat → Site} {ev : Operand → T} {dst : Option Tmp} {ty : TypeId} {pos : String} {after : Array Edge} {g : Option (Nat × Bool)}
end
end Go.Proofs.Ytblbnagdhcpnoaa.Am
namespace Go.Proofs.Ytblbnagdhcpnoaa.Am
open Go Go.RowKit

/-- A map that the call made. -/
def mapF : Option Nat → Value → List Value → Value → Prop := fun b _ _ v => ∃ b', b = some b' ∧ v = .map (some b')
abbrev T.mp (k : Nat) : T := .own k ⟨false, true⟩ [] mapF
section
variable {P : Program} {w0 : Cx} {n : Nat} {s : Nat → Site} {ev : Operand → T} {dst : Option Tmp} {ty : TypeId} {pos : String} {after : Array Edge} {g : Option (Nat × Bool)}
end
section
variable {P : Program} {w0 : Cx} {st : St} {ops rest : List Oper} {R : Exit → St → Prop} {ty : TypeId} {pos : String} {after : Array Edge}
end
end Go.Proofs.Ytblbnagdhcpnoaa.Am
namespace Go.Proofs.Ytblbnagdhcpnoaa.Am
open Go Go.RowKit

/-- Temporaries that nobody may read: made by a late operation that is not done. -/
def flU (l : List Oper) (n : Nat) (Fl : List Nat) (L : Nat → Bool) (t : Tmp) : Bool :=
  match prodIdx l n t with
  | some p => memN p Fl && !L p
  | none => false
def mk (U : Tmp → Bool) (S : St) : St := { n := S.n, t := fun t => bif U t then .dead else S.t t, s := S.s }
def Eff.plain : Eff → Bool
  | .grow _ _ _ => false
  | _ => true
/-- The late operations, at a state. -/
def FloatOK (P : Program) (w0 : Cx) (l : List Oper) (n : Nat) (Fl : List Nat) (S : St) : List Nat → Prop
  | [] => True
  | i :: is => (match l[i]? with
      | some o => (match o.dst with
        | some d => COp P w0 S (mk (flU l n Fl (afterB o)) S).ev o (.put (some d) (S.t d))
        | none => False)
      | none => False) ∧ FloatOK P w0 l n Fl S is
def LateW (P : Program) (w0 : Cx) (l : List Oper) (n : Nat) (Fl : List Nat) : List Oper → St → (St → Prop) → Prop
  | [], S, K => K S
  | o :: os, S, K => ∃ f : Eff, (f.plain = true ∧ f.dst = o.dst) ∧ COp P w0 S (mk (flU l n Fl fun _ => false) S).ev o f ∧ FloatOK P w0 l n Fl (f.app S) Fl ∧ LateW P w0 l n Fl os (f.app S) K
/-- An operation that is not late stands behind j. -/
def behindB (l : List Oper) (n : Nat) (Fl : List Nat) (j : Nat) : Bool :=
  (List.range n).any fun k => decide (j < k) && !(memN k Fl) && (match l[k]? with | some ok => afterB ok j | none => false)
/-- What a late operation and the operations of the tail ahead of the others must be. -/
def lateB (l : List Oper) (n q : Nat) (Fl : List Nat) : Bool :=
  (Fl.all fun i => decide (i < n) && (match l[i]? with | some o => o.guard.isNone && o.dst.isSome | none => false)) &&
  ((List.range q).all fun p => match l[n + p]? with
    | some o => o.guard.isNone && (Nat.beq p 0 || afterB o (n + p - 1)) && (match o.dst with | some d => (prodIdx l n d).isNone | none => true)
    | none => false) &&
  (match l[n]? with | some o => (List.range n).all fun j => memN j Fl || afterB o j || behindB l n Fl j | none => false)
section
variable {P : Program} {w0 : Cx}
theorem float_at {l : List Oper} {n : Nat} {Fl : List Nat} {S : St} : ∀ {is : List Nat}, FloatOK P w0 l n Fl S is → ∀ i o d, memN i is = true → l[i]? = some o → o.dst = some d → COp P w0 S (mk (flU l n Fl (afterB o)) S).ev o (.put (some d) (S.t d))
  | [], _, i, o, d, hi, _, _ => by cases hi
  | j :: js, h, i, o, d, hi, ho, hd => by
    simp only [memN, Bool.or_eq_true] at hi
    rcases hi with hi | hi
    · have := Nat.eq_of_beq_eq_true hi
      subst this
      have h1 := h.1
      rw [ho] at h1
      simp only [hd] at h1
      exact h1
    · exact float_at h.2 i o d hi ho hd
/-- The states of the tail. -/
structure LateSeq (P : Program) (w0 : Cx) (l : List Oper) (n q : Nat) (Fl : List Nat) (Sq : Nat → St) : Prop where
  step : ∀ p, p < q → ∀ o, l[n + p]? = some o → ∃ f : Eff, (f.plain = true ∧ f.dst = o.dst) ∧ Sq (p + 1) = f.app (Sq p) ∧ COp P w0 (Sq p) (mk (flU l n Fl fun _ => false) (Sq p)).ev o f
  fl : ∀ p, 1 ≤ p → p ≤ q → FloatOK P w0 l n Fl (Sq p) Fl
theorem lateW_seq {l : List Oper} {n : Nat} {Fl : List Nat} {K : St → Prop} : ∀ (q : Nat) (os : List Oper) (i : Nat) (S : St), os.length = q → (∀ k, k < q → os[k]? = l[n + i + k]?) → LateW P w0 l n Fl os S K →
    ∃ Sq : Nat → St, Sq i = S ∧ K (Sq (i + q)) ∧ (∀ p, i ≤ p → p < i + q → ∀ o, l[n + p]? = some o → ∃ f : Eff, (f.plain = true ∧ f.dst = o.dst) ∧ Sq (p + 1) = f.app (Sq p) ∧ COp P w0 (Sq p) (mk (flU l n Fl fun _ => false) (Sq p)).ev o f) ∧
      ∀ p, i + 1 ≤ p → p ≤ i + q → FloatOK P w0 l n Fl (Sq p) Fl
  | 0, [], i, S, _, _, h => ⟨fun _ => S, rfl, h, fun p h1 h2 => by omega, fun p h1 h2 => by omega⟩
  | 0, _ :: _, _, _, h, _, _ => by simp at h
  | _ + 1, [], _, _, h, _, _ => by simp at h
  | q + 1, o :: os, i, S, hl, hos, h => by
    obtain ⟨f, hf, hc, hfl, hr⟩ := h
    obtain ⟨Sq, h1, h2, h3, h4⟩ := lateW_seq (l := l) (n := n) (Fl := Fl) (K := K) q os (i + 1) _ (by simpa using hl) (fun k hk => by have := hos (k + 1) (by omega); simpa [Nat.add_assoc, Nat.add_comm 1 k] using this) hr
    have ho : l[n + i]? = some o := by have := hos 0 (by omega); simpa using this.symm
    refine ⟨fun p => if p = i then S else Sq p, by simp, ?_, fun p hp1 hp2 o' ho' => ?_, fun p hp1 hp2 => ?_⟩
    · show K (if i + (q + 1) = i then S else Sq (i + (q + 1)))
      rw [if_neg (by omega), show i + (q + 1) = i + 1 + q by omega]; exact h2
    · by_cases e : p = i
      · subst e
        rw [ho] at ho'; cases ho'
        refine ⟨f, hf, ?_, ?_⟩
        · show (if p + 1 = p then S else Sq (p + 1)) = f.app (if p = p then S else Sq p)
          rw [if_neg (by omega), if_pos rfl]; exact h1
        · simp only [if_true]; exact hc
      · simp only [if_neg e, if_neg (show ¬ p + 1 = i by omega)]
        exact h3 p (by omega) (by omega) o' ho'
    · simp only [if_neg (show ¬ p = i by omega)]
      by_cases e : p = i + 1
      · rw [e, h1]; exact hfl
      · exact h4 p (by omega) (by omega)
theorem setL_ne {L : Nat → Bool} {i j : Nat} (h : j ≠ i) : setL L i j = L j := by
  unfold setL
  rw [show (j == i) = false from beq_false_of_ne h]; rfl
theorem setL_eq {L : Nat → Bool} {i : Nat} : setL L i i = true := by simp [setL]
theorem setL_tr {L : Nat → Bool} {i j : Nat} (h : L j = true) : setL L i j = true := by
  unfold setL
  rw [h, Bool.or_true]
/-- How many operations of the tail are done. -/
def cntT (n : Nat) (L : Nat → Bool) : Nat → Nat
  | 0 => 0
  | q + 1 => if L (n + q) = true then q + 1 else cntT n L q
theorem cntT_le {n : Nat} {L : Nat → Bool} : ∀ q, cntT n L q ≤ q
  | 0 => Nat.le_refl _
  | q + 1 => by
    unfold cntT
    split
    · exact Nat.le_refl _
    · exact Nat.le_succ_of_le (cntT_le q)
theorem cntT_at {n : Nat} {L : Nat → Bool} {p : Nat} : ∀ {q : Nat}, p ≤ q → (∀ j, j < p → L (n + j) = true) → (∀ j, p ≤ j → j < q → L (n + j) = false) → cntT n L q = p
  | 0, hp, _, _ => by show 0 = p; omega
  | q + 1, hp, h1, h2 => by
    unfold cntT
    by_cases e : p = q + 1
    · rw [if_pos (h1 q (by omega))]; exact e.symm
    · rw [if_neg (by rw [h2 q (by omega) (by omega)]; simp)]
      exact cntT_at (by omega) h1 fun j a b => h2 j a (by omega)
open Classical in
noncomputable def lateF (st : St) (l : List Oper) (n q : Nat) (Fl : List Nat) (xs : Nat → T) (Sq : Nat → St) (L : Nat → Bool) : St :=
  if L n = true then mk (flU l n Fl L) (Sq (cntT n L q)) else stOf st l n xs L
theorem mk_put {U : Tmp → Bool} {S : St} {dst : Option Tmp} {x : T} (h : ∀ d, dst = some d → U d = false) : (mk U S).put dst x = mk U (S.put dst x) := by
  cases dst with
  | none => rfl
  | some d =>
    simp only [mk, St.put, St.mk.injEq, true_and, and_true]
    funext t
    cases ht : Nat.beq t d with
    | false => rfl
    | true =>
      have := Nat.eq_of_beq_eq_true ht
      subst this
      rw [h t rfl]; rfl
theorem mk_app {U : Tmp → Bool} {S : St} {f : Eff} (hp : f.plain = true) (h : ∀ d, f.dst = some d → U d = false) : f.app (mk U S) = mk U (f.app S) := by
  cases f with
  | grow k d z => cases hp
  | set k z dst x =>
    show ((mk U S).site k z).put dst x = mk U ((S.site k z).put dst x)
    have e : (mk U S).site k z = mk U (S.site k z) := rfl
    rw [e]
    exact mk_put h
  | put dst x => exact mk_put h
open Classical in
theorem late_step {st : St} {l : List Oper} {n q i : Nat} {Fl : List Nat} {xs : Nat → T} {Sq : Nat → St} {o : Oper} {L : Nat → Bool} {a : Act} {w : World} (h : regB l n st.n = true) (h' : regB l (n + q) st.n = true) (hB : lateB l n q Fl = true) (hq : 1 ≤ q)
    (hS0 : Wk (stOf st l n xs (ltB n)) (Sq 0)) (hSq : LateSeq P w0 l n q Fl Sq) (hnS : ∀ p, p ≤ q → (Sq p).n = st.n) (hkeep : ∀ p d, p ≤ q → prodIdx l n d ≠ none → (Sq p).t d = (Sq 0).t d) (hO : ∀ k o, k < n → l[k]? = some o → Owes P w0 st l n xs k o)
    (hi : i < n + q) (ho : l[i]? = some o) (hD : Done l (n + q) L) (hLi : L i = false) (hLa : ∀ e ∈ o.after, Region.binds .any e = true → L e.on = true) (hH : Holds w0 (lateF st l n q Fl xs Sq L) a w) :
    (Region.wanted o (yielded l.toArray a.tmps) = true ∧ OW P w0 o a w (fun a' w' => Holds w0 (lateF st l n q Fl xs Sq (setL L i)) a' w')) ∨
    (Region.wanted o (yielded l.toArray a.tmps) = false ∧ Holds w0 (lateF st l n q Fl xs Sq (setL L i)) (a.put o.dst undef) w) := by
  simp only [lateB, Bool.and_eq_true] at hB
  obtain ⟨⟨hB1, hB2⟩, hB3⟩ := hB
  have aft : ∀ j, afterB o j = true → L j = true := fun j hj => by obtain ⟨e, he, hb, rfl⟩ := afterB_spec hj; exact hLa e he hb
  -- a tail operation that is done has the one ahead of it done
  have tl : ∀ p op, p < q → l[n + p]? = some op → op.guard = none ∧ (1 ≤ p → afterB op (n + p - 1) = true) ∧ ∀ d, op.dst = some d → prodIdx l n d = none := fun p op hp hop => by
    have := List.all_eq_true.1 hB2 p (List.mem_range.2 hp)
    rw [hop] at this
    simp only [Bool.and_eq_true, Bool.or_eq_true, Option.isNone_iff_eq_none] at this
    refine ⟨this.1.1, fun h1 => ?_, fun d hd => ?_⟩
    · rcases this.1.2 with e | e
      · have := Nat.eq_of_beq_eq_true e; omega
      · exact e
    · have h2 := this.2
      rw [hd] at h2
      exact Option.isNone_iff_eq_none.1 h2
  have len : ∀ p, p < q → ∃ op, l[n + p]? = some op := fun p hp => by
    have := List.all_eq_true.1 hB2 p (List.mem_range.2 hp)
    cases e : l[n + p]? with
    | none => rw [e] at this; cases this
    | some op => exact ⟨op, rfl⟩
  have down : ∀ p, p < q → L (n + p) = true → ∀ j, j ≤ p → L (n + j) = true := by
    intro p
    induction p with
    | zero => intro _ h1 j hj; have : j = 0 := by omega
              subst this; exact h1
    | succ p ih =>
      intro hp h1 j hj
      by_cases e : j = p + 1
      · rw [e]; exact h1
      · obtain ⟨op, hop⟩ := len (p + 1) hp
        obtain ⟨e', he', hb', hj'⟩ := afterB_spec ((tl (p + 1) op hp hop).2.1 (by omega))
        have := hD.closed (n + (p + 1)) op (by omega) hop h1 e' he' hb'
        rw [hj', show n + (p + 1) - 1 = n + p by omega] at this
        exact ih (by omega) this j (by omega)
  -- T_0 stands behind all that are not late
  have nonl : ∀ op, l[n]? = some op → (∀ j, afterB op j = true → L j = true) → ∀ d j, n - j = d → j < n → memN j Fl = false → L j = true := fun op hop hop' d => by
    induction d using Nat.strongRecOn with
    | _ d ih =>
      intro j hd hj hf
      rw [hop] at hB3
      have := List.all_eq_true.1 hB3 j (List.mem_range.2 hj)
      rw [hf] at this
      simp only [Bool.false_or, Bool.or_eq_true] at this
      rcases this with e | e
      · exact hop' j e
      · unfold behindB at e
        obtain ⟨k, hk, e⟩ := List.any_eq_true.1 e
        have hk := List.mem_range.1 hk
        simp only [Bool.and_eq_true, decide_eq_true_eq, Bool.not_eq_true'] at e
        obtain ⟨⟨hjk, hkf⟩, hka⟩ := e
        have hLk := ih (n - k) (by omega) k rfl hk hkf
        cases hok : l[k]? with
        | none => rw [hok] at hka; cases hka
        | some ok =>
          rw [hok] at hka
          obtain ⟨e', he', hb', hj'⟩ := afterB_spec hka
          have := hD.closed k ok (by omega) hok hLk e' he' hb'
          rw [hj'] at this; exact this
  have wanted : o.guard = none → Region.wanted o (yielded l.toArray a.tmps) = true := fun hg => by simp [Region.wanted, hg]
  by_cases hLn : L n = true
  · -- the tail has begun
    have hFL : lateF st l n q Fl xs Sq L = mk (flU l n Fl L) (Sq (cntT n L q)) := if_pos hLn
    rw [hFL] at hH
    by_cases hin : i < n
    · -- a late operation
      have hfl : memN i Fl = true := by
        rw [← Bool.not_eq_false]
        intro hf
        obtain ⟨op, hop⟩ := len 0 (by omega)
        have := nonl op hop (fun j hj => by
          obtain ⟨e, he, hb, hj'⟩ := afterB_spec hj
          have := hD.closed n op (by omega) hop hLn e he hb
          rw [hj'] at this; exact this) _ i rfl hin hf
        rw [hLi] at this; cases this
      have hfi : ∀ {js : List Nat}, (js.all fun i => decide (i < n) && (match l[i]? with | some o => o.guard.isNone && o.dst.isSome | none => false)) = true → memN i js = true → o.guard = none ∧ o.dst.isSome = true := by
        intro js
        induction js with
        | nil => intro _ h2; cases h2
        | cons j js ih =>
          intro h1 h2
          simp only [List.all_cons, Bool.and_eq_true] at h1
          simp only [memN, Bool.or_eq_true] at h2
          rcases h2 with h2 | h2
          · have := Nat.eq_of_beq_eq_true h2
            subst this
            have h3 := h1.1.2
            rw [ho] at h3
            simp only [Bool.and_eq_true, Option.isNone_iff_eq_none] at h3
            exact h3
          · exact ih h1.2 h2
      obtain ⟨hg, hds⟩ := hfi hB1 hfl
      obtain ⟨d, hd⟩ := Option.isSome_iff_exists.1 hds
      obtain ⟨hpd, hdN⟩ := reg_dst h hin ho hd
      obtain ⟨p, hp⟩ : ∃ p, cntT n L q = p := ⟨_, rfl⟩
      have hp1 : 1 ≤ p := by
        rw [← hp]
        rcases Nat.eq_zero_or_pos (cntT n L q) with e | e
        · exfalso
          have : ∀ q, 1 ≤ q → cntT n L q ≠ 0 := by
            intro q
            induction q with
            | zero => intro h; omega
            | succ q ih =>
              intro _
              unfold cntT
              split
              · omega
              · rename_i hc
                rcases Nat.eq_zero_or_pos q with e0 | e0
                · subst e0; exact absurd hLn hc
                · exact ih e0
          exact this q hq e
        · exact e
      have hpq : p ≤ q := by rw [← hp]; exact cntT_le q
      have hco := float_at (hSq.fl p hp1 hpq) i o d hfl ho hd
      rw [hp] at hH
      refine .inl ⟨wanted hg, ?_⟩
      have hst := hco (mk (flU l n Fl L) (Sq p)) rfl rfl (fun y => ?_) (fun d' hd' => by rw [hd] at hd'; cases hd'; rw [hnS p hpq]; exact hdN) a w hH
      · have e2 : (Eff.put (some d) ((Sq p).t d)).app (mk (flU l n Fl L) (Sq p)) = lateF st l n q Fl xs Sq (setL L i) := by
          have e3 : lateF st l n q Fl xs Sq (setL L i) = mk (flU l n Fl (setL L i)) (Sq (cntT n (setL L i) q)) := if_pos (setL_tr hLn)
          have e4 : cntT n (setL L i) q = p := by
            rw [← hp]
            have : ∀ q, cntT n (setL L i) q = cntT n L q := by
              intro q
              induction q with
              | zero => rfl
              | succ q ih =>
                unfold cntT
                have : setL L i (n + q) = L (n + q) := setL_ne (by omega)
                rw [this, ih]
            exact this q
          rw [e3, e4]
          show (mk (flU l n Fl L) (Sq p)).put (some d) ((Sq p).t d) = _
          simp only [mk, St.put, St.mk.injEq, true_and, and_true]
          funext t
          cases ht : Nat.beq t d with
          | true =>
            have := Nat.eq_of_beq_eq_true ht
            subst this
            have : flU l n Fl (setL L i) t = false := by unfold flU; rw [hpd]; simp [setL_eq]
            rw [this]; rfl
          | false =>
            simp only [cond_false]
            have : flU l n Fl (setL L i) t = flU l n Fl L t := by
              unfold flU
              cases hpt : prodIdx l n t with
              | none => rfl
              | some r =>
                simp only
                have hri : r ≠ i := fun e => by
                  subst e
                  obtain ⟨_, op, hop, hdp⟩ := prodIdx_spec hpt
                  rw [ho] at hop; cases hop
                  rw [hd] at hdp; cases hdp
                  simp at ht
                have : setL L i r = L r := setL_ne hri
                rw [this]
            rw [this]
        rw [e2] at hst
        exact hst
      · cases y with
        | tmp t =>
          show (bif flU l n Fl (afterB o) t then T.dead else (Sq p).t t) = .dead ∨ (bif flU l n Fl L t then T.dead else (Sq p).t t) = (bif flU l n Fl (afterB o) t then T.dead else (Sq p).t t)
          cases hu : flU l n Fl (afterB o) t with
          | true => exact .inl rfl
          | false =>
            have : flU l n Fl L t = false := by
              unfold flU at hu ⊢
              cases hpt : prodIdx l n t with
              | none => rfl
              | some r =>
                rw [hpt] at hu
                simp only [Bool.and_eq_false_iff, Bool.not_eq_false'] at hu ⊢
                exact hu.imp id fun h => aft r h
            rw [this]; exact .inr rfl
        | _ => exact .inr rfl
    · -- the next one of the tail
      obtain ⟨p, rfl⟩ : ∃ p, i = n + p := ⟨i - n, by omega⟩
      have hpq : p < q := by omega
      obtain ⟨hg, hprev, hdn⟩ := tl p o hpq ho
      have hp0 : 1 ≤ p := by
        rcases Nat.eq_zero_or_pos p with e | e
        · subst e; rw [Nat.add_zero, hLn] at hLi; cases hLi
        · exact e
      have hLp : L (n + (p - 1)) = true := by have := aft _ (hprev hp0); rwa [show n + p - 1 = n + (p - 1) by omega] at this
      have h1 := down (p - 1) (by omega) hLp
      have h2 : ∀ j, p ≤ j → j < q → L (n + j) = false := fun j a b => by
        rw [← Bool.not_eq_true]
        intro hj
        have := down j b hj p a
        rw [hLi] at this; cases this
      have hc : cntT n L q = p := cntT_at (by omega) (fun j hj => h1 j (by omega)) h2
      rw [hc] at hH
      obtain ⟨f, ⟨hfp, hfd⟩, hS, hco⟩ := hSq.step p hpq o ho
      refine .inl ⟨wanted hg, ?_⟩
      have hst := hco (mk (flU l n Fl L) (Sq p)) rfl rfl (fun y => ?_) (fun d hd => by rw [hnS p (by omega)]; exact (reg_dst h' hi ho hd).2) a w hH
      · have e2 : f.app (mk (flU l n Fl L) (Sq p)) = lateF st l n q Fl xs Sq (setL L (n + p)) := by
          have e3 : lateF st l n q Fl xs Sq (setL L (n + p)) = mk (flU l n Fl (setL L (n + p))) (Sq (cntT n (setL L (n + p)) q)) := if_pos (setL_tr hLn)
          have e4 : cntT n (setL L (n + p)) q = p + 1 := cntT_at (by omega) (fun j hj => by
            by_cases e : j = p
            · rw [e]; exact setL_eq
            · exact setL_tr (h1 j (by omega))) fun j a b => by
            rw [setL_ne (by omega)]; exact h2 j (by omega) b
          have e5 : flU l n Fl (setL L (n + p)) = flU l n Fl L := by
            funext t
            unfold flU
            cases hpt : prodIdx l n t with
            | none => rfl
            | some r =>
              have hr := (prodIdx_spec hpt).1
              have : setL L (n + p) r = L r := setL_ne (by omega)
              simp only [this]
          rw [e3, e4, e5, hS]
          refine mk_app hfp fun d hd => ?_
          unfold flU
          rw [hdn d (by rw [← hfd]; exact hd)]
        rw [e2] at hst
        exact hst
      · cases y with
        | tmp t =>
          show (bif flU l n Fl (fun _ => false) t then T.dead else (Sq p).t t) = .dead ∨ (bif flU l n Fl L t then T.dead else (Sq p).t t) = (bif flU l n Fl (fun _ => false) t then T.dead else (Sq p).t t)
          cases hu : flU l n Fl (fun _ => false) t with
          | true => exact .inl rfl
          | false =>
            have : flU l n Fl L t = false := by
              unfold flU at hu ⊢
              cases hpt : prodIdx l n t with
              | none => rfl
              | some r =>
                rw [hpt] at hu
                simp only [Bool.not_false, Bool.and_true] at hu
                simp only [hu, Bool.false_and]
            rw [this]; exact .inr rfl
        | _ => exact .inr rfl
  · -- the tail has not begun
    have hLn' : L n = false := by cases e : L n with | true => exact absurd e hLn | false => rfl
    have hFL : lateF st l n q Fl xs Sq L = stOf st l n xs L := if_neg hLn
    rw [hFL] at hH
    by_cases hin : i < n
    · have hD' : Done l n L := ⟨fun p op hp hop hL e he hb => hD.closed p op (by omega) hop hL e he hb⟩
      have e3 : lateF st l n q Fl xs Sq (setL L i) = stOf st l n xs (setL L i) := if_neg (by rw [setL_ne (by omega), hLn']; simp)
      rw [e3]
      exact reg_step h hin ho hD' hLi hLa hH (hO i o hin ho)
    · obtain ⟨p, rfl⟩ : ∃ p, i = n + p := ⟨i - n, by omega⟩
      have hp0 : p = 0 := by
        rcases Nat.eq_zero_or_pos p with e | e
        · exact e
        · have h1 := aft _ ((tl p o (by omega) ho).2.1 e)
          have := down (p - 1) (by omega) (by rwa [show n + p - 1 = n + (p - 1) by omega] at h1) 0 (Nat.zero_le _)
          rw [Nat.add_zero, hLn'] at this; cases this
      subst hp0
      obtain ⟨hg, _, hdn⟩ := tl 0 o (by omega) ho
      obtain ⟨f, ⟨hfp, hfd⟩, hS, hco⟩ := hSq.step 0 (by omega) o ho
      have hall : ∀ j, j < n → memN j Fl = false → L j = true := fun j hj hf => nonl o ho aft _ j rfl hj hf
      have hwk : Wk (stOf st l n xs L) (mk (flU l n Fl L) (Sq 0)) := by
        refine ⟨hS0.1, hS0.2.1, fun t => ?_⟩
        show (bif flU l n Fl L t then T.dead else (Sq 0).t t) = _ ∨ (bif flU l n Fl L t then T.dead else (Sq 0).t t) = .dead
        cases hu : flU l n Fl L t with
        | true => exact .inr rfl
        | false =>
          simp only [cond_false]
          have e1 : (stOf st l n xs L).t t = (stOf st l n xs (ltB n)).t t := by
            simp only [stOf]
            cases hpt : prodIdx l n t with
            | none => rfl
            | some r =>
              have hr := (prodIdx_spec hpt).1
              have hLr : L r = true := by
                cases hf : memN r Fl with
                | false => exact hall r hr hf
                | true =>
                  unfold flU at hu
                  rw [hpt] at hu
                  simp only [hf, Bool.true_and, Bool.not_eq_false'] at hu
                  exact hu
              simp only [hLr, ltB, hr, decide_true]
          rw [e1]
          exact hS0.2.2 t
      have hH2 := hH.weak hwk
      refine .inl ⟨wanted hg, ?_⟩
      have hst := hco (mk (flU l n Fl L) (Sq 0)) rfl rfl (fun y => ?_) (fun d hd => by rw [hnS 0 (Nat.zero_le _)]; exact (reg_dst h' hi ho hd).2) a w hH2
      · have e2 : f.app (mk (flU l n Fl L) (Sq 0)) = lateF st l n q Fl xs Sq (setL L (n + 0)) := by
          have e3 : lateF st l n q Fl xs Sq (setL L (n + 0)) = mk (flU l n Fl (setL L (n + 0))) (Sq (cntT n (setL L (n + 0)) q)) := if_pos setL_eq
          have h2 : ∀ j, 1 ≤ j → j < q → L (n + j) = false := fun j a b => by
            rw [← Bool.not_eq_true]
            intro hj
            have := down j b hj 0 (Nat.zero_le _)
            rw [Nat.add_zero, hLn'] at this; cases this
          have e4 : cntT n (setL L (n + 0)) q = 1 := cntT_at (by omega) (fun j hj => by
            have : j = 0 := by omega
            subst this; exact setL_eq) fun j a b => by
            rw [setL_ne (by omega)]; exact h2 j a b
          have e5 : flU l n Fl (setL L (n + 0)) = flU l n Fl L := by
            funext t
            unfold flU
            cases hpt : prodIdx l n t with
            | none => rfl
            | some r =>
              have hr := (prodIdx_spec hpt).1
              have : setL L (n + 0) r = L r := setL_ne (by omega)
              simp only [this]
          rw [e3, e4, e5, hS]
          refine mk_app hfp fun d hd => ?_
          unfold flU
          rw [hdn d (by rw [← hfd]; exact hd)]
        rw [e2] at hst
        exact hst
      · cases y with
        | tmp t =>
          show (bif flU l n Fl (fun _ => false) t then T.dead else (Sq 0).t t) = .dead ∨ (bif flU l n Fl L t then T.dead else (Sq 0).t t) = (bif flU l n Fl (fun _ => false) t then T.dead else (Sq 0).t t)
          cases hu : flU l n Fl (fun _ => false) t with
          | true => exact .inl rfl
          | false =>
            have : flU l n Fl L t = false := by
              unfold flU at hu ⊢
              cases hpt : prodIdx l n t with
              | none => rfl
              | some r =>
                rw [hpt] at hu
                simp only [Bool.not_false, Bool.and_true] at hu
                simp only [hu, Bool.false_and]
            rw [this]; exact .inr rfl
        | _ => exact .inr rfl
theorem eff_keep {f : Eff} {S : St} {d : Tmp} (hp : f.plain = true) (h : f.dst ≠ some d) : (f.app S).t d = S.t d ∧ (f.app S).n = S.n := by
  have hb : ∀ x, f.dst = some x → Nat.beq d x = false := fun x hx => by
    rw [← Bool.not_eq_true]; intro e; rw [Nat.eq_of_beq_eq_true e] at h; exact h hx
  cases f with
  | grow k d z => cases hp
  | set k z dst x =>
    cases dst with
    | none => exact ⟨rfl, rfl⟩
    | some e => refine ⟨?_, rfl⟩; show (bif Nat.beq d e then x else S.t d) = _; rw [hb e rfl]; rfl
  | put dst x =>
    cases dst with
    | none => exact ⟨rfl, rfl⟩
    | some e => refine ⟨?_, rfl⟩; show (bif Nat.beq d e then x else S.t d) = _; rw [hb e rfl]; rfl
theorem eff_n {f : Eff} {S : St} (hp : f.plain = true) : (f.app S).n = S.n := by
  cases f with
  | grow k d z => cases hp
  | set k z dst x => cases dst <;> rfl
  | put dst x => cases dst <;> rfl
/-- The rule. -/
theorem awp_regionL {st : St} {l : List Oper} {id : Nat} {R : Exit → St → Prop} (n q : Nat) (Fl : List Nat) (hm : P.follows .mixedOrders = true)
    (h : (regB l n st.n && regB l (n + q) st.n && decide (n + q ≤ l.length) && decide (1 ≤ q) && tailOk l (n + q) && lateB l n q Fl) = true)
    (hW : RegW P w0 st l n (l.take n) 0 (fun _ => .dead) st (fun st' => LateW P w0 l n Fl ((l.drop n).take q) st' fun S => Aops P w0 l (l.drop (n + q)) R S)) : Awp P w0 (.region id l.toArray true) R st := by
  simp only [Bool.and_eq_true, decide_eq_true_eq] at h
  obtain ⟨⟨⟨⟨⟨h, h'⟩, hn⟩, hq⟩, hT0⟩, hB⟩ := h
  have htl : (l.take n).length = n := by simp; omega
  have hto : ∀ k, k < (l.take n).length → (l.take n)[k]? = l[0 + k]? := fun k hk => by rw [htl] at hk; simp [hk]
  obtain ⟨xs, _, hO, hL⟩ := regw_xs h (l.take n) 0 _ _ (by omega) hto hW
  obtain ⟨Sq, hS, hK, hs1, hs2⟩ := lateW_seq q ((l.drop n).take q) 0 _ (by simp; omega) (fun k hk => by rw [List.getElem?_take, if_pos hk, List.getElem?_drop]; rfl) hL
  rw [Nat.zero_add] at hK
  have hSeq : LateSeq P w0 l n q Fl Sq := ⟨fun p hp => hs1 p (Nat.zero_le _) (by omega), fun p h1 h2 => hs2 p (by omega) (by omega)⟩
  have hS0 : Wk (stOf st l n xs (ltB n)) (Sq 0) := by
    rw [hS]
    exact out_wk h (l.take n) 0 st (by omega) hto (by rw [stOf_none (fun p _ => by simp [ltB])]; exact ⟨rfl, rfl, fun _ => .inl rfl⟩)
  have len : ∀ p, p < q → ∃ op, l[n + p]? = some op := fun p hp => ⟨_, List.getElem?_eq_getElem (by omega)⟩
  have hnS : ∀ p, p ≤ q → (Sq p).n = st.n := by
    intro p
    induction p with
    | zero => intro _; exact hS0.1
    | succ p ih =>
      intro hp
      obtain ⟨op, hop⟩ := len p (by omega)
      obtain ⟨f, ⟨hfp, _⟩, hSp, _⟩ := hSeq.step p (by omega) op hop
      rw [hSp, eff_n hfp]; exact ih (by omega)
  have hkeep : ∀ p d, p ≤ q → prodIdx l n d ≠ none → (Sq p).t d = (Sq 0).t d := by
    intro p d
    induction p with
    | zero => intro _ _; rfl
    | succ p ih =>
      intro hp hd
      obtain ⟨op, hop⟩ := len p (by omega)
      obtain ⟨f, ⟨hfp, hfd⟩, hSp, _⟩ := hSeq.step p (by omega) op hop
      have hB' := hB
      simp only [lateB, Bool.and_eq_true] at hB'
      have h2 := List.all_eq_true.1 hB'.1.2 p (List.mem_range.2 (by omega))
      rw [hop] at h2
      simp only [Bool.and_eq_true] at h2
      rw [hSp, (eff_keep hfp fun e => ?_).1]
      · exact ih (by omega) hd
      · have h3 := h2.2
        rw [← hfd, e] at h3
        exact hd (Option.isNone_iff_eq_none.1 h3)
  intro Fe m hFe
  have hF : ∀ L : Nat → Bool, (∀ p, p < n + q → L p = true) → lateF st l n q Fl xs Sq L = lateF st l n q Fl xs Sq (ltB (n + q)) := fun L hL => by
    have e : ∀ L : Nat → Bool, (∀ p, p < n + q → L p = true) → lateF st l n q Fl xs Sq L = Sq q := fun L hL => by
      have e1 : lateF st l n q Fl xs Sq L = mk (flU l n Fl L) (Sq (cntT n L q)) := if_pos (hL n (by omega))
      rw [e1, cntT_at (Nat.le_refl q) (fun j hj => hL _ (by omega)) fun j a b => by omega]
      have e2 : ∀ t, flU l n Fl L t = false := fun t => by
        unfold flU
        cases hpt : prodIdx l n t with
        | none => rfl
        | some r =>
          have hr := (prodIdx_spec hpt).1
          simp [hL r (by omega)]
      cases hS : Sq q
      simp only [mk, e2, cond_false]
    rw [e L hL, e (ltB (n + q)) fun p hp => by simp [ltB, hp]]
  have hT : ∀ a w, Holds w0 (lateF st l n q Fl xs Sq (ltB (n + q))) a w → wpListIn Fe m P l.toArray (Post w0 R) (l.drop (n + q)) a w := fun a w hH => by
    have e1 : lateF st l n q Fl xs Sq (ltB (n + q)) = Sq q := by
      have e1 : lateF st l n q Fl xs Sq (ltB (n + q)) = mk (flU l n Fl (ltB (n + q))) (Sq (cntT n (ltB (n + q)) q)) := if_pos (by simp [ltB]; omega)
      rw [e1, cntT_at (Nat.le_refl q) (fun j hj => by simp [ltB]; omega) fun j a b => by omega]
      have e2 : ∀ t, flU l n Fl (ltB (n + q)) t = false := fun t => by
        unfold flU
        cases hpt : prodIdx l n t with
        | none => rfl
        | some r =>
          have hr := (prodIdx_spec hpt).1
          simp [ltB]; intro _; omega
      cases hS : Sq q
      simp only [mk, e2, cond_false]
    rw [e1] at hH
    exact hK Fe m hFe a w hH
  intro a w hH
  refine wpIn_region_any hm ?_
  have inv0 : HeadInv .any l.toArray (n + q) (Array.replicate l.toArray.size false) :=
    ⟨by simp, fun j oj _ hl => (by rw [getD_replicate_false] at hl; cases hl), fun t _ ht => getD_in (by simpa using ht) (getD_replicate_false _ _)⟩
  have hF0 : lateF st l n q Fl xs Sq ((Array.replicate l.toArray.size false).getD · false) = st := by
    have e1 : lateF st l n q Fl xs Sq ((Array.replicate l.toArray.size false).getD · false) = stOf st l n xs ((Array.replicate l.toArray.size false).getD · false) := if_neg (by show ¬ (Array.replicate l.toArray.size false).getD n false = true; rw [getD_replicate_false]; simp)
    rw [e1, stOf_none (fun p _ => getD_replicate_false _ _)]
  have := any_preF (m := m) hFe (F := fun L => lateF st l n q Fl xs Sq L) h' hn hT0 (fun L i o a w hi ho hD hLi hLa hH => late_step h h' hB hq hS0 hSeq hnS hkeep (fun k o hk ho => hO k o (Nat.zero_le _) hk ho) hi ho hD hLi hLa hH) hF hT (n + q) _ a { w with drawn := w.drawn + 1 } inv0 cntU_none (by rw [hF0]; exact hH.drew)
  rw [show n + q + (l.length - (n + q)) = l.toArray.size by simp; omega] at this
  exact this
end
section
variable {P : Program} {w0 : Cx} {S s : St} {ev : Operand → T} {l os : List Oper} {n : Nat} {Fl is : List Nat} {K : St → Prop} {dst : Option Tmp} {op : Op} {ty : TypeId} {pos : String} {after : Array Edge}
theorem c_storeRow {t : TypeId} {y x : Operand} {agg : Bool} {m k o e sz i j : Nat} {X : D} {es es' : List (List D)} {z : List D} (ht : szB P t agg m = true) (hy : ev y = .ref k o) (hx : ev x = .d X) (hX : X.sc = true ∨ ∃ cs, X = .agg cs) (hm : X.cells.length = m)
    (hk : s.s k = .row e sz es) (ho : o = i * sz + j) (hz : es[i]? = some z) (hj : j + m ≤ sz) (hes : es.set i (setCs z j X.cells) = es') : COp P w0 s ev ⟨none, .store t y x, ty, pos, after, none⟩ (.set k (.row e sz es') none .dead) :=
  fun st hk' _ hev _ => step_of_aops rfl fun ops rest R h => aops_store_row ht (live_ev hev hy (by simp)) (live_ev hev hx (by simp)) hX hm (by rw [hk']; exact hk) ho hz hj hes h
theorem fl_nil : FloatOK P w0 l n Fl S [] := trivial
theorem fl_cons {i : Nat} {o : Oper} {d : Tmp} {x : T} (ho : l[i]? = some o) (hd : o.dst = some d) (hx : S.t d = x) (h : COp P w0 S (mk (flU l n Fl (afterB o)) S).ev o (.put (some d) x)) (hs : FloatOK P w0 l n Fl S is) : FloatOK P w0 l n Fl S (i :: is) := by
  refine ⟨?_, hs⟩
  rw [ho]
  simp only [hd]
  rw [hx]; exact h
theorem late_nil (h : K S) : LateW P w0 l n Fl [] S K := h
theorem late_q {x : T} (hq : QOp P w0 S.n S.s (mk (flU l n Fl fun _ => false) S).ev ⟨dst, op, ty, pos, after, none⟩ x) (hf : FloatOK P w0 l n Fl (S.put dst x) Fl) (h : LateW P w0 l n Fl os (S.put dst x) K) :
    LateW P w0 l n Fl (⟨dst, op, ty, pos, after, none⟩ :: os) S K := ⟨.put dst x, ⟨rfl, rfl⟩, c_q hq, hf, h⟩
theorem late_set {k : Nat} {z : Site} (hc : COp P w0 S (mk (flU l n Fl fun _ => false) S).ev ⟨none, op, ty, pos, after, none⟩ (.set k z none .dead)) (hf : FloatOK P w0 l n Fl (S.site k z) Fl) (h : LateW P w0 l n Fl os (S.site k z) K) :
    LateW P w0 l n Fl (⟨none, op, ty, pos, after, none⟩ :: os) S K := ⟨.set k z none .dead, ⟨rfl, rfl⟩, hc, hf, h⟩
end
end Go.Proofs.Ytblbnagdhcpnoaa.Am
