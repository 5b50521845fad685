/- The abstract machine, part 14: stores into rows; equality of aggregates; bytes of a string. Conditions: none. -/
import Derived.Test.YtgdcidbpadhkpaaAm13
set_option linter.unusedVariables false
set_option linter.unusedSimpArgs false
namespace Go.Proofs.Ytgdcidbpadhkpaa.Am
open Go

section
variable {P : Program} {w0 : Cx} {ops : List Oper} {rest : List Oper} {R : Exit → St → Prop} {st : St} {ty : TypeId} {pos : String} {after : Array Edge}

theorem aops_store_row {t : TypeId} {y x : Operand} {agg : Bool} {m k o e sz i j : Nat} {X : D} {es es' : List (List D)} {z : List D} (ht : szB P t agg m = true) (hy : st.ev y = .ref k o) (hx : st.ev x = .d X) (hX : X.sc = true ∨ ∃ cs, X = .agg cs) (hm : X.cells.length = m)
    (hk : st.s k = .row e sz es) (ho : o = i * sz + j) (hz : es[i]? = some z) (hj : j + m ≤ sz) (hes : es.set i (setCs z j X.cells) = es') (h : Aops P w0 ops rest R (st.site k (.row e sz es'))) :
    Aops P w0 ops (⟨none, .store t y x, ty, pos, after, none⟩ :: rest) R st := by
  subst hes
  subst ho
  refine aops_step (K := fun s => s = st.site k (.row e sz (es.set i (setCs z j X.cells)))) rfl (fun a w ⟨blk, val, hh⟩ => ?_) (fun _ e => e ▸ h)
  have h1 := hh.ev y
  rw [hy] at h1
  obtain ⟨_, b, hb, hv⟩ := h1
  have hr : Rep w (okOf w0 blk) X (a.eval x) := by have := hh.ev x; rw [hx] at this; exact this
  obtain ⟨hL, hs⟩ := cells_inv hr hX
  have hsite := hh.site k
  rw [hk] at hsite
  obtain ⟨a1, a2, a3⟩ := hsite
  rcases a3 with ⟨hb0, _⟩ | ⟨b', vals, cap, hb', hval, hn, hcap, hheap, hvs, hc⟩
  · rw [hb] at hb0; cases hb0
  rw [hb] at hb'; cases hb'
  have hcl : (a.eval x).cells.size = m := by rw [← hm, ← hL.length, Array.length_toList]
  have hil : i < es.length := (List.getElem?_eq_some_iff.1 hz).1
  have hzl : z.length = sz := a1 i z hz
  have hle : (i + 1) * sz ≤ cap * sz := Nat.mul_le_mul_right _ (by omega)
  rw [Nat.succ_mul] at hle
  have hrun := run_storeAt (P := P) (o := i * sz + j) ht hcl hheap (by omega) (hL.mem hs)
  unfold Oper.wp
  rw [show (execOp a.eval ⟨none, .store t y x, ty, pos, after, none⟩).run P w = .ok .skip (w.setRow b (vals.toList.take (i * sz + j) ++ (a.eval x).cells.toList ++ vals.toList.drop (i * sz + j + m)).toArray) by simp [execOp, hv, hrun]]
  refine ⟨_, rfl, blk, val, hh.setRow hb ?_ (fun e' sz' es' he => ⟨_, _, _, rfl⟩) (by simp) (by rw [hk]; intro h; cases h)⟩
  have hlc : (a.eval x).cells.toList.length = X.cells.length := hL.length
  have hm' : m = (a.eval x).cells.toList.length := by omega
  have hsl : (setCs z j X.cells).length = sz := by rw [setCs_length (by omega), hzl]
  have keep : ∀ {d : D} {v : Value}, Rep w (okOf w0 blk) d v → Rep (w.setRow b (vals.toList.take (i * sz + j) ++ (a.eval x).cells.toList ++ vals.toList.drop (i * sz + j + m)).toArray) (okOf w0 blk) d v := fun h =>
    h.keep (by rw [setRow_size]; exact Nat.le_refl _) (fun b' o hok ho => by rw [setRow_block (fun e => hok.2 k (by rw [e]; exact hb))]; exact ho) fun _ _ h => h
  have hget : ∀ i' x', (es.set i (setCs z j X.cells))[i']? = some x' → (i' = i ∧ x' = setCs z j X.cells) ∨ (i' ≠ i ∧ es[i']? = some x') := fun i' x' hx' => by
    by_cases e : i' = i
    · subst e
      rw [List.getElem?_set_self hil] at hx'
      exact .inl ⟨rfl, (Option.some.inj hx').symm⟩
    · rw [List.getElem?_set_ne (Ne.symm e)] at hx'
      exact .inr ⟨e, hx'⟩
  have hvl : i * sz + j + (a.eval x).cells.toList.length ≤ vals.toList.length := by simp; omega
  have put : ∀ (q : Nat) (v : Value), ((q < i * sz + j ∧ vals.toList[q]? = some v) ∨ (i * sz + j ≤ q ∧ q < i * sz + j + (a.eval x).cells.toList.length ∧ (a.eval x).cells.toList[q - (i * sz + j)]? = some v) ∨ (i * sz + j + (a.eval x).cells.toList.length ≤ q ∧ vals.toList[q]? = some v)) →
      ((vals.toList.take (i * sz + j) ++ (a.eval x).cells.toList ++ vals.toList.drop (i * sz + j + m)).toArray)[q]? = some v := fun q v h => by
    rw [List.getElem?_toArray]
    have := splice_put hvl h
    rw [← hm'] at this
    exact this
  refine ⟨fun i' x' hx' => ?_, fun i' x' q d hx' hd => ?_, .inr ⟨b, _, cap, rfl, by rw [List.length_set]; exact hval, by rw [List.length_set]; exact hn, hcap, setRow_same hheap, ?_, fun i' x' q d hx' hd => ?_⟩⟩
  · rcases hget i' x' hx' with ⟨_, rfl⟩ | ⟨_, h⟩
    · exact hsl
    · exact a1 i' x' h
  · rcases hget i' x' hx' with ⟨rfl, rfl⟩ | ⟨_, h⟩
    · rcases splice_get (by omega) hd with ⟨_, h⟩ | ⟨_, _, h⟩ | ⟨_, h⟩
      · exact a2 i' z q d hz h
      · exact hs _ d h
      · exact a2 i' z q d hz h
    · exact a2 i' x' q d h hd
  · simp; omega
  · rcases hget i' x' hx' with ⟨rfl, rfl⟩ | ⟨hne, h⟩
    · have hql : q < sz := by have := (List.getElem?_eq_some_iff.1 hd).1; omega
      rcases splice_get (by omega) hd with ⟨h1, h⟩ | ⟨h1, h2, h⟩ | ⟨h1, h⟩
      · obtain ⟨v, hv, hr⟩ := hc i' z q d hz h
        exact ⟨v, put _ _ (.inl ⟨by omega, by simpa using hv⟩), keep hr⟩
      · obtain ⟨v, hv, hr⟩ := hL.at_ h
        exact ⟨v, put _ _ (.inr (.inl ⟨by omega, by omega, by rw [show i' * sz + q - (i' * sz + j) = q - j by omega]; exact hv⟩)), keep hr⟩
      · obtain ⟨v, hv, hr⟩ := hc i' z q d hz h
        exact ⟨v, put _ _ (.inr (.inr ⟨by omega, by simpa using hv⟩)), keep hr⟩
    · obtain ⟨v, hv, hr⟩ := hc i' x' q d h hd
      have hql : q < sz := by have := (List.getElem?_eq_some_iff.1 hd).1; rw [a1 i' x' h] at this; exact this
      refine ⟨v, put _ _ ?_, keep hr⟩
      rcases Nat.lt_or_ge i' i with hlt | hge
      · left
        have : (i' + 1) * sz ≤ i * sz := Nat.mul_le_mul_right _ hlt
        rw [Nat.succ_mul] at this
        exact ⟨by omega, by simpa using hv⟩
      · right; right
        have : (i + 1) * sz ≤ i' * sz := Nat.mul_le_mul_right _ (by omega)
        rw [Nat.succ_mul] at this
        exact ⟨by omega, by simpa using hv⟩
end
section
variable {P : Program} {w0 : Cx} {n : Nat} {s : Nat → Site} {ev : Operand → T} {dst : Option Tmp} {ty : TypeId} {pos : String} {after : Array Edge} {g : Option (Nat × Bool)}
def iV (x : Int) : D := .v (.int .i64 x)
def iW (x : Int) : Value := .int .i64 x
/-- Values of a type are equal just if their whole numbers are. -/
def EqI (P : Program) (t m : Nat) : Prop := ∀ (xs ys : List Int), xs.length = m → ys.length = m → ∀ w,
  (∀ x y, (eqGuard .eql t x y (.agg (xs.map iW).toArray) (.agg (ys.map iW).toArray)).run P w = .ok () w) ∧ (∀ x y, (eqGuard .neq t x y (.agg (xs.map iW).toArray) (.agg (ys.map iW).toArray)).run P w = .ok () w) ∧
  (Op.equalIn 10000 t (.agg (xs.map iW).toArray) (.agg (ys.map iW).toArray)).run P w = .ok (decide (xs = ys)) w
theorem agg_ints {w : World} {ok : Nat → Prop} {xs : List Int} {v : Value} (h : Rep w ok (.agg (xs.map iV)) v) : v = .agg (xs.map iW).toArray := by
  obtain ⟨vs, rfl, hL, _⟩ := agg_inv h
  congr 2
  have : ∀ (xs : List Int) (vs : List Value), RepL w ok (xs.map iV) vs → vs = xs.map iW := by
    intro xs
    induction xs with
    | nil => intro vs h; cases vs with
      | nil => rfl
      | cons => exact h.elim
    | cons x xs ih =>
      intro vs h
      cases vs with
      | nil => exact h.elim
      | cons v vs =>
        obtain ⟨h1, h2⟩ := h
        rw [ih vs h2, Rep.v_eq h1]
        rfl
  exact this xs vs hL
theorem q_eqlI {t t' : TypeId} {x y : Operand} {m : Nat} {xs ys : List Int} (hE : EqI P t m) (hx : ev x = .d (.agg (xs.map iV))) (hy : ev y = .d (.agg (ys.map iV))) (hxl : xs.length = m) (hyl : ys.length = m) : QOp P w0 n s ev ⟨dst, .binOp .eql t x y t', ty, pos, after, g⟩ (T.bool (decide (xs = ys))) :=
  .mk fun a w ok blk val h _ hnew => by
    have e1 := agg_ints (show Rep w _ (.agg (xs.map iV)) (a.eval x) by have := h x; rw [hx] at this; exact this)
    have e2 := agg_ints (show Rep w _ (.agg (ys.map iV)) (a.eval y) by have := h y; rw [hy] at this; exact this)
    obtain ⟨g1, _, g3⟩ := hE xs ys hxl hyl w
    exact ⟨_, w, by simp only [execOp, e1, e2, Sem.run_bind, g1, Result.andThen_ok, run_eql_struct, g3]; rfl, Ext.refl w, .v _ rfl⟩
theorem q_neqI {t t' : TypeId} {x y : Operand} {m : Nat} {xs ys : List Int} (hE : EqI P t m) (hx : ev x = .d (.agg (xs.map iV))) (hy : ev y = .d (.agg (ys.map iV))) (hxl : xs.length = m) (hyl : ys.length = m) : QOp P w0 n s ev ⟨dst, .binOp .neq t x y t', ty, pos, after, g⟩ (T.bool (!decide (xs = ys))) :=
  .mk fun a w ok blk val h _ hnew => by
    have e1 := agg_ints (show Rep w _ (.agg (xs.map iV)) (a.eval x) by have := h x; rw [hx] at this; exact this)
    have e2 := agg_ints (show Rep w _ (.agg (ys.map iV)) (a.eval y) by have := h y; rw [hy] at this; exact this)
    obtain ⟨_, g2, g3⟩ := hE xs ys hxl hyl w
    exact ⟨_, w, by simp only [execOp, e1, e2, Sem.run_bind, g2, Result.andThen_ok, run_neq_struct, g3]; rfl, Ext.refl w, .v _ rfl⟩
/-- The bytes of a string. -/
def bC (b : UInt8) : List D := [.v (.int .u8 (b.toNat : Int))]
theorem q_bytes {t t' e : TypeId} {y : Operand} {b : ByteArray} (h1 : isStr P t = true) (h2 : slB P t' e 1 = true) (h3 : intB P e .u8 = true) (hb : b.size ≤ 4611686018427387903) (hy : ev y = .d (.v (.string b))) : QOp P w0 n s ev ⟨dst, .convert t t' y, ty, pos, after, g⟩ (.d (.sl 1 (b.data.toList.map bC))) :=
  .mk fun a w ok blk val h _ hnew => by
    have hv : a.eval y = .string b := RepT.v_eq (hy ▸ h y)
    have hrun := Lib.run_convert_string_bytes (P := P) w t t' e b (isStr_under h1) (slB_under h2) (intB_under h3)
    have hE : Ext w (Lib.bytesWorld w e b) := ⟨rfl, rfl, rfl, by rw [Lib.bytesWorld_size]; omega, fun k hk => Lib.bytesWorld_at_old w e b k hk⟩
    refine ⟨_, Lib.bytesWorld w e b, by simp only [execOp, hv, Sem.run_bind, hrun]; rfl, hE, ?_⟩
    have hl : (b.data.toList.map bC).length = b.size := by simp
    have hg : b.size ≤ grownCap w b.size 0 e ∧ grownCap w b.size 0 e ≤ maxLen := by
      have := b.size
      simp only [grownCap, Question.cut, maxLen]
      have h5 : 0 < 2 ^ 63 - b.size := by omega
      have := Nat.mod_lt (w.tape w.drawn (.appendCap b.size 0 e)) h5
      omega
    have := Rep.sl (w := Lib.bytesWorld w e b) (ok := ok) 1 (b.data.toList.map bC) w.heap.size 0 (grownCap w b.size 0 e) (fun i _ => .int .u8 (b.data.toList.getD i 0).toNat) (by rw [Lib.bytesWorld_size]; omega) (hnew _ (Nat.le_refl _)) (by rw [hl]; exact hg.1) hg.2 (fun i x hx => by
        rw [List.getElem?_map] at hx
        cases hq : b.data.toList[i]? with
        | none => rw [hq] at hx; cases hx
        | some c => rw [hq] at hx; cases hx; rfl) (fun i x j d hx hd => by
        rw [List.getElem?_map] at hx
        cases hq : b.data.toList[i]? with
        | none => rw [hq] at hx; cases hx
        | some c =>
          rw [hq] at hx; cases hx
          cases j with
          | zero => simp [bC] at hd; subst hd; rfl
          | succ j => simp [bC] at hd) (fun i x j d hx hd => by
        rw [List.getElem?_map] at hx
        cases hq : b.data.toList[i]? with
        | none => rw [hq] at hx; cases hx
        | some c =>
          rw [hq] at hx; cases hx
          cases j with
          | zero =>
            have hi : i < b.size := by have := (List.getElem?_eq_some_iff.1 hq).1; simpa using this
            rw [Nat.zero_add, Nat.mul_one, Nat.add_zero]
            exact Lib.bytesWorld_cell w e b i hi
          | succ j => simp [bC] at hd) (fun i x j d hx hd => by
        rw [List.getElem?_map] at hx
        cases hq : b.data.toList[i]? with
        | none => rw [hq] at hx; cases hx
        | some c =>
          rw [hq] at hx; cases hx
          cases j with
          | zero =>
            simp [bC] at hd; subst hd
            rw [List.getD_eq_getElem?_getD, hq]
            exact .v _ rfl
          | succ j => simp [bC] at hd)
    rw [hl] at this
    exact this
end
end Go.Proofs.Ytgdcidbpadhkpaa.Am
