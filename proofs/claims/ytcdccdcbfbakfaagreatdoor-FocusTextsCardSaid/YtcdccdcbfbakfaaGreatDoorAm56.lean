/- The abstract machine, part 56: ranges over a function whose rounds know that their world is the caller's, grown. Conditions: none. -/
import Derived.Test.YtcdccdcbfbakfaaGreatDoorAmF
set_option linter.unusedVariables false
set_option linter.unusedSimpArgs false
namespace Go.Proofs.YtcdccdcbfbakfaaGreatDoor.Am
open Go Go.RowKit
section
variable {P : Program} {w0 : Cx} {st : St} {a : Act} {w A B : World} {blk : Nat → Option Nat} {val : Nat → Value} {Y : Nat → Prop}
theorem awp_rangeHG {α β : Type} {g : Operand} {ps : Array Tmp} {assign body : Code} {R : Exit → St → Prop} {f : FuncId} {pre post : List D} {enc : α → List D} {items : List α} {fin : Bool} (N : Nat) (dh : List D) (SH : List Value → β → Nat → Site) (S' : β → Nat → Site) (I : Nat → β → Prop) (X : Exit → β → Prop) (x0 : β)
    (hrnd : w0.rnd = none) (hg : (st.ev g = .d (.mfn (.func f) pre) ∧ post = []) ∨ (st.ev g = .d (.fn (.func f) post) ∧ pre = [])) (he : enB P f = true) (hit : PI P f pre post enc items fin) (hN : Nat.ble st.n N = true) (hps : ∀ y, (enc y).length = ps.size) (hpn : ∀ p ∈ ps.toList, p < st.n) (hfl : ∀ us x k, FlatS (SH us x k))
    (hvar : ∀ us x k, (SH us x k).isVar = (st.s k).isVar) (h0 : I 0 x0) (hs : ∀ a w blk val, Hold w0 st a w blk val → ∃ us blk' val', RepL w (okOf w0 blk') dh us ∧ Hold w0 (loopSt st (SH us x0)) a w blk' val') (hfin : fin = false → ∀ x, ¬ I items.length x)
    (hround : ∀ us, ∀ w1 : Cx, (∀ k b, w1.pin k = some b → (Nat.ble N k && (st.s (k - N)).isVar) = true) → (∀ w', ExtM w1 w' → ExtM w0 w') → ∀ k x y, I k x → items[k]? = some y → Awp P w1 assign (fun e s => e = .normal ∧ ∀ w2 : Cx, (∀ k b, w2.pin k = some b → (Nat.ble N k && (st.s (k - N)).isVar) = true) → (∀ w', ExtM w2 w' → ExtM w0 w') →
      Awp P w2 body (fun e s' => (e = .normal ∧ ∃ x', I (k + 1) x' ∧ Le w2 s' (upSt N (deadSt st (SH us x')))) ∨ ((jumpOf e).isSome = true ∧ ∃ x', X e x' ∧ Le w2 s' (upSt N (deadSt st (SH us x'))))) s) (putL ps.toList (enc y) (upSt N (loopSt st (SH us x)))))
    (hback : ∀ us x a w blk val, RepL w (okOf w0 blk) dh us → Hold w0 (loopSt st (SH us x)) a w blk val → Hold w0 (loopSt st (S' x)) a w blk val)
    (hdone : ∀ x, I items.length x → R .normal (loopSt st (S' x))) (hstop : ∀ e x, X e x → R e (loopSt st (S' x))) : Awp P w0 (.rangeFunc g ps assign body) R st := by
  intro F m hF a w hH
  rw [Nat.ble_eq] at hN
  have hFw : F = Fence.wide := by
    rcases hF.1 with e | ⟨l, e⟩
    · exact e
    · have := hF.2; rw [e, hrnd] at this; cases this
  subst hFw
  obtain ⟨blkI, valI, hhI⟩ := hH
  obtain ⟨us0, blk0, val0, hus0, hh0⟩ := hs a w blkI valI hhI
  obtain ⟨S, hSe⟩ : ∃ S : β → Nat → Site, S = SH us0 := ⟨_, rfl⟩
  have hround := hround us0
  have hvar := hvar us0
  have hfl := hfl us0
  have hback0 := hback us0
  rw [← hSe] at hround hvar hfl hback0 hh0
  obtain ⟨v1, v2, hga, hv1', hv2'⟩ : ∃ v1 v2 : List Value, a.eval g = .func (.func f) v1.toArray v2.toArray ∧ RepL w (okOf w0 blk0) pre v1 ∧ RepL w (okOf w0 blk0) post v2 := by
    have evg : ∀ x, st.ev g = .d x → Rep w (okOf w0 blk0) x (a.eval g) := fun x hx => by
      have h1 := hh0.ev g
      have : (loopSt st (S x0)).ev g = .d x := by
        cases g with
        | tmp t => show loopT st.s (st.t t) = _; rw [show st.t t = _ from hx]; rfl
        | _ => exact hx
      rw [this] at h1; exact h1
    rcases hg with ⟨h1, rfl⟩ | ⟨h1, rfl⟩
    · obtain ⟨vs, h2, h3⟩ := mfn_inv (evg _ h1)
      exact ⟨vs, [], h2, h3, trivial⟩
    · obtain ⟨vs, h2, h3⟩ := fn_inv (evg _ h1)
      exact ⟨[], vs, h2, trivial, h3⟩
  have hlow : ∀ {ds : List D} {vs : List Value}, RepL w (okOf w0 blk0) ds vs → RepL w (fun b => okOf w0 blk0 b ∧ b < w.heap.size) ds vs := fun h => RepL.of h.length fun j d v h1 h2 => (h.get j d v h1 h2).ok fun b hb h => ⟨h, hb⟩
  have hv1 := hlow hv1'
  have hv2 := hlow hv2'
  refine wpIn_rangeFunc ?_
  intro fn hfn
  obtain ⟨rec, hrec⟩ : ∃ rec : LoopState → Option Code → Loop, rec = fun st pe => { state := st, pending := pe, fn, tmps := a.tmps, params := ps, assign, body, defers := w.heap.size } := ⟨_, rfl⟩
  obtain ⟨W1, hW1⟩ : ∃ W1, (w.alloc (.deferred (some []))).alloc (.loop (rec .ready none)) = W1 := ⟨_, rfl⟩
  have hL1 : W1.heap[w.heap.size + 1]? = some (.loop (rec .ready none)) := by
    rw [← hW1]; have := World.alloc_heap_new (w.alloc (.deferred (some []))) (.loop (rec .ready none)); rwa [World.size_alloc] at this
  have hK1 : W1.heap[w.heap.size]? = some (.deferred (some [])) := by
    rw [← hW1]; exact (Below.heap_alloc _ _ _ (by simp)).trans (World.alloc_heap_new w _)
  have hE1 : Ext w W1 := by rw [← hW1]; exact ((Ext.refl w).alloc _).alloc _
  have hs1 : W1.heap.size = w.heap.size + 2 := by rw [← hW1]; simp
  have hJ1 : Between w0 st a w (fun b => okOf w0 blk0 b ∧ b < w.heap.size) (w.heap.size + 1) w.heap.size (rec .ready none) (S x0) (fun _ => False) W1 :=
    ⟨⟨blk0, val0, HoldY.of (hh0.ext' hE1), fun g hg => ⟨hg.1, fun h => h⟩⟩, hL1, hK1, ⟨fun h => h, fun h => h⟩, by omega, fun g hg => hE1.block g hg.2⟩
  refine ⟨w.heap.size + 1, [{ target := .collected w.heap.size, args := #[] }], W1, { target := .fn (.func f) v2.toArray, args := v1.toArray ++ #[.func (.yield (w.heap.size + 1)) #[] #[]] }, W1, f,
    v1.toArray ++ #[.func (.yield (w.heap.size + 1)) #[] #[]] ++ v2.toArray, W1, ?_, ?_, fun _ _ => trivial, ?_, fun h => (by simp [Fence.wide] at h), ?_⟩
  · rw [← hW1, hrec]; exact run_enterLoop_outer _ _ _ _ _
  · simp only [resolve, hga]
    simp [go_sem]
  · simp [invoke, go_sem, run_callFunc he]
  · have hargs : v1.toArray ++ #[Value.func (.yield (w.heap.size + 1)) #[] #[]] ++ v2.toArray = (v1 ++ Value.func (.yield (w.heap.size + 1)) #[] #[] :: v2).toArray := by simp
    rw [hargs]
    refine callsIn_wide.2 (callsIn_wide.1 ((hit w (fun b => okOf w0 blk0 b ∧ b < w.heap.size) v1 v2 hv1 hv2 0 (w.heap.size + 1)
      (fun Y s A => match s with
        | (true, s) => ∃ x, I s.length x ∧ Between w0 st a w (fun b => okOf w0 blk0 b ∧ b < w.heap.size) (w.heap.size + 1) w.heap.size (rec .ready none) (S x) Y A
        | (false, _) => ∃ e c x, jumpOf e = some c ∧ X e x ∧ Between w0 st a w (fun b => okOf w0 blk0 b ∧ b < w.heap.size) (w.heap.size + 1) w.heap.size (rec .done (some c)) (S x) Y A) W1 (fun _ => False) ?_ ?_ ?_ ?_ ⟨x0, h0, hJ1⟩).mono ?_))
    · have step : ∀ (r : Loop) (x : β) (Y : Nat → Prop) (A B : World), Between w0 st a w (fun b => okOf w0 blk0 b ∧ b < w.heap.size) (w.heap.size + 1) w.heap.size r (S x) Y A → A.heap.size ≤ B.heap.size → SameIO A B → (∀ g, g < A.heap.size → ¬ Y g → B.heap[g]? = A.heap[g]?) →
          Between w0 st a w (fun b => okOf w0 blk0 b ∧ b < w.heap.size) (w.heap.size + 1) w.heap.size r (S x) (fun g => Y g ∨ (A.heap.size ≤ g ∧ g < B.heap.size)) B := by
        intro r x Y A B hb hAB hio hsame
        obtain ⟨blk, val, hh, hD⟩ := hb.hold
        have hlA := heap_lt hb.rcd
        have hkA := heap_lt hb.def_
        refine ⟨⟨blk, val, hh.step hAB hio hsame, fun g hg => ⟨(hD g hg).1, fun h => ?_⟩⟩, (hsame _ hlA hb.out.1).trans hb.rcd, (hsame _ hkA hb.out.2).trans hb.def_, ⟨fun h => ?_, fun h => ?_⟩, Nat.le_trans hb.size hAB, fun g hg => ?_⟩
        · rcases h with h | ⟨h, _⟩
          · exact (hD g hg).2 h
          · have := hb.size; have := hg.2; omega
        · rcases h with h | ⟨h, _⟩
          · exact hb.out.1 h
          · omega
        · rcases h with h | ⟨h, _⟩
          · exact hb.out.2 h
          · omega
        · rw [hsame g (by have := hb.size; have := hg.2; omega) (hD g hg).2]; exact hb.data g hg
      rintro Y ⟨go, s⟩ A B hJ hAB hio hsame
      cases go with
      | true => obtain ⟨x, hI, hb⟩ := hJ; exact ⟨x, hI, step _ x Y A B hb hAB hio hsame⟩
      | false => obtain ⟨e, c, x, hc, hX, hb⟩ := hJ; exact ⟨e, c, x, hc, hX, step _ x Y A B hb hAB hio hsame⟩
    · have info : ∀ (r : Loop) (x : β) (Y : Nat → Prop) (A : World), Between w0 st a w (fun b => okOf w0 blk0 b ∧ b < w.heap.size) (w.heap.size + 1) w.heap.size r (S x) Y A →
          w.heap.size ≤ A.heap.size ∧ (∀ g, Y g → g < A.heap.size) ∧ ∀ g, g < w.heap.size → (okOf w0 blk0 g ∧ g < w.heap.size) → A.heap[g]? = w.heap[g]? ∧ ¬ Y g := by
        intro r x Y A hb
        obtain ⟨blk, val, hh, hD⟩ := hb.hold
        exact ⟨by have := hb.size; omega, fun g hg => (hh.newY g hg).2, fun g _ hg => ⟨hb.data g hg, (hD g hg).2⟩⟩
      rintro Y ⟨go, s⟩ A hJ
      cases go with
      | true => obtain ⟨x, hI, hb⟩ := hJ; exact info _ x Y A hb
      | false => obtain ⟨e, c, x, hc, hX, hb⟩ := hJ; exact info _ x Y A hb
    · rintro Y s y us A ⟨x, hI, hb⟩ hpre hus m'
      obtain ⟨blk, val, hh, hD⟩ := hb.hold
      have hul : us.length = ps.size := by rw [RepL.length hus]; exact hps y
      have hy := run_yield (P := P) (args := us.toArray) hb.rcd (by rw [hrec]; simpa using hul)
      rw [hrec] at hy
      have hE : ∀ k b, upB N blk k = some b → blk (k - N) = some b := fun k b hk => by
        simp only [upB] at hk
        cases hb : Nat.ble N k with
        | false => rw [hb] at hk; cases hk
        | true => rw [hb] at hk; exact hk
      have hst : Holds (roundCxY w0 Y N (w.heap.size + 1) (rec .ready none) (loopSt st (S x)) A blk) (Am.putL ps.toList (enc y) (upSt N (loopSt st (S x)))) { tmps := (ps.toList.zip us).foldl (fun t (x : Tmp × Value) => t.setIfInBounds x.1 x.2) a.tmps, defers := [] } A :=
        ⟨_, _, Hold.putL ps.toList (enc y) us _ _ (hh.roundY N (w.heap.size + 1) hN hb.rcd) (RepL.of (RepL.length hus) fun j d v h1 h2 => (RepL.get hus j d v h1 h2).ok fun b hb hok => ⟨.inl (by
          rcases hok with q | q
          · exact .inl (hD b q)
          · exact .inr q), fun k hk => by
          have hk2 := hE k b hk
          rcases hok with q | q
          · exact (hD b q).1.2 _ hk2
          · exact (hh.new _ b hk2).2.2 q⟩) hpn⟩
      have hit' : items[s.length]? = some y := by obtain ⟨t, ht⟩ := hpre; rw [← ht]; simp
      have hact : ({ tmps := (ps.zip us.toArray).foldl (fun tmps (x : Tmp × Value) => tmps.setIfInBounds x.1 x.2) a.tmps, defers := [] } : Act) = { tmps := (ps.toList.zip us).foldl (fun t (x : Tmp × Value) => t.setIfInBounds x.1 x.2) a.tmps, defers := [] } := by
        rw [← Array.foldl_toList, Array.toList_zip]
      have hpins : ∀ k b, (bif Nat.ble N k && ((loopSt st (S x)).s (k - N)).isVar then blk (k - N) else none) = some b → (Nat.ble N k && (st.s (k - N)).isVar) = true := fun k b hk => by
        have e : ((loopSt st (S x)).s (k - N)).isVar = (st.s (k - N)).isVar := hvar x (k - N)
        rw [e] at hk
        cases hb : Nat.ble N k && (st.s (k - N)).isVar with
        | true => rfl
        | false => rw [hb] at hk; cases hk
      have hxt : ∀ (c : Cx), c.w = A → (∀ b, c.mine b → (∃ k, blk k = some b) ∨ b = w.heap.size + 1) → ∀ w', ExtM c w' → ExtM w0 w' := fun c hcw hcm w' hW => by
        have e0 := hh.ext
        have esw : w0.w.heap.size ≤ w.heap.size := hh0.ext.size
        refine ⟨by rw [hW.os, hcw]; exact e0.os, by rw [hW.tape, hcw]; exact e0.tape, by rw [hW.output, hcw]; exact e0.output, by have := hW.size; rw [hcw] at this; exact Nat.le_trans e0.size this, fun k hk hm => ?_⟩
        rw [hW.block k (by rw [hcw]; exact Nat.lt_of_lt_of_le hk e0.size) (fun q => ?_), hcw]
        · exact e0.block k hk hm
        · rcases hcm k q with ⟨j, hj⟩ | e
          · rcases (hh.new j k hj).1 with q | q
            · omega
            · exact hm q
          · omega
      refine ⟨fn, _, assign, body, hy, roundIn_of_wpIn hfn (wpIn_mono (show assign.wpIn _ _ P _ ({ tmps := (ps.zip us.toArray).foldl (fun tmps (x : Tmp × Value) => tmps.setIfInBounds x.1 x.2) a.tmps, defers := [] } : Act) A from by rw [hact]; exact hround (roundCxY w0 Y N (w.heap.size + 1) (rec .ready none) (loopSt st (S x)) A blk) hpins (hxt _ rfl (fun _ h => h)) s.length x y hI hit' (Fence.wide.inRound (w.heap.size + 1)) _ ⟨.inr ⟨_, rfl⟩, rfl⟩ _ _ hst) ?_)⟩
      rintro e a₁ W₁ ⟨s1, ⟨rfl, hw2⟩, blk1, val1, h1⟩
      have hl1 := (h1.defers.fix (w.heap.size + 1) (.loop (rec .ready none)) (by simp [roundCxY, roundCx, fixL])).1
      have h1' := h1.refix (rec .busy none) rfl (.inr rfl)
      refine ⟨_, run_beginRound hl1 (by rw [hrec]), wpIn_mono (hw2 _ hpins (hxt _ rfl (fun _ h => h)) (Fence.wide.inRound (w.heap.size + 1)) _ ⟨.inr ⟨_, rfl⟩, rfl⟩ _ _ ⟨_, _, by rw [hrec] at h1' ⊢; exact h1'⟩) ?_⟩
      -- the end of a round, with or without a jump
      have fin_ : ∀ (c1 : Cx), c1 = { roundCxY w0 Y N (w.heap.size + 1) (rec .ready none) (loopSt st (S x)) A blk with fix := fixL (w.heap.size + 1) (rec .busy none) } → ∀ (a₂ : Act) (W₂ : World) (s2 : St) (x' : β) (jump : Option Code), Le c1 s2 (upSt N (deadSt st (S x'))) → Holds c1 s2 a₂ W₂ →
          (Instr.endRound (w.heap.size + 1) jump).run P W₂ = .ok (.bool jump.isNone) (W₂.putObj (w.heap.size + 1) (.loop (rec (if jump.isNone then .ready else .done) jump))) ∧
          ∃ B, W₂.putObj (w.heap.size + 1) (.loop (rec (if jump.isNone then .ready else .done) jump)) = B ∧
            Between w0 st a w (fun b => okOf w0 blk0 b ∧ b < w.heap.size) (w.heap.size + 1) w.heap.size (rec (if jump.isNone then .ready else .done) jump) (S x') Y B ∧ A.heap.size ≤ B.heap.size ∧ SameIO A B ∧ ∀ g, Y g → B.heap[g]? = A.heap[g]? := by
        intro c1 hc1 a₂ W₂ s2 x' jump hle hH2
        subst hc1
        obtain ⟨blk2, val2, h2⟩ := hle a₂ W₂ hH2
        have hl2 := (h2.defers.fix (w.heap.size + 1) (.loop (rec .busy none)) (by simp [fixL, hrec])).1
        have h3 := h2.refix (rec (if jump.isNone then .ready else .done) jump) rfl (.inr rfl)
        have hB : (W₂.putObj (w.heap.size + 1) (.loop (rec (if jump.isNone then .ready else .done) jump))).heap[w.heap.size + 1]? = some (.loop (rec (if jump.isNone then .ready else .done) jump)) := World.putObj_heap_same (heap_lt hl2)
        have hrun : (Instr.endRound (w.heap.size + 1) jump).run P W₂ = .ok (.bool jump.isNone) (W₂.putObj (w.heap.size + 1) (.loop (rec (if jump.isNone then .ready else .done) jump))) := by
          have := run_endRound (P := P) jump hl2
          rw [hrec] at this ⊢; exact this
        refine ⟨hrun, _, rfl, ?_⟩
        generalize hBe : W₂.putObj (w.heap.size + 1) (.loop (rec (if jump.isNone then .ready else .done) jump)) = B at h3 hB
        have hsz : A.heap.size ≤ B.heap.size := h3.ext.size
        have hio : SameIO A B := ⟨h3.ext.os, h3.ext.tape, h3.ext.output⟩
        have hfr : ∀ g, g < A.heap.size → (∀ k, blk k ≠ some g) → g ≠ w.heap.size + 1 → B.heap[g]? = A.heap[g]? := fun g hg hnb hgl => h3.ext.block g hg (fun hm => by
          rcases hm with ⟨k, hk⟩ | hk
          · exact hnb k hk
          · exact hgl hk)
        have hnew : ∀ k b, blk2 (N + k) = some b → (∃ j, blk j = some b) ∨ A.heap.size ≤ b := fun k b hb2 => by
          rcases (h3.new _ b hb2).1 with q | q | q
          · exact .inr q
          · exact .inl q
          · exact absurd (by rw [← q]; exact hb2) ((HoldY.of h3).siteNc hB rfl (N + k))
        have hsw : w0.w.heap.size ≤ w.heap.size := hh0.ext.size
        have hback := hh.backF (N := N) (l := w.heap.size + 1) (r := rec .ready none) (S := S x') (B := B) h3 hsz hio hfr hb.rcd (by omega) (fun o ho => by have := heap_lt (hh0.defers.fix _ o ho).1; omega)
          (fun k b hv hbk => by
            have e : Nat.ble N (N + k) = true := by rw [Nat.ble_eq]; omega
            show (bif Nat.ble N (N + k) && ((loopSt st (S x)).s (N + k - N)).isVar then blk (N + k - N) else none) = some b
            rw [e, Nat.add_sub_cancel_left, hv]; exact hbk)
          hnew (fun k => hfl x' k) (fun k => (hvar x' k).trans (hvar x k).symm)
        rw [loopSt_loopSt (hvar x)] at hback
        have hlA := heap_lt hb.rcd
        refine ⟨⟨⟨_, _, hback, fun g hg => ⟨⟨(hD g hg).1.1, fun k hk => ?_⟩, (hD g hg).2⟩⟩, hB, ?_, hb.out, Nat.le_trans hb.size hsz, fun g hg => ?_⟩, hsz, hio, fun g hg => ?_⟩
        · rcases hnew k g hk with ⟨j, hj⟩ | q
          · exact (hD g hg).1.2 j hj
          · have := hb.size; have := hg.2; omega
        · rw [hfr _ (heap_lt hb.def_) (hh.siteNc hb.def_ rfl) (by omega)]; exact hb.def_
        · rw [hfr g (by have := hb.size; have := hg.2; omega) (hD g hg).1.2 (by have := hg.2; omega)]; exact hb.data g hg
        · exact hfr g (hh.newY g hg).2 (fun k hk => (hh.new k g hk).2.2 hg) (fun e => hb.out.1 (by rw [← e]; exact hg))
      rintro e a₂ W₂ ⟨s2, hend, hH2⟩
      rcases hend with ⟨rfl, x', hI', hle⟩ | ⟨hj, x', hX, hle⟩
      · obtain ⟨hrun, B, hB, h1, h2, h3, h4⟩ := fin_ _ (by rw [hrec]) a₂ W₂ s2 x' none hle hH2
        exact ⟨_, _, hrun, true, rfl, by rw [hB]; exact ⟨x', by rw [List.length_append]; exact hI', h1⟩, by rw [hB]; exact h2, by rw [hB]; exact h3, by rw [hB]; exact h4⟩
      · cases e with
        | ret =>
          obtain ⟨hrun, B, hB, h1, h2, h3, h4⟩ := fin_ _ (by rw [hrec]) a₂ W₂ s2 x' (some .ret) hle hH2
          exact ⟨_, _, hrun, false, rfl, by rw [hB]; exact ⟨.ret, .ret, x', rfl, hX, h1⟩, by rw [hB]; exact h2, by rw [hB]; exact h3, by rw [hB]; exact h4⟩
        | exit id =>
          obtain ⟨hrun, B, hB, h1, h2, h3, h4⟩ := fin_ _ (by rw [hrec]) a₂ W₂ s2 x' (some (.exit id)) hle hH2
          exact ⟨_, _, hrun, false, rfl, by rw [hB]; exact ⟨.exit id, .exit id, x', rfl, hX, h1⟩, by rw [hB]; exact h2, by rw [hB]; exact h3, by rw [hB]; exact h4⟩
        | _ => cases hj
    · rintro hf Y A ⟨x, hI, _⟩
      exact hfin hf x hI
    · have behind : ∀ (W2 : World) (r : Loop) (x : β) (Y : Nat → Prop) (st' : LoopState), Between w0 st a w (fun b => okOf w0 blk0 b ∧ b < w.heap.size) (w.heap.size + 1) w.heap.size r (S x) Y W2 →
          Holds w0 (loopSt st (S' x)) { a with defers := { target := .collected w.heap.size, args := #[] } :: a.defers } (W2.putObj (w.heap.size + 1) (.loop { r with state := st' })) := by
        intro W2 r x Y st' hb
        obtain ⟨blk, val, hh, hD⟩ := hb.hold
        have hlA := heap_lt hb.rcd
        have hck : CK W2 (W2.putObj (w.heap.size + 1) (.loop { r with state := st' })) := ⟨by rw [World.putObj_size]; exact Nat.le_refl _, fun b vals e z hc => by
          rw [World.putObj_heap_other (fun e' => by rw [e', hb.rcd] at hc; cases hc)]; exact hc, fun b es z hc => by
          rw [World.putObj_heap_other (fun e' => by rw [e', hb.rcd] at hc; cases hc)]; exact hc⟩
        have hm := hh.hold
        obtain ⟨⟨ms0, n1, n2, n3⟩, _⟩ := hh0.defers
        obtain ⟨⟨ms, m1, m2, m3⟩, mf⟩ := hm.defers
        have hlt : ∀ b ∈ ms, b < w.heap.size := fun b hb' => by
          have : ({ target := .collected b, args := #[] } : Deferred) ∈ a.defers := by rw [m1]; exact List.mem_map.2 ⟨b, hb', rfl⟩
          rw [n1] at this
          obtain ⟨b', hb2, e⟩ := List.mem_map.1 this
          cases e
          exact heap_lt (n3 b hb2).2
        have hgood : RepL (W2.putObj (w.heap.size + 1) (.loop { r with state := st' })) (okOf w0 blk) dh us0 := (hlow hus0).imp fun d v h => (h.keep (w' := W2) (ok' := okOf w0 blk) (by have := hb.size; omega) (fun b o hok ho => by rw [hb.data b hok]; exact ho) (fun b _ hok => (hD b hok).1)).keepC hck
        refine ⟨blk, val, hback0 x _ _ _ _ hgood ?_⟩
        refine ⟨⟨hm.ext.os, hm.ext.tape, hm.ext.output, by rw [World.putObj_size]; exact hm.ext.size, fun k hk hmk => ?_⟩, ⟨⟨w.heap.size :: ms, ?_, List.nodup_cons.2 ⟨fun h => by have := hlt _ h; omega, m2⟩, fun b hb' => ?_⟩, fun b o hf => ?_⟩, hm.size, fun s b hsb => ⟨(hm.new s b hsb).1, by rw [World.putObj_size]; exact (hm.new s b hsb).2⟩, hm.inj, hm.pin, fun s => (hm.site s).keepC hck, fun t => (hm.tmp t).keepC hck⟩
        · rw [World.putObj_heap_other (by have := hh0.ext.size; omega)]; exact hm.ext.block k hk hmk
        · show _ :: a.defers = _
          rw [m1]; rfl
        · rcases List.mem_cons.1 hb' with rfl | hb'
          · exact ⟨.inl hh0.ext.size, by rw [World.putObj_heap_other (by omega)]; exact hb.def_⟩
          · exact ⟨(m3 b hb').1, by rw [World.putObj_heap_other (by have := hlt b hb'; omega)]; exact (m3 b hb').2⟩
        · refine ⟨?_, (mf b o hf).2⟩
          rw [World.putObj_heap_other (by have := heap_lt (hh0.defers.fix b o hf).1; omega)]; exact (mf b o hf).1
      rintro e W2 ⟨⟨v, rfl⟩, Y, ⟨go, s⟩, hJ, hgo⟩
      cases go with
      | true =>
        obtain ⟨x, hI, hb⟩ := hJ
        have hsi : s = items := hgo rfl
        subst hsi
        refine ⟨none, _, by have := run_endLoop (P := P) hb.rcd (by rw [hrec]; simp); rw [hrec] at this; exact this, ?_⟩
        exact ⟨_, hdone x hI, by have := behind W2 _ x Y .exhausted hb; rw [hrec] at this; exact this⟩
      | false =>
        obtain ⟨e, c, x, hc, hX, hb⟩ := hJ
        refine ⟨some c, _, by have := run_endLoop (P := P) hb.rcd (by rw [hrec]; simp); rw [hrec] at this; exact this, ?_⟩
        have hq : Post w0 R e _ _ := ⟨_, hstop e x hX, by have := behind W2 _ x Y .exhausted hb; rw [hrec] at this; exact this⟩
        cases e with
        | ret => cases hc; exact wpIn_ret hq
        | exit id => cases hc; exact wpIn_exit hq
        | _ => cases hc
theorem awp_rangeFCG {α β : Type} {g : Operand} {ps : Array Tmp} {assign body : Code} {R : Exit → St → Prop} {f : FuncId} {pre post : List D} {enc : α → List D} {items : List α} {fin : Bool} {n : Nat} (N : Nat) (sl : List (Nat × T)) (ss : β → List (Nat × Site)) (I : Nat → β → Prop) (X : Exit → β → Prop) (x0 : β)
    (hrnd : w0.rnd = none) (hle : Le w0 st (cSt n sl (ss x0))) (hg : ((cSt n sl (ss x0)).ev g = .d (.mfn (.func f) pre) ∧ post = []) ∨ ((cSt n sl (ss x0)).ev g = .d (.fn (.func f) post) ∧ pre = [])) (he : enB P f = true) (hit : PI P f pre post enc items fin) (hN : Nat.ble n N = true) (hps : ∀ y, (enc y).length = ps.size) (hpn : ps.toList.all (fun p => Nat.blt p n) = true)
    (hfl : ∀ x, ∀ p ∈ ss x, FlatS p.2)
    (hvar : ∀ x, (ss x).map kvS = (ss x0).map kvS) (h0 : I 0 x0) (hfin : fin = false → ∀ x, ¬ I items.length x)
    (hround : ∀ w1 : Cx, (∀ k b, w1.pin k = some b → (Nat.ble N k && ((cSt n sl (ss x0)).s (k - N)).isVar) = true) → (∀ w', ExtM w1 w' → ExtM w0 w') → ∀ k x y, I k x → items[k]? = some y → Awp P w1 assign (fun e s => e = .normal ∧ ∀ w2 : Cx, (∀ k b, w2.pin k = some b → (Nat.ble N k && ((cSt n sl (ss x0)).s (k - N)).isVar) = true) → (∀ w', ExtM w2 w' → ExtM w0 w') →
      Awp P w2 body (fun e s' => (e = .normal ∧ ∃ x', I (k + 1) x' ∧ Le w2 s' (upSt N (deadSt (cSt n sl (ss x0)) (siteOf (ss x'))))) ∨ ((jumpOf e).isSome = true ∧ ∃ x', X e x' ∧ Le w2 s' (upSt N (deadSt (cSt n sl (ss x0)) (siteOf (ss x')))))) s) (putL ps.toList (enc y) (upSt N (loopSt (cSt n sl (ss x0)) (siteOf (ss x))))))
    (hdone : ∀ x, I items.length x → R .normal (loopSt (cSt n sl (ss x0)) (siteOf (ss x)))) (hstop : ∀ e x, X e x → R e (loopSt (cSt n sl (ss x0)) (siteOf (ss x)))) : Awp P w0 (.rangeFunc g ps assign body) R st := by
  refine Awp.le hle (awp_rangeHG N [] (fun _ x => siteOf (ss x)) (fun x => siteOf (ss x)) I X x0 hrnd hg he hit hN hps (fun p hp => ?_) (fun _ x i => flatS_of (hfl x) i) (fun _ x i => siteOf_var (hvar x) i) h0 (fun a w blk val h => ⟨[], blk, val, trivial, Hold.weakH h ⟨rfl, rfl, fun t => ?_⟩⟩) hfin (fun _ => hround) (fun _ _ _ _ _ _ _ h => h) hdone hstop)
  · have := List.all_eq_true.1 hpn p hp
    rw [Nat.blt_eq] at this; exact this
  · show loopT (cSt n sl (ss x0)).s ((cSt n sl (ss x0)).t t) = _ ∨ loopT (cSt n sl (ss x0)).s ((cSt n sl (ss x0)).t t) = .dead
    cases hx : (cSt n sl (ss x0)).t t with
    | ref k o =>
      simp only [loopT]
      cases ((cSt n sl (ss x0)).s k).isVar
      · exact .inr rfl
      · exact .inl rfl
    | rs k => exact .inr rfl
    | own k r f g => exact .inr rfl
    | _ => exact .inl rfl
end
end Go.Proofs.YtcdccdcbfbakfaaGreatDoor.Am
