/- Contracts over the abstract machine: chapter 9: plain law: stricter codes. Conditions: none. -/
import Derived.Test.YthpggoophcdgnaaDoorS14
set_option linter.unusedVariables false
set_option linter.unusedSimpArgs false
namespace Go.Proofs.YthpggoophcdgnaaDoor.Am.M
open Go

def inB (b : Bx) (m : Mk) : Prop := ∀ q, q < 6 → (b.at q).1 ≤ m.at q ∧ m.at q ≤ (b.at q).2
theorem set_all (l : List Rw) (m : Mk) : ((((((2 ^ l.length - 1) &&& qS l 0 m.x0) &&& qS l 1 m.x1) &&& qS l 2 m.x2) &&& qS l 3 m.x3) &&& qS l 4 m.x4) &&& qS l 5 m.x5 = sOf l m := by
  apply Nat.eq_of_testBit_eq
  intro i
  simp only [Nat.testBit_and, Nat.testBit_two_pow_sub_one, qS, bitsK_test, sOf_test, hb_q]
  by_cases hi : i < l.length
  · simp [hi]
  · simp [hi]
theorem set_3 (l : List Rw) (m : Mk) (x3 x4 x5 : Int) : ((s3K l m l.length &&& qS l 3 x3) &&& qS l 4 x4) &&& qS l 5 x5 = sOf l ⟨m.x0, m.x1, m.x2, x3, x4, x5⟩ := by
  apply Nat.eq_of_testBit_eq
  intro i
  rw [s3K_bits]
  simp only [Nat.testBit_and, qS, bitsK_test, sOf_test, hb_q, hb3_q]
  by_cases hi : i < l.length
  · simp [hi]
  · simp [hi]
theorem exp_all {F : Nat → Bool} {l : List Rw} {b : Bx} : ExP F l b 6 0 (2 ^ l.length - 1) ↔ ∃ m, inB b m ∧ F (sOf l m) = true := by
  constructor
  · rintro ⟨x0, a0, b0, x1, a1, b1, x2, a2, b2, x3, a3, b3, x4, a4, b4, x5, a5, b5, h⟩
    refine ⟨⟨x0, x1, x2, x3, x4, x5⟩, fun q hq => ?_, by rw [← set_all]; exact h⟩
    rcases lt6 hq with rfl | rfl | rfl | rfl | rfl | rfl
    · exact ⟨a0, b0⟩
    · exact ⟨a1, b1⟩
    · exact ⟨a2, b2⟩
    · exact ⟨a3, b3⟩
    · exact ⟨a4, b4⟩
    · exact ⟨a5, b5⟩
  · rintro ⟨m, hm, h⟩
    rw [← set_all] at h
    exact ⟨m.x0, (hm 0 (by decide)).1, (hm 0 (by decide)).2, m.x1, (hm 1 (by decide)).1, (hm 1 (by decide)).2, m.x2, (hm 2 (by decide)).1, (hm 2 (by decide)).2, m.x3, (hm 3 (by decide)).1, (hm 3 (by decide)).2, m.x4, (hm 4 (by decide)).1, (hm 4 (by decide)).2, m.x5, (hm 5 (by decide)).1, (hm 5 (by decide)).2, h⟩
theorem fnd_law {F : Nat → Bool} {l : List Rw} (hok : RwsOk l) {b : Bx} : (fndR F l b).isSome = true ↔ ∃ m, inB b m ∧ F (sOf l m) = true := by
  have h := (lsM_law (F := F) hok (b := b) 6 0 (2 ^ l.length - 1) [] rfl (fun c one r h => by cases h)).1
  exact h.trans exp_all
def Str (lx lc : List Rw) : Prop := ∀ m, accM lx m = true → accM lc m = true
theorem ans_law {cx c : Cd} (hx : RwsOk cx.all) (hc : RwsOk c.all) (nx : cx.all.length ≤ 60) (nc : c.all.length ≤ 60) (h : Str cx.all c.all) {b : Bx} (hb : ∃ m, inB b m) : (ansR cx b = 2 → ansR c b = 2) ∧ (ansR c b = 0 → ansR cx b = 0) := by
  have s1 : (fndR (accB cx.all) cx.all b).isSome = true → (fndR (accB c.all) c.all b).isSome = true := fun q => by
    obtain ⟨m, h1, h2⟩ := (fnd_law hx).1 q
    rw [acc_law m nx] at h2
    exact (fnd_law hc).2 ⟨m, h1, by rw [acc_law m nc]; exact h m h2⟩
  have s2 : (fndR (fun s => !accB c.all s) c.all b).isSome = true → (fndR (fun s => !accB cx.all s) cx.all b).isSome = true := fun q => by
    obtain ⟨m, h1, h2⟩ := (fnd_law hc).1 q
    rw [acc_law m nc] at h2
    refine (fnd_law hx).2 ⟨m, h1, ?_⟩
    rw [acc_law m nx]
    cases e : accM cx.all m with
    | false => rfl
    | true => rw [h m e] at h2; cases h2
  have s3 : (fndR (fun s => !accB cx.all s) cx.all b).isSome = false → (fndR (accB cx.all) cx.all b).isSome = true := fun q => by
    obtain ⟨m, hm⟩ := hb
    apply (fnd_law hx).2
    refine ⟨m, hm, ?_⟩
    cases e : accB cx.all (sOf cx.all m) with
    | true => rfl
    | false =>
      have := (fnd_law (F := fun s => !accB cx.all s) hx).2 ⟨m, hm, by rw [e]; rfl⟩
      rw [q] at this; cases this
  unfold ansR ansS
  generalize (fndR (accB cx.all) cx.all b).isSome = a1 at *
  generalize (fndR (fun s => !accB cx.all s) cx.all b).isSome = a2 at *
  generalize (fndR (accB c.all) c.all b).isSome = b1 at *
  generalize (fndR (fun s => !accB c.all s) c.all b).isSome = b2 at *
  cases a1 <;> cases a2 <;> cases b1 <;> cases b2 <;> simp_all
/- changes -/
def Lf (l : List Rw) (w : Wi) : Nat → Nat → Nat → Int → Prop
  | 0, _, s, v => accB l s = true ∧ v = 0
  | n + 1, i, s, v => ∃ x u, 0 ≤ x ∧ x ≤ w.m.at (3 + i) ∧ Lf l w n (i + 1) (s &&& qS l (3 + i) x) u ∧ v = (w.m.at (3 + i) - x) * w.at i + u
structure Best (c : Ch) (S : Int → Prop) : Prop where
  at_ : c.fnd = true → S c.cost
  le : ∀ v, S v → c.fnd = true ∧ c.cost ≤ v
theorem Best.to {c : Ch} {S S' : Int → Prop} (h : Best c S) (h1 : ∀ v, S v → S' v) (h2 : ∀ v, S' v → ∃ v', S v' ∧ v' ≤ v) : Best c S' :=
  ⟨fun q => h1 _ (h.at_ q), fun v hv => by
    obtain ⟨v', q1, q2⟩ := h2 v hv
    obtain ⟨q3, q4⟩ := h.le v' q1
    exact ⟨q3, by omega⟩⟩
theorem be_law {c : Ch} {m : Mk} {cost : Int} {S : Int → Prop} (h : Best c S) : Best (if beB c m cost = true then ⟨m, cost, true⟩ else c) fun v => S v ∨ v = cost := by
  unfold beB
  by_cases h1 : (!c.fnd || decide (cost < c.cost)) = true
  · rw [if_pos h1, if_pos rfl]
    refine ⟨fun _ => .inr rfl, fun v hv => ⟨rfl, ?_⟩⟩
    show cost ≤ v
    rcases hv with hv | rfl
    · obtain ⟨q1, q2⟩ := h.le v hv
      rw [q1] at h1
      simp at h1
      omega
    · exact Int.le_refl _
  · rw [if_neg h1]
    simp only [Bool.or_eq_true, Bool.not_eq_true', decide_eq_true_eq, not_or, Bool.not_eq_false] at h1
    obtain ⟨f1, f2⟩ := h1
    by_cases h2 : cost > c.cost
    · rw [if_pos h2, if_neg (by decide)]
      exact ⟨fun q => .inl (h.at_ q), fun v hv => hv.elim (h.le v) fun e => ⟨f1, by omega⟩⟩
    · rw [if_neg h2]
      have e : cost = c.cost := by omega
      split
      · exact ⟨fun _ => .inr rfl, fun v hv => ⟨rfl, hv.elim (fun q => by have := (h.le v q).2; show cost ≤ v; omega) fun e => by show cost ≤ v; omega⟩⟩
      · exact ⟨fun q => .inl (h.at_ q), fun v hv => hv.elim (h.le v) fun e2 => ⟨f1, by omega⟩⟩
theorem fold_law {l : List Rw} {w : Wi} {n i : Nat} {m : Mk} {cost : Int} {s : Nat} (ih : ∀ (m : Mk) (cost : Int) (s : Nat) (c : Ch) (S : Int → Prop), Best c S → Best (tryF l w n (i + 1) m cost s c) fun v => S v ∨ ∃ u, Lf l w n (i + 1) s u ∧ v = cost + u) :
    ∀ (xs : List Cl) (c : Ch) (S : Int → Prop), Best c S → Best (xs.foldl (tryG l w n i m cost s) c) fun v => S v ∨ ∃ y ∈ xs, ∃ u, Lf l w n (i + 1) (s &&& y.inn) u ∧ v = (cost + (w.m.at (3 + i) - wtH w i y) * w.at i) + u
  | [], c, S, h => h.to (fun v q => .inl q) fun v q => ⟨v, q.elim id fun ⟨y, hy, _⟩ => (by cases hy), Int.le_refl _⟩
  | y :: xs, c, S, h => by
    rw [List.foldl_cons]
    refine (fold_law ih xs _ _ (ih (m.set (3 + i) (wtH w i y)) (cost + (w.m.at (3 + i) - wtH w i y) * w.at i) (s &&& y.inn) c S h)).to (fun v q => ?_) fun v q => ⟨v, ?_, Int.le_refl _⟩
    · rcases q with (q | ⟨u, q1, q2⟩) | ⟨z, hz, u, q1, q2⟩
      · exact .inl q
      · exact .inr ⟨y, List.mem_cons_self, u, q1, q2⟩
      · exact .inr ⟨z, List.mem_cons_of_mem _ hz, u, q1, q2⟩
    · rcases q with q | ⟨z, hz, u, q1, q2⟩
      · exact .inl (.inl q)
      · rcases List.mem_cons.1 hz with rfl | hz
        · exact .inl (.inr ⟨u, q1, q2⟩)
        · exact .inr ⟨z, hz, u, q1, q2⟩
theorem tryF_law {l : List Rw} (hok : RwsOk l) {w : Wi} (hw : WiOk w) : ∀ (n i : Nat) (m : Mk) (cost : Int) (s : Nat) (c : Ch) (S : Int → Prop), i + n = 3 → Best c S → Best (tryF l w n i m cost s c) fun v => S v ∨ ∃ u, Lf l w n i s u ∧ v = cost + u
  | 0, i, m, cost, s, c, S, _, h => by
    rw [tryF]
    cases ha : accB l s with
    | false =>
      rw [Bool.false_and, if_neg (by decide)]
      exact h.to (fun v q => .inl q) fun v q => ⟨v, q.elim id fun ⟨u, q1, _⟩ => (by have := q1.1; rw [ha] at this; cases this), Int.le_refl _⟩
    | true =>
      rw [Bool.true_and]
      exact (be_law h).to (fun v q => q.imp id fun e => ⟨0, ⟨ha, rfl⟩, by omega⟩) fun v q => ⟨v, q.imp id fun ⟨u, q1, q2⟩ => (by have := q1.2; omega), Int.le_refl _⟩
  | n + 1, i, m, cost, s, c, S, hi, h => by
    rw [tryF_succ]
    have hi3 : i < 3 := by omega
    have hq6 : 3 + i < 6 := by omega
    obtain ⟨w1, w2⟩ := hw.w i hi3
    refine (fold_law (fun m cost s c S h => tryF_law hok hw n (i + 1) m cost s c S (by omega) h) _ c S h).to (fun v q => ?_) fun v q => ?_
    · rcases q with q | ⟨y, hy, u, q1, q2⟩
      · exact .inl q
      · obtain ⟨y1, y2, y3, _⟩ := cells_in hok hq6 hy
        have hr : y.lo ≤ wtH w i y ∧ wtH w i y ≤ y.hi := by unfold wtH; split <;> omega
        exact .inr ⟨(w.m.at (3 + i) - wtH w i y) * w.at i + u, ⟨wtH w i y, u, by have : (0 : Int) ≤ y.lo := y1; omega, by have : y.hi ≤ w.m.at (3 + i) := y3; omega, by rw [← cells_set hy hr.1 hr.2]; exact q1, rfl⟩, by omega⟩
    · rcases q with q | ⟨v1, ⟨x, u, x1, x2, q1, rfl⟩, q2⟩
      · exact ⟨v, .inl q, Int.le_refl _⟩
      · obtain ⟨y, hy, y4, y5⟩ := cells_cover hok hq6 (w := (0, w.m.at (3 + i))) (s := s) x1 x2
        refine ⟨(cost + (w.m.at (3 + i) - wtH w i y) * w.at i) + u, .inr ⟨y, hy, u, by rw [cells_set hy y4 y5]; exact q1, rfl⟩, ?_⟩
        have : (w.m.at (3 + i) - wtH w i y) * w.at i ≤ (w.m.at (3 + i) - x) * w.at i := by
          unfold wtH
          split
          · rename_i h0; rw [h0, Int.mul_zero, Int.mul_zero]; exact Int.le_refl _
          · exact Int.mul_le_mul_of_nonneg_right (by omega) w1
        omega
theorem lf_mono {lx lc : List Rw} {w : Wi} (nx : lx.length ≤ 60) (nc : lc.length ≤ 60) (h : Str lx lc) {v : Int} (hv : Lf lx w 3 0 (s3K lx w.m lx.length) v) : Lf lc w 3 0 (s3K lc w.m lc.length) v := by
  obtain ⟨x3, u3, a3, b3, ⟨x4, u4, a4, b4, ⟨x5, u5, a5, b5, ⟨hacc, e5⟩, e4⟩, e3⟩, e2⟩ := hv
  rw [set_3, acc_law _ nx] at hacc
  refine ⟨x3, u3, a3, b3, ⟨x4, u4, a4, b4, ⟨x5, u5, a5, b5, ⟨?_, e5⟩, e4⟩, e3⟩, e2⟩
  rw [set_3, acc_law _ nc]
  exact h _ hacc
theorem lc_best {c : Cd} (hok : RwsOk c.all) {w : Wi} (hw : WiOk w) : Best (lcX c w) fun v => Lf c.all w 3 0 (s3K c.all w.m c.all.length) v := by
  have h0 : Best (⟨zMk, 0, false⟩ : Ch) (fun _ : Int => False) := ⟨fun q => (by cases q), fun v q => False.elim q⟩
  have h := tryF_law hok hw 3 0 w.m 0 (s3K c.all w.m c.all.length) _ _ rfl h0
  refine h.to (fun v q => ?_) fun v q => ⟨v, .inr ⟨v, q, by omega⟩, Int.le_refl _⟩
  rcases q with q | ⟨u, q1, q2⟩
  · exact False.elim q
  · have e : v = u := by omega
    rw [e]; exact q1
theorem lc_law {cx c : Cd} (hx : RwsOk cx.all) (hc : RwsOk c.all) (nx : cx.all.length ≤ 60) (nc : c.all.length ≤ 60) (h : Str cx.all c.all) {w : Wi} (hw : WiOk w) (hf : (lc cx w).2.2 = 0) : (lc c w).2.2 = 0 ∧ (lc c w).2.1 ≤ (lc cx w).2.1 := by
  have f1 : (lcX cx w).fnd = true := by
    unfold lc at hf
    split at hf
    · assumption
    · cases hf
  obtain ⟨q1, q2⟩ := (lc_best hc hw).le _ (lf_mono nx nc h ((lc_best hx hw).at_ f1))
  unfold lc
  rw [if_pos f1, if_pos q1]
  exact ⟨rfl, q2⟩
theorem lc_err (c : Cd) (w : Wi) : (lc c w).2.2 = 0 ∨ (lc c w).2.2 = 12 := by
  unfold lc
  split
  · exact .inl rfl
  · exact .inr rfl
theorem dcd_acc {c : Cd} {m : Mk} (hn : c.all.length ≤ 60) : ((dcd c m).2.2 = 0 ∧ (dcd c m).2.1 = 0) ↔ accM c.all m = true := by
  rw [← acc_law m hn]
  unfold dcd accB
  split
  · rename_i h; rw [h]; simp
  · rename_i h
    simp only [Bool.not_eq_true] at h
    rw [h]; simp
end Go.Proofs.YthpggoophcdgnaaDoor.Am.M
