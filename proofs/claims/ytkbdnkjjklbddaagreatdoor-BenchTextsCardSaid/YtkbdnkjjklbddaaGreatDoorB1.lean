/- Contracts over the abstract machine: numbers and texts of the library; plain laws of decimal texts and cuts. Conditions: none. -/
import Derived.Test.YtkbdnkjjklbddaaGreatDoorJ3
import Derived.Test.YtkbdnkjjklbddaaGreatDoorAmF
import Derived.Test.YtkbdnkjjklbddaaGreatDoorShelf
import Derived.Test.YtkbdnkjjklbddaaGreatDoorAm62
import Derived.WalkKit
import Derived.BigCall
import Derived.Lib.AtoiErrMem
import Derived.Lib.ItoaMem
import Derived.Lib.AtoiTie
import Derived.Lib.ItoaLen
import Derived.Lib.Join
set_option linter.unusedVariables false
set_option linter.unusedSimpArgs false
-- mini
set_option maxRecDepth 100000
namespace Go.Proofs.YtkbdnkjjklbddaaGreatDoor.Am.M
open Go
def GW (w : World) : Prop := (∃ m, w.cell? ⟨3, 0, none⟩ = some (.int .i64 m)) ∧ Lib.TabIs Tryz.prog w "internal/strconv.uint64pow10" .u64 Lib.pow10Tab ∧ (∃ tp p, w.var? Tryz.prog "strconv.ErrSyntax" = some #[.iface tp p]) ∧ ∃ tp p, w.var? Tryz.prog "strconv.ErrRange" = some #[.iface tp p]
theorem var_keep {P : Program} {w w' : World} {name : String} {cs : Array Value} (hE : Ext w w') (h : w.var? P name = some cs) : w'.var? P name = some cs := by
  unfold World.var? at *
  cases hg : P.globalNamed name with
  | none => simp [hg] at h
  | some g =>
    simp only [hg, Option.bind_some] at h ⊢
    have hlt : g < w.heap.size := by
      rcases Nat.lt_or_ge g w.heap.size with h' | h'
      · exact h'
      · rw [Array.getElem?_eq_none h'] at h; simp at h
    rw [hE.block g hlt]
    exact h
theorem gw_keep : GKeep GW := fun w w' ⟨⟨m, h1⟩, h2, ⟨t1, p1, h3⟩, t2, p2, h4⟩ hE => ⟨⟨m, hE.cell h1⟩, var_keep hE h2, ⟨t1, p1, var_keep hE h3⟩, t2, p2, var_keep hE h4⟩
theorem below_grow (w : World) (k : Nat) (os : Array Obj) : Ext w (Sort.grow (w.drewN k) os) :=
  ⟨rfl, rfl, rfl, by show _ ≤ (w.heap ++ os).size; rw [Array.size_append]; omega, fun i hi => by show (w.heap ++ os)[i]? = _; rw [Array.getElem?_append_left hi]⟩
def numI (s : ByteArray) : Int × Bool :=
  match Lib.atoiAll s.data.toList with
  | .ok v => (v, decide (Lib.itoa v = s.toList) && decide (((Lib.trimPrefix s.data.toList [45]).length : Int) ≤ 13))
  | .range => (Lib.atoiSat s.data.toList, false)
  | _ => (0, false)
def strC (s : ByteArray) : List D := [.v (.string s)]
def spc : ByteArray := ⟨#[32]⟩
def pcs (s : ByteArray) : List ByteArray := Lib.splitB spc 0 (Lib.countB s spc) s
theorem split_p (s : ByteArray) (hs : s.size ≤ 1000000) : PCG Tryz.prog GW 105 [.v (.string s), .v (.string spc)] (.sl 1 ((pcs s).map strC)) := by
  intro w ok vs hG hL
  match vs, hL with
  | [v, v2], ⟨h, h2, _⟩ =>
    obtain rfl := Rep.v_eq h
    obtain rfl := Rep.v_eq h2
    obtain ⟨⟨m, hm⟩, -⟩ := hG
    refine (Tryz.strings_Split s spc m w (by omega) hm (by decide)).mono ?_
    rintro e w' ⟨rfl, rfl⟩
    have hlen : ((pcs s).map strC).length = Lib.countB s spc + 1 := by rw [List.length_map]; exact Lib.splitB_all spc (by decide) 0 _ s rfl
    have hle := Lib.countB_le spc (by decide) s.size s (Nat.le_refl _)
    refine ⟨_, rfl, (Ext.refl w).alloc _, ?_⟩
    rw [← hlen]
    have at_ : ∀ (i : Nat) (e : List D) (j : Nat) (d : D), ((pcs s).map strC)[i]? = some e → e[j]? = some d → ∃ p, (pcs s)[i]? = some p ∧ j = 0 ∧ d = .v (.string p) := by
      intro i e j d h1 h2
      rw [List.getElem?_map, Option.map_eq_some_iff] at h1
      obtain ⟨p, hp, rfl⟩ := h1
      match j, h2 with
      | 0, h2 => cases h2; exact ⟨p, hp, rfl, rfl⟩
    refine .sl 1 _ w.heap.size 0 _ (fun i _ => .string ((pcs s).getD i ⟨#[]⟩)) (by show _ < (w.heap.push _).size; rw [Array.size_push]; omega) (.inr (Nat.le_refl _)) (Nat.le_refl _) (by rw [hlen]; unfold maxLen; omega) ?_ ?_ ?_ ?_
    · intro i e h1
      rw [List.getElem?_map, Option.map_eq_some_iff] at h1
      obtain ⟨p, hp, rfl⟩ := h1
      rfl
    · intro i e j d h1 h2
      obtain ⟨p, hp, rfl, rfl⟩ := at_ i e j d h1 h2
      rfl
    · intro i e j d h1 h2
      obtain ⟨p, hp, rfl, rfl⟩ := at_ i e j d h1 h2
      unfold World.cell?
      show (match (w.heap.push _)[w.heap.size]? with | some (.cells vals _ _) => _ | _ => _) = _
      rw [Array.getElem?_push_size]
      simp only [Nat.zero_add, Nat.mul_one, Nat.add_zero]
      show ((((pcs s).map Value.string).toArray)[i]?) = _
      rw [List.getElem?_toArray, List.getElem?_map, hp, List.getD_eq_getElem?_getD, hp]; rfl
    · intro i e j d h1 h2
      obtain ⟨p, hp, rfl, rfl⟩ := at_ i e j d h1 h2
      show Rep _ _ _ (Value.string ((pcs s).getD i ⟨#[]⟩))
      rw [List.getD_eq_getElem?_getD, hp]
      exact .v _ rfl
theorem pcs_len (s : ByteArray) : 1 ≤ (pcs s).length ∧ (pcs s).length ≤ s.size + 1 := by
  have h : (pcs s).length = Lib.countB s spc + 1 := Lib.splitB_all spc (by decide) 0 _ s rfl
  have hle := Lib.countB_le spc (by decide) s.size s (Nat.le_refl _)
  omega
theorem piece_le (sep : ByteArray) : ∀ (k : Nat) (s p : ByteArray), p ∈ Lib.splitB sep 0 k s → p.size ≤ s.size
  | 0, s, p, h => by rw [List.mem_singleton.1 h]; exact Nat.le_refl _
  | k + 1, s, p, h => by
    unfold Lib.splitB at h
    split at h
    · rw [List.mem_singleton.1 h]; exact Nat.le_refl _
    · rcases List.mem_cons.1 h with rfl | h
      · rw [ByteArray.size_extract]; omega
      · have := piece_le sep k _ p h
        rw [ByteArray.size_extract] at this
        omega
theorem pcs_le {s p : ByteArray} (h : p ∈ pcs s) : p.size ≤ s.size := piece_le spc _ s p h
theorem ba_toList (s : ByteArray) : s.toList = s.data.toList := by
  have h := Lib.toList_data s
  exact h
theorem num_ok {s : ByteArray} {v : Int} {d : List UInt8} (h1 : Lib.atoiAll s.data.toList = .ok v) (h2 : s.data.toList = d) (h3 : Lib.itoa v = d) (h4 : ((Lib.trimPrefix d [45]).length : Int) ≤ 13) : numI s = (v, true) := by
  unfold numI
  rw [h1]
  show (v, _) = _
  rw [ba_toList, h2, h3, decide_eq_true rfl, decide_eq_true h4]; rfl
def mkB (l : List UInt8) : ByteArray := ⟨l.toArray⟩
theorem mkB_data (s : ByteArray) : mkB s.data.toList = s := by unfold mkB; rw [Array.toArray_toList]
theorem data_mkB (l : List UInt8) : (mkB l).data.toList = l := by unfold mkB; simp
theorem mkB_inj {a b : List UInt8} (h : mkB a = mkB b) : a = b := by rw [← data_mkB a, ← data_mkB b, h]
theorem mkB_size (l : List UInt8) : (mkB l).size = l.length := by unfold mkB; simp [ByteArray.size]
theorem mkB_app (a b : List UInt8) : mkB a ++ mkB b = mkB (a ++ b) := by
  apply ByteArray.ext
  simp [mkB, ByteArray.data_append]
-- digits
theorem dec_snoc : ∀ (l : List UInt8) (acc : Nat) (b : UInt8), Lib.decFrom acc (l ++ [b]) = (Lib.decFrom acc l).bind fun m => (Lib.digitVal b).map fun d => m * 10 + d
  | [], acc, b => by
    show (match Lib.digitVal b with | some d => Lib.decFrom (acc * 10 + d) [] | none => none) = _
    cases Lib.digitVal b <;> rfl
  | a :: l, acc, b => by
    show (match Lib.digitVal a with | some d => Lib.decFrom (acc * 10 + d) (l ++ [b]) | none => none) = (match Lib.digitVal a with | some d => Lib.decFrom (acc * 10 + d) l | none => none).bind _
    cases Lib.digitVal a with
    | none => rfl
    | some d => exact dec_snoc l _ b
theorem dig_of {d : Nat} (h : d < 10) : Lib.digitVal (UInt8.ofNat (48 + d)) = some d := by
  have e : (UInt8.ofNat (48 + d)).toNat = 48 + d := by rw [UInt8.toNat_ofNat']; omega
  unfold Lib.digitVal
  rw [e, if_pos (by omega)]
  congr 1; omega
theorem dig_back {b : UInt8} {d : Nat} (h : Lib.digitVal b = some d) : d < 10 ∧ b = UInt8.ofNat (48 + d) := by
  obtain ⟨h1, h2, h3⟩ := Lib.digitVal_eq h
  refine ⟨by omega, ?_⟩
  apply UInt8.toNat_inj.1
  rw [UInt8.toNat_ofNat']; omega
theorem dd_big {u : Nat} (h : ¬ u < 10) : Lib.decDigits u = Lib.decDigits (u / 10) ++ [UInt8.ofNat (48 + u % 10)] := by rw [Lib.decDigits, dif_neg h]
theorem dec_digits (u : Nat) : Lib.decFrom 0 (Lib.decDigits u) = some u := by
  induction u using Nat.strongRecOn with
  | _ u ih =>
    by_cases h : u < 10
    · rw [Lib.decDigits_one h]
      show (match Lib.digitVal (UInt8.ofNat (48 + u)) with | some d => Lib.decFrom (0 * 10 + d) [] | none => none) = _
      rw [dig_of h]; show some (0 * 10 + u) = some u; congr 1; omega
    · rw [dd_big h, dec_snoc, ih (u / 10) (by omega), dig_of (by omega)]
      show some (u / 10 * 10 + u % 10) = some u
      congr 1; omega
theorem digits_of (n : Nat) : ∀ (r : List UInt8) (m : Nat), r.length = n → r ≠ [] → Lib.decFrom 0 r = some m → (r.head? ≠ some 48 ∨ r.length = 1) → Lib.decDigits m = r ∧ (r.head? ≠ some 48 → 1 ≤ m) := by
  induction n with
  | zero => intro r m hl hn; exact absurd (List.length_eq_zero_iff.1 hl) hn
  | succ n ih =>
    intro r m hl hn hm hz
    obtain ⟨q, b, rfl⟩ : ∃ q b, r = q ++ [b] := ⟨r.dropLast, r.getLast hn, (List.dropLast_concat_getLast hn).symm⟩
    rw [dec_snoc] at hm
    by_cases hq : q = []
    · subst hq
      cases hd : Lib.digitVal b with
      | none => rw [hd] at hm; cases hm
      | some d =>
        rw [hd] at hm
        have e : m = d := by have h : 0 * 10 + d = m := Option.some.inj hm; omega
        obtain ⟨h1, h2⟩ := dig_back hd
        subst e
        refine ⟨by rw [Lib.decDigits_one h1, h2]; rfl, fun h => ?_⟩
        rcases Nat.eq_zero_or_pos m with e | e
        · subst e; exact absurd (by rw [h2]; rfl) h
        · exact e
    · cases hc : Lib.decFrom 0 q with
      | none => rw [hc] at hm; cases hm
      | some k =>
        rw [hc] at hm
        cases hd : Lib.digitVal b with
        | none => rw [hd] at hm; cases hm
        | some d =>
          rw [hd] at hm
          have e : m = k * 10 + d := (Option.some.inj hm).symm
          obtain ⟨h1, h2⟩ := dig_back hd
          have hq1 : 1 ≤ q.length := by cases q with | nil => exact absurd rfl hq | cons _ _ => simp
          have hh : (q ++ [b]).head? = q.head? := by cases q with | nil => exact absurd rfl hq | cons _ _ => rfl
          have hz2 : q.head? ≠ some 48 := by
            rcases hz with hz | hz
            · rw [hh] at hz; exact hz
            · rw [List.length_append] at hz; simp at hz; exact absurd hz (by simpa using hq)
          obtain ⟨i1, i2⟩ := ih q k (by rw [List.length_append] at hl; simpa using hl) hq hc (.inl hz2)
          have hk := i2 hz2
          refine ⟨?_, fun _ => by omega⟩
          rw [dd_big (by omega), show m / 10 = k by omega, i1, show m % 10 = d by omega, h2]
theorem dd_head (u : Nat) : ∃ b r, Lib.decDigits u = b :: r ∧ 48 ≤ b.toNat ∧ b.toNat ≤ 57 ∧ (b = 48 → u = 0 ∧ r = []) := by
  induction u using Nat.strongRecOn with
  | _ u ih =>
    by_cases h : u < 10
    · refine ⟨_, [], Lib.decDigits_one h, ?_⟩
      have e : (UInt8.ofNat (48 + u)).toNat = 48 + u := by rw [UInt8.toNat_ofNat']; omega
      refine ⟨by omega, by omega, fun q => ⟨?_, rfl⟩⟩
      rw [q] at e
      have : (48 : UInt8).toNat = 48 := rfl
      omega
    · obtain ⟨b, r, h1, h2, h3, h4⟩ := ih (u / 10) (by omega)
      refine ⟨b, r ++ [UInt8.ofNat (48 + u % 10)], by rw [dd_big h, h1]; rfl, h2, h3, fun q => ?_⟩
      have := (h4 q).1; omega
-- a number of at most nine digits
def negL (l : List UInt8) : Bool := decide (l.head? = some 45)
def digL (l : List UInt8) : List UInt8 := if negL l = true then l.tail else l
def badL (l : List UInt8) : Prop := digL l = [] ∨ 13 < (digL l).length ∨ ((digL l).head? = some 48 ∧ 1 < l.length)
instance (l : List UInt8) : Decidable (badL l) := by unfold badL; infer_instance
def nmL (l : List UInt8) : Int × Bool := if badL l then (0, false) else match Lib.decFrom 0 (digL l) with
  | none => (0, false)
  | some m => (if negL l = true then -(m : Int) else m, true)
theorem nmL_true {l : List UInt8} (h : (nmL l).2 = true) : ∃ m : Nat, ¬ badL l ∧ Lib.decFrom 0 (digL l) = some m ∧ nmL l = (if negL l = true then -(m : Int) else m, true) := by
  unfold nmL at h ⊢
  by_cases hb : badL l
  · rw [if_pos hb] at h; cases h
  · rw [if_neg hb] at h ⊢
    cases hd : Lib.decFrom 0 (digL l) with
    | none => rw [hd] at h; cases h
    | some m => exact ⟨m, hb, rfl, rfl⟩
theorem numI_true {s : ByteArray} (h : (numI s).2 = true) : Lib.atoiAll s.data.toList = .ok (numI s).1 ∧ Lib.itoa (numI s).1 = s.data.toList ∧ (Lib.trimPrefix s.data.toList [45]).length ≤ 13 := by
  unfold numI at h ⊢
  cases ha : Lib.atoiAll s.data.toList with
  | ok v =>
    rw [ha] at h
    have h : (decide (Lib.itoa v = s.toList) && decide (((Lib.trimPrefix s.data.toList [45]).length : Int) ≤ 13)) = true := h
    rw [Bool.and_eq_true, decide_eq_true_eq, decide_eq_true_eq, ba_toList] at h
    exact ⟨rfl, h.1, by omega⟩
  | range => rw [ha] at h; cases h
  | _ => rw [ha] at h; cases h
theorem trim_neg (r : List UInt8) : Lib.trimPrefix (45 :: r) [45] = r := rfl
theorem trim_pos {b : UInt8} {r : List UInt8} (h : b ≠ 45) : Lib.trimPrefix (b :: r) [45] = b :: r := by
  unfold Lib.trimPrefix
  rw [if_neg]
  unfold Lib.hasPrefix
  simp [List.isPrefixOf]
  exact fun e => h e.symm
theorem num_up {s : ByteArray} (h : (nmL s.data.toList).2 = true) : numI s = nmL s.data.toList := by
  obtain ⟨m, hb, hd, he⟩ := nmL_true h
  generalize hl : s.data.toList = l at *
  have hb1 : digL l ≠ [] := fun e => hb (.inl e)
  have hb2 : (digL l).length ≤ 13 := by
    rcases Nat.lt_or_ge 13 (digL l).length with q | q
    · exact absurd (.inr (.inl q)) hb
    · exact q
  have hb3 : ¬ ((digL l).head? = some 48 ∧ 1 < l.length) := fun e => hb (.inr (.inr e))
  by_cases hn : negL l = true
  · have hh : l.head? = some 45 := of_decide_eq_true hn
    obtain ⟨r, rfl⟩ : ∃ r, l = 45 :: r := by cases l with
      | nil => cases hh
      | cons b r => exact ⟨r, by simp at hh; rw [hh]⟩
    have hr : digL (45 :: r) = r := by unfold digL; rw [if_pos hn]; rfl
    rw [hr] at hb1 hb2 hb3 hd
    have hl1 : 1 < (45 :: r).length := by cases r with | nil => exact absurd rfl hb1 | cons _ _ => simp
    have hz : r.head? ≠ some 48 := fun e => hb3 ⟨e, hl1⟩
    obtain ⟨d1, d2⟩ := digits_of r.length r m rfl hb1 hd (.inl hz)
    have hm := d2 hz
    have ha : Lib.atoiAll (45 :: r) = .ok (-(m : Int)) := by
      rw [show Lib.atoiAll (45 :: r) = Lib.NumEnd.ofOption (Lib.atoi (45 :: r)) from by rw [Lib.atoiAll_minus, Lib.signed_short (show r.length ≤ 18 by omega)]; rfl]
      have : Lib.atoi (45 :: r) = some (-(m : Int)) := by
        show (Lib.decNat r).map _ = _
        unfold Lib.decNat
        rw [if_neg (by simpa using hb1), hd]; rfl
      rw [this]; rfl
    rw [he, if_pos hn]
    refine num_ok (d := 45 :: r) (by rw [hl]; exact ha) hl (by rw [Lib.itoa_neg m hm, d1]) (by rw [trim_neg]; omega)
  · have hr : digL l = l := by unfold digL; rw [if_neg hn]
    rw [hr] at hb1 hb2 hb3 hd
    obtain ⟨b, r, rfl⟩ : ∃ b r, l = b :: r := by cases l with
      | nil => exact absurd rfl hb1
      | cons b r => exact ⟨b, r, rfl⟩
    have hb45 : b ≠ 45 := fun e => hn (by unfold negL; rw [e]; rfl)
    have hz : (b :: r).head? ≠ some 48 ∨ (b :: r).length = 1 := by
      by_cases q : (b :: r).head? = some 48
      · right
        rcases Nat.lt_or_ge 1 (b :: r).length with k | k
        · exact absurd ⟨q, k⟩ hb3
        · simp only [List.length_cons] at k ⊢; omega
      · exact .inl q
    obtain ⟨d1, _⟩ := digits_of (b :: r).length (b :: r) m rfl hb1 hd hz
    obtain ⟨dv, hdv⟩ : ∃ d, Lib.digitVal b = some d := Lib.digit_of_decFrom (b :: r) 0 m hd 0 b rfl
    obtain ⟨v1, v2, _⟩ := Lib.digitVal_eq hdv
    have hb43 : b ≠ 43 := fun e => by rw [e] at v1; exact absurd v1 (by decide)
    have ha : Lib.atoiAll (b :: r) = .ok (m : Int) := by
      rw [Lib.atoiAll_short _ (by omega)]
      have : Lib.atoi (b :: r) = some (m : Int) := by
        show (if (b == 45) = true then _ else if (b == 43) = true then _ else _) = _
        rw [if_neg (by simpa using hb45), if_neg (by simpa using hb43)]
        unfold Lib.decNat
        rw [if_neg (by simp), hd]; rfl
      rw [this]; rfl
    rw [he, if_neg hn]
    refine num_ok (d := b :: r) (by rw [hl]; exact ha) hl (by rw [Lib.itoa_nonneg m, d1]) (by rw [trim_pos hb45]; omega)
theorem num_down {s : ByteArray} (h : (numI s).2 = true) : (nmL s.data.toList).2 = true := by
  obtain ⟨h1, h2, h3⟩ := numI_true h
  generalize (numI s).1 = v at *
  generalize hl : s.data.toList = l at *
  by_cases hv : v < 0
  · obtain ⟨u, rfl, hu⟩ : ∃ u : Nat, v = -(u : Int) ∧ 1 ≤ u := ⟨v.natAbs, by omega, by omega⟩
    rw [Lib.itoa_neg u hu] at h2
    subst h2
    obtain ⟨b, r, e1, e2, e3, e4⟩ := dd_head u
    have hn : negL (45 :: Lib.decDigits u) = true := rfl
    have hd : digL (45 :: Lib.decDigits u) = Lib.decDigits u := rfl
    rw [trim_neg] at h3
    have hb : ¬ badL (45 :: Lib.decDigits u) := by
      unfold badL
      rw [hd]
      rintro (q | q | ⟨q, _⟩)
      · rw [e1] at q; cases q
      · omega
      · rw [e1] at q
        have := (e4 (by simpa using q)).1
        omega
    unfold nmL
    rw [if_neg hb, hd, dec_digits]
  · obtain ⟨u, rfl⟩ : ∃ u : Nat, v = (u : Int) := ⟨v.toNat, by omega⟩
    rw [Lib.itoa_nonneg u] at h2
    subst h2
    obtain ⟨b, r, e1, e2, e3, e4⟩ := dd_head u
    have hb45 : b ≠ 45 := fun e => by rw [e] at e2; exact absurd e2 (by decide)
    have hn : negL (Lib.decDigits u) = false := by unfold negL; rw [e1]; simpa using hb45
    have hd : digL (Lib.decDigits u) = Lib.decDigits u := by unfold digL; rw [hn]; rfl
    have hb : ¬ badL (Lib.decDigits u) := by
      unfold badL
      rw [hd]
      rintro (q | q | ⟨q, k⟩)
      · rw [e1] at q; cases q
      · rw [e1, trim_pos hb45, ← e1] at h3; omega
      · rw [e1] at q k
        have := (e4 (by simpa using q)).2
        rw [this] at k; simp at k
    unfold nmL
    rw [if_neg hb, hd, dec_digits]
theorem num_tie (s : ByteArray) : (numI s).2 = (nmL s.data.toList).2 ∧ ((nmL s.data.toList).2 = true → (numI s).1 = (nmL s.data.toList).1) := by
  refine ⟨?_, fun h => by rw [num_up h]⟩
  cases h : (nmL s.data.toList).2 with
  | true => rw [num_up h, h]
  | false =>
    cases q : (numI s).2 with
    | false => rfl
    | true => rw [num_down q] at h; cases h
-- cutting at blanks
def hdL (p : List UInt8) : List (List UInt8) → List (List UInt8)
  | [] => [p]
  | x :: xs => (p ++ x) :: xs
def cutL : List UInt8 → List (List UInt8)
  | [] => [[]]
  | b :: l => if b = 32 then [] :: cutL l else hdL [b] (cutL l)
theorem cutL_ne : ∀ l : List UInt8, cutL l ≠ []
  | [] => by simp [cutL]
  | b :: l => by
    unfold cutL
    split
    · simp
    · cases cutL l <;> simp [hdL]
theorem hdL_hdL (p q : List UInt8) : ∀ z : List (List UInt8), hdL p (hdL q z) = hdL (p ++ q) z
  | [] => rfl
  | x :: xs => by simp [hdL, List.append_assoc]
theorem hdL_nil {z : List (List UInt8)} (h : z ≠ []) : hdL [] z = z := by cases z with | nil => exact absurd rfl h | cons _ _ => rfl
theorem split_cut : ∀ l : List UInt8, Lib.splitK [32] 0 (Lib.count l [32]) l = cutL l
  | [] => by rw [Lib.count_miss (by simp [Lib.index])]; rfl
  | b :: l => by
    have ih := split_cut l
    by_cases h : b = 32
    · subst h
      have hix : Lib.index (32 :: l) [32] = 0 := by rw [Lib.index]; simp [List.isPrefixOf]
      rw [Lib.count_cons_eq, Nat.add_comm]
      unfold Lib.splitK cutL
      rw [hix, if_neg (by decide), if_pos rfl, ← ih]; rfl
    · have hp : ([32] : List UInt8).isPrefixOf (b :: l) = false := by simp [List.isPrefixOf]; exact fun e => h e.symm
      have hix : Lib.index (b :: l) [32] = if Lib.index l [32] == -1 then -1 else Lib.index l [32] + 1 := by rw [Lib.index, hp]; simp
      rw [Lib.count_cons_ne b 32 l h]
      unfold cutL
      rw [if_neg h, ← ih]
      by_cases hm : Lib.index l [32] = -1
      · rw [Lib.count_miss hm]; rfl
      · have hge := Lib.index_ge l [32]
        obtain ⟨j, hj⟩ : ∃ j : Nat, Lib.index l [32] = j := ⟨(Lib.index l [32]).toNat, by omega⟩
        have hix2 : Lib.index (b :: l) [32] = ((j + 1 : Nat) : Int) := by rw [hix, if_neg (fun e => hm (beq_iff_eq.1 e)), hj]; omega
        rw [Lib.count_hit (by simp) hj, Nat.add_comm 1]
        unfold Lib.splitK
        rw [hix2, hj, if_neg (by (simp; omega)), if_neg (by (simp; done))]
        show _ = ([b] ++ l.take j) :: _
        simp
theorem pcs_cut (s : ByteArray) : pcs s = (cutL s.data.toList).map mkB := by
  have h := Lib.splitB_data spc 0 (Lib.countB s spc) s
  have h2 : (pcs s).map (·.data.toList) = cutL s.data.toList := by
    rw [← split_cut]; exact h
  rw [← h2, List.map_map]
  conv => lhs; rw [← List.map_id (pcs s)]
  exact List.map_congr_left fun x _ => (mkB_data x).symm
theorem cut_app {x : List UInt8} (h : 32 ∉ x) : ∀ l : List UInt8, cutL (x ++ l) = hdL x (cutL l) := by
  intro l
  induction x with
  | nil => exact (hdL_nil (cutL_ne l)).symm
  | cons b x ih =>
    have hb : b ≠ 32 := fun e => h (by rw [e]; simp)
    show (if b = 32 then [] :: cutL (x ++ l) else hdL [b] (cutL (x ++ l))) = _
    rw [if_neg hb, ih (fun q => h (by simp [q])), hdL_hdL]; rfl
theorem cut_join {x : List UInt8} (h : 32 ∉ x) : ∀ {r : List (List UInt8)}, (∀ y ∈ r, 32 ∉ y) → cutL (x ++ Lib.joinTail [32] r) = x :: r
  | [], _ => by
    show cutL (x ++ []) = _
    rw [cut_app h]
    show [x ++ []] = _; rw [List.append_nil]
  | y :: r, hr => by
    show cutL (x ++ (32 :: y ++ Lib.joinTail [32] r)) = _
    rw [cut_app h]
    show hdL x (if (32 : UInt8) = 32 then [] :: cutL (y ++ Lib.joinTail [32] r) else _) = _
    rw [if_pos rfl, cut_join (hr y (by simp)) fun z hz => hr z (by simp [hz])]
    show (x ++ []) :: _ = _
    rw [List.append_nil]
theorem itoa_len {n : Int} (h : In64 n) : (Lib.itoa n).length ≤ 21 := Lib.itoa_length_le n h.1 h.2
theorem dig_not {u : Nat} : (32 : UInt8) ∉ Lib.decDigits u := by
  intro h
  obtain ⟨k, hk⟩ := List.getElem?_of_mem h
  obtain ⟨d, hd⟩ := Lib.digit_of_decFrom _ 0 u (dec_digits u) k 32 hk
  have := (Lib.digitVal_eq hd).1
  exact absurd this (by decide)
theorem itoa_not (n : Int) : (32 : UInt8) ∉ Lib.itoa n := by
  unfold Lib.itoa
  split
  · intro h
    rcases List.mem_cons.1 h with e | e
    · exact absurd e (by decide)
    · exact dig_not e
  · exact dig_not
theorem itoa_p (n : Int) (h : In64 n) : PCG Tryz.prog GW 37 [.v (.int .i64 n)] (.v (.string (mkB (Lib.itoa n)))) := by
  intro w ok vs hG hL
  match vs, hL with
  | [v], ⟨h1, _⟩ =>
    obtain rfl := Rep.v_eq h1
    refine (Tryz.strconv_Itoa n h.1 h.2 w hG.2.1).mono ?_
    rintro e w' ⟨rfl, k, os, rfl⟩
    exact ⟨_, rfl, below_grow _ _ _, .v _ rfl⟩
theorem join_p (X : List (List UInt8)) (h0 : X ≠ []) (hN : X.length ≤ 1000) (hl : (Lib.join X [32]).length ≤ 1000000) : PCG Tryz.prog GW 38 [.sl 1 ((X.map mkB).map strC), .v (.string spc)] (.v (.string (mkB (Lib.join X [32])))) := by
  intro w ok vs hG hL
  match vs, hL with
  | [v, v2], ⟨h, h2, _⟩ =>
    obtain rfl := Rep.v_eq h2
    obtain ⟨A, cap, hv, hn, hcap, hsz, hs, hrest⟩ := sl_inv h
    have hX : (X.map mkB).map (·.data.toList) = X := by
      rw [List.map_map]
      conv => rhs; rw [← List.map_id X]
      exact List.map_congr_left fun x _ => data_mkB x
    rcases hrest with e | ⟨b, off, us, hA, hb, hok, hc, hr⟩
    · exact absurd (List.map_eq_nil_iff.1 (List.map_eq_nil_iff.1 e)) h0
    · subst hA hv
      have hlen : ((X.map mkB).map strC).length = (X.map mkB).length := List.length_map _
      rw [hlen] at hn ⊢
      have hXl : (X.map mkB).length = X.length := List.length_map _
      refine (Tryz.strings_Join b off cap (X.map mkB) spc w ?_ hb (by rw [hXl]; omega) hn (by rw [hX]; show (Lib.join X [32]).length ≤ _; omega)).mono ?_
      · intro j x hj
        have q1 : ((X.map mkB).map strC)[j]? = some (strC x) := by rw [List.getElem?_map, hj]; rfl
        have q2 := hc j _ 0 _ q1 rfl
        have q3 := Rep.v_eq (hr j _ 0 _ q1 rfl)
        rw [q3, Nat.mul_one, Nat.add_zero] at q2
        exact q2
      · rintro e w' ⟨rfl, hB⟩
        rw [hX]
        exact ⟨_, rfl, hB, .v _ rfl⟩
def aI (s : ByteArray) : Int × Bool :=
  match Lib.atoiAll s.data.toList with
  | .ok v => (v, true)
  | .range => (Lib.atoiSat s.data.toList, false)
  | _ => (0, false)
theorem aI_in {s : ByteArray} (h : (aI s).2 = true) : In64 (aI s).1 := by
  unfold aI at h ⊢
  cases hq : Lib.atoiAll s.data.toList with
  | ok v => have hb := Lib.atoiAll_bounds hq; exact ⟨by simp only; omega, by simp only; omega⟩
  | _ => rw [hq] at h; simp at h
theorem aI_num (s : ByteArray) : (numI s).1 = (aI s).1 ∧ (numI s).2 = ((aI s).2 && (decide (Lib.itoa (aI s).1 = s.data.toList) && decide (((Lib.trimPrefix s.data.toList [45]).length : Int) ≤ 13))) := by
  unfold numI aI
  cases Lib.atoiAll s.data.toList <;> simp [ba_toList]
theorem atoi_q (s : ByteArray) (hs : s.size ≤ 281474976710656) : PCQ Tryz.prog GW 106 [.v (.string s)] (numE (aI s).1 (aI s).2) := by
  intro w ok vs hG hL
  match vs, hL with
  | [v], ⟨h1, _⟩ =>
    obtain rfl := Rep.v_eq h1
    have hG0 := hG
    obtain ⟨-, hT, ⟨t1, p1, h3⟩, t2, p2, h4⟩ := hG
    cases h : Lib.atoiAll s.data.toList
    case ok v =>
      have hn : aI s = (v, true) := by unfold aI; rw [h]
      rw [hn]
      refine (Tryz.strconv_Atoi_ok s (by omega) v h _).mono ?_
      rintro e w1 ⟨rfl, hw⟩
      have hE : Ext w w1 := by
        rcases hw with rfl | ⟨t, rfl⟩
        · exact Ext.refl _
        · exact Lib.bytesWorld_below _ _ _
      exact ⟨_, rfl, ⟨_, rfl, .inl ⟨rfl, rfl⟩⟩, hE⟩
    case range =>
      have hn : aI s = (Lib.atoiSat s.data.toList, false) := by unfold aI; rw [h]
      rw [hn]
      refine (Tryz.strconv_Atoi_range_var s hs h t2 p2 _ h4).mono ?_
      rintro e w1 ⟨N, rfl, -, -, hb⟩
      exact ⟨_, rfl, ⟨_, rfl, .inr ⟨rfl, _, _, rfl⟩⟩, hb⟩
    · have hn : aI s = (0, false) := by unfold aI; rw [h]
      rw [hn]
      refine (Tryz.strconv_Atoi_syntax_var s hs h t1 p1 _ h3).mono ?_
      rintro e w1 ⟨N, rfl, -, -, hb⟩
      exact ⟨_, rfl, ⟨_, rfl, .inr ⟨rfl, _, _, rfl⟩⟩, hb⟩
def dsh : ByteArray := ⟨#[45]⟩
theorem trim_p (s : ByteArray) : PC Tryz.prog 107 [.v (.string s), .v (.string dsh)] (.v (.string (mkB (Lib.trimPrefix s.data.toList [45])))) := by
  intro w ok vs hL
  match vs, hL with
  | [v, v2], ⟨h1, h2, _⟩ =>
    obtain rfl := Rep.v_eq h1
    obtain rfl := Rep.v_eq h2
    refine (Tryz.strings_TrimPrefix s dsh w).mono ?_
    rintro e w' ⟨rfl, rfl⟩
    exact ⟨_, rfl, Ext.refl _, .v _ rfl⟩
def cutN : List UInt8 → List (List UInt8)
  | [] => [[]]
  | b :: l => if b = 10 then [] :: cutN l else hdL [b] (cutN l)
theorem cutN_ne : ∀ l : List UInt8, cutN l ≠ []
  | [] => by simp [cutN]
  | b :: l => by
    unfold cutN
    split
    · simp
    · cases cutN l <;> simp [hdL]
theorem cutN_app {x : List UInt8} (h : 10 ∉ x) : ∀ l : List UInt8, cutN (x ++ l) = hdL x (cutN l) := by
  intro l
  induction x with
  | nil => exact (hdL_nil (cutN_ne l)).symm
  | cons b x ih =>
    have hb : b ≠ 10 := fun e => h (by rw [e]; simp)
    show (if b = 10 then [] :: cutN (x ++ l) else hdL [b] (cutN (x ++ l))) = _
    rw [if_neg hb, ih (fun q => h (by simp [q])), hdL_hdL]; rfl
theorem idx_nl : ∀ l : List UInt8, (Lib.index l [10] = -1 ∧ cutN l = [l]) ∨ ∃ k : Nat, Lib.index l [10] = k ∧ k < l.length ∧ cutN l = l.take k :: cutN (l.drop (k + 1))
  | [] => .inl ⟨by simp [Lib.index], rfl⟩
  | b :: l => by
    by_cases h : b = 10
    · subst h
      exact .inr ⟨0, by rw [Lib.index]; simp [List.isPrefixOf], by simp, by show (if (10 : UInt8) = 10 then [] :: cutN l else _) = _; rw [if_pos rfl]; rfl⟩
    · have hp : ([10] : List UInt8).isPrefixOf (b :: l) = false := by simp [List.isPrefixOf]; exact fun e => h e.symm
      have hix : Lib.index (b :: l) [10] = if Lib.index l [10] == -1 then -1 else Lib.index l [10] + 1 := by rw [Lib.index, hp]; simp
      rcases idx_nl l with ⟨h1, h2⟩ | ⟨k, h1, h2, h3⟩
      · exact .inl ⟨by rw [hix, h1]; rfl, by show (if b = 10 then [] :: cutN l else hdL [b] (cutN l)) = _; rw [if_neg h, h2]; rfl⟩
      · refine .inr ⟨k + 1, ?_, by simp; omega, ?_⟩
        · rw [hix, h1, if_neg (by (simp; done))]; omega
        · show (if b = 10 then [] :: cutN l else hdL [b] (cutN l)) = _; rw [if_neg h, h3]; rfl
def lnC (l : List UInt8) : List UInt8 × List UInt8 × Bool := Lib.cut l [10]
theorem lnC_cases (l : List UInt8) : (lnC l = (l, [], false) ∧ cutN l = [l]) ∨ ∃ x r, lnC l = (x, r, true) ∧ cutN l = x :: cutN r ∧ x.length + 1 + r.length = l.length := by
  unfold lnC Lib.cut
  rcases idx_nl l with ⟨h1, h2⟩ | ⟨k, h1, h2, h3⟩
  · exact .inl ⟨by rw [h1, if_neg (by decide)], h2⟩
  · refine .inr ⟨l.take k, l.drop (k + 1), ?_, h3, by rw [List.length_take, List.length_drop]; omega⟩
    rw [h1, if_pos (by omega)]; rfl
theorem scut_p (s : ByteArray) (hs : s.size ≤ 1000000) : PCG Tryz.prog GW 126 [.v (.string s), .v (.string ⟨#[10]⟩)] (.tup [.v (.string (mkB (lnC s.data.toList).1)), .v (.string (mkB (lnC s.data.toList).2.1)), .v (.bool (lnC s.data.toList).2.2)]) := by
  intro w ok vs hG hL
  match vs, hL with
  | [v, v2], ⟨h, h2, _⟩ =>
    obtain rfl := Rep.v_eq h
    obtain rfl := Rep.v_eq h2
    obtain ⟨⟨m, hm⟩, -⟩ := hG
    refine (Tryz.strings_Cut s ⟨#[10]⟩ m w (by omega) hm).mono ?_
    rintro e w' ⟨rfl, n, rfl⟩
    exact ⟨_, rfl, ⟨rfl, rfl, rfl, Nat.le_refl _, fun i hi => rfl⟩, .tup _ [_, _, _] rfl fun j d v h1 h2 => by
      match j, h1, h2 with
      | 0, h1, h2 => cases h1; cases h2; exact .v _ rfl
      | 1, h1, h2 => cases h1; cases h2; exact .v _ rfl
      | 2, h1, h2 => cases h1; cases h2; exact .v _ rfl⟩

def NGB : Nat := 10
def porS : ByteArray := ⟨#[112, 111, 114, 101]⟩
def plaS : ByteArray := ⟨#[112, 108, 97, 110, 101]⟩
def kwL : List Value := [.string porS, .string plaS]
def KW (w : World) : Prop := ∀ (j : Nat) (u : Value), kwL[j]? = some u → w.cell? ⟨0, j, none⟩ = some u
def GB (w : World) : Prop := GW w ∧ NGB ≤ w.heap.size ∧ KW w
theorem var_low {w w' : World} {name : String} {g : Nat} {cs : Array Value} (hg : Tryz.prog.globalNamed name = some g) (hk : w'.heap[g]? = w.heap[g]?) (h : w.var? Tryz.prog name = some cs) : w'.var? Tryz.prog name = some cs := by
  unfold World.var? at *
  rw [hg] at h ⊢
  simp only [Option.bind_some] at h ⊢
  rw [hk]; exact h
theorem g_tab : Tryz.prog.globalNamed "internal/strconv.uint64pow10" = some 2 := by kernel_rfl
theorem g_syn : Tryz.prog.globalNamed "strconv.ErrSyntax" = some 4 := by kernel_rfl
theorem g_rng : Tryz.prog.globalNamed "strconv.ErrRange" = some 5 := by kernel_rfl
theorem gb_low : GLow NGB GB := ⟨fun w h => h.2.1, fun w w' ⟨⟨⟨m, h1⟩, h2, ⟨t1, p1, h3⟩, t2, p2, h4⟩, hn, hk4⟩ hs hk =>
  ⟨⟨⟨m, by unfold World.cell? at *; rw [show w'.heap[3]? = w.heap[3]? from hk _ (by decide)]; exact h1⟩, var_low g_tab (hk _ (by decide)) h2, ⟨t1, p1, var_low g_syn (hk _ (by decide)) h3⟩, t2, p2, var_low g_rng (hk _ (by decide)) h4⟩, Nat.le_trans hn hs, fun j u hu => by
    have q := hk4 j u hu
    unfold World.cell? at *
    rw [show w'.heap[0]? = w.heap[0]? from hk _ (by decide)]; exact q⟩⟩
end Go.Proofs.YtkbdnkjjklbddaaGreatDoor.Am.M
