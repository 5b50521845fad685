/- The abstract machine, parts 19 to 25. Conditions: none. -/
import Derived.Deep.Slices
import Derived.ProofKit
import Derived.Test.YtepaabbfindaeaaGreatDoorAmB
set_option linter.unusedVariables false
set_option linter.unusedSimpArgs false
namespace Go.Proofs.YtepaabbfindaeaaGreatDoor.Am
open Go

section
variable {P : Program} {w0 : Cx}

/-- One operation from a state to a state. -/
def StepOp (P : Program) (w0 : Cx) (st : St) (o : Oper) (st' : St) : Prop := ∀ a w, Holds w0 st a w → OW P w0 o a w (fun a' w' => Holds w0 st' a' w')
/-- What comes ahead of an operation, through others too. -/
def depF (l : List Oper) : Nat → Nat → Nat → Bool
  | 0, _, _ => false
  | f + 1, i, p => match l[i]? with
    | some o => o.after.toList.any fun e => Region.binds .any e && (Nat.beq e.on p || depF l f e.on p)
    | none => false
def depB (l : List Oper) (i p : Nat) : Bool := depF l (i + 1) i p
/- sites in a region -/
def keyAt (ks : List (Option Nat)) (p : Nat) : Option Nat := (ks[p]?).bind id
/-- The site k where the operations in L below m are done. -/
def siteGo (st : St) (ks : List (Option Nat)) (zs : Nat → Site) (L : Nat → Bool) (k : Nat) : Nat → Site
  | 0 => st.s k
  | p + 1 => if L p = true ∧ keyAt ks p = some k then zs p else siteGo st ks zs L k p
/-- Sites whose operations are not ordered with i. -/
def hidGo (l : List Oper) (ks : List (Option Nat)) (i : Nat) : Nat → List Nat
  | 0 => []
  | p + 1 => match keyAt ks p with
    | some k => if (Nat.blt p i && depB l i p) || Nat.beq p i || (Nat.blt i p && depB l p i) then hidGo l ks i p else k :: hidGo l ks i p
    | none => hidGo l ks i p
def visT (H : List Nat) : T → Bool
  | .ref _ _ => false
  | .rs k => !memN k H
  | .own _ _ _ _ => false
  | _ => true
def hidS (H : List Nat) : Site → Site
  | .tbox cs => if cs.all (visT H) = true then .tbox cs else .no
  | x => x
def hidT (s : Nat → Site) : T → T
  | .ref k o => match s k with | .no => .dead | _ => .ref k o
  | .rs k => match s k with | .no => .dead | _ => .rs k
  | .own k r f g => match s k with | .no => .dead | _ => .own k r f g
  | x => x
/-- The sites that operation i sees. -/
def sSee (st : St) (l : List Oper) (ks : List (Option Nat)) (zs : Nat → Site) (n i : Nat) : Nat → Site := fun k =>
  if memN k (hidGo l ks i n) = true then .no else hidS (hidGo l ks i n) (siteGo st ks zs (ltB i) k n)
def evSee (st : St) (l : List Oper) (n : Nat) (xs : Nat → T) (ks : List (Option Nat)) (zs : Nat → Site) (i : Nat) (o : Oper) (gs : List (Nat × Bool)) : Operand → T := fun y => hidT (sSee st l ks zs n i) (evAt st l n xs i o gs y)
/-- An operation that sets the site k. -/
def MOp (P : Program) (w0 : Cx) (n : Nat) (s : Nat → Site) (ev : Operand → T) (o : Oper) (k : Nat) (z : Site) (x : T) : Prop :=
  ∀ st, Sub s ev st.s → st.s k = s k → st.n = n → (∀ y, ev y = .dead ∨ st.ev y = ev y) → (∀ d, o.dst = some d → d < n) → StepOp P w0 st o ((st.site k z).put o.dst x)
/-- One operation of such a region. -/
def SOpM (P : Program) (w0 : Cx) (st : St) (l : List Oper) (n : Nat) (xs : Nat → T) (ks : List (Option Nat)) (zs : Nat → Site) (i : Nat) (o : Oper) (gs : List (Nat × Bool)) (x : T) : Prop :=
  (keyAt ks i = none ∧ (QOp P w0 st.n (sSee st l ks zs n i) (evSee st l n xs ks zs i o gs) o x ∨
    ∃ tc a b jc cb p q, o.op = .pick (.tmp tc) a b ∧ prodIdx l n tc = some jc ∧ afterB o jc = true ∧ xs jc = T.bool cb ∧ evAt st l n xs i o gs (.tmp tc) = T.bool cb ∧
      evAt st l n xs i o ((jc, true) :: gs) a = T.bool p ∧ evAt st l n xs i o ((jc, false) :: gs) b = T.bool q ∧ x = T.bool (bif cb then p else q))) ∨
  ∃ k, keyAt ks i = some k ∧ o.guard = none ∧ memN k (hidGo l ks i n) = false ∧ siteGo st ks zs (ltB i) k n = sSee st l ks zs n i k ∧ MOp P w0 st.n (sSee st l ks zs n i) (evSee st l n xs ks zs i o gs) o k (zs i) x
theorem siteGo_zs {st : St} {ks : List (Option Nat)} {z zs : Nat → Site} {i k : Nat} (hz : ∀ p, p < i → z p = zs p) : ∀ {m : Nat}, siteGo st ks z (ltB i) k m = siteGo st ks zs (ltB i) k m
  | 0 => rfl
  | m + 1 => by
    unfold siteGo
    by_cases hm : m < i
    · rw [hz m hm, siteGo_zs hz]
    · have : ltB i m = false := by simp [ltB, hm]
      rw [this, if_neg (by simp), if_neg (by simp), siteGo_zs hz]
theorem SOpM.congr {st : St} {l : List Oper} {n i : Nat} {e xs : Nat → T} {ks : List (Option Nat)} {z zs : Nat → Site} {o : Oper} {gs : List (Nat × Bool)} {x : T} {N : Nat} (h : regB l n N = true) (hi : i < n) (ho : l[i]? = some o)
    (he : ∀ p, p < i → e p = xs p) (hz : ∀ p, p ≤ i → z p = zs p) (hS : SOpM P w0 st l n e ks z i o gs x) : SOpM P w0 st l n xs ks zs i o gs x := by
  have hsee : sSee st l ks z n i = sSee st l ks zs n i := funext fun k => by unfold sSee; rw [siteGo_zs fun p hp => hz p (by omega)]
  have hev : evSee st l n e ks z i o gs = evSee st l n xs ks zs i o gs := funext fun y => by unfold evSee; rw [hsee, evAt_congr h hi ho he]
  rcases hS with ⟨hk, hS⟩ | ⟨k, hk, hg, hv, hs, hm⟩
  · refine .inl ⟨hk, ?_⟩
    rcases hS with hq | ⟨tc, ya, yb, jc, cb, p, q, hop, hpj, hab, hx, hc, ha, hb, hr⟩
    · exact .inl (by rw [← hsee, ← hev]; exact hq)
    · obtain ⟨ed, hed, hbd, hj⟩ := afterB_spec hab
      have := reg_before h hi ho ed hed hbd
      refine .inr ⟨tc, ya, yb, jc, cb, p, q, hop, hpj, hab, by rw [← he jc (by omega)]; exact hx, ?_, ?_, ?_, hr⟩
      · rw [← evAt_congr h hi ho he]; exact hc
      · rw [← evAt_congr h hi ho he]; exact ha
      · rw [← evAt_congr h hi ho he]; exact hb
  · exact .inr ⟨k, hk, hg, hv, by rw [← hsee, ← siteGo_zs fun p hp => hz p (by omega)]; exact hs, by rw [← hsee, ← hev, ← hz i (Nat.le_refl _)]; exact hm⟩
end
end Go.Proofs.YtepaabbfindaeaaGreatDoor.Am
namespace Go.Proofs.YtepaabbfindaeaaGreatDoor.Am
open Go

section
variable {P : Program} {w0 : Cx} {st st' : St} {l os : List Oper} {n i : Nat} {e : Nat → T} {ks : List (Option Nat)} {z : Nat → Site} {K : St → Prop} {dst : Option Tmp} {op : Op} {ty : TypeId} {pos : String} {after : Array Edge}

end
section
variable {P : Program} {w0 : Cx} {n : Nat} {s : Nat → Site} {ev : Operand → T} {ty : TypeId} {pos : String} {after : Array Edge}
end
end Go.Proofs.YtepaabbfindaeaaGreatDoor.Am
namespace Go.Proofs.YtepaabbfindaeaaGreatDoor.Am
open Go

section
variable {H : Type} {enc : TypeId × Value → H} {P : Program} {w : World} {base : Nat} {spare : Nat → Bool} {held : Bool}
abbrev okAll : Nat → Prop := fun _ => True
/-- What reads at the type t is the data of something good. -/
def Reads (enc : TypeId × Value → H) (P : Program) (w : World) (base : Nat) (spare : Nat → Bool) (held : Bool) (t : TypeId) {α : Type} (C : α → List D) (good : α → Prop) : Prop :=
  ∀ (fuel : Nat) (cs : List Value) (x : DataW H × List MemPlace), DataW.trod enc P w base spare held fuel t cs = some x → ∃ a, good a ∧ RepL w okAll (C a) cs ∧ ∀ d ∈ C a, d.sc = true
theorem reads_int {t : TypeId} {k : IntKind} (ht : P.underlying t = some (.int k)) : Reads enc P w base spare held t (fun n : Int => [.v (.int k n)]) (fun n => (Lit.int k n).wf = true) := by
  intro fuel cs x h
  obtain ⟨n, rfl, _, hw⟩ := DataW.trod_int ht h
  exact ⟨n, hw, ⟨.v _ rfl, trivial⟩, by simp [D.sc]⟩
end
end Go.Proofs.YtepaabbfindaeaaGreatDoor.Am
namespace Go.Proofs.YtepaabbfindaeaaGreatDoor.Am
open Go

section
variable {H : Type} {enc : TypeId × Value → H} {P : Program} {w : World} {base : Nat} {spare : Nat → Bool} {held : Bool}
theorem Reads.map {t : TypeId} {α β : Type} {C : α → List D} {C' : β → List D} {good : α → Prop} {good' : β → Prop} (g : α → β) (h : Reads enc P w base spare held t C good) (hg : ∀ a, good a → C' (g a) = C a ∧ good' (g a)) : Reads enc P w base spare held t C' good' := by
  intro fuel cs x hx
  obtain ⟨a, h1, h2, h3⟩ := h fuel cs x hx
  obtain ⟨k1, k2⟩ := hg a h1
  exact ⟨g a, k2, k1 ▸ h2, k1 ▸ h3⟩
def chainT (enc : TypeId × Value → H) (P : Program) (w : World) (base : Nat) (spare : Nat → Bool) (held : Bool) (n : Nat) : List (TypeId × Nat) → List Value → Prop
  | [], _ => True
  | (t, s) :: ts, cs => (∃ x, DataW.trod enc P w base spare held n t (cs.take s) = some x) ∧ chainT enc P w base spare held n ts (cs.drop s)
def sumSz : List (TypeId × Nat) → Nat
  | [] => 0
  | (_, s) :: ts => s + sumSz ts
def ReadsF (enc : TypeId × Value → H) (P : Program) (w : World) (base : Nat) (spare : Nat → Bool) (held : Bool) (ts : List (TypeId × Nat)) {α : Type} (C : α → List D) (good : α → Prop) : Prop :=
  ∀ (n : Nat) (cs : List Value), cs.length = sumSz ts → chainT enc P w base spare held n ts cs → ∃ a, good a ∧ RepL w okAll (C a) cs ∧ ∀ d ∈ C a, d.sc = true
theorem readsF_nil : ReadsF enc P w base spare held [] (fun _ : Unit => []) (fun _ => True) := by
  intro n cs hl _
  have : cs = [] := List.length_eq_zero_iff.1 hl
  subst this
  exact ⟨(), trivial, trivial, by simp⟩
theorem readsF_cons {t : TypeId} {s : Nat} {ts : List (TypeId × Nat)} {α β : Type} {C : α → List D} {C' : β → List D} {good : α → Prop} {good' : β → Prop} (h : Reads enc P w base spare held t C good) (hs : ReadsF enc P w base spare held ts C' good') :
    ReadsF enc P w base spare held ((t, s) :: ts) (fun p : α × β => C p.1 ++ C' p.2) (fun p => good p.1 ∧ good' p.2) := by
  intro n cs hl ⟨⟨x, hx⟩, hc⟩
  simp only [sumSz] at hl
  obtain ⟨a, a1, a2, a3⟩ := h n _ x hx
  obtain ⟨b, b1, b2, b3⟩ := hs n (cs.drop s) (by simp; omega) hc
  refine ⟨(a, b), ⟨a1, b1⟩, ?_, fun d hd => ?_⟩
  · have := a2.append b2
    rwa [List.take_append_drop] at this
  · rcases List.mem_append.1 hd with hd | hd
    · exact a3 d hd
    · exact b3 d hd
def fieldsB (P : Program) : Nat → List Field → List (TypeId × Nat) → Bool
  | _, [], [] => true
  | o, f :: fs, (t, s) :: ts => Nat.beq f.offset o && Nat.beq f.type t && Nat.beq (P.cellsOf t) s && fieldsB P (o + s) fs ts
  | _, _, _ => false
theorem fieldsB_chain {n : Nat} {cs : List Value} : ∀ {ts : List (TypeId × Nat)} {fs : List Field} {o : Nat}, fieldsB P o fs ts = true → (∀ (i : Nat) (f : Field), fs[i]? = some f → ∃ x, DataW.trod enc P w base spare held n f.type ((cs.drop f.offset).take (P.cellsOf f.type)) = some x) →
    chainT enc P w base spare held n ts (cs.drop o)
  | [], _, _, _, _ => trivial
  | (t, s) :: ts, [], _, h, _ => by simp [fieldsB] at h
  | (t, s) :: ts, f :: fs, o, h, hx => by
    simp only [fieldsB, Bool.and_eq_true] at h
    obtain ⟨⟨⟨h1, h2⟩, h3⟩, h4⟩ := h
    have h1 := Nat.eq_of_beq_eq_true h1
    have h2 : f.type = t := Nat.eq_of_beq_eq_true h2
    have h3 := Nat.eq_of_beq_eq_true h3
    refine ⟨?_, ?_⟩
    · obtain ⟨x, hx0⟩ := hx 0 f rfl
      rw [h1, h2, h3] at hx0
      exact ⟨x, hx0⟩
    · rw [List.drop_drop]
      exact fieldsB_chain h4 fun i f hf => hx (i + 1) f (by simpa using hf)
def stB (P : Program) (t : TypeId) (ts : List (TypeId × Nat)) : Bool := match P.underlying t with | some (.struct fs) => fieldsB P 0 fs.toList ts && Nat.beq (P.cellsOf t) (sumSz ts) | _ => false
theorem reads_struct {t : TypeId} {ts : List (TypeId × Nat)} {α : Type} {C : α → List D} {good : α → Prop} (hs : stB P t ts = true) (h : ReadsF enc P w base spare held ts C good) : Reads enc P w base spare held t C good := by
  intro fuel cs x hx
  unfold stB at hs
  split at hs
  · rename_i fs ht
    simp only [Bool.and_eq_true] at hs
    obtain ⟨h1, h2⟩ := hs
    obtain ⟨xs, n, _, _, hl, hlen, hg⟩ := DataW.trod_struct ht hx
    refine h n cs (hl.trans (Nat.eq_of_beq_eq_true h2)) (fieldsB_chain (o := 0) h1 fun i f hf => ?_)
    have hf' : fs[i]? = some f := by simpa using hf
    have hi : i < xs.length := by
      have := (Array.getElem?_eq_some_iff.1 hf').1
      omega
    exact ⟨xs[i], by rw [hg i f hf', List.getElem?_eq_getElem hi]⟩
  · cases hs
/-- An argument of one cell. -/
theorem arg_one {t : TypeId} {v : Value} {d : DataW H} {p : List MemPlace} {α : Type} {c : α → D} {good : α → Prop} (h : DataW.Trod enc P w base spare held t v d p) (hR : Reads enc P w base spare held t (fun a => [c a]) good) (hv : v.cells = #[v]) : ∃ a, good a ∧ Rep w okAll (c a) v := by
  obtain ⟨fuel, hf⟩ := h
  obtain ⟨a, h1, h2, _⟩ := hR _ _ _ hf
  rw [hv] at h2
  exact ⟨a, h1, h2.1⟩
theorem arg_agg {t : TypeId} {cs : Array Value} {d : DataW H} {p : List MemPlace} {α : Type} {C : α → List D} {good : α → Prop} (h : DataW.Trod enc P w base spare held t (.agg cs) d p) (hR : Reads enc P w base spare held t C good) : ∃ a, good a ∧ Rep w okAll (.agg (C a)) (.agg cs) := by
  obtain ⟨fuel, hf⟩ := h
  obtain ⟨a, h1, h2, h3⟩ := hR _ _ _ hf
  refine ⟨a, h1, ?_⟩
  have := Rep.agg (w := w) (ok := okAll) (C a) cs.toList h2.length (fun j d hd => h3 d (List.mem_of_getElem? hd)) (fun j d v hd hv => h2.get j d v hd hv)
  simpa using this
end
end Go.Proofs.YtepaabbfindaeaaGreatDoor.Am
namespace Go.Proofs.YtepaabbfindaeaaGreatDoor.Am
open Go

theorem Out.killS {ts ms : List Nat} {s s0 : St} {k : Nat} (hO : Out ts ms s s0) (h : memN k ts = true) : Out ts ms (s.killS k) s0 := by
  have hk : ∀ ks : List Nat, (∀ j, memN j ks = true → memN j ts = true) → ∀ j, memN j (ks ++ [k]) = true → memN j ts = true := fun ks hks j hj => by
    rw [memN_app, Bool.or_eq_true] at hj
    rcases hj with hj | hj
    · exact hks j hj
    · simp only [memN, Bool.or_false] at hj
      rw [Nat.eq_of_beq_eq_true hj]; exact h
  refine ⟨hO.n, fun t ht => ?_, fun t ht hm => ?_⟩
  · obtain ⟨ks, hks, e⟩ := hO.t t ht
    exact ⟨ks ++ [k], hk ks hks, by simp only [St.killS]; rw [e, killT_app]⟩
  · obtain ⟨ks, hks, e⟩ := hO.s t ht hm
    exact ⟨ks ++ [k], hk ks hks, by simp only [St.killS]; rw [e, killSite_app]⟩
section
variable {P : Program} {w0 : Cx} {n : Nat} {s : Nat → Site} {ev : Operand → T} {dst : Option Tmp} {ty : TypeId} {pos : String} {after : Array Edge} {g : Option (Nat × Bool)}
theorem q_assign_nil : QOp P w0 n s ev ⟨dst, .assign (.const (.slice none 0 0)), ty, pos, after, g⟩ (.d (.v (.slice none 0 0))) :=
  .mk fun a w ok blk val h _ hnew => ⟨.slice none 0 0, w, by simp [execOp, Act.eval], Ext.refl w, .v _ rfl⟩
end
end Go.Proofs.YtepaabbfindaeaaGreatDoor.Am
namespace Go.Proofs.YtepaabbfindaeaaGreatDoor.Am
open Go

section
variable {P : Program} {w0 : Cx}

/-- What an operation on memory does to a state. -/
inductive Eff where
  | grow (k d : Nat) (z : Site)
  | set (k : Nat) (z : Site) (dst : Option Tmp) (x : T)
  | put (dst : Option Tmp) (x : T)
def Eff.dst : Eff → Option Tmp
  | .grow _ d _ => some d
  | .set _ _ dst _ => dst
  | .put dst _ => dst
def Eff.val : Eff → T
  | .grow k _ _ => .rs k
  | .set _ _ _ x => x
  | .put _ x => x
def quietP (l : List Oper) (n : Nat) (cs : List Nat) (t : Tmp) : Option Nat := match prodIdx l n t with
  | some p => bif memN p cs then none else some p
  | none => none
/- what the other operations see -/
def isTb : Site → Bool
  | .tbox _ => true
  | _ => false
def visQ (st : St) (tch : List Nat) : T → Bool
  | .ref k _ => !(memN k tch || isTb (st.s k))
  | .rs k => !(memN k tch || isTb (st.s k))
  | .own k _ _ _ => !(memN k tch || isTb (st.s k))
  | _ => true
/-- A state that differs from the first one in what the chain touches. -/
structure SameQ (st : St) (l : List Oper) (n : Nat) (cs tch : List Nat) (s : St) : Prop where
  qn : s.n = st.n
  qs : ∀ k, memN k tch = false → isTb (st.s k) = false → s.s k = st.s k
  qt : ∀ t, (∀ p, prodIdx l n t = some p → memN p cs = false) → visQ st tch (st.t t) = true → s.t t = st.t t
theorem SameQ.refl (st : St) (l : List Oper) (n : Nat) (cs tch : List Nat) : SameQ st l n cs tch st := ⟨rfl, fun _ _ _ => rfl, fun _ _ _ => rfl⟩
/- the chain -/
def evC (s : St) (l : List Oper) (n : Nat) (xs : Nat → T) (cs : List Nat) (o : Oper) : Operand → T
  | .tmp t => match quietP l n cs t with
    | some p => bif (afterB o p && (match guardOf l p with | none => true | some _ => false)) then xs p else .dead
    | none => s.t t
  | y => s.ev y
end
section
variable {P : Program} {w0 : Cx} {st s : St} {l os : List Oper} {n i : Nat} {e : Nat → T} {cs tch r : List Nat} {K : (Nat → T) → St → Prop} {dst : Option Tmp} {op : Op} {ty : TypeId} {pos : String} {after : Array Edge}
end
section
variable {P : Program} {w0 : Cx} {s : St} {ev : Operand → T} {ty : TypeId} {pos : String} {after : Array Edge}
end
end Go.Proofs.YtepaabbfindaeaaGreatDoor.Am
namespace Go.Proofs.YtepaabbfindaeaaGreatDoor.Am
open Go

section
variable {P : Program} {w0 : Cx} {n : Nat} {s : Nat → Site} {ev : Operand → T} {dst : Option Tmp} {ty : TypeId} {pos : String} {after : Array Edge} {g : Option (Nat × Bool)}
end
end Go.Proofs.YtepaabbfindaeaaGreatDoor.Am
