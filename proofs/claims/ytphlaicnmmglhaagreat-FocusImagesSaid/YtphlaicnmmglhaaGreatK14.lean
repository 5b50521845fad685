/- Contracts over the abstract machine: the examples of chapter 4. Conditions: none. -/
import Derived.Test.YtphlaicnmmglhaaGreatK13
set_option linter.unusedVariables false
set_option linter.unusedSimpArgs false
-- mini
namespace Go.Proofs.YtphlaicnmmglhaaGreat.Am.M
open Go

section
variable {P : Program} {w0 : Cx} {n : Nat} {s : Nat → Site} {ev : Operand → T} {dst : Option Tmp} {ty : TypeId} {pos : String} {after : Array Edge} {g : Option (Nat × Bool)}
theorem q_fieldA {t : TypeId} {y : Operand} {f off m : Nat} {ft : TypeId} {cs ds : List D} (ht : (match P.underlying t with | some (.struct fs) => (fs[f]?).map (fun fd => (fd.offset, fd.type)) | _ => none) = some (off, ft)) (hs : szB P ft true m = true) (hy : ev y = .d (.agg cs)) (hd : (cs.drop off).take m = ds) (hl : ds.length = m) : QOp P w0 n s ev ⟨dst, .field t y f, ty, pos, after, g⟩ (.d (.agg ds)) :=
  .mk fun a w ok blk val h _ hnew => by
    subst hd
    obtain ⟨vs, hv, hL, hsc⟩ := agg_inv (show Rep w _ (.agg cs) (a.eval y) by have := h y; rw [hy] at this; exact this)
    have hlen : vs.length = cs.length := hL.length
    refine ⟨.agg ((vs.drop off).take m).toArray, w, ?_, Ext.refl w, ?_⟩
    · cases hu : P.underlying t with
      | none => simp [hu] at ht
      | some q =>
        cases q <;> simp only [hu, reduceCtorEq] at ht
        rename_i fs
        cases hf : fs[f]? with
        | none => simp [hf] at ht
        | some fd =>
          simp only [hf, Option.map_some, Option.some.injEq, Prod.mk.injEq] at ht
          obtain ⟨e1, e2⟩ := ht
          subst e1; subst e2
          simp [execOp, Instr.field, run_underlying hu, hf, hv, asAgg, part, szB_agg hs, szB_size hs]
    · refine Rep.agg _ _ (by rw [List.length_take, List.length_drop, List.length_take, List.length_drop, hlen]) (fun j d hj => ?_) (fun j d v hj hv => ?_)
      · rw [List.getElem?_take] at hj
        split at hj
        · rw [List.getElem?_drop] at hj; exact hsc _ d hj
        · cases hj
      · rw [List.getElem?_take] at hj hv
        split at hj
        · rename_i hjm
          rw [if_pos hjm, List.getElem?_drop] at hv
          rw [List.getElem?_drop] at hj
          exact hL.get _ d v hj hv
        · cases hj
end

def oneM : Md := ⟨2500, 5000, 0, 1000⟩
def oneS : Spc := ⟨⟨[(0, -300)], oneM, oneM, (3900000, 50000)⟩, [3, -2], [⟨0, (0, 400), (0, 0), 0, 10, 0⟩]⟩
def exB : List Nat := 0 :: 0 :: 1106247680 :: 3248488448 :: List.replicate 60 0
set_option maxRecDepth 100000 in
theorem one_p  : PC Tryz.prog 151 [] (.agg (spcC oneS)) := by
 refine pc_of_awp Tryz.func151 rfl Tryz.ntmps151 (rs := [.cell 0 130]) Tryz.results151 (by simp) fun w0 => ?_
 refine awp_seq ?_
 refine awp_region 0 mixed (by kernel_rfl) ?_
 refine rg_nil ?_
 refine aops_alloc zr130 rfl rfl rfl ?_
 refine aops_nil ?_
 change Awp _ _ _ _ _
 refine awp_seq ?_
 refine awp_region 1 mixed (by kernel_rfl) ?_
 refine rg_q (q_build (cs := [_, _, _, _]) pl24 zr24 rfl (.cons rfl (by exact .inl rfl) (.cons rfl (by exact .inl rfl) (.cons rfl (by exact .inl rfl) .nil))) ⟨⟨rfl, by decide⟩, ⟨rfl, by decide⟩, ⟨rfl, by decide⟩, trivial⟩ rfl) ?_
 refine rg_nil ?_
 refine aops_alloc zr24 rfl rfl rfl ?_
 refine aops_store sz24 rfl rfl (by exact .inr ⟨_, rfl⟩) rfl rfl (by decide) rfl ?_
 refine aops_nil ?_
 change Awp _ _ _ _ _
 refine awp_seq ?_
 refine awp_region 11 mixed (by kernel_rfl) ?_
 refine rg_q (q_build (cs := [_, _]) pl33 zr33 rfl (.cons rfl (by exact .inl rfl) (.cons rfl (by exact .inl rfl) .nil)) ⟨⟨rfl, by decide⟩, ⟨rfl, by decide⟩, trivial⟩ rfl) ?_
 refine rg_q (q_buildSlice sl22 zr33 rfl rfl (by decide) (.cons rfl (by exact .inr ⟨_, rfl⟩) .nil) ⟨rfl, rfl, trivial⟩ rfl (by decide) rfl) ?_
 refine rg_q (q_load_refA (ds := [_, _, _, _]) sz24 rfl rfl rfl rfl) ?_
 refine rg_q (q_load_refA (ds := [_, _, _, _]) sz24 rfl rfl rfl rfl) ?_
 refine rg_q (q_build (cs := [_, _]) pl26 zr26 rfl (.cons rfl (by exact .inl rfl) (.cons rfl (by exact .inl rfl) .nil)) ⟨⟨rfl, by decide⟩, ⟨rfl, by decide⟩, trivial⟩ rfl) ?_
 refine rg_q (q_build (cs := [_, _, _, _, _, _, _, _, _, _, _]) pl28 zr28 rfl (.cons rfl (by exact .inl rfl) (.cons rfl (by exact .inr ⟨_, rfl⟩) (.cons rfl (by exact .inr ⟨_, rfl⟩) (.cons rfl (by exact .inr ⟨_, rfl⟩) .nil)))) ⟨⟨rfl, by decide⟩, ⟨rfl, by decide⟩, ⟨rfl, by decide⟩, ⟨rfl, by decide⟩, trivial⟩ rfl) ?_
 refine rg_q (q_buildSlice sl77 zr3 rfl rfl (by decide) (.cons rfl (by exact .inl rfl) (.cons rfl (by exact .inl rfl) .nil)) ⟨rfl, rfl, rfl, rfl, trivial⟩ rfl (by decide) rfl) ?_
 refine rg_q (q_build (cs := [_, _]) pl33 zr33 rfl (.cons rfl (by exact .inl rfl) (.cons rfl (by exact .inl rfl) .nil)) ⟨⟨rfl, by decide⟩, ⟨rfl, by decide⟩, trivial⟩ rfl) ?_
 refine rg_q (q_build (cs := [_, _, _, _, _, _, _, _]) pl135 zr135 rfl (.cons rfl (by exact .inr ⟨_, rfl⟩) (.cons rfl (by exact .inl rfl) .nil)) ⟨⟨rfl, by decide⟩, ⟨rfl, by decide⟩, trivial⟩ rfl) ?_
 refine rg_q (q_buildSlice sl128 zr135 rfl rfl (by decide) (.cons rfl (by exact .inr ⟨_, rfl⟩) .nil) ⟨rfl, rfl, trivial⟩ rfl (by decide) rfl) ?_
 refine rg_q (q_build pl130 zr130 rfl (.cons rfl (by exact .inr ⟨_, rfl⟩) (.cons rfl (by exact .inl rfl) (.cons rfl (by exact .inl rfl) .nil))) ⟨⟨rfl, by decide⟩, ⟨rfl, by decide⟩, ⟨rfl, by decide⟩, trivial⟩ rfl) ?_
 refine rg_nil ?_
 refine aops_store sz130 rfl rfl (by exact .inr ⟨_, rfl⟩) rfl rfl (by decide) rfl ?_
 refine aops_nil ?_
 change Awp _ _ _ _ _
 refine awp_ret ?_
 refine ⟨_, (.cons (.cellA rfl rfl sz130 rfl) .nil), ?_⟩
 rfl
end Go.Proofs.YtphlaicnmmglhaaGreat.Am.M
