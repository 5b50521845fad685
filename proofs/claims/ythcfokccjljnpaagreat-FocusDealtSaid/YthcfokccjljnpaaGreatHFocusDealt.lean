/- The law: the image that workers form is the image without them. Conditions: none. -/
import Derived.Test.YthcfokccjljnpaaGreatRows
import Derived.WalkKit
import Derived.ProofKit
import Derived.OpenShut
import Derived.ShutString
import Derived.ChangeOld
import Derived.Below
import Derived.Leaving
import Derived.Conc.LeavingOf
import Derived.Conc.Holds
import Derived.Test.YthcfokccjljnpaaGreatJ10
import Derived.Test.YthcfokccjljnpaaGreatJ3
set_option linter.unusedVariables false
set_option linter.unusedSimpArgs false
set_option linter.unusedSectionVars false
set_option maxRecDepth 100000
namespace Go.Proofs.YthcfokccjljnpaaGreat
section
open Go Go.ChangeShapes Go.WideShapes Go.ChangeAt Go.RowKit Am Am.M
open Go.ChangeMaps (open_string shut_string)
theorem own:ownKnob Tryz.prog.godebug=none:=by kernel_rfl
theorem laidOut:laidOutB Tryz.prog=true:=by kernel_rfl
theorem IX{H:Type}{enc:TypeId × Value->H}{w:World}{base:Nat}{spare:Nat->Bool}{held:Bool}:Reads enc Tryz.prog w base spare held 3 (λn:Int=>[.v (.int .i64 n)]) (λn=>(Lit.int .i64 n).wf=true):=IW Tryz.underlying3
theorem ac8{H:Type}{enc:TypeId × Value->H}{w:World}{base:Nat}{spare:Nat->Bool}{held:Bool}:Reads enc Tryz.prog w base spare held 33 shC (λ_=>True):=
 (eY (ts:=[(3,1),(3,1)]) (by kernel_rfl) (bN IX (bN IX gx))).map (λp=>(p.1,p.2.1)) (λa h=>⟨by first|rfl|simp[D.cells],trivial⟩)
theorem av3{H:Type}{enc:TypeId × Value->H}{w:World}{base:Nat}{spare:Nat->Bool}{held:Bool}:Reads enc Tryz.prog w base spare held 22 (λl:List (Int × Int)=>[.sl 2 (l.map shC)]) (λl=>∀a∈l,(λ_=>True) a):=km Tryz.underlying22 (by kernel_rfl) (by decide) (λ_=>by first|rfl|simp) ac8
theorem ac9{H:Type}{enc:TypeId × Value->H}{w:World}{base:Nat}{spare:Nat->Bool}{held:Bool}:Reads enc Tryz.prog w base spare held 24 O6 (λ_=>True):=
 (eY (ts:=[(3,1),(3,1),(3,1),(3,1)]) (by kernel_rfl) (bN IX (bN IX (bN IX (bN IX gx))))).map (λp=>⟨p.1,p.2.1,p.2.2.1,p.2.2.2.1⟩) (λa h=>⟨by first|rfl|simp[D.cells],trivial⟩)
theorem av2{H:Type}{enc:TypeId × Value->H}{w:World}{base:Nat}{spare:Nat->Bool}{held:Bool}:Reads enc Tryz.prog w base spare held 26 shC (λ_=>True):=
 (eY (ts:=[(3,1),(3,1)]) (by kernel_rfl) (bN IX (bN IX gx))).map (λp=>(p.1,p.2.1)) (λa h=>⟨by first|rfl|simp[D.cells],trivial⟩)
theorem av1{H:Type}{enc:TypeId × Value->H}{w:World}{base:Nat}{spare:Nat->Bool}{held:Bool}:Reads enc Tryz.prog w base spare held 28 rN (λ_=>True):=
 (eY (ts:=[(22,1),(24,4),(24,4),(26,2)]) (by kernel_rfl) (bN av3 (bN ac9 (bN ac9 (bN av2 gx))))).map (λp=>⟨p.1,p.2.1,p.2.2.1,p.2.2.2.1⟩) (λa h=>⟨by first|rfl|simp[D.cells],trivial⟩)
theorem ad0{H:Type}{enc:TypeId × Value->H}{w:World}{base:Nat}{spare:Nat->Bool}{held:Bool}:Reads enc Tryz.prog w base spare held 120 (λb:Nat=>[.v (.float .f32 b)]) (λb=>(Lit.float .f32 b).wf=true):=BZ Tryz.underlying120
theorem av0{H:Type}{enc:TypeId × Value->H}{w:World}{base:Nat}{spare:Nat->Bool}{held:Bool}:Reads enc Tryz.prog w base spare held 29 (λl:List (Nat)=>[.sl 1 (l.map (λb:Nat=>[.v (.float .f32 b)]))]) (λl=>∀a∈l,(λb=>(Lit.float .f32 b).wf=true) a):=km Tryz.underlying29 (by kernel_rfl) (by decide) (λ_=>by first|rfl|simp) ad0
theorem au9{H:Type}{enc:TypeId × Value->H}{w:World}{base:Nat}{spare:Nat->Bool}{held:Bool}:Reads enc Tryz.prog w base spare held 31 (λm:Int × List Nat=>Qy m.1 m.2) (λ_=>True):=
 (eY (ts:=[(3,1),(29,1)]) (by kernel_rfl) (bN IX (bN av0 gx))).map (λp=>(p.1,p.2.1)) (λa h=>⟨by first|rfl|simp[D.cells],trivial⟩)
theorem au8{H:Type}{enc:TypeId × Value->H}{w:World}{base:Nat}{spare:Nat->Bool}{held:Bool}:Reads enc Tryz.prog w base spare held 35 qO (λ_=>True):=
 (eY (ts:=[(33,2),(3,1),(3,1),(3,1)]) (by kernel_rfl) (bN ac8 (bN IX (bN IX (bN IX gx))))).map (λp=>⟨p.1.1,p.1.2,p.2.1,p.2.2.1,p.2.2.2.1⟩) (λa h=>⟨by first|rfl|simp[D.cells],trivial⟩)
theorem au7{H:Type}{enc:TypeId × Value->H}{w:World}{base:Nat}{spare:Nat->Bool}{held:Bool}:Reads enc Tryz.prog w base spare held 37 tskC (λ_=>True):=
 (eY (ts:=[(28,11),(31,2),(35,5)]) (by kernel_rfl) (bN av1 (bN au9 (bN au8 gx)))).map (λp=>⟨p.1,p.2.1.1,p.2.1.2,p.2.2.1⟩) (λa h=>⟨by first|rfl|simp[D.cells],trivial⟩)
theorem au5{H:Type}{enc:TypeId × Value->H}{w:World}{base:Nat}{spare:Nat->Bool}{held:Bool}:Reads enc Tryz.prog w base spare held 64 (λl:List (Int)=>[.sl 1 (l.map (λn:Int=>[.v (.int .i64 n)]))]) (λl=>∀a∈l,(λn=>(Lit.int .i64 n).wf=true) a):=km Tryz.underlying64 (by kernel_rfl) (by decide) (λ_=>by first|rfl|simp) IX
theorem au6{H:Type}{enc:TypeId × Value->H}{w:World}{base:Nat}{spare:Nat->Bool}{held:Bool}:Reads enc Tryz.prog w base spare held 38 (λl:List (List (Int))=>[.sl 1 (l.map (λl:List (Int)=>[.sl 1 (l.map (λn:Int=>[.v (.int .i64 n)]))]))]) (λl=>∀a∈l,(λl=>∀a∈l,(λn=>(Lit.int .i64 n).wf=true) a) a):=km Tryz.underlying38 (by kernel_rfl) (by decide) (λ_=>by first|rfl|simp) au5
theorem qW (os : Os) (started : os.Started) (H : Type) (enc : TypeId × Value -> H) :
  ReturnsInLeavingWide {} Tryz.checked os 3 .any (Rows.focusDealtSpec.pre6 enc Tryz.prog Tryz.f3 Rows.focusDealtRow.domain false) (Rows.focusDealtSpec.post enc Tryz.prog Tryz.f3 false true false false):=by
 refine returnsInLeavingWide_of_change_sized (C:=Tryz.checked) own started Tryz.func3
  (ChangeSpec.witness6 (enc:=enc) (C:=Tryz.checked) false ⟨#[],#[.agg #[.slice none 0 0,.int .i64 0,.int .i64 0,.int .i64 0,.int .i64 0,.int .i64 0,.int .i64 0,.int .i64 0,.int .i64 0,.int .i64 0,.int .i64 0,.int .i64 0,.slice none 0 0,.int .i64 0,.int .i64 0,.int .i64 0,.int .i64 0,.int .i64 0],.slice none 0 0],[]⟩ 8 (by kernel_rfl) (by kernel_rfl) (by kernel_rfl) (by kernel_rfl)) ?_
 intro W base args ds gs before SF hW aI4 _ _;have dD:∀(j:Nat) t v,Tryz.f3.params[j]?=some t->args[j]?=some v->Value.okWide Tryz.prog W .any base t v:=SF;have hW':=hW;obtain⟨p,q,hA0,hV,rfl,hfz,o9⟩:=hW;have hA:DataW.TrodAll enc Tryz.prog W 0 (λ_=>true) true Tryz.f3.params.toList args.toList ds p:=hA0;rw[Tryz.params3]at hA dD;obtain⟨v0,vs0,d0,ds0,p0,q0,kB,rfl,rfl,h0,r0⟩:=trodAll_cons hA;obtain⟨v1,vs1,d1,ds1,p1,q1,rfl,rfl,rfl,h1,r1⟩:=trodAll_cons r0;obtain⟨rfl,rfl,rfl⟩:=trodAll_nil r1;obtain rfl:args=#[v0,v1]:=by cases args;simp_all
 obtain⟨rfl,rfl⟩:=trodVars_none hV;have lt0:∀x∈p0,x.block<W.heap.size:=by obtain⟨m,hm⟩:=h0;exact DataW.trod_lt m _ _ _ hm
 obtain⟨cs0,rfl,-⟩:=okWide_struct Tryz.underlying37 (dD 0 37 v0 rfl rfl);obtain⟨l0,g0,e0⟩:=RM h0 au7;have lt1:∀x∈p1,x.block<W.heap.size:=by obtain⟨m,hm⟩:=h1;exact DataW.trod_lt m _ _ _ hm
 obtain⟨b1,aH5,aI5,rfl⟩:=okWide_slice Tryz.underlying38 (dD 1 38 v1 rfl rfl);obtain⟨l1,g1,e1⟩:=RL h1 au6 rfl;clear hA0 SF;obtain⟨N,last,o,w',t',k1,k2,k3,k4⟩:=Par.PE (sl:=none) e0 e1;refine⟨N,last,o,w',t',k1,k2,k3,k4.mono λv ⟨hv,bel⟩=>?_⟩;subst hv;exact⟨_,_,_,[],_,[],hW',trodAll_mk1 (shut_bool Tryz.underlying4 _),(trodAll_cons_mk (Below.trod laidOut (by kernel_rfl) (Y3 (by kernel_rfl)) h0 bel lt0) (trodAll_cons_mk (Below.trod laidOut (by kernel_rfl) (Y3 (by kernel_rfl)) h1 bel lt1) trodAll_mk0)),rfl,bel.frame _,λh=>by cases h⟩
theorem xI:(λ(P:Program) (f:FuncId) (fn:Func) (s:ChangeSpec) (c:OpenClaim)=>c.wf (OpenSpec.ofChange s)) Tryz.pinned.checked.prog 3 Tryz.f3 Rows.focusDealtSpec Rows.focusDealtRow=true:=by kernel_rfl
theorem xH:(λ(P:Program) (f:FuncId) (fn:Func) (s:ChangeSpec) (c:OpenClaim)=>fn.params.all (P.readableRec ·)) Tryz.pinned.checked.prog 3 Tryz.f3 Rows.focusDealtSpec Rows.focusDealtRow=true:=by kernel_rfl
theorem xG:(λ(P:Program) (f:FuncId) (fn:Func) (s:ChangeSpec) (c:OpenClaim)=>namedTie P c.named s.vars) Tryz.pinned.checked.prog 3 Tryz.f3 Rows.focusDealtSpec Rows.focusDealtRow=true:=by kernel_rfl
theorem xF:(λ(P:Program) (f:FuncId) (fn:Func) (s:ChangeSpec) (c:OpenClaim)=>(c.stops==[])) Tryz.pinned.checked.prog 3 Tryz.f3 Rows.focusDealtSpec Rows.focusDealtRow=true:=by kernel_rfl
theorem xE:(λ(P:Program) (f:FuncId) (fn:Func) (s:ChangeSpec) (c:OpenClaim)=>(c.knobs==[])) Tryz.pinned.checked.prog 3 Tryz.f3 Rows.focusDealtSpec Rows.focusDealtRow=true:=by kernel_rfl
theorem xD:(λ(P:Program) (f:FuncId) (fn:Func) (s:ChangeSpec) (c:OpenClaim)=>(c.inPlace==P.inPlace f)) Tryz.pinned.checked.prog 3 Tryz.f3 Rows.focusDealtSpec Rows.focusDealtRow=true:=by kernel_rfl
theorem wA:(λ(P:Program) (f:FuncId) (fn:Func) (s:ChangeSpec) (c:OpenClaim)=>(c.unfollowed==P.unfollowed f)) Tryz.pinned.checked.prog 3 Tryz.f3 Rows.focusDealtSpec Rows.focusDealtRow=true:=by kernel_rfl
theorem wz:(λ(P:Program) (f:FuncId) (fn:Func) (s:ChangeSpec) (c:OpenClaim)=>(c.recurses==P.recurses f)) Tryz.pinned.checked.prog 3 Tryz.f3 Rows.focusDealtSpec Rows.focusDealtRow=true:=by kernel_rfl
theorem wy:(λ(P:Program) (f:FuncId) (fn:Func) (s:ChangeSpec) (c:OpenClaim)=>(c.named==P.varsNamed f)) Tryz.pinned.checked.prog 3 Tryz.f3 Rows.focusDealtSpec Rows.focusDealtRow=true:=by kernel_rfl
theorem wx:(λ(P:Program) (f:FuncId) (fn:Func) (s:ChangeSpec) (c:OpenClaim)=>(c.maps==(fn.params.toList++s.plain.varTypes P).any (P.mapsRec ·))) Tryz.pinned.checked.prog 3 Tryz.f3 Rows.focusDealtSpec Rows.focusDealtRow=true:=by kernel_rfl
theorem wv:(λ(P:Program) (f:FuncId) (fn:Func) (s:ChangeSpec) (c:OpenClaim)=>(c.ifaces==(fn.params.toList++s.plain.varTypes P).any (P.ifacesRec ·))) Tryz.pinned.checked.prog 3 Tryz.f3 Rows.focusDealtSpec Rows.focusDealtRow=true:=by kernel_rfl
theorem wu:(λ(P:Program) (f:FuncId) (fn:Func) (s:ChangeSpec) (c:OpenClaim)=>(c.mapsOut==P.mapsAmong fn.resultTypes.toList)) Tryz.pinned.checked.prog 3 Tryz.f3 Rows.focusDealtSpec Rows.focusDealtRow=true:=by kernel_rfl
theorem wq:(λ(P:Program) (f:FuncId) (fn:Func) (s:ChangeSpec) (c:OpenClaim)=>(c.loops==(fn.params.toList++s.plain.varTypes P).any (P.loopsFrom ·))) Tryz.pinned.checked.prog 3 Tryz.f3 Rows.focusDealtSpec Rows.focusDealtRow=true:=by kernel_rfl
theorem wo:(λ(P:Program) (f:FuncId) (fn:Func) (s:ChangeSpec) (c:OpenClaim)=>(c.wideKeys==(fn.params.toList++s.plain.varTypes P++fn.resultTypes.toList).any (P.wideKeysFrom ·))) Tryz.pinned.checked.prog 3 Tryz.f3 Rows.focusDealtSpec Rows.focusDealtRow=true:=by kernel_rfl
theorem wm:(λ(P:Program) (f:FuncId) (fn:Func) (s:ChangeSpec) (c:OpenClaim)=>s.vars.all (P.varReadable ·)) Tryz.pinned.checked.prog 3 Tryz.f3 Rows.focusDealtSpec Rows.focusDealtRow=true:=by kernel_rfl
theorem wj:(λ(P:Program) (f:FuncId) (fn:Func) (s:ChangeSpec) (c:OpenClaim)=>fn.resultTypes.all (λt=>P.readableRec t&&decide (t<P.types.size))) Tryz.pinned.checked.prog 3 Tryz.f3 Rows.focusDealtSpec Rows.focusDealtRow=true:=by kernel_rfl
theorem wi:(λ(P:Program) (f:FuncId) (fn:Func) (s:ChangeSpec) (c:OpenClaim)=>(c.ifacesOut==fn.resultTypes.toList.any (P.ifacesRec ·))) Tryz.pinned.checked.prog 3 Tryz.f3 Rows.focusDealtSpec Rows.focusDealtRow=true:=by kernel_rfl
theorem we:(λ(P:Program) (f:FuncId) (fn:Func) (s:ChangeSpec) (c:OpenClaim)=>(c.loopsOut==fn.resultTypes.toList.any (P.loopsFrom ·))) Tryz.pinned.checked.prog 3 Tryz.f3 Rows.focusDealtSpec Rows.focusDealtRow=true:=by kernel_rfl
theorem wb:(λ(P:Program) (f:FuncId) (fn:Func) (s:ChangeSpec) (c:OpenClaim)=>(c.plainKeys==P.plainKeys)) Tryz.pinned.checked.prog 3 Tryz.f3 Rows.focusDealtSpec Rows.focusDealtRow=true:=by show (Rows.focusDealtRow.plainKeys==Tryz.pinned.checked.prog.plainKeys)=true;rw[An];rfl
theorem wa:(λ(P:Program) (f:FuncId) (fn:Func) (s:ChangeSpec) (c:OpenClaim)=>c.shortTexts.isNone) Tryz.pinned.checked.prog 3 Tryz.f3 Rows.focusDealtSpec Rows.focusDealtRow=true:=by kernel_rfl
theorem vZ:(λ(P:Program) (f:FuncId) (fn:Func) (s:ChangeSpec) (c:OpenClaim)=>(c.lifted==P.liftsFinal)) Tryz.pinned.checked.prog 3 Tryz.f3 Rows.focusDealtSpec Rows.focusDealtRow=true:=by show (Rows.focusDealtRow.lifted==Tryz.pinned.checked.prog.liftsFinal)=true;rw[xw];rfl
theorem vY:(λ(P:Program) (f:FuncId) (fn:Func) (s:ChangeSpec) (c:OpenClaim)=>(P.make==some c.make)) Tryz.pinned.checked.prog 3 Tryz.f3 Rows.focusDealtSpec Rows.focusDealtRow=true:=by show (Tryz.pinned.checked.prog.make==some Rows.focusDealtRow.make)=true;rw[QJ];rfl
theorem vX:Rows.focusDealtRow.kinds=[]:=by kernel_rfl
theorem xC:Rows.focusDealtRow.domain.isEmpty=true:=by kernel_rfl
theorem vW:(λ(P:Program) (f:FuncId) (fn:Func) (s:ChangeSpec) (c:OpenClaim)=>(c.pinned==c.pinnedBy)) Tryz.pinned.checked.prog 3 Tryz.f3 Rows.focusDealtSpec Rows.focusDealtRow=true:=by kernel_rfl
theorem vV:(λ(P:Program) (f:FuncId) (fn:Func) (s:ChangeSpec) (c:OpenClaim)=>(c.veiled==(fn.params.toList++s.plain.varTypes P++fn.resultTypes.toList).any (P.veiledRec ·))) Tryz.pinned.checked.prog 3 Tryz.f3 Rows.focusDealtSpec Rows.focusDealtRow=true:=by kernel_rfl
theorem vU:(λ(P:Program) (f:FuncId) (fn:Func) (s:ChangeSpec) (c:OpenClaim)=>c.veiledFits P fn.params.toList (fn.params.toList++s.plain.varTypes P++fn.resultTypes.toList)) Tryz.pinned.checked.prog 3 Tryz.f3 Rows.focusDealtSpec Rows.focusDealtRow=true:=by kernel_rfl
theorem qX:joinedFacts Tryz.pinned.checked.prog 3 Tryz.f3 Rows.focusDealtSpec Rows.focusDealtRow=true:=
 Jk xI ax8 ax7 xH xG xF ax6 xE ax5 xD wA wz wy wx wv wu wq wo wm wj wi we wb wa ah8 ah7 vZ vY vX xC vW vV vU
theorem focusDealt_holds:Rows.FocusDealtSaid:=
 OpenClaim.holds_of_wide_leaving 3 Tryz.f3 rfl rfl rfl rfl rfl rfl rfl ⟨rfl,rfl,rfl,rfl,rfl⟩ rfl rfl rfl rfl rfl (by kernel_rfl) Tryz.func3 qX
  (Y3 (by kernel_rfl)) (by unfold Func.isWrapper;first|(rw[Xu (by decide +kernel)];kernel_rfl)|(rw[Xr (by decide +kernel)];exact⟨rfl,rfl⟩))
  (λos started H enc _=>qW os started H enc)
end
end Go.Proofs.YthcfokccjljnpaaGreat
