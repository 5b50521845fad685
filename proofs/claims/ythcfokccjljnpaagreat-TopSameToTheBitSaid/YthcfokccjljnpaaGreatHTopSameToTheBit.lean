/- The law: images dealt twice, once read back, are the same. Conditions: none. -/
import Derived.Test.YthcfokccjljnpaaGreatRows
import Derived.WalkKit
import Derived.ProofKit
import Derived.OpenShut
import Derived.ShutString
import Derived.ChangeOld
import Derived.Below
import Derived.Leaving
import Derived.Conc.LeavingOf
import Derived.Conc.Holds
import Derived.Test.YthcfokccjljnpaaGreatJ9
import Derived.Test.YthcfokccjljnpaaGreatJ2
set_option linter.unusedVariables false
set_option linter.unusedSimpArgs false
set_option linter.unusedSectionVars false
set_option maxRecDepth 100000
namespace Go.Proofs.YthcfokccjljnpaaGreat
open Go.Proofs.Tryz Go Go.ChangeShapes Go.WideShapes Go.ChangeAt Go.RowKit Am Am.M
open Go.ChangeMaps (open_string shut_string)
theorem own:ownKnob prog.godebug=none:=by kernel_rfl
theorem laidOut:laidOutB prog=true:=by kernel_rfl
theorem IX{H:Type}{enc:Z5 × Z3->H}{w:W'}{base:Nat}{spare:Nat->Bool}{held:Bool}:Reads enc prog w base spare held 3 (λn:Int=>[.v (.int .i64 n)]) (λn=>(Lit.int .i64 n).wf=true):=IW underlying3
theorem ac8{H:Type}{enc:Z5 × Z3->H}{w:W'}{base:Nat}{spare:Nat->Bool}{held:Bool}:Reads enc prog w base spare held 33 wq (λ_=>True):=
 (eY (ts:=[(3,1),(3,1)]) (by kernel_rfl) (bN IX (bN IX u3))).map (λp=>(p.1,p.2.1)) (λa h=>⟨by first|rfl|simp[D.cells],trivial⟩)
theorem av3{H:Type}{enc:Z5 × Z3->H}{w:W'}{base:Nat}{spare:Nat->Bool}{held:Bool}:Reads enc prog w base spare held 22 (λl:List (Int × Int)=>[.sl 2 (l.map wq)]) (λl=>∀a∈l,(λ_=>True) a):=km underlying22 (by kernel_rfl) (by decide) (λ_=>by first|rfl|simp) ac8
theorem ac9{H:Type}{enc:Z5 × Z3->H}{w:W'}{base:Nat}{spare:Nat->Bool}{held:Bool}:Reads enc prog w base spare held 24 O6 (λ_=>True):=
 (eY (ts:=[(3,1),(3,1),(3,1),(3,1)]) (by kernel_rfl) (bN IX (bN IX (bN IX (bN IX u3))))).map (λp=>⟨p.1,p.2.1,p.2.2.1,p.2.2.2.1⟩) (λa h=>⟨by first|rfl|simp[D.cells],trivial⟩)
theorem av2{H:Type}{enc:Z5 × Z3->H}{w:W'}{base:Nat}{spare:Nat->Bool}{held:Bool}:Reads enc prog w base spare held 26 wq (λ_=>True):=
 (eY (ts:=[(3,1),(3,1)]) (by kernel_rfl) (bN IX (bN IX u3))).map (λp=>(p.1,p.2.1)) (λa h=>⟨by first|rfl|simp[D.cells],trivial⟩)
theorem av1{H:Type}{enc:Z5 × Z3->H}{w:W'}{base:Nat}{spare:Nat->Bool}{held:Bool}:Reads enc prog w base spare held 28 rN (λ_=>True):=
 (eY (ts:=[(22,1),(24,4),(24,4),(26,2)]) (by kernel_rfl) (bN av3 (bN ac9 (bN ac9 (bN av2 u3))))).map (λp=>⟨p.1,p.2.1,p.2.2.1,p.2.2.2.1⟩) (λa h=>⟨by first|rfl|simp[D.cells],trivial⟩)
theorem ad0{H:Type}{enc:Z5 × Z3->H}{w:W'}{base:Nat}{spare:Nat->Bool}{held:Bool}:Reads enc prog w base spare held 120 (λb:Nat=>[.v (.float .f32 b)]) (λb=>(Lit.float .f32 b).wf=true):=BZ underlying120
theorem av0{H:Type}{enc:Z5 × Z3->H}{w:W'}{base:Nat}{spare:Nat->Bool}{held:Bool}:Reads enc prog w base spare held 29 (λl:List (Nat)=>[.sl 1 (l.map (λb:Nat=>[.v (.float .f32 b)]))]) (λl=>∀a∈l,(λb=>(Lit.float .f32 b).wf=true) a):=km underlying29 (by kernel_rfl) (by decide) (λ_=>by first|rfl|simp) ad0
theorem au9{H:Type}{enc:Z5 × Z3->H}{w:W'}{base:Nat}{spare:Nat->Bool}{held:Bool}:Reads enc prog w base spare held 31 (λm:Int × List Nat=>Qy m.1 m.2) (λ_=>True):=
 (eY (ts:=[(3,1),(29,1)]) (by kernel_rfl) (bN IX (bN av0 u3))).map (λp=>(p.1,p.2.1)) (λa h=>⟨by first|rfl|simp[D.cells],trivial⟩)
theorem au8{H:Type}{enc:Z5 × Z3->H}{w:W'}{base:Nat}{spare:Nat->Bool}{held:Bool}:Reads enc prog w base spare held 35 qO (λ_=>True):=
 (eY (ts:=[(33,2),(3,1),(3,1),(3,1)]) (by kernel_rfl) (bN ac8 (bN IX (bN IX (bN IX u3))))).map (λp=>⟨p.1.1,p.1.2,p.2.1,p.2.2.1,p.2.2.2.1⟩) (λa h=>⟨by first|rfl|simp[D.cells],trivial⟩)
theorem au7{H:Type}{enc:Z5 × Z3->H}{w:W'}{base:Nat}{spare:Nat->Bool}{held:Bool}:Reads enc prog w base spare held 37 q8 (λ_=>True):=
 (eY (ts:=[(28,11),(31,2),(35,5)]) (by kernel_rfl) (bN av1 (bN au9 (bN au8 u3)))).map (λp=>⟨p.1,p.2.1.1,p.2.1.2,p.2.2.1⟩) (λa h=>⟨by first|rfl|simp[D.cells],trivial⟩)
theorem au5{H:Type}{enc:Z5 × Z3->H}{w:W'}{base:Nat}{spare:Nat->Bool}{held:Bool}:Reads enc prog w base spare held 64 (λl:List (Int)=>[.sl 1 (l.map (λn:Int=>[.v (.int .i64 n)]))]) (λl=>∀a∈l,(λn=>(Lit.int .i64 n).wf=true) a):=km underlying64 (by kernel_rfl) (by decide) (λ_=>by first|rfl|simp) IX
theorem au6{H:Type}{enc:Z5 × Z3->H}{w:W'}{base:Nat}{spare:Nat->Bool}{held:Bool}:Reads enc prog w base spare held 38 (λl:List (List (Int))=>[.sl 1 (l.map (λl:List (Int)=>[.sl 1 (l.map (λn:Int=>[.v (.int .i64 n)]))]))]) (λl=>∀a∈l,(λl=>∀a∈l,(λn=>(Lit.int .i64 n).wf=true) a) a):=km underlying38 (by kernel_rfl) (by decide) (λ_=>by first|rfl|simp) au5
theorem be9{H:Type}{enc:Z5 × Z3->H}{w:W'}{base:Nat}{spare:Nat->Bool}{held:Bool}:Reads enc prog w base spare held 56 (λm:List (List Int) × List (List Int) × Int=>Hq m.1 m.2.1 m.2.2) (λ_=>True):=
 (eY (ts:=[(38,1),(38,1),(3,1)]) (by kernel_rfl) (bN au6 (bN au6 (bN IX u3)))).map (λp=>(p.1,p.2.1,p.2.2.1)) (λa h=>⟨by first|rfl|simp[D.cells],trivial⟩)
theorem xH(os:Os)(started:os.Started)(H:Type)(enc:Z5 × Z3->H) :
  ReturnsInLeavingWide {} Tryz.checked os 4 .any (Rows.topSameToTheBitSpec.pre6 enc prog Tryz.f4 Rows.topSameToTheBitRow.domain false) (Rows.topSameToTheBitSpec.post enc prog Tryz.f4 false true false false):=by
 refine returnsInLeavingWide_of_change_sized (C:=Tryz.checked) own started func4
  (ChangeSpec.witness6 (enc:=enc) (C:=Tryz.checked) false ⟨#[],#[.agg #[.slice none 0 0,.int .i64 0,.int .i64 0,.int .i64 0,.int .i64 0,.int .i64 0,.int .i64 0,.int .i64 0,.int .i64 0,.int .i64 0,.int .i64 0,.int .i64 0,.slice none 0 0,.int .i64 0,.int .i64 0,.int .i64 0,.int .i64 0,.int .i64 0],.agg #[.slice none 0 0,.slice none 0 0,.int .i64 0]],[]⟩ 8 (by kernel_rfl) (by kernel_rfl) (by kernel_rfl) (by kernel_rfl)) ?_
 intro W base args ds gs before SF hW aI4 _ _;have dD:∀(j:Nat) t v,Tryz.f4.params[j]?=some t->args[j]?=some v->Value.okWide prog W .any base t v:=SF;have hW':=hW;obtain⟨p,q,hA0,hV,rfl,hfz,o9⟩:=hW;have hA:DataW.TrodAll enc prog W 0 (λ_=>true) true Tryz.f4.params.toList args.toList ds p:=hA0;rw[params4]at hA dD;obtain⟨v0,vs0,d0,ds0,p0,q0,kB,rfl,rfl,h0,r0⟩:=trodAll_cons hA;obtain⟨v1,vs1,d1,ds1,p1,q1,rfl,rfl,rfl,h1,r1⟩:=trodAll_cons r0;obtain⟨rfl,rfl,rfl⟩:=trodAll_nil r1;obtain rfl:args=#[v0,v1]:=by cases args;simp_all
 obtain⟨rfl,rfl⟩:=trodVars_none hV;have lt0:∀x∈p0,x.block<W.heap.size:=by have⟨m,hm⟩:=h0;exact DataW.trod_lt m _ _ _ hm
 obtain⟨cs0,rfl,-⟩:=okWide_struct underlying37 (dD 0 37 v0 E E);obtain⟨l0,g0,e0⟩:=RM h0 au7;have lt1:∀x∈p1,x.block<W.heap.size:=by have⟨m,hm⟩:=h1;exact DataW.trod_lt m _ _ _ hm
 obtain⟨Ph,rfl,-⟩:=okWide_struct underlying56 (dD 1 56 v1 E E);have⟨l1,g1,e1⟩:=RM h1 be9;clear hA0 SF;have⟨N,last,o,w',t',k1,k2,k3,k4⟩:=Par.PE (sl:=none) e0 e1;refine⟨N,last,o,w',t',k1,k2,k3,k4.mono λv ⟨hv,bel⟩=>?_⟩;subst hv;exact⟨_,_,_,[],_,[],hW',trodAll_mk1 (shut_bool underlying4 _),(trodAll_cons_mk (Below.trod laidOut (by kernel_rfl) (Y3 (by kernel_rfl)) h0 bel lt0) (trodAll_cons_mk (Below.trod laidOut (by kernel_rfl) (Y3 (by kernel_rfl)) h1 bel lt1) trodAll_mk0)),rfl,bel.frame _,λh=>by cases h⟩
theorem xI:joinedFacts Tryz.pinned.checked.prog 4 Tryz.f4 Rows.topSameToTheBitSpec Rows.topSameToTheBitRow=true:=
 Jk (by kernel_rfl) ax8 ax7 (by kernel_rfl) (by kernel_rfl) (by kernel_rfl) ax6 (by kernel_rfl) ax5 (by kernel_rfl) (by kernel_rfl) (by kernel_rfl) (by kernel_rfl) (by kernel_rfl) (by kernel_rfl) (by kernel_rfl) (by kernel_rfl) (by kernel_rfl) (by kernel_rfl) (by kernel_rfl) (by kernel_rfl) (by kernel_rfl) (by show (Rows.topSameToTheBitRow.plainKeys==Tryz.pinned.checked.prog.plainKeys)=true;rw[An];rfl) (by kernel_rfl) ah8 ah7 (by show (Rows.topSameToTheBitRow.lifted==Tryz.pinned.checked.prog.liftsFinal)=true;rw[xw];rfl) (by show (Tryz.pinned.checked.prog.make==some Rows.topSameToTheBitRow.make)=true;rw[QJ];rfl) (by kernel_rfl) (by kernel_rfl) (by kernel_rfl) (by kernel_rfl) (by kernel_rfl)
theorem topSameToTheBit_holds:Rows.TopSameToTheBitSaid:=
 OpenClaim.holds_of_wide_leaving 4 Tryz.f4 E E E E E E E ⟨rfl,rfl,rfl,rfl,rfl⟩ E E E E E (by kernel_rfl) func4 xI
  (Y3 (by kernel_rfl)) (by unfold Func.isWrapper;first|(rw[Xu (by decide +kernel)];kernel_rfl)|(rw[Xr (by decide +kernel)];exact⟨rfl,rfl⟩))
  (λos started H enc _=>xH os started H enc)
end Go.Proofs.YthcfokccjljnpaaGreat
