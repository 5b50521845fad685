/- Contracts over the abstract machine, and the crowd of workers. Conditions: none. -/
import Derived.Conc.Crowd
import Derived.Conc.Beside
import Derived.CallsIn
import Derived.Conc.CrowdRun
import Derived.Conc.CrowdStepW
import Derived.Conc.CrowdStepC2
import Derived.Conc.WgGenN3
import Derived.Test.YthcfokccjljnpaaGreatJ4
set_option linter.unusedVariables false
set_option linter.unusedSimpArgs false
set_option linter.unusedSectionVars false
namespace Go.Proofs.YthcfokccjljnpaaGreat.Par
open Go Go.Conc
open Go.ConcN (sumTo upd sumTo_upd upd_ne upd_same ShN WgLive PayAt Has CTag WD DWs EvW RW AtR0 WSit Apart CT OkW Ok0 RelBy norel_of PermW get_map_set get_map_set_same AsideCell phi Vc Ssum Fsum cnt OpenSt okW_of_Bk norel_of_Bk bk_cell okW_none deafBehind_idle others_uncounted le_sumTo Vc_upd Vc_le phi_retag phi_mono isOpen isW3 pend cell_of_block sumTo_upd_out AllQuit ok0_of_Bk isFin bk_dis bk_en bk_rd bk_rw bk_sem Deaf_still Deaf_absent allQuit_of exists_counted)
open Go.ConcR (KK wgBlock WgAt stA smA rd wr mk Payload DC0 Bk g_of_ofEvents ofEvent_loc_mark ofEvent_cell ofEvent_mk bk_of_mute)
noncomputable def rs(P:Z4)(m0:Z9):Nat->Z9
 | 0=>m0
 | n+1=>match stepT P (rs P m0 n) with
  | (.next m,_)=>m
  | _=>rs P m0 n
noncomputable def tr(P:Z4)(m0:Z9)(t0:Z'):Nat->Z'
 | 0=>t0
 | n+1=>tr P m0 t0 n++(stepT P (rs P m0 n)).2
def OM(P:Z4)(m:Z9)(x:Nat × Nat × Option (Nat × Nat)):Prop:=∃g,m.gs[x.1]?=some g/\g.status=.running/\stepT P m=runT P (m.at x.2.1 x.2.2) x.1
open Classical in
noncomputable def pk(P:Z4)(m:Z9):Nat × Nat × Option (Nat × Nat):=if h:∃x,OM P m x then Classical.choose h else (0,0,none)
theorem Hm{P:Z4}{m:Z9}(h:∃x,OM P m x):OM P m (pk P m):=by unfold pk;rw[dif_pos h];exact Classical.choose_spec h
noncomputable def wd(P:Z4)(m:Z9):W':=m.world.at (pk P m).2.1
noncomputable def sg(P:Z4)(m:Z9):GStep:=match m.gs[(pk P m).1]? with
 | some g=>stepG P ((pk P m).1==0) g (wd P m)
 | none=>.ended (.stuck "" "") m.world
noncomputable def used(P:Z4)(m0:Z9)(k:Nat)(c:Z9->Nat):Nat->Nat
 | 0=>0
 | n+1=>used P m0 k c n+if (pk P (rs P m0 n)).1=k then c (rs P m0 n) else 0
noncomputable abbrev ac(P:Z4)(m0:Z9)(k:Nat):Nat->Nat:=used P m0 k λm=>(gsW (sg P m)).heap.size - m.world.heap.size
noncomputable abbrev dc(P:Z4)(m0:Z9)(k:Nat):Nat->Nat:=used P m0 k λm=>(gsW (sg P m)).drawn - (pk P m).2.1
theorem xQ{P:Z4}{m0:Z9}{k:Nat}{c:Z9->Nat}{n n':Nat}(h:n<=n'):used P m0 k c n<=used P m0 k c n':=by
 induction h with
 | refl=>exact Xw _
 | step h ih=>exact XQ ih (Nat.le_add_right _ _)
theorem Ku{P:Z4}{m0:Z9}{k:Nat}{c:Z9->Nat}{n n' j:Nat}(h1:used P m0 k c n<=j)(h2:j<used P m0 k c (n+1))(h3:used P m0 k c n'<=j)(h4:j<used P m0 k c (n'+1)):n=n':=by
 rcases Nat.lt_trichotomy n n' with h|h|h
 ·have:=xQ (P:=P) (m0:=m0) (k:=k) (c:=c) (show n+1<=n' from h);omega
 ·exact h
 ·have:=xQ (P:=P) (m0:=m0) (k:=k) (c:=c) (show n'+1<=n from h);omega
open Classical in
noncomputable def pick{α:Type}(P:Z4)(m0:Z9)(k:Nat)(c:Z9->Nat)(v:Z9->Nat->α)(d:α)(j:Nat):α:=
 if h:∃n,used P m0 k c n<=j/\j<used P m0 k c (n+1) then v (rs P m0 (Classical.choose h)) (j - used P m0 k c (Classical.choose h)) else d
theorem zT{α:Type}{P:Z4}{m0:Z9}{k:Nat}{c:Z9->Nat}{v:Z9->Nat->α}{d:α}{n i:Nat}(hk:(pk P (rs P m0 n)).1=k)(hi:i<c (rs P m0 n)):pick P m0 k c v d (used P m0 k c n+i)=v (rs P m0 n) i:=by
 have e:used P m0 k c (n+1)=used P m0 k c n+c (rs P m0 n):=by simp[used,hk]
 have h:∃n',used P m0 k c n'<=used P m0 k c n+i/\used P m0 k c n+i<used P m0 k c (n'+1):=⟨n,by omega,by omega⟩;unfold pick;rw[dif_pos h];have h2:=Classical.choose_spec h;have:Classical.choose h=n:=Ku h2.1 h2.2 (by omega) (by omega);rw[this];congr 1;omega
noncomputable def tk(P:Z4)(m0:Z9)(k:Nat):Nat->Question->Nat:=λj q=>pick P m0 k (λm=>(gsW (sg P m)).drawn - (pk P m).2.1) (λm i=>m0.world.tape ((pk P m).2.1+i) q) 0 j
noncomputable def fk(P:Z4)(m0:Z9)(k M:Nat):Re:=λb=>if b<M then b else pick P m0 k (λm=>(gsW (sg P m)).heap.size - m.world.heap.size) (λm i=>m.world.heap.size+i) b (b - M)
theorem Wh{P:Z4}{m0:Z9}{n k M:Nat}{w:W'}(hk:(pk P (rs P m0 n)).1=k)(ht:(rs P m0 n).world.tape=m0.world.tape)(h1:w.drawn=dc P m0 k n)(h2:w.heap.size=M+ac P m0 k n)(h3:w.tape=tk P m0 k):Al (fk P m0 k M) w (wd P (rs P m0 n)) (sg P (rs P m0 n)):=by
 refine⟨λi q hi=>?_,λi hi=>?_⟩
 ·rw[h3,h1]
  unfold tk
  have:i<(λm=>(gsW (sg P m)).drawn - (pk P m).2.1) (rs P m0 n):=by
   have:(wd P (rs P m0 n)).drawn=(pk P (rs P m0 n)).2.1:=rfl;simp only;omega
  rw[zT (v:=λm i=>m0.world.tape ((pk P m).2.1+i) q) (d:=0) hk this];show m0.world.tape _ q=(rs P m0 n).world.tape _ q
  rw[ht];rfl
 ·have e:(wd P (rs P m0 n)).heap.size=(rs P m0 n).world.heap.size:=rfl
  rw[h2,e];have:i<(λm:Z9=>(gsW (sg P m)).heap.size - m.world.heap.size) (rs P m0 n):=by simp only;omega
  unfold fk;rw[Xr (by omega),show M+ac P m0 k n+i - M=ac P m0 k n+i by omega];exact zT (v:=λm i=>m.world.heap.size+i) hk this
def nB(U:List Item):Prop:=∀i∈U,∃c,i=.code c
def xt(U:List Item)(fr:Frame):Frame:={ fr with todo:=fr.todo++U }
theorem jr(fr:Frame):xt [] fr=fr:=by simp[xt]
structure OkG(NG:Nat)(P:Z4)(g:Z7):Prop where
 st:g.status=.running
 dy:g.dying=none
 kd:g.frame.kind=.normal
 md:g.frame.mode=.run\/g.frame.mode=.returning
 td:∀i∈g.frame.todo,okI NG P i=true
theorem rr{U:List Item}(hU:nB U)(id:Nat):∀k:List Item,exitTo id (k++U)=(exitTo id k).map (· ++ U)
 | []=>by
  induction U with
  | nil=>rfl
  | cons i U ih=>
   obtain⟨c,rfl⟩:=hU i (XX ..);simp only[Yt,exitTo]at ih ⊢;have:=ih λj hj=>hU j (Yc _ hj);rw[this];rfl
 | i::k=>by
  have ih:=rr hU id k
  cases i<;>simp only[ZT,exitTo]<;>first|exact ih|skip
  split
  ·rfl
  ·exact ih
theorem gF{U:List Item}(hU:nB U)(fr:Frame)(v:Z3):(xt U fr).finish v=xt U (fr.finish v):=by
 cases ht:fr.todo with
 | nil=>
  cases U with
  | nil=>rw[jr,jr]
  | cons i U=>
   obtain⟨c,rfl⟩:=hU i (XX ..);simp[xt,Frame.finish,ht]
 | cons i k=>
  cases i<;>first|(simp[xt,Frame.finish,ht];done)|skip
  rename_i ops l
  cases l<;>simp[xt,Frame.finish,ht]
section
variable{P:Z4}{NG:Nat}
abbrev cy(fr:Frame)(cl:List Frame):Z7:={ frame:=fr,callers:=cl,status:=.running,dying:=none }
def nF(U U':List Item)(cl cl':List Frame)(s s':GStep)(g1:Z7)(w1:W')(es:Array ϊ):Prop:=
 (∃gq,g1=cy (xt U gq) cl/\s'=.go (cy (xt U' gq) cl') w1 es)\/
 (∃Ri gq,g1=cy Ri (xt U gq::cl)/\s'=.go (cy Ri (xt U' gq::cl')) w1 es)\/
 ∃v c l,cl=c::l/\g1=cy (c.finish v) l/\∀c' l',cl'=c'::l'->s'=.go (cy (c'.finish v) l') w1 es
theorem nF.after{U U':List Item}{cl cl':List Frame}{s s':GStep}{g1:Z7}{w1:W'}{yX es:Array ϊ}(h:s.after yX=.go g1 w1 es)(ht:∀es',s=.go g1 w1 es'->nF U U' cl cl' s s' g1 w1 es') :
  nF U U' cl cl' (s.after yX) (s'.after yX) g1 w1 es:=by
 cases s<;>simp only[GStep.after]at h<;>first|(cases h;done)|skip
 rename_i g w es1
 cases h
 rcases ht es1 rfl with ⟨gq,h1,h2⟩|⟨Ri,gq,h1,h2⟩|⟨v,c,l,h0,h1,h2⟩
 ·exact .inl ⟨gq,h1,by rw[h2];rfl⟩
 ·exact .inr (.inl ⟨Ri,gq,h1,by rw[h2];rfl⟩)
 ·exact .inr (.inr ⟨v,c,l,h0,h1,λc' l' e=>by rw[h2 c' l' e];rfl⟩)
theorem yx(fr:Frame):∀l:List Frame,(∀c∈l,c.mode=.run)->tryRecover fr l=none
 | [],_=>by unfold tryRecover;cases fr.kind<;>rfl
 | c::l,h=>by
  have hc:=h c (XX ..);unfold tryRecover
  cases fr.kind<;>simp only[hc]
  rw[yx c l λd J=>h d (Yc _ J)];rfl
theorem Lb:∀(l:List Frame) {b:Nat},(∀c∈l,c.mode=.run)->tryRecoverLoop b l=none
 | [],_,_=>rfl
 | c::l,b,h=>by
  have hl:∀d∈l,d.mode=.run:=λd J=>h d (Yc _ J);unfold tryRecoverLoop
  split
  ·rw[Lb l hl];rfl
  ·split
   ·rw[yx c l hl];rfl
   ·rw[Lb l hl];rfl
  ·rw[Lb l hl];rfl
theorem Ma{g1:Z7}(hg:OkG NG P g1){fr:Frame}{ps:List ByteArray}{m:String}{b:Bool}{w w1:W'}{es:Array ϊ}(h:dieOf fr ps m b w=.go g1 w1 es):False:=by
 unfold dieOf at h;simp only at h;obtain⟨rfl,_,_⟩:=(GStep.go.injEq ..).mp h;have:=hg.dy
 cases this
theorem F6{gq rZ:Frame}(hk:rZ.kind=gq.kind){cl cl':List Frame}{g:Nat}{w w1:W'}{g1:Z7}{es:Array ϊ}(hg:OkG NG P g1)(h:early P gq cl none g w=.go g1 w1 es):g1=cy gq cl/\early P rZ cl' none g w=.go (cy rZ cl') w1 es:=by
 have th:∀(f:ϋ) (l:List Frame) (w2:W'),GStep.go { frame:=Frame.enter P f #[] .early,callers:=l,status:=.running,dying:=none } w2=.go g1 w1 es->False:=λf l w2 h=>by
  obtain⟨rfl,_,_⟩:=(GStep.go.injEq ..).mp h;have:=hg.kd
  cases this
 unfold early at h ⊢;simp only[hk]at h ⊢
 repeat' split at h
 all_goals first|(cases h;done)|(exact(th _ _ _ h).elim)|skip
 all_goals (obtain⟨rfl,rfl,rfl⟩:=(GStep.go.injEq ..).mp h;refine⟨rfl,?_⟩;clear th hg;first|(simp only[*,Yp,YC,XO];done)|(simp[*];done)|simp_all)
theorem tail_apply{U U':List Item}{cl cl':List Frame}(kY:∀c∈cl,c.mode=.run)(sO:∀c∈cl',c.mode=.run)(hU:nB U)(Pe:nB U'){fr:Frame}{i:Item}{k:List Item}(ht:fr.todo=i::k)(hi:okI NG P i=true)(hm:fr.mode=.run)(s:Sem Next){w w1:W'}{g1:Z7}{es:Array ϊ}
  (h:stepG.apply P true (xt U fr) cl none s w=.go g1 w1 es) (hg:OkG NG P g1):nF U U' cl cl' (stepG.apply P true (xt U fr) cl none s w) (stepG.apply P true (xt U' fr) cl' none s w) g1 w1 es:=by
 have kd:∀J':List Item,(match (xt J' fr).todo with|.call _ true _ _::_=>CallKind.wrapped|_=>.normal)=.normal:=λJ'=>by
  simp only[xt,ht,ZT]
  cases i<;>first|rfl|simp[okI]at hi
 have ek:∀J',(xt J' fr).kind=fr.kind:=λ_=>rfl;have ef:∀J',(xt J' fr).fn=fr.fn:=λ_=>rfl;have et:∀J',(xt J' fr).todo=i::(k++J'):=λJ'=>by simp[xt,ht]
 unfold stepG.apply at h ⊢;simp only[Yp,kd,ek,ef]at h ⊢;generalize Y:s.runT P w #[]=r at h ⊢;obtain⟨r,yX⟩:=r;simp only at h ⊢;refine nF.after h λes' h=>?_
 have fin:∀v,GStep.go (cy ((xt U fr).finish v) cl) w1 es'=.go g1 w1 es'->nF U U' cl cl' (.go (cy ((xt U fr).finish v) cl) w1 es') (.go (cy ((xt U' fr).finish v) cl') w1 es') g1 w1 es':=λv h=>by
  cases h
  exact .inl ⟨fr.finish v,by rw[gF hU],by rw[gF Pe]⟩
 cases r with
 | ok n w2=>
  cases n with
  | value v=>simp only at h ⊢;obtain⟨rfl,rfl,rfl⟩:=(GStep.go.injEq ..).mp h;exact fin v E
  | skip=>simp only at h ⊢;obtain⟨rfl,rfl,rfl⟩:=(GStep.go.injEq ..).mp h;exact fin undef E
  | enter f args=>
   simp only at h ⊢;obtain⟨rfl,rfl,rfl⟩:=(GStep.go.injEq ..).mp h;refine .inr (.inl ⟨_,fr,rfl,?_⟩);simp only[et]
   cases i<;>first|(simp[okI]at hi;done)|rfl
  | round l f tmps a b=>simp only at h ⊢;obtain⟨rfl,rfl,rfl⟩:=(GStep.go.injEq ..).mp h;exact .inr (.inl ⟨_,fr,rfl,rfl⟩)
  | defer d=>
   simp only at h ⊢;obtain⟨rfl,rfl,rfl⟩:=(GStep.go.injEq ..).mp h;refine .inl ⟨({ fr with defers:=d::fr.defers }).finish undef,?_,?_⟩
   ·exact congrArg (λx=>cy x cl) (gF hU { fr with defers:=d::fr.defers } undef)
   ·exact congrArg (λx=>GStep.go (cy x cl') _ _) (gF Pe { fr with defers:=d::fr.defers } undef)
  | recover=>
   have er:∀J',(xt J' fr).roundOf=fr.roundOf:=λ_=>rfl;simp only[er]at h ⊢
   cases jD:fr.roundOf with
   | none=>
    simp only[jD,yx _ _ kY,yx _ _ sO]at h ⊢;obtain⟨rfl,rfl,rfl⟩:=(GStep.go.injEq ..).mp h;exact fin _ E
   | some b=>
    cases hf:P.follows .rangeFuncRecover<;>simp only[jD,hf,Yp,YC,XO,yx _ _ kY,yx _ _ sO,Lb _ kY,Lb _ sO]at h ⊢
    all_goals
     obtain⟨rfl,rfl,rfl⟩:=(GStep.go.injEq ..).mp h;exact fin _ E
  | sleep aH3=>
   simp only at h;obtain⟨rfl,rfl,rfl⟩:=(GStep.go.injEq ..).mp h;have:=hg.st
   cases this
  | spawn d=>
   simp only at h;exfalso;unfold endThrow at h
   repeat' split at h
   all_goals first|(cases h;done)|exact Ma hg h
  | callThen d resume saved wrapper=>
   simp only[et]at h;exfalso
   cases i<;>first|(simp[okI]at hi;done)|skip
   all_goals
    simp only at h;obtain⟨rfl,rfl,rfl⟩:=(GStep.go.injEq ..).mp h;have:=hg.td _ (XX ..);simp[okI]at this
  | row row args=>
   simp only[et]at h;exfalso
   cases i<;>first|(simp[okI]at hi;done)|skip
   all_goals
    simp only at h;obtain⟨rfl,rfl,rfl⟩:=(GStep.go.injEq ..).mp h;have:=hg.td _ (XX ..);simp[okI]at this
  | stack resume saved=>
   simp only[et]at h;exfalso
   cases i<;>first|(simp[okI]at hi;done)|skip
   all_goals
    simp only at h;obtain⟨rfl,rfl,rfl⟩:=(GStep.go.injEq ..).mp h;have:=hg.td _ (XX ..);simp[okI]at this
  | _=>simp only at h;cases h
 | halt hh w2=>
  have pan:∀vs,GStep.go (cy ((xt U fr).raise vs) cl) w2=.go g1 w1 es'->False:=λvs h=>by
   obtain⟨rfl,_,_⟩:=(GStep.go.injEq ..).mp h;have:=hg.md;simp only[Frame.raise]at this
   split at this<;>rcases this with h|h<;>cases h
  cases hh with
  | panic v=>simp only at h;exact(pan _ h).elim
  | goexit=>simp only at h;exact(pan _ h).elim
  | blocked=>simp only at h;obtain⟨rfl,_,_⟩:=(GStep.go.injEq ..).mp h;have:=hg.st;cases this
  | waiting=>simp only at h;obtain⟨rfl,_,_⟩:=(GStep.go.injEq ..).mp h;have:=hg.st;cases this
  | fatal m=>
   simp only at h;unfold endFatal at h;simp only at h
   split at h
   ·exact(Ma hg h).elim
   ·cases h
   ·cases h
  | throw m=>simp only at h;unfold endThrow at h;exact(Ma hg h).elim
  | unsupported u=>
   cases u with
   | initOrder g0=>
    simp only at h ⊢;obtain⟨rfl,h2⟩:=F6 (gq:=xt U fr) (rZ:=xt U' fr) (cl':=cl') E hg h;exact .inl ⟨fr,rfl,h2⟩
   | _=>simp only at h;cases h
  | _=>simp only at h;cases h
theorem xU{U U':List Item}{cl cl':List Frame}(kY:∀c∈cl,c.mode=.run)(sO:∀c∈cl',c.mode=.run)(hU:nB U)(Pe:nB U'){fr:Frame}(hi:∀i∈fr.todo,okI NG P i=true)(hm:fr.mode=.run\/fr.mode=.returning)(hk:fr.kind=.normal)(J:∀d∈fr.defers,lA d)
  (eW:fr.mode=.run->fr.todo≠[]\/(U=[]/\U'=[])) {m:Bool} {w w1:W'} {g1:Z7} {es:Array ϊ}
  (h:stepG P m (cy (xt U fr) cl) w=.go g1 w1 es) (hg:OkG NG P g1) (hcc:fr.mode=.run->∀b,fr.roundOf=some b->cl≠[]/\cl'≠[]) (hcd:fr.mode=.returning->fr.defers=[]->cl≠[]/\cl'≠[]):nF U U' cl cl' (stepG P m (cy (xt U fr) cl) w) (stepG P m (cy (xt U' fr) cl') w) g1 w1 es:=by
 have ek:∀J',(xt J' fr).kind=fr.kind:=λ_=>rfl;have ef:∀J',(xt J' fr).fn=fr.fn:=λ_=>rfl;have er:∀J',(xt J' fr).roundOf=fr.roundOf:=λ_=>rfl;have em:∀J',(xt J' fr).mode=fr.mode:=λ_=>rfl;have ed:∀J',(xt J' fr).defers=fr.defers:=λ_=>rfl;have ev:∀J',(xt J' fr).eval=fr.eval:=λ_=>by funext x;cases x<;>rfl
 have etm:∀J',(xt J' fr).tmps=fr.tmps:=λ_=>rfl
 have ret:cl≠[]->cl'≠[]->∀(gq rZ:Frame) (v:Z3) (w2:W') (es':Array ϊ),gq.kind=.normal->rZ.kind=.normal->doReturn P m gq cl none v w2=.go g1 w1 es'->nF U U' cl cl' (doReturn P m gq cl none v w2) (doReturn P m rZ cl' none v w2) g1 w1 es':=by
  intro n1 n2 gq rZ v w2 es' k1 k2 h
  cases cl with
  | nil=>exact absurd E n1
  | cons c l=>
   cases cl' with
   | nil=>exact absurd E n2
   | cons c' l'=>
    simp only[doReturn,k1,k2]at h ⊢;obtain⟨rfl,rfl,rfl⟩:=(GStep.go.injEq ..).mp h;exact .inr (.inr ⟨v,c,l,rfl,rfl,λc2 l2 e=>by cases e;rfl⟩)
 have go1:∀(gq:Frame) (w2:W') (es':Array ϊ),GStep.go (cy (xt U gq) cl) w2=.go g1 w1 es'->nF U U' cl cl' (.go (cy (xt U gq) cl) w2) (.go (cy (xt U' gq) cl') w2) g1 w1 es':=λgq w2 es' h=>by
  obtain⟨rfl,rfl,rfl⟩:=(GStep.go.injEq ..).mp h;exact .inl ⟨gq,rfl,rfl⟩
 rcases hm with hm|hm
 ·have e1 : ∀ J' l, stepG P m (cy (xt J' fr) l) w = stepG.exec P m true (xt J' fr) l none w := λJ' l => by
   unfold stepG;simp[em,hm]
  rw[e1]at h ⊢;rw[e1]
  have to:∀(k':List Item) (es':Array ϊ),GStep.go { frame:={ xt U fr with todo:=k'++U },callers:=cl,status:=.running,dying:=none } w=.go g1 w1 es'->nF U U' cl cl' (.go { frame:={ xt U fr with todo:=k'++U },callers:=cl,status:=.running,dying:=none } w) (.go { frame:={ xt U' fr with todo:=k'++U' },callers:=cl',status:=.running,dying:=none } w) g1 w1 es':=λk' es' h=>by
   obtain⟨rfl,rfl,rfl⟩:=(GStep.go.injEq ..).mp h;exact .inl ⟨{ fr with todo:=k' },rfl,rfl⟩
  cases ht:fr.todo with
  | nil=>
   obtain⟨rfl,rfl⟩:=(eW hm).resolve_left (λh=>h ht);clear to go1;have ex:xt [] fr=fr:=jr fr;simp only[ex]at h ⊢;unfold stepG.exec at h ⊢;simp only[ht]at h ⊢
   cases jD:fr.roundOf with
   | none=>
    simp only[jD,Yp]at h ⊢;obtain⟨rfl,rfl,rfl⟩:=(GStep.go.injEq ..).mp h;exact .inl ⟨{ fr with mode:=.returning },by rw[jr];simp[ht,jD],by rw[jr];simp[ht,jD]⟩
   | some b=>
    have nn:=hcc hm b jD;simp only[jD]at h ⊢;generalize (Instr.endRound b none).runT P w #[]=r at h ⊢;obtain⟨r,yX⟩:=r;refine nF.after h λes' h=>?_
    cases r with
    | ok v w2=>simp only at h ⊢;exact ret nn.1 nn.2 _ _ v w2 es' hk hk h
    | halt=>simp only at h;cases h
  | cons i k=>
   have et:∀J',(xt J' fr).todo=i::(k++J'):=λJ'=>by simp[xt,ht]
   have CQ:=hi i (by rw[ht];exact XX ..);unfold stepG.exec at h ⊢;simp only[et,ev,er,ef,etm]at h ⊢
   cases i with
   | inBlock id=>simp only at h ⊢;exact to k es h
   | inLoop c=>simp only at h ⊢;exact to (.code c :: .inLoop c::k) es h
   | inScope c=>simp only at h ⊢;exact to k es h
   | inRangeFunc l=>simp only at h;cases h
   | call a b c d=>simp[okI]at CQ
   | beginRound=>simp only at h ⊢;exact tail_apply kY sO hU Pe ht CQ hm _ h hg
   | endRangeFunc l=>
    simp only at h ⊢;generalize (Instr.endLoop l).runT P w #[]=r at h ⊢;obtain⟨r,yX⟩:=r;refine nF.after h λes' h=>?_
    cases r with
    | ok j w2=>
     simp only at h ⊢;obtain⟨rfl,rfl,rfl⟩:=(GStep.go.injEq ..).mp h;exact .inl ⟨{ fr with todo:=(j.map Item.code).toList++k },by simp[xt],by simp[xt]⟩
    | halt hh w2=>
     cases hh<;>simp only at h<;>first|(cases h;done)|skip
     exfalso;obtain⟨rfl,rfl,rfl⟩:=(GStep.go.injEq ..).mp h;have:=hg.md;simp only[Frame.raise]at this
     split at this<;>rcases this with h|h<;>cases h
   | inRegion ops l=>
    cases l with
    | nil=>simp only at h ⊢;exact to k es h
    | cons i0 l=>
     simp only at h ⊢;by_cases hw:((ops[i0]?).map (Region.wanted · (yielded ops fr.tmps))).getD false=true
     ·rw[Xu hw]at h ⊢
      rw[Xu hw];have eo:∀J',(xt J' fr).oper?=fr.oper?:=λJ'=>by simp[Frame.oper?,et,ht]
      cases ho:fr.oper? with
      | none=>unfold stepG.oper at h;simp only[eo,ho]at h;cases h
      | some o=>
       have o9:∀c,o.op≠.defer c:=λc hc=>by
        have h1:ops[i0]?=some o:=by simpa [Frame.oper?,ht] using ho
        have h2:=Yi.1 (show (ops.all λo=>okOp NG P o.op)=true from CQ) o (Ym h1);rw[hc]at h2;cases h2
       have e2:∀J' l,stepG.oper P true (xt J' fr) l none w=stepG.apply P true (xt J' fr) l none (execOp fr.eval o) w:=λJ' l=>by rw[uw ((eo J').trans ho) o9,ev]
       rw[e2]at h ⊢;rw[e2];exact tail_apply kY sO hU Pe ht CQ hm _ h hg
     ·rw[Xr hw]at h ⊢
      rw[Xr hw];rw[gF hU]at h ⊢;rw[gF Pe];exact go1 _ _ es h
   | code c=>
    cases c with
    | skip=>simp only at h ⊢;exact to k es h
    | label _=>simp only at h ⊢;exact to k es h
    | seq a b=>simp only at h ⊢;exact to (.code a :: .code b::k) es h
    | block id b=>simp only at h ⊢;exact to (.code b :: .inBlock id::k) es h
    | loop b=>simp only at h ⊢;exact to (.code b :: .inLoop b::k) es h
    | scope b=>simp only at h ⊢;exact to (.code b :: .inScope b::k) es h
    | cond c x y=>
     simp only at h ⊢
     cases hb:fr.eval c<;>simp only[hb]at h ⊢<;>first|(cases h;done)|skip
     rename_i b;exact to (.code (if b then x else y)::k) es h
    | goto l=>simp[okI,okC]at CQ
    | refuse l=>simp[okI,okC]at CQ
    | ret=>
     simp only at h ⊢
     cases jD:fr.roundOf with
     | none=>
      simp only[jD,Yp]at h ⊢;obtain⟨rfl,rfl,rfl⟩:=(GStep.go.injEq ..).mp h;exact .inl ⟨{ fr with mode:=.returning },by simp[xt,ht,jD],by simp[xt,ht,jD]⟩
     | some b=>
      have nn:=hcc hm b jD;simp only[jD]at h ⊢;generalize (Instr.endRound b (some .ret)).runT P w #[]=r at h ⊢;obtain⟨r,yX⟩:=r;refine nF.after h λes' h=>?_
      cases r with
      | ok v w2=>simp only at h ⊢;exact ret nn.1 nn.2 _ _ v w2 es' hk hk h
      | halt=>simp only at h;cases h
    | exit id=>
     simp only[rr hU,rr Pe]at h ⊢
     cases hx:exitTo id k with
     | some k'=>simp only[hx,XB,Option.elim_some]at h ⊢;exact to k' es h
     | none=>
      simp only[hx,XR,Zs]at h ⊢
      cases jD:fr.roundOf with
      | none=>simp[jD]at h
      | some b=>
       have nn:=hcc hm b jD;simp only[jD]at h ⊢;generalize (Instr.endRound b (some (.exit id))).runT P w #[]=r at h ⊢;obtain⟨r,yX⟩:=r;refine nF.after h λes' h=>?_
       cases r with
       | ok v w2=>simp only at h ⊢;exact ret nn.1 nn.2 _ _ v w2 es' hk hk h
       | halt=>simp only at h;cases h
    | region id ops d=>
     cases d with
     | false=>simp only[ZG,Yp]at h ⊢;exact to (.inRegion ops (List.range ops.size)::k) es h
     | true=>
      simp only[Y1,XO,YC]at h ⊢;generalize (choose (.order fr.fn id)).run P w=r at h ⊢
      cases r with
      | ok t w2=>simp only at h ⊢;exact go1 { fr with todo:=.inRegion ops (Region.schedule (P.follows .mixedOrders) ops t)::k } w2 es h
      | halt=>simp only at h;cases h
    | rangeFunc x params a b=>
     simp only at h ⊢;generalize (Instr.enterLoop fr.fn fr.tmps params a b fr.roundOf).runT P w #[]=r at h ⊢;obtain⟨r,yX⟩:=r;refine nF.after h λes' h=>?_
     cases r with
     | ok l w2=>
      obtain⟨l,mark⟩:=l;simp only at h ⊢;exact tail_apply (fr:={ fr with todo:=.inRangeFunc l::k,defers:=mark++fr.defers }) kY sO hU Pe E E hm _ h hg
     | halt=>simp only at h;cases h
   | _=>simp[okI]at CQ
 ·have e1 : ∀ J' l, stepG P m (cy (xt J' fr) l) w = unwind P m (xt J' fr) l none w := λJ' l => by
   unfold stepG;simp[em,hm]
  rw[e1]at h ⊢;rw[e1];unfold unwind at h ⊢;simp only[ed,em,ef,etm]at h ⊢
  cases AA:fr.defers with
  | nil=>
   have nn:=hcd hm AA;simp only[AA,hm]at h ⊢
   cases hf:P.funcs[fr.fn]? with
   | none=>simp only[hf]at h ⊢;exact ret nn.1 nn.2 _ _ _ _ es hk hk h
   | some fn=>
    simp only[hf]at h ⊢;generalize (results fn fr.tmps).runT P w #[]=r at h ⊢;obtain⟨r,yX⟩:=r;refine nF.after h λes' h=>?_
    cases r with
    | ok v w2=>simp only at h ⊢;exact ret nn.1 nn.2 _ _ v w2 es' hk hk h
    | halt hh w2=>simp only at h;cases hh<;>cases h
  | cons d ds=>
   obtain⟨b,rfl⟩:=J d (by rw[AA];exact XX ..);simp only[AA]at h ⊢;generalize (Instr.takeDeferred b).runT P w #[]=r at h ⊢;obtain⟨r,yX⟩:=r;refine nF.after h λes' h=>?_
   cases r with
   | ok c w2=>simp only at h ⊢;exact go1 { fr with defers:=c++ds } w2 es' h
   | halt=>simp only at h;cases h
theorem eN(m:Bool)(fr:Frame)(cl:List Frame)(v:Z3)(w:W'):gsW (doReturn P m fr cl none v w)=w:=by
 unfold doReturn
 cases cl<;>simp only<;>repeat' split
 all_goals rfl
theorem gsw_early{gq rZ:Frame}(hk:rZ.kind=gq.kind)(cl cl':List Frame)(g:Nat)(w:W'):gsW (early P gq cl none g w)=gsW (early P rZ cl' none g w):=by
 have ny:∀(fr:Frame) (l:List Frame) (w:W'),gsW (match w.heap[g]? with
  | some (.pending c elem)=>GStep.go { frame:=fr,callers:=l,status:=.running,dying:=none } { w with heap:=w.heap.setIfInBounds g (.cells c elem) }
  | _=>.ended (.stuck "early: the variable does not wait" (fr.pos P)) w)=match w.heap[g]? with
  | some (.pending c elem)=>{ w with heap:=w.heap.setIfInBounds g (.cells c elem) }
  | _=>w:=λfr l w=>by split<;>rfl
 unfold early;simp only[hk]
 cases P.follows .staticDataAhead with
 | false=>simp only[ZG,Yp];split<;>rfl
 | true=>
  simp only[Y1,XO,YC]
  cases P.stepOf g with
  | none=>rfl
  | some f=>
   simp only
   split
   ·split<;>rfl
   ·split
    ·split<;>rfl
    ·split
     ·rfl
     ·rfl
     ·rfl
     ·split<;>rfl
     ·split
      · rfl
      ·split
       · split<;>rfl
       ·split
        · split<;>rfl
        · rfl
        · rfl
theorem yQ{fr:Frame}{cl:List Frame}(h1:∀c∈fr::cl,c.mode=.run)(m:String)(w:W'):gsW (endFatal P fr cl none m w)=w:=by
 unfold endFatal;generalize hc:List.flatMap _ _=ch
 obtain rfl:ch=[]:=by
  rw[<-hc,List.flatMap_eq_nil_iff];intro c hc;rw[h1 c (List.mem_filter.1 hc).1]
 rfl
theorem gsw_apply{U U':List Item}{cl cl':List Frame}(kY:∀c∈cl,c.mode=.run)(sO:∀c∈cl',c.mode=.run){fr:Frame}{i:Item}{k:List Item}(ht:fr.todo=i::k)(hi:okI NG P i=true)(hm:fr.mode=.run)(s:Sem Next)(w:W') :
  gsW (stepG.apply P true (xt U fr) cl none s w)=gsW (stepG.apply P true (xt U' fr) cl' none s w):=by
 have ek:∀J',(xt J' fr).kind=fr.kind:=λ_=>rfl;have ef:∀J',(xt J' fr).fn=fr.fn:=λ_=>rfl;have et:∀J',(xt J' fr).todo=i::(k++J'):=λJ'=>by simp[xt,ht]
 have al:∀J' (l:List Frame),(∀c∈l,c.mode=.run)->∀c∈xt J' fr::l,c.mode=.run:=λJ' l hl c hc=>by
  rcases Xy.1 hc with rfl|hc
  ·exact hm
  ·exact hl c hc
 unfold stepG.apply;simp only[Yp,cQ,et];generalize s.runT P w #[]=r;obtain⟨r,yX⟩:=r
 cases r with
 | ok n w2=>
  cases n with
  | recover=>
   have rc:∀(x:Option (Z3 × List Frame)) (fr:Frame) (l:List Frame),gsW (match x with
    | some (v,l)=>GStep.go { frame:=fr.finish v,callers:=l,status:=.running,dying:=none } w2
    | none=>.go { frame:=fr.finish .nilIface,callers:=l,status:=.running,dying:=none } w2)=w2:=λx fr l=>by split<;>rfl
   simp only
   have e1 := rc (match (xt U fr).roundOf with
     | some l=>if P.follows .rangeFuncRecover then tryRecover (xt U fr) cl else tryRecoverLoop l cl
     | none=>tryRecover (xt U fr) cl) (xt U fr) cl
   have e2 := rc (match (xt U' fr).roundOf with
     | some l=>if P.follows .rangeFuncRecover then tryRecover (xt U' fr) cl' else tryRecoverLoop l cl'
     | none=>tryRecover (xt U' fr) cl') (xt U' fr) cl'
   exact e1.trans e2.symm
  | spawn d=>
   have sp:∀(b:Bool) (fr:Frame) (g c:Z7),gsW (if b=true then endThrow fr "go of nil func value" w2 else .spawn g c w2)=w2:=λb fr g c=>by cases b<;>rfl
   exact(sp _ _ _ _).trans (sp _ _ _ _).symm
  | callThen=>cases i<;>first|rfl|simp[okI]at hi
  | row=>cases i<;>first|rfl|simp[okI]at hi
  | stack=>cases i<;>first|rfl|simp[okI]at hi
  | _=>rfl
 | halt hh w2=>
  cases hh with
  | fatal m=>exact(yQ (al U cl kY) m w2).trans (yQ (al U' cl' sO) m w2).symm
  | unsupported u=>cases u<;>first|rfl|exact gsw_early (gq:=xt U fr) (rZ:=xt U' fr) E cl cl' _ w2
  | _=>rfl
theorem C2{U U':List Item}{cl cl':List Frame}(kY:∀c∈cl,c.mode=.run)(sO:∀c∈cl',c.mode=.run)(hU:nB U)(Pe:nB U'){fr:Frame}(hi:∀i∈fr.todo,okI NG P i=true)(hm:fr.mode=.run\/fr.mode=.returning)(J:∀d∈fr.defers,lA d)
  (eW:fr.mode=.run->fr.todo≠[]\/(U=[]/\U'=[])) {m:Bool} {w:W'}:gsW (stepG P m (cy (xt U fr) cl) w)=gsW (stepG P m (cy (xt U' fr) cl') w):=by
 have ef:∀J',(xt J' fr).fn=fr.fn:=λ_=>rfl;have er:∀J',(xt J' fr).roundOf=fr.roundOf:=λ_=>rfl;have em:∀J',(xt J' fr).mode=fr.mode:=λ_=>rfl;have ed:∀J',(xt J' fr).defers=fr.defers:=λ_=>rfl;have ev:∀J',(xt J' fr).eval=fr.eval:=λ_=>by funext x;cases x<;>rfl
 have etm:∀J',(xt J' fr).tmps=fr.tmps:=λ_=>rfl;rcases hm with hm|hm
 ·have e1 : ∀ J' l, stepG P m (cy (xt J' fr) l) w = stepG.exec P m true (xt J' fr) l none w := λJ' l => by
   unfold stepG;simp[em,hm]
  rw[e1,e1]
  cases ht:fr.todo with
  | nil=>
   obtain⟨rfl,rfl⟩:=(eW hm).resolve_left (λh=>h ht);have ex:xt [] fr=fr:=jr fr;simp only[ex];unfold stepG.exec;simp only[ht]
   cases jD:fr.roundOf with
   | none=>rfl
   | some b=>
    simp only[cQ];generalize (Instr.endRound b none).runT P w #[]=r;obtain⟨r,yX⟩:=r
    cases r with
    | ok v w2=>exact(eN ..).trans (eN ..).symm
    | halt=>rfl
  | cons i k=>
   have et:∀J',(xt J' fr).todo=i::(k++J'):=λJ'=>by simp[xt,ht]
   have CQ:=hi i (by rw[ht];exact XX ..);unfold stepG.exec;simp only[et,ev,er,ef,etm]
   cases i with
   | call a b c d=>simp[okI]at CQ
   | beginRound=>exact gsw_apply kY sO ht CQ hm _ _
   | endRangeFunc l=>
    simp only[cQ];generalize (Instr.endLoop l).runT P w #[]=r;obtain⟨r,yX⟩:=r
    cases r with
    | ok j w2=>rfl
    | halt hh w2=>cases hh<;>rfl
   | inRegion ops l=>
    cases l with
    | nil=>rfl
    | cons i0 l=>
     simp only;by_cases hw:((ops[i0]?).map (Region.wanted · (yielded ops fr.tmps))).getD false=true
     ·rw[Xu hw,Xu hw]
      have eo:∀J',(xt J' fr).oper?=fr.oper?:=λJ'=>by simp[Frame.oper?,et,ht]
      cases ho:fr.oper? with
      | none=>unfold stepG.oper;simp only[eo,ho];rfl
      | some o=>
       have o9:∀c,o.op≠.defer c:=λc hc=>by
        have h1:ops[i0]?=some o:=by simpa [Frame.oper?,ht] using ho
        have h2:=Yi.1 (show (ops.all λo=>okOp NG P o.op)=true from CQ) o (Ym h1);rw[hc]at h2;cases h2
       have e2:∀J' l,stepG.oper P true (xt J' fr) l none w=stepG.apply P true (xt J' fr) l none (execOp fr.eval o) w:=λJ' l=>by rw[uw ((eo J').trans ho) o9,ev]
       rw[e2,e2];exact gsw_apply kY sO ht CQ hm _ _
     ·rw[Xr hw,Xr hw];rfl
   | code c=>
    cases c with
    | goto l=>simp[okI,okC]at CQ
    | refuse l=>simp[okI,okC]at CQ
    | cond c x y=>simp only;generalize fr.eval c=v;cases v<;>rfl
    | ret=>
     simp only
     cases jD:fr.roundOf with
     | none=>rfl
     | some b=>
      simp only[cQ];generalize (Instr.endRound b (some .ret)).runT P w #[]=r;obtain⟨r,yX⟩:=r
      cases r with
      | ok v w2=>exact(eN ..).trans (eN ..).symm
      | halt=>rfl
    | exit id=>
     simp only[rr hU,rr Pe]
     cases hx:exitTo id k with
     | some k'=>rfl
     | none=>
      simp only[XR,Zs]
      cases jD:fr.roundOf with
      | none=>rfl
      | some b=>
       simp only[cQ];generalize (Instr.endRound b (some (.exit id))).runT P w #[]=r;obtain⟨r,yX⟩:=r
       cases r with
       | ok v w2=>exact(eN ..).trans (eN ..).symm
       | halt=>rfl
    | region id ops d=>
     cases d with
     | false=>rfl
     | true=>
      simp only[Y1,XO,YC];generalize (choose (.order fr.fn id)).run P w=r
      cases r<;>rfl
    | rangeFunc x params a b=>
     simp only[cQ];generalize (Instr.enterLoop fr.fn fr.tmps params a b fr.roundOf).runT P w #[]=r;obtain⟨r,yX⟩:=r
     cases r with
     | ok l w2=>
      obtain⟨l,mark⟩:=l;exact gsw_apply (fr:={ fr with todo:=.inRangeFunc l::k,defers:=mark++fr.defers }) kY sO E (show okI NG P (.inRangeFunc l)=true from rfl) hm _ _
     | halt=>rfl
    | _=>rfl
   | _=>first|rfl|simp[okI]at CQ
 ·have e1 : ∀ J' l, stepG P m (cy (xt J' fr) l) w = unwind P m (xt J' fr) l none w := λJ' l => by
   unfold stepG;simp[em,hm]
  rw[e1,e1];unfold unwind;simp only[ed,em,ef,etm]
  cases AA:fr.defers with
  | nil=>
   simp only[hm]
   cases hf:P.funcs[fr.fn]? with
   | none=>exact(eN ..).trans (eN ..).symm
   | some fn=>
    simp only[cQ];generalize (results fn fr.tmps).runT P w #[]=r;obtain⟨r,yX⟩:=r
    cases r with
    | ok v w2=>exact(eN ..).trans (eN ..).symm
    | halt hh w2=>cases hh<;>rfl
  | cons d ds=>
   obtain⟨b,rfl⟩:=J d (by rw[AA];exact XX ..);simp only[cQ];generalize (Instr.takeDeferred b).runT P w #[]=r;obtain⟨r,yX⟩:=r
   cases r<;>rfl
def spin(r:Code):Code->Code
 | .seq a b=>.seq a (spin r b)
 | .skip=>r
 | c=>c
def spine:Code->Prop
 | .seq _ b=>spine b
 | .skip=>True
 | _=>False
def cU(c:Code):List Item:=[.code c,.code (.exit 0)]
def mr(r c:Code):List Item:=[.code (spin r c)]
theorem AV(c:Code):nB (cU c):=λi hi=>by
 simp only[cU,Xy,XG,Yn]at hi;rcases hi with rfl|rfl<;>exact⟨_,rfl⟩
theorem AW(r c:Code):nB (mr r c):=λi hi=>by
 simp only[mr,Xy,XG,Yn]at hi;exact⟨_,hi⟩
theorem Dp:nB []:=λi hi=>by cases hi
inductive Ex(r:Option Code)(cs':List Frame)(g' ga:Z7):Prop
 | same (h:r=none) (e:ga=g')
 | top (rc c:Code) (b0:Frame) (h:r=some rc) (hs:spine c) (Y:b0.roundOf=none) (e:g'=cy (xt (cU c) b0) cs') (e':ga=cy (xt (mr rc c) b0) cs')
 | low (rc c:Code) (b0 fr:Frame) (l:List Frame) (h:r=some rc) (hs:spine c) (Y:b0.roundOf=none) (e:g'=cy fr (l++xt (cU c) b0::cs')) (e':ga=cy fr (l++xt (mr rc c) b0::cs'))
end
section
variable{Q P:Z4}{f:Re}{NG M N0:Nat}{W0:W'}
theorem Qs(i:Item):okI NG P (rI f i)=okI NG P i:=by cases i<;>rfl
theorem Hy{l:List Item}(h:∀i∈l,okI NG P i=true):∀i∈l.map (rI f),okI NG P i=true:=λi hi=>by
 obtain⟨j,hj,rfl⟩:=X6.1 hi;rw[Qs];exact h j hj
theorem Mo{l:List Deferred}(h:∀d∈l,lA d):∀d∈l.map (rM f),lA d:=λd J=>by
 obtain⟨j,hj,rfl⟩:=X6.1 J;obtain⟨m,rfl⟩:=h j hj;exact⟨f m,rfl⟩
theorem GR.okG{cs cs':List Frame}{fr:Frame}{cI:List Frame}{g g':Z7}(R:GR NG Q P f cs cs' fr cI g g'):OkG NG P g':=by
 rw[R.g'];exact⟨rfl,rfl,R.ok.kind,R.ok.mode,Hy R.ok.todo⟩
structure FrP(NG:Nat)(P:Z4)(fr:Frame):Prop where
 kind:fr.kind=.normal
 mode:fr.mode=.run\/fr.mode=.returning
 todo:∀i∈fr.todo,okI NG P i=true
 defers:∀d∈fr.defers,lA d
theorem mu.frp{fr:Frame}(h:mu NG Q P fr):FrP NG P (rF f fr):=⟨h.kind,h.mode,Hy h.todo,Mo h.defers⟩
theorem FrP.pre{U:List Item}{fr:Frame}(h:FrP NG P (xt U fr)):FrP NG P fr:=⟨h.kind,h.mode,λi hi=>h.todo i (List.mem_append_left _ hi),h.defers⟩
theorem wS{cs' l1 l2:List Frame}(h:l1++cs'=l2++cs'):l1=l2:=List.append_cancel_right h
theorem aK1{cs' l:List Frame}{c:Frame}{l2:List Frame}(h:cs'=c::l2):l2≠l++cs':=λe=>by
 have h1:=congrArg List.length h;have h2:=congrArg List.length e;simp only[XH,XI]at h1 h2;omega
theorem Ex.gsw{r:Option Code}{cs cs':List Frame}{fr:Frame}{cI:List Frame}{g g' ga:Z7}(R:GR NG Q P f cs cs' fr cI g g')(ep:∀c∈cs',c.mode=.run)(u':Ex r cs' g' ga)
  (dU:¬∃rc b0,r=some rc/\b0.todo=[]/\b0.mode=.run/\g'=cy (xt (cU .skip) b0) cs') (m:Bool) (w:W'):gsW (stepG P m g' w)=gsW (stepG P m ga w):=by
 have ok:=R.ok.frp (f:=f);have eg:=R.g'
 have bR:∀c∈cI.map (rF f),c.mode=.run:=λc hc=>by
  obtain⟨d,J,rfl⟩:=X6.1 hc;exact R.run d J
 cases u' with
 | same h e=>rw[e]
 | top rc c b0 h hs Y e e'=>
  rw[e]at eg;obtain⟨e1,e2⟩:xt (cU c) b0=rF f fr/\cs'=cI.map (rF f)++cs':=by simpa [cy] using eg
  rw[<-e1]at ok;rw[e,e'];by_cases ht:b0.mode=.run/\b0.todo=[]
  ·obtain⟨hm,ht⟩:=ht
   cases c with
   | seq a b=>
    have e3:∀J',stepG P m (cy { b0 with todo:=.code (.seq a b)::J' } cs') w=stepG P m (cy { b0 with todo:=.code (.seq a b)::J' } cs') w:=λ_=>rfl;simp only[xt,ht,cU,mr,spin,Yt,cy,stepG,stepG.exec,hm,gsW]
   | skip=>exact absurd ⟨rc,b0,h,ht,hm,e⟩ dU
   | _=>exact hs.elim
  ·exact C2 ep ep (AV c) (AW rc c) ok.pre.todo ok.pre.mode ok.pre.defers (λhm=>.inl λh=>ht ⟨hm,h⟩)
 | low rc c b0 gq l h hs Y e e'=>
  rw[e]at eg;obtain⟨e1,e2⟩:gq=rF f fr/\l++xt (cU c) b0::cs'=cI.map (rF f)++cs':=by simpa [cy] using eg
  have e3:l++[xt (cU c) b0]=cI.map (rF f):=wS (cs':=cs') (by simpa using e2);have hl:∀x∈l++[xt (cU c) b0],x.mode=.run:=by rw[e3];exact bR
  have h1:∀x∈l++xt (cU c) b0::cs',x.mode=.run:=λx hx=>by
   rw[show l++xt (cU c) b0::cs'=(l++[xt (cU c) b0])++cs' by simp]at hx;exact(YV.1 hx).elim (hl x) (ep x)
  have h2:∀x∈l++xt (mr rc c) b0::cs',x.mode=.run:=λx hx=>by
   rcases YV.1 hx with hx|hx
   ·exact hl x (List.mem_append_left _ hx)
   ·rcases Xy.1 hx with rfl|hx
    ·exact hl (xt (cU c) b0) (by simp)
    ·exact ep x hx
  rw[e,e'];subst e1;have:=C2 (P:=P) (NG:=NG) (U:=[]) (U':=[]) h1 h2 Dp Dp ok.todo ok.mode ok.defers (λ_=>.inr ⟨rfl,rfl⟩) (m:=m) (w:=w);rwa [jr]at this
theorem Ex.step{r:Option Code}{cs cs':List Frame}{fr gq:Frame}{cI nh:List Frame}{g g' g1 xB ga:Z7}(R:GR NG Q P f cs cs' fr cI g g')(R1:GR NG Q P f cs cs' gq nh g1 xB)(ep:∀c∈cs',c.mode=.run)(u':Ex r cs' g' ga)
  (dU:¬∃rc b0,r=some rc/\b0.todo=[]/\b0.mode=.run/\g'=cy (xt (cU .skip) b0) cs') (nf:¬(cI=[]/\fr.mode=.returning/\fr.defers=[])) {m:Bool} {w w1:W'} {es:Array ϊ} (h:stepG P m g' w=.go xB w1 es) :
  ∃W6,stepG P m ga w=.go W6 w1 es/\Ex r cs' xB W6:=by
 have ok:=R.ok.frp (f:=f);have hg:=R1.okG;have eg:=R.g';have Tv:=R1.g'
 have bR:∀c∈cI.map (rF f),c.mode=.run:=λc hc=>by
  obtain⟨d,J,rfl⟩:=X6.1 hc;exact R.run d J
 cases u' with
 | same Y e=>exact⟨xB,by rw[e];exact h,.same Y E⟩
 | top rc c b0 Y hs jD e e'=>
  rw[e]at eg;obtain⟨e1,e2⟩:xt (cU c) b0=rF f fr/\cs'=cI.map (rF f)++cs':=by simpa [cy] using eg
  have efs:cI=[]:=by
   have:=congrArg List.length e2;simp only[XI,Xo]at this;exact YQ.1 (by omega)
  rw[<-e1]at ok;rw[e]at h;rw[e'];by_cases ht:b0.mode=.run/\b0.todo=[]
  ·obtain⟨hm,ht⟩:=ht
   cases c with
   | seq a b=>
    simp only[xt,ht,cU,mr,spin,Yt,cy,stepG,stepG.exec,hm]at h ⊢
    cases h
    exact⟨_,rfl,.top rc b { b0 with todo:=[.code a] } Y hs jD (by simp[xt,cU,hm]) (by simp[xt,mr,hm])⟩
   | skip=>exact absurd ⟨rc,b0,Y,ht,hm,e⟩ dU
   | _=>exact hs.elim
  ·rcases xU (P:=P) (NG:=NG) (m:=m) (w:=w) ep ep (AV c) (AW rc c) ok.pre.todo ok.pre.mode ok.pre.kind ok.pre.defers (λhm=>.inl λh=>ht ⟨hm,h⟩) h hg (λ_ b hb=>by rw[jD]at hb;cases hb)
    (λhm J=>absurd ⟨efs,by rw[show fr.mode=(rF f fr).mode from rfl,<-e1];exact hm,by
     have:(rF f fr).defers=[]:=by rw[<-e1];exact J
     simpa [rF] using this⟩ nf) with ⟨rZ,k1,k2⟩|⟨Ri,rZ,k1,k2⟩|⟨v,cc,l,k0,k1,k2⟩
   ·refine⟨_,k2,.top rc c rZ Y hs ?_ k1 E⟩
    have:(rF f gq).roundOf=none/\nh=[]:=by
     rw[k1]at Tv;obtain⟨q1,q2⟩:xt (cU c) rZ=rF f gq/\cs'=nh.map (rF f)++cs':=by simpa [cy] using Tv
     have q3:nh=[]:=by
      have:=congrArg List.length q2;simp only[XI,Xo]at this;exact YQ.1 (by omega)
     exact⟨by simp[rF,R1.base q3],q3⟩
    rw[k1]at Tv;obtain⟨q1,_⟩:xt (cU c) rZ=rF f gq/\cs'=nh.map (rF f)++cs':=by simpa [cy] using Tv
    rw[<-q1]at this;exact this.1
   ·refine⟨_,k2,.low rc c rZ Ri [] Y hs ?_ k1 E⟩
    rw[k1]at Tv;obtain⟨q1,q2⟩:Ri=rF f gq/\xt (cU c) rZ::cs'=nh.map (rF f)++cs':=by simpa [cy] using Tv
    have q3:[xt (cU c) rZ]=nh.map (rF f):=wS (cs':=cs') (by simpa using q2)
    cases nh with
    | nil=>cases q3
    | cons x l=>
     cases l with
     | cons y l=>simp at q3
     | nil=>
      have:=R1.eK x E;simp only[Yd,Zq,ZK,ZD]at q3;have e5:(xt (cU c) rZ).roundOf=(rF f x).roundOf:=by rw[q3]
      rw[show rZ.roundOf=(xt (cU c) rZ).roundOf from rfl,e5];simp[rF,this]
   ·exfalso
    rw[k1]at Tv;obtain⟨_,q2⟩:cc.finish v=rF f gq/\l=nh.map (rF f)++cs':=by simpa [cy] using Tv
    exact aK1 k0 q2
 | low rc c b0 Sx l Y hs jD e e'=>
  rw[e]at eg;obtain⟨e1,e2⟩:Sx=rF f fr/\l++xt (cU c) b0::cs'=cI.map (rF f)++cs':=by simpa [cy] using eg
  have e3:l++[xt (cU c) b0]=cI.map (rF f):=wS (cs':=cs') (by simpa using e2);have hl:∀x∈l++[xt (cU c) b0],x.mode=.run:=by rw[e3];exact bR
  have h1:∀x∈l++xt (cU c) b0::cs',x.mode=.run:=λx hx=>by
   rw[show l++xt (cU c) b0::cs'=(l++[xt (cU c) b0])++cs' by simp]at hx;exact(YV.1 hx).elim (hl x) (ep x)
  have h2:∀x∈l++xt (mr rc c) b0::cs',x.mode=.run:=λx hx=>by
   rcases YV.1 hx with hx|hx
   ·exact hl x (List.mem_append_left _ hx)
   ·rcases Xy.1 hx with rfl|hx
    ·exact hl (xt (cU c) b0) (by simp)
    ·exact ep x hx
  have n1:l++xt (cU c) b0::cs'≠[]:=by simp
  have n2:l++xt (mr rc c) b0::cs'≠[]:=by simp
  rw[e]at h;rw[e'];subst e1;have:=xU (P:=P) (NG:=NG) (U:=[]) (U':=[]) (fr:=rF f fr) (m:=m) (w:=w) h1 h2 Dp Dp ok.todo ok.mode ok.kind ok.defers (λ_=>.inr ⟨rfl,rfl⟩) (by rw[jr];exact h) hg (λ_ _ _=>⟨n1,n2⟩) (λ_ _=>⟨n1,n2⟩);simp only[jr]at this;rcases this with ⟨rZ,k1,k2⟩|⟨Ri,rZ,k1,k2⟩|⟨v,cc,l2,k0,k1,k2⟩
  ·rw[jr]at k1 k2;exact⟨_,k2,.low rc c b0 rZ l Y hs jD k1 E⟩
  ·rw[jr]at k1 k2;exact⟨_,k2,.low rc c b0 Ri (rZ::l) Y hs jD k1 E⟩
  ·cases l with
   | nil=>
    simp only[Yt,ZK]at k0;obtain⟨rfl,rfl⟩:=k0;refine⟨_,k2 _ _ E,.top rc c (b0.finish v) Y hs (by rw[wz];exact jD) (by rw[k1,gF (AV c)]) (by rw[gF (AW rc c)])⟩
   | cons x l=>
    simp only[ZT,ZK]at k0;obtain⟨rfl,rfl⟩:=k0;exact⟨_,k2 _ _ E,.low rc c b0 _ l Y hs jD k1 E⟩
theorem Sn(a:Addr):rA id a=a:=rfl
theorem Us(x:Fn):rFn id x=x:=by cases x<;>rfl
theorem LQ{α:Type}{g:α->α}(h:∀a,g a=a)(o:Option α):o.map g=o:=by cases o<;>simp[h]
theorem jK{α:Type}{g:α->α}{c:Array α}(h:∀x∈c,g x=x):c.map g=c:=by
 have:=Zk (f:=g) (g:=id) h;rw[this,Array.map_id]
theorem vf(v:Z3):rV id v=v:=by
 refine rV.induct (motive:=λv=>rV id v=v) (λa=>?_) (λa l c=>?_) (λr=>?_) (λr=>?_) (λfn f c h1 h2=>?_) (λt v h=>?_) (λc h=>?_) (λc h=>?_) (λv h1 h2 h3 h4 h5 h6 h7 h8=>?_) v
 ·rw[aM,LQ Sn]
 ·rw[aW,LQ Sn]
 ·rw[cq];cases r<;>rfl
 ·rw[bM];cases r<;>rfl
 ·rw[bK,Us,jK h1,jK h2]
 ·rw[bq,h]
 ·rw[cg,jK h]
 ·rw[bl,jK h]
 ·cases v<;>first|(rw[rV]<;>assumption)|skip
  ·exact(h1 _ E).elim
  ·exact(h2 _ _ _ E).elim
  ·exact(h3 _ E).elim
  ·exact(h4 _ E).elim
  ·exact(h5 _ _ _ E).elim
  ·exact(h6 _ _ E).elim
  ·exact(h7 _ E).elim
  ·exact(h8 _ E).elim
theorem ad4(i:Item):rI id i=i:=by cases i<;>rfl
theorem ad1{d:Deferred}(h:lA d):rM id d=d:=by obtain⟨m,rfl⟩:=h;rfl
theorem HJ{α:Type}{g:α->α}{l:List α}(h:∀x∈l,g x=x):l.map g=l:=by
 have:=Y5 (f:=g) (g:=id) h;rw[this,List.map_id]
theorem Li{fr:Frame}(h:∀d∈fr.defers,lA d):rF id fr=fr:=by
 unfold rF;rw[jK λx _=>vf x,HJ λx _=>ad4 x,HJ λd J=>ad1 (h d J)]
 cases fr with|mk a b c d e g r=>cases r<;>rfl
theorem ad2(l:Loop):rL id l=l:=by
 unfold rL;rw[jK λx _=>vf x];rfl
theorem af0{K:Kc}{o o':Obj}(h:OR K id o o')(hz:zs o o'):o'=o:=by
 cases h with
 | cells c e z z' h=>
  rw[jK λx _=>vf x]at hz ⊢;rw[hz _ _ _ _ _ _ E E]
 | loop l h hp=>rw[ad2]
 | number a b=>rfl
 | aN8=>rfl
 | defn=>rfl
 | map es c=>rw[jK λx _=>by simp only[rE,vf]]
open Classical in
noncomputable def mskO(K:Kc)(M:Nat)(X:Nat->Prop)(b:Nat)(o:Obj):Obj:=
 if X b then cu else if b<M then (match o with|.cells c e _=>.cells c e (0,c.size)|_=>cu) else if OR K id o o then o else cu
noncomputable def lw(K:Kc)(M:Nat)(X:Nat->Prop)(tp:Nat->Question->Nat)(w:W'):W':={ w with heap:=w.heap.mapIdx (mskO K M X),tape:=tp,drawn:=0 }
end
section
variable{K:Kc}{M:Nat}{X:Nat->Prop}{tp:Nat->Question->Nat}{w:W'}
theorem nW(b:Nat):(lw K M X tp w).heap[b]?=(w.heap[b]?).map (mskO K M X b):=by simp[lw]
theorem qy:(lw K M X tp w).heap.size=w.heap.size:=by simp[lw]
theorem ah5(h:M<=w.heap.size):FR M M id (lw K M X tp w):=by
 refine⟨λ_ _=>rfl,λb h=>h,λb hb=>?_⟩;have:b<w.heap.size:=by omega
 rw[nW,X4 this,XB];unfold mskO;rw[Xu hb]
 split
 ·exact .inl E
 ·split
  ·exact .inr ⟨_,_,rfl⟩
  ·exact .inl E
theorem Mf{b:Nat}{o:Obj}(h:mskO K M X b o≠cu):OR K id (mskO K M X b o) o/\(M<=b->mskO K M X b o=o):=by
 unfold mskO at h ⊢
 split at h
 ·exact absurd E h
 ·rename_i hx
  rw[Xr hx]
  split at h
  ·rename_i hb
   rw[Xu hb]
   cases o<;>first|exact absurd E h|skip
   rename_i c e z;refine⟨?_,λhm=>by omega⟩;have:=OR.cells (K:=K) (f:=id) c e (0,c.size) z λo h1 _ _=>⟨XC _,h1⟩;rwa [jK λx _=>vf x]at this
  ·rename_i hb
   rw[Xr hb]
   split at h
   ·rename_i ho;rw[Xu ho];exact⟨ho,λ_=>rfl⟩
   ·exact absurd E h
theorem ah4(h:M<=w.heap.size):WR K M id (lw K M X tp w) (lw K M X tp w) w:=by
 refine⟨λb o hb=>?_,λb c o o' _ _ _ _ e=>e,λb _=>rfl,by rw[qy];exact h,λb h=>h,λb o o' hm h1 h2 J=>?_⟩
 ·rw[nW]at hb
  cases hw:w.heap[b]? with
  | none=>rw[hw]at hb;cases hb
  | some o'=>
   rw[hw]at hb
   cases hb
   rcases Zd (mskO K M X b o'=cu) with J|J
   ·exact .inl J
   ·exact .inr ⟨o',hw,(Mf J).1⟩
 ·rw[nW,show w.heap[b]?=some o' from h2]at h1
  cases h1
  intro c e z c' e' z' k1 k2;rw[(Mf J).2 hm,k2]at k1
  cases k1;rfl
theorem LP(K:Kc)(c:Array Z3)(e:Z5)(z:Nat × Nat):OR K id (.cells c e z) (.cells c e z):=by
 have:=OR.cells (K:=K) (f:=id) c e z z λo _ h1 h2=>⟨h1,h2⟩;rwa [jK λx _=>vf x]at this
theorem Mp{b:Nat}{c:Array Z3}{e:Z5}{z:Nat × Nat}(hx:¬X b)(hm:M<=b)(h:w.heap[b]?=some (.cells c e z)):(lw K M X tp w).heap[b]?=some (.cells c e z):=by
 rw[nW,h,XB];unfold mskO;rw[Xr hx,Xr (by omega),Xu (LP K c e z)]
theorem HE{a:Addr}{v:Z3}(hx:¬X a.block)(h:w.cell? a=some v):(lw K M X tp w).cell? a=some v:=by
 have⟨c,e,z,h1,h2,h3⟩:=cellsOf? h;rcases XP a.block M with hm|hm
 ·have : (lw K M X tp w).heap[a.block]? = some (.cells c e (0, c.size)) := by
   rw[nW,h1,XB];unfold mskO;rw[Xr hx,Xu hm]
  unfold World.cell?;simp[this,h2,h3]
 ·have:=Mp (K:=K) (M:=M) (X:=X) (tp:=tp) hx hm h1
  unfold World.cell?;simp[this,h2,h3]
theorem QB{b:Nat}(hx:X b)(h:b<w.heap.size):(lw K M X tp w).heap[b]?=some cu:=by
 rw[nW,X4 h,XB];unfold mskO;rw[Xu hx]
theorem WR.at'{K:Kc}{M:Nat}{f:Re}{W0 w w':W'}(H:WR K M f W0 w w')(d:Nat):WR K M f W0 w (w'.at d):=⟨H.blk,H.inj,H.low,H.size,H.dd,H.zz⟩
theorem as7{P:Z4}{m0:Z9}{n k:Nat}{w:W'}(hk:(pk P (rs P m0 n)).1=k)(ht:(rs P m0 n).world.tape=m0.world.tape)(h1:w.drawn=dc P m0 k n)(h3:w.tape=tk P m0 k)(i:Nat)(q:Question)(hi:(wd P (rs P m0 n)).drawn+i<(gsW (sg P (rs P m0 n))).drawn) :
  w.tape (w.drawn+i) q=(wd P (rs P m0 n)).tape ((wd P (rs P m0 n)).drawn+i) q:=by
 rw[h3,h1];unfold tk
 have:i<(λm=>(gsW (sg P m)).drawn - (pk P m).2.1) (rs P m0 n):=by
  have:(wd P (rs P m0 n)).drawn=(pk P (rs P m0 n)).2.1:=rfl;simp only;omega
 rw[zT (v:=λm i=>m0.world.tape ((pk P m).2.1+i) q) (d:=0) hk this];show m0.world.tape _ q=(rs P m0 n).world.tape _ q
 rw[ht];rfl
theorem uj{P:Z4}{m0 m:Z9}{t0:Z'}{n:Nat}{ops:Array MemOp}(Y:runNT P n m0 t0=(.next (rs P m0 n),tr P m0 t0 n))(h:stepT P (rs P m0 n)=(.next m,ops)) :
  rs P m0 (n+1)=m/\tr P m0 t0 (n+1)=tr P m0 t0 n++ops/\runNT P (n+1) m0 t0=(.next (rs P m0 (n+1)),tr P m0 t0 (n+1)):=by
 have e1:rs P m0 (n+1)=m:=by simp only[rs,h]
 have e2:tr P m0 t0 (n+1)=tr P m0 t0 n++ops:=by simp only[tr,h]
 refine⟨e1,e2,?_⟩;rw[runNT_add,Y,e1,e2];simp only[runNT,h]
theorem VF{M:Nat}{X:Nat->Prop}{Shun:Loc->Prop}{W0:W'}{L N:Nat}(hX:∀b,X b->W0.heap[b]?=some cu)(hS:∀l,Shun l->(∃a,l=.cell a/\X a.block)\/∃b,l=.obj b/\X b)(hM:M<=N){e:ϊ}(h:xN M id W0 L N e):EvL Shun N e:=by
 cases h with
 | low a v h hc=>
  refine⟨λx hx hs=>?_,by simp,by simp,show a.block<N by omega⟩;simp only[MemAct.ofEvent,MemAct.touch?,XS]at hx;subst hx;rcases hS _ hs with ⟨a',e,hx⟩|⟨b,e,_⟩
  ·cases e
   have⟨c,e,z,q,_⟩:=cellsOf? hc;rw[hX _ hx]at q;cases q
  ·cases e
 | own a wr b hb hl hn J e=>
  refine⟨λx hx hs=>?_,by simp,by simp,?_⟩
  ·have sK:x.loc=.cell a:=by cases wr<;>simp[MemAct.ofEvent,MemAct.touch?]at hx<;>subst hx<;>rfl
   rw[sK]at hs;rcases hS _ hs with ⟨a',e',hxx⟩|⟨b,e,_⟩
   ·cases e'
    rw[e]at hxx;exact absurd (hX _ hxx) J
   ·cases e
  ·cases wr<;>exact(show a.block<N by rw[e];exact hn)
 | obj b wr hb hl hn J=>
  refine⟨λx hx hs=>?_,by simp,by simp,?_⟩
  ·have sK:x.loc=.obj b:=by cases wr<;>simp[MemAct.ofEvent,MemAct.touch?]at hx<;>subst hx<;>rfl
   rw[sK]at hs;rcases hS _ hs with ⟨a',e',_⟩|⟨b',e,hxx⟩
   ·cases e'
   ·cases e
    exact absurd (hX _ hxx) J
  ·cases wr<;>exact(show b<N from hn)
 | room m hm=>cases m<;>first|(simp[idleM]at hm;done)|exact⟨λx hx=>by simp[MemAct.ofEvent,MemAct.touch?]at hx,by simp,by simp,trivial⟩
theorem Ex.running{r:Option Code}{cs':List Frame}{g' ga:Z7}(u':Ex r cs' g' ga)(h:g'.status=.running):ga.status=.running:=by
 cases u' with
 | same _ e=>rw[e];exact h
 | top rc c b0 h hs Y e e'=>rw[e']
 | low rc c b0 fr l h hs Y e e'=>rw[e']
def Seen(t:Z')(B:Nat):Prop:=∀op∈t,∀x,op.act.touch?=some x->x.loc.low B
theorem Seen.app{t u:Z'}{B B':Nat}(h:Seen t B)(hB:B<=B')(hu:Seen u B'):Seen (t++u) B':=λop cF x hx=>(YG.1 cF).elim (λho=>Loc.low_mono hB (h op ho x hx)) (λho=>hu op ho x hx)
theorem ui{t:Z'}{B i:Nat}{a:Touch}(h:Seen t B)(ha:touchAt t i=some a):a.loc.low B:=by
 have⟨x,hx,hxa⟩:=touch_of ha;exact h x (Ym hx) a hxa
theorem sd{a:MemAct}{B:Nat}{x:Touch}(h:a.low B)(hx:a.touch?=some x):x.loc.low B:=by
 cases a with
 | access e=>simp only[MemAct.touch?,XS]at hx;subst hx;exact h
 | mark m=>cases m<;>simp only[MemAct.touch?,XS,reduceCtorEq]at hx<;>(subst hx;exact h)
 | _=>simp[MemAct.touch?]at hx
structure Gd(s:Nat)(Sh:Loc->Prop)(t:Z')(B:Nat):Prop where
 kn:∀i a,touchAt t i=some a->Knows t 0 i\/(Sh a.loc/\a.kind=.atomic)
 quiet:Quiet Sh t
 gs:∀op∈t,op.g<s
 seen:Seen t B
theorem Gd.mono{s s':Nat}{Sh:Loc->Prop}{t:Z'}{B B':Nat}(h:Gd s Sh t B)(hs:s<=s')(hB:B<=B'):Gd s' Sh t B':=⟨h.kn,h.quiet,λop cF=>XD (h.gs op cF) hs,λop cF x hx=>Loc.low_mono hB (h.seen op cF x hx)⟩
theorem Gd.app{s:Nat}{Sh:Loc->Prop}{t u:Z'}{B B':Nat}(h:Gd s Sh t B)(hB:B<=B')(hu:∀op∈u,op.g<s/\(op.act.touch?=none\/(op.g=0/\∀x,op.act.touch?=some x->(Sh x.loc->x.kind≠.plain)/\x.loc.low B'))):Gd s Sh (t++u) B':=by
 refine⟨λi a ha=>?_,h.quiet.app λop cF x hx hs=>?_,λop cF=>(YG.1 cF).elim (h.gs op) λho=>(hu op ho).1,h.seen.app hB λop cF x hx=>?_⟩
 ·have⟨x,hx,hxa⟩:=touch_of ha
  rcases getElem?_append_cases hx with ⟨_,sK⟩|⟨_,hxu⟩
  ·exact(h.kn i a (by rw[touchAt_of sK];exact hxa)).imp (λh=>h.app u) id
  ·rcases(hu x hxu).2 with h1|⟨h1,_⟩
   ·rw[h1]at hxa;cases hxa
   ·have:=knows_own hx
    rw[h1]at this;exact .inl this
 ·rcases(hu op cF).2 with h1|⟨h1,h2⟩
  ·rw[h1]at hx;cases hx
  ·exact⟨(h2 x hx).1 hs,λ_=>h1⟩
 ·rcases(hu op cF).2 with h1|⟨h1,h2⟩
  ·rw[h1]at hx;cases hx
  ·exact(h2 x hx).2
theorem aY4{Sh:Loc->Prop}{B:Nat}:Gd 1 Sh #[] B:=⟨λi a h=>(by have⟨x,hx,_⟩:=touch_of h;simp at hx),λi op x h=>(by simp at h),λop h=>(by simp at h),λop h=>(by simp at h)⟩
def aP5(M:Nat)(W0 w0:W')(b:Nat):Prop:=b<M\/(W0.heap[b]?=some cu/\∀k e z,w0.heap[b]?≠some (.cells k e z))
end
section
variable(P Q:Z4)(NG M:Nat)(W0:W')(Be:Z9)(N:Nat)(cB:Frame)(wE:W')(r:Option Code)(cs':List Frame)(s0:Nat)(Shun:Loc->Prop)(B:Nat)(m0:Z9)(t0:Z')
def RS(n μ:Nat):Prop:=∃(gs:Array Z7) (ga:Z7) (w':W') (sl:Option (Nat × Nat)) (q:Nat->Nat) (j:Nat) (fr:Frame) (cI:List Frame) (w:W') (g':Z7),
 rs P m0 n=crowd gs w' sl/\runNT P n m0 t0=(.next (rs P m0 n),tr P m0 t0 n)/\gs.size=s0/\gs[0]?=some ga/\Leavers P (tr P m0 t0 n) gs q/\Past Shun (max B w'.heap.size) (tr P m0 t0 n)/\
 OL NG M Q P id W0 Be cs' j fr cI w g' w'/\Ex r cs' g' ga/\j<=N/\w.drawn=dc P m0 0 n/\w.heap.size=w'.heap.size/\w.tape=tk P m0 0/\
 (w'.tape=m0.world.tape/\w'.os=m0.world.os/\w'.output=m0.world.output/\∀b,aP5 M W0 m0.world b->w'.heap[b]?=m0.world.heap[b]?)/\Gd s0 Shun (tr P m0 t0 n) w'.heap.size/\μ=(N - j)+sumTo gs.size q
structure JS(w':W'):Prop where
 wr:WR (KO NG P) M id W0 wE w'
 size:wE.heap.size=w'.heap.size
 tape:w'.tape=m0.world.tape
 os:w'.os=m0.world.os
 output:w'.output=m0.world.output
 low:∀b,aP5 M W0 m0.world b->w'.heap[b]?=m0.world.heap[b]?
def at0:Prop:=∃(n:Nat) (gs:Array Z7) (w':W') (sl:Option (Nat × Nat)) (q:Nat->Nat) (t':Z') (T:List Item),
 runNT P n m0 t0=(.next (crowd gs w' sl),t')/\gs.size=s0/\gs[0]?=some (cy { cB with todo:=T } cs')/\Leavers P t' gs q/\Past Shun (max B w'.heap.size) t'/\(r=none->T=cB.todo)/\(∀rc,r=some rc->cB.mode=.run->T=[.code rc])/\JS P NG M W0 wE m0 w'/\mu NG Q P cB/\Gd s0 Shun t' w'.heap.size
end
section
variable{P Q:Z4}{NG M:Nat}{W0:W'}{Be:Z9}{N:Nat}{cB:Frame}{wE:W'}{r:Option Code}{cs':List Frame}{s0:Nat}{Shun:Loc->Prop}{B:Nat}{m0:Z9}{t0:Z'}{X:Nat->Prop}
theorem mR{a b:Frame}{l k:List Frame}(h:cy a l=cy b k):a=b/\l=k:=by simpa [cy] using h
theorem KC{l cs:List Frame}(h:cs=l++cs):l=[]:=by
 have:=congrArg List.length h;simp only[XI]at this;exact YQ.1 (by omega)
theorem K6(L:Lone Q N Be cB wE)(hE:r≠none->cB.mode=.run->cB.todo=[.code (.exit 0)]){j:Nat}{fr:Frame}{cI:List Frame}{w w':W'}{g' ga:Z7}(S:OL NG M Q P id W0 Be cs' j fr cI w g' w')(hj:j<=N)(u':Ex r cs' g' ga)
  (dU:∃rc b0,r=some rc/\b0.todo=[]/\b0.mode=.run/\g'=cy (xt (cU .skip) b0) cs'):∃rc,r=some rc/\ga=cy { cB with todo:=[.code rc] } cs'/\w=wE/\mu NG Q P cB:=by
 have⟨rc,b0,Y,ht,hm,eg⟩:=dU;have eg':=S.gr.g';rw[eg]at eg';have⟨e1,e2⟩:=mR eg';have e3:cI=[]:=by simpa using KC e2
 subst e3;have e4:xt (cU .skip) b0=fr:=e1.trans (Li S.gr.ok.defers);subst e4
 have st:stepG Q true { frame:=xt (cU .skip) b0,callers:=[di Q],status:=.running,dying:=none } w=.go { frame:={ b0 with todo:=[.code (.exit 0)] },callers:=[di Q],status:=.running,dying:=none } w:=by
  simp[stepG,stepG.exec,xt,cU,hm,ht]
 have jD:b0.roundOf=none:=S.gr.base E
 have st2:∃o w1,Go.step Q (lone { b0 with todo:=[.code (.exit 0)] } [di Q] w)=.ended o w1:=by
  have:∃o,stepG Q true { frame:={ b0 with todo:=[.code (.exit 0)] },callers:=[di Q],status:=.running,dying:=none } w=.ended o w #[]:=⟨_,by simp only[stepG,stepG.exec,hm,jD,exitTo,Zs];rfl⟩;have⟨o,h⟩:=this;exact dH.1 _ _ _ h
 have h1:=dH.2 _ _ _ _ st;have atj:=S.at_;simp only[Yt]at atj;have hE':=hE (by rw[Y];simp);rcases XP j N with bH|pV
 ·have⟨m1,k1,k2,k3⟩:=nT atj L.run bH
  rw[h1]at k1
  cases k1
  have hN:N=j+1:=by
   rcases XP (j+1) N with h|h
   ·have⟨m2,k4,_⟩:=nT k2 L.run h
    obtain⟨o,w1,h⟩:=st2;rw[h]at k4;cases k4
   ·omega
  subst hN;rw[L.run]at k2;have⟨q1,_,q2⟩:=m5 (Stepped.next.inj k2);refine⟨rc,Y,?_,q2.symm,?_⟩
  ·cases u' with
   | same h e=>rw[Y]at h;cases h
   | top rc' c b1 h hs SG e e'=>
    rw[Y]at h
    cases h
    rw[eg]at e;have⟨e5,_⟩:=mR e
    have e6:[Item.code .skip,.code (.exit 0)]=b1.todo++[.code c,.code (.exit 0)]:=by
     have:=congrArg Frame.todo e5;simpa [xt,cU,ht] using this
    have e7:b1.todo=[]:=by
     have:=congrArg List.length e6;simp only[XI,XH,XL]at this;exact YQ.1 (by omega)
    rw[e7]at e6;simp only[Yt,ZK,Item.code.injEq,ZD]at e6;subst e6
    have e8:b1=b0:=by
     cases b0
     cases b1
     simp only[xt,Frame.mk.injEq]at e5 ht e7 ⊢;exact⟨e5.1.symm,e5.2.1.symm,e7.trans ht.symm,e5.2.2.2.1.symm,e5.2.2.2.2.1.symm,e5.2.2.2.2.2.1.symm,e5.2.2.2.2.2.2.symm⟩
    subst e8;rw[e',q1];simp[xt,mr,spin,ht]
   | low rc' c b1 gq l h hs SG e e'=>
    rw[eg]at e;have⟨_,e5⟩:=mR e;have:=KC (l:=l++[xt (cU c) b1]) (cs:=cs') (by simpa using e5);simp at this
  ·rw[q1]
   have ok:=S.gr.ok;refine⟨ok.kind,ok.mode,λi hi=>?_,ok.defers,ok.fn⟩;simp only[Xy,XG,Yn]at hi;subst hi;rfl
 ·exfalso
  obtain rfl:j=N:=by omega
  rw[L.run]at atj;have⟨q1,_,q2⟩:=m5 (Stepped.next.inj atj);have:=hE' (by rw[q1];exact hm);rw[q1]at this;simp[xt,cU,ht]at this
theorem K7(H:Fk Q P (KO NG P) id)(F:FR M M id W0)(hNM:NG≠0->M=0)(hMs:M<=W0.heap.size)(hX:∀b,X b->W0.heap[b]?=some cu)(hS:∀l,Shun l->(∃a,l=.cell a/\X a.block)\/∃b,l=.obj b/\X b)(ep:∀c∈cs',c.mode=.run)
  (L:Lone Q N Be cB wE) (hE:r≠none->cB.mode=.run->cB.todo=[.code (.exit 0)]) {n μ:Nat} (h:RS P Q NG M W0 Be N r cs' s0 Shun B m0 t0 n μ) :
  at0 P Q NG M W0 cB wE r cs' s0 Shun B m0 t0\/∃JY,JY<μ/\RS P Q NG M W0 Be N r cs' s0 Shun B m0 t0 (n+1) JY:=by
 obtain⟨gs,ga,w',sl,q,j,fr,cI,w,g',qH,bR,eQ,h0,hL,hP,S,u',hj,J,hh,htp,hk,iR,hμ⟩:=h;have⟨kt,ko,ku,kl⟩:=hk;by_cases dU:∃rc b0,r=some rc/\b0.todo=[]/\b0.mode=.run/\g'=cy (xt (cU .skip) b0) cs'
 ·obtain⟨rc,Y,rfl,rfl,ok⟩:=K6 L hE S hj u' dU
  exact .inl ⟨n,gs,w',sl,q,_,_,by rw[bR,qH],eQ,h0,hL,hP,(λh=>by rw[Y]at h;cases h),(λrc' h _=>by rw[Y]at h;cases h;rfl),⟨S.wr,hh,kt,ko,ku,kl⟩,ok,iR⟩
 have aC5:g'.status=.running:=by rw[S.gr.g']
 have Nr:=u'.running aC5
 have haw:∀g∈gs,awake g:=by
  intro g hg;obtain⟨i,hi,rfl⟩:=Array.mem_iff_getElem.1 hg;rcases Zc i with rfl|vL
  ·have:gs[0]=ga:=by simpa [X4 hi] using h0
   rw[this];exact awake_of (.inl Nr)
  ·exact awake_of ((hL.old i _ vL (X4 hi)).status.elim .inl λx=>.inr (.inr x))
 have MR:∃x,OM P (rs P m0 n) x:=by
  obtain⟨i,g,d,sl',hi,hg,dU⟩:=crowd_pick (P:=P) (w:=w') (sl:=sl) haw ⟨0,ga,h0,Nr⟩;rw[qH];exact⟨(i,d,sl'),g,hi,hg,dU⟩
 have⟨g,hi,hg,At⟩:=Hm MR;have es:sg P (rs P m0 n)=stepG P ((pk P (rs P m0 n)).1==0) g (wd P (rs P m0 n)):=by simp only[sg,hi]
 have VD:wd P (rs P m0 n)=w'.at (pk P (rs P m0 n)).2.1:=by unfold wd;rw[qH];rfl
 rw[VD]at es;rw[show (rs P m0 n).at (pk P (rs P m0 n)).2.1 (pk P (rs P m0 n)).2.2=crowd gs (w'.at (pk P (rs P m0 n)).2.1) (pk P (rs P m0 n)).2.2 by rw[qH];rfl]at At;rw[show (rs P m0 n).gs=gs by rw[qH];rfl]at hi;have ht:(rs P m0 n).world.tape=m0.world.tape:=by rw[qH];exact kt
 generalize uC:pk P (rs P m0 n)=x at *;obtain⟨i,d,sl'⟩:=x;simp only at hi es VD At;have cur:∀c:Z9->Nat,used P m0 0 c (n+1)=used P m0 0 c n+if i=0 then c (rs P m0 n) else 0:=λc=>by simp only[used,uC]
 rcases Zc i with rfl|vL
 ·obtain rfl:g=ga:=by rw[h0]at hi;exact(YT hi).symm
  have S':OL NG M Q P id W0 Be cs' j fr cI w g' (w'.at d):=⟨S.at_,S.gr,S.wr.at' d⟩;have egs:=Ex.gsw S.gr ep u' dU true (w'.at d)
  have al:Al id w (w'.at d) (stepG P true g' (w'.at d)):=by
   unfold Al;rw[egs,show stepG P true g (w'.at d)=sg P (rs P m0 n) from es.symm];refine⟨λi q hi=>?_,λi _=>congrArg (· + i) hh⟩;have:=as7 (k:=0) (by rw[uC]) ht J htp i q (by rw[VD];exact hi);rw[VD]at this;exact this
  rcases OL.next F H L S' hj true (λh=>⟨hNM h,rfl,hh⟩) al with ⟨rfl,rfl,rfl,rfl⟩|⟨bH,xB,dt,es',gq,nh,w1,hgo,S1,fq,pU⟩
  ·have eg:=S.gr.g'
   rw[Li S.gr.ok.defers]at eg
   cases u' with
   | same Y e=>exact .inl ⟨n,gs,w',sl,q,_,fr.todo,by rw[bR,qH],eQ,by rw[h0,e,eg];rfl,hL,hP,(λ_=>rfl),(λrc h _=>by rw[Y]at h;cases h),⟨S.wr,hh,kt,ko,ku,kl⟩,S.gr.ok,iR⟩
   | top rc c b0 Y hs jD e e'=>
    rw[eg]at e;have⟨e1,_⟩:=mR e;refine .inl ⟨n,gs,w',sl,q,_,b0.todo++mr rc c,by rw[bR,qH],eQ,by rw[h0,e',e1];rfl,hL,hP,(λh=>by rw[Y]at h;cases h),(λrc' h hm=>?_),⟨S.wr,hh,kt,ko,ku,kl⟩,S.gr.ok,iR⟩;have:=hE (by rw[Y];simp) hm;rw[e1]at this;have:=congrArg List.length this;simp[xt,cU]at this
   | low rc c b0 gq l Y hs jD e e'=>
    rw[eg]at e;have⟨_,e2⟩:=mR e;have:=KC (l:=l++[xt (cU c) b0]) (cs:=cs') (by simpa using e2);simp at this
  ·have⟨W6,hga,E1⟩:=Ex.step S.gr S1.gr ep u' dU (S.nf L bH) hgo
   have CG:=runT_crowd_go (P:=P) (sl:=sl') (i:=0) hi (show stepG P (0==0) g (w'.at d)=_ from hga);have⟨r1,r2,r3⟩:=uj bR (At.trans CG);have az8:0<gs.size:=(Xz.1 h0).1;have xx:((gs.map (woken P g W6 dt)).setIfInBounds 0 W6).size=gs.size:=by simp
   have aH2:xB.status=.running:=by rw[S1.gr.g']
   have tX:w1.heap.size=dt.heap.size:=by have:=pU.n;have e:(w'.at d).heap.size=w'.heap.size:=rfl;omega
   have Q5:gsW (sg P (rs P m0 n))=dt:=by rw[es];show gsW (stepG P true g (w'.at d))=_;rw[hga];rfl
   have hM1:M<=dt.heap.size:=by have:=S1.wr.size;omega
   have aH8:w'.heap.size<=dt.heap.size:=pU.FA;have bd3:∀L,dt.heap.size<=L->∀e∈es',EvL Shun L e:=λL hL e he=>VF hX hS (by omega) ((fq e he).mono (Xw _) hL);refine .inr ⟨(N - (j+1))+sumTo gs.size q,by omega,_,W6,dt,sl',q,j+1,gq,nh,w1,xB,r1,r3,xx.trans eQ,by simp[az8],?_,?_,S1,E1,by omega,?_,tX,pU.t.trans htp,⟨pU.t'.trans kt,pU.os'.trans ko,pU.ae9.trans ku,λb hb=>?_⟩,by rw[r2];exact iR.app aH8 λop cF=>(by rw[ofEvents_eq]at cF;obtain⟨e,he,rfl⟩:=Array.mem_map.1 cF;have hl:=bd3 _ (Xw _) e he;exact⟨by rw[<-eQ];exact az8,.inr ⟨rfl,λx hx=>⟨hl.1 x hx,sd hl.2.2.2 hx⟩⟩⟩),by rw[xx]⟩
   ·rw[r2]
    refine⟨λk x hk hx=>?_,λk hk=>?_⟩
    ·have eW:0≠k:=by omega
     rw[XE eW,Yl]at hx;obtain⟨y,hy,rfl⟩:=Ye.1 hx;have hq:=hL.old k y hk hy;rw[woken_quitsD hq,Deaf_other _ (g':=0) (by omega) _ ConcR.g_of_ofEvents];exact hq
    ·rw[Deaf_other _ (g':=0) (by rw[xx]at hk;omega) _ ConcR.g_of_ofEvents]
     exact hL.above k (by rw[<-xx];exact hk)
   ·rw[r2]
    exact(hP.mono (B':=max B dt.heap.size) (by omega)).own (bd3 _ (by omega))
   ·show w1.drawn=used P m0 0 _ (n+1)
    rw[cur,Xu E];have e1:=pU.d;have e2:=pU.dle;have e3:(w'.at d).drawn=d:=rfl;rw[Q5,uC];simp only;have:w.drawn=used P m0 0 _ n:=J;omega
   ·rw [pU.cr b (by
      show b<w'.heap.size
      rcases hb with hb|⟨hb,_⟩
      · have:=S.wr.size;omega
      · have:=(Xz.1 (S.wr.dd b hb)).1;omega) λc h1 h2 h3=>by
      simp only[id]at h3;subst h3;have J9:=hb;rcases J9 with bY|⟨bY,hc⟩
      · omega
      · exact⟨S.wr.dd c bY,λk e z h=>hc k e z ((kl c hb).symm.trans h)⟩]
    exact kl b hb
 ·have hq:=hL.old i g vL hi
  have HS:(i==0)=false:=by simp;omega
  have bH:i<gs.size:=(Xz.1 hi).1
  cases hqi:q i with
  | zero=>rw[hqi]at hq;rw[hq.1]at hg;cases hg
  | succ k=>
   rw[hqi]at hq;rcases hq with ⟨hf,_⟩|⟨_,g2,es2,HR,ai4,QU⟩
   ·rw[hf]at hg;cases hg
   have CG:=runT_crowd_go (P:=P) (sl:=sl') (i:=i) hi (by rw[HS];exact ai4 (w'.at d));have⟨r1,r2,r3⟩:=uj bR (At.trans CG);have xx:((gs.map (woken P g g2 (w'.at d))).setIfInBounds i g2).size=gs.size:=by simp
   have aH6:sumTo gs.size (upd q i k)+(k+1)=sumTo gs.size q+k:=by
    have:=sumTo_upd q k id bH;simpa [hqi] using this
   refine .inr ⟨(N - j)+sumTo gs.size (upd q i k),by omega,_,ga,w'.at d,sl',upd q i k,j,fr,cI,w,g',r1,r3,xx.trans eQ,?_,?_,?_,⟨S.at_,S.gr,S.wr.at' d⟩,u',hj,?_,hh,htp,⟨kt,ko,ku,kl⟩,by rw[r2];exact iR.app (Xw _) λop cF=>(by rw[ofEvents_eq]at cF;obtain⟨e,he,rfl⟩:=Array.mem_map.1 cF;exact⟨by rw[<-eQ];exact bH,.inl (touch_mute (HR e he))⟩),by rw[xx]⟩
   ·have eW:i≠0:=by omega
    rw[XE eW,Yl,h0];simp[woken_run Nr]
   ·rw[r2]
    refine⟨λk' x hk hx=>?_,λk' hk=>?_⟩
    ·by_cases hji:i=k'
     ·subst hji
      rw[X9 (by simpa using bH)]at hx;obtain rfl:=YT hx;rw[upd_same,Deaf_own];exact QU
     ·rw[XE hji,Yl]at hx
      obtain⟨y,hy,rfl⟩:=Ye.1 hx;have hqj:=hL.old k' y hk hy;rw[woken_quitsD hqj,upd_ne q k (Ne.symm hji),Deaf_other _ hji _ ConcR.g_of_ofEvents];exact hqj
    ·rw[Deaf_other _ (g':=i) (by rw[xx]at hk;omega) _ ConcR.g_of_ofEvents]
     exact hL.above k' (by rw[<-xx];exact hk)
   ·rw[r2];exact hP.mute (by omega) HR
   ·show w.drawn=used P m0 0 _ (n+1)
    rw[cur,Xr (by omega)];exact J
theorem G7(H:Fk Q P (KO NG P) id){wZ:Array Z7}{w0:W'}{EY:Option (Nat × Nat)}{t0:Z'}{q0:Nat->Nat}{ga0:Z7}{r8:Frame}{Post:Frame->W'->Prop}(hNM:NG≠0->M=0)(hM:M<=w0.heap.size)(hX:∀b,X b->b<w0.heap.size)
  (hS:∀l,Shun l->(∃a,l=.cell a/\X a.block)\/∃b,l=.obj b/\X b) (ep:∀c∈cs',c.mode=.run) (h0:wZ[0]?=some ga0) (hL:Leavers P t0 wZ q0) (hP:Past Shun (max B w0.heap.size) t0) (Og:Gd wZ.size Shun t0 w0.heap.size) (ok:mu NG Q P r8) (jD:r8.roundOf=none) (u':Ex r cs' (cy r8 cs') ga0)
  (hl:∀tp,∃N cB wE,Lone Q N (lone r8 [di Q] (lw (KO NG P) M X tp w0)) cB wE/\(r≠none->cB.mode=.run->cB.todo=[.code (.exit 0)])/\Post cB wE) :
  ∃cB wE n gs w' sl q t' T,Post cB wE/\runNT P n (crowd wZ w0 EY) t0=(.next (crowd gs w' sl),t')/\gs.size=wZ.size/\gs[0]?=some (cy { cB with todo:=T } cs')/\Leavers P t' gs q/\Past Shun (max B w'.heap.size) t'/\(r=none->T=cB.todo)/\(∀rc,r=some rc->cB.mode=.run->T=[.code rc])/\JS P NG M (lw (KO NG P) M X (tk P (crowd wZ w0 EY) 0) w0) wE (crowd wZ w0 EY) w'/\mu NG Q P cB/\Gd wZ.size Shun t' w'.heap.size:=by
 have⟨N,cB,wE,L,hE,yL⟩:=hl (tk P (crowd wZ w0 EY) 0)
 have hI:RS P Q NG M (lw (KO NG P) M X (tk P (crowd wZ w0 EY) 0) w0) (lone r8 [di Q] (lw (KO NG P) M X (tk P (crowd wZ w0 EY) 0) w0)) N r cs' wZ.size Shun B (crowd wZ w0 EY) t0 0 (N - 0+sumTo wZ.size q0):=by
  refine⟨wZ,ga0,w0,EY,q0,0,r8,[],_,cy r8 cs',rfl,rfl,rfl,h0,hL,hP,⟨rfl,⟨rfl,?_,ok,λc hc=>(by cases hc),λc hc=>(by cases hc),λ_=>jD,λc hc=>(by cases hc),λ_=>jD⟩,ah4 hM⟩,u',XC _,rfl,qy,rfl,⟨rfl,rfl,rfl,λ_ _=>rfl⟩,Og,rfl⟩;rw[Li ok.defers];rfl
 have key : ∀ (μ n : Nat), RS P Q NG M (lw (KO NG P) M X (tk P (crowd wZ w0 EY) 0) w0) (lone r8 [di Q] (lw (KO NG P) M X (tk P (crowd wZ w0 EY) 0) w0)) N r cs' wZ.size Shun B (crowd wZ w0 EY) t0 n μ ->
   at0 P Q NG M (lw (KO NG P) M X (tk P (crowd wZ w0 EY) 0) w0) cB wE r cs' wZ.size Shun B (crowd wZ w0 EY) t0:=by
  intro μ
  induction μ using Nat.strongRecOn with
  | _ μ ih=>
   intro n h;rcases K7 (X:=X) H (ah5 hM) hNM (by rw[qy];exact hM) (λb hb=>QB hb (hX b hb)) hS ep L hE h with h|⟨JY,bH,h⟩
   ·exact h
   ·exact ih JY bH _ h
 obtain⟨n,gs,w',sl,q,t',T,h1,h2,h3,h4,h5,h6,h7,h8,h9,h10⟩:=key _ 0 hI;exact⟨cB,wE,n,gs,w',sl,q,t',T,yL,h1,h2,h3,h4,h5,h6,h7,h8,h9,h10⟩
theorem JS.heap{w0 wE w':W'}{m0:Z9}{W0:W'}(O:JS P NG M W0 wE m0 w'){b:Nat}{o:Obj}(hb:M<=b)(h:wE.heap[b]?=some o)(J:o≠cu):w'.heap[b]?=some o:=by
 obtain⟨o',h1,h2⟩:=(O.wr.blk _ _ h).resolve_left J;rw[<-af0 h2 (O.wr.zz b o o' hb h h1 J)];exact h1
end
section
variable{Q:Z4}{b:Frame}{k:List Item}{cs:List Frame}
theorem Ix{c:Code}{Post:Exit->Act->W'->Prop}{m:Nat}{a:Act}{w:W'}(h:c.wpIn Fence.wide m Q Post a w)(hb:b.roundOf=none)(k:List Item)(cs:List Frame) :
  ∃e a' w',Post e a' w'/\(e=.normal->Steps Q (lone (b.at a (.code c::k)) cs w) (lone (b.at a' k) cs w'))/\(e=.ret->∃todo,Steps Q (lone (b.at a (.code c::k)) cs w) (lone { b.at a' todo with mode:=.returning } cs w')):=by
 obtain⟨e,a',w',hp,ha⟩:=h b k cs hb trivial (room_wide _);refine⟨e,a',w',hp,λhe=>?_,λhe=>?_⟩
 ·subst he
  have:=StepsIn.steps ha;rwa [Frame.atR_of_none hb,Frame.atR_of_none hb]at this
 ·subst he
  have⟨todo,hs⟩:=ha.1 hb;have:=StepsIn.steps hs;rw[Frame.atR_of_none hb,Frame.atR_of_none hb]at this;exact⟨todo,this⟩
theorem Bv{ops:Array Z8}{l:List Nat}{Post:Exit->Act->W'->Prop}{m:Nat}{a:Act}{w:W'}(h:wpOpsIn Fence.wide m Q ops Post l a w)(hb:b.roundOf=none)(k:List Item)(cs:List Frame) :
  ∃e a' w',Post e a' w'/\(e=.normal->Steps Q (lone (b.at a (.inRegion ops l::k)) cs w) (lone (b.at a' k) cs w'))/\(e=.ret->∃todo,Steps Q (lone (b.at a (.inRegion ops l::k)) cs w) (lone { b.at a' todo with mode:=.returning } cs w')):=by
 obtain⟨e,a',w',hp,ha⟩:=wp_opsIn l a w h b k cs hb trivial (room_wide _);refine⟨e,a',w',hp,λhe=>?_,λhe=>?_⟩
 ·subst he
  have:=StepsIn.steps ha;rwa [Frame.atR_of_none hb,Frame.atR_of_none hb]at this
 ·subst he
  have⟨todo,hs⟩:=ha.1 hb;have:=StepsIn.steps hs;rw[Frame.atR_of_none hb,Frame.atR_of_none hb]at this;exact⟨todo,this⟩
theorem qg{id:Nat}{ops:Array Z8}{a:Act}{w:W'}:Steps Q (lone (b.at a (.code (.region id ops false)::k)) cs w) (lone (b.at a (.inRegion ops (List.range ops.size)::k)) cs w):=
 .one (step_lone_go (by simp[stepG,stepG.exec,Frame.at,GStep.bare]))
theorem IQ{x y:Code}{a:Act}{w:W'}:Steps Q (lone (b.at a (.code (.seq x y)::k)) cs w) (lone (b.at a (.code x :: .code y::k)) cs w):=
 .one (step_lone_go (by simp[stepG,stepG.exec,Frame.at,GStep.bare]))
theorem vr{ops:Array Z8}{i:Nat}{rest:List Nat}{o:Z8}{m:Nat}{a:Act}{w:W'}{K:Act->W'->Prop}(ho:ops[i]?=some o)(hw:Region.wanted o (yielded ops a.tmps)=true)(hk:b.kind=.normal)(hb:b.roundOf=none)
  (hc:∀d w',(execOp a.eval o).run Q w≠.ok (.defer d) w') (m7:∀r x w',(execOp a.eval o).run Q w≠.ok (.row r x) w') (hrd:∀l f t x y w',(execOp a.eval o).run Q w≠.ok (.round l f t x y) w') (o9:∀c,o.op≠.defer c)
  (h:o.wpIn Fence.wide m Q a w K (λ_ _ _=>False)):∃a' w',K a' w'/\Steps Q (lone (b.at a (.inRegion ops (i::rest)::k)) cs w) (lone (b.at a' (.inRegion ops rest::k)) cs w'):=by
 obtain⟨_,h⟩:=h;rw[Oper.semAt_eq _ _ _ o9]at h;simp only[<-Frame.atR_of_none hb];have hg:=stepGR_op (P:=Q) (b:=b) (k:=k) (cs:=cs) (w:=w) (rest:=rest) ho hw;rw[hb,Oper.semAt_eq _ _ _ o9]at hg
 have qL:∀v,(b.atR a (.inRegion ops (i::rest)::k)).finish v=b.atR (a.put o.dst v) (.inRegion ops rest::k):=by
  intro v;rw[Frame.finish_atR,ho];rfl
 unfold Oper.uponIn at h
 split at h
 ·rename_i v w' Y
  refine⟨_,_,h,.one (step_lone_go ?_)⟩;rw[hg,<-qL];simp[stepG.apply,Y]
 ·rename_i w' Y
  refine⟨_,_,h,.one (step_lone_go ?_)⟩;rw[hg,<-qL];simp[stepG.apply,Y]
 ·rename_i d w' Y;exact absurd Y (hc d w')
 ·rename_i f args w' Y
  have⟨e,JZ,fr,hR,U1,WX,U7⟩:=callsIn_wide.1 h.2 (b.atR a (.inRegion ops (i::rest)::k)::cs)
  have Vl:step Q (lone (b.atR a (.inRegion ops (i::rest)::k)) cs w)=.next (lone (Frame.enter Q f args .normal) (b.atR a (.inRegion ops (i::rest)::k)::cs) w'):=
   step_lone_go (by rw[hg];simp[stepG.apply,Y,Frame.atR])
  cases e with
  | returned v=>
   refine⟨_,_,hR,(Steps.one Vl).trans (U1.trans (.one ?_))⟩;rw[<-qL];exact step_leave_returned U7
  | panicked chain=>exact hR.elim
  | outgrown=>have⟨_,_,h⟩:=hR;exact h.elim
 ·rename_i r x w' Y;exact absurd Y (m7 r x w')
 ·rename_i l f t x y w' Y;exact absurd Y (hrd l f t x y w')
 ·exact h.elim
 ·exact h.elim
structure Kx where
 P:Z4
 Q:Z4
 NG:Nat
 ty:Z5
 Wg:Nat
 C:Nat
 n:Nat
 L0:Nat
 m0:Z9
 t0:Z'
 p:Nat
 q:Nat
 S:Loc->Prop
 G:Nat->Prop
 post:Nat->Z3->W'->Prop
 res:Nat->(Nat->Prop)->Z3->W'->Prop
def Kx.old(c:Kx)(b:Nat):Prop:=b<c.L0/\b≠c.Wg/\b≠c.C
def Kx.Sh(c:Kx)(l:Loc):Prop:=ShN c.Wg l\/c.S l
open Classical in
noncomputable def Kx.wk(c:Kx)(w:W')(M s d:Nat)(tp:Nat->Question->Nat):W':=
 { w with heap:=Array.ofFn λ(i:Fin s)=>if c.old i.val/\¬c.G i.val then (match w.heap[i.val]? with|some (.cells x e _)=>.cells x e (0,x.size)|_=>cu) else cu,tape:=tp,drawn:=d }
variable[Payload](c:Kx)
structure RZ(Z:Nat->Prop)(i:Nat)(w cL:W'):Prop where
 z:∀b,Z b->cL.heap[b]?=w.heap[b]?
 live:WgLive c.ty c.Wg w->WgLive c.ty c.Wg cL
 pay:PayAt c.C c.q w->PayAt c.C c.q cL
 cell:cL.cell? ⟨c.C,i - c.p,none⟩=w.cell? ⟨c.C,i - c.p,none⟩
def EvZ(Z:Nat->Prop)(i:Nat)(e:ϊ):Prop:=EvW c.Wg (λ_ _=>False) (λ_ _=>False) (i - c.p+1) e\/∃a wr,e=⟨.cell a,wr,false⟩/\(a=⟨c.C,i - c.p,none⟩\/(Z a.block/\¬c.G a.block/\wr=false))
def DZ(Z:Nat->Prop)(i:Nat)(w w':W')(es:Array ϊ):Prop:=ConcN.AsideCell c.C c.q (i - c.p) w w'/\∀e∈es,EvZ c Z i e
abbrev AtR(i:Nat)(v:Z3):Z7->W'->Prop:=AtR0 c.P c.ty c.Wg c.C c.q c.L0 (i - c.p+1) v
def eP(Z:Nat->Prop)(i:Nat)(g:Z7)(w:W'):Prop:=
 g.status=.running/\∃r8 cl cs,stepG c.P false g w=.go (cy r8 (cl::cs)) w #[]/\mu c.NG c.Q c.P r8/\r8.roundOf=none/\(∃M1,∀f:Re,(∀b,b<M1->f b=b)->rF f r8=r8)/\
  (∀M s d tp,c.L0<=M->M<=s->∃N cB wE v,Lone c.Q N (lone r8 [di c.Q] (c.wk w M s d tp)) cB wE/\cB.mode=.returning/\cB.defers=[]/\(∃fn,c.Q.funcs[cB.fn]?=some fn/\(results fn cB.tmps).run c.Q wE=.ok v wE)/\c.post i v wE)/\
  ∀v w' S,c.res i S v w'->(∀b,Z b->w'.heap[b]?=w.heap[b]?)->WgLive c.ty c.Wg w'->PayAt c.C c.q w'->∃m,Goes c.P false (RZ c Z i) (DZ c Z i) (AtR c i v) m (cy (cl.finish v) cs) w'
structure R0(bs:Nat->Prop)(w cL:W'):Prop where
 live:WgLive c.ty c.Wg w->WgLive c.ty c.Wg cL
 old:∀b,c.old b->cL.heap[b]?=w.heap[b]?
 bs:∀b,bs b->cL.heap[b]?=w.heap[b]?
def EvS(bs:Nat->Prop)(e:ϊ):Prop:=(∃a,a.block=c.Wg/\(e=⟨.mark (.read a),false,true⟩\/e=⟨.mark (.write a),false,true⟩))\/(∃a wr,e=⟨.cell a,wr,false⟩/\(bs a.block\/(c.old a.block/\¬c.G a.block/\wr=false)))\/e=⟨.mark .noRoom,false,true⟩
structure DS(bs:Nat->Prop)(w w':W')(es:Array ϊ):Prop where
 tape:w'.tape=w.tape
 os:w'.os=w.os
 output:w'.output=w.output
 size:w'.heap.size=w.heap.size
 block:∀b,¬bs b->w'.heap[b]?=w.heap[b]?
 ev:∀e∈es,EvS c bs e
abbrev GS(bs:Nat->Prop)(Stop:Z7->W'->Prop):Nat->Z7->W'->Prop:=Goes c.P true (R0 c bs) (DS c bs) Stop
def fQ:Nat->Prop:=λ_=>False
def two(x y:Nat):Nat->Prop:=λb=>b=x\/b=y
variable(bB:Z7->W'->Prop)
def AtAcq(g:Z7)(w:W'):Prop:=g.status=.running/\∃g',stepG c.P true g w=.go g' w #[mk (.acquire (stA c.Wg))]/\bB g' w
def AtKe(g:Z7)(w:W'):Prop:=g.status=.running/\∃g',stepG c.P true g w=.go g' w #[mk .enable]/\∃m,GS c fQ (AtAcq c bB) m g' w
def AtW4(g:Z7)(w:W'):Prop:=g.status=.running/\(WgAt c.ty c.Wg w 0 0->∃g',stepG c.P true g w=.go g' w #[rd (stA c.Wg)]/\∃m,GS c fQ (AtKe c bB) m g' w)
def AtW3(g:Z7)(w:W'):Prop:=
 g.status=.running/\g.offers=none/\((∃st,WgAt c.ty c.Wg w st 0)->stepG c.P true g w=.go { g with status:=.blocked } w #[])/\
  (WgAt c.ty c.Wg w 0 1->∃g',stepG c.P true g w=.go g' (w.setCell (smA c.Wg) (.int .u32 0)) (semEvents (smA c.Wg))/\∃m,GS c fQ (AtW4 c bB) m g' (w.setCell (smA c.Wg) (.int .u32 0)))
variable(AnchW:Z7->W'->Prop)
def AtW2(vs:Nat)(g:Z7)(w:W'):Prop:=
 g.status=.running/\∀v:Nat,v<2147483648->WgAt c.ty c.Wg w (v*KK) 0->
  (v=vs->∃g',stepG c.P true g w=.go g' (w.setCell (stA c.Wg) (.int .u64 (v*KK+1))) #[rd (stA c.Wg),wr (stA c.Wg)]/\∃m,GS c fQ (AtW3 c bB) m g' (w.setCell (stA c.Wg) (.int .u64 (v*KK+1))))/\
  (v≠vs->∃g',stepG c.P true g w=.go g' w #[rd (stA c.Wg)]/\∃m,GS c fQ AnchW m g' w)
def AtW1(g:Z7)(w:W'):Prop:=
 g.status=.running/\∀v:Nat,v<2147483648->WgAt c.ty c.Wg w (v*KK) 0->∃g',stepG c.P true g w=.go g' w #[rd (stA c.Wg)]/\
  (v=0->∃m,GS c fQ (AtKe c bB) m g' w)/\(v≠0->∃m,GS c fQ (AtW2 c bB AnchW v) m g' w)
def AtKd(g:Z7)(w:W'):Prop:=g.status=.running/\∃g',stepG c.P true g w=.go g' w #[mk .disable]/\∃m,GS c fQ AnchW m g' w
end
section
variable[Payload](c:Kx)(Next:Z7->W'->Prop)
def AtGo(i b1 b2:Nat)(g:Z7)(w:W'):Prop:=
 g.status=.running/\∃g' child,stepG c.P true g w=.spawn g' child w #[]/\(PayAt c.C c.q w->∃m,Goes c.P false (RZ c (λb=>c.old b\/two b1 b2 b) i) (DZ c (λb=>c.old b\/two b1 b2 b) i) (eP c (λb=>c.old b\/two b1 b2 b) i) m child w)/\Next g' w
def AtKeS(i b1 b2:Nat)(g:Z7)(w:W'):Prop:=g.status=.running/\∃g',stepG c.P true g w=.go g' w #[mk .enable]/\∃m,GS c (two b1 b2) (AtGo c Next i b1 b2) m g' w
def AtA1(i b1 b2:Nat)(g:Z7)(w:W'):Prop:=
 g.status=.running/\∀v:Nat,v<2147483647->WgAt c.ty c.Wg w (v*KK) 0->
  ∃g',stepG c.P true g w=.go g' (w.setCell (stA c.Wg) (.int .u64 ((v+1)*KK))) #[rd (stA c.Wg),wr (stA c.Wg)]/\∃m,GS c (two b1 b2) (AtKeS c Next i b1 b2) m g' (w.setCell (stA c.Wg) (.int .u64 ((v+1)*KK)))
def AtKdS(i b1 b2:Nat)(g:Z7)(w:W'):Prop:=g.status=.running/\∃g',stepG c.P true g w=.go g' w #[mk .disable]/\∃m,GS c (two b1 b2) (AtA1 c Next i b1 b2) m g' w
def TK(K:Nat->Z7->W'->Prop)(g:Z7)(w:W'):Prop:=
 g.status=.running/\∃g' x e es,stepG c.P true g w=.go g' (w.alloc (.cells x e)) es/\(∀e∈es,e=⟨.mark .noRoom,false,true⟩)/\K w.heap.size g' (w.alloc (.cells x e))
def TL(i b1:Nat):Z7->W'->Prop:=TK c λb2 g w=>∃m,GS c (two b1 b2) (AtKdS c Next i b1 b2) m g w
def OV(i:Nat):Z7->W'->Prop:=TK c λb1 g w=>∃m,GS c (two b1 b1) (TL c Next i b1) m g w
end
section
variable[Payload](c:Kx)
def jM(Fin:Z7->W'->Prop):Nat->Z7->W'->Prop
 | 0,g,w=>∃m,GS c fQ Fin m g w
 | r+1,g,w=>∃m,GS c fQ (OV c (jM Fin r) (c.n - (r+1))) m g w
inductive CS(bB AnchW:Z7->W'->Prop):CTag->Nat->Nat->Nat->(Nat->Prop)->Z7->W'->Prop
 | RP {r m:Nat} {g:Z7} {w:W'}:r<c.n->GS c fQ (OV c (jM c (AtKd c AnchW) r) (c.n - (r+1))) m g w->CS bB AnchW (.sp r 7) (c.n - (r+1)) m 0 fQ g w
 | al2 {r m b1:Nat} {g:Z7} {w:W'}:r<c.n->GS c (two b1 b1) (TL c (jM c (AtKd c AnchW) r) (c.n - (r+1)) b1) m g w->CS bB AnchW (.sp r 6) (c.n - (r+1)) m 0 (two b1 b1) g w
 | skd {r m b1 b2:Nat} {g:Z7} {w:W'}:r<c.n->GS c (two b1 b2) (AtKdS c (jM c (AtKd c AnchW) r) (c.n - (r+1)) b1 b2) m g w->CS bB AnchW (.sp r 5) (c.n - (r+1)) m 0 (two b1 b2) g w
 | sa1 {r m b1 b2:Nat} {g:Z7} {w:W'}:r<c.n->GS c (two b1 b2) (AtA1 c (jM c (AtKd c AnchW) r) (c.n - (r+1)) b1 b2) m g w->CS bB AnchW (.sp r 4) (c.n - (r+1)) m 1 (two b1 b2) g w
 | ske {r m b1 b2:Nat} {g:Z7} {w:W'}:r<c.n->GS c (two b1 b2) (AtKeS c (jM c (AtKd c AnchW) r) (c.n - (r+1)) b1 b2) m g w->CS bB AnchW (.sp r 3) (c.n - (r+1)) m 1 (two b1 b2) g w
 | sgo {r m b1 b2:Nat} {g:Z7} {w:W'}:r<c.n->GS c (two b1 b2) (AtGo c (jM c (AtKd c AnchW) r) (c.n - (r+1)) b1 b2) m g w->CS bB AnchW (.sp r 2) (c.n - (r+1)) m 0 (two b1 b2) g w
 | kd {m:Nat} {g:Z7} {w:W'}:GS c fQ (AtKd c AnchW) m g w->CS bB AnchW .kd c.n m 0 fQ g w
 | anch {m:Nat} {g:Z7} {w:W'}:GS c fQ AnchW m g w->CS bB AnchW .anch c.n m 1 fQ g w
 | w1 {m:Nat} {g:Z7} {w:W'}:GS c fQ (AtW1 c bB AnchW) m g w->CS bB AnchW .w1 c.n m 1 fQ g w
 | w2 {vs m:Nat} {g:Z7} {w:W'}:GS c fQ (AtW2 c bB AnchW vs) m g w->CS bB AnchW (.w2 vs) c.n m 1 fQ g w
 | w3 {m:Nat} {g:Z7} {w:W'}:GS c fQ (AtW3 c bB) m g w->CS bB AnchW .w3 c.n (m+1) 1 fQ g w
 | blk {g:Z7} {w:W'}:(∀cL,R0 c fQ w cL->AtW3 c bB g cL)->CS bB AnchW .blk c.n 0 1 fQ { g with status:=.blocked } w
 | w4 {m:Nat} {g:Z7} {w:W'}:GS c fQ (AtW4 c bB) m g w->CS bB AnchW .w4 c.n m 1 fQ g w
 | ke {m:Nat} {g:Z7} {w:W'}:GS c fQ (AtKe c bB) m g w->CS bB AnchW .ke c.n m 1 fQ g w
 | acq {m:Nat} {g:Z7} {w:W'}:GS c fQ (AtAcq c bB) m g w->CS bB AnchW .acq c.n m 0 fQ g w
end
section
variable[Payload]{c:Kx}{w cL Iw:W'}{bs:Nat->Prop}
omit [Payload] in
theorem R0.refl(w:W'):R0 c bs w w:=⟨id,λ_ _=>rfl,λ_ _=>rfl⟩
omit [Payload] in
theorem R0.trans(h:R0 c bs w cL)(h':R0 c bs cL Iw):R0 c bs w Iw:=⟨h'.live ∘ h.live,λb hb=>(h'.old b hb).trans (h.old b hb),λb hb=>(h'.bs b hb).trans (h.bs b hb)⟩
theorem RZ.refl{Z:Nat->Prop}{i:Nat}(w:W'):RZ c Z i w w:=⟨λ_ _=>rfl,id,id,rfl⟩
theorem RZ.trans{Z:Nat->Prop}{i:Nat}(h:RZ c Z i w cL)(h':RZ c Z i cL Iw):RZ c Z i w Iw:=⟨λb hb=>(h'.z b hb).trans (h.z b hb),h'.live ∘ h.live,h'.pay ∘ h.pay,h'.cell.trans h.cell⟩
theorem RZ.rw{Z:Nat->Prop}{i:Nat}(hZ:∀b,c.old b->Z b)(h:RZ c Z i w cL):RW c.ty c.Wg c.C c.q c.L0 (i - c.p) w cL:=⟨λb h1 h2 h3=>h.z b (hZ b ⟨h1,h2,h3⟩),h.live,h.pay,h.cell⟩
variable{bB AnchW:Z7->W'->Prop}{tag:CTag}{j f d:Nat}{a:Z7}
theorem CS.rely(h:CS c bB AnchW tag j f d bs a w)(Y:R0 c bs w cL):CS c bB AnchW tag j f d bs a cL:=by
 have tr:∀bs x y z,R0 c bs x y->R0 c bs y z->R0 c bs x z:=λ_ _ _ _ h1 h2=>h1.trans h2
 cases h with
 | RP hn h=>exact .RP hn (Goes.rely (tr _) h Y)
 | al2 hn h=>exact .al2 hn (Goes.rely (tr _) h Y)
 | skd hn h=>exact .skd hn (Goes.rely (tr _) h Y)
 | sa1 hn h=>exact .sa1 hn (Goes.rely (tr _) h Y)
 | ske hn h=>exact .ske hn (Goes.rely (tr _) h Y)
 | sgo hn h=>exact .sgo hn (Goes.rely (tr _) h Y)
 | kd h=>exact .kd (Goes.rely (tr _) h Y)
 | anch h=>exact .anch (Goes.rely (tr _) h Y)
 | w1 h=>exact .w1 (Goes.rely (tr _) h Y)
 | w2 h=>exact .w2 (Goes.rely (tr _) h Y)
 | w3 h=>exact .w3 (Goes.rely (tr _) h Y)
 | blk h=>exact .blk (λIw ax9=>h Iw (Y.trans ax9))
 | w4 h=>exact .w4 (Goes.rely (tr _) h Y)
 | ke h=>exact .ke (Goes.rely (tr _) h Y)
 | acq h=>exact .acq (Goes.rely (tr _) h Y)
theorem CS.bound(h:CS c bB AnchW tag j f d bs a w):j+ConcN.pend tag<=c.n:=by
 cases h<;>simp only[ConcN.pend]<;>(try simp)<;>omega
theorem CS.status(uD:∀g w,AnchW g w->g.status=.running)(h:CS c bB AnchW tag j f d bs a w):(a.status=.running/\tag≠.blk)\/(a.status=.blocked/\tag=.blk):=by
 cases h<;>first
  | (rename_i h;exact .inl ⟨Goes.running uD w (R0.refl w) h,by simp⟩)
  | (rename_i h;exact .inl ⟨Goes.running (λ_ _ (x:_/\_)=>x.1) w (R0.refl w) h,by simp⟩)
  | exact .inr ⟨rfl,rfl⟩
theorem CS.wokenBy(uD:∀g w,AnchW g w->g.status=.running)(h:CS c bB AnchW tag j f d bs a w)(Y:R0 c bs w cL)(g g':Z7) :
  ∃tag' f',CS c bB AnchW tag' j f' d bs (woken c.P g g' cL a) cL/\f'<=f+1/\(tag'=tag\/(tag=.blk/\tag'=.w3))/\(mayWake c.P g=true->g'.status=.running->tag'≠.blk):=by
 have h':=h.rely Y;unfold Go.Conc.woken
 split
 ·rcases h'.status uD with ⟨hs,eW⟩|⟨_,rfl⟩
  ·exact⟨tag,f,by rw[again_running _ (.inl hs)];exact h',by omega,.inl E,λ_ _=>eW⟩
  ·cases h' with
   | blk hb=>
    rename_i g0;have h3:=hb cL (.refl cL);exact⟨.w3,0+1,by rw[ConcR.again_blocked h3.1 h3.2.1];exact .w3 (Goes.stop hb),by omega,.inr ⟨rfl,rfl⟩,λ_ _=>by simp⟩
 ·rename_i hc
  exact⟨tag,f,h',by omega,.inl E,λh1 h2=>absurd (by simp[h1,h2]) hc⟩
end
section
variable(c:Kx)
def nG(O:Nat->Nat)(k:Nat)(l:Loc):Prop:=c.p<k/\(l=.cell ⟨c.C,k - 1 - c.p,none⟩\/∃b,(l=.obj b\/∃a,l=.cell a/\a.block=b)/\c.L0<=b/\O b=k)
def Ec(O Lw:Nat->Nat)(k:Nat)(l:Loc):Prop:=c.p<k/\∃a,l=.cell a/\a.block<Lw k/\a.block≠c.Wg/\a.block≠c.C/\¬c.G a.block/\(a.block<c.L0\/O a.block=0)
structure Geo:Prop where
 hW:c.Wg<c.L0
 hC:c.C<c.L0
 hCW:c.C≠c.Wg
 hn:c.n<2147483648
 hp:c.n=c.p+c.q
 hS:∀l,c.S l->∃a,l=.cell a/\c.G a.block
 hG:∀b,c.G b->c.old b
theorem apart(G:Geo c)(O Lw:Nat->Nat):Apart c.Sh (nG c O) (Ec c O Lw):=by
 have hW:=G.hW;have hC:=G.hC;refine⟨λk k' l h h'=>?_,λk k' l h h'=>?_,λk l h h'=>?_,λk l h h'=>?_⟩
 ·obtain⟨h1,h⟩:=h
  obtain⟨C1,h'⟩:=h';rcases h with rfl|⟨b,hb,h2,h3⟩<;>rcases h' with h'|⟨b',bY,h2',h3'⟩
  ·simp only[Loc.cell.injEq,Addr.mk.injEq,ZD,Zx]at h';omega
  ·rcases bY with h|⟨a,h,rfl⟩
   ·cases h
   ·cases h;simp only at h2';omega
  ·subst h'
   rcases hb with h|⟨a,h,rfl⟩
   ·cases h
   ·cases h;simp only at h2;omega
  ·have : b = b' := by
    rcases hb with rfl|⟨a,rfl,rfl⟩<;>rcases bY with h|⟨a',h,rfl⟩<;>cases h<;>rfl
   subst this;exact h3.symm.trans h3'
 ·obtain⟨h1,h⟩:=h
  obtain⟨_,a,rfl,h2,h3,h4,_,h5⟩:=h';rcases h with h|⟨b,hb,h6,h7⟩
  ·cases h;exact h4 E
  ·rcases hb with h|⟨a',h,rfl⟩
   ·cases h
   ·cases h
    rcases h5 with h5|h5<;>omega
 ·obtain⟨h1,h⟩:=h
  rcases h' with ⟨a,rfl,h2⟩|h'
  ·rcases h with h|⟨b,hb,h6,h7⟩
   ·cases h;exact G.hCW h2
   ·rcases hb with h|⟨a',h,rfl⟩
    ·cases h
    ·cases h;omega
  ·obtain⟨a,rfl,h2⟩:=G.hS l h'
   have h3:=G.hG _ h2;rcases h with h|⟨b,hb,h6,h7⟩
   ·cases h;exact h3.2.2 E
   ·rcases hb with h|⟨a',h,rfl⟩
    ·cases h
    ·cases h;have:=h3.1;omega
 ·obtain⟨_,a,rfl,h2,h3,_,h5,_⟩:=h
  rcases h' with ⟨a',h,h4⟩|h'
  ·cases h
   exact h3 h4
  ·obtain⟨a',h,h2⟩:=G.hS _ h'
   cases h;exact h5 h2
variable[Payload]
def Kb(O Lw:Nat->Nat)(i:Nat)(Z:Nat->Prop):Prop:=(∀b,c.old b->Z b)/\∀b,Z b->c.old b\/(c.L0<=b/\O b=0/\b<Lw (i+1))
def Gy(n i:Nat)(O:Nat->Nat)(N j:Nat)(cl:Frame)(cs:List Frame)(g:Z7)(w:W'):Prop:=∃M W0 Be cB wE v fr cI wl,
 (Lone c.Q N Be cB wE/\cB.mode=.returning/\cB.defers=[]/\(∃fn,c.Q.funcs[cB.fn]?=some fn/\(results fn cB.tmps).run c.Q wE=.ok v wE)/\c.post i v wE)/\
 OL c.NG M c.Q c.P (fk c.P c.m0 (i+1) M) W0 Be (cl::cs) j fr cI wl g w/\j<=N/\FR M 0 (fk c.P c.m0 (i+1) M) W0/\c.L0<=M/\
 wl.drawn=dc c.P c.m0 (i+1) n/\wl.heap.size=M+ac c.P c.m0 (i+1) n/\wl.tape=tk c.P c.m0 (i+1)/\
 (∀b o,b<M->W0.heap[b]?=some o->o≠cu->c.old b/\¬c.G b)/\∀b,M<=b->b<wl.heap.size->c.L0<=fk c.P c.m0 (i+1) M b/\fk c.P c.m0 (i+1) M b<w.heap.size/\O (fk c.P c.m0 (i+1) M b)=i+1
def Eb(O:Nat->Nat)(i b:Nat):Prop:=(c.old b/\¬c.G b)\/(c.L0<=b/\O b=i+1)
inductive WS(n i:Nat)(O Lw:Nat->Nat)(v:Z3):Nat->Nat->Nat->Nat->Z7->W'->Prop
 | pre {Z:Nat->Prop} {m:Nat} {g:Z7} {w:W'}:Kb c O Lw i Z->ac c.P c.m0 (i+1) n=0->Goes c.P false (RZ c Z i) (DZ c Z i) (eP c Z i) m g w->WS n i O Lw v 7 2 m 0 g w
 | K5 {Z:Nat->Prop} {N j:Nat} {cl:Frame} {cs:List Frame} {wc:W'} {g:Z7} {w:W'}:Kb c O Lw i Z->Gy c n i O N j cl cs g w->(∀b,Z b->w.heap[b]?=wc.heap[b]?)->
  (∀v w' S,c.res i S v w'->(∀b,Z b->w'.heap[b]?=wc.heap[b]?)->WgLive c.ty c.Wg w'->PayAt c.C c.q w'->∃m,Goes c.P false (RZ c Z i) (DZ c Z i) (AtR c i v) m (cy (cl.finish v) cs) w')->WS n i O Lw v 7 1 (N - j) 0 g w
 | post {Z:Nat->Prop} {m:Nat} {g:Z7} {w:W'}:Kb c O Lw i Z->Goes c.P false (RZ c Z i) (DZ c Z i) (AtR c i v) m g w->c.res i (Eb c O i) v w->WS n i O Lw v 7 0 m 0 g w
 | late {s m dd:Nat} {g:Z7} {w:W'}:s<=6->WSit c.P c.ty c.Wg c.C c.q (λ_ _=>False) (λ_ _=>False) c.L0 (i - c.p+1) v s m dd g w->WS n i O Lw v s 0 m dd g w
structure zg(O Lw:Nat->Nat)(i:Nat)(w w':W'):Prop where
 cr:∀b,b<w.heap.size->(c.old b\/(c.L0<=b/\(O b=i+1\/(O b=0/\b<Lw (i+1)))))->w'.heap[b]?=w.heap[b]?
 live:WgLive c.ty c.Wg w->WgLive c.ty c.Wg w'
 pay:PayAt c.C c.q w->PayAt c.C c.q w'
 cell:w'.cell? ⟨c.C,i - c.p,none⟩=w.cell? ⟨c.C,i - c.p,none⟩
 size:w.heap.size<=w'.heap.size
end
section
variable[Payload]{c:Kx}{n i:Nat}{O O' Lw OP:Nat->Nat}{v:Z3}{s sb m dd:Nat}{g:Z7}{w w':W'}
theorem zg.rz(h:zg c O Lw i w w'){Z:Nat->Prop}(hZ:Kb c O Lw i Z)(hL:c.L0<=w.heap.size)(hw:Lw (i+1)<=w.heap.size):RZ c Z i w w':=by
 refine⟨λb hb=>?_,h.live,h.pay,h.cell⟩;rcases hZ.2 b hb with h1|⟨h1,h2,h3⟩
 ·exact h.cr b (by have:=h1.1;omega) (.inl h1)
 ·exact h.cr b (by omega) (.inr ⟨h1,.inr ⟨h2,h3⟩⟩)
theorem Kb.turn{Z:Nat->Prop}(h:Kb c O Lw i Z)(hO:∀b,b<w.heap.size->O' b=O b)(hL:OP (i+1)=Lw (i+1))(hw:Lw (i+1)<=w.heap.size):Kb c O' OP i Z:=
 ⟨h.1,λb hb=>(h.2 b hb).imp id λ⟨h1,h2,h3⟩=>⟨h1,by rw[hO b (by omega)];exact h2,by rw[hL];exact h3⟩⟩
theorem WR.cr{K:Kc}{M:Nat}{f:Re}{W0 wl:W'}(H:WR K M f W0 wl w)(hk:∀b o,wl.heap[b]?=some o->o≠cu->w'.heap[f b]?=w.heap[f b]?):WR K M f W0 wl w':=by
 refine⟨λb o hb=>?_,H.inj,H.low,H.size,H.dd,λb o o' hm h1 h2 J=>?_⟩
 ·rcases Zd (o=cu) with J|J
  ·exact .inl J
  ·have⟨o',h1,h2⟩:=(H.blk b o hb).resolve_left J
   exact .inr ⟨o',(hk b o hb J).trans h1,h2⟩
 ·rw[hk b o h1 J]at h2
  exact H.zz b o o' hm h1 h2 J
theorem Gy.others{N j:Nat}{cl:Frame}{cs:List Frame}(h:Gy c n i O N j cl cs g w)(fS:zg c O Lw i w w')(uC:(pk c.P (rs c.P c.m0 n)).1≠i+1)(hO:∀b,b<w.heap.size->O' b=O b)(hL:c.L0<=w.heap.size):Gy c (n+1) i O' N j cl cs g w':=by
 obtain⟨M,W0,Be,cB,wE,v,fr,cI,wl,h1,S,hj,F,hM,J,hs,ht,ho,oK⟩:=h;have e:∀q:Z9->Nat,used c.P c.m0 (i+1) q (n+1)=used c.P c.m0 (i+1) q n:=λq=>by simp only[used,Xr uC];rfl
 refine⟨M,W0,Be,cB,wE,v,fr,cI,wl,h1,⟨S.at_,S.gr,S.wr.cr λb o hb CY=>?_⟩,hj,F,hM,J.trans (e _).symm,by rw[hs];congr 1;exact(e _).symm,ht,ho,λb h1 h2=>?_⟩
 ·rcases XP b M with bY|bY
  ·rw[S.wr.low b bY]at hb
   have h3:=ho b o bY hb CY;rw[F.low b bY];exact fS.cr b (by have:=h3.1.1;omega) (.inl h3.1)
  ·have⟨k1,k2,k3⟩:=oK b bY (Xz.1 hb).1
   exact fS.cr _ k2 (.inr ⟨k1,.inl k3⟩)
 ·have⟨k1,k2,k3⟩:=oK b h1 h2
  exact⟨k1,XD k2 fS.size,by rw[hO _ k2];exact k3⟩
variable(bF:∀i (S S':Nat->Prop) v w w',c.res i S v w->(∀b,b<w.heap.size->S b->w'.heap[b]?=w.heap[b]?)->w.heap.size<=w'.heap.size->(∀b,b<w.heap.size->S b->S' b)->c.res i S' v w')
include bF in
theorem lV(Y:c.res i (Eb c O i) v w)(fS:zg c O Lw i w w')(hO:∀b,b<w.heap.size->O' b=O b):c.res i (Eb c O' i) v w':=
 bF i _ _ v w w' Y (λb hb h=>fS.cr b hb (h.imp (λh=>h.1) λh=>⟨h.1,.inl h.2⟩)) fS.size λb hb h=>h.imp id λh=>⟨h.1,by rw[hO b hb];exact h.2⟩
theorem G9{Z:Nat->Prop}{i:Nat}:∀a b d,RZ c Z i a b->RZ c Z i b d->RZ c Z i a d:=λ_ _ _ h1 h2=>h1.trans h2
include bF in
theorem WS.others(h:WS c n i O Lw v s sb m dd g w)(fS:zg c O Lw i w w')(uC:(pk c.P (rs c.P c.m0 n)).1≠i+1)(hO:∀b,b<w.heap.size->O' b=O b)(hL:c.L0<=w.heap.size)(hLw:OP (i+1)=Lw (i+1))(hw:Lw (i+1)<=w.heap.size) :
  WS c (n+1) i O' OP v s sb m dd g w':=by
 have e:∀q:Z9->Nat,used c.P c.m0 (i+1) q (n+1)=used c.P c.m0 (i+1) q n:=λq=>by simp only[used,Xr uC];rfl
 cases h with
 | pre hZ ha h=>exact .pre (hZ.turn hO hLw hw) ((e _).trans ha) (Goes.rely G9 h (fS.rz hZ hL hw))
 | K5 hZ hS hk ha=>exact .K5 (hZ.turn hO hLw hw) (hS.others fS uC hO hL) (λb hb=>((fS.rz hZ hL hw).z b hb).trans (hk b hb)) ha
 | post hZ h Y=>exact .post (hZ.turn hO hLw hw) (Goes.rely G9 h (fS.rz hZ hL hw)) (lV bF Y fS hO)
 | late h6 h=>exact .late h6 (h.rely ⟨λb h1 h2 h3=>fS.cr b (by omega) (.inl ⟨h1,h2,h3⟩),fS.live,fS.pay,by simpa using fS.cell⟩)
theorem WS.at(h:WS c n i O Lw v s sb m dd g w)(d:Nat)(Y:∀i S v,c.res i S v w->c.res i S v (w.at d)):WS c n i O Lw v s sb m dd g (w.at d):=by
 have rz:∀Z,RZ c Z i w (w.at d):=λZ=>⟨λ_ _=>rfl,id,id,rfl⟩
 cases h with
 | pre hZ ha h=>exact .pre hZ ha (Goes.rely G9 h (rz _))
 | K5 hZ hS hk ha=>
  obtain⟨M,W0,Be,cB,wE,v,fr,cI,wl,h1,S,hj,F,hM,J,hs,ht,ho,oK⟩:=hS;exact .K5 hZ ⟨M,W0,Be,cB,wE,v,fr,cI,wl,h1,⟨S.at_,S.gr,S.wr.at' d⟩,hj,F,hM,J,hs,ht,ho,oK⟩ hk ha
 | post hZ h SG=>exact .post hZ (Goes.rely G9 h (rz _)) (Y _ _ _ SG)
 | late h6 h=>exact .late h6 (h.rely (RW.at w d))
theorem WS.ph(h:WS c n i O Lw v 1 sb m dd g w):∃q,sb=0/\q=m/\QuitsD c.P q dd g:=by
 generalize hs:(1:Nat)=s at h
 cases h with
 | late h6 hL=>
  subst hs
  cases hL with
  | quit hq=>exact⟨_,rfl,rfl,hq⟩
 | _=>omega
theorem WS.aU4{n':Nat}{v':Z3}(h:WS c n i O Lw v 1 sb m dd g w):WS c n' i O' OP v' 1 sb m dd g w':=by
 obtain⟨q,rfl,rfl,hq⟩:=h.ph;exact .late (by omega) (.quit hq)
theorem Gy.status{N j:Nat}{cl:Frame}{cs:List Frame}(h:Gy c n i O N j cl cs g w):g.status=.running:=by
 obtain⟨M,W0,Be,cB,wE,v,fr,cI,wl,h1,S,_⟩:=h;rw[S.gr.g']
theorem WS.status(h:WS c n i O Lw v s sb m dd g w):g.status=.running\/g.status=.finished:=by
 cases h with
 | pre hZ ha h=>exact .inl (Goes.running (λ_ _ (x:_/\_)=>x.1) w (RZ.refl w) h)
 | K5 hZ hS hk ha=>exact .inl hS.status
 | post hZ h Y=>exact .inl (Goes.running (λ_ _ x=>x.1) w (RZ.refl w) h)
 | late h6 h=>exact h.status
theorem WS.woken(h:WS c n i O Lw v s sb m dd g w)(a a':Z7)(w':W'):woken c.P a a' w' g=g:=by
 unfold Go.Conc.woken
 split
 ·exact again_running _ h.status
 ·rfl
theorem WS.running_of(h:WS c n i O Lw v s sb m dd g w)(hs:s≠1):g.status=.running:=by
 cases h with
 | pre hZ ha h=>exact Goes.running (λ_ _ (x:_/\_)=>x.1) w (RZ.refl w) h
 | K5 hZ hS hk ha=>exact hS.status
 | post hZ h Y=>exact Goes.running (λ_ _ x=>x.1) w (RZ.refl w) h
 | late h6 h=>exact h.running_of hs
end
def Kf(p Wg:Nat)(t:Z'):Prop:=∀op∈t,∀x,op.act.touch?=some x->x.kind=.atomic->p<op.g->ShN Wg x.loc
theorem Kf.app{p Wg:Nat}{t u:Z'}(h:Kf p Wg t)(hu:Kf p Wg u):Kf p Wg (t++u):=λop cF x hx=>(YG.1 cF).elim (λho=>h op ho x hx) (λho=>hu op ho x hx)
theorem DX{p Wg:Nat}{u:Z'}(h:∀op∈u,op.g=0):Kf p Wg u:=λop cF _ _ _ h0=>by have:=h op cF;omega
structure aP6(p:Nat)(S:Loc->Prop)(t:Z'):Prop where
 known:∀i op x,t[i]?=some op->op.g≠0->op.g<=p->op.act.touch?=some x->Knows t 0 i\/(S x.loc/\x.kind=.atomic)
 over:∀i g,t.g? i=some g->g≠0->g<=p->t.counts i->∃j,t.g? j=some 0/\HappensBefore t i j
theorem aP6.app{p:Nat}{S:Loc->Prop}{t u:Z'}(h:aP6 p S t)(hu:∀op∈u,op.g=0\/p<op.g\/op.act.touch?=none):aP6 p S (t++u):=by
 refine⟨λi op x hi h0 hp hx=>?_,λi g hg h0 hp hc=>?_⟩
 ·rcases getElem?_append_cases hi with ⟨_,jm⟩|⟨_,hiu⟩
  ·exact(h.known i op x jm h0 hp hx).imp (λh=>h.app u) id
  ·rcases hu op hiu with h1|h1|h1
   ·exact absurd h1 h0
   ·omega
   ·rw[h1]at hx;cases hx
 ·have⟨op,ho,hog⟩:=Ye.1 hg
  rcases getElem?_append_cases ho with ⟨bH,jm⟩|⟨_,hiu⟩
  ·obtain⟨j,hj,hb⟩:=h.over i g (by simp[Trace.g?,jm,hog]) h0 hp ((counts_old bH).1 hc)
   have⟨y,hy,_⟩:=Ye.1 hj;exact⟨j,(g?_old (lt_size_of_getElem? hy)).trans hj,hb_app u hb⟩
  ·have⟨x,hx,_⟩:=hc
   rw[act?_of ho]at hx;rcases hu op hiu with h1|h1|h1
   ·omega
   ·omega
   ·simp only[Zv,h1]at hx;cases hx
def aP4(s:Nat)(a:Addr)(t:Z'):Prop:=∀k,s<=k->t.act? k≠some (.mark (.release a))
theorem aP4.app{s:Nat}{a:Addr}{t u:Z'}(h:aP4 s a t)(hu:∀op∈u,op.act≠.mark (.release a)):aP4 s a (t++u):=λk hk e=>by
 have⟨op,ho,hoa⟩:=Ye.1 e;rcases getElem?_append_cases ho with ⟨_,h1⟩|⟨_,h1⟩
 ·exact h k hk (by rw[act?_of h1,hoa])
 ·exact hu op h1 hoa
section
variable{c:Kx}{O O' Lw OP:Nat->Nat}{B k:Nat}{l:Loc}
theorem vm(hO:∀b,b<B->O' b=O b)(hl:l.low B):nG c O' k l↔nG c O k l:=by
 have key:∀b,(l=.obj b\/∃a,l=.cell a/\a.block=b)->b<B:=λb hb=>by
  rcases hb with rfl|⟨a,rfl,rfl⟩<;>exact hl
 constructor
 ·rintro ⟨h1,h⟩
  exact⟨h1,h.imp id λ⟨b,hb,h2,h3⟩=>⟨b,hb,h2,by rw[<-hO b (key b hb)];exact h3⟩⟩
 ·rintro ⟨h1,h⟩
  exact⟨h1,h.imp id λ⟨b,hb,h2,h3⟩=>⟨b,hb,h2,by rw[hO b (key b hb)];exact h3⟩⟩
theorem Hf(hO:∀b,b<B->O' b=O b)(hL:OP k=Lw k)(hl:l.low B):Ec c O' OP k l↔Ec c O Lw k l:=by
 constructor
 ·rintro ⟨h0,a,rfl,h1,h2,h3,h5,h4⟩
  exact⟨h0,a,rfl,by rw[<-hL];exact h1,h2,h3,h5,h4.imp id λh=>by rw[<-hO _ hl];exact h⟩
 ·rintro ⟨h0,a,rfl,h1,h2,h3,h5,h4⟩
  exact⟨h0,a,rfl,by rw[hL];exact h1,h2,h3,h5,h4.imp id λh=>by rw[hO _ hl];exact h⟩
theorem AU{t:Z'}{j:Nat}(h:CT c.Sh (nG c O) (Ec c O Lw) t j)(hs:Seen t B)(hO:∀b,b<B->O' b=O b)(hL:∀k,k<=j->OP k=Lw k):CT c.Sh (nG c O') (Ec c O' OP) t j:=by
 refine⟨h.quiet,λk k1 kj l hl i a ha e=>?_,λk k1 kj l hl i a ha e hw=>?_,λl hn hl i a ha e=>?_,λl hn hl i a ha e hw=>?_,h.nr,h.gs⟩
 ·have:=e ▸ ui hs ha
  exact h.own k k1 kj l ((vm hO this).1 hl) i a ha e
 ·have:=e ▸ ui hs ha
  exact h.rd k k1 kj l ((Hf hO (hL k kj) this).1 hl) i a ha e hw
 ·have:=e ▸ ui hs ha
  exact h.free l hn (λk k1 kj=>⟨λx=>(hl k k1 kj).1 ((vm hO this).2 x),λx=>(hl k k1 kj).2 ((Hf hO (hL k kj) this).2 x)⟩) i a ha e
 ·have:=e ▸ ui hs ha
  exact h.mine l hn (λk k1 kj x=>hl k k1 kj ((vm hO this).2 x)) i a ha e hw
theorem RK{s p:Nat}{t u:Z'}(h:∀i op,i<s->t[i]?=some op->op.g<=p)(ht:s<=t.size):∀i op,i<s->(t++u)[i]?=some op->op.g<=p:=λi op hi h'=>h i op hi (by rwa [Array.getElem?_append_left (by omega)]at h')
theorem al0{s:Nat}{t u:Z'}(ht:s<=t.size):s<=(t++u).size:=by rw[Array.size_append];omega
end
section
variable[Payload](c:Kx)(bB AnchW:Z7->W'->Prop)
structure CI(n:Nat)(gs:Array Z7)(w:W')(t:Z')(j:Nat)(D:Nat->WD)(sb:Nat->Nat)(tag:CTag)(f0 d0:Nat)(bs:Nat->Prop)(a:Z7)(st sm:Int)(O Lw:Nat->Nat)(val:Nat->Z3):Prop where
 size:gs.size=j+1
 g0:gs[0]?=some a
 cs:CS c bB AnchW tag j f0 d0 bs a w
 wk:∀i,i<j->∃g,gs[i+1]?=some g/\WS c n i O Lw (val i) (D i).stage (sb i) (D i).fuel (D i).deaf g w
 ct:CT c.Sh (nG c O) (Ec c O Lw) t j
 norel:aP4 c.t0.size (stA c.Wg) t
 lo:∀i op,i<c.t0.size->t[i]?=some op->op.g<=c.p
 t0:c.t0.size<=t.size
 deaf0:Deaf t 0=d0
 deafW:∀i,i<j->Deaf t (i+1)=(D i).deaf
 rel:∀i,c.p<=i->i<j->(D i).stage<=6->∃r,RelBy (stA c.Wg) t (i+1) r
 has:∀i,c.p<=i->i<j->(D i).stage<=6->Has c.C (i - c.p) (val i) w/\c.res i (Eb c O i) (val i) w
 pay:PayAt c.C c.q w
 wg:WgAt c.ty c.Wg w st sm
 mode:ConcN.Mode j D tag st sm
 seen:Seen t w.heap.size
 W9:Kf c.p c.Wg t
 ph:∀i,i<c.p->(D i).stage=1
 pj:c.p<=j
 gone:aP6 c.p c.S t
 J1:∀k,c.L0<=Lw k
 lw:∀k,k<=j->Lw k<=Lw j
 UO:Lw j<=w.heap.size
 bs:∀b,bs b->Lw j<=b/\b<w.heap.size/\O b=0
 above:∀k,j<k->ac c.P c.m0 k n=0
 kept:w.tape=c.m0.world.tape/\w.os=c.m0.world.os/\w.output=c.m0.world.output
 old:∀b,c.old b->w.heap[b]?=c.m0.world.heap[b]?
end
section
variable[Payload]{c:Kx}{bB AnchW:Z7->W'->Prop}{n:Nat}{gs:Array Z7}{w w':W'}{t:Z'}{j:Nat}{D:Nat->WD}{sb:Nat->Nat}{tag:CTag}{f0 d0:Nat}{bs:Nat->Prop}{a:Z7}{st sm:Int}{O Lw:Nat->Nat}{val:Nat->Z3}
theorem CI.l0(h:CI c bB AnchW n gs w t j D sb tag f0 d0 bs a st sm O Lw val):c.L0<=w.heap.size:=XQ (h.J1 j) h.UO
theorem CI.Wy(h:CI c bB AnchW n gs w t j D sb tag f0 d0 bs a st sm O Lw val){k:Nat}(hk:k<=j):Lw k<=w.heap.size:=XQ (h.lw k hk) h.UO
theorem CI.at(h:CI c bB AnchW n gs w t j D sb tag f0 d0 bs a st sm O Lw val)(Y:∀i S v w d,c.res i S v w->c.res i S v (World.at w d))(d:Nat):CI c bB AnchW n gs (w.at d) t j D sb tag f0 d0 bs a st sm O Lw val:=
 ⟨h.size,h.g0,h.cs.rely ⟨id,λ_ _=>rfl,λ_ _=>rfl⟩,λi hi=>let ⟨g,hg,hs⟩:=h.wk i hi;⟨g,hg,hs.at d λi S v=>Y i S v w d⟩,h.ct,h.norel,h.lo,h.t0,h.deaf0,h.deafW,h.rel,λi hp hi hs=>⟨(h.has i hp hi hs).1,Y _ _ _ _ d (h.has i hp hi hs).2⟩,h.pay,h.wg,h.mode,h.seen,h.W9,h.ph,h.pj,h.gone,h.J1,h.lw,h.UO,h.bs,h.above,h.kept,h.old⟩
variable(bF:∀i (S S':Nat->Prop) v w w',c.res i S v w->(∀b,b<w.heap.size->S b->w'.heap[b]?=w.heap[b]?)->w.heap.size<=w'.heap.size->(∀b,b<w.heap.size->S b->S' b)->c.res i S' v w')
include bF in
theorem CI.stepW(G:Geo c)(uD:∀g w,AnchW g w->g.status=.running)(h:CI c bB AnchW n gs w t j D sb tag f0 d0 bs a st sm O Lw val){i:Nat}(hi:i<j)(uC:(pk c.P (rs c.P c.m0 n)).1=i+1){g g':Z7}{fn:ϋ}{pos:String}{es:Array ϊ}{O':Nat->Nat}{v':Z3}{s' sb' m' dd':Nat}{st' uV:Int}
  (hO:∀b,b<w.heap.size->O' b=O b) (fS:∀i',c.p<=i'->i'<j->i'≠i->zg c O Lw i' w w') (hR0:R0 c bs w w') (hk:w'.tape=w.tape/\w'.os=w.os/\w'.output=w.output) (eQ:w.heap.size<=w'.heap.size)
  (yK:WS c (n+1) i O' Lw v' s' sb' m' dd' g' w') (bg:∀op∈MemOp.ofEvents (i+1) fn pos es,OkW c.Sh (nG c O') (Ec c O' Lw) (i+1) op) (Jp:Seen (MemOp.ofEvents (i+1) fn pos es) w'.heap.size) (Bm:Kf c.p c.Wg (MemOp.ofEvents (i+1) fn pos es)) (hph:i<c.p->s'=1/\∀e∈es,(MemAct.ofEvent e).touch?=none) (QZ:∀e∈es,e.loc≠.mark (.release (stA c.Wg)))
  (Nf:deafBehind (D i).deaf es=dd') (dW:c.p<=i->s'<=6->∃r,RelBy (stA c.Wg) (t++MemOp.ofEvents (i+1) fn pos es) (i+1) r) (M8:c.p<=i->s'<=6->Has c.C (i - c.p) v' w'/\c.res i (Eb c O' i) v' w') (FW:PayAt c.C c.q w') (iQ:WgAt c.ty c.Wg w' st' uV)
  (eI:∀tag',(tag'=tag\/(tag=.blk/\tag'=.w3))->(mayWake c.P g=true->g'.status=.running->tag'≠.blk)->ConcN.Mode j (upd D i ⟨s',m',dd'⟩) tag' st' uV) :
  ∃tag' f',CI c bB AnchW (n+1) ((gs.map (woken c.P g g' w')).setIfInBounds (i+1) g') w' (t++MemOp.ofEvents (i+1) fn pos es) j (upd D i ⟨s',m',dd'⟩) (upd sb i sb') tag' f' d0 bs (woken c.P g g' w' a) st' uV O' Lw (upd val i v')/\f'<=f0+1/\(tag'=tag\/(tag=.blk/\tag'=.w3)):=by
 have⟨tag',f',vR,Vk,QS,UY⟩:=h.cs.wokenBy uD hR0 g g';refine⟨tag',f',⟨by simp[h.size],by rw[get_map_set _ _ _ _ (by omega),h.g0];rfl,vR,λi' jm=>?_,?_,h.norel.app (norel_of QZ),RK h.lo h.t0,al0 h.t0,by rw[Deaf_other t (by omega) _ g_of_ofEvents,h.deaf0],λi' jm=>?_,λi' hp jm dU=>?_,λi' hp jm dU=>?_,FW,iQ,eI tag' QS UY,h.seen.app eQ Jp,h.W9.app Bm,λi' hp=>?_,h.pj,h.gone.app λop cF=>?_,h.J1,h.lw,XQ h.UO eQ,λb hb=>?_,λk kX=>?_,⟨hk.1.trans h.kept.1,hk.2.1.trans h.kept.2.1,hk.2.2.trans h.kept.2.2⟩,λb hb=>(hR0.old b hb).trans (h.old b hb)⟩,Vk,QS⟩
 ·by_cases e:i'=i
  ·subst e
   exact⟨g',get_map_set_same _ _ _ (by rw[h.size];omega),by rw[upd_same,upd_same,upd_same];exact yK⟩
  ·have⟨x,hx,hsx⟩:=h.wk i' jm
   refine⟨x,by rw[get_map_set _ _ _ _ (by omega),hx,XB,hsx.woken],?_⟩;rw[upd_ne D _ e,upd_ne sb _ e,upd_ne val _ e];rcases XP i' c.p with hp|hp
   ·have h1:=h.ph i' hp
    rw[h1]at hsx ⊢;exact hsx.aU4
   ·exact hsx.others bF (fS i' hp jm e) (by rw[uC];omega) hO h.l0 E (h.Wy (by omega))
 ·exact(AU h.ct h.seen hO λ_ _=>rfl).appW (apart c G O' Lw) (by omega) (by omega) bg
 ·by_cases e:i'=i
  ·subst e;rw[Deaf_own,h.deafW i' jm,upd_same];exact Nf
  ·rw[Deaf_other t (by omega) _ g_of_ofEvents,h.deafW i' jm,upd_ne D _ e]
 ·by_cases e:i'=i
  ·subst e;rw[upd_same]at dU;exact dW hp dU
  ·rw[upd_ne D _ e]at dU
   have⟨r,Y⟩:=h.rel i' hp jm dU;exact⟨r,Y.appOther g_of_ofEvents (by omega)⟩
 ·by_cases e:i'=i
  ·subst e;rw[upd_same]at dU;rw[upd_same];exact M8 hp dU
  ·rw[upd_ne D _ e]at dU
   rw[upd_ne val _ e];exact⟨(fS i' hp jm e).cell.trans (h.has i' hp jm dU).1,lV bF (h.has i' hp jm dU).2 (fS i' hp jm e) hO⟩
 ·by_cases e:i'=i
  ·subst e;rw[upd_same];exact(hph hp).1
  ·rw[upd_ne D _ e];exact h.ph i' hp
 ·rcases XP i c.p with hp|hp
  ·rw[ofEvents_eq]at cF
   obtain⟨e,he,rfl⟩:=Array.mem_map.1 cF;exact .inr (.inr ((hph hp).2 e he))
  ·exact .inr (.inl (by rw[g_of_ofEvents op cF];omega))
 ·have⟨h1,h2,h3⟩:=h.bs b hb
  exact⟨h1,XD h2 eQ,by rw[hO b h2];exact h3⟩
 ·show used _ _ _ _ _=0
  have:=h.above k kX;simp only[used,uC,Xr (show ¬i+1=k by omega)];exact this
include bF in
theorem CI.step0(G:Geo c)(h:CI c bB AnchW n gs w t j D sb tag f0 d0 bs a st sm O Lw val)(uC:(pk c.P (rs c.P c.m0 n)).1=0){a':Z7}{fn:ϋ}{pos:String}{es:Array ϊ}{O':Nat->Nat}{bs':Nat->Prop}{tag':CTag}{f':Nat}{st' uV:Int}
  (hO:∀b,b<w.heap.size->O' b=O b) (fS:∀i,c.p<=i->i<j->zg c O Lw i w w') (hold:∀b,c.old b->w'.heap[b]?=w.heap[b]?) (hk:w'.tape=w.tape/\w'.os=w.os/\w'.output=w.output) (eQ:w.heap.size<=w'.heap.size)
  (vR:CS c bB AnchW tag' j f' (deafBehind d0 es) bs' a' w') (bg:∀op∈MemOp.ofEvents 0 fn pos es,Ok0 c.Sh (nG c O') (Ec c O' Lw) j op) (Jp:Seen (MemOp.ofEvents 0 fn pos es) w'.heap.size) (QZ:∀e∈es,e.loc≠.mark (.release (stA c.Wg)))
  (FW:PayAt c.C c.q w') (iQ:WgAt c.ty c.Wg w' st' uV) (eI:ConcN.Mode j D tag' st' uV) (J7:∀b,bs' b->Lw j<=b/\b<w'.heap.size/\O' b=0) :
  CI c bB AnchW (n+1) ((gs.map (woken c.P a a' w')).setIfInBounds 0 a') w' (t++MemOp.ofEvents 0 fn pos es) j D sb tag' f' (deafBehind d0 es) bs' a' st' uV O' Lw val:=by
 refine⟨by simp[h.size],get_map_set_same _ _ _ (by rw[h.size];omega),vR,λi hi=>?_,(AU h.ct h.seen hO λ_ _=>rfl).app0 (apart c G O' Lw) bg,h.norel.app (norel_of QZ),RK h.lo h.t0,al0 h.t0,by rw[Deaf_own,h.deaf0],λi hi=>by rw[Deaf_other t (by omega) _ g_of_ofEvents,h.deafW i hi],λi hp hi dU=>?_,λi hp hi dU=>?_,FW,iQ,eI,h.seen.app eQ Jp,h.W9.app (DX g_of_ofEvents),h.ph,h.pj,h.gone.app λop cF=>.inl (g_of_ofEvents op cF),h.J1,h.lw,XQ h.UO eQ,J7,λk kX=>?_,⟨hk.1.trans h.kept.1,hk.2.1.trans h.kept.2.1,hk.2.2.trans h.kept.2.2⟩,λb hb=>(hold b hb).trans (h.old b hb)⟩
 ·have⟨x,hx,hsx⟩:=h.wk i hi
  refine⟨x,by rw[get_map_set _ _ _ _ (by omega),hx,XB,hsx.woken],?_⟩;rcases XP i c.p with hp|hp
  ·have h1:=h.ph i hp
   rw[h1]at hsx ⊢;exact hsx.aU4
  ·exact hsx.others bF (fS i hp hi) (by rw[uC];omega) hO h.l0 E (h.Wy (by omega))
 ·have⟨r,Y⟩:=h.rel i hp hi dU
  exact⟨r,Y.appOther g_of_ofEvents (by omega)⟩
 ·exact⟨(fS i hp hi).cell.trans (h.has i hp hi dU).1,lV bF (h.has i hp hi dU).2 (fS i hp hi) hO⟩
 ·show used _ _ _ _ _=0
  have:=h.above k kX;simp only[used,uC,Xr (show ¬0=k by omega)];exact this
end
theorem QC{l:List Z3}(h:∀x∈l,∃M,∀f:Re,(∀b,b<M->f b=b)->rV f x=x):∃M,∀f:Re,(∀b,b<M->f b=b)->∀x∈l,rV f x=x:=by
 induction l with
 | nil=>exact⟨0,λf _ x hx=>by cases hx⟩
 | cons a l ih=>
  have⟨M1,h1⟩:=h a (XX ..);obtain⟨M2,h2⟩:=ih λx hx=>h x (Yc _ hx);refine⟨max M1 M2,λf hf x hx=>?_⟩;rcases Xy.1 hx with rfl|hx
  ·exact h1 f λb hb=>hf b (by omega)
  ·exact h2 f (λb hb=>hf b (by omega)) x hx
theorem lB{c:Array Z3}(h:∀x∈c,∃M,∀f:Re,(∀b,b<M->f b=b)->rV f x=x):∃M,∀f:Re,(∀b,b<M->f b=b)->c.map (rV f)=c:=by
 obtain⟨M,hM⟩:=QC (l:=c.toList) λx hx=>h x (by simpa using hx);exact⟨M,λf hf=>jK λx hx=>hM f hf x (by simpa using hx)⟩
theorem HH(o:Option Nat):∃M,∀f:Re,(∀b,b<M->f b=b)->o.map f=o:=by
 cases o with
 | none=>exact⟨0,λ_ _=>rfl⟩
 | some b=>exact⟨b+1,λf hf=>by rw[XB,hf b (by omega)]⟩
theorem Cq(o:Option Addr):∃M,∀f:Re,(∀b,b<M->f b=b)->o.map (rA f)=o:=by
 cases o with
 | none=>exact⟨0,λ_ _=>rfl⟩
 | some a=>exact⟨a.block+1,λf hf=>by rw[XB,rA,hf a.block (by omega)]⟩
theorem Ad(v:Z3):∃M,∀f:Re,(∀b,b<M->f b=b)->rV f v=v:=by
 refine rV.induct (motive:=λv=>∃M,∀f:Re,(∀b,b<M->f b=b)->rV f v=v) (λa=>?_) (λa l c=>?_) (λr=>?_) (λr=>?_) (λfn f c h1 h2=>?_) (λt v h=>?_) (λc h=>?_) (λc h=>?_) (λv h1 h2 h3 h4 h5 h6 h7 h8=>?_) v
 ·have⟨M,h⟩:=Cq a
  exact⟨M,λf hf=>by rw[aM,h f hf]⟩
 ·have⟨M,h⟩:=Cq a
  exact⟨M,λf hf=>by rw[aW,h f hf]⟩
 ·have⟨M,h⟩:=HH r
  exact⟨M,λf hf=>by rw[cq,h f hf]⟩
 ·have⟨M,h⟩:=HH r
  exact⟨M,λf hf=>by rw[bM,h f hf]⟩
 ·have⟨M1,e1⟩:=lB h1
  have⟨M2,e2⟩:=lB h2
  have e3:∃M,∀g:Re,(∀b,b<M->g b=b)->rFn g fn=fn:=by
   cases fn<;>first|exact⟨0,λ_ _=>rfl⟩|skip
   rename_i l;exact⟨l+1,λg hg=>by rw[rFn,hg l (by omega)]⟩
  obtain⟨M3,e3⟩:=e3;exact⟨max M1 (max M2 M3),λg hg=>by rw[bK,e1 g λb hb=>hg b (by omega),e2 g λb hb=>hg b (by omega),e3 g λb hb=>hg b (by omega)]⟩
 ·obtain⟨M,h⟩:=h
  exact⟨M,λf hf=>by rw[bq,h f hf]⟩
 ·obtain⟨M,h⟩:=lB h
  exact⟨M,λf hf=>by rw[cg,h f hf]⟩
 ·obtain⟨M,h⟩:=lB h
  exact⟨M,λf hf=>by rw[bl,h f hf]⟩
 ·refine⟨0,λf _=>?_⟩
  cases v<;>first|(rw[rV]<;>assumption)|skip
  ·exact(h1 _ E).elim
  ·exact(h2 _ _ _ E).elim
  ·exact(h3 _ E).elim
  ·exact(h4 _ E).elim
  ·exact(h5 _ _ _ E).elim
  ·exact(h6 _ _ E).elim
  ·exact(h7 _ E).elim
  ·exact(h8 _ E).elim
theorem Mq(h:Array Obj):∃M,∀f:Re,(∀b,b<M->f b=b)->∀(b:Nat) (c:Array Z3) (e:Z5) (z:Nat × Nat),h[b]?=some (.cells c e z)->c.map (rV f)=c:=by
 have key:∀l:List Obj,∃M,∀f:Re,(∀b,b<M->f b=b)->∀(c:Array Z3) (e:Z5) (z:Nat × Nat),Obj.cells c e z∈l->c.map (rV f)=c:=by
  intro l
  induction l with
  | nil=>exact⟨0,λf _ c e z h=>by cases h⟩
  | cons o l ih=>
   have⟨M2,h2⟩:=ih
   have:∃M,∀f:Re,(∀b,b<M->f b=b)->∀(c:Array Z3) (e:Z5) (z:Nat × Nat),o=.cells c e z->c.map (rV f)=c:=by
    cases o with
    | cells c e z=>
     obtain⟨M,h⟩:=lB (c:=c) λx _=>Ad x;exact⟨M,λf hf c' e' z' he=>by cases he;exact h f hf⟩
    | _=>exact⟨0,λf _ c e z h=>by cases h⟩
   have⟨M1,h1⟩:=this;refine⟨max M1 M2,λf hf c e z hc=>?_⟩;rcases Xy.1 hc with hc|hc
   ·exact h1 f (λb hb=>hf b (by omega)) c e z hc.symm
   ·exact h2 f (λb hb=>hf b (by omega)) c e z hc
 have⟨M,hM⟩:=key h.toList;exact⟨M,λf hf b c e z hb=>hM f hf c e z (by simpa using Ym hb)⟩
section
variable{c:Kx}{w:W'}{M s d:Nat}{tp:Nat->Question->Nat}
open Classical in
theorem wk_heap(b:Nat)(hb:b<s):(c.wk w M s d tp).heap[b]?=some (if c.old b/\¬c.G b then (match w.heap[b]? with|some (.cells x e _)=>.cells x e (0,x.size)|_=>cu) else cu):=by
 unfold Kx.wk;simp only[Array.getElem?_ofFn,hb,dite_true]<;>congr
theorem nI:(c.wk w M s d tp).heap.size=s:=by simp[Kx.wk]
theorem zl{b:Nat}{o:Obj}(h:(c.wk w M s d tp).heap[b]?=some o)(J:o≠cu):(c.old b/\¬c.G b)/\∃x e z,w.heap[b]?=some (.cells x e z)/\o=.cells x e (0,x.size):=by
 have hb:b<s:=by have:=(Xz.1 h).1;rwa [nI]at this
 rw[wk_heap b hb]at h
 cases h
 by_cases ho:c.old b/\¬c.G b
 ·rw[Xu ho]at J ⊢
  split at J
  ·rename_i x e z hw
   exact⟨ho,x,e,z,hw,rfl⟩
  ·exact absurd E J
 ·rw[Xr ho]at J
  exact absurd E J
theorem aa0{f:Re}(hf:∀b,b<M->f b=b)(hs:M<=s):FR M 0 f (c.wk w M s d tp):=by
 refine⟨hf,λ_ _=>XC _,λb hb=>?_⟩;rw[wk_heap b (by omega)]
 split
 ·split
  ·exact .inr ⟨_,_,rfl⟩
  ·exact .inl E
 ·exact .inl E
theorem Xn{K:Kc}{f:Re}(hf:∀b,b<s->f b=b)(hc:∀(b:Nat) (x:Array Z3) (e:Z5) (z:Nat × Nat),w.heap[b]?=some (.cells x e z)->x.map (rV f)=x)(hs:M<=s)(hL:c.L0<=M):WR K M f (c.wk w M s d tp) (c.wk w M s d tp) w:=by
 have lt:∀{b:Nat} {o:Obj},(c.wk w M s d tp).heap[b]?=some o->b<s:=λh=>by have:=(Xz.1 h).1;rwa [nI]at this
 refine⟨λb o hb=>?_,λb b' o o' h1 h2 _ _ e=>?_,λ_ _=>rfl,by rw[nI];exact hs,λb h=>h,λb o o' hm h1 h2 J=>?_⟩
 ·rcases Zd (o=cu) with J|J
  ·exact .inl J
  ·obtain⟨_,x,e,z,hw,rfl⟩:=zl hb J
   refine .inr ⟨_,by rw[hf b (lt hb)];exact hw,?_⟩;have:=OR.cells (K:=K) (f:=f) x e (0,x.size) z λo h1 _ _=>⟨XC _,h1⟩;rwa [hc b x e z hw]at this
 ·rw[hf b (lt h1),hf b' (lt h2)]at e;exact e
 ·have⟨ho,_⟩:=zl h1 J
  have:=ho.1.1;omega
end
section
variable{Q P:Z4}{f:Re}{NG M N0:Nat}{W0:W'}
theorem IP(F:FR M N0 f W0)(H:Fk Q P (KO NG P) f){cs cs':List Frame}{cl:Frame}{fr:Frame}{g g':Z7}(R:GR NG Q P f cs (cl::cs') fr [] g g')(hm:fr.mode=.returning)(J:fr.defers=[]){wl w:W'}(hw:WR (KO NG P) M f W0 wl w){fn:Func}(hf:Q.funcs[fr.fn]?=some fn){v:Z3}{wE:W'}(hv:(results fn fr.tmps).run Q wl=.ok v wE)
  (m:Bool) (al:Al f wl w (stepG P m g' w)):∃w1 es,stepG P m g' w=.go (cy (cl.finish (rV f v)) cs') w1 es/\WR (KO NG P) M f W0 wE w1/\(∀e∈es,xN M f W0 wE.heap.size w1.heap.size e)/\Mv M f wl wE w w1:=by
 obtain⟨rfl,rfl,ok,_,_,base,_,rd⟩:=R;have⟨wB,fn2,q1,q2,q3⟩:=ok.fn (base E);obtain rfl:wB=fn:=by rw[q1]at hf;exact YT hf
 have q4:∀tmps,results fn2 tmps=results wB tmps:=λtmps=>by unfold results;rw[q3]
 have vO:(rF f fr).mode=.returning:=hm;have Bl:(rF f fr).defers=[]:=by simp[rF,J]
 have kX:(rF f fr).kind=.normal:=ok.kind;have Vk:P.funcs[(rF f fr).fn]?=some fn2:=q2;have e:∀l,stepG P m { frame:=rF f fr,callers:=l,status:=.running,dying:=none } w=unwind P m (rF f fr) l none w:=λl=>by simp[stepG,vO]
 simp only[Zq,Yt]at al ⊢;rw[e]at al ⊢;unfold unwind at al ⊢;simp only[Bl,vO,Vk,q4]at al ⊢;have ev:=Sem.runT_fst Q (results wB fr.tmps) wl #[]
 rcases jd (Q:=Q) F (uL H.lk wB fr.tmps) hw al (by
  rw[cQ]
  cases hq:(Sem.runT P (results wB (rF f fr).tmps) w #[]).1 with
  | ok v w2=>have QU:(Sem.runT P (results wB (fr.tmps.map (rV f))) w #[]).1=.ok v w2:=hq;rw[QU];exact lr ..
  | halt hh w2=>have QU:(Sem.runT P (results wB (fr.tmps.map (rV f))) w #[]).1=.halt hh w2:=hq;rw[QU];cases hh<;>exact .refl _) with ⟨h,w1,e1,r,hp,J⟩|⟨a,b,w1,dt,e1,new,r1,r2,r3,r4,r5,r6,r7⟩
 ·rw[r,hv]at ev;cases ev
 ·rw[r1,hv]at ev
  cases ev
  cases r3
  have So:Sem.runT P (results wB (rF f fr).tmps) w #[]=_:=r2;simp only[So,doReturn,kX,GStep.after];exact⟨_,_,rfl,r4,by simpa using r5 (rF f fr).fn,r6⟩
theorem tU{g:Nat}{fn:ϋ}{pos:String}{es:Array ϊ}{op:MemOp}(h:op∈MemOp.ofEvents g fn pos es):∃e∈es,op={ g,fn,pos,act:=.ofEvent e }:=by
 rw[ofEvents_eq]at h;obtain⟨e,he,rfl⟩:=Array.mem_map.1 h;exact⟨e,he,rfl⟩
def Lt3:Nat × Nat × Nat->Nat × Nat × Nat->Prop:=Prod.Lex (· < ·) (Prod.Lex (· < ·) (· < ·))
theorem lt3_wf:WellFounded Lt3:=(Prod.lex Nat.lt_wfRel (Prod.lex Nat.lt_wfRel Nat.lt_wfRel)).wf
theorem sH{a b d a' b' d':Nat}(h:a<a'\/(a=a'/\(b<b'\/(b=b'/\d<d')))):Lt3 (a,b,d) (a',b',d'):=by
 rcases h with h|⟨rfl,h|⟨rfl,h⟩⟩
 ·exact Prod.Lex.left _ _ h
 ·exact Prod.Lex.right _ (Prod.Lex.left _ _ h)
 ·exact Prod.Lex.right _ (Prod.Lex.right _ h)
structure OO(c:Kx)(n k:Nat)(g:Z7)(w:W'):Prop where
 hk:(pk c.P (rs c.P c.m0 n)).1=k
 hw:wd c.P (rs c.P c.m0 n)=w
 eQ:(rs c.P c.m0 n).world.heap.size=w.heap.size
 ht:(rs c.P c.m0 n).world.tape=c.m0.world.tape
 hsg:sg c.P (rs c.P c.m0 n)=stepG c.P (k==0) g w
theorem OO.ac{c:Kx}{n k:Nat}{g g':Z7}{w w':W'}{es:Array ϊ}(h:OO c n k g w)(hs:stepG c.P (k==0) g w=.go g' w' es):ac c.P c.m0 k (n+1)=ac c.P c.m0 k n+(w'.heap.size - w.heap.size)/\dc c.P c.m0 k (n+1)=dc c.P c.m0 k n+(w'.drawn - w.drawn):=by
 have e:gsW (sg c.P (rs c.P c.m0 n))=w':=by rw[h.hsg,hs];rfl
 constructor
 ·show used _ _ _ _ _=_
  simp only[used,h.hk,Yp,e,h.eQ]
 ·show used _ _ _ _ _=_
  simp only[used,h.hk,Yp,e];have:w.drawn=(pk c.P (rs c.P c.m0 n)).2.1:=by rw[<-h.hw];rfl
  rw[this]
variable[Payload]{c:Kx}{w w':W'}{O O' Lw:Nat->Nat}{i:Nat}
theorem zg.refl(w:W'):zg c O Lw i w w:=⟨λ_ _ _=>rfl,id,id,rfl,Xw _⟩
theorem zg.of_wg(G:Geo c)(h:Aside c.Wg w w')(hl:WgLive c.ty c.Wg w'):zg c O Lw i w w':=by
 have hW:=G.hW
 have hb:∀b,c.old b\/(c.L0<=b/\(O b=i+1\/(O b=0/\b<Lw (i+1))))->b≠c.Wg:=λb hb=>by
  rcases hb with h|⟨h,_⟩
  ·exact h.2.1
  ·omega
 exact⟨λb _ h'=>h.block b (hb b h'),λ_=>hl,λ⟨cs,hc,hn⟩=>⟨cs,(h.block c.C G.hCW).trans hc,hn⟩,by simp[World.cell?,h.block c.C G.hCW],YX h.size.symm⟩
theorem zg.of_cell(G:Geo c){i':Nat}(h:AsideCell c.C c.q (i' - c.p) w w')(hp:c.p<=i)(hp':c.p<=i')(eW:i≠i'):zg c O Lw i w w':=by
 have hC:=G.hC
 have hb:∀b,c.old b\/(c.L0<=b/\(O b=i+1\/(O b=0/\b<Lw (i+1))))->b≠c.C:=λb hb=>by
  rcases hb with h|⟨h,_⟩
  ·exact h.2.2
  ·omega
 exact⟨λb _ h'=>h.block b (hb b h'),λ⟨st,sm,hl⟩=>⟨st,sm,hl.of_block (h.block _ (Ne.symm G.hCW))⟩,h.pay,h.cells (i - c.p) (by omega),YX h.size.symm⟩
theorem R0.of_wg{bs:Nat->Prop}(G:Geo c)(h:Aside c.Wg w w')(hl:WgLive c.ty c.Wg w')(hb:∀b,bs b->c.L0<=b):R0 c bs w w':=
 ⟨λ_=>hl,λb hb=>h.block b hb.2.1,λb h'=>h.block b (by have:=hb b h';have:=G.hW;omega)⟩
theorem R0.of_cell{bs:Nat->Prop}(G:Geo c){i':Nat}(h:AsideCell c.C c.q i' w w')(hb:∀b,bs b->c.L0<=b):R0 c bs w w':=
 ⟨λ⟨st,sm,hl⟩=>⟨st,sm,hl.of_block (h.block _ (Ne.symm G.hCW))⟩,λb hb=>h.block b hb.2.2,λb h'=>h.block b (by have:=hb b h';have:=G.hC;omega)⟩
theorem ar7(G:Geo c)(hp:c.p<=i){Z:Nat->Prop}(hZ:Kb c O Lw i Z)(h0:c.L0<=Lw (i+1))(WT:Lw (i+1)<=w.heap.size){fn:ϋ}{pos:String}{es:Array ϊ}(fq:∀e∈es,EvZ c Z i e) :
  (∀op∈MemOp.ofEvents (i+1) fn pos es,OkW c.Sh (nG c O) (Ec c O Lw) (i+1) op)/\Seen (MemOp.ofEvents (i+1) fn pos es) w.heap.size/\Kf c.p c.Wg (MemOp.ofEvents (i+1) fn pos es)/\(∀e∈es,e.loc≠.mark (.release (stA c.Wg)))/\∀e∈es,e.loc≠.mark .disable/\e.loc≠.mark .enable:=by
 have hW:=G.hW;have hC:=G.hC
 have key:∀e,EvZ c Z i e->(∀x,(MemAct.ofEvent e).touch?=some x->((c.Sh x.loc/\x.kind≠.plain/\x.kind≠.said)\/nG c O (i+1) x.loc\/(Ec c O Lw (i+1) x.loc/\x.write=false))/\x.loc.low w.heap.size/\(x.kind=.atomic->ShN c.Wg x.loc))/\e.loc≠.mark (.release (stA c.Wg))/\e.loc≠.mark .disable/\e.loc≠.mark .enable:=by
  intro e he;rcases he with ⟨h1,h2,h3,h4⟩|⟨a,wr,rfl,hb⟩
  ·refine⟨λx hx=>?_,h4,h2,h3⟩
   rcases(h1 0 "").2 x hx with ⟨⟨a,ha,hb⟩,h5⟩|h5|h5
   ·exact⟨.inl ⟨.inl ⟨a,ha,hb⟩,h5⟩,by rw[ha];show a.block<_;omega,λ_=>⟨a,ha,hb⟩⟩
   ·exact h5.elim
   ·exact h5.1.elim
  ·refine⟨λx hx=>?_,by simp,by simp,by simp⟩
   have sK:x.loc=.cell a/\x.write=wr/\x.kind=.plain:=by cases wr<;>simp[MemAct.ofEvent,MemAct.touch?]at hx<;>subst hx<;>exact⟨rfl,rfl,rfl⟩
   rw[sK.1,sK.2.1,sK.2.2];rcases hb with rfl|⟨hz,hg,hw⟩
   ·exact⟨.inr (.inl ⟨by omega,.inl E⟩),show c.C<_ by omega,λh=>by cases h⟩
   ·rcases hZ.2 _ hz with h|⟨h1,h2,h3⟩
    ·exact⟨.inr (.inr ⟨⟨by omega,a,rfl,XD h.1 h0,h.2.1,h.2.2,hg,.inl h.1⟩,hw⟩),show a.block<_ by have:=h.1;omega,λh=>by cases h⟩
    ·exact⟨.inr (.inr ⟨⟨by omega,a,rfl,h3,by omega,by omega,hg,.inr h2⟩,hw⟩),show a.block<_ by omega,λh=>by cases h⟩
 refine⟨λop cF=>?_,λop cF x hx=>?_,λop cF x hx hk _=>?_,λe he=>(key e (fq e he)).2.1,λe he=>(key e (fq e he)).2.2⟩
 ·obtain⟨e,he,rfl⟩:=tU cF
  exact⟨rfl,λx hx=>((key e (fq e he)).1 x hx).1⟩
 ·obtain⟨e,he,rfl⟩:=tU cF
  exact((key e (fq e he)).1 x hx).2.1
 ·obtain⟨e,he,rfl⟩:=tU cF
  exact((key e (fq e he)).1 x hx).2.2 hk
theorem Ui(G:Geo c)(hp:c.p<=i){f:Re}{M L:Nat}{W0:W'}(CN:∀b o,b<M->W0.heap[b]?=some o->o≠cu->c.old b/\¬c.G b)(oK:∀b,M<=b->b<L->c.L0<=f b/\f b<w'.heap.size/\O' (f b)=i+1)(h0:c.L0<=Lw (i+1))(eQ:c.L0<=w'.heap.size){fn:ϋ}{pos:String}{es:Array ϊ}(fq:∀e∈es,xN M f W0 L w'.heap.size e) :
  (∀op∈MemOp.ofEvents (i+1) fn pos es,OkW c.Sh (nG c O') (Ec c O' Lw) (i+1) op)/\Seen (MemOp.ofEvents (i+1) fn pos es) w'.heap.size/\Kf c.p c.Wg (MemOp.ofEvents (i+1) fn pos es)/\(∀e∈es,e.loc≠.mark (.release (stA c.Wg)))/\∀e∈es,e.loc≠.mark .disable/\e.loc≠.mark .enable:=by
 have key:∀e,xN M f W0 L w'.heap.size e->(∀x,(MemAct.ofEvent e).touch?=some x->(nG c O' (i+1) x.loc\/(Ec c O' Lw (i+1) x.loc/\x.write=false))/\x.loc.low w'.heap.size/\x.kind≠.atomic)/\e.loc≠.mark (.release (stA c.Wg))/\e.loc≠.mark .disable/\e.loc≠.mark .enable:=λe he=>by
  cases he with
  | low a v h hc=>
   refine⟨λx hx=>?_,by simp,by simp,by simp⟩;simp only[MemAct.ofEvent,MemAct.touch?,XS]at hx;subst hx;have⟨cc,e,z,q,_⟩:=cellsOf? hc;have ho:=CN a.block _ h q (λe=>by cases e);have:=ho.1.1;exact⟨.inr ⟨⟨by omega,a,rfl,by omega,ho.1.2.1,ho.1.2.2,ho.2,.inl ho.1.1⟩,rfl⟩,show a.block<_ by omega,by simp⟩
  | own a wr b hb hl hn J e=>
   refine⟨λx hx=>?_,by simp,by simp,by simp⟩;have sK:x.loc=.cell a/\x.kind=.plain:=by cases wr<;>simp[MemAct.ofEvent,MemAct.touch?]at hx<;>subst hx<;>exact⟨rfl,rfl⟩
   have⟨k1,k2,k3⟩:=oK b hb hl;rw[sK.1,sK.2];exact⟨.inl ⟨by omega,.inr ⟨a.block,.inr ⟨a,rfl,rfl⟩,by rw[e];exact k1,by rw[e];exact k3⟩⟩,show a.block<_ by rw[e];exact k2,by simp⟩
  | obj b wr hb hl hn J=>
   refine⟨λx hx=>?_,by simp,by simp,by simp⟩;have sK:x.loc=.obj (f b)/\x.kind=.plain:=by cases wr<;>simp[MemAct.ofEvent,MemAct.touch?]at hx<;>subst hx<;>exact⟨rfl,rfl⟩
   have⟨k1,k2,k3⟩:=oK b hb hl;rw[sK.1,sK.2];exact⟨.inl ⟨by omega,.inr ⟨f b,.inl E,k1,k3⟩⟩,k2,by simp⟩
  | room m hm=>cases m<;>first|(simp[idleM]at hm;done)|exact⟨λx hx=>by simp[MemAct.ofEvent,MemAct.touch?]at hx,by simp,by simp,by simp⟩
 refine⟨λop cF=>?_,λop cF x hx=>?_,λop cF x hx hk _=>?_,λe he=>(key e (fq e he)).2.1,λe he=>(key e (fq e he)).2.2⟩
 ·obtain⟨e,he,rfl⟩:=tU cF
  exact⟨rfl,λx hx=>.inr (((key e (fq e he)).1 x hx).1)⟩
 ·obtain⟨e,he,rfl⟩:=tU cF
  exact((key e (fq e he)).1 x hx).2.1
 ·obtain⟨e,he,rfl⟩:=tU cF
  exact absurd hk ((key e (fq e he)).1 x hx).2.2
end
section
variable[Payload](c:Kx)(bB AnchW:Z7->W'->Prop)
def Nx(n k:Nat)(g:Z7)(gs:Array Z7)(w:W')(t:Z')(j:Nat)(μ:Nat × Nat × Nat):Prop:=
 ∃g' w' es D sb tag f0 d0 bs a st sm O Lw val,stepG c.P (k==0) g w=.go g' w' es/\CI c bB AnchW (n+1) ((gs.map (woken c.P g g' w')).setIfInBounds k g') w' (t++MemOp.ofEvents k g.frame.fn g.frame.place es) j D sb tag f0 d0 bs a st sm O Lw val/\
  Lt3 (phi c.n (Vc j D) tag+Ssum j D,sumTo j sb,f0+2*Fsum j D) μ
end
section
variable[Payload]{c:Kx}{bB AnchW:Z7->W'->Prop}{n:Nat}{gs:Array Z7}{w w':W'}{t:Z'}{j:Nat}{D:Nat->WD}{sb:Nat->Nat}{tag:CTag}{f0 d0:Nat}{bs:Nat->Prop}{a:Z7}{st sm:Int}{O Lw:Nat->Nat}{val:Nat->Z3}(bF:∀i (S S':Nat->Prop) v w w',c.res i S v w->(∀b,b<w.heap.size->S b->w'.heap[b]?=w.heap[b]?)->w.heap.size<=w'.heap.size->(∀b,b<w.heap.size->S b->S' b)->c.res i S' v w')
include bF in
theorem CI.GI(G:Geo c)(uD:∀g w,AnchW g w->g.status=.running)(h:CI c bB AnchW n gs w t j D sb tag f0 d0 bs a st sm O Lw val){i:Nat}(hi:i<j){g g':Z7}(hN:OO c n (i+1) g w){es:Array ϊ}(hgo:stepG c.P false g w=.go g' w' es){O':Nat->Nat}{v':Z3}{s' sb' m' dd':Nat}{st' uV:Int}
  (hO:∀b,b<w.heap.size->O' b=O b) (fS:∀i',c.p<=i'->i'<j->i'≠i->zg c O Lw i' w w') (hR0:R0 c bs w w') (hk:w'.tape=w.tape/\w'.os=w.os/\w'.output=w.output) (eQ:w.heap.size<=w'.heap.size)
  (yK:WS c (n+1) i O' Lw v' s' sb' m' dd' g' w') (bg:∀op∈MemOp.ofEvents (i+1) g.frame.fn g.frame.place es,OkW c.Sh (nG c O') (Ec c O' Lw) (i+1) op) (Jp:Seen (MemOp.ofEvents (i+1) g.frame.fn g.frame.place es) w'.heap.size) (Bm:Kf c.p c.Wg (MemOp.ofEvents (i+1) g.frame.fn g.frame.place es)) (hph:i<c.p->s'=1/\∀e∈es,(MemAct.ofEvent e).touch?=none) (QZ:∀e∈es,e.loc≠.mark (.release (stA c.Wg)))
  (Nf:deafBehind (D i).deaf es=dd') (dW:c.p<=i->s'<=6->∃r,RelBy (stA c.Wg) (t++MemOp.ofEvents (i+1) g.frame.fn g.frame.place es) (i+1) r) (M8:c.p<=i->s'<=6->Has c.C (i - c.p) v' w'/\c.res i (Eb c O' i) v' w') (FW:PayAt c.C c.q w') (iQ:WgAt c.ty c.Wg w' st' uV)
  (eI:∀tag',(tag'=tag\/(tag=.blk/\tag'=.w3))->(mayWake c.P g=true->g'.status=.running->tag'≠.blk)->ConcN.Mode j (upd D i ⟨s',m',dd'⟩) tag' st' uV)
  (bH:(s'<(D i).stage/\cnt ⟨s',m',dd'⟩<=cnt (D i))\/(s'=(D i).stage/\(sb'<sb i\/(sb'=sb i/\m'+1=(D i).fuel)))) :
  Nx c bB AnchW n (i+1) g gs w t j (phi c.n (Vc j D) tag+Ssum j D,sumTo j sb,f0+2*Fsum j D):=by
 have⟨tag',f',yO,Vk,QS⟩:=h.stepW bF G uD hi hN.hk hO fS hR0 hk eQ yK bg Jp Bm hph QZ Nf dW M8 FW iQ eI;have e1:=sumTo_upd D (⟨s',m',dd'⟩:WD) cnt hi;have e2:=sumTo_upd D (⟨s',m',dd'⟩:WD) WD.stage hi;have e3:=sumTo_upd D (⟨s',m',dd'⟩:WD) WD.fuel hi;have e4:=sumTo_upd sb sb' id hi;refine⟨g',w',es,_,_,tag',f',d0,bs,_,_,_,O',Lw,_,by simpa using hgo,yO,?_⟩;rw[phi_retag c.n _ QS];simp only[Vc,Ssum,Fsum,id]at *;refine sH ?_;rcases bH with ⟨h1,h2⟩|⟨h1,h2⟩
 ·have:=phi_mono c.n (v':=sumTo j λa=>cnt (upd D i ⟨s',m',dd'⟩ a)) (v:=sumTo j λa=>cnt (D a)) (by omega) tag
  exact .inl (by omega)
 ·have ec:cnt (⟨s',m',dd'⟩:WD)=cnt (D i):=by simp only[cnt,h1]
  have ev:(sumTo j λa=>cnt (upd D i ⟨s',m',dd'⟩ a))=sumTo j λa=>cnt (D a):=by omega
  rw[ev];refine .inr ⟨by omega,?_⟩;have es4:sumTo j (upd sb i sb')+sb i=sumTo j sb+sb':=e4;rcases h2 with h2|⟨h2,h3⟩
  ·exact .inl (by omega)
  ·exact .inr ⟨by omega,by omega⟩
end
theorem G8{Wg g B:Nat}{fn:ϋ}{pos:String}{es:Array ϊ}(h:∀e∈es,Bk Wg e)(hB:Wg<B):Seen (MemOp.ofEvents g fn pos es) B:=λop cF x hx=>by
 obtain⟨e,he,rfl⟩:=tU cF;rcases h e he with h1|h1|⟨a,wr,rfl,ha⟩
 ·simp only[ofEvent_loc_mark h1]at hx;cases hx
 ·simp only[ofEvent_loc_mark h1]at hx;cases hx
 ·simp only[ofEvent_cell,MemAct.touch?,XS]at hx
  subst hx;show a.block<B
  omega
theorem Wb{p Wg g:Nat}{fn:ϋ}{pos:String}{es:Array ϊ}(h:∀e∈es,Bk Wg e):Kf p Wg (MemOp.ofEvents g fn pos es):=λop cF x hx _ _=>by
 obtain⟨e,he,rfl⟩:=tU cF;rcases h e he with h1|h1|⟨a,wr,rfl,ha⟩
 ·simp only[ofEvent_loc_mark h1]at hx;cases hx
 ·simp only[ofEvent_loc_mark h1]at hx;cases hx
 ·simp only[ofEvent_cell,MemAct.touch?,XS]at hx
  subst hx;exact⟨a,rfl,ha⟩
theorem Ow{p Wg g:Nat}{fn:ϋ}{pos:String}{es:Array ϊ}(h:∀e∈es,(MemAct.ofEvent e).touch?=none):Kf p Wg (MemOp.ofEvents g fn pos es):=λop cF x hx _ _=>by
 obtain⟨e,he,rfl⟩:=tU cF;simp only[h e he]at hx;cases hx
theorem seen_none{g B:Nat}{fn:ϋ}{pos:String}{es:Array ϊ}(h:∀e∈es,(MemAct.ofEvent e).touch?=none):Seen (MemOp.ofEvents g fn pos es) B:=λop cF x hx=>by
 obtain⟨e,he,rfl⟩:=tU cF;simp only[h e he]at hx;cases hx
section
variable[Payload]{c:Kx}{bB AnchW:Z7->W'->Prop}{n:Nat}{gs:Array Z7}{w w':W'}{t:Z'}{j:Nat}{D:Nat->WD}{sb:Nat->Nat}{tag:CTag}{f0 d0:Nat}{bs:Nat->Prop}{a:Z7}{st sm:Int}{O Lw:Nat->Nat}{val:Nat->Z3}(bF:∀i (S S':Nat->Prop) v w w',c.res i S v w->(∀b,b<w.heap.size->S b->w'.heap[b]?=w.heap[b]?)->w.heap.size<=w'.heap.size->(∀b,b<w.heap.size->S b->S' b)->c.res i S' v w')(HF:∀f:Re,(∀b,b<c.L0->f b=b)->Fk c.Q c.P (KO c.NG c.P) f)(iP:c.NG=0)(oZ:∀i v M f W0 wE w' (S:Nat->Prop),c.post i v wE->WR (KO c.NG c.P) M f W0 wE w'->(∀b o,wE.heap[b]?=some o->o≠cu->S (f b))->c.res i S (rV f v) w')
theorem AM{P:Z4}{m0:Z9}{k M b:Nat}(h:b<M):fk P m0 k M b=b:=by unfold fk;rw[Xu h]
include bF HF iP oZ in
theorem CI.K5(G:Geo c)(uD:∀g w,AnchW g w->g.status=.running)(h:CI c bB AnchW n gs w t j D sb tag f0 d0 bs a st sm O Lw val){i:Nat}(hp:c.p<=i)(hi:i<j){g:Z7}(hN:OO c n (i+1) g w)(dU:(D i).stage=7)(Es:sb i=1)(Vp:(D i).deaf=0){Z:Nat->Prop}{N x:Nat}{cl:Frame}{cs:List Frame}{wc:W'}
  (hfu:(D i).fuel=N - x) (hZ:Kb c O Lw i Z) (hS:Gy c n i O N x cl cs g w) (hk:∀b,Z b->w.heap[b]?=wc.heap[b]?) (ha:∀v w' S,c.res i S v w'->(∀b,Z b->w'.heap[b]?=wc.heap[b]?)->WgLive c.ty c.Wg w'->PayAt c.C c.q w'->∃m,Goes c.P false (RZ c Z i) (DZ c Z i) (AtR c i v) m (cy (cl.finish v) cs) w') :
  Nx c bB AnchW n (i+1) g gs w t j (phi c.n (Vc j D) tag+Ssum j D,sumTo j sb,f0+2*Fsum j D):=by
 obtain⟨M,W0,Be,cB,wE,v,fr,cI,wl,⟨L,hmE,hdE,⟨fn,WX,hv⟩,yL⟩,S,hj,F,hM,J,hs,ht,ho,oK⟩:=hS;have hW:=G.hW;have hC:=G.hC;have SO:=h.l0;have WT:=h.Wy (k:=i+1) (by omega);have HS:((i+1)==0)=false:=by simp
 have al:=Wh (M:=M) hN.hk hN.ht J hs ht;rw[hN.hw,hN.hsg,HS]at al;have H:=HF (fk c.P c.m0 (i+1) M) λb hb=>AM (by omega)
 have fin:∀(g1:Z7) (w1:W') (es:Array ϊ) (Xm:W') (v':Z3) (sb':Nat),stepG c.P false g w=.go g1 w1 es->(∀e∈es,xN M (fk c.P c.m0 (i+1) M) W0 Xm.heap.size w1.heap.size e)->Mv M (fk c.P c.m0 (i+1) M) wl Xm w w1->
   ((∀b,Z b->w1.heap[b]?=wc.heap[b]?)->(∀b,M<=b->b<Xm.heap.size->c.L0<=fk c.P c.m0 (i+1) M b/\fk c.P c.m0 (i+1) M b<w1.heap.size/\(if fk c.P c.m0 (i+1) M b<w.heap.size then O (fk c.P c.m0 (i+1) M b) else i+1)=i+1)->
    WgLive c.ty c.Wg w1->PayAt c.C c.q w1->Kb c (λb=>if b<w.heap.size then O b else i+1) Lw i Z->∃m',WS c (n+1) i (λb=>if b<w.heap.size then O b else i+1) Lw v' 7 sb' m' 0 g1 w1/\(sb'<1\/(sb'=1/\m'+1=N - x)))->
   Nx c bB AnchW n (i+1) g gs w t j (phi c.n (Vc j D) tag+Ssum j D,sumTo j sb,f0+2*Fsum j D):=by
  intro g1 w1 es Xm v' sb' hgo fq pU hws;have hO:∀b,b<w.heap.size->(λb=>if b<w.heap.size then O b else i+1) b=O b:=λb hb=>by simp only;rw[Xu hb]
  have I5:∀b,M<=b->b<Xm.heap.size->c.L0<=fk c.P c.m0 (i+1) M b/\fk c.P c.m0 (i+1) M b<w1.heap.size/\(if fk c.P c.m0 (i+1) M b<w.heap.size then O (fk c.P c.m0 (i+1) M b) else i+1)=i+1:=by
   intro b h1 h2;rcases XP b wl.heap.size with hb|hb
   ·have⟨k1,k2,k3⟩:=oK b h1 hb
    exact⟨k1,XD k2 pU.FA,by rw[Xu k2];exact k3⟩
   ·have e1:=pU.n
    have e2:=al.2 (b - wl.heap.size) (by rw[hgo];show w.heap.size+_<w1.heap.size;omega);rw[show wl.heap.size+(b - wl.heap.size)=b by omega]at e2;rw[e2];exact⟨by omega,by omega,by rw[Xr (by omega)]⟩
  have cr:∀b,b<w.heap.size->(b<c.L0\/O b≠i+1)->w1.heap[b]?=w.heap[b]?:=λb hb h'=>pU.cr b hb λq h1 h2 e=>by
   have⟨k1,k2,k3⟩:=oK q h1 h2;rw[e]at k1 k3;rcases h' with h'|h'
   ·omega
   ·exact absurd k3 h'
  have kW:w1.heap[c.Wg]?=w.heap[c.Wg]?:=cr _ (by omega) (.inl hW);have kC:w1.heap[c.C]?=w.heap[c.C]?:=cr _ (by omega) (.inl hC);have⟨RH,bW,bV⟩:=h.pay;have Cs:WgAt c.ty c.Wg w1 st sm:=h.wg.of_block kW;have LJ:PayAt c.C c.q w1:=⟨RH,kC.trans bW,bV⟩
  have kz:∀b,Z b->w1.heap[b]?=w.heap[b]?:=λb hb=>by
   rcases hZ.2 b hb with h1|⟨h1,h2,h3⟩
   ·exact cr b (by have:=h1.1;omega) (.inl h1.1)
   ·exact cr b (by omega) (.inr (by omega))
  obtain⟨m',hws,bH⟩:=hws (λb hb=>(kz b hb).trans (hk b hb)) I5 ⟨_,_,Cs⟩ LJ (hZ.turn hO E WT);have iU:=Ui (w':=w1) (O':=λb=>if b<w.heap.size then O b else i+1) (Lw:=Lw) (fn:=g.frame.fn) (pos:=g.frame.place) G hp ho I5 (h.J1 _) (XQ SO pU.FA) fq
  refine h.GI bF G uD hi hN hgo (O':=λb=>if b<w.heap.size then O b else i+1) (v':=v') (s':=7) (sb':=sb') (m':=m') (dd':=0) hO (λi' _ _ eW=>⟨λb hb h'=>?_,λ⟨x,y,hx⟩=>⟨x,y,hx.of_block kW⟩,λ⟨x,hx,hy⟩=>⟨x,kC.trans hx,hy⟩,by simp[World.cell?,kC],pU.FA⟩)
   ⟨λ⟨x,y,hx⟩=>⟨x,y,hx.of_block kW⟩,λb hb=>cr b (by have:=hb.1;omega) (.inl hb.1),λb hb=>?_⟩ ⟨pU.t',pU.os',pU.ae9⟩ pU.FA hws iU.1 iU.2.1 iU.2.2.1 (λh=>by omega) iU.2.2.2.1 (by rw[Vp];exact deafBehind_idle iU.2.2.2.2 0)
   (λ_ h=>by omega) (λ_ h=>by omega) LJ Cs (λ_ ht _=>ConcN.Mode.retag (by have:=h.mode.same (i:=i) m' 0;rwa [dU]at this) ht) (.inr ⟨dU.symm,by rw[Es,hfu];exact bH⟩)
  ·rcases h' with h'|⟨_,h'|⟨h',_⟩⟩
   ·exact cr b hb (.inl h'.1)
   ·exact cr b hb (.inr (by omega))
   ·exact cr b hb (.inr (by omega))
  ·have⟨k1,k2,k3⟩:=h.bs b hb
   exact cr b k2 (.inr (by omega))
 rcases OL.next F H L S hj false (λh=>absurd iP h) al with ⟨rfl,rfl,rfl,rfl⟩|⟨bH,xB,dt,es',gq,nh,w1,hgo,S1,fq,pU⟩
 ·obtain⟨w1,es,hgo,hwr,fq,pU⟩:=IP F H S.gr hmE hdE S.wr WX hv false al
  refine fin _ w1 es wl (rV (fk c.P c.m0 (i+1) M) v) 0 hgo fq pU λkz I5 Cs LJ hZ'=>?_
  have sL:=oZ i v M _ W0 wl w1 (Eb c (λb=>if b<w.heap.size then O b else i+1) i) yL hwr λb o hb J=>by
   rcases XP b M with h1|h1
   ·rw[hwr.low b h1]at hb
    rw[AM h1];exact .inl (ho b o h1 hb J)
   ·have⟨k1,k2,k3⟩:=I5 b h1 (Xz.1 hb).1
    exact .inr ⟨k1,k3⟩
  obtain⟨m,hm⟩:=ha (rV (fk c.P c.m0 (i+1) M) v) w1 _ sL kz Cs LJ;exact⟨m,.post hZ' hm sL,.inl (by omega)⟩
 ·have e:=hN.ac (by rw[HS];exact hgo)
  refine fin xB dt es' w1 (val i) 1 hgo fq pU λkz I5 Cs LJ hZ'=>⟨N - (x+1),?_,.inr ⟨rfl,by omega⟩⟩;refine .K5 (N:=N) (j:=x+1) hZ' ⟨M,W0,Be,cB,wE,v,gq,nh,w1,⟨L,hmE,hdE,⟨fn,WX,hv⟩,yL⟩,S1,by omega,F,hM,?_,?_,pU.t.trans ht,ho,I5⟩ kz ha
  ·have:=pU.d
   have:=pU.dle;rw[e.2];omega
  ·have:=pU.n
   have:=pU.FA;rw[e.1];omega
omit [Payload] in
theorem al7{Own Rd:Nat->Loc->Prop}{k:Nat}{op:MemOp}(h:OkW (ShN c.Wg) Own Rd k op):OkW c.Sh Own Rd k op:=⟨h.1,λx hx=>(h.2 x hx).imp (λh=>⟨.inl h.1,h.2⟩) id⟩
include bF HF iP oZ in
theorem CI.worker(G:Geo c)(uD:∀g w,AnchW g w->g.status=.running)(h:CI c bB AnchW n gs w t j D sb tag f0 d0 bs a st sm O Lw val){i:Nat}(hi:i<j){g:Z7}(hg:gs[i+1]?=some g)(bR:g.status=.running)(hN:OO c n (i+1) g w) :
  Nx c bB AnchW n (i+1) g gs w t j (phi c.n (Vc j D) tag+Ssum j D,sumTo j sb,f0+2*Fsum j D):=by
 have⟨aC4,aU5,hs⟩:=h.wk i hi;obtain rfl:g=aC4:=by rw[hg]at aU5;exact YT aU5
 generalize dU:(D i).stage=s at hs;generalize hfu:(D i).fuel=m at hs;generalize Vp:(D i).deaf=dd at hs;generalize Es:sb i=q at hs;have hW:=G.hW;have hC:=G.hC;have SO:=h.l0;have hb:=h.cs.bound;have hVj:=Vc_le j D;have hdk:Deaf t (i+1)=dd:=by rw[h.deafW i hi,Vp]
 have WT:=h.Wy (k:=i+1) (by omega);have HS:((i+1)==0)=false:=by simp
 have J7:∀b,bs b->c.L0<=b:=λb hb=>XQ (h.J1 j) (h.bs b hb).1;have⟨RH,aB7,aB6⟩:=h.pay;rcases XP i c.p with hp|hp
 ·have h1:s=1:=dU.symm.trans (h.ph i hp)
  subst h1;obtain⟨_,rfl,rfl,hq⟩:=hs.ph;rename_i x
  cases x with
  | zero=>rw[hq.1]at bR;cases bR
  | succ x=>
   rcases hq with ⟨hf,_⟩|⟨_,g',es,HR,cN,hq⟩
   ·rw[hf]at bR;cases bR
   ·have Aw:∀e∈es,(MemAct.ofEvent e).touch?=none:=λe he=>touch_mute (HR e he)
    exact h.GI bF G uD hi hN (cN w) (O':=O) (v':=val i) (s':=1) (sb':=0) (m':=x) (dd':=deafBehind dd es) (λ_ _=>rfl) (λ_ _ _ _=>zg.refl w) (R0.refl w) ⟨rfl,rfl,rfl⟩ (Xw _) (.late (by omega) (.quit hq)) (λop cF=>al7 (okW_none Aw op cF)) (seen_none Aw) (Ow Aw) (λ_=>⟨rfl,Aw⟩)
     (norel_of_Bk λe he=>bk_of_mute (HR e he)) (by rw[Vp]) (λh=>by omega) (λh=>by omega) h.pay h.wg (λ_ ht _=>ConcN.Mode.retag (by have:=h.mode.same (i:=i) x (deafBehind dd es);rwa [dU]at this) ht) (.inr ⟨dU.symm,.inr ⟨Es.symm,hfu.symm⟩⟩)
 have work:∀{Z:Nat->Prop} {g':Z7} {w':W'} {es:Array ϊ} {m' q':Nat},s=7->dd=0->Kb c O Lw i Z->stepG c.P false g w=.go g' w' es->AsideCell c.C c.q (i - c.p) w w'->(∀e∈es,EvZ c Z i e)->
   (ac c.P c.m0 (i+1) (n+1)=ac c.P c.m0 (i+1) n->Kb c O Lw i Z->WS c (n+1) i O Lw (val i) 7 q' m' 0 g' w')->(q'<q\/(q'=q/\m'+1=m))->
   Nx c bB AnchW n (i+1) g gs w t j (phi c.n (Vc j D) tag+Ssum j D,sumTo j sb,f0+2*Fsum j D):=by
  intro Z g' w' es m' q' h7 Pd hZ hgo Eu fq hws bH;subst h7 Pd;have iU:=ar7 (c:=c) (w:=w) (O:=O) (Lw:=Lw) (fn:=g.frame.fn) (pos:=g.frame.place) G hp hZ (h.J1 _) WT fq;have e:=(hN.ac (by rw[HS];exact hgo)).1
  refine h.GI bF G uD hi hN hgo (O':=O) (v':=val i) (s':=7) (sb':=q') (m':=m') (dd':=0) (λ_ _=>rfl) (λi' hp' _ eW=>zg.of_cell G Eu hp' hp eW) (R0.of_cell G Eu J7) ⟨Eu.tape,Eu.os,Eu.output⟩ (YX Eu.size.symm) (hws (by rw[e,Eu.size];omega) hZ) iU.1 (by rw[Eu.size];exact iU.2.1) iU.2.2.1 (λh=>by omega)
   iU.2.2.2.1 (by rw[Vp];exact deafBehind_idle iU.2.2.2.2 0) (λ_ h=>by omega) (λ_ h=>by omega) (Eu.pay h.pay) (h.wg.of_block (Eu.block _ (Ne.symm G.hCW)))
   (λ_ ht _=>ConcN.Mode.retag (by have:=h.mode.same (i:=i) m' 0;rwa [dU]at this) ht) (.inr ⟨dU.symm,by rw[Es,hfu];exact bH⟩)
 have TB:∀{g':Z7} {w':W'} {es:Array ϊ} {s' m' dd':Nat} {st' uV:Int},stepG c.P false g w=.go g' w' es->Aside c.Wg w w'->WgAt c.ty c.Wg w' st' uV->(∀e∈es,Bk c.Wg e)->
   (∀jx e,es[jx]?=some e->(MemAct.ofEvent e).touch?=none\/0<deafBehind dd (es.extract 0 jx))->WS c (n+1) i O Lw (val i) s' 0 m' dd' g' w'->deafBehind dd es=dd'->s<=6->q=0->
   (∀tag',(tag'=tag\/(tag=.blk/\tag'=.w3))->(mayWake c.P g=true->g'.status=.running->tag'≠.blk)->ConcN.Mode j (upd D i ⟨s',m',dd'⟩) tag' st' uV)->((s'<s/\cnt ⟨s',m',dd'⟩<=cnt (D i))\/(s'=s/\m'+1=m))->
   Nx c bB AnchW n (i+1) g gs w t j (phi c.n (Vc j D) tag+Ssum j D,sumTo j sb,f0+2*Fsum j D):=by
  intro g' w' es s' m' dd' st' uV hgo xA As qN J yK CY h6 hq pL bH;have hh:=h.has i hp hi (by omega);have kC:w'.heap[c.C]?=w.heap[c.C]?:=xA.block _ G.hCW;have h6':s'<=6:=by rcases bH with ⟨h,_⟩|⟨h,_⟩<;>omega
  exact h.GI bF G uD hi hN hgo (O':=O) (v':=val i) (s':=s') (sb':=0) (m':=m') (dd':=dd') (λ_ _=>rfl) (λi' _ _ _=>zg.of_wg G xA ⟨_,_,As⟩) (R0.of_wg G xA ⟨_,_,As⟩ J7) ⟨xA.tape,xA.os,xA.output⟩ (YX xA.size.symm) yK (λop cF=>al7 (okW_of_Bk qN op cF)) (G8 qN (by rw[xA.size];omega)) (Wb qN) (λh=>by omega) (norel_of_Bk qN) (by rw[Vp];exact CY)
   (λ_ _=>let ⟨r,Y⟩:=h.rel i hp hi (by omega);⟨r,Y.book hdk _ _ qN J⟩) (λ_ _=>⟨(cell_of_block kC (i - c.p)).trans hh.1,lV bF hh.2 (zg.of_wg (Lw:=Lw) G xA ⟨_,_,As⟩) λ_ _=>rfl⟩) ⟨RH,kC.trans aB7,aB6⟩ As pL
   (by
     rw[dU,hfu,Es,hq];rcases bH with h|⟨h1,h2⟩
     ·exact .inl h
     ·exact .inr ⟨h1,.inr ⟨rfl,h2⟩⟩)
 have book:∀{g':Z7} {w':W'} {es:Array ϊ} {s' m' dd':Nat} {st' uV:Int},stepG c.P false g w=.go g' w' es->Aside c.Wg w w'->WgAt c.ty c.Wg w' st' uV->(∀e∈es,Bk c.Wg e)->
   (∀jx e,es[jx]?=some e->(MemAct.ofEvent e).touch?=none\/0<deafBehind dd (es.extract 0 jx))->WS c (n+1) i O Lw (val i) s' 0 m' dd' g' w'->deafBehind dd es=dd'->s<=6->q=0->ConcN.Mode j (upd D i ⟨s',m',dd'⟩) tag st' uV->((s'<s/\cnt ⟨s',m',dd'⟩<=cnt (D i))\/(s'=s/\m'+1=m))->
   Nx c bB AnchW n (i+1) g gs w t j (phi c.n (Vc j D) tag+Ssum j D,sumTo j sb,f0+2*Fsum j D):=
  λhgo xA As qN J yK CY h6 hq pL bH=>TB hgo xA As qN J yK CY h6 hq (λ_ ht _=>pL.retag ht) bH
 cases hs with
 | pre hZ Eu hG=>
  rcases Goes.cases hG with cC|⟨m',rfl,cN⟩
  ·have⟨_,r8,cl,cs,hgo,okf,jD,⟨M1,ay9⟩,hl,Vu⟩:=cC w (RZ.refl w)
   obtain⟨M0,hM0,hM1⟩:∃M0,(∀f:Re,(∀b,b<M0->f b=b)->∀(b:Nat) (c:Array Z3) (e:Z5) (z:Nat × Nat),w.heap[b]?=some (.cells c e z)->c.map (rV f)=c)/\M1<=M0:=by
    have⟨M0,h⟩:=Mq w.heap;exact⟨max M0 M1,λf hf=>h f λb hb=>hf b (by omega),Za ..⟩
   have e:=(hN.ac (by rw[HS];exact hgo)).1;rw[Eu]at e;have hf:∀b,b<max (max M0 w.heap.size) c.L0->fk c.P c.m0 (i+1) (max (max M0 w.heap.size) c.L0) b=b:=λb hb=>AM hb;obtain⟨N,cB,wE,v,L,hmE,hdE,hrE,yL⟩:=hl (max (max M0 w.heap.size) c.L0) (max (max M0 w.heap.size) c.L0) (dc c.P c.m0 (i+1) (n+1)) (tk c.P c.m0 (i+1)) (Za ..) (Xw _);refine work E E hZ hgo ⟨rfl,rfl,rfl,rfl,λ_ _=>rfl,id,λ_ _=>rfl⟩ (by simp) (m':=N - 0) (q':=1) (λe2 hZ=>.K5 (wc:=w) hZ ⟨_,_,_,cB,wE,v,r8,[],_,⟨L,hmE,hdE,hrE,yL⟩,⟨rfl,⟨rfl,?_,okf,λc hc=>(by cases hc),λc hc=>(by cases hc),λ_=>jD,λc hc=>(by cases hc),λ_=>jD⟩,Xn hf (λb x e z hx=>hM0 _ (λb hb=>hf b (by omega)) b x e z hx) (Xw _) (Za ..)⟩,XC _,aa0 hf (Xw _),Za ..,rfl,?_,rfl,λb o _ h J=>(zl h J).1,λb h1 h2=>?_⟩ (λ_ _=>rfl) Vu) (.inl (by omega))
   ·rw[ay9 _ λb hb=>hf b (by omega)];rfl
   ·rw[nI,e];omega
   ·rw[nI]at h2;omega
  ·have⟨g',w',es,hgo,⟨No,fq⟩,gH⟩:=cN w (RZ.refl w)
   exact work E E hZ hgo No fq (λe hZ=>.pre hZ (e.trans Eu) gH) (.inr ⟨rfl,rfl⟩)
 | K5 hZ hS hk ha=>exact h.K5 bF HF iP oZ G uD hp hi hN dU Es Vp hfu hZ hS hk ha
 | post hZ hG Y=>
  rcases Goes.cases hG with cC|⟨m',rfl,cN⟩
  ·have⟨_,M8,g',hgo,m₂,hk⟩:=cC w (RZ.refl w)
   exact h.GI bF G uD hi hN hgo (O':=O) (v':=val i) (s':=6) (sb':=0) (m':=m₂) (dd':=0) (λ_ _=>rfl) (λ_ _ _ _=>zg.refl w) (R0.refl w) ⟨rfl,rfl,rfl⟩ (Xw _) (.late (by omega) (.k1 hk)) (λop cF=>al7 (okW_none (es:=#[ConcR.mk (.releaseMerge (stA c.Wg))]) (by intro e he;simp at he;subst he;rfl) op cF)) (seen_none (by intro e he;simp at he;subst he;rfl)) (Ow (by intro e he;simp at he;subst he;rfl)) (λh=>by omega)
    (by intro e he;simp at he;subst he;simp[ConcR.mk]) (by rw[Vp];rfl) (λ_ _=>⟨t.size,RelBy.new hdk _ _⟩) (λ_ _=>⟨by simpa using M8,Y⟩) h.pay h.wg (λ_ ht _=>(h.mode.counted hi (by omega) (.inl E) _ _).retag ht) (.inl ⟨by omega,by simp[cnt,dU]⟩)
  ·have⟨g',w',es,hgo,⟨No,fq⟩,gH⟩:=cN w (RZ.refl w)
   have hC':=G.hCW;refine work E E hZ hgo No fq (λe hZ=>.post hZ gH (bF i _ _ _ w w' Y (λb hb WY=>No.block b ?_) (YX No.size.symm) λ_ _ h=>h)) (.inr ⟨rfl,rfl⟩);rcases WY with h|⟨h,_⟩
   ·exact h.1.2.2
   ·omega
 | late h6 hL=>
  have idle : ∀ {g' : Z7} {m' : Nat}, stepG c.P false g w = .go g' w #[] -> WSit c.P c.ty c.Wg c.C c.q (λ_ _ => False) (λ_ _ => False) c.L0 (i - c.p + 1) (val i) s m' dd g' w -> m' + 1 = m ->
    Nx c bB AnchW n (i+1) g gs w t j (phi c.n (Vc j D) tag+Ssum j D,sumTo j sb,f0+2*Fsum j D):=by
   intro g' m' hgo yK hm;exact book hgo (.refl c.Wg w) h.wg (by simp) (by simp) (.late h6 yK) E h6 E (by have:=h.mode.same (i:=i) m' dd;rwa [dU]at this) (.inr ⟨rfl,hm⟩)
  cases hL with
  | r0 hG=>omega
  | k1 hG=>
   rcases Goes.cases hG with cC|⟨m',rfl,cN⟩
   ·have⟨_,g',hgo,m₂,hk⟩:=cC w (RW.refl w)
    exact book hgo (.refl c.Wg w) h.wg (by intro e he;simp at he;subst he;exact .inl E) (by intro jx e he;exact .inl (by have:=Ym he;simp at this;subst this;rfl)) (.late (by omega) (.d1 hk)) E (by omega) E
     (h.mode.counted hi (by omega) (.inr E) _ _) (.inl ⟨by omega,by simp[cnt,dU]⟩)
   ·obtain⟨g',w',es,hgo,⟨rfl,rfl⟩,gH⟩:=cN w (RW.refl w)
    exact idle hgo (.k1 gH) E
  | d1 hG=>
   rcases Goes.cases hG with cC|⟨m',rfl,cN⟩
   ·have⟨_,kQ⟩:=cC w (RW.refl w)
    have eI:=h.mode;have iQ:=h.wg;have bW:cnt (D i)=1:=by simp[cnt,dU]
    have hV1:1<=Vc j D:=by have:=le_sumTo (f:=λx=>cnt (D x)) hi;simp only[Vc];omega
    have bk2:∀e∈#[rd (stA c.Wg),wr (stA c.Wg)],Bk c.Wg e:=by intro e he;simp at he;rcases he with rfl|rfl<;>exact bk_cell _ _ E
    have df2:∀jx e,(#[rd (stA c.Wg),wr (stA c.Wg)]:Array ϊ)[jx]?=some e->(MemAct.ofEvent e).touch?=none\/0<deafBehind 1 ((#[rd (stA c.Wg),wr (stA c.Wg)]:Array ϊ).extract 0 jx):=by
     intro jx e he
     match jx,he with
     | 0,_=>exact .inr (by simp[deafBehind])
     | 1,_=>exact .inr (by simp[deafBehind,rd])
     | jx+2,he=>simp at he
    have hq0:∀x,cnt (⟨1,x,1⟩:WD)=0:=λ_=>rfl
    have opq:∀x,OpenSt j D->OpenSt j (upd D i ⟨1,x,1⟩):=λx h a ha=>by
     by_cases e:a=i
     ·subst e;rw[upd_same];simp
     ·rw[upd_ne D _ e];exact h a ha
    cases eI with
    | opn h1 h2 h3=>
     obtain⟨v,hv⟩:∃v,Vc j D+pend tag=v+1:=⟨Vc j D+pend tag - 1,by omega⟩;rw[hv]at iQ;have tX:WgAt c.ty c.Wg w (((v:Nat)+1)*KK+((0:Nat):Int)) 0:=by simpa using iQ
     obtain⟨g',hgo,_,hq⟩:=kQ v 0 (by omega) (by have:=G.hn;omega) tX;obtain⟨x,hq⟩:=hq (by omega);have yJ:Vc j (upd D i ⟨1,x,1⟩)+pend tag=v:=by have:=Vc_upd D (⟨1,x,1⟩:WD) hi;have:=hq0 x;omega
     refine book hgo (aside_setCell w (stA c.Wg) _) (iQ.setSt _) bk2 df2 (.late (by omega) (.quit hq)) E (by omega) E ?_ (.inl ⟨by omega,by simp[cnt]⟩);have e:((v:Nat):Int)*KK+((0:Nat):Int)=((Vc j (upd D i ⟨1,x,1⟩)+pend tag:Nat):Int)*KK:=by rw[yJ];simp
     rw[e];exact .opn h1 (opq x h2) (λvs ev=>by have:=h3 vs ev;omega)
    | reg h1 h2 h3=>
     obtain⟨v,hv⟩:∃v,Vc j D=v+1:=⟨Vc j D - 1,by omega⟩;rw[hv]at iQ;have tX:WgAt c.ty c.Wg w (((v:Nat)+1)*KK+((1:Nat):Int)) 0:=by simpa using iQ
     obtain⟨g',hgo,hl,hq⟩:=kQ v 1 (by omega) (by have:=G.hn;omega) tX;by_cases J2:v=0
     ·subst J2
      have⟨m₂,hk⟩:=hl ⟨rfl,rfl⟩;refine book hgo (aside_setCell w (stA c.Wg) _) (iQ.setSt _) bk2 df2 (.late (by omega) (.d2 hk)) E (by omega) E ?_ (.inl ⟨by omega,by simp[cnt]⟩)
      have fS:∀a,a<j->a≠i->(D a).stage=1:=λa ha e=>by
       have c0:=others_uncounted hi hv bW a ha e;have:=h2 a ha;simp only[cnt]at c0
       split at c0<;>omega
      have:=ConcN.Mode.last (j:=j) (D:=upd D i ⟨4,m₂,1⟩) (tag:=tag) i h1 hi (by rw[upd_same];simp) (λa ha e=>by rw[upd_ne D _ e];exact fS a ha e);rw[upd_same]at this;simpa using this
     ·obtain⟨x,hq⟩:=hq (by omega)
      have yJ:Vc j (upd D i ⟨1,x,1⟩)=v:=by have:=Vc_upd D (⟨1,x,1⟩:WD) hi;have:=hq0 x;omega
      refine book hgo (aside_setCell w (stA c.Wg) _) (iQ.setSt _) bk2 df2 (.late (by omega) (.quit hq)) E (by omega) E ?_ (.inl ⟨by omega,by simp[cnt]⟩);have e:((v:Nat):Int)*KK+((1:Nat):Int)=((Vc j (upd D i ⟨1,x,1⟩):Nat):Int)*KK+1:=by rw[yJ];simp
      rw[e];exact .reg h1 (opq x h2) (by omega)
    | last L _ h2 h3 h4=>
     by_cases e:i=L
     ·subst e;omega
     ·have:=h4 i hi e;omega
    | sema h2=>have:=h2 i hi;omega
    | fin _ h2=>have:=h2 i hi;omega
   ·obtain⟨g',w',es,hgo,⟨rfl,rfl⟩,gH⟩:=cN w (RW.refl w)
    exact idle hgo (.d1 gH) E
  | d2 hG=>
   rcases Goes.cases hG with cC|⟨m',rfl,cN⟩
   ·have⟨_,hx⟩:=cC w (RW.refl w)
    have iQ:=h.wg;obtain⟨hW3,fS,rfl,rfl⟩:=h.mode.isLast hi (by omega);simp only[dU]at iQ;obtain⟨g',hgo,m₂,hk⟩:=hx (by simpa using iQ);refine book hgo (.refl c.Wg w) iQ (by intro e he;simp at he;subst he;exact bk_cell _ _ E) (by intro jx e he;match jx,he with|0,_=>exact .inr (by simp[deafBehind])|jx+1,he=>simp at he) (.late (by omega) (.d3 hk)) E (by omega) E ?_ (.inl ⟨by omega,by simp[cnt]⟩);have:=ConcN.Mode.last (j:=j) (D:=upd D i ⟨3,m₂,1⟩) (tag:=tag) i hW3 hi (by rw[upd_same];simp) (λa ha e=>by rw[upd_ne D _ e];exact fS a ha e);rw[upd_same]at this;simpa using this
   ·obtain⟨g',w',es,hgo,⟨rfl,rfl⟩,gH⟩:=cN w (RW.refl w)
    exact idle hgo (.d2 gH) E
  | d3 hG=>
   rcases Goes.cases hG with cC|⟨m',rfl,cN⟩
   ·have⟨_,hx⟩:=cC w (RW.refl w)
    have iQ:=h.wg;obtain⟨hW3,fS,rfl,rfl⟩:=h.mode.isLast hi (by omega);simp only[dU]at iQ;obtain⟨g',hgo,m₂,hk⟩:=hx (by simpa using iQ);refine book hgo (aside_setCell w (stA c.Wg) _) (iQ.setSt 0) (by intro e he;simp at he;subst he;exact bk_cell _ _ E) (by intro jx e he;match jx,he with|0,_=>exact .inr (by simp[deafBehind])|jx+1,he=>simp at he) (.late (by omega) (.d4 hk)) E (by omega) E ?_ (.inl ⟨by omega,by simp[cnt]⟩);have:=ConcN.Mode.last (j:=j) (D:=upd D i ⟨2,m₂,1⟩) (tag:=tag) i hW3 hi (by rw[upd_same];simp) (λa ha e=>by rw[upd_ne D _ e];exact fS a ha e);rw[upd_same]at this;simpa using this
   ·obtain⟨g',w',es,hgo,⟨rfl,rfl⟩,gH⟩:=cN w (RW.refl w)
    exact idle hgo (.d3 gH) E
  | d4 hG=>
   rcases Goes.cases hG with cC|⟨m',rfl,cN⟩
   ·have⟨_,hmw,hx⟩:=cC w (RW.refl w)
    have iQ:=h.wg;obtain⟨hW3,fS,rfl,rfl⟩:=h.mode.isLast hi (by omega);simp only[dU]at iQ;obtain⟨g',hgo,x,hq⟩:=hx (by simpa using iQ)
    have CH:g'.status=.running:=by
     cases x with
     | zero=>exact absurd hq.2 (by decide)
     | succ x=>exact hq.elim (λx=>absurd x.2 (by decide)) (λx=>x.1)
    refine TB hgo (aside_setCell w (smA c.Wg) _) (iQ.setSm 1) (es:=semEvents (smA c.Wg)) ?_ ?_ (.late (by omega) (.quit hq)) (by simp[deafBehind,semEvents]) (by omega) E ?_ (.inl ⟨by omega,by simp[cnt]⟩)
    ·intro e he
     simp[semEvents]at he;rcases he with rfl|rfl|rfl|rfl
     ·exact .inl E
     ·exact bk_cell _ _ E
     ·exact bk_cell _ _ E
     ·exact .inr (.inl E)
    ·intro jx e he
     match jx,he with
     | 0,he=>simp[semEvents]at he;subst he;exact .inl E
     | 1,_=>exact .inr (by simp[deafBehind,semEvents])
     | 2,_=>exact .inr (by simp[deafBehind,semEvents])
     | 3,he=>simp[semEvents]at he;subst he;exact .inl E
     | jx+4,he=>simp[semEvents]at he
    ·intro tag' ht hw
     have hnb:=hw hmw CH
     have e3:tag'=.w3:=by
      rcases ht with rfl|⟨_,rfl⟩
      · cases tag'<;>first|rfl|exact hW3.elim|exact absurd E hnb
      · rfl
     subst e3;simp only[Yp]
     exact .sema λa ha=>by
      by_cases e:a=i
      · subst e;rw[upd_same]
      · rw[upd_ne D _ e];exact fS a ha e
   ·obtain⟨g',w',es,hgo,⟨rfl,rfl⟩,gH⟩:=cN w (RW.refl w)
    exact idle hgo (.d4 gH) E
  | quit hq=>
   cases m with
   | zero=>rw[hq.1]at bR;cases bR
   | succ x=>
    rcases hq with ⟨hf,_⟩|⟨_,g',es,HR,cN,hq⟩
    ·rw[hf]at bR;cases bR
    ·have qN:∀e∈es,Bk c.Wg e:=λe he=>bk_of_mute (HR e he)
     have Aw:∀jx e,es[jx]?=some e->(MemAct.ofEvent e).touch?=none\/0<deafBehind dd (es.extract 0 jx):=λjx e he=>.inl (touch_mute (HR e (Ym he)));exact book (cN w) (.refl c.Wg w) h.wg qN Aw (.late h6 (.quit hq)) E (by omega) E (by have:=h.mode.same (i:=i) x (deafBehind dd es);rwa [dU]at this) (.inr ⟨rfl,rfl⟩)
end
section
variable[Payload](c:Kx)(bB AnchW:Z7->W'->Prop)
def Nz(n k:Nat)(gs:Array Z7)(w:W')(sl:Option (Nat × Nat))(t:Z')(μ:Nat × Nat × Nat):Prop:=
 ∃W5 w' ops j D sb tag f0 d0 bs a st sm O Lw val,runT c.P (crowd gs w sl) k=(.next (crowd W5 w' sl),ops)/\CI c bB AnchW (n+1) W5 w' (t++ops) j D sb tag f0 d0 bs a st sm O Lw val/\Lt3 (phi c.n (Vc j D) tag+Ssum j D,sumTo j sb,f0+2*Fsum j D) μ
def Ez(a:Z7)(w:W')(j:Nat)(D:Nat->WD)(d0:Nat):Prop:=d0=0/\j=c.n/\AllQuit j D/\∃g',stepG c.P true a w=.go g' w #[mk (.acquire (stA c.Wg))]/\bB g' w
end
section
variable[Payload]{c:Kx}{bB AnchW:Z7->W'->Prop}{n:Nat}{gs:Array Z7}{w w':W'}{sl:Option (Nat × Nat)}{t:Z'}{j:Nat}{D:Nat->WD}{sb:Nat->Nat}{tag:CTag}{f0 d0:Nat}{bs:Nat->Prop}{a:Z7}{st sm:Int}{O Lw:Nat->Nat}{val:Nat->Z3}
theorem Nx.z{k:Nat}{g:Z7}{μ:Nat × Nat × Nat}(hg:gs[k]?=some g)(h:Nx c bB AnchW n k g gs w t j μ):Nz c bB AnchW n k gs w sl t μ:=by
 have⟨g',w',es,D,sb,tag,f0,d0,bs,a,st,sm,O,Lw,val,h1,h2,h3⟩:=h;exact⟨_,w',_,j,D,sb,tag,f0,d0,bs,a,st,sm,O,Lw,val,runT_crowd_go hg h1,h2,h3⟩
omit [Payload] in
theorem aM9{Sh:Loc->Prop}{Own Rd:Nat->Loc->Prop}{fn:ϋ}{pos:String}{es:Array ϊ}(h:∀e∈es,(MemAct.ofEvent e).touch?=none):∀op∈MemOp.ofEvents 0 fn pos es,Ok0 Sh Own Rd j op:=λop cF=>by
 obtain⟨e,he,rfl⟩:=tU cF;exact⟨rfl,λx hx=>by simp only[h e he]at hx;cases hx⟩
omit [Payload] in
theorem aX5{Own Rd:Nat->Loc->Prop}{fn:ϋ}{pos:String}{es:Array ϊ}(h:∀e∈es,Bk c.Wg e):∀op∈MemOp.ofEvents 0 fn pos es,Ok0 c.Sh Own Rd j op:=λop cF=>by
 obtain⟨e,he,rfl⟩:=tU cF;refine⟨rfl,λx hx=>?_⟩;rcases h e he with h1|h1|⟨a,wr,rfl,ha⟩
 ·simp only[ofEvent_loc_mark h1]at hx;cases hx
 ·simp only[ofEvent_loc_mark h1]at hx;cases hx
 ·simp only[ofEvent_cell,MemAct.touch?,XS]at hx
  subst hx;exact .inl ⟨.inl ⟨a,rfl,ha⟩,by simp⟩
theorem VE(G:Geo c)(h:CI c bB AnchW n gs w t j D sb tag f0 d0 bs a st sm O Lw val){fn:ϋ}{pos:String}{es:Array ϊ}(fq:∀e∈es,EvS c bs e) :
  (∀op∈MemOp.ofEvents 0 fn pos es,Ok0 c.Sh (nG c O) (Ec c O Lw) j op)/\Seen (MemOp.ofEvents 0 fn pos es) w.heap.size/\(∀e∈es,e.loc≠.mark (.release (stA c.Wg)))/\∀e∈es,e.loc≠.mark .disable/\e.loc≠.mark .enable:=by
 have hW:=G.hW;have hC:=G.hC;have SO:=h.l0
 have nS:∀a:Addr,¬c.G a.block->¬c.S (.cell a):=λa hg hs=>by
  obtain⟨b,h,hb⟩:=G.hS _ hs
  cases h;exact hg hb
 have key:∀e,EvS c bs e->(∀x,(MemAct.ofEvent e).touch?=some x->((c.Sh x.loc/\x.kind≠.plain)\/(¬c.Sh x.loc/\(∀k,1<=k->k<=j->¬nG c O k x.loc)/\(x.write=true->∀k,1<=k->k<=j->¬Ec c O Lw k x.loc)))/\x.loc.low w.heap.size)/\e.loc≠.mark (.release (stA c.Wg))/\e.loc≠.mark .disable/\e.loc≠.mark .enable:=by
  intro e he;rcases he with ⟨a,ha,rfl|rfl⟩|⟨a,wr,rfl,hb⟩|rfl
  ·refine⟨λx hx=>?_,by simp,by simp,by simp⟩
   simp only[MemAct.ofEvent,MemAct.touch?,XS]at hx;subst hx;exact⟨.inl ⟨.inl ⟨a,rfl,ha⟩,by simp⟩,show a.block<_ by omega⟩
  ·refine⟨λx hx=>?_,by simp,by simp,by simp⟩
   simp only[MemAct.ofEvent,MemAct.touch?,XS]at hx;subst hx;exact⟨.inl ⟨.inl ⟨a,rfl,ha⟩,by simp⟩,show a.block<_ by omega⟩
  ·refine⟨λx hx=>?_,by simp,by simp,by simp⟩
   have sK:x.loc=.cell a/\x.write=wr:=by cases wr<;>simp[MemAct.ofEvent,MemAct.touch?]at hx<;>subst hx<;>exact⟨rfl,rfl⟩
   rw[sK.1,sK.2];rcases hb with hb|⟨ho,hg,hwr⟩
   ·obtain⟨h1,h2,h3⟩:=h.bs _ hb
    have hL:=h.J1 j;refine⟨.inr ⟨λhs=>hs.elim (λ⟨y,hy,HO⟩=>by cases hy;omega) (nS _ λhg=>by have:=(G.hG _ hg).1;omega),λk k1 kj ⟨_,h4⟩=>?_,λ_ k k1 kj ⟨_,y,hy,h4,_⟩=>by cases hy;have:=h.lw k kj;omega⟩,h2⟩;rcases h4 with h4|⟨b,bY,h5,h6⟩
    ·cases h4;simp only at h1;omega
    ·rcases bY with h7|⟨y,h7,rfl⟩
     ·cases h7
     ·cases h7;omega
   ·have h1:=ho.1
    refine⟨.inr ⟨λhs=>hs.elim (λ⟨y,hy,HO⟩=>by cases hy;exact ho.2.1 HO) (nS _ hg),λk k1 kj ⟨_,h4⟩=>?_,λh=>by rw[hwr]at h;cases h⟩,show a.block<_ by omega⟩;rcases h4 with h4|⟨b,bY,h5,h6⟩
    ·cases h4;exact ho.2.2 E
    ·rcases bY with h7|⟨y,h7,rfl⟩
     ·cases h7
     ·cases h7;omega
  ·exact⟨λx hx=>by simp[MemAct.ofEvent,MemAct.touch?]at hx,by simp,by simp,by simp⟩
 refine⟨λop cF=>?_,λop cF x hx=>?_,λe he=>(key e (fq e he)).2.1,λe he=>(key e (fq e he)).2.2⟩
 ·obtain⟨e,he,rfl⟩:=tU cF
  exact⟨rfl,λx hx=>((key e (fq e he)).1 x hx).1⟩
 ·obtain⟨e,he,rfl⟩:=tU cF
  exact((key e (fq e he)).1 x hx).2
variable(bF:∀i (S S':Nat->Prop) v w w',c.res i S v w->(∀b,b<w.heap.size->S b->w'.heap[b]?=w.heap[b]?)->w.heap.size<=w'.heap.size->(∀b,b<w.heap.size->S b->S' b)->c.res i S' v w')
include bF in
theorem CI.idle0(G:Geo c)(h:CI c bB AnchW n gs w t j D sb tag f0 d0 bs a st sm O Lw val)(hN:OO c n 0 a w){a':Z7}{es:Array ϊ}{f':Nat}(hgo:stepG c.P true a w=.go a' w' es)(hD:DS c bs w w' es)(vR:CS c bB AnchW tag j f' d0 bs a' w')(hf:f'<f0) :
  Nz c bB AnchW n 0 gs w sl t (phi c.n (Vc j D) tag+Ssum j D,sumTo j sb,f0+2*Fsum j D):=by
 have hW:=G.hW;have hC:=G.hC;have iU:=VE (fn:=a.frame.fn) (pos:=a.frame.place) G h hD.ev;have AA:deafBehind d0 es=d0:=deafBehind_idle iU.2.2.2 d0
 have nb:∀b,(b<c.L0\/O b≠0\/b<Lw j)->w'.heap[b]?=w.heap[b]?:=λb hb=>hD.block b λhx=>by
  have⟨h1,h2,h3⟩:=h.bs b hx;have:=h.J1 j;rcases hb with hb|hb|hb
  ·omega
  ·exact hb h3
  ·omega
 have kW:=nb c.Wg (.inl hW);have kC:=nb c.C (.inl hC);have⟨RH,bW,bV⟩:=h.pay
 have:=h.step0 bF G hN.hk (w':=w') (a':=a') (fn:=a.frame.fn) (pos:=a.frame.place) (es:=es) (O':=O) (bs':=bs) (tag':=tag) (f':=f') (λ_ _=>rfl)
  (λi _ hi=>⟨λb hb h'=>?_,λ⟨x,y,hx⟩=>⟨x,y,hx.of_block kW⟩,λ⟨x,hx,hy⟩=>⟨x,kC.trans hx,hy⟩,by simp[World.cell?,kC],YX hD.size.symm⟩) (λb hb=>nb b (.inl hb.1)) ⟨hD.tape,hD.os,hD.output⟩ (YX hD.size.symm) (by rw[AA];exact vR) iU.1 (by rw[hD.size];exact iU.2.1) iU.2.2.1 ⟨RH,kC.trans bW,bV⟩ (h.wg.of_block kW) h.mode
  (λb hb=>by rw[hD.size];exact h.bs b hb)
 ·exact⟨_,w',_,j,D,sb,tag,f',_,bs,a',st,sm,O,Lw,val,runT_crowd_go h.g0 (by simpa using hgo),this,sH (.inr ⟨rfl,.inr ⟨rfl,by omega⟩⟩)⟩
 ·rcases h' with h'|⟨_,h'|⟨_,h'⟩⟩
  ·exact nb b (.inl h'.1)
  ·exact nb b (.inr (.inl (by omega)))
  ·exact nb b (.inr (.inr (by have:=h.lw (i+1) (by omega);omega)))
include bF in
theorem CI.book0(G:Geo c)(h:CI c bB AnchW n gs w t j D sb tag f0 d0 bs a st sm O Lw val)(hN:OO c n 0 a w){a':Z7}{es:Array ϊ}{tag':CTag}{f':Nat}{st' uV:Int}{bs':Nat->Prop}(hgo:stepG c.P true a w=.go a' w' es)(xA:Aside c.Wg w w')(As:WgAt c.ty c.Wg w' st' uV)(qN:∀e∈es,Bk c.Wg e)
  (vR:CS c bB AnchW tag' j f' (deafBehind d0 es) bs' a' w') (J7:∀b,bs' b->bs b) (pL:ConcN.Mode j D tag' st' uV) (bH:phi c.n (Vc j D) tag'<phi c.n (Vc j D) tag\/(phi c.n (Vc j D) tag'=phi c.n (Vc j D) tag/\f'<f0)) :
  Nz c bB AnchW n 0 gs w sl t (phi c.n (Vc j D) tag+Ssum j D,sumTo j sb,f0+2*Fsum j D):=by
 have hW:=G.hW;have⟨RH,bW,bV⟩:=h.pay
 have:=h.step0 bF G hN.hk (w':=w') (a':=a') (fn:=a.frame.fn) (pos:=a.frame.place) (es:=es) (O':=O) (bs':=bs') (tag':=tag') (f':=f') (λ_ _=>rfl) (λi _ _=>zg.of_wg G xA ⟨_,_,As⟩) (λb hb=>xA.block b hb.2.1) ⟨xA.tape,xA.os,xA.output⟩ (YX xA.size.symm) vR (aX5 qN) (G8 qN (by rw[xA.size];have:=h.l0;omega)) (norel_of_Bk qN)
  ⟨RH,(xA.block c.C G.hCW).trans bW,bV⟩ As pL (λb hb=>by rw[xA.size];exact h.bs b (J7 b hb))
 refine⟨_,w',_,j,D,sb,tag',f',_,bs',a',st',uV,O,Lw,val,runT_crowd_go h.g0 (by simpa using hgo),this,sH ?_⟩;rcases bH with h|⟨h1,h2⟩
 ·exact .inl (by omega)
 ·exact .inr ⟨by omega,.inr ⟨rfl,by omega⟩⟩
include bF in
theorem CI.ah0(G:Geo c)(h:CI c bB AnchW n gs w t j D sb tag f0 d0 bs a st sm O Lw val)(hN:OO c n 0 a w){a':Z7}{es:Array ϊ}{tag':CTag}{f':Nat}{bs':Nat->Prop}{x:Array Z3}{e:Z5}(hgo:stepG c.P true a w=.go a' (w.alloc (.cells x e)) es)(oL:∀e∈es,e=⟨.mark .noRoom,false,true⟩)
  (vR:CS c bB AnchW tag' j f' d0 bs' a' (w.alloc (.cells x e))) (J7:∀b,bs' b->bs b\/b=w.heap.size) (pL:ConcN.Mode j D tag' st sm) (bH:phi c.n (Vc j D) tag'<phi c.n (Vc j D) tag) :
  Nz c bB AnchW n 0 gs w sl t (phi c.n (Vc j D) tag+Ssum j D,sumTo j sb,f0+2*Fsum j D):=by
 have hW:=G.hW;have hC:=G.hC;have SO:=h.l0;have AA:deafBehind d0 es=d0:=deafBehind_idle (λe he=>by rw[oL e he];simp) d0
 have old:∀b,b<w.heap.size->(w.alloc (.cells x e)).heap[b]?=w.heap[b]?:=λb hb=>by
  show (w.heap.push _)[b]?=_
  rw[YE,Xr (by omega)]
 have sz:(w.alloc (.cells x e)).heap.size=w.heap.size+1:=by show (w.heap.push _).size=_;simp
 have kW:=old c.Wg (by omega);have kC:=old c.C (by omega);have⟨RH,bW,bV⟩:=h.pay;have Aw:∀e∈es,(MemAct.ofEvent e).touch?=none:=λe he=>by rw[oL e he];rfl
 have:=h.step0 bF G hN.hk (w':=w.alloc (.cells x e)) (a':=a') (fn:=a.frame.fn) (pos:=a.frame.place) (es:=es) (O':=λb=>if b<w.heap.size then O b else 0) (bs':=bs') (tag':=tag') (f':=f') (λb hb=>Xu hb)
  (λi _ hi=>⟨λb hb h'=>old b hb,λ⟨x,y,hx⟩=>⟨x,y,hx.of_block kW⟩,λ⟨x,hx,hy⟩=>⟨x,kC.trans hx,hy⟩,by simp[World.cell?,kC],by omega⟩) (λb hb=>old b (by have:=hb.1;omega)) ⟨rfl,rfl,rfl⟩ (by omega) (by rw[AA];exact vR) (aM9 Aw) (seen_none Aw) (λe he=>by rw[oL e he];simp) ⟨RH,kC.trans bW,bV⟩ (h.wg.of_block kW) pL
  (λb hb=>by
   rcases J7 b hb with h1|rfl
   ·have⟨k1,k2,k3⟩:=h.bs b h1
    exact⟨k1,by omega,(Xu k2).trans k3⟩
   ·exact⟨h.UO,by omega,Xr (by omega)⟩)
 exact⟨_,_,_,j,D,sb,tag',f',_,bs',a',st,sm,_,Lw,val,runT_crowd_go h.g0 (by simpa using hgo),this,sH (.inl (by omega))⟩
include bF in
theorem CI.spawn(G:Geo c)(h:CI c bB AnchW n gs w t j D sb tag f0 0 bs a st sm O Lw val)(uC:(pk c.P (rs c.P c.m0 n)).1=0){a' child:Z7}{x y:MemOp}{m f':Nat}{b1 b2:Nat}{tag':CTag}(hb:∀b,two b1 b2 b->bs b)(hx:x.g=0/\x.act=.go (j+1))(hy:y.g=j+1/\y.act=.start)
  (hc:Goes c.P false (RZ c (λb=>c.old b\/two b1 b2 b) j) (DZ c (λb=>c.old b\/two b1 b2 b) j) (eP c (λb=>c.old b\/two b1 b2 b) j) m child w) (vR:CS c bB AnchW tag' (j+1) f' 0 fQ a' w) (eI:ConcN.Mode (j+1) (upd D j ⟨7,m,0⟩) tag' st sm) :
  CI c bB AnchW (n+1) ((gs.setIfInBounds 0 a').push child) w (t ++ #[x,y]) (j+1) (upd D j ⟨7,m,0⟩) (upd sb j 2) tag' f' 0 fQ a' st sm O (upd Lw (j+1) w.heap.size) val:=by
 have hm:∀op∈#[x,y],op=x\/op=y:=by intro op cF;simpa using cF
 have dU:∀op∈#[x,y],op.act≠.mark .disable/\op.act≠.mark .enable:=by
  intro op cF;rcases hm op cF with rfl|rfl
  ·rw[hx.2];exact⟨by simp,by simp⟩
  ·rw[hy.2];exact⟨by simp,by simp⟩
 have WG:∀k,k<=j->upd Lw (j+1) w.heap.size k=Lw k:=λk hk=>upd_ne Lw _ (by omega);have CF:upd Lw (j+1) w.heap.size (j+1)=w.heap.size:=upd_same ..;have hct:CT c.Sh (nG c O) (Ec c O (upd Lw (j+1) w.heap.size)) t j:=AU h.ct h.seen (λ_ _=>rfl) WG;have SO:=h.l0;refine⟨by simp[h.size],?_,vR,λi hi=>?_,hct.fork (apart c G O _) hx hy h.deaf0,h.norel.app λop cF=>?_,RK h.lo h.t0,al0 h.t0,by rw[Deaf_still t 0 _ dU,h.deaf0],λi hi=>?_,λi hp hi hs=>?_,λi hp hi hs=>?_,h.pay,h.wg,eI,h.seen.app (Xw _) λop cF z hz=>?_,h.W9.app λop cF z hz=>?_,λi hp=>?_,Nat.le_succ_of_le h.pj,h.gone.app λop cF=>?_,λk=>?_,λk hk=>?_,by rw[CF];exact Xw _,λb hb=>hb.elim,λk hk=>?_,h.kept,h.old⟩
 ·rw[Array.getElem?_push_lt (by simp[h.size]),<-X4]
  simp[h.size]
 ·rcases XP i j with bH|pV
  ·have⟨g,hg,hsg⟩:=h.wk i bH
   refine⟨g,?_,?_⟩
   ·rw[Array.getElem?_push_lt (by simp[h.size];omega),<-X4,XE (by omega)]
    exact hg
   ·rw[upd_ne D _ (by omega),upd_ne sb _ (by omega)]
    exact hsg.others bF (zg.refl w) (by rw[uC];omega) (λ_ _=>rfl) SO (WG _ (by omega)) (h.Wy (by omega))
  ·obtain rfl:i=j:=by omega
   refine⟨child,?_,?_⟩
   ·rw[show i+1=(gs.setIfInBounds 0 a').size by simp[h.size],Array.getElem?_push_size]
   ·rw[upd_same,upd_same]
    refine .pre ⟨λb hb=>.inl hb,λb bY=>bY.imp id λh2=>?_⟩ ?_ hc
    ·show used _ _ _ _ _=0
     have:=h.above (i+1) (by omega);simp only[used,uC,Xr (show ¬0=i+1 by omega)];exact this
    ·have⟨k1,k2,k3⟩:=h.bs b (hb b h2)
     exact⟨XQ (h.J1 i) k1,k3,by rw[CF];exact k2⟩
 ·rcases hm op cF with rfl|rfl
  ·rw[hx.2];simp
  ·rw[hy.2];simp
 ·rw[Deaf_still t _ _ dU]
  rcases XP i j with bH|pV
  ·rw[h.deafW i bH,upd_ne D _ (by omega)]
  ·obtain rfl:i=j:=by omega
   rw[upd_same];exact Deaf_absent λa op ha e=>by have:=h.ct.gs a op ha;omega
 ·rcases XP i j with bH|pV
  ·rw[upd_ne D _ (by omega)]at hs
   have⟨r,Y⟩:=h.rel i hp bH hs;refine⟨r,Y.appNot λop cF=>?_⟩;rcases hm op cF with rfl|rfl
   ·rw[hx.1];omega
   ·rw[hy.1];omega
  ·obtain rfl:i=j:=by omega
   rw[upd_same]at hs;simp at hs
 ·rcases XP i j with bH|pV
  ·rw[upd_ne D _ (by omega)]at hs
   exact h.has i hp bH hs
  ·obtain rfl:i=j:=by omega
   rw[upd_same]at hs;simp at hs
 ·rcases hm op cF with rfl|rfl
  ·rw[hx.2]at hz;cases hz
  ·rw[hy.2]at hz;cases hz
 ·rcases hm op cF with rfl|rfl
  ·rw[hx.2]at hz;cases hz
  ·rw[hy.2]at hz;cases hz
 ·rw[upd_ne D _ (by have:=h.pj;omega)];exact h.ph i hp
 ·rcases hm op cF with rfl|rfl
  ·exact .inl hx.1
  ·exact .inr (.inl (by rw[hy.1];have:=h.pj;omega))
 ·by_cases e:k=j+1
  ·subst e;rw[CF];exact SO
  ·rw[upd_ne Lw _ e];exact h.J1 k
 ·rw[CF]
  by_cases e:k=j+1
  ·subst e;rw[CF];exact Xw _
  ·rw[upd_ne Lw _ e];exact h.Wy (by omega)
 ·show used _ _ _ _ _=0
  have:=h.above k (by omega);simp only[used,uC,Xr (show ¬0=k by omega)];exact this
include bF in
theorem CI.SB(G:Geo c)(h:CI c bB AnchW n gs w t j D sb .w1 f0 1 fQ a st sm O Lw val)(hj:j=c.n)(hN:OO c n 0 a w)(hG:GS c fQ (AtW1 c bB AnchW) f0 a w):Nz c bB AnchW n 0 gs w sl t (phi c.n (Vc j D) .w1+Ssum j D,sumTo j sb,f0+2*Fsum j D):=by
 subst hj;rcases Goes.cases hG with cC|⟨m',rfl,cN⟩
 ·have⟨_,kQ⟩:=cC w (.refl w)
  have iQ:=h.wg;have eI:=h.mode;obtain⟨ho,rfl,rfl,_⟩:=eI.open_inv trivial;have hV:=Vc_le c.n D;obtain⟨a',hgo,h0,eW⟩:=kQ (Vc c.n D) (by have:=G.hn;omega) (by simpa [pend] using iQ);by_cases hv:Vc c.n D=0
  ·have⟨m₂,hk⟩:=h0 hv
   refine h.book0 bF G hN hgo (.refl c.Wg w) iQ bk_rd (tag':=.ke) (.ke hk) (λ_ h=>h) ?_ (.inl (by simp only[phi];omega));have e:((Vc c.n D+pend .w1:Nat):Int)*KK=0:=by rw[hv];simp[pend]
   rw[e];exact .fin trivial (allQuit_of ho hv)
  ·have⟨m₂,hk⟩:=eW hv
   exact h.book0 bF G hN hgo (.refl c.Wg w) iQ bk_rd (tag':=.w2 (Vc c.n D)) (.w2 hk) (λ_ h=>h) (eI.reopen trivial trivial E (λvs e=>by cases e;omega)) (.inl (by simp only[phi];omega))
 ·have⟨a',w',es,hgo,hD,gH⟩:=cN w (.refl w)
  exact h.idle0 bF G hN hgo hD (.w1 gH) (by omega)
theorem UP{a b d:Nat × Nat × Nat}(h:Lt3 a b)(h':b.1<d.1):Lt3 a d:=by
 have⟨a1,a2,a3⟩:=a;have⟨b1,b2,b3⟩:=b;have⟨d1,d2,d3⟩:=d;rcases Prod.lex_def.1 h with h|⟨h,_⟩
 ·exact Prod.Lex.left _ _ (by simp only at *;omega)
 ·exact Prod.Lex.left _ _ (by simp only at *;omega)
include bF in
theorem CI.PF(G:Geo c)(hAn:∀g w,AnchW g w->∃m,GS c fQ (AtW1 c bB AnchW) m g w)(h:CI c bB AnchW n gs w t j D sb tag f0 d0 bs a st sm O Lw val)(bR:a.status=.running)(hN:OO c n 0 a w) :
  Ez c bB a w j D d0\/Nz c bB AnchW n 0 gs w sl t (phi c.n (Vc j D) tag+Ssum j D,sumTo j sb,f0+2*Fsum j D):=by
 have hVj:=Vc_le j D;have eI:=h.mode;have iQ:=h.wg;have hb:=h.cs.bound;have ep:=h.cs
 cases ep with
 | RP Y hG=>
  rcases Goes.cases hG with cC|⟨m',rfl,cN⟩
  ·have⟨_,a',x,e,es,hgo,oL,m₂,hk⟩:=cC w (.refl w)
   exact .inr (h.ah0 bF G hN hgo oL (.al2 Y hk) (λb hb=>.inr (by rcases hb with h|h<;>exact h)) (eI.reopen trivial trivial E (by simp)) (by simp only[phi];omega))
  ·have⟨a',w',es,hgo,hD,gH⟩:=cN w (.refl w)
   exact .inr (h.idle0 bF G hN hgo hD (.RP Y gH) (by omega))
 | al2 Y hG=>
  rcases Goes.cases hG with cC|⟨m',rfl,cN⟩
  ·have⟨_,a',x,e,es,hgo,oL,m₂,hk⟩:=cC w (.refl w)
   exact .inr (h.ah0 bF G hN hgo oL (.skd Y hk) (λb hb => by
     rcases hb with h|h
     ·exact .inl (.inl h)
     ·exact .inr h) (eI.reopen trivial trivial E (by simp)) (by simp only[phi];omega))
  ·have⟨a',w',es,hgo,hD,gH⟩:=cN w (.refl w)
   exact .inr (h.idle0 bF G hN hgo hD (.al2 Y gH) (by omega))
 | skd Y hG=>
  rcases Goes.cases hG with cC|⟨m',rfl,cN⟩
  ·have⟨_,a',hgo,m₂,hk⟩:=cC w (.refl w)
   exact .inr (h.book0 bF G hN hgo (.refl c.Wg w) iQ bk_dis (.sa1 Y hk) (λ_ h=>h) (eI.reopen trivial trivial E (by simp)) (.inl (by simp only[phi];omega)))
  ·have⟨a',w',es,hgo,hD,gH⟩:=cN w (.refl w)
   exact .inr (h.idle0 bF G hN hgo hD (.skd Y gH) (by omega))
 | sa1 Y hG=>
  rename_i r b1 b2;rcases Goes.cases hG with cC|⟨m',rfl,cN⟩
  ·have⟨_,kQ⟩:=cC w (.refl w)
   obtain⟨ho,rfl,rfl,_⟩:=eI.open_inv trivial;obtain⟨a',hgo,m₂,hk⟩:=kQ (Vc (c.n - (r+1)) D) (by have:=G.hn;omega) (by simpa [pend] using iQ);refine .inr (h.book0 bF G hN hgo (aside_setCell w (stA c.Wg) _) (iQ.setSt _) bk_rw (.ske Y hk) (λ_ h=>h) ?_ (.inl (by simp only[phi];omega)));have e:(((Vc (c.n - (r+1)) D:Nat):Int)+1)*KK=((Vc (c.n - (r+1)) D+pend (.sp r 3):Nat):Int)*KK:=by simp[pend]
   rw[e];exact .opn trivial ho (by simp)
  ·have⟨a',w',es,hgo,hD,gH⟩:=cN w (.refl w)
   exact .inr (h.idle0 bF G hN hgo hD (.sa1 Y gH) (by omega))
 | ske Y hG=>
  rcases Goes.cases hG with cC|⟨m',rfl,cN⟩
  ·have⟨_,a',hgo,m₂,hk⟩:=cC w (.refl w)
   exact .inr (h.book0 bF G hN hgo (.refl c.Wg w) iQ bk_en (.sgo Y hk) (λ_ h=>h) (eI.reopen trivial trivial E (by simp)) (.inl (by simp only[phi];omega)))
  ·have⟨a',w',es,hgo,hD,gH⟩:=cN w (.refl w)
   exact .inr (h.idle0 bF G hN hgo hD (.ske Y gH) (by omega))
 | sgo Y hG=>
  rename_i r b1 b2;rcases Goes.cases hG with cC|⟨m',rfl,cN⟩
  ·have⟨_,a',child,U2,ay2,SL⟩:=cC w (.refl w)
   have⟨m₂,UY⟩:=ay2 h.pay;obtain⟨ho,rfl,rfl,_⟩:=eI.open_inv trivial;have CH:=runT_crowd_spawn (P:=c.P) (sl:=sl) (i:=0) h.g0 (by simpa using U2);rw[h.size]at CH
   have eV:Vc (c.n - (r+1)+1) (upd D (c.n - (r+1)) ⟨7,m₂,0⟩)=Vc (c.n - (r+1)) D+1:=by
    simp only[Vc,sumTo,upd_same];rw[sumTo_upd_out D _ cnt (Xw _)];rfl
   have eS:Ssum (c.n - (r+1)+1) (upd D (c.n - (r+1)) ⟨7,m₂,0⟩)=Ssum (c.n - (r+1)) D+7:=by
    simp only[Ssum,sumTo,upd_same];rw[sumTo_upd_out D _ WD.stage (Xw _)]
   have kP:OpenSt (c.n - (r+1)+1) (upd D (c.n - (r+1)) ⟨7,m₂,0⟩):=λi hi=>by
    by_cases e:i=c.n - (r+1)
    ·subst e;rw[upd_same];simp
    ·rw[upd_ne D _ e];exact ho i (by omega)
   have est:∀tag',pend tag'=0->((Vc (c.n - (r+1)) D+pend (.sp r 2):Nat):Int)*KK=((Vc (c.n - (r+1)+1) (upd D (c.n - (r+1)) ⟨7,m₂,0⟩)+pend tag':Nat):Int)*KK:=λtag' hp=>by rw[eV,hp];simp[pend]
   have MP:=λ(tag':CTag) (f':Nat) (hc:CS c bB AnchW tag' (c.n - (r+1)+1) f' 0 fQ a' w) (hmd:ConcN.Mode (c.n - (r+1)+1) (upd D (c.n - (r+1)) ⟨7,m₂,0⟩) tag' (((Vc (c.n - (r+1)) D+pend (.sp r 2):Nat):Int)*KK) 0)=>
    h.spawn bF G hN.hk (a':=a') (x:={ g:=0,fn:=a.frame.fn,pos:=a.frame.place,act:=.go (c.n - (r+1)+1) }) (y:={ g:=c.n - (r+1)+1,fn:=child.frame.fn,pos:=a.frame.place,act:=.start }) (λ_ h=>h) ⟨rfl,rfl⟩ ⟨rfl,rfl⟩ UY hc hmd
   cases r with
   | zero=>
    have⟨Me,hk⟩:=SL;have kX:CS c bB AnchW .kd (c.n - (0+1)+1) Me 0 fQ a' w:=by rw[show c.n - (0+1)+1=c.n by omega];exact .kd hk
    refine .inr ⟨_,w,_,_,_,_,_,_,_,_,_,_,_,_,_,_,CH,MP .kd Me kX ?_,sH (.inl (by simp only[phi];omega))⟩;rw[est .kd E];exact .opn trivial kP (by simp)
   | succ r'=>
    have⟨Me,hk⟩:=SL;have ej:c.n - (r'+1+1)+1=c.n - (r'+1):=by omega
    have kX:CS c bB AnchW (.sp r' 7) (c.n - (r'+1+1)+1) Me 0 fQ a' w:=by rw[ej];exact .RP (by omega) hk
    refine .inr ⟨_,w,_,_,_,_,_,_,_,_,_,_,_,_,_,_,CH,MP (.sp r' 7) Me kX ?_,sH (.inl (by simp only[phi];omega))⟩;rw[est (.sp r' 7) E];exact .opn trivial kP (by simp)
  ·have⟨a',w',es,hgo,hD,gH⟩:=cN w (.refl w)
   exact .inr (h.idle0 bF G hN hgo hD (.sgo Y gH) (by omega))
 | kd hG=>
  rcases Goes.cases hG with cC|⟨m',rfl,cN⟩
  ·have⟨_,a',hgo,m₂,hk⟩:=cC w (.refl w)
   exact .inr (h.book0 bF G hN hgo (.refl c.Wg w) iQ bk_dis (.anch hk) (λ_ h=>h) (eI.reopen trivial trivial E (by simp)) (.inl (by simp only[phi];omega)))
  ·have⟨a',w',es,hgo,hD,gH⟩:=cN w (.refl w)
   exact .inr (h.idle0 bF G hN hgo hD (.kd gH) (by omega))
 | anch hG=>
  rcases Goes.cases hG with cC|⟨m',rfl,cN⟩
  ·have⟨m₂,hk⟩:=hAn a w (cC w (.refl w))
   have h':CI c bB AnchW n gs w t c.n D sb .w1 m₂ 1 fQ a st sm O Lw val:=⟨h.size,h.g0,.w1 hk,h.wk,h.ct,h.norel,h.lo,h.t0,h.deaf0,h.deafW,h.rel,h.has,h.pay,h.wg,eI.reopen trivial trivial E (by simp),h.seen,h.W9,h.ph,h.pj,h.gone,h.J1,h.lw,h.UO,h.bs,h.above,h.kept,h.old⟩;obtain⟨gs1,w1,ops,j1,D1,sb1,au0,f1,d1,bs1,a1,st1,sm1,O1,Lw1,aa3,k1,k2,k3⟩:=h'.SB bF (sl:=sl) G E hN hk;exact .inr ⟨gs1,w1,ops,j1,D1,sb1,au0,f1,d1,bs1,a1,st1,sm1,O1,Lw1,aa3,k1,k2,UP k3 (by simp only[phi];omega)⟩
  ·have⟨a',w',es,hgo,hD,gH⟩:=cN w (.refl w)
   exact .inr (h.idle0 bF G hN hgo hD (.anch gH) (by omega))
 | w1 hG=>exact .inr (h.SB bF G E hN hG)
 | w2 hG=>
  rename_i vs;rcases Goes.cases hG with cC|⟨m',rfl,cN⟩
  ·have⟨_,kQ⟩:=cC w (.refl w)
   obtain⟨ho,rfl,rfl,tW⟩:=eI.open_inv trivial;have⟨hle,h1⟩:=tW vs E;obtain⟨aB3,aj4⟩:=kQ (Vc c.n D) (by have:=G.hn;omega) (by simpa [pend] using iQ);by_cases e:Vc c.n D=vs
   ·have⟨a',hgo,m₂,hk⟩:=aB3 e
    exact .inr (h.book0 bF G hN hgo (aside_setCell w (stA c.Wg) _) (iQ.setSt _) bk_rw (.w3 hk) (λ_ h=>h) (.reg trivial ho (by omega)) (.inl (by simp only[phi];omega)))
   ·have⟨a',hgo,m₂,hk⟩:=aj4 e
    exact .inr (h.book0 bF G hN hgo (.refl c.Wg w) iQ bk_rd (.anch hk) (λ_ h=>h) (eI.reopen trivial trivial E (by simp)) (.inl (by simp only[phi];omega)))
  ·have⟨a',w',es,hgo,hD,gH⟩:=cN w (.refl w)
   exact .inr (h.idle0 bF G hN hgo hD (.w2 gH) (by omega))
 | w3 hG=>
  rcases Goes.cases hG with cC|⟨m',rfl,cN⟩
  ·have⟨_,aH7,vS,MO⟩:=cC w (.refl w)
   cases eI with
   | opn h1 _ _=>exact h1.elim
   | reg h1 h2 h3=>exact .inr (h.book0 bF G hN (vS ⟨_,iQ⟩) (.refl c.Wg w) iQ (by simp) (.blk cC) (λ_ h=>h) (.reg trivial h2 h3) (.inr ⟨rfl,by omega⟩))
   | last L h1 h2 h3 h4=>exact .inr (h.book0 bF G hN (vS ⟨_,iQ⟩) (.refl c.Wg w) iQ (by simp) (.blk cC) (λ_ h=>h) (.last L trivial h2 h3 h4) (.inr ⟨rfl,by omega⟩))
   | sema h2=>
    have⟨a',hgo,m₂,hk⟩:=MO iQ;exact .inr (h.book0 bF G hN hgo (aside_setCell w (smA c.Wg) _) (iQ.setSm 0) bk_sem (.w4 hk) (λ_ h=>h) (.fin trivial h2) (.inl (by simp only[phi];omega)))
   | fin h1 _=>exact h1.elim
  ·have⟨a',w',es,hgo,hD,gH⟩:=cN w (.refl w)
   exact .inr (h.idle0 bF G hN hgo hD (.w3 gH) (by omega))
 | blk hG=>simp at bR
 | w4 hG=>
  rcases Goes.cases hG with cC|⟨m',rfl,cN⟩
  ·have⟨_,hx⟩:=cC w (.refl w)
   obtain⟨hq,rfl,rfl⟩:=eI.fin_inv trivial;have⟨a',hgo,m₂,hk⟩:=hx iQ;exact .inr (h.book0 bF G hN hgo (.refl c.Wg w) iQ bk_rd (.ke hk) (λ_ h=>h) (.fin trivial hq) (.inl (by simp only[phi];omega)))
  ·have⟨a',w',es,hgo,hD,gH⟩:=cN w (.refl w)
   exact .inr (h.idle0 bF G hN hgo hD (.w4 gH) (by omega))
 | ke hG=>
  rcases Goes.cases hG with cC|⟨m',rfl,cN⟩
  ·have⟨_,a',hgo,m₂,hk⟩:=cC w (.refl w)
   obtain⟨hq,rfl,rfl⟩:=eI.fin_inv trivial;exact .inr (h.book0 bF G hN hgo (.refl c.Wg w) iQ bk_en (.acq hk) (λ_ h=>h) (.fin trivial hq) (.inl (by simp only[phi];omega)))
  ·have⟨a',w',es,hgo,hD,gH⟩:=cN w (.refl w)
   exact .inr (h.idle0 bF G hN hgo hD (.ke gH) (by omega))
 | acq hG=>
  rcases Goes.cases hG with cC|⟨m',rfl,cN⟩
  ·have⟨_,a',hgo,hk⟩:=cC w (.refl w)
   obtain⟨hq,rfl,rfl⟩:=eI.fin_inv trivial;exact .inl ⟨rfl,rfl,hq,a',hgo,hk⟩
  ·have⟨a',w',es,hgo,hD,gH⟩:=cN w (.refl w)
   exact .inr (h.idle0 bF G hN hgo hD (.acq gH) (by omega))
end
theorem QE(x:MemAct):∃B,x.low B:=by
 have loc:∀l:Loc,∃B,l.low B:=λl=>by
  cases l with
  | cell a=>exact⟨a.block+1,YF _⟩
  | obj r=>exact⟨r+1,YF _⟩
  | _=>exact⟨0,trivial⟩
 cases x with
 | access e=>exact loc e.loc
 | mark m=>cases m<;>first|exact⟨0,trivial⟩|(rename_i a;exact⟨a.block+1,YF _⟩)
 | go _|start=>exact⟨0,trivial⟩
 | send q _=>exact⟨q+1,YF _⟩
 | sendDone q _=>exact⟨q+1,YF _⟩
 | recv q _ _=>exact⟨q+1,YF _⟩
 | recvDone q _=>exact⟨q+1,YF _⟩
 | close q=>exact⟨q+1,YF _⟩
 | recvClosed q=>exact⟨q+1,YF _⟩
theorem QD(t:Z'):∃B,∀op∈t,op.act.low B:=by
 have key:∀l:List MemOp,∃B,∀op∈l,op.act.low B:=by
  intro l
  induction l with
  | nil=>exact⟨0,λop h=>by cases h⟩
  | cons a l ih=>
   have⟨B1,h1⟩:=QE a.act;have⟨B2,h2⟩:=ih;refine⟨max B1 B2,λop cF=>?_⟩;rcases Xy.1 cF with rfl|cF
   ·exact MemAct.low_mono (Nat.le_max_left ..) h1
   ·exact MemAct.low_mono (Za ..) (h2 op cF)
 have⟨B,h⟩:=key t.toList;exact⟨B,λop cF=>h op (by simpa using cF)⟩
section
variable[Payload]{c:Kx}{bB AnchW:Z7->W'->Prop}{n:Nat}{gs:Array Z7}{w w':W'}{sl:Option (Nat × Nat)}{t:Z'}{j:Nat}{D:Nat->WD}{sb:Nat->Nat}{tag:CTag}{f0 d0:Nat}{bs:Nat->Prop}{a:Z7}{st sm:Int}{O Lw:Nat->Nat}{val:Nat->Z3}
theorem CI.PS(uD:∀g w,AnchW g w->g.status=.running)(h:CI c bB AnchW n gs w t j D sb tag f0 d0 bs a st sm O Lw val):∃(i:Nat) (g:Z7),gs[i]?=some g/\g.status=.running:=by
 rcases h.cs.status uD with ⟨hs,_⟩|⟨_,rfl⟩
 ·exact⟨0,a,h.g0,hs⟩
 ·cases h.mode with
  | opn h1 _ _=>exact h1.elim
  | reg _ _ h3=>
   have⟨i,hi,h5⟩:=exists_counted h3;have⟨g,hg,hs⟩:=h.wk i hi;exact⟨i+1,g,hg,hs.running_of (by omega)⟩
  | last L _ h2 h3 _=>
   have⟨g,hg,hs⟩:=h.wk L h2;exact⟨L+1,g,hg,hs.running_of (by omega)⟩
  | fin h1 _=>exact h1.elim
theorem CI.awake(uD:∀g w,AnchW g w->g.status=.running)(h:CI c bB AnchW n gs w t j D sb tag f0 d0 bs a st sm O Lw val):∀g∈gs,awake g:=by
 intro g hg tm;have⟨i,hi⟩:=Array.mem_iff_getElem?.1 hg
 cases i with
 | zero=>
  rw[h.g0]at hi;cases hi
  rcases h.cs.status uD with ⟨hs,_⟩|⟨hs,_⟩<;>rw[hs]<;>simp
 | succ i=>
  have bH:i<j:=by have:=(Xz.1 hi).1;rw[h.size]at this;omega
  have⟨g',gH,hs⟩:=h.wk i bH;rw[hi]at gH;cases gH
  rcases hs.status with h|h<;>rw[h]<;>simp
variable(c bB AnchW) in
def RX(n:Nat)(μ:Nat × Nat × Nat):Prop:=∃gs w sl j D sb tag f0 d0 bs a st sm O Lw val,rs c.P c.m0 n=crowd gs w sl/\runNT c.P n c.m0 c.t0=(.next (rs c.P c.m0 n),tr c.P c.m0 c.t0 n)/\
 CI c bB AnchW n gs w (tr c.P c.m0 c.t0 n) j D sb tag f0 d0 bs a st sm O Lw val/\μ=(phi c.n (Vc j D) tag+Ssum j D,sumTo j sb,f0+2*Fsum j D)
variable(c bB) in
def A9:Prop:=∃(n:Nat) (gs:Array Z7) (g:Z7) (w:W') (sl:Option (Nat × Nat)) (t:Z') (q:Nat->Nat) (B:Nat) (S:Nat->Nat->Prop) (val:Nat->Z3),runNT c.P n c.m0 c.t0=(.next (crowd gs w sl),t)/\gs.size=c.n+1/\gs[0]?=some g/\bB g w/\Leavers c.P t gs q/\Past c.Sh B t/\Gd (c.n+1) c.Sh t w.heap.size/\PayAt c.C c.q w/\(∀i,c.p<=i->i<c.n->Has c.C (i - c.p) (val i) w/\c.res i (S i) (val i) w)/\(∀i b,S i b->(c.old b/\¬c.G b)\/c.L0<=b)/\
 w.tape=c.m0.world.tape/\w.os=c.m0.world.os/\w.output=c.m0.world.output/\(∀b,c.old b->w.heap[b]?=c.m0.world.heap[b]?)/\c.L0<=w.heap.size
theorem CI.joined(G:Geo c)(h:CI c bB AnchW n gs w t c.n D sb tag f0 0 bs a st sm O Lw val)(hq:AllQuit c.n D){g':Z7}(Y:g'.status=.running){m:Nat}{sl sl':Option (Nat × Nat)}{w0:W'}
  (bR:runNT c.P m c.m0 c.t0=(.next (crowd ((gs.map (woken c.P a g' w)).setIfInBounds 0 g') w sl),t++MemOp.ofEvents 0 a.frame.fn a.frame.place #[ConcR.mk (.acquire (stA c.Wg))])) (hB:bB g' w):A9 c bB:=by
 have Aw:∀e∈#[ConcR.mk (.acquire (stA c.Wg))],(MemAct.ofEvent e).touch?=none:=by intro e he;simp at he;subst he;rfl
 have e1:MemOp.ofEvents 0 a.frame.fn a.frame.place #[ConcR.mk (.acquire (stA c.Wg))]=#[{ g:=0,fn:=a.frame.fn,pos:=a.frame.place,act:=.mark (.acquire (stA c.Wg)) }]:=by rw[ofEvents_eq];simp[ofEvent_mk]
 have hct:=h.ct.app0 (apart c G O Lw) (aM9 (fn:=a.frame.fn) (pos:=a.frame.place) Aw);have aU6:=h.gone.app (u:=MemOp.ofEvents 0 a.frame.fn a.frame.place #[ConcR.mk (.acquire (stA c.Wg))]) λop cF=>.inl (g_of_ofEvents op cF);have hlo:=RK (u:=MemOp.ofEvents 0 a.frame.fn a.frame.place #[ConcR.mk (.acquire (stA c.Wg))]) h.lo h.t0;have bc8:=h.seen.app (Xw _) (seen_none (g:=0) (fn:=a.frame.fn) (pos:=a.frame.place) Aw);have aC1:=h.W9.app (DX (g_of_ofEvents (g:=0) (fn:=a.frame.fn) (pos:=a.frame.place) (es:=#[ConcR.mk (.acquire (stA c.Wg))])));have QZ:aP4 c.t0.size (stA c.Wg) (t++MemOp.ofEvents 0 a.frame.fn a.frame.place #[ConcR.mk (.acquire (stA c.Wg))]):=h.norel.app (ConcN.norel_of (by intro e he;simp at he;subst he;simp[ConcR.mk]))
 have dW:∀i,c.p<=i->i<c.n->∃r,RelBy (stA c.Wg) (t++MemOp.ofEvents 0 a.frame.fn a.frame.place #[ConcR.mk (.acquire (stA c.Wg))]) (i+1) r/\r<t.size:=λi hp hi=>by
  obtain⟨r,Y⟩:=h.rel i hp hi (by rw[hq i hi];omega);exact⟨r,Y.appOther g_of_ofEvents (by omega),lt_of_act? Y.act⟩
 have AA:∀k,Deaf (t++MemOp.ofEvents 0 a.frame.fn a.frame.place #[ConcR.mk (.acquire (stA c.Wg))]) k=Deaf t k:=λk=>ConcN.Deaf_still t k _ (by rw[e1];intro op cF;simp at cF;subst cF;simp);generalize hT:t++MemOp.ofEvents 0 a.frame.fn a.frame.place #[ConcR.mk (.acquire (stA c.Wg))]=T at *;have hy:T[t.size]?=some { g:=0,fn:=a.frame.fn,pos:=a.frame.place,act:=.mark (.acquire (stA c.Wg)) }:=by rw[<-hT,e1];simp
 have q1:T.act? t.size=some (.mark (.acquire (stA c.Wg))):=by rw[act?_of hy]
 have q2:T.g? t.size=some 0:=by simp[Trace.g?,hy]
 have q3:T.heard t.size:=⟨0,q2,by rw[<-hT,deaf_old (Xw _)];exact h.deaf0⟩
 have all:∀i g,T.g? i=some g->g≠0->c.p<g->∃r,RelBy (stA c.Wg) T g r/\r<t.size/\c.t0.size<=r:=λi g hg eW hp=>by
  obtain⟨op,ho,rfl⟩:=Ye.1 hg;have:=hct.gs i op ho;obtain⟨r,Y,hrt⟩:=dW (op.g - 1) (by omega) (by omega);rw[show op.g - 1+1=op.g by omega]at Y;refine⟨r,Y,hrt,?_⟩;rcases XP r c.t0.size with h1|h1
  ·have⟨y,hy,hyg⟩:=Ye.1 Y.g
   have:=hlo r y h1 hy;omega
  ·exact h1
 have over:T.HandedOver:=λi g hg eW hc=>by
  rcases XP c.p g with hp|hp
  ·have⟨r,Y,hrq,Js⟩:=all i g hg eW hp
   have ar6:HappensBefore T r t.size:=.single (.inr ⟨.marked hrq (.inr Y.act) q1 (λk hk _=>QZ k (by omega)),Y.heard,q3⟩);have hle:i<=r:=Nat.le_of_not_lt λbH=>Y.after i bH hg hc;rcases XP i r with bH|pV
   ·exact⟨t.size,q2,.trans (.single (.inl ⟨bH,g,hg,Y.g⟩)) ar6⟩
   ·obtain rfl:i=r:=by omega
    exact⟨t.size,q2,ar6⟩
  ·exact aU6.over i g hg eW hp hc
 have lv:∀i g,0<i->gs[i]?=some g->∃i',i=i'+1/\i'<c.n/\QuitsD c.P (D i').fuel (D i').deaf g:=λi g HS hg=>by
  obtain⟨i',rfl⟩:∃i',i=i'+1:=⟨i - 1,by omega⟩;have bH:i'<c.n:=by have:=(Xz.1 hg).1;rw[h.size]at this;omega
  have⟨g',gH,yK⟩:=h.wk i' bH;rw[hg]at gH
  cases gH
  rw[hq i' bH]at yK;generalize hx:(1:Nat)=x at yK;generalize sb i'=y at yK;refine⟨i',rfl,bH,?_⟩;generalize (D i').fuel=y2 at yK ⊢;generalize (D i').deaf=y3 at yK ⊢
  cases yK with
  | late h6 hL=>exact ConcN.WSit.quits hL hx.symm
  | _=>omega
 have⟨B,hB'⟩:=QD T
 have kn:∀i x,touchAt T i=some x->Knows T 0 i\/(c.Sh x.loc/\x.kind=.atomic):=λi x hx=>by
  have⟨op,cF,hox⟩:=touch_of hx;have hgi:T.g? i=some op.g:=by simp[Trace.g?,cF]
  by_cases h0:op.g=0
  ·have:=knows_own cF
   rw[h0]at this;exact .inl this
  rcases XP c.p op.g with hp|hp
  ·cases hm:x.loc.isMemory with
   | false=>
    refine .inl (hct.free x.loc (λhs=>?_) (λk _ _=>⟨λho=>?_,λY=>?_⟩) i x hx E)
    ·rcases hs with ⟨a,ha,_⟩|hs
     ·rw[ha]at hm;cases hm
     ·obtain⟨a,ha,_⟩:=G.hS _ hs
      rw[ha]at hm;cases hm
    ·obtain⟨_,ha|⟨b,ha|⟨a,ha,_⟩,_⟩⟩:=ho<;>rw[ha]at hm<;>cases hm
    ·have⟨_,a,ha,_⟩:=Y
     rw[ha]at hm;cases hm
   | true=>
    have⟨r,Y,hrq,Js⟩:=all i op.g hgi h0 hp;have bH:=lt_size_of_getElem? cF;have ar6:HappensBefore T r t.size:=.single (.inr ⟨.marked hrq (.inr Y.act) q1 (λk hk _=>QZ k (by omega)),Y.heard,q3⟩);rcases XP r i with hri|hri
    ·have WO:=Y.after i hri hgi
     by_cases hk:x.kind=.atomic
     ·exact .inr ⟨.inl (aC1 op (Ym cF) x hox hk hp),hk⟩
     ·exact absurd ⟨x,by rw[act?_of cF];exact hox,hm,.inl hk⟩ WO
    ·refine .inl ⟨t.size,_,hy,rfl,.inr ?_⟩
     rcases XP i r with h2|h2
     ·exact .trans (.single (.inl ⟨h2,op.g,hgi,Y.g⟩)) ar6
     ·obtain rfl:i=r:=by omega
      exact ar6
  ·exact(aU6.known i op x cF h0 hp hox).imp id λ⟨h1,h2⟩=>⟨.inr h1,h2⟩
 refine⟨m,_,g',w,sl,T,λi=>(D (i - 1)).fuel,B,λi=>Eb c O i,val,bR,by simp[h.size],by simp[h.size],hB,⟨λi g HS hg=>?_,λk hk=>?_⟩,⟨hct.nr,λi x hx _=>kn i x hx,over,by rw[AA,h.deaf0],hB'⟩,⟨kn,hct.quiet,λop cF=>(by obtain⟨i,hi,rfl⟩:=Array.mem_iff_getElem.1 cF;exact Nat.lt_succ_of_le (hct.gs i _ (X4 hi))),bc8⟩,h.pay,λi hp hi=>h.has i hp hi (by rw[hq i hi];omega),λi b hb=>hb.imp id λh=>h.1,h.kept.1,h.kept.2.1,h.kept.2.2,h.old,h.l0⟩
 ·rw[XE (by omega),Yl]at hg
  obtain⟨y,hy',rfl⟩:=Ye.1 hg;obtain⟨i',rfl,bH,WH⟩:=lv i y HS hy';rw[woken_quitsD WH,AA,h.deafW i' bH];exact WH
 ·rw[AA]
  refine ConcN.Deaf_absent λi op hi e=>?_;have:=h.ct.gs i op hi;simp[h.size]at hk;omega
variable(bF:∀i (S S':Nat->Prop) v w w',c.res i S v w->(∀b,b<w.heap.size->S b->w'.heap[b]?=w.heap[b]?)->w.heap.size<=w'.heap.size->(∀b,b<w.heap.size->S b->S' b)->c.res i S' v w')(HF:∀f:Re,(∀b,b<c.L0->f b=b)->Fk c.Q c.P (KO c.NG c.P) f)(iP:c.NG=0)(oZ:∀i v M f W0 wE w' (S:Nat->Prop),c.post i v wE->WR (KO c.NG c.P) M f W0 wE w'->(∀b o,wE.heap[b]?=some o->o≠cu->S (f b))->c.res i S (rV f v) w')
include bF HF iP oZ in
theorem JK(G:Geo c)(uD:∀g w,AnchW g w->g.status=.running)(hBr:∀g w,bB g w->g.status=.running)(hAn:∀g w,AnchW g w->∃m,GS c fQ (AtW1 c bB AnchW) m g w){μ:Nat × Nat × Nat}(h:RX c bB AnchW n μ) :
  A9 c bB\/∃JY,Lt3 JY μ/\RX c bB AnchW (n+1) JY:=by
 obtain⟨gs,w,sl,j,D,sb,tag,f0,d0,bs,a,st,sm,O,Lw,val,qH,bR,h,rfl⟩:=h
 have MR:∃x,OM c.P (rs c.P c.m0 n) x:=by
  obtain⟨i,g,d,sl',hi,hg,dU⟩:=crowd_pick (P:=c.P) (w:=w) (sl:=sl) (h.awake uD) (h.PS uD);rw[qH];exact⟨(i,d,sl'),g,hi,hg,dU⟩
 have⟨g,hi,hg,At⟩:=Hm MR;have es:sg c.P (rs c.P c.m0 n)=stepG c.P ((pk c.P (rs c.P c.m0 n)).1==0) g (wd c.P (rs c.P c.m0 n)):=by simp only[sg,hi]
 have VD:wd c.P (rs c.P c.m0 n)=w.at (pk c.P (rs c.P c.m0 n)).2.1:=by unfold wd;rw[qH];rfl
 rw[VD]at es;rw[show (rs c.P c.m0 n).at (pk c.P (rs c.P c.m0 n)).2.1 (pk c.P (rs c.P c.m0 n)).2.2=crowd gs (w.at (pk c.P (rs c.P c.m0 n)).2.1) (pk c.P (rs c.P c.m0 n)).2.2 by rw[qH];rfl]at At;rw[show (rs c.P c.m0 n).gs=gs by rw[qH];rfl]at hi;have hN:OO c n (pk c.P (rs c.P c.m0 n)).1 g (w.at (pk c.P (rs c.P c.m0 n)).2.1):=⟨rfl,VD,by rw[qH];rfl,by rw[qH];exact h.kept.1,es⟩;have h':=h.at (λi S v w d Y=>bF i S S v w (w.at d) Y (λ_ _ _=>rfl) (Xw _) λ_ _ h=>h) (pk c.P (rs c.P c.m0 n)).2.1;generalize pk c.P (rs c.P c.m0 n)=x at *;obtain⟨k,d,sl'⟩:=x;simp only at hi At hN h'
 have next:Nz c bB AnchW n k gs (w.at d) sl' (tr c.P c.m0 c.t0 n) (phi c.n (Vc j D) tag+Ssum j D,sumTo j sb,f0+2*Fsum j D)->∃JY,Lt3 JY (phi c.n (Vc j D) tag+Ssum j D,sumTo j sb,f0+2*Fsum j D)/\RX c bB AnchW (n+1) JY:=by
  rintro ⟨W5,w',ops,j',D',sb',tag',f',d',bs',a',st',uV,O',OP,val',r1,r2,r3⟩;have⟨k1,k2,k3⟩:=uj bR (At.trans r1);exact⟨_,r3,W5,w',sl',j',D',sb',tag',f',d',bs',a',st',uV,O',OP,val',k1,k3,by rw[k2];exact r2,rfl⟩
 cases k with
 | zero=>
  rw[h.g0]at hi
  cases hi
  rcases h'.PF bF (sl:=sl') G hAn hg hN with ⟨rfl,rfl,hq,g',hgo,hB⟩|h2
  ·have CG:=runT_crowd_go (P:=c.P) (sl:=sl') (i:=0) h.g0 (show stepG c.P (0==0) a (w.at d)=_ from hgo)
   have⟨k1,k2,k3⟩:=uj bR (At.trans CG);rw[k1,k2]at k3;exact .inl (h'.joined G hq (hBr _ _ hB) (sl':=none) (w0:=w) k3 hB)
  ·exact .inr (next h2)
 | succ i=>
  have bH:i<j:=by have:=(Xz.1 hi).1;rw[h.size]at this;omega
  exact .inr (next (Nx.z hi (h'.worker bF HF iP oZ G uD bH hi hg hN)))
include bF HF iP oZ in
theorem crowd_runs(G:Geo c)(uD:∀g w,AnchW g w->g.status=.running)(hBr:∀g w,bB g w->g.status=.running)(hAn:∀g w,AnchW g w->∃m,GS c fQ (AtW1 c bB AnchW) m g w):∀μ n,RX c bB AnchW n μ->A9 c bB:=by
 intro μ
 induction μ using lt3_wf.induction with
 | _ μ ih=>
  intro n h;rcases JK bF HF iP oZ G uD hBr hAn h with h|⟨JY,h1,h2⟩
  ·exact h
  ·exact ih JY h1 _ h2
end
structure Wk(R:W'->W'->Prop)(D:W'->W'->Array ϊ->Prop)(F:W'->Prop):Prop where
 rel:∀w w',F w->R w w'->F w'
 dz:∀w,D w w #[]
structure GX(P:Z4)(main:Bool)(R:W'->W'->Prop)(D:W'->W'->Array ϊ->Prop)(F:W'->Prop)(Stop:Z7->W'->Prop)(g:Z7):Prop where
 go:∃m,∀w,F w->Goes P main R D Stop m g w
section
variable{P:Z4}{main:Bool}{R:W'->W'->Prop}{D:W'->W'->Array ϊ->Prop}{F:W'->Prop}{Stop:Z7->W'->Prop}
theorem GX.at{g:Z7}{w:W'}(h:GX P main R D F Stop g)(hw:F w):∃m,Goes P main R D Stop m g w:=let ⟨m,h⟩:=h.go;⟨m,h w hw⟩
theorem GX.stop{g:Z7}(W:Wk R D F)(h:∀w,F w->Stop g w):GX P main R D F Stop g:=⟨⟨0,λw hw cL r=>h cL (W.rel _ _ hw r)⟩⟩
theorem GX.ev{g g':Z7}(W:Wk R D F){es:Array ϊ}(hs:g.status=.running)(h:∀w,F w->stepG P main g w=.go g' w es)(hD:∀w,F w->D w w es)(hk:GX P main R D F Stop g'):GX P main R D F Stop g:=by
 obtain⟨m,hk⟩:=hk.go;refine⟨⟨m+1,λw hw=>Goes.step hs λcL r=>?_⟩⟩;have yI:=W.rel _ _ hw r;rw[h cL yI];exact⟨hD cL yI,hk cL yI⟩
theorem GX.step{g g':Z7}(W:Wk R D F)(hs:g.status=.running)(h:∀w,F w->stepG P main g w=.go g' w #[])(hk:GX P main R D F Stop g'):GX P main R D F Stop g:=.ev W hs h (λw _=>W.dz w) hk
variable{b:Frame}{a:Act}{k:List Item}{cs:List Frame}
theorem GX.value(W:Wk R D F){ops:Array Z8}{i:Nat}{rest:List Nat}{o:Z8}{v:Z3}(ho:ops[i]?=some o)(hw:Region.wanted o (yielded ops a.tmps)=true)(hk:b.kind≠.early)
  (Y:∀w,F w->(execOp a.eval o).run P w=.ok (.value v) w) (he:∀w,F w->(execOp a.eval o).events P w #[]=#[])
  (hq:GX P main R D F Stop (G (b.at (a.put o.dst v) (.inRegion ops rest::k)) cs)):GX P main R D F Stop (G (b.at a (.inRegion ops (i::rest)::k)) cs):=
 .step W E (λw hF=>by rw[stepG_value ho hw hk (Y w hF)];unfold listed;rw[he w hF,Conc.seen_none]) hq
theorem GX.unwanted(W:Wk R D F){ops:Array Z8}{i:Nat}{rest:List Nat}{o:Z8}(ho:ops[i]?=some o)(hw:Region.wanted o (yielded ops a.tmps)=false)
  (hq:GX P main R D F Stop (G (b.at (a.put o.dst undef) (.inRegion ops rest::k)) cs)):GX P main R D F Stop (G (b.at a (.inRegion ops (i::rest)::k)) cs):=
 .step W E (λ_ _=>stepG_unwanted ho hw) hq
variable{x y:Code}{id:Nat}
theorem GX.seq(W:Wk R D F)(h:GX P main R D F Stop (G (b.at a (.code x :: .code y::k)) cs)):GX P main R D F Stop (G (b.at a (.code (.seq x y)::k)) cs):=.step W E (λ_ _=>stepG_seq) h
theorem GX.skip(W:Wk R D F)(h:GX P main R D F Stop (G (b.at a k) cs)):GX P main R D F Stop (G (b.at a (.code .skip::k)) cs):=.step W E (λ_ _=>stepG_skip) h
theorem GX.iS(W:Wk R D F){o:Z6}(e:a.eval o=.bool true)(h:GX P main R D F Stop (G (b.at a (.code x::k)) cs)):GX P main R D F Stop (G (b.at a (.code (.cond o x y)::k)) cs):=.step W E (λ_ _=>stepG_cond e) h
theorem GX.jH(W:Wk R D F){o:Z6}(e:a.eval o=.bool false)(h:GX P main R D F Stop (G (b.at a (.code y::k)) cs)):GX P main R D F Stop (G (b.at a (.code (.cond o x y)::k)) cs):=.step W E (λ_ _=>stepG_cond e) h
theorem GX.block(W:Wk R D F)(h:GX P main R D F Stop (G (b.at a (.code x :: .inBlock id::k)) cs)):GX P main R D F Stop (G (b.at a (.code (.block id x)::k)) cs):=.step W E (λ_ _=>stepG_block) h
theorem GX.loop(W:Wk R D F)(h:GX P main R D F Stop (G (b.at a (.code x :: .inLoop x::k)) cs)):GX P main R D F Stop (G (b.at a (.code (.loop x)::k)) cs):=.step W E (λ_ _=>stepG_loop) h
theorem GX.inBlock(W:Wk R D F)(h:GX P main R D F Stop (G (b.at a k) cs)):GX P main R D F Stop (G (b.at a (.inBlock id::k)) cs):=.step W E (λ_ _=>stepG_inBlock) h
theorem GX.inLoop(W:Wk R D F)(h:GX P main R D F Stop (G (b.at a (.code x :: .inLoop x::k)) cs)):GX P main R D F Stop (G (b.at a (.inLoop x::k)) cs):=.step W E (λ_ _=>stepG_inLoop) h
theorem GX.exit(W:Wk R D F){k':List Item}(e:exitTo id k=some k')(h:GX P main R D F Stop (G (b.at a k') cs)):GX P main R D F Stop (G (b.at a (.code (.exit id)::k)) cs):=.step W E (λ_ _=>stepG_exit e) h
theorem GX.region(W:Wk R D F){ops:Array Z8}(h:GX P main R D F Stop (G (b.at a (.inRegion ops (List.range ops.size)::k)) cs)):GX P main R D F Stop (G (b.at a (.code (.region id ops false)::k)) cs):=.step W E (λ_ _=>stepG_region) h
theorem GX.fin(W:Wk R D F){ops:Array Z8}(h:GX P main R D F Stop (G (b.at a k) cs)):GX P main R D F Stop (G (b.at a (.inRegion ops []::k)) cs):=.step W E (λ_ _=>stepG_region_end) h
theorem GX.ret(W:Wk R D F)(h:GX P main R D F Stop (G { b.at a (.code .ret::k) with mode:=.returning } cs)):GX P main R D F Stop (G (b.at a (.code .ret::k)) cs):=.step W E (λ_ _=>stepG_ret') h
theorem GX.end_(W:Wk R D F)(h:GX P main R D F Stop (G { b.at a [] with mode:=.returning } cs)):GX P main R D F Stop (G (b.at a []) cs):=.step W E (λ_ _=>stepG_end) h
theorem GX.defer(W:Wk R D F){ops:Array Z8}{i:Nat}{rest:List Nat}{o:Z8}{f:ϋ}{asd:Array Z6}{Wa:Array Z5}(ho:ops[i]?=some o)(hw:Region.wanted o (yielded ops a.tmps)=true)(hk:b.kind≠.early)(cF:o.op=.defer { callee:=.value (.func f),args:=asd,argTypes:=Wa })
 (h:GX P main R D F Stop (G (b.at (Act.put ⟨a.tmps,dcall f (asd.map a.eval)::a.defers⟩ o.dst undef) (.inRegion ops rest::k)) cs)):GX P main R D F Stop (G (b.at a (.inRegion ops (i::rest)::k)) cs):=.step W E (λ_ _=>stepG_defer ho hw hk cF) h
variable{fn:Func}{todo:List Item}{b₀:Frame}{a₀:Act}{ops:Array Z8}{i:Nat}{rest:List Nat}
theorem GX.leave0(W:Wk R D F)(hn:b.kind=.normal)(J:a.defers=[])(hf:P.funcs[b.fn]?=some fn)(Y:fn.results=#[])
  (hq:GX P main R D F Stop (G (b₀.at (a₀.put ((ops[i]?).bind (·.dst)) (.tuple #[])) (.inRegion ops rest::k)) cs)) :
  GX P main R D F Stop (G { b.at a todo with mode:=.returning } (b₀.at a₀ (.inRegion ops (i::rest)::k)::cs)):=
 .step W E (λw _=>by rw[stepG_leave hn J hf (results_none Y _ P w) (events_results_none Y _ _),Frame.finish_at]) hq
theorem GX.leave1(W:Wk R D F){t:Tmp}(hn:b.kind=.normal)(J:a.defers=[])(hf:P.funcs[b.fn]?=some fn)(Y:fn.results=#[.tmp t])
  (hq:GX P main R D F Stop (G (b₀.at (a₀.put ((ops[i]?).bind (·.dst)) (a.tmps.getD t undef)) (.inRegion ops rest::k)) cs)) :
  GX P main R D F Stop (G { b.at a todo with mode:=.returning } (b₀.at a₀ (.inRegion ops (i::rest)::k)::cs)):=
 .step W E (λw _=>by rw[stepG_leave hn J hf (results_tmp Y _ P w) (events_results_tmp Y _ _),Frame.finish_at]) hq
theorem GX.call(W:Wk R D F){o:Z8}{f:ϋ}{c:Code}{args:Array Z6}{Wa:Array Z5}(ho:ops[i]?=some o)(hw:Region.wanted o (yielded ops a.tmps)=true)(hk:b.kind≠.early)
  (cF:o.op=.call { callee:=.value (.func f),args,argTypes:=Wa }) (hf:P.funcs[f]?=some fn) (m9:(fn.name == "runtime.NumGoroutine")=false) (hb:fn.body=some c)
  (hq:GX P main R D F Stop (G ((base f).at { tmps:=args.map a.eval++Array.replicate (fn.ntmps - (args.map a.eval).size) undef,defers:=[] } [.code c]) (b.at a (.inRegion ops (i::rest)::k)::cs))) :
  GX P main R D F Stop (G (b.at a (.inRegion ops (i::rest)::k)) cs):=by
 refine .step W E (λw _=>?_) hq;have bY:fn.body.isNone=false:=by rw[hb];rfl
 rw[stepG_enter ho hw hk (run_call_body cF hf m9 bY),enter_at _ hf hb];have:listed P b.fn a o w=#[]:=by unfold listed;rw[events_call_body cF hf m9 bY];exact Conc.seen_none P _
 rw[this]
theorem GX.conv(W:Wk R D F){o:Z8}{src dst t:Z5}{x:Z6}{ad:Addr}(ho:ops[i]?=some o)(hw:Region.wanted o (yielded ops a.tmps)=true)(hk:b.kind≠.early)(cF:o.op=.convert src dst x)
  (hx:a.eval x=.pointer (some ad)) (hs:P.underlying src=some (.pointer t)) (J:P.underlying dst=some .unsafePointer) (eQ:(P.info? t).map (λi=>decide (i.size=0))=some false) (hc:∀w,F w->∃v,w.cell? ad=some v)
  (hq:GX P main R D F Stop (G (b.at (a.put o.dst (.pointer (some ad))) (.inRegion ops rest::k)) cs)):GX P main R D F Stop (G (b.at a (.inRegion ops (i::rest)::k)) cs):=by
 refine .value W ho hw hk (λw hF=>?_) (λw hF=>?_) hq
 all_goals
  obtain⟨v,hv⟩:=hc w hF;unfold execOp;simp only[cF,hx]
 ·simp[run_convert_to_unsafe hs J eQ hv]
 ·simp[events_convert_to_unsafe hs J eQ hv,run_convert_to_unsafe hs J eQ hv]
variable[Payload]{c:Kx}{bs:Nat->Prop}
structure Wl(c:Kx)(bs:Nat->Prop)(F:W'->Prop):Prop extends Wk (R0 c bs) (DS c bs) F where
 live:∀w,F w->WgLive c.ty c.Wg w
 set:∀w a v,F w->a.block=c.Wg->WgLive c.ty c.Wg (w.setCell a v)->F (w.setCell a v)
omit [Payload] in
theorem DS.none(w:W'):DS c bs w w #[]:=⟨rfl,rfl,rfl,rfl,λ_ _=>rfl,by simp⟩
omit [Payload] in
theorem DS.one{e:ϊ}(w:W')(h:EvS c bs e):DS c bs w w #[e]:=⟨rfl,rfl,rfl,rfl,λ_ _=>rfl,by simpa using h⟩
omit [Payload] in
theorem Wl.cell{w:W'}(W:Wl c bs F)(h:F w):(∃v,w.cell? ⟨c.Wg,0,Option.none⟩=some v)/\∃v,w.cell? ⟨c.Wg,1,Option.none⟩=some v:=let ⟨_,_,x⟩:=W.live w h;⟨⟨_,x.cellSt⟩,_,x.cellSm⟩
end
end Go.Proofs.YthcfokccjljnpaaGreat.Par
