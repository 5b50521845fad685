/- Contracts over the abstract machine, and the crowd of workers. Conditions: none. -/
import Derived.OwnWalk
import Derived.WalkSpells
import Derived.Deep.Slices
import Derived.ProofKit
import Derived.RangeFuncNested
import Derived.Laws.Externs
import Derived.Laws.FloatArith
import Derived.Laws.ComplexArith
import Derived.Laws.CopyRow
import Derived.Test.YthcfokccjljnpaaGreatJ1
set_option linter.unusedVariables false
set_option linter.unusedSimpArgs false
set_option linter.unusedSectionVars false
namespace Go.Proofs.YthcfokccjljnpaaGreat.Am
open Go Go.RowKit
section
variable{P:Z4}{w0:Cx}{n:Nat}{s:Nat->aH}{ev:Z6->T}{dst:Option Tmp}{ty:Z5}{pos:String}{after:Array Edge}{g:Option (Nat × Bool)}
theorem ff{o:Z8}{a:Act}{w:W'}{y:Z6}{t:Z5}{k:Int}(ho:o.op=.call ⟨.builtin .len,#[y],#[t]⟩)(h:(Builtin.len_ #[t] o.type #[a.eval y]).run P w=.ok (.int .i64 k) w):(execOp a.eval o).run P w=.ok (.value (.int .i64 k)) w:=by
 simp[execOp,ho,resolve,invoke,builtin,h]
def tV(P:Z4)(t:Z5):Bool:=match P.underlying t with|some (.slice _)=>true|_=>false
theorem pI{t:Z5}(h:tV P t=true):∃e,P.underlying t=some (.slice e):=by
 unfold tV at h
 cases hu:P.underlying t with
 | none=>simp[hu]at h
 | some d=>cases d<;>simp[hu]at h ⊢
theorem cd{y:Z6}{t:Z5}{sz m:Nat}{es:List (List D)}(ht:tV P t=true)(hy:ev y=.d (.sl sz es))(hm:es.length=m):QOp P w0 n s ev ⟨dst,.call ⟨.builtin .len,#[y],#[t]⟩,ty,pos,after,g⟩ (T.i m):=
 .mk λa w ok blk val h _ qW=>by
  subst hm;obtain⟨A,cap,hv,_⟩:=kO (show iN w _ (.sl sz es) (a.eval y) by have:=h y;rw[hy]at this;exact this);have⟨e,he⟩:=pI ht;exact⟨_,w,ff E (by simp[Builtin.len_,run_underlying he,hv,goInt]),Ext.refl w,.v _ E⟩
theorem Ln{y:Z6}{t:Z5}{k e sz:Nat}{es:List (List D)}(ht:tV P t=true)(hy:ev y=.rs k)(hk:s k=.row e sz es):QOp P w0 n s ev ⟨dst,.call ⟨.builtin .len,#[y],#[t]⟩,ty,pos,after,g⟩ (T.i es.length):=
 .mk λa w ok blk val h hs qW=>by
  have h1:=h y;rw[hy]at h1;have⟨_,hv⟩:=h1;have h2:=hs k;rw[hk]at h2;have⟨e',he⟩:=pI ht;have⟨_,_,h3⟩:=h2;rcases h3 with ⟨_,he0,dD⟩|⟨b,aK,cap,_,dD,_⟩
  ·exact⟨_,w,ff (k:=es.length) E (by simp[Builtin.len_,run_underlying he,hv,dD,he0,goInt]),Ext.refl w,.v _ E⟩
  ·exact⟨_,w,ff (k:=es.length) E (by simp[Builtin.len_,run_underlying he,hv,dD,goInt]),Ext.refl w,.v _ E⟩
def isStr(P:Z4)(t:Z5):Bool:=match P.underlying t with|some .string=>true|_=>false
theorem wa{t:Z5}(h:isStr P t=true):P.underlying t=some .string:=by
 unfold isStr at h
 cases hu:P.underlying t with
 | none=>simp[hu]at h
 | some d=>cases d<;>simp[hu]at h ⊢
theorem vY{y:Z6}{t:Z5}{b:ByteArray}(ht:isStr P t=true)(hy:ev y=.d (.v (.string b))):QOp P w0 n s ev ⟨dst,.call ⟨.builtin .len,#[y],#[t]⟩,ty,pos,after,g⟩ (T.i b.size):=
 .mk λa w ok blk val h _ qW=>by
  have hv:a.eval y=.string b:=iV.c8 (hy ▸ h y);exact⟨_,w,ff E (by simp[Builtin.len_,run_underlying (wa ht),hv,goInt]),Ext.refl w,.v _ E⟩
theorem vg{x y:Z6}{ts:Array Z5}{a b:Int}{k:IntKind}(hx:ev x=.d (.v (.int k a)))(hy:ev y=.d (.v (.int k b))):QOp P w0 n s ev ⟨dst,.call ⟨.builtin .max,#[x,y],ts⟩,ty,pos,after,g⟩ (.d (.v (.int k (max a b)))):=
 .mk λact w ok blk val h _ _=>by
  have h1:act.eval x=.int k a:=iV.c8 (hx ▸ h x);have h2:act.eval y=.int k b:=iV.c8 (hy ▸ h y);have hm:(if b > a then b else a)=max a b:=by split<;>omega
  exact⟨_,w,by simp[execOp,resolve,invoke,builtin,Builtin.max_,Builtin.max2,h1,h2,<-hm],Ext.refl w,.v _ E⟩
theorem tx{x y:Z6}{ts:Array Z5}{a b:Int}{k:IntKind}(hx:ev x=.d (.v (.int k a)))(hy:ev y=.d (.v (.int k b))):QOp P w0 n s ev ⟨dst,.call ⟨.builtin .min,#[x,y],ts⟩,ty,pos,after,g⟩ (.d (.v (.int k (min a b)))):=
 .mk λact w ok blk val h _ _=>by
  have h1:act.eval x=.int k a:=iV.c8 (hx ▸ h x);have h2:act.eval y=.int k b:=iV.c8 (hy ▸ h y);have hm:(if b<a then b else a)=min a b:=by split<;>omega
  exact⟨_,w,by simp[execOp,resolve,invoke,builtin,Builtin.min_,Builtin.min2,h1,h2,<-hm],Ext.refl w,.v _ E⟩
theorem O5{w:W'}{ok:Nat->Prop}{sz:Nat}{es:List (List D)}{b off:Nat}{vs:Nat->Nat->Z3}{cap lo hi:Nat}(hb:b<w.heap.size)(bg:ok b)(ez:cap<=maxLen)(hn:es.length<=cap)
  (eQ:∀(i:Nat) (e:List D),es[i]?=some e->e.length=sz) (hs:∀(i:Nat) (e:List D) (j:Nat) (d:D),es[i]?=some e->e[j]?=some d->d.sc=true)
  (hc:∀(i:Nat) (e:List D) (j:Nat) (d:D),es[i]?=some e->e[j]?=some d->w.cell? ⟨b,off+i*sz+j,none⟩=some (vs i j)) (Y:∀(i:Nat) (e:List D) (j:Nat) (d:D),es[i]?=some e->e[j]?=some d->iN w ok d (vs i j)) (h1:lo<=hi) (h2:hi<=es.length) :
  iN w ok (.sl sz ((es.take hi).drop lo)) (.slice (some ⟨b,off+lo*sz,none⟩) (hi - lo) (cap - lo)):=by
 have hg:∀(i:Nat) (e:List D),((es.take hi).drop lo)[i]?=some e->es[lo+i]?=some e:=λi e h=>by
  rw[Yk,Yq]at h
  split at h
  ·exact h
  ·cases h
 have hl:((es.take hi).drop lo).length=hi - lo:=by simp;omega
 have:=iN.sl (w:=w) (ok:=ok) sz ((es.take hi).drop lo) b (off+lo*sz) (cap - lo) (λi j=>vs (lo+i) j) hb bg (by rw[hl];omega) (by omega) (λi e h=>eQ _ e (hg i e h)) (λi e j d h h'=>hs _ e j d (hg i e h) h') (λi e j d h h'=>by
  have:=hc _ e j d (hg i e h) h'
  rw[show off+lo*sz+i*sz+j=off+(lo+i)*sz+j by rw[Z2];omega];exact this) (λi e j d h h'=>Y _ e j d (hg i e h) h')
 rw[hl]at this;exact this
def oA(ev:Z6->T)(x:Option Z6)(aF8 v:Nat):Prop:=match x with|none=>v=aF8|some y=>ev y=T.i (v:Int)
theorem u6{a:Act}{cap len lo hi:Nat}{l h:Option Z6}{w:W'}{blk:Nat->Option Nat}{val:Nat->Z3}{ok:Nat->Prop}(hy:∀y,iV w ok blk val s (ev y) (a.eval y))(hl:oA ev l 0 lo)(hh:oA ev h len hi)(h1:lo<=hi)(h2:hi<=len)(h3:len<=cap)(b:Bool) :
  (Instr.sliceBounds b len cap (l.map a.eval) (h.map a.eval) none).run P w=.ok (lo,hi,cap) w:=by
 have vl:∀y,l=some y->a.eval y=.int .i64 (lo:Int):=λy e=>by subst e;exact iV.c8 ((show ev y=T.i lo from hl) ▸ hy y)
 have vh:∀y,h=some y->a.eval y=.int .i64 (hi:Int):=λy e=>by subst e;exact iV.c8 ((show ev y=T.i hi from hh) ▸ hy y)
 cases l with
 | none=>
  have:lo=0:=hl;subst this
  cases h with
  | none =>
    have:hi=len:=hh;subst this;simp[Instr.sliceBounds]
  | some y=>simp[Instr.sliceBounds,vh y E,Instr.sliceBound,asIntOf,show (hi:Int)<=(cap:Int) by omega,show hi<=cap by omega]
 | some x=>
  cases h with
  | none=>
   have:hi=len:=hh;subst this;simp[Instr.sliceBounds,vl x E,Instr.sliceBound,asIntOf,show (lo:Int)<=(hi:Int) by omega,h1]
  | some y=>simp[Instr.sliceBounds,vl x E,vh y E,Instr.sliceBound,asIntOf,show (lo:Int)<=(hi:Int) by omega,show (hi:Int)<=(cap:Int) by omega,show hi<=cap by omega,h1]
theorem Qd{t:Z5}{y:Z6}{l h:Option Z6}{e sz lo hi:Nat}{es es':List (List D)}(ht:slB P t e sz=true)(hy:ev y=.d (.sl sz es))(hl:oA ev l 0 lo)(hh:oA ev h es.length hi)(h1:lo<=hi)(h2:hi<=es.length)(oL:(es.take hi).drop lo=es') :
  QOp P w0 n s ev ⟨dst,.slice t y l h none,ty,pos,after,g⟩ (.d (.sl sz es')):=
 .mk λa w ok blk val hv _ qW=>by
  subst oL;obtain⟨A,cap,dD,hn,ez,eQ,hs,vK⟩:=kO (show iN w _ (.sl sz es) (a.eval y) by have:=hv y;rw[hy]at this;exact this);have hb:=u6 (P:=P) (cap:=cap) hv hl hh h1 h2 hn true;have⟨inf,jm,yK⟩:=gj ht;rcases vK with rfl|⟨b,off,vs,rfl,bY,bg,hc,Y⟩
  ·have e1:hi=0:=by simp at h2;exact h2
   have e2:lo=0:=by omega
   subst e1;subst e2;refine⟨.slice A 0 cap,w,?_,Ext.refl w,?_⟩
   ·simp only[XL]at hb dD
    simp only[execOp,Instr.sliceAt,Sem.run_bind,run_underlying (cJ ht),Result.andThen_ok,Instr.slice,dD,hb,sizeOf,bO jm,XR];simp;intro _
    cases A<;>simp[Addr.add]
   ·have:=iN.emp (w:=w) (ok:=ok) sz A cap ez
    simpa [iV] using this
  ·by_cases kY:cap=lo
   ·have e1:hi=lo:=by omega
    subst e1;refine⟨.slice (some ⟨b,off,none⟩) 0 0,w,?_,Ext.refl w,?_⟩
    ·simp only[execOp,Instr.sliceAt,Sem.run_bind,run_underlying (cJ ht),Result.andThen_ok,Instr.slice,dD,hb,sizeOf,bO jm,XR]
     simp[kY]
    ·have e2:(es.take hi).drop hi=[]:=by simp
     rw[e2];exact iN.emp _ _ _ (XC _)
   ·refine⟨.slice (some ⟨b,off+lo*sz,none⟩) (hi - lo) (cap - lo),w,?_,Ext.refl w,O5 bY bg ez hn eQ hs hc Y h1 h2⟩
    simp only[execOp,Instr.sliceAt,Sem.run_bind,run_underlying (cJ ht),Result.andThen_ok,Instr.slice,dD,hb,sizeOf,bO jm,XR];simp[kY,yK,ei]
theorem BH{t:Z5}{y z:Z6}{b:ByteArray}{i:Int}{k:IntKind}{c:UInt8}(ht:isStr P t=true)(hy:ev y=.d (.v (.string b)))(hz:ev z=.d (.v (.int k i)))(h0:0<=i)(hc:b[i.toNat]?=some c) :
  QOp P w0 n s ev ⟨dst,.index t y z,ty,pos,after,g⟩ (.d (.v (.int .u8 c.toNat))):=
 .mk λa w ok blk val h _ qW=>by
  have h1:a.eval y=.string b:=iV.c8 (hy ▸ h y);have h2:a.eval z=.int k i:=iV.c8 (hz ▸ h z);exact⟨_,w,by simp[execOp,Instr.index,h1,h2,asIntOf,run_underlying (wa ht),h0,hc],Ext.refl w,.v _ E⟩
def arB(P:Z4)(t m e sz:Nat):Bool:=(match P.underlying t with|some (.array m' e')=>m'==m&&e'==e|_=>false)&&(match P.info? e with|some i=>i.size==sz|none=>false)
theorem iq{t m e sz:Nat}(h:arB P t m e sz=true):P.underlying t=some (.array m e):=by
 simp only[arB,Xs]at h
 cases hu:P.underlying t with
 | none=>simp[hu]at h
 | some d=>cases d<;>simp[hu]at h<;>rw[h.1.1,h.1.2]
theorem lJ{t m e sz:Nat}(h:arB P t m e sz=true):∃i,P.info? e=some i/\i.size=sz:=by
 simp only[arB,Xs]at h
 cases hu:P.info? e with
 | none=>simp[hu]at h
 | some d=>simp[hu]at h;exact⟨d,rfl,h.2⟩
theorem mT{t m e sz b o:Nat}{i:Int}{k:IntKind}(h:arB P t m e sz=true)(h0:0<=i)(h1:i<m)(w:W') :
  (Instr.indexAt t (.pointer (some ⟨b,o,none⟩)) (.int k i)).run P w=.ok (.pointer (some ⟨b,o+i.toNat*sz,none⟩)) w:=by
 have⟨inf,hi,hs⟩:=lJ h;simp[Instr.indexAt,asIntOf,run_underlying (iq h),Instr.sureAddr,h0,h1,sizeOf,bO hi,hs,ei]
theorem cj{t:Z5}{y z:Z6}{m e sz o:Nat}{cs:List D}{i:Int}{k:IntKind}(ht:arB P t m e sz=true)(hy:ev y=.d (.pt cs o))(hz:ev z=.d (.v (.int k i)))(h0:0<=i)(h1:i<m):QOp P w0 n s ev ⟨dst,.indexAddr t y z,ty,pos,after,g⟩ (.d (.pt cs (o+i.toNat*sz))):=
 .mk λa w ok blk val h _ qW=>by
  obtain⟨b,of,vs,hv,hb,bg,hs,hc,Y⟩:=py (show iN w _ (.pt cs o) (a.eval y) by have:=h y;rw[hy]at this;exact this);have h2:a.eval z=.int k i:=iV.c8 (hz ▸ h z);refine⟨.pointer (some ⟨b,of+(o+i.toNat*sz),none⟩),w,?_,Ext.refl w,iN.pt cs _ b of vs hb bg hs hc Y⟩;simp[execOp,hv,h2,mT ht h0 h1,YZ]
theorem bA{t:Z5}{y z:Z6}{m e sz o q:Nat}{i:Int}{k:IntKind}(ht:arB P t m e sz=true)(hy:ev y=.ref q o)(hz:ev z=.d (.v (.int k i)))(h0:0<=i)(h1:i<m):QOp P w0 n s ev ⟨dst,.indexAddr t y z,ty,pos,after,g⟩ (.ref q (o+i.toNat*sz)):=
 .mk λa w ok blk val h _ qW=>by
  have:=h y;rw[hy]at this;have⟨hq,b,hb,hv⟩:=this;have h2:a.eval z=.int k i:=iV.c8 (hz ▸ h z);refine⟨.pointer (some ⟨b,o+i.toNat*sz,none⟩),w,?_,Ext.refl w,⟨hq,b,hb,rfl⟩⟩;simp[execOp,hv,h2,mT ht h0 h1]
theorem gL{t:Z5}{y z:Z6}{e e' sz q:Nat}{es:List (List D)}{i:Int}{k:IntKind}(ht:slB P t e sz=true)(hy:ev y=.rs q)(hq:s q=.row e' sz es)(hz:ev z=.d (.v (.int k i)))(h0:0<=i)(h1:i<es.length):QOp P w0 n s ev ⟨dst,.indexAddr t y z,ty,pos,after,g⟩ (.ref q (i.toNat*sz)):=
 .mk λa w ok blk val h hs qW=>by
  have:=h y;rw[hy]at this;have⟨_,hv⟩:=this;have h2:a.eval z=.int k i:=iV.c8 (hz ▸ h z);have h3:=hs q;rw[hq]at h3;have⟨_,_,h4⟩:=h3;rcases h4 with ⟨_,he,_⟩|⟨b,aK,cap,hb,dD,_⟩
  ·subst he;simp at h1;omega
  ·refine⟨.pointer (some ⟨b,0+i.toNat*sz,none⟩),w,?_,Ext.refl w,⟨by rw[hq];simp,b,hb,by simp⟩⟩
   simp[execOp,hv,dD,h2,mS ht h0 h1]
theorem aQ{t:Z5}{y:Z6}{m q o:Nat}{cs:List D}{d:D}(ht:szB P t false m=true)(hy:ev y=.ref q o)(hq:s q=.box cs)(J:cs[o]?=some d):QOp P w0 n s ev ⟨dst,.load t y,ty,pos,after,g⟩ (.d d):=
 .mk λa w ok blk val h hs qW=>by
  have h1:=h y;rw[hy]at h1;have⟨_,b,hb,hv⟩:=h1;have h2:=hs q;rw[hq]at h2;have⟨b',e,aK,bY,cV,eQ,jO,hc⟩:=h2;rw[hb]at bY;cases bY
  obtain⟨v,J2,Y⟩:=hc o d J;refine⟨v,w,?_,Ext.refl w,Y⟩;have jE:w.cell? ⟨b,o,none⟩=some v:=by rw[cell_of_block cV];exact J2
  simp[execOp,hv,Instr.loadAt,Instr.sureAddr,loadVar,gn ht,jE]
theorem aX{t:Z5}{y:Z6}{m q o:Nat}{cs ds:List D}(ht:szB P t true m=true)(hy:ev y=.ref q o)(hq:s q=.box cs)(J:(cs.drop o).take m=ds)(hl:ds.length=m):QOp P w0 n s ev ⟨dst,.load t y,ty,pos,after,g⟩ (.d (.agg ds)):=
 .mk λa w ok blk val h hs qW=>by
  subst J;have h1:=h y;rw[hy]at h1;have⟨_,b,hb,hv⟩:=h1;have h2:=hs q;rw[hq]at h2;have⟨b',e,aK,bY,cV,eQ,jO,hc⟩:=h2;rw[hb]at bY;cases bY
  have na:∀(j:Nat) (d:D),((cs.drop o).take m)[j]?=some d->cs[o+j]?=some d:=λj d hj=>by
   rw[Yq]at hj
   split at hj
   ·simpa [Yk] using hj
   ·cases hj
  have hj:∀j,j<m->∃d,((cs.drop o).take m)[j]?=some d:=λj hj=>⟨_,Xp (by omega)⟩
  have bR:=run_loadCells (P:=P) w ⟨b,o,none⟩ m (λj=>aK.getD (o+j) undef) (λj J6=>by
   obtain⟨d,J⟩:=hj j J6;obtain⟨v,hv,_⟩:=hc _ d (na j d J)
   rw[ei,cell_of_block cV,hv,cO hv])
  refine⟨.agg ((List.range m).map λj=>aK.getD (o+j) undef).toArray,w,?_,Ext.refl w,?_⟩
  ·simp only[execOp,hv,Instr.loadAt,Instr.sureAddr,loadVar,Sem.run_bind,Sem.run_pure,Result.andThen_ok,gn ht,Yp,ju ht,bR]
  ·refine iN.agg _ _ (by simpa using hl.symm) (λj d J=>jO _ d (na j d J)) λj d v J hv=>?_
   have J6:j<m:=by have:=(Xt.1 hv).1;simpa using this
   simp[J6]at hv;subst hv;obtain⟨v,hv,Y⟩:=hc _ d (na j d J);have:=cO hv;simp[XN]at this;rw[this];exact Y
theorem bZ{y:Z6}{cs:List D}{o:Nat}(hy:ev y=.d (.pt cs o)):QOp P w0 n s ev ⟨dst,.nilCheck y,ty,pos,after,g⟩ (.d (.pt cs o)):=
 .mk λa w ok blk val h _ qW=>by
  have Y:=show iN w _ (.pt cs o) (a.eval y) by have:=h y;rw[hy]at this;exact this
  have⟨b,off,vs,hv,_⟩:=py Y;exact⟨a.eval y,w,by simp[execOp,hv],Ext.refl w,Y⟩
theorem mV{y:Z6}{q o:Nat}(hy:ev y=.ref q o):QOp P w0 n s ev ⟨dst,.nilCheck y,ty,pos,after,g⟩ (.ref q o):=
 .mk λa w ok blk val h _ qW=>by
  have h1:=h y;rw[hy]at h1;have h2:=h1;have⟨_,b,hb,hv⟩:=h1;exact⟨a.eval y,w,by simp[execOp,hv],Ext.refl w,h2⟩
theorem jw{f:ϋ}{ys:List Z6}{ds:List D}(ha:lM ev ys ds):QOp P w0 n s ev ⟨dst,.makeFunc (.func f) #[] ys.toArray,ty,pos,after,g⟩ (.d (.fn (.func f) ds)):=
 .mk λa w ok blk val h _ qW=>by
  have hL:=iO h ha;refine⟨.func (.func f) #[] (ys.map a.eval).toArray,w,by simp[execOp,Instr.makeFunc],Ext.refl w,?_⟩;exact iN.fn _ _ _ hL.length λj d v h1 h2=>hL.get j d v h1 h2
def vH(P:Z4)(t:Z5)(k:IntKind):Bool:=match P.underlying t with|some (.int k')=>k'==k|_=>false
theorem lZ{t:Z5}{k:IntKind}(h:vH P t k=true):P.underlying t=some (.int k):=by
 unfold vH at h
 cases hu:P.underlying t with
 | none=>simp[hu]at h
 | some d=>cases d<;>simp[hu]at h ⊢;exact h
theorem Qg{t t':Z5}{y:Z6}{k k':IntKind}{i:Int}(ht:vH P t k'=true)(mn:vH P t' k=true)(hy:ev y=.d (.v (.int k' i))):QOp P w0 n s ev ⟨dst,.convert t t' y,ty,pos,after,g⟩ (.d (.v (.int k (k.wrap i)))):=
 .mk λa w ok blk val h _ qW=>by
  have h1:a.eval y=.int k' i:=iV.c8 (hy ▸ h y);exact⟨_,w,by simp[execOp,convert,run_underlying (lZ ht),run_underlying (lZ mn),h1,Conv.intToInt],Ext.refl w,.v _ E⟩
theorem zN{t:Z5}{y:Z6}{f off m:Nat}{ft:Z5}{cs:List D}{d:D}(ht:(match P.underlying t with|some (.struct fs)=>(fs[f]?).map (λfd=>(fd.offset,fd.type))|_=>none)=some (off,ft))(hs:szB P ft false m=true)(hy:ev y=.d (.agg cs))(J:cs[off]?=some d):QOp P w0 n s ev ⟨dst,.field t y f,ty,pos,after,g⟩ (.d d):=
 .mk λa w ok blk val h _ qW=>by
  obtain⟨vs,hv,hL,_⟩:=oD (show iN w _ (.agg cs) (a.eval y) by have:=h y;rw[hy]at this;exact this);obtain⟨v,hvi,Y⟩:=hL.at_ J;refine⟨v,w,?_,Ext.refl w,Y⟩
  cases hu:P.underlying t with
  | none=>simp[hu]at ht
  | some q=>
   cases q<;>simp only[hu,reduceCtorEq]at ht
   rename_i fs
   cases hf:fs[f]? with
   | none=>simp[hf]at ht
   | some fd=>
    simp only[hf,XB,XS,ZM]at ht;have⟨e1,e2⟩:=ht;subst e1;subst e2;simp[execOp,Instr.field,run_underlying hu,hf,hv,asAgg,part,gn hs,hvi]
theorem lL.mk{n:Int}(h1 : -9223372036854775808<=n)(h2:n<=9223372036854775807):lL n:=⟨h1,h2⟩
theorem T.cP{a b:Bool}(h:T.bool a=T.bool b):a=b:=by simpa [T.bool] using h
theorem cm{α:Type}{f:α->List D}{l:List α}{k:Nat}{i:Int}{a:α}(hi:i=(k:Int))(h:l[k]?=some a):(l.map f)[i.toNat]?=some (f a):=by
 subst hi;simp[h]
theorem Jh{α:Type}(f:α->List D)(l:List α)(lo hi:Nat):((l.map f).take hi).drop lo=((l.take hi).drop lo).map f:=by
 rw[List.map_drop,List.map_take]
theorem aV{α:Type}(f:α->List D)(l:List α):(l.map f).length=l.length:=Xo _
theorem gX(a b:Bool):(bif a then b else false)=(a&&b):=by cases a<;>rfl
theorem jJ(a b:Bool):(bif a then true else b)=(a||b):=by cases a<;>rfl
theorem nb:(∀(p:Prop) [Decidable p],(decide p=true)=p)/\(∀(p:Prop) [Decidable p],(decide p=false)↔¬p)/\(∀a b:Bool,((a&&b)=true)=(a=true/\b=true))/\(∀a b:Bool,((a||b)=true)=(a=true\/b=true))/\(∀a b:Bool,((a&&b)=false)↔(a=false\/b=false))/\(∀a b:Bool,((a||b)=false)↔(a=false/\b=false))/\(∀b:Bool,((!b)=true)=(b=false))/\(∀b:Bool,((!b)=false)=(b=true))/\((!true)=false)/\((!false)=true)/\(∀a b:Bool,(bif a then b else false)=(a&&b))/\(∀a b:Bool,(bif a then true else b)=(a||b))/\(∀b:Bool,(!!b)=b)/\(∀(p:Prop) [Decidable p],(¬¬p)↔p)/\((¬True)=False)/\((¬False)=True)/\(∀a b:Int,(¬a<=b)↔b<a)/\(∀a b:Int,(¬a<b)↔b<=a):=
 ⟨λp _=>XW,λp _=>YP,Xs,X3,λa b=>Bool.and_eq_false_iff,λa b=>YR,λb=>by cases b<;>simp,λb=>by cases b<;>simp,rfl,rfl,gX,jJ,Bool.not_not,λp _=>XU,not_true_eq_false,not_false_eq_true,λa b=>Int.not_le,λa b=>Int.not_lt⟩
variable{ops:List Z8}{rest:List Z8}{R:Exit->St->Prop}{st:St}
theorem bm{c:Code}{t sz:Nat}{es:List (List D)}(h:st.t t=.d (.sl sz es))(hk:es.length<=9223372036854775807->dG P w0 c R st):dG P w0 c R st:=by
 intro F m hF a w hH;refine hk ?_ F m hF a w hH;obtain⟨blk,val,hh⟩:=hH;have h1:=hh.tmp t;rw[h]at h1;obtain⟨A,cap,_,hn,ez,_⟩:=kO (show iN w _ (.sl sz es) _ from h1);unfold maxLen at ez;omega
theorem sI{k e sz:Nat}(ht:st.t k=.d (.v (.slice none 0 0)))(hs:st.s k=.no):Le w0 st ((st.site k (.row e sz [])).put (some k) (.rs k)):=by
 intro a w ⟨blk,val,hh⟩;have qN:blk k=none:=by have:=hh.site k;rw[hs]at this;exact this
 have hv:a.tmps.getD k undef=.slice none 0 0:=by have:=hh.tmp k;rw[ht]at this;exact iN.c8 this
 have Aw:∀j,st.s j≠.no->Nat.beq j k=false:=λj hj=>by rw[<-XT];intro e;rw[Xq e]at hj;exact hj hs
 have dW:∀j,st.s j≠.no->blk j=blk j/\(bif Nat.beq j k then .slice none 0 0 else val j)=val j/\(st.s j≠.no->(st.site k (.row e sz [])).s j≠.no)/\((∃e sz es,st.s j=.row e sz es)->∃e' ug es',(st.site k (.row e sz [])).s j=.row e' ug es'):=λj hj=>by
  simp only[St.site,Aw j hj,XJ];exact⟨trivial,trivial,id,id⟩
 have live:∀y v,iV w (fN w0 blk) blk val st.s y v->∀j,(y=.rs j\/(∃o,y=.ref j o)\/∃r f g,y=.own j r f g)->st.s j≠.no:=λy v hy j hj=>by
  rcases hj with rfl|⟨o,rfl⟩|⟨_,_,_,rfl⟩
  ·have⟨⟨e,sz,es,q⟩,_⟩:=hy;rw[q];simp
  ·exact hy.1
  ·exact hy.1.1.1
 refine⟨blk,λj=>bif Nat.beq j k then .slice none 0 0 else val j,hh.ext,hh.defers,hh.size,hh.new,hh.inj,λj b hj=>?_,λj=>?_,λt=>?_⟩
 ·have⟨q1,q2,q3⟩:=hh.kU j b hj
  have:st.s j≠.no:=λe=>by rw[e]at q2;cases q2
  refine⟨q1,?_,q3⟩;show ((st.site k (.row e sz [])).s j).isVar=true
  simp only[St.site,Aw j this,XJ];exact q2
 ·show ml _ _ _ _ (st.site k (.row e sz [])).s _ _ ((st.site k (.row e sz [])).s j)
  cases fE:Nat.beq j k
  ·simp only[St.site,fE,XJ]
   refine(hh.site j).to (λ_ _ h=>h) (.inl E) λcs ep y hy i hi=>?_;have h0:=hh.site j;rw[ep]at h0;have⟨_,_,_,_,_,_,h5⟩:=h0;have⟨q,hq⟩:=YH hy;obtain⟨v,_,_,Y⟩:=h5 q y hq;exact dW i (live y v Y i hi)
  ·simp only[St.site,fE,Yb]
   rw[Xq fE,qN];exact⟨λi x h=>by simp at h,λi x j d h=>by simp at h,.inl ⟨rfl,rfl,rfl⟩⟩
 ·show iV _ _ _ _ (st.site k (.row e sz [])).s (bif Nat.beq t k then .rs k else st.t t) _
  cases htk:Nat.beq t k
  ·simp only[XJ]
   exact(hh.tmp t).to (λ_ _ h=>h) λj hj=>dW j (live _ _ (hh.tmp t) j hj)
  ·simp only[Yb]
   rw[Xq htk,hv];exact⟨⟨e,sz,[],by simp[St.site]⟩,by simp⟩
theorem D6{d:Nat}{e:Z5}{y:Z6}{X:D}{cs:List D}(hy:st.ev y=.d X)(hX:X.sc=true\/∃cs,X=.agg cs)(J:Nat.blt d st.n=true)(hs:st.s d=.no)(ep:X.cells=cs)(h:tj P w0 ops rest R ((st.site d (.box cs)).put (some d) (.ref d 0))) :
  tj P w0 ops (⟨some d,.box e y,ty,pos,after,none⟩::rest) R st:=by
 subst ep;refine eG (K:=λs=>s=(st.site d (.box X.cells)).put (some d) (.ref d 0)) E (λa w ⟨blk,val,hh⟩=>?_) (λ_ e=>e ▸ h);have Y:iN w (fN w0 blk) X (a.eval y):=by have:=hh.ev y;rw[hy]at this;exact this
 have⟨hL,jO⟩:=il Y hX;have hE:Ext w (w.alloc (.cells (a.eval y).cells e)):=(Ext.refl w).alloc _;refine gg (v:=.pointer (some ⟨w.heap.size,0,none⟩)) (w':=w.alloc (.cells (a.eval y).cells e)) (by simp[execOp,Instr.box,newVar,newRow]) ⟨_,rfl,?_⟩
 have hH := hh.lK (k := d) (x := .box X.cells) (u := undef) (o := .cells (a.eval y).cells e) hs ⟨w.heap.size, e, (a.eval y).cells, rfl, fj _ _, by have := hL.length; simpa using this, jO, λj x hx => by
   obtain⟨v,hv,Y⟩:=hL.at_ hx
   refine⟨v,by simpa using hv,(Y.ok (ok':=λb=>fN w0 blk b/\b≠w.heap.size) λb hb h=>⟨h,by omega⟩).ext hE λ_ _ h=>h⟩⟩
 exact⟨_,_,gN hH (by simpa [YB,St.site] using J) ⟨by simp[St.site],w.heap.size,by simp,rfl⟩⟩
def Ey(P:Z4)(e b:Nat):Bool:=match P.info? e with|some i=>i.bytes==b|none=>false
theorem rJ{e b:Nat}(h:Ey P e b=true):∃i,P.info? e=some i/\i.bytes=b:=by
 unfold Ey at h
 cases hu:P.info? e with
 | none=>simp[hu]at h
 | some d=>simp[hu]at h;exact⟨d,rfl,h⟩
theorem la{e:Nat}{z:Z3}{i:TypeInfo}(h:eC P e z)(hi:P.info? e=some i):i.zero=some z:=by
 unfold eC at h;rw[hi]at h;exact h
theorem za{d:Nat}{t e sz b m:Nat}{z:Z3}{l c:Z6}(ht:slB P t e sz=true)(hz:eC P e z)(hb:Ey P e b=true)(h1:z.cells.toList.all Value.oneCell'=true)(Jo:z.cells.size=sz)(hl:st.ev l=T.i (m:Int))(hc:st.ev c=T.i (m:Int))
  (Ra:b*m<=281474976710656) (hm:m<=9223372036854775807) (J:Nat.blt d st.n=true) (hs:st.s d=.no) (h:tj P w0 ops rest R ((st.site d (.row e sz (List.replicate m (dK z)))).put (some d) (.rs d))) :
  tj P w0 ops (⟨some d,.makeSlice t l c,ty,pos,after,none⟩::rest) R st:=by
 refine eG (K:=λs=>s=(st.site d (.row e sz (List.replicate m (dK z)))).put (some d) (.rs d)) E (λa w ⟨blk,val,hh⟩=>?_) (λ_ e=>e ▸ h);have⟨i,hi,tZ⟩:=gj ht;have⟨i',jm,S2⟩:=rJ hb;rw[hi]at jm;cases jm
 have ML:a.eval l=.int .i64 (m:Int):=by have:=hh.ev l;rw[hl]at this;exact iN.c8 this
 have hv2:a.eval c=.int .i64 (m:Int):=by have:=hh.ev c;rw[hc]at this;exact iN.c8 this
 have J5:=run_make (P:=P) w t e i z (cJ ht) hi (la hz hi) .i64 .i64 (m:Int) (m:Int) (by omega) (by omega) (by rw[S2];omega) (by omega);simp only[ZO,tZ]at J5;refine gg (v:=.slice (some ⟨w.heap.size,0,none⟩) m m) (w':=w.alloc (.cells (madeCells z.cells (m*sz)) e)) (by simp[execOp,ML,hv2,J5]) ⟨_,rfl,?_⟩;have kY:∀x∈dK z,x.sc=true:=(mb (w:=w) (ok:=λ_=>True) h1).2;have hlen:(dK z).length=sz:=by simp[dK,Jo]
 have MQ:∀(i:Nat) (x:List D),(List.replicate m (dK z))[i]?=some x->i<m/\x=dK z:=λi x hx=>by
  rw[List.getElem?_replicate]at hx
  split at hx
  ·rename_i h;cases hx;exact⟨h,rfl⟩
  ·cases hx
 have hH := hh.lK (k := d) (x := .row e sz (List.replicate m (dK z))) (u := .slice (some ⟨w.heap.size, 0, none⟩) m m) (o := .cells (madeCells z.cells (m * sz)) e) hs ⟨λi x hx => by rw [(MQ i x hx).2, hlen], λi x j y hx hy => by
   rw[(MQ i x hx).2]at hy;exact kY y (XA hy),.inr ⟨w.heap.size,madeCells z.cells (m*sz),m,rfl,by simp,by simp,by simpa [maxLen] using hm,fj _ _,by simp[madeCells],λi x j y hx hy=>by
   obtain⟨qK,rfl⟩:=MQ i x hx;have hj:j<sz:=by have:=(Xt.1 hy).1;omega
   have hq:i*sz+j<m*sz:=by
    have:(i+1)*sz<=m*sz:=X7 _ qK;rw[Zf]at this;omega
   have az6:(i*sz+j) % sz=j:=by rw[Zh,Nat.add_mul_mod_self_right,Zt hj]
   simp only[dK,XF]at hy
   cases hzj:z.cells.toList[j]? with
   | none=>rw[hzj]at hy;cases hy
   | some u=>
    rw[hzj]at hy;cases hy
    have ay0:z.cells[j]?=some u:=by simpa using hzj
    have hjz:j<z.cells.size:=by omega
    refine⟨u,?_,.v u (X0.1 h1 u (XA hzj))⟩;simp only[madeCells,Yl,Jo,az6];have ak3:z.cells[j]! = u:=by rw[getElem!_def,ay0]
    simp[hq,Zt hj,ak3]⟩⟩
 exact⟨_,_,gN hH (by simpa [YB,St.site] using J) ⟨⟨e,sz,_,by simp[St.site];rfl⟩,by simp⟩⟩
theorem Gr{d:Nat}{t e sz:Nat}{z:Z3}(ht:slB P t e sz=true)(hz:eC P e z)(J:Nat.blt d st.n=true)(hs:st.s d=.no)(h:tj P w0 ops rest R ((st.site d (.row e sz [])).put (some d) (.rs d))) :
  tj P w0 ops (⟨some d,.buildSlice t 0 #[],ty,pos,after,none⟩::rest) R st:=by
 refine eG (K:=λs=>s=(st.site d (.row e sz [])).put (some d) (.rs d)) E (λa w ⟨blk,val,hh⟩=>?_) (λ_ e=>e ▸ h);have⟨i,hi,tZ⟩:=gj ht
 refine gg (v:=.slice (some ⟨w.heap.size,0,none⟩) 0 0) (w':=w.alloc (.cells #[] e)) (by
  have Js:Array.range 0=#[]:=rfl;have hma:∀f:Nat->Z3,Array.map f #[]=#[]:=λf=>by simp
  simp[execOp,Instr.buildSlice,run_underlying (cJ ht),sizeOf,bO hi,Js,Instr.fill,newRow]) ⟨_,rfl,?_⟩
 have hH:=hh.lK (k:=d) (x:=.row e sz []) (u:=.slice (some ⟨w.heap.size,0,none⟩) 0 0) (o:=.cells #[] e) hs ⟨λi x hx=>by simp at hx,λi x j y hx=>by simp at hx,.inr ⟨w.heap.size,#[],0,rfl,rfl,Xw _,XC _,fj _ _,by simp,λi x j y hx=>by simp at hx⟩⟩;exact⟨_,_,gN hH (by simpa [YB,St.site] using J) ⟨⟨e,sz,[],by simp[St.site]⟩,by simp⟩⟩
def St.dE(st:St)(k:Nat):St:={ st with t:=λt=>killT [k] (st.t t),s:=λj=>killSite [k] (st.s j) }
theorem qx.grow{a:Act}{w w':W'}{blk:Nat->Option Nat}{val:Nat->Z3}{k:Nat}{x:aH}{u:Z3}{nb:Option Nat}(hh:qx w0 st a w blk val)(hg:w.grownBy w' (blk k))(hnb:∀b,nb=some b->Jb w0 b/\b<w'.heap.size)(sM:∀b,nb=some b->blk k=some b\/w.heap.size<=b)
  (hx:ml w' (λb=>fN w0 blk b/\nb≠some b/\b<w.heap.size) blk val st.s nb u x) (m7:∃e sz es,x=.row e sz es) (SP:(st.s k).isVar=false):qx w0 ((st.dE k).site k x) a w' (λj=>bif Nat.beq j k then nb else blk j) (λj=>bif Nat.beq j k then u else val j):=by
 have eR:∀b o,(fN w0 blk b)->w.heap[b]?=some o->w'.heap[b]?=some o:=λb o bg ho=>by
  rw[hg.block b (bI ho) (λe=>bg.2 k e.symm)];exact ho
 have bg:∀b,fN w0 blk b->b<w.heap.size->fN w0 (λj=>bif Nat.beq j k then nb else blk j) b:=λb h bH=>⟨h.1,λj hj=>by
  cases fE:Nat.beq j k<;>simp only[fE,Yb,XJ]at hj
  ·exact h.2 j hj
  ·rcases sM b hj with e|e
   ·exact h.2 k e
   ·omega⟩
 have cr:∀{d:D} {v:Z3},iN w (fN w0 blk) d v->iN w' (fN w0 (λj=>bif Nat.beq j k then nb else blk j)) d v:=λh=>
  h.cr hg.size (λb o h1 h2=>eR b o h1 h2) λb hb h=>bg b h hb
 have S0:∀j c,Nat.beq j k=false->blk j=some c->c<w.heap.size/\blk k≠some c:=λj c fE hc=>⟨(hh.new j c hc).2,λe=>by
  have:=hh.inj j k c hc e
  subst this;simp at fE⟩
 have⟨ex,szx,esx,UX⟩:=m7
 have jB:∀{y:T} {v:Z3},iV w (fN w0 blk) blk val st.s y v->iV w' (fN w0 (λj=>bif Nat.beq j k then nb else blk j)) (λj=>bif Nat.beq j k then nb else blk j) (λj=>bif Nat.beq j k then u else val j) ((st.dE k).site k x).s (killT [k] y) v:=λ{y v} h=>by
  cases y with
  | d y=>exact cr h
  | ref j o=>
   simp only[killT,memN,Bool.or_false]
   cases fE:Nat.beq j k
   ·have⟨q1,c,q2,q3⟩:=h
    exact⟨by simp only[St.site,St.dE,fE,XJ];exact dN.1 q1,c,by simp only[fE,XJ];exact q2,q3⟩
   ·trivial
  | rs j=>
   simp only[killT,memN,Bool.or_false]
   cases fE:Nat.beq j k
   ·have⟨q1,q3⟩:=h
    exact⟨by simp only[St.site,St.dE,fE,XJ];exact dN.2 q1,by simp only[fE,XJ];exact q3⟩
   ·trivial
  | own j r f g=>
   simp only[killT,memN,Bool.or_false]
   cases fE:Nat.beq j k
   ·have⟨⟨⟨q0,q1⟩,qo⟩,q3⟩:=h
    exact⟨⟨⟨by simp only[St.site,St.dE,fE,XJ];exact dN.1 q0,λY=>by simp only[St.site,St.dE,fE,XJ];exact dN.2 (q1 Y)⟩,qo⟩,by simp only[fE,XJ];exact q3.imp λ_ _ h=>cr h⟩
   ·trivial
  | un=>exact h
  | dead=>trivial
 refine⟨⟨hg.os.trans hh.ext.os,hg.tape.trans hh.ext.tape,hg.output.trans hh.ext.output,XQ hh.ext.size hg.size,λj hj hm=>?_⟩,hh.kept λj hj hn=>hg.block j hj (λe=>hn k e.symm),hh.size,λj c hj=>?_,λi j c hi hj=>?_,λj c hj=>?_,λj=>?_,λt=>?_⟩
 ·rw[hg.block j (XD hj hh.ext.size) (λe=>by rcases(hh.new k j e.symm).1 with q|q;omega;exact hm q)];exact hh.ext.block j hj hm
 ·cases fE:Nat.beq j k<;>simp only[fE,Yb,XJ]at hj
  ·exact⟨(hh.new j c hj).1,XD (hh.new j c hj).2 hg.size⟩
  ·exact hnb c hj
 ·cases FX:Nat.beq i k<;>cases fE:Nat.beq j k<;>simp only[FX,fE,Yb,XJ]at hi hj
  ·exact hh.inj i j c hi hj
  ·have⟨q1,q2⟩:=S0 i c FX hi
   rcases sM c hj with e|e
   ·exact absurd e q2
   ·omega
  ·have⟨q1,q2⟩:=S0 j c fE hj
   rcases sM c hi with e|e
   ·exact absurd e q2
   ·omega
  ·rw[Xq FX,Xq fE]
 ·have⟨q1,q2,q3⟩:=hh.kU j c hj
  have fE:Nat.beq j k=false:=by rw[<-XT];intro e;rw[Xq e,SP]at q2;cases q2
  refine⟨by simp only[fE,XJ];exact q1,?_,q3⟩;simp only[St.site,St.dE,fE,XJ]
  cases hs:st.s j<;>rw[hs]at q2<;>first|rfl|cases q2
 ·cases fE:Nat.beq j k
  ·have hs:=hh.site j
   have e1:((st.dE k).site k x).s j=killSite [k] (st.s j):=by simp only[St.site,St.dE,fE,XJ]
   rw[e1];simp only[XJ]
   cases CE:st.s j with
   | no=>rw[CE]at hs;exact hs
   | box cs'=>
    rw[CE]at hs;have⟨c,e,aK,h1,h2,h3,h4,h5⟩:=hs;have⟨q1,q2⟩:=S0 j c fE h1;exact⟨c,e,aK,h1,by rw[hg.block c q1 (λe=>q2 e.symm)];exact h2,h3,h4,λj d J=>let ⟨v,hv,Y⟩:=h5 j d J;⟨v,hv,cr Y⟩⟩
   | cn cs'=>
    rw[CE]at hs;have⟨c,e,aK,h1,h2,h3,h5⟩:=hs;have⟨q1,q2⟩:=S0 j c fE h1;refine⟨c,e,aK,h1,by rw[hg.block c q1 (λe=>q2 e.symm)];exact h2,by simpa using h3,λi y hy=>?_⟩;rw[XF]at hy
    cases hi:cs'[i]? with
    | none=>rw[hi]at hy;cases hy
    | some z=>
     rw[hi]at hy;cases hy
     obtain⟨v,hv,ho,Y⟩:=h5 i z hi;exact⟨v,hv,ho,jB Y⟩
   | mp es c=>
    rw[CE]at hs;have⟨c',h1,h2⟩:=hs;have⟨q1,q2⟩:=S0 j c' fE h1;exact⟨c',h1,by rw[hg.block c' q1 (λe=>q2 e.symm)];exact h2⟩
   | row e sz es=>
    rw[CE]at hs;have⟨h1,h2,h3⟩:=hs
    exact⟨h1,h2,h3.imp id λ⟨c,aK,cap,k1,k2,k3,k4,k5,k6,k7⟩=>by
     have⟨q1,q2⟩:=S0 j c fE k1
     exact⟨c,aK,cap,k1,k2,k3,k4,by rw[hg.block c q1 (λe=>q2 e.symm)];exact k5,k6,λi x j d hi hj=>let ⟨v,hv,Y⟩:=k7 i x j d hi hj;⟨v,hv,cr Y⟩⟩⟩
  ·have e1:((st.dE k).site k x).s j=x:=by simp only[St.site,fE,Yb]
   rw[e1];simp only[Yb];subst UX;refine hx.to (λb hb h=>bg b h.1 h.2.2) (.inl E) λcs ep=>by cases ep
 ·exact jB (hh.tmp t)
theorem ly{i j sz m:Nat}(h1:i<m)(h2:j<sz):i*sz+j<m*sz:=by
 have:(i+1)*sz<=m*sz:=X7 _ h1;rw[Zf]at this;omega
theorem A4{d k:Nat}{t e sz b m:Nat}{z:Z3}{y x:Z6}{es news es':List (List D)}(ht:slB P t e sz=true)(hz:eC P e z)(hb:Ey P e b=true)(Jo:z.cells.size=sz)(Jq:0<sz)(hy:st.ev y=.rs k)(hk:st.s k=.row e sz es)
  (hX:∀(a:Act) (w:W') (blk:Nat->Option Nat) (val:Nat->Z3),qx w0 st a w blk val->∃A cap,a.eval x=.slice A news.length cap/\news.length<=cap/\cap<=maxLen/\(∀(i:Nat) (e:List D),news[i]?=some e->e.length=sz)/\(∀(i:Nat) (e:List D) (j:Nat) (d:D),news[i]?=some e->e[j]?=some d->d.sc=true)/\
   (news=[]\/∃(b off:Nat) (vs:Nat->Nat->Z3),A=some ⟨b,off,none⟩/\b<w.heap.size/\True/\
   (∀(i:Nat) (e:List D) (j:Nat) (d:D),news[i]?=some e->e[j]?=some d->w.cell? ⟨b,off+i*sz+j,none⟩=some (vs i j))/\∀(i:Nat) (e:List D) (j:Nat) (d:D),news[i]?=some e->e[j]?=some d->iN w (fN w0 blk) d (vs i j)))
  (hm:news.length=m) (Ra:(es.length+m)*b<=140737488355328) (Ax:es.length+m<=9223372036854775807) (J:Nat.blt d st.n=true) (oL:es++news=es') (h:tj P w0 ops rest R (((st.dE k).site k (.row e sz es')).put (some d) (.rs k))) :
  tj P w0 ops (⟨some d,.call ⟨.builtin .append,#[y,x],#[t,t]⟩,ty,pos,after,none⟩::rest) R st:=by
 subst oL;subst hm;refine eG (K:=λs=>s=((st.dE k).site k (.row e sz (es++news))).put (some d) (.rs k)) E (λa w ⟨blk,val,hh⟩=>?_) (λ_ e=>e ▸ h);have⟨i,hi,tZ⟩:=gj ht;have⟨i',jm,S2⟩:=rJ hb;rw[hi]at jm;cases jm
 have h1:=hh.ev y;rw[hy]at h1;have⟨_,hv⟩:=h1;have h2:=hh.site k;rw[hk]at h2;have⟨a1,a2,a3⟩:=h2;have⟨A,Ge,En,Jt,ak1,SE,QR,UX⟩:=hX a w blk val hh
 have ai8:∃xs:List Z3,w.ownsRow 0 e sz (val k) es.length xs/\∀(i:Nat) (x:List D) (j:Nat) (d:D),es[i]?=some x->x[j]?=some d->∃v,xs[i*sz+j]?=some v/\iN w (fN w0 blk) d v:=by
  rcases a3 with ⟨_,he,dD⟩|⟨bk,aK,cap,qN,dD,hn,ez,cV,WC,hc⟩
  ·subst he
   exact⟨[],⟨by simp,.inl ⟨dD,rfl⟩⟩,λi x j d hi=>by simp at hi⟩
  ·have hle:es.length*sz<=cap*sz:=X7 _ hn
   refine⟨aK.toList.take (es.length*sz),⟨by simp;omega,.inr ⟨bk,cap,aK,dD,XC _,cV,hn,ez,WC,rfl⟩⟩,λi x j d hi hj=>?_⟩;obtain⟨v,hv,Y⟩:=hc i x j d hi hj;have rY:=(Xt.1 hi).1;have mB:j<sz:=by have:=(Xt.1 hj).1;rw[a1 i x hi]at this;exact this
   exact⟨v,by rw[Yq,Xu (ly rY mB)];simpa using hv,Y⟩
 have⟨xs,oK,ay1⟩:=ai8
 have hvb:(val k).ownBlock=blk k:=by
  rcases a3 with ⟨h0,_,dD⟩|⟨bk,aK,cap,qN,dD,_⟩
  ·rw[dD,h0];rfl
  ·rw[dD,qN];rfl
 have finish:∀(v':Z3) (w':W') (nv:List Z3),(Builtin.append_ #[t,t] ty #[val k,a.eval x]).run P w=.ok v' w'->w'.ownsRow 0 e sz v' (es.length+news.length) (xs++nv)->w.grownBy w' (blk k)->
   (v'.ownBlock=(val k).ownBlock\/v'.ownBlock=some w.heap.size)->(∀(i:Nat) (x:List D) (j:Nat) (d:D),news[i]?=some x->x[j]?=some d->∃v,nv[i*sz+j]?=some v/\iN w (fN w0 blk) d v)->
   OW P w0 ⟨some d,.call ⟨.builtin .append,#[y,x],#[t,t]⟩,ty,pos,after,none⟩ a w (λa' w'=>∃st',st'=((st.dE k).site k (.row e sz (es++news))).put (some d) (.rs k)/\Holds w0 st' a' w'):=by
  intro v' w' nv bR yM hg Bm WN
  refine gg (v:=v') (w':=w') (by
   have:(a.eval y)=val k:=hv
   simp[execOp,resolve,invoke,builtin,this,bR]) ⟨_,rfl,?_⟩
  have CC:xs.length=es.length*sz:=oK.1
  have cr:∀{d:D} {v:Z3},iN w (fN w0 blk) d v->iN w' (λb=>fN w0 blk b/\v'.ownBlock≠some b/\b<w.heap.size) d v:=λh=>
   h.cr hg.size (λb o h1 h2=>by rw[hg.block b (bI h2) (λe=>h1.2 k e.symm)];exact h2) λb hb h=>⟨h,λe=>by
    rcases Bm with e'|e'
    ·rw[e',hvb]at e;exact h.2 k e
    ·rw[e']at e;cases e;omega,hb⟩
  have eT:ml w' (λb=>fN w0 blk b/\v'.ownBlock≠some b/\b<w.heap.size) blk val st.s v'.ownBlock v' (.row e sz (es++news)):=by
   refine⟨λi x hx=>?_,λi x j d hx hj=>?_,?_⟩
   ·rcases XP i es.length with bH|pV
    ·rw[XZ bH]at hx;exact a1 i x hx
    ·rw[XM pV]at hx;exact SE _ x hx
   ·rcases XP i es.length with bH|pV
    ·rw[XZ bH]at hx;exact a2 i x j d hx hj
    ·rw[XM pV]at hx;exact QR _ x j d hx hj
   ·rcases yM.2 with ⟨rfl,h0⟩|⟨g,cap,cur,rfl,hbg,cV,hn,ez,ep,MO⟩
    ·left
     have:(es++news).length=0:=by rw[XI];exact h0
     exact⟨rfl,YQ.1 this,rfl⟩
    ·right
     refine⟨g,cur,cap,rfl,by rw[XI],by rw[XI];exact hn,ez,cV,ep,λi x j d hi hj=>?_⟩
     have hxx:x.length=sz:=by
      rcases XP i es.length with bH|pV
      · rw[XZ bH]at hi;exact a1 i x hi
      · rw[XM pV]at hi;exact SE _ x hi
     have mB:j<sz:=by have:=(Xt.1 hj).1;omega
     have rY:i<es.length+news.length:=by have:=(Xt.1 hi).1;rw[XI]at this;exact this
     have na:∀v,(xs++nv)[i*sz+j]?=some v->cur[i*sz+j]?=some v:=λv hv=>by
      rw[<-MO,Yq,Xu (ly rY mB)]at hv;simpa using hv
     rcases XP i es.length with bH|pV
     ·rw[XZ bH]at hi
      obtain⟨v,hv,Y⟩:=ay1 i x j d hi hj;have hq:i*sz+j<xs.length:=by rw[CC];exact ly bH mB
      exact⟨v,na v (by rw[XZ hq];exact hv),cr Y⟩
     ·rw[XM pV]at hi
      obtain⟨v,hv,Y⟩:=WN _ x j d hi hj;have hle:es.length*sz<=i*sz:=X7 _ pV;refine⟨v,na v ?_,cr Y⟩;rw[XM (by omega),CC,show i*sz+j - es.length*sz=(i - es.length)*sz+j by rw[Nat.sub_mul];omega];exact hv
  have hH:=hh.grow (k:=k) (x:=.row e sz (es++news)) (u:=v') (nb:=v'.ownBlock) hg (λb hb=>by
   rcases yM.2 with ⟨rfl,_⟩|⟨g,cap,cur,rfl,hbg,cV,_⟩
   ·simp[Value.ownBlock]at hb
   ·simp only[Value.ownBlock,XS]at hb
    subst hb;refine⟨?_,bI cV⟩;rcases Bm with e'|e'
    ·rw[hvb]at e';exact(hh.new k _ (e'.symm.trans E)).1
    ·simp only[Value.ownBlock,XS]at e'
     rw[e'];exact .inl hh.ext.size) (λb hb=>by
   rcases Bm with e'|e'
   ·left;rw[<-hvb,<-e'];exact hb
   ·right;rw[e']at hb;cases hb;exact Xw _) eT ⟨e,sz,_,rfl⟩ (by rw[hk];rfl)
  exact⟨_,_,gN hH (by simpa [YB,St.site,St.dE] using J) ⟨⟨e,sz,_,by simp[St.site];rfl⟩,by simp⟩⟩
 rcases UX with U5|⟨b',off,vs,hA,bY,vN,tE,SG⟩
 ·subst U5
  cases A with
  | none=>
   simp only[XL]at En;have aH1:Ge=0\/Ge≠0:=by omega
   refine finish (val k) w [] ?_ (by simpa using oK) ⟨rfl,rfl,rfl,Xw _,λ_ _ _=>rfl⟩ (.inl E) (λi x j d hi=>by simp at hi);rw[En];rcases oK.2 with ⟨hvk,h0⟩|⟨g,cap,cur,hvk,_,_,WO,_⟩
   ·rw[hvk];simp[Builtin.append_,run_underlying (cJ ht),sizeOf,bO hi,Builtin.lenOf,Builtin.firstCells]
   ·rw[hvk];simp[Builtin.append_,run_underlying (cJ ht),sizeOf,bO hi,Builtin.lenOf,Builtin.firstCells,WO,storeCells]
  | some ad=>
   obtain⟨v',w',bR,yM,hg,_,Bm⟩:=run_append_own_at (P:=P) w 0 t ty e i z sz b (cJ ht) hi (la hz hi) tZ S2 Jo Jq (val k) es.length xs oK ad 0 Ge [] (by simp) (λj u hu=>by simp at hu) (λu hu=>by cases hu) (by simp[maxLen]at Ax ⊢;omega) (by simpa using Ra) (XC _);simp only[XL]at En;rw[<-En]at bR;rw[hvb]at hg;exact finish v' w' [] bR (by simpa using yM) hg Bm (λi x j d hi=>by simp at hi)
 ·let nv:List Z3:=(List.range (news.length*sz)).map λq=>vs (q / sz) (q % sz)
  have MU:nv.length=news.length*sz:=by simp[nv]
  have WN:∀q u,nv[q]?=some u->∃x d,news[q / sz]?=some x/\x[q % sz]?=some d/\u=vs (q / sz) (q % sz):=λq u hq=>by
   have SI:q<news.length*sz:=by have:=(Xt.1 hq).1;omega
   have WH:q / sz<news.length:=Nat.div_lt_of_lt_mul (by rw[YW];exact SI);have Ep:=Xp WH;have hqm:q % sz<(news[q / sz]).length:=by rw[SE _ _ Ep];exact Zp _ Jq
   simp[nv,SI]at hq;exact⟨_,_,Ep,Xp hqm,hq.symm⟩
  obtain ⟨v', w', bR, yM, hg, _, Bm⟩ := run_append_own_at (P := P) w 0 t ty e i z sz b (cJ ht) hi (la hz hi) tZ S2 Jo Jq (val k) es.length xs oK ⟨b', off, none⟩ news.length Ge nv MU (λq u hq => by
    obtain⟨x,d,h1,h2,rfl⟩:=WN q u hq;have:=tE _ x _ d h1 h2;rw[ei,show off+q=off+q / sz*sz+q % sz by have:=Nat.div_add_mod q sz;rw[YW]at this;omega];exact this) (λu hu=>by
    have⟨q,hq⟩:=YH hu;obtain⟨x,d,h1,h2,rfl⟩:=WN q u hq
    exact(SG _ x _ d h1 h2).one (QR _ x _ d h1 h2)) (by simp[maxLen];omega) Ra (XC _)
  rw[<-hA,<-En]at bR;rw[hvb]at hg;refine finish v' w' nv bR yM hg Bm λi x j d hi hj=>?_;have rY:=(Xt.1 hi).1;have mB:j<sz:=by have:=(Xt.1 hj).1;rw[SE i x hi]at this;exact this
  have hq:i*sz+j<news.length*sz:=ly rY mB;have e1:(i*sz+j) / sz=i:=by rw[Zh,Nat.add_mul_div_right _ _ Jq,Zu mB,XK]
  have e2:(i*sz+j) % sz=j:=by rw[Zh,Nat.add_mul_mod_self_right,Zt mB]
  refine⟨vs i j,?_,SG i x j d hi hj⟩;simp[nv,hq,e1,e2]
theorem eX{d k:Nat}{t e sz b m:Nat}{z:Z3}{y x:Z6}{es news es':List (List D)}(ht:slB P t e sz=true)(hz:eC P e z)(hb:Ey P e b=true)(Jo:z.cells.size=sz)(Jq:0<sz)(hy:st.ev y=.rs k)(hk:st.s k=.row e sz es)(hx:st.ev x=.d (.sl sz news))
  (hm:news.length=m) (Ra:(es.length+m)*b<=140737488355328) (Ax:es.length+m<=9223372036854775807) (J:Nat.blt d st.n=true) (oL:es++news=es') (h:tj P w0 ops rest R (((st.dE k).site k (.row e sz es')).put (some d) (.rs k))) :
  tj P w0 ops (⟨some d,.call ⟨.builtin .append,#[y,x],#[t,t]⟩,ty,pos,after,none⟩::rest) R st:=
 A4 ht hz hb Jo Jq hy hk (λa w blk val hh=>by
  obtain⟨A,cap,h1,h2,h3,h4,h5,h6⟩:=kO (show iN w _ (.sl sz news) (a.eval x) by have:=hh.ev x;rw[hx]at this;exact this)
  exact⟨A,cap,h1,h2,h3,h4,h5,h6.imp id λ⟨b,off,vs,q1,q2,_,q4,q5⟩=>⟨b,off,vs,q1,q2,trivial,q4,q5⟩⟩) hm Ra Ax J oL h
theorem jL{t:Z5}{y x:Z6}{agg:Bool}{m k o e sz i j:Nat}{X:D}{es es':List (List D)}{z:List D}(ht:szB P t agg m=true)(hy:st.ev y=.ref k o)(hx:st.ev x=.d X)(hX:X.sc=true\/∃cs,X=.agg cs)(hm:X.cells.length=m)
  (hk:st.s k=.row e sz es) (ho:o=i*sz+j) (hz:es[i]?=some z) (hj:j+m<=sz) (oL:es.set i (dL z j X.cells)=es') (h:tj P w0 ops rest R (st.site k (.row e sz es'))) :
  tj P w0 ops (⟨none,.store t y x,ty,pos,after,none⟩::rest) R st:=by
 subst oL;subst ho;refine eG (K:=λs=>s=st.site k (.row e sz (es.set i (dL z j X.cells)))) E (λa w ⟨blk,val,hh⟩=>?_) (λ_ e=>e ▸ h);have h1:=hh.ev y;rw[hy]at h1;have⟨_,b,hb,hv⟩:=h1;have Y:iN w (fN w0 blk) X (a.eval x):=by have:=hh.ev x;rw[hx]at this;exact this
 have⟨hL,hs⟩:=il Y hX;have eT:=hh.site k;rw[hk]at eT;have⟨a1,a2,a3⟩:=eT;rcases a3 with ⟨J9,_⟩|⟨b',aK,cap,bY,dD,hn,ez,cV,WC,hc⟩
 ·rw[hb]at J9;cases J9
 rw[hb]at bY;cases bY
 have kY:(a.eval x).cells.size=m:=by rw[<-hm,<-hL.length,YD]
 have rY:i<es.length:=(Xt.1 hz).1;have hzl:z.length=sz:=a1 i z hz;have hle:(i+1)*sz<=cap*sz:=X7 _ (by omega);rw[Zf]at hle;have bR:=iF (P:=P) (o:=i*sz+j) ht kY cV (by omega) (hL.mem hs);refine gO (λc hc=>by cases hc) ?_;unfold Oper.wp;rw[show (execOp a.eval ⟨none,.store t y x,ty,pos,after,none⟩).run P w=.ok .skip (w.setRow b (aK.toList.take (i*sz+j)++(a.eval x).cells.toList++aK.toList.drop (i*sz+j+m)).toArray) by simp[execOp,hv,bR]];refine⟨_,rfl,blk,val,hh.setRow hb ?_ (λe' ug es' he=>⟨_,_,_,rfl⟩) (by simp) (by rw[hk];intro h;cases h)⟩;have hlc:(a.eval x).cells.toList.length=X.cells.length:=hL.length;have vO:m=(a.eval x).cells.toList.length:=by omega
 have hsl:(dL z j X.cells).length=sz:=by rw[lT (by omega),hzl]
 have cr:∀{d:D} {v:Z3},iN w (fN w0 blk) d v->iN (w.setRow b (aK.toList.take (i*sz+j)++(a.eval x).cells.toList++aK.toList.drop (i*sz+j+m)).toArray) (fN w0 blk) d v:=λh=>
  h.cr (by rw[setRow_size];exact Xw _) (λb' o bg ho=>by rw[cT (λe=>bg.2 k (by rw[e];exact hb))];exact ho) λ_ _ h=>h
 have na:∀i' x',(es.set i (dL z j X.cells))[i']?=some x'->(i'=i/\x'=dL z j X.cells)\/(i'≠i/\es[i']?=some x'):=λi' x' sK=>by
  by_cases e:i'=i
  ·subst e
   rw[List.getElem?_set_self rY]at sK;exact .inl ⟨rfl,(YT sK).symm⟩
  ·rw[List.getElem?_set_ne (Ne.symm e)]at sK
   exact .inr ⟨e,sK⟩
 have WE:i*sz+j+(a.eval x).cells.toList.length<=aK.toList.length:=by simp;omega
 have put:∀(q:Nat) (v:Z3),((q<i*sz+j/\aK.toList[q]?=some v)\/(i*sz+j<=q/\q<i*sz+j+(a.eval x).cells.toList.length/\(a.eval x).cells.toList[q - (i*sz+j)]?=some v)\/(i*sz+j+(a.eval x).cells.toList.length<=q/\aK.toList[q]?=some v))->
   ((aK.toList.take (i*sz+j)++(a.eval x).cells.toList++aK.toList.drop (i*sz+j+m)).toArray)[q]?=some v:=λq v h=>by
  rw[XY];have:=eL WE h;rw[<-vO]at this;exact this
 refine⟨λi' x' sK=>?_,λi' x' q d sK J=>?_,.inr ⟨b,_,cap,rfl,by rw[List.length_set];exact dD,by rw[List.length_set];exact hn,ez,iD cV,?_,λi' x' q d sK J=>?_⟩⟩
 ·rcases na i' x' sK with ⟨_,rfl⟩|⟨_,h⟩
  ·exact hsl
  ·exact a1 i' x' h
 ·rcases na i' x' sK with ⟨rfl,rfl⟩|⟨_,h⟩
  ·rcases ia (by omega) J with ⟨_,h⟩|⟨_,_,h⟩|⟨_,h⟩
   ·exact a2 i' z q d hz h
   ·exact hs _ d h
   ·exact a2 i' z q d hz h
  ·exact a2 i' x' q d h J
 ·simp;omega
 ·rcases na i' x' sK with ⟨rfl,rfl⟩|⟨eW,h⟩
  ·have SI:q<sz:=by have:=(Xt.1 J).1;omega
   rcases ia (by omega) J with ⟨h1,h⟩|⟨h1,h2,h⟩|⟨h1,h⟩
   ·obtain⟨v,hv,Y⟩:=hc i' z q d hz h
    exact⟨v,put _ _ (.inl ⟨by omega,by simpa using hv⟩),cr Y⟩
   ·obtain⟨v,hv,Y⟩:=hL.at_ h
    exact⟨v,put _ _ (.inr (.inl ⟨by omega,by omega,by rw[show i'*sz+q - (i'*sz+j)=q - j by omega];exact hv⟩)),cr Y⟩
   ·obtain⟨v,hv,Y⟩:=hc i' z q d hz h
    exact⟨v,put _ _ (.inr (.inr ⟨by omega,by simpa using hv⟩)),cr Y⟩
  ·obtain⟨v,hv,Y⟩:=hc i' x' q d h J
   have SI:q<sz:=by have:=(Xt.1 J).1;rw[a1 i' x' h]at this;exact this
   refine⟨v,put _ _ ?_,cr Y⟩;rcases XP i' i with bH|pV
   ·left
    have:(i'+1)*sz<=i*sz:=X7 _ bH;rw[Zf]at this;exact⟨by omega,by simpa using hv⟩
   ·right;right
    have:(i+1)*sz<=i'*sz:=X7 _ (by omega);rw[Zf]at this;exact⟨by omega,by simpa using hv⟩
def bC(b:UInt8):List D:=[.v (.int .u8 (b.toNat:Int))]
theorem aw2{t t' e:Z5}{y:Z6}{b:ByteArray}(h1:isStr P t=true)(h2:slB P t' e 1=true)(h3:vH P e .u8=true)(hb:b.size<=4611686018427387903)(hy:ev y=.d (.v (.string b))):QOp P w0 n s ev ⟨dst,.convert t t' y,ty,pos,after,g⟩ (.d (.sl 1 (b.data.toList.map bC))):=
 .mk λa w ok blk val h _ qW=>by
  have hv:a.eval y=.string b:=iV.c8 (hy ▸ h y);have bR:=Lib.run_convert_string_bytes (P:=P) w t t' e b (wa h1) (cJ h2) (lZ h3);have hE:Ext w (Lib.bytesWorld w e b):=⟨rfl,rfl,rfl,by rw[Lib.bytesWorld_size];omega,λk hk=>Lib.bytesWorld_at_old w e b k hk⟩;refine⟨_,Lib.bytesWorld w e b,by simp only[execOp,hv,Sem.run_bind,bR];rfl,hE,?_⟩;have hl:(b.data.toList.map bC).length=b.size:=by simp
  have hg:b.size<=grownCap w b.size 0 e/\grownCap w b.size 0 e<=maxLen:=by
   have:=b.size;simp only[grownCap,Question.cut,maxLen];have h5:0<2 ^ 63 - b.size:=by omega
   have:=Zp (w.tape w.drawn (.appendCap b.size 0 e)) h5;omega
  have := iN.sl (w := Lib.bytesWorld w e b) (ok := ok) 1 (b.data.toList.map bC) w.heap.size 0 (grownCap w b.size 0 e) (λi _ => .int .u8 (b.data.toList.getD i 0).toNat) (by rw [Lib.bytesWorld_size]; omega) (qW _ (Xw _)) (by rw [hl]; exact hg.1) hg.2 (λi x hx => by
    rw[XF]at hx
    cases hq:b.data.toList[i]? with
    | none=>rw[hq]at hx;cases hx
    | some c=>rw[hq]at hx;cases hx;rfl) (λi x j d hx J=>by
    rw[XF]at hx
    cases hq:b.data.toList[i]? with
    | none=>rw[hq]at hx;cases hx
    | some c=>
     rw[hq]at hx;cases hx
     cases j with
     | zero=>simp[bC]at J;subst J;rfl
     | succ j=>simp[bC]at J) (λi x j d hx J=>by
    rw[XF]at hx
    cases hq:b.data.toList[i]? with
    | none=>rw[hq]at hx;cases hx
    | some c=>
     rw[hq]at hx;cases hx
     cases j with
     | zero=>
      have hi:i<b.size:=by have:=(Xt.1 hq).1;simpa using this
      rw[XK,YA,YI];exact Lib.bytesWorld_cell w e b i hi
     | succ j=>simp[bC]at J) (λi x j d hx J=>by
    rw[XF]at hx
    cases hq:b.data.toList[i]? with
    | none=>rw[hq]at hx;cases hx
    | some c=>
     rw[hq]at hx;cases hx
     cases j with
     | zero=>
      simp[bC]at J;subst J;rw[X1,hq];exact .v _ E
     | succ j=>simp[bC]at J)
  rw[hl]at this;exact this
def T.one:T->Bool
 | .d x=>D.sc x
 | .rs _=>true
 | .ref _ _=>true
 | .own _ r _ _=>r.one
 | _=>false
theorem iV.one{w:W'}{ok:Nat->Prop}{blk:Nat->Option Nat}{val:Nat->Z3}{s:Nat->aH}{x:T}{v:Z3}(h:iV w ok blk val s x v)(hs:∀k,ml w ok blk val s (blk k) (val k) (s k))(h1:x.one=true):v.oneCell'=true:=by
 cases x with
 | d d=>exact iN.one (h:iN w ok d v) h1
 | ref k o=>obtain⟨_,b,_,rfl⟩:=h;rfl
 | rs k=>
  obtain⟨⟨e,sz,es,q⟩,rfl⟩:=h;have:=hs k;rw[q]at this;have⟨_,_,h3⟩:=this;rcases h3 with ⟨_,_,hv⟩|⟨_,_,_,_,hv,_⟩<;>rw[hv]<;>rfl
 | un=>cases h1
 | own k r f g=>exact h.1.2 h1
 | dead=>cases h1
theorem K2{k:Nat}{x:aH}(Aw:x≠.no)(m7:∀e sz es,st.s k=.row e sz es->∃e' ug es',x=.row e' ug es')(blk:Nat->Option Nat)(val:Nat->Z3)(j:Nat) :
  blk j=blk j/\val j=val j/\(st.s j≠.no->(st.site k x).s j≠.no)/\((∃e sz es,st.s j=.row e sz es)->∃e sz es,(st.site k x).s j=.row e sz es):=by
 refine⟨rfl,rfl,?_⟩;simp only[St.site]
 cases fE:Nat.beq j k
 ·exact⟨id,id⟩
 ·rw[Xq fE]
  exact⟨λ_=>Aw,λ⟨e,sz,es,q⟩=>m7 e sz es q⟩
theorem qx.E9{a:Act}{w:W'}{blk:Nat->Option Nat}{val:Nat->Z3}{k:Nat}{x:aH}(hh:qx w0 st a w blk val)(hx:ml w (fN w0 blk) blk val st.s (blk k) (val k) x)(Aw:x≠.no)(m7:∀e sz es,st.s k=.row e sz es->∃e' ug es',x=.row e' ug es')(jC:(st.s k).isVar=true->x.isVar=true:=by intro _;rfl):qx w0 (st.site k x) a w blk val:=by
 have dW:=K2 (st:=st) (k:=k) Aw m7 blk val;refine⟨hh.ext,hh.defers,hh.size,hh.new,hh.inj,λj b hj=>?_,λj=>?_,λt=>(hh.tmp t).to (λ_ _ h=>h) λj _=>dW j⟩
 ·have⟨q1,q2,q3⟩:=hh.kU j b hj
  refine⟨q1,?_,q3⟩;simp only[St.site]
  cases fE:Nat.beq j k
  ·exact q2
  ·rw[Xq fE]at q2;exact jC q2
 have step:ml w (fN w0 blk) blk val st.s (blk j) (val j) ((st.site k x).s j):=by
  cases fE:Nat.beq j k
  ·simp only[St.site,fE,XJ];exact hh.site j
  ·simp only[St.site,fE,Yb]
   rw[Xq fE];exact hx
 exact step.to (λ_ _ h=>h) (.inl E) λ_ _ _ _ j _=>dW j
theorem HL{k:Nat}{cs:List D}{ts:List T}(hs:st.s k=.box cs)(hts:cs.map T.d=ts):Le w0 st (st.site k (.cn ts)):=by
 subst hts;intro a w ⟨blk,val,hh⟩;refine⟨blk,val,hh.E9 ?_ (by simp) (λe sz es q=>by rw[hs]at q;cases q)⟩;have h:=hh.site k;rw[hs]at h;have⟨b,e,aK,h1,h2,h3,h4,h5⟩:=h;refine⟨b,e,aK,h1,h2,by simpa using h3,λj x hx=>?_⟩;rw[XF]at hx;cases hj:cs[j]? with
 | none=>rw[hj]at hx;cases hx
 | some d=>
  rw[hj]at hx;cases hx
  obtain⟨v,hv,Y⟩:=h5 j d hj;exact⟨v,hv,Y.one (h4 j d hj),Y⟩
def mj(cs:List T)(o:Nat)(xs:List T):List T:=cs.take o++xs++cs.drop (o+xs.length)
theorem tJ{t:Z5}{y x:Z6}{agg:Bool}{m k o:Nat}{cs ts cs':List T}(ht:szB P t agg m=true)(hy:st.ev y=.ref k o)(hk:st.s k=.cn cs)(ho:o+m<=cs.length)(ep:mj cs o ts=cs')(J4:ts.length=m)
  (hv:∀(a:Act) (w:W') (blk:Nat->Option Nat) (val:Nat->Z3),qx w0 st a w blk val->∃us:List Z3,(a.eval x).cells.toList=us/\us.length=m/\∀(j:Nat) (z:T),ts[j]?=some z->∃v,us[j]?=some v/\v.oneCell'=true/\iV w (fN w0 blk) blk val st.s z v)
  (h:tj P w0 ops rest R (st.site k (.cn cs'))):tj P w0 ops (⟨none,.store t y x,ty,pos,after,none⟩::rest) R st:=by
 subst ep;refine eG (K:=λs=>s=st.site k (.cn (mj cs o ts))) E (λa w ⟨blk,val,hh⟩=>?_) (λ_ e=>e ▸ h);have h1:=hh.ev y;rw[hy]at h1;have⟨_,b,hb,hva⟩:=h1;have⟨us,J3,WG,hur⟩:=hv a w blk val hh;have eT:=hh.site k;rw[hk]at eT;have⟨b',e,aK,bY,cV,eQ,hc⟩:=eT;rw[hb]at bY;cases bY
 have Av:∀u∈(a.eval x).cells.toList,u.oneCell'=true:=λu hu=>by
  rw[J3]at hu;have⟨j,hj⟩:=YH hu;have mB:j<ts.length:=by have:=(Xt.1 hj).1;omega
  obtain⟨v,hv,ho,_⟩:=hur j _ (Xp mB);rw[hj]at hv;cases hv;exact ho
 have kY:(a.eval x).cells.size=m:=by rw[<-WG,<-J3,YD]
 have bR:=iF (P:=P) (o:=o) ht kY cV (by omega) Av;refine gO (λc hc=>by cases hc) ?_;unfold Oper.wp;rw[show (execOp a.eval ⟨none,.store t y x,ty,pos,after,none⟩).run P w=.ok .skip (w.setRow b (aK.toList.take o++(a.eval x).cells.toList++aK.toList.drop (o+m)).toArray) by simp[execOp,hva,bR]];refine⟨_,rfl,blk,val,hh.setRow hb ?_ (λe sz es he=>by rw[hk]at he;cases he) (by simp)⟩
 have cr:∀{d:D} {v:Z3},iN w (fN w0 blk) d v->iN (w.setRow b (aK.toList.take o++(a.eval x).cells.toList++aK.toList.drop (o+m)).toArray) (fN w0 blk) d v:=λh=>
  h.cr (by rw[setRow_size];exact Xw _) (λb' o bg ho=>by rw[cT (λe=>bg.2 k (by rw[e];exact hb))];exact ho) λ_ _ h=>h
 have jB:∀{z:T} {v:Z3},iV w (fN w0 blk) blk val st.s z v->iV (w.setRow b (aK.toList.take o++(a.eval x).cells.toList++aK.toList.drop (o+m)).toArray) (fN w0 blk) blk val st.s z v:=λ{z v} h=>by
  cases z with
  | d z=>exact cr h
  | own k r ds F=>exact⟨h.1,h.2.imp λ_ _ h=>cr h⟩
  | _=>exact h
 have WE:aK.toList.length=cs.length:=by simpa using eQ
 have vO:m=(a.eval x).cells.toList.length:=by rw[J3];omega
 refine⟨b,e,_,rfl,iD cV,?_,?_⟩
 ·simp[mj];omega
 ·intro j z hz
  rcases ia (by omega) hz with ⟨h1,h⟩|⟨h1,h2,h⟩|⟨h1,h⟩
  ·obtain⟨v,hv,kP,Y⟩:=hc j z h
   refine⟨v,?_,kP,jB Y⟩;rw[vO,XY];exact eL (by omega) (.inl ⟨h1,by simpa using hv⟩)
  ·obtain⟨v,hv,kP,Y⟩:=hur _ z h
   refine⟨v,?_,kP,jB Y⟩;rw[vO,XY];exact eL (by omega) (.inr (.inl ⟨h1,by omega,by rw[J3];exact hv⟩))
  ·obtain⟨v,hv,kP,Y⟩:=hc j z h
   refine⟨v,?_,kP,jB Y⟩;rw[vO,XY];exact eL (by omega) (.inr (.inr ⟨by omega,by simpa using hv⟩))
theorem sD{v:Z3}(h:v.oneCell'=true):v.cells.toList=[v]:=by cases v<;>first|rfl|cases h
theorem tK{t:Z5}{y x:Z6}{k o:Nat}{cs cs':List T}{z:T}(ht:szB P t false 1=true)(hy:st.ev y=.ref k o)(hx:st.ev x=z)(hz:z.one=true)(hk:st.s k=.cn cs)(ho:o+1<=cs.length)(ep:mj cs o [z]=cs')
  (h:tj P w0 ops rest R (st.site k (.cn cs'))):tj P w0 ops (⟨none,.store t y x,ty,pos,after,none⟩::rest) R st:=
 tJ ht hy hk ho ep E (λa w blk val hh=>by
  have Y:iV w (fN w0 blk) blk val st.s z (a.eval x):=hx ▸ hh.ev x;have h1:=Y.one hh.site hz;refine⟨[a.eval x],sD h1,rfl,λj u hu=>?_⟩
  cases j with
  | zero=>simp at hu;subst hu;exact⟨_,rfl,h1,Y⟩
  | succ j=>simp at hu) h
theorem fO{t:Z5}{y:Z6}{m q o:Nat}{cs:List T}{x:T}(ht:szB P t false m=true)(hy:ev y=.ref q o)(hq:s q=.cn cs)(J:cs[o]?=some x):QOp P w0 n s ev ⟨dst,.load t y,ty,pos,after,g⟩ x:=
 .mk λa w ok blk val h hs qW=>by
  have h1:=h y;rw[hy]at h1;have⟨_,b,hb,hv⟩:=h1;have h2:=hs q;rw[hq]at h2;have⟨b',e,aK,bY,cV,eQ,hc⟩:=h2;rw[hb]at bY;cases bY
  obtain⟨v,J2,_,Y⟩:=hc o x J;refine⟨v,w,?_,Ext.refl w,Y⟩;have jE:w.cell? ⟨b,o,none⟩=some v:=by rw[cell_of_block cV];exact J2
  simp[execOp,hv,Instr.loadAt,Instr.sureAddr,loadVar,gn ht,jE]
def shiftT(f:Nat->Nat):T->T
 | .ref k o=>.ref (f k) o
 | .rs k=>.rs (f k)
 | .own k r u v=>.own (f k) r u v
 | x=>x
def shiftS(f:Nat->Nat):aH->aH
 | .cn cs=>.cn (cs.map (shiftT f))
 | x=>x
def getS(ss:List aH)(i:Nat):aH:=match ss,i with
 | [],_=>.no
 | x::_,0=>x
 | _::xs,i+1=>getS xs i
def kS(m:Nat):T->Bool
 | .ref k _=>Nat.blt k m
 | .rs k=>Nat.blt k m
 | .own k _ _ _=>Nat.blt k m
 | _=>true
def kT(m:Nat):aH->Bool
 | .cn cs=>cs.all (kS m)
 | _=>true
def rW(w:W')(ok:Nat->Prop)(blk:Nat->Option Nat)(val:Nat->Z3)(s:Nat->aH):List T->List Z3->Prop
 | [],[]=>True
 | x::xs,v::vs=>iV w ok blk val s x v/\rW w ok blk val s xs vs
 | _,_=>False
def TF(P:Z4)(f:ϋ)(args:List T)(ss:List aH)(r:T)(ss':List aH):Prop:=
 ∀(w:W') (ok:Nat->Prop) (blk:Nat->Option Nat) (val:Nat->Z3) (vs:List Z3),
  (∀i b,blk i=some b->b<w.heap.size/\¬ok b)->(∀i j b,blk i=some b->blk j=some b->i=j)->(∀i,ss.length<=i->blk i=none)->
  (∀i,ml w ok blk val (getS ss) (blk i) (val i) (getS ss i))->rW w ok blk val (getS ss) args vs->
  Calls P f vs.toArray w λe w'=>∃v aI val',e=.returned v/\(∀i,(getS ss i).isVar=true->aI i=blk i)/\(∀i b,aI i=some b->(∃j,blk j=some b)\/w.heap.size<=b)/\(∀i b,aI i=some b->b<w'.heap.size)/\
   (∀i j b,aI i=some b->aI j=some b->i=j)/\Oy ⟨w,ok,λb=>∃i,blk i=some b,λ_=>none,λ_=>none,none⟩ w'/\
   (∀i,ml w' (λb=>(ok b\/w.heap.size<=b)/\∀i,aI i≠some b) aI val' (getS ss') (aI i) (val' i) (getS ss' i))/\
   iV w' (λb=>(ok b\/w.heap.size<=b)/\∀i,aI i≠some b) aI val' (getS ss') r v
theorem sP{ss:List aH}:∀{i:Nat},ss.length<=i->getS ss i=.no:=by
 induction ss with
 | nil=>intro i _;rfl
 | cons x xs ih=>intro i h;cases i with
  | zero=>simp at h
  | succ i=>exact ih (by simpa using h)
def argTT:List T->Nat->T
 | [],_=>.un
 | x::xs,k=>match k with
  | 0=>x
  | k+1=>argTT xs k
def QM(n:Nat)(ss:List aH)(k:Nat):aH:=bif Nat.ble n k then shiftS (n + ·) (getS ss (k - n)) else .no
def zu(n:Nat)(args:List T)(ss:List aH):St:={ n:=n,t:=λk=>argTT (args.map (shiftT (n + ·))) k,s:=QM n ss }
def nth(ns:List Nat)(i:Nat):Nat:=match ns,i with
 | [],_=>0
 | x::_,0=>x
 | _::xs,i+1=>nth xs i
def A7(st:St)(ns:List Nat)(ss:List aH):Prop:=∀i,i<ss.length->st.s (nth ns i)=shiftS (nth ns) (getS ss i)
def nodupN:List Nat->Bool
 | []=>true
 | x::xs=>!memN x xs&&nodupN xs
def firstN(n:Nat):Nat->Nat->List Nat->Bool
 | _,0,_=>true
 | _,_+1,[]=>false
 | i,m+1,x::xs=>Nat.beq x (n+i)&&firstN n (i+1) m xs
inductive JU(st:St):List ResultVar->(Nat->Nat)->T->Prop
 | none {f:Nat->Nat}:JU st [] f (.d (.da []))
 | tmp {t:Tmp} {f:Nat->Nat} {r:T} (h:st.t t=shiftT f r):JU st [.tmp t] f r
def VI(n:Nat)(rs:List ResultVar)(m:Nat)(r:T)(ss':List aH):Exit->St->Prop
 | .ret,st|.normal,st=>∃ns:List Nat,JU st rs (nth ns) r/\A7 st ns ss'/\ns.length=ss'.length/\nodupN ns=true/\firstN n 0 m ns=true/\kS ss'.length r=true/\ss'.all (kT ss'.length)=true
 | _,_=>False
theorem iV.shift{w:W'}{ok ok':Nat->Prop}{blk aI:Nat->Option Nat}{val val':Nat->Z3}{s s':Nat->aH}{f:Nat->Nat}{x:T}{v:Z3}(h:iV w ok blk val s x v)(bg:∀b,b<w.heap.size->ok b->ok' b)
  (hk:∀k,(x=.rs k\/(∃o,x=.ref k o)\/∃r f g,x=.own k r f g)->aI (f k)=blk k/\val' (f k)=val k/\s' (f k)=shiftS f (s k)):iV w ok' aI val' s' (shiftT f x) v:=by
 cases x with
 | d x=>exact iN.ok (h:iN w ok x v) bg
 | ref k o=>
  have⟨q1,b,q2,q3⟩:=h;have⟨e1,_,e3⟩:=hk k (.inr (.inl ⟨o,rfl⟩));refine⟨?_,b,by rw[e1];exact q2,q3⟩;rw[e3]
  cases hs:s k<;>simp[shiftS,hs]at q1 ⊢
 | rs k=>
  have⟨⟨e,sz,es,q1⟩,q2⟩:=h;have⟨_,e2,e3⟩:=hk k (.inl E);exact⟨⟨e,sz,es,by rw[e3,q1];rfl⟩,by rw[e2];exact q2⟩
 | own k r g1 g2=>
  have⟨⟨⟨q0,q1⟩,qo⟩,q2⟩:=h;have⟨e1,e2,e3⟩:=hk k (.inr (.inr ⟨r,g1,g2,rfl⟩));refine⟨⟨⟨?_,λY=>?_⟩,qo⟩,by rw[e1,e2];exact q2.imp λ_ _ h=>iN.ok h bg⟩
  ·rw[e3];cases hs:s k<;>simp[shiftS,hs]at q0 ⊢
  ·obtain⟨e,sz,es,q1⟩:=q1 Y
   exact⟨e,sz,es,by rw[e3,q1];rfl⟩
 | un=>exact h
 | dead=>trivial
theorem iV.ix{w:W'}{ok ok':Nat->Prop}{blk aI:Nat->Option Nat}{val val':Nat->Z3}{s s':Nat->aH}{f:Nat->Nat}{x:T}{v:Z3}(h:iV w ok blk val s (shiftT f x) v)(bg:∀b,b<w.heap.size->ok b->ok' b)
  (hk:∀k,(x=.rs k\/(∃o,x=.ref k o)\/∃r f g,x=.own k r f g)->aI k=blk (f k)/\val' k=val (f k)/\s (f k)=shiftS f (s' k)):iV w ok' aI val' s' x v:=by
 cases x with
 | d x=>exact iN.ok (h:iN w ok x v) bg
 | ref k o=>
  have⟨q1,b,q2,q3⟩:=h;have⟨e1,_,e3⟩:=hk k (.inr (.inl ⟨o,rfl⟩));refine⟨λhn=>q1 (by rw[e3,hn];rfl),b,by rw[e1];exact q2,q3⟩
 | rs k=>
  have⟨⟨e,sz,es,q1⟩,q2⟩:=h;have⟨_,e2,e3⟩:=hk k (.inl E);refine⟨⟨e,sz,es,?_⟩,by rw[e2];exact q2⟩;rw[e3]at q1
  cases hs:s' k<;>rw[hs]at q1<;>simp[shiftS]at q1 ⊢
  exact q1
 | own k r g1 g2=>
  have⟨⟨⟨q0,q1⟩,qo⟩,q2⟩:=h;have⟨e1,e2,e3⟩:=hk k (.inr (.inr ⟨r,g1,g2,rfl⟩));refine⟨⟨⟨λhn=>q0 (by rw[e3,hn];rfl),λY=>?_⟩,qo⟩,by rw[e1,e2];exact q2.imp λ_ _ h=>iN.ok h bg⟩;obtain⟨e,sz,es,q1⟩:=q1 Y;rw[e3]at q1;refine⟨e,sz,es,?_⟩
  cases hs:s' k<;>rw[hs]at q1<;>simp[shiftS]at q1 ⊢
  exact q1
 | un=>exact h
 | dead=>trivial
theorem jq{m:Nat}{x:T}(h:kS m x=true):∀k,(x=.rs k\/(∃o,x=.ref k o)\/∃r f g,x=.own k r f g)->k<m:=by
 intro k hk;rcases hk with rfl|⟨o,rfl⟩|⟨_,_,_,rfl⟩<;>simpa [kS,YB] using h
theorem ml.shift{w:W'}{ok ok':Nat->Prop}{blk aI:Nat->Option Nat}{val val':Nat->Z3}{s s':Nat->aH}{f:Nat->Nat}{b:Option Nat}{u:Z3}{x:aH}(h:ml w ok blk val s b u x)(bg:∀b,b<w.heap.size->ok b->ok' b)
  (hk:∀cs,x=.cn cs->∀y∈cs,∀k,(y=.rs k\/(∃o,y=.ref k o)\/∃r f g,y=.own k r f g)->aI (f k)=blk k/\val' (f k)=val k/\s' (f k)=shiftS f (s k)):ml w ok' aI val' s' b u (shiftS f x):=by
 cases x with
 | no=>exact h
 | box cs=>
  have⟨b,e,aK,h1,h2,h3,h4,h5⟩:=h;exact⟨b,e,aK,h1,h2,h3,h4,λj d J=>let ⟨v,hv,Y⟩:=h5 j d J;⟨v,hv,Y.ok bg⟩⟩
 | cn cs=>
  have⟨b,e,aK,h1,h2,h3,h5⟩:=h;refine⟨b,e,aK,h1,h2,by simpa using h3,λj y hy=>?_⟩;rw[XF]at hy;cases hj:cs[j]? with
  | none=>rw[hj]at hy;cases hy
  | some z=>
   rw[hj]at hy;cases hy
   obtain⟨v,hv,ho,Y⟩:=h5 j z hj;exact⟨v,hv,ho,Y.shift bg (hk cs E z (XA hj))⟩
 | mp es c=>exact h
 | row e sz es=>
  have⟨h1,h2,h3⟩:=h;exact⟨h1,h2,h3.imp id λ⟨b,aK,cap,k1,k2,k3,k4,k5,k6,k7⟩=>⟨b,aK,cap,k1,k2,k3,k4,k5,k6,λi x j d hi hj=>let ⟨v,hv,Y⟩:=k7 i x j d hi hj;⟨v,hv,Y.ok bg⟩⟩⟩
theorem ml.ix{w:W'}{ok ok':Nat->Prop}{blk aI:Nat->Option Nat}{val val':Nat->Z3}{s s':Nat->aH}{f:Nat->Nat}{b:Option Nat}{u:Z3}{x:aH}(h:ml w ok blk val s b u (shiftS f x))(bg:∀b,b<w.heap.size->ok b->ok' b)
  (hk:∀cs,x=.cn cs->∀y∈cs,∀k,(y=.rs k\/(∃o,y=.ref k o)\/∃r f g,y=.own k r f g)->aI k=blk (f k)/\val' k=val (f k)/\s (f k)=shiftS f (s' k)):ml w ok' aI val' s' b u x:=by
 cases x with
 | no=>exact h
 | box cs=>
  have⟨b,e,aK,h1,h2,h3,h4,h5⟩:=h;exact⟨b,e,aK,h1,h2,h3,h4,λj d J=>let ⟨v,hv,Y⟩:=h5 j d J;⟨v,hv,Y.ok bg⟩⟩
 | cn cs=>
  have⟨b,e,aK,h1,h2,h3,h5⟩:=h;refine⟨b,e,aK,h1,h2,by simpa using h3,λj z hz=>?_⟩;obtain⟨v,hv,ho,Y⟩:=h5 j (shiftT f z) (by rw[XF,hz];rfl);exact⟨v,hv,ho,Y.ix bg (hk cs E z (XA hz))⟩
 | mp es c=>exact h
 | row e sz es=>
  have⟨h1,h2,h3⟩:=h;exact⟨h1,h2,h3.imp id λ⟨b,aK,cap,k1,k2,k3,k4,k5,k6,k7⟩=>⟨b,aK,cap,k1,k2,k3,k4,k5,k6,λi x j d hi hj=>let ⟨v,hv,Y⟩:=k7 i x j d hi hj;⟨v,hv,Y.ok bg⟩⟩⟩
theorem rW.length{w:W'}{ok:Nat->Prop}{blk:Nat->Option Nat}{val:Nat->Z3}{s:Nat->aH}:∀{xs:List T} {vs:List Z3},rW w ok blk val s xs vs->vs.length=xs.length
 | [],[],_=>rfl
 | _::_,_::_,h=>by simp[h.2.length]
 | [],_::_,h=>h.elim
 | _::_,[],h=>h.elim
theorem PR{w:W'}{ok ok':Nat->Prop}{blk aI:Nat->Option Nat}{val val':Nat->Z3}{s s':Nat->aH}{f:Nat->Nat}(m:Nat)(bg:∀b,b<w.heap.size->ok b->ok' b)(hk:∀k,aI (f k)=blk k/\val' (f k)=val k/\s' (f k)=shiftS f (s k)) :
  ∀{xs:List T} {vs:List Z3},rW w ok blk val s xs vs->∀k,iV w ok' aI val' s' (argTT (xs.map (shiftT f)) k) ((vs++List.replicate m undef).getD k undef)
 | [],[],_,k=>by
  show _=_
  rw[Yt,X1,List.getElem?_replicate]
  split<;>rfl
 | x::xs,v::vs,h,0=>h.1.shift bg λk _=>hk k
 | x::xs,v::vs,h,k+1=>by
  have:=PR (aI:=aI) (val':=val') (s':=s') m bg hk h.2 k;simpa [argTT] using this
 | [],_::_,h,_=>h.elim
 | _::_,[],h,_=>h.elim
theorem K8{n:Nat}:∀{m i:Nat} {ns:List Nat},firstN n i m ns=true->∀j,j<m->nth ns j=n+(i+j)
 | 0,_,_,_,j,h=>by omega
 | _+1,_,[],h,_,_=>by simp[firstN]at h
 | m+1,i,x::xs,h,j,hj=>by
  simp only[firstN,Xs]at h
  cases j with
  | zero=>simpa [nth] using Xq h.1
  | succ j=>
   have:=K8 h.2 j (by omega);simp only[nth];omega
theorem z0{ns:List Nat}:∀{i:Nat},i<ns.length->memN (nth ns i) ns=true:=by
 induction ns with
 | nil=>intro i h;simp at h
 | cons x xs ih=>
  intro i h
  cases i with
  | zero=>simp[nth,memN]
  | succ i=>simp only[nth,memN,X3];exact .inr (ih (by simpa using h))
theorem RJ{ns:List Nat}(h:nodupN ns=true):∀{i j:Nat},i<ns.length->j<ns.length->nth ns i=nth ns j->i=j:=by
 induction ns with
 | nil=>intro i j h;simp at h
 | cons x xs ih=>
  simp only[nodupN,Xs,Yg]at h;intro i j hi hj e
  cases i with
  | zero=>
   cases j with
   | zero=>rfl
   | succ j=>
    simp only[nth]at e;have:=z0 (ns:=xs) (i:=j) (by simpa using hj);rw[<-e,h.1]at this;cases this
  | succ i=>
   cases j with
   | zero=>
    simp only[nth]at e;have:=z0 (ns:=xs) (i:=i) (by simpa using hi);rw[e,h.1]at this;cases this
   | succ j=>simp only[nth]at e;rw[ih h.2 (by simpa using hi) (by simpa using hj) e]
theorem B9{f:ϋ}{fn:Func}{c:Code}{n:Nat}{args:List T}{ss ss':List aH}{r:T}{rs:List ResultVar}(hf:P.funcs[f]?=some fn)(hb:fn.body=some c)(hn:fn.ntmps=n)(qH:fn.results=rs.toArray)(hl:args.length<=n)
  (h:∀w0:Cx,w0.uk=none->dG P w0 c (VI n rs ss.length r ss') (zu n args ss)):TF P f args ss r ss':=by
 intro w ok blk val vs vS aB0 aH0 eT hL;refine(callsIn_wide (n:=1)).1 (callsIn_of_wp_marks hf hb trivial ?_ E)
 let cx:Cx:=⟨w,ok,λb=>∃i,blk i=some b,λk=>bif Nat.ble n k&&(getS ss (k - n)).isVar then blk (k - n) else none,λ_=>none,none⟩
 let A1:Nat->Option Nat:=λk=>bif Nat.ble n k then blk (k - n) else none
 let Ps:Nat->Z3:=λk=>val (k - n)
 have pV:∀k,Nat.ble n (n+k)=true:=λk=>by rw[Nat.ble_eq];omega
 have hE:∀k b,A1 k=some b->n<=k/\blk (k - n)=some b:=λk b hk=>by
  simp only[A1]at hk
  cases hb:Nat.ble n k with
  | false=>rw[hb]at hk;cases hk
  | true=>rw[hb]at hk;exact⟨Nat.le_of_ble_eq_true hb,hk⟩
 have aj0:∀b,b<w.heap.size->ok b->fN cx A1 b:=λb hb h=>⟨.inl h,λk hk=>(vS _ _ (hE k b hk).2).2 h⟩
 have Q2:∀k,A1 (n+k)=blk k/\Ps (n+k)=val k/\QM n ss (n+k)=shiftS (n + ·) (getS ss k):=λk=>by
  simp only[A1,Ps,QM,pV k,Yb,Yy];exact⟨trivial,trivial,trivial⟩
 have h0:qx cx (zu n args ss) { tmps:=vs.toArray++Array.replicate (fn.ntmps - vs.toArray.size) undef,defers:=[] } w A1 Ps:=by
  refine⟨⟨rfl,rfl,rfl,Xw _,λ_ _ _=>rfl⟩,Kept.nil E E,?_,λk b hk=>⟨.inr ⟨_,(hE k b hk).2⟩,(vS _ _ (hE k b hk).2).1⟩,λk k' b hk kX=>?_,λk b hk=>?_,λk=>?_,λt=>?_⟩
  ·have:=hL.length
   simp[zu,hn];omega
  ·have e:=aB0 _ _ _ (hE k b hk).2 (hE k' b kX).2
   have:=(hE k b hk).1;have:=(hE k' b kX).1;omega
  ·simp only[cx]at hk
   cases hb:Nat.ble n k&&(getS ss (k - n)).isVar with
   | false=>rw[hb]at hk;cases hk
   | true=>
    rw[hb]at hk;rw[Xs]at hb;refine⟨by simp only[A1,hb.1,Yb];exact hk,?_,Nat.le_of_ble_eq_true hb.1⟩;show (QM n ss k).isVar=true
    simp only[QM,hb.1,Yb];have h2:=hb.2
    cases hs:getS ss (k - n)<;>rw[hs]at h2<;>first|rfl|cases h2
  ·show ml _ _ _ _ (QM n ss) _ _ (QM n ss k)
   cases hb:Nat.ble n k with
   | false=>simp only[A1,QM,hb,XJ];rfl
   | true=>
    obtain⟨i,rfl⟩:∃i,k=n+i:=⟨k - n,by have:=Nat.le_of_ble_eq_true hb;omega⟩;have⟨e1,e2,e3⟩:=Q2 i;rw[e1,e2,e3];exact(eT i).shift aj0 λ_ _ _ _ j _=>Q2 j
  ·have:=PR (aI:=A1) (val':=Ps) (s':=QM n ss) (f:=(n + ·)) (fn.ntmps - vs.toArray.size) aj0 Q2 hL t
   have e:(vs.toArray++Array.replicate (fn.ntmps - vs.toArray.size) undef)=(vs++List.replicate (fn.ntmps - vs.toArray.size) undef).toArray:=by simp
   show iV _ _ _ _ _ _ ((vs.toArray++Array.replicate (fn.ntmps - vs.toArray.size) undef).getD t undef)
   rw[e,XN,XY,<-X1];exact this
 have fin:∀(a:Act) (w':W') (st':St),(∃ns:List Nat,JU st' rs (nth ns) r/\A7 st' ns ss'/\ns.length=ss'.length/\nodupN ns=true/\firstN n 0 ss.length ns=true/\kS ss'.length r=true/\ss'.all (kT ss'.length)=true)->Holds cx st' a w'->
   ∃v,(results fn a.tmps).run P w'=.ok v w'/\∃v' aI val',Ending.returned v=.returned v'/\(∀i,(getS ss i).isVar=true->aI i=blk i)/\(∀i b,aI i=some b->(∃j,blk j=some b)\/w.heap.size<=b)/\(∀i b,aI i=some b->b<w'.heap.size)/\
   (∀i j b,aI i=some b->aI j=some b->i=j)/\Oy ⟨w,ok,λb=>∃i,blk i=some b,λ_=>none,λ_=>none,none⟩ w'/\
   (∀i,ml w' (λb=>(ok b\/w.heap.size<=b)/\∀i,aI i≠some b) aI val' (getS ss') (aI i) (val' i) (getS ss' i))/\
   iV w' (λb=>(ok b\/w.heap.size<=b)/\∀i,aI i≠some b) aI val' (getS ss') r v':=by
  intro a w' st' ⟨ns,ay8,ai6,hlen,o9,aj8,hbr,J7⟩ ⟨JM,TS,hh⟩
  let aI:Nat->Option Nat:=λi=>if i<ss'.length then JM (nth ns i) else none
  let val':Nat->Z3:=λi=>TS (nth ns i)
  have bY:∀i b,aI i=some b->i<ss'.length/\JM (nth ns i)=some b:=λi b h=>by
   simp only[aI]at h
   split at h
   ·exact⟨by assumption,h⟩
   ·cases h
  have vN:∀b,b<w'.heap.size->fN cx JM b->(ok b\/w.heap.size<=b)/\∀i,aI i≠some b:=λb _ h=>⟨h.1,λi hi=>h.2 _ (bY i b hi).2⟩;have dW:∀k,k<ss'.length->aI k=JM (nth ns k)/\val' k=TS (nth ns k)/\st'.s (nth ns k)=shiftS (nth ns) (getS ss' k):=λk hk=>⟨Xu hk,rfl,ai6 k hk⟩
  have AF:∀(ss:List aH) (m i:Nat),ss.all (kT m)=true->kT m (getS ss i)=true:=by
   intro ss
   induction ss with
   | nil=>intro m i _;rfl
   | cons x xs ih=>
    intro m i h;simp only[Ze,Xs]at h
    cases i with
    | zero=>exact h.1
    | succ i=>exact ih m i h.2
  have sites:∀i,ml w' (λb=>(ok b\/w.heap.size<=b)/\∀i,aI i≠some b) aI val' (getS ss') (aI i) (val' i) (getS ss' i):=λi=>by
   rcases XP i ss'.length with hi|hi
   ·have h1:=hh.site (nth ns i)
    rw[ai6 i hi]at h1;rw[(dW i hi).1];refine h1.ix vN λcs ep y hy k hk=>?_;have h2:=AF ss' ss'.length i J7;rw[ep]at h2;exact dW k (jq (X0.1 h2 y hy) k hk)
   ·rw[sP hi]
    show aI i=none
    exact Xr (by omega)
  have repr:∀v,iV w' (fN cx JM) JM TS st'.s (shiftT (nth ns) r) v->iV w' (λb=>(ok b\/w.heap.size<=b)/\∀i,aI i≠some b) aI val' (getS ss') r v:=λv h=>
   h.ix vN λk hk=>dW k (jq hbr k hk)
  have hsl:ss.length<=ss'.length\/ss=[]:=by
   rcases XP ss'.length ss.length with h|h
   ·right
    exfalso
    have:∀(m i:Nat) (ns:List Nat),firstN n i m ns=true->m<=ns.length:=by
     intro m
     induction m with
     | zero=>intro i ns _;omega
     | succ m ih=>
      intro i ns h
      cases ns with
      | nil=>simp[firstN]at h
      | cons x xs=>
       simp only[firstN,Xs]at h;have:=ih _ _ h.2;simp;omega
    have:=this _ _ _ aj8;omega
   ·exact .inl h
  have m9:∀i,i<ss.length->nth ns i=n+i:=λi hi=>by
   have:=K8 aj8 i hi;rw[XK]at this;exact this
  have common:(∀i,(getS ss i).isVar=true->aI i=blk i)/\(∀i b,aI i=some b->(∃j,blk j=some b)\/w.heap.size<=b)/\(∀i b,aI i=some b->b<w'.heap.size)/\
    (∀i j b,aI i=some b->aI j=some b->i=j)/\Oy ⟨w,ok,λb=>∃i,blk i=some b,λ_=>none,λ_=>none,none⟩ w':=by
   refine⟨λi hi=>?_,λi b hb=>?_,λi b hb=>(hh.new _ _ (bY i b hb).2).2,λi j b h1 h2=>?_,⟨hh.ext.os,hh.ext.tape,hh.ext.output,hh.ext.size,hh.ext.block⟩⟩
   ·have qK : i < ss.length := by
     rcases XP i ss.length with h|h
     ·exact h
     ·rw[sP h]at hi;cases hi
    have jm:i<ss'.length:=by
     rcases hsl with h|h
     ·omega
     ·subst h;simp at qK
    rw[(dW i jm).1,m9 i qK];have hs:=eT i
    obtain⟨b,hb⟩:∃b,blk i=some b:=by
     cases hg:getS ss i<;>rw[hg]at hs hi<;>first|(cases hi;done)|(have⟨b,_,_,h,_⟩:=hs;exact⟨b,h⟩)|(have⟨b,h,_⟩:=hs;exact⟨b,h⟩)
    have hp:=hh.kU (n+i) b (by
     show (bif Nat.ble n (n+i)&&(getS ss (n+i - n)).isVar then blk (n+i - n) else none)=some b
     rw[Yy,pV i,hi]
     exact hb)
    rw[hp.1,hb]
   ·rcases(hh.new _ _ (bY i b hb).2).1 with h|h
    ·exact .inr h
    ·exact .inl h
   ·have e:=hh.inj _ _ b (bY i b h1).2 (bY j b h2).2
    exact RJ o9 (by rw[hlen];exact(bY i b h1).1) (by rw[hlen];exact(bY j b h2).1) e
  have⟨c1,c2,c4,c5,c6⟩:=common
  cases ay8 with
  | none=>
   have:(results fn a.tmps).run P w'=.ok (.tuple #[]) w':=by simp[results,qH]
   exact⟨_,this,_,aI,val',rfl,c1,c2,c4,c5,c6,sites,iN.da [] [] E (λj d v h=>by simp at h)⟩
  | tmp ht=>
   rename_i t;have:(results fn a.tmps).run P w'=.ok (a.tmps.getD t undef) w':=by simp[results,qH]
   exact⟨_,this,_,aI,val',rfl,c1,c2,c4,c5,c6,sites,repr _ (by rw[<-ht];exact hh.tmp t)⟩
 refine wpIn_mono (h cx E Fence.wide 1 ⟨.inl E,rfl⟩ _ w ⟨_,_,h0⟩) λe a w' ⟨st',hR,hH⟩=>?_
 cases e with
 | normal=>
  have⟨ms,m1,m2,m3,oO⟩:=hH.shut E;show LeavesInM _ _ _ _ _ _ _ _ _
  rw[m1];exact gB ms w' m2 m3 (fin { a with defers:=[] } (shut ms w') st' hR oO)
 | ret=>
  have⟨ms,m1,m2,m3,oO⟩:=hH.shut E;show LeavesInM _ _ _ _ _ _ _ _ _
  rw[m1];exact gB ms w' m2 m3 (fin { a with defers:=[] } (shut ms w') st' hR oO)
 | exit id=>exact hR.elim
 | goto l=>exact hR.elim
 | panic c=>exact hR.elim
 | outgrown=>exact hR.elim
theorem Fo{f:ϋ}{fn:Func}{c:Code}{n:Nat}{args:List T}{ss ss':List aH}{r:T}{rs:List ResultVar}(hf:P.funcs[f]?=some fn)(hb:fn.body=some c)(hn:fn.ntmps=n)(qH:fn.results=rs.toArray)(hl:args.length<=n)
 (h:∀w0:Cx,dG P w0 c (VI n rs ss.length r ss') (zu n args ss)):TF P f args ss r ss':=B9 hf hb hn qH hl λw0 _=>h w0
def jR(k:Nat):List Nat->Option Nat
 | []=>none
 | x::xs=>bif Nat.beq k x then some 0 else (jR k xs).map (· + 1)
theorem n6{k:Nat}:∀{ks:List Nat} {i:Nat},jR k ks=some i->i<ks.length/\nth ks i=k
 | [],_,h=>by cases h
 | x::xs,i,h=>by
  simp only[jR]at h
  cases hb:Nat.beq k x with
  | true=>rw[hb]at h;cases h;exact⟨by simp,(Xq hb).symm⟩
  | false=>
   rw[hb]at h;simp only[XJ,Ye]at h;obtain⟨j,hj,rfl⟩:=h;have⟨h1,h2⟩:=n6 hj;exact⟨by simpa using h1,h2⟩
theorem vJ{ks:List Nat}(h:nodupN ks=true){i:Nat}(hi:i<ks.length):jR (nth ks i) ks=some i:=by
 cases hk:jR (nth ks i) ks with
 | none=>
  have hm:=z0 hi;exfalso
  have:∀(ks:List Nat) (k:Nat),memN k ks=true->jR k ks≠none:=by
   intro ks
   induction ks with
   | nil=>intro k h;cases h
   | cons x xs ih=>
    intro k h;simp only[memN,X3]at h;simp only[jR]
    cases hb:Nat.beq k x with
    | true=>simp
    | false=>
     rw[hb]at h;have:=ih k (h.resolve_left (by simp));simp only[XJ,Xv,Option.map_eq_none_iff];exact this
  exact this _ _ hm hk
 | some j=>
  have⟨h1,h2⟩:=n6 hk;rw[RJ h h1 hi h2]
def rowsOf(ks:List Nat):List aH->Nat->List Nat
 | [],_=>[]
 | .row _ _ _::xs,i=>nth ks i::rowsOf ks xs (i+1)
 | _::xs,i=>rowsOf ks xs (i+1)
def afterS(st:St)(ks:List Nat)(rows:List Nat)(ss':List aH):St:=
 { n:=st.n
   t:=λt=>killT rows (st.t t)
   s:=λk=>match jR k ks with|some i=>shiftS (nth ks) (getS ss' i)|none=>killSite rows (st.s k) }
inductive zj(ev:Z6->T)(f:Nat->Nat):List Z6->List T->Prop
 | nil:zj ev f [] []
 | cons {y:Z6} {ys:List Z6} {x:T} {xs:List T} (h:ev y=shiftT f x) (hs:zj ev f ys xs):zj ev f (y::ys) (x::xs)
theorem y8{ev:Z6->T}{f:Nat->Nat}{a:Act}{w:W'}{ok ok':Nat->Prop}{blk aI:Nat->Option Nat}{val val':Nat->Z3}{s s':Nat->aH}{m:Nat}(hy:∀y,iV w ok blk val s (ev y) (a.eval y))(bg:∀b,b<w.heap.size->ok b->ok' b)
  (hk:∀k,k<m->aI k=blk (f k)/\val' k=val (f k)/\s (f k)=shiftS f (s' k)):∀{ys:List Z6} {xs:List T},zj ev f ys xs->xs.all (kS m)=true->rW w ok' aI val' s' xs (ys.map a.eval)
 | _,_,.nil,_=>trivial
 | _,_,.cons (y:=y) h hs,hb=>by
  simp only[Ze,Xs]at hb;refine⟨?_,y8 hy bg hk hs hb.2⟩;have:=hy y;rw[h]at this;exact this.ix bg λk hkk=>hk k (jq hb.1 k hkk)
def sV(ks:List Nat)(args:List T)(ss:List aH)(r:T)(ss':List aH):Bool:=
 nodupN ks&&Nat.beq ks.length ss'.length&&Nat.ble ss.length ss'.length&&args.all (kS ss.length)&&ss.all (kT ss.length)&&kS ss'.length r&&ss'.all (kT ss'.length)
def kindOk:List aH->List aH->Bool
 | [],_=>true
 | _::_,[]=>false
 | .box _::xs,y::ys=>y.isVar&&kindOk xs ys
 | .cn _::xs,y::ys=>y.isVar&&kindOk xs ys
 | .mp _ _::xs,y::ys=>y.isVar&&kindOk xs ys
 | .row _ _ _::xs,.row _ _ _::ys=>kindOk xs ys
 | _,_=>false
theorem n0:∀{ss ss':List aH},kindOk ss ss'=true->∀i,i<ss.length->((getS ss i).isVar=true/\(getS ss' i).isVar=true)\/((∃e sz es,getS ss i=.row e sz es)/\∃e sz es,getS ss' i=.row e sz es)
 | [],_,_,i,hi=>by simp at hi
 | _::_,[],h,_,_=>by simp[kindOk]at h
 | x::xs,y::ys,h,i,hi=>by
  cases i with
  | zero=>
   cases x<;>cases y<;>simp[kindOk,aH.isVar]at h<;>simp[getS,aH.isVar]
  | succ i=>
   have:kindOk xs ys=true:=by
    cases x<;>cases y<;>simp[kindOk,aH.isVar]at h<;>exact h
   exact n0 this i (by simpa using hi)
def zh:T->Prop
 | .d d=>d.Flat
 | .own _ _ ds _=>kH ds
 | _=>True
def jN:aH->Prop
 | .box cs=>∀d∈cs,d.Flat
 | .cn cs=>∀x∈cs,zh x
 | .row _ _ es=>∀x∈es,∀d∈x,D.Flat d
 | .mp _ _=>True
 | .no=>True
theorem iV.flat{w:W'}{ok ok':Nat->Prop}{blk:Nat->Option Nat}{val:Nat->Z3}{s:Nat->aH}{x:T}{v:Z3}(h:iV w ok blk val s x v)(hf:zh x):iV w ok' blk val s x v:=by
 cases x with
 | d d=>exact iN.flat h hf
 | own k r ds F=>
  have⟨h0,vs,h1,h2⟩:=h;exact⟨h0,vs,oq.of h1.length λj d v J hv=>(h1.get j d v J hv).flat (kH.mem hf d (XA J)),h2⟩
 | _=>exact h
theorem ml.flat{w:W'}{ok ok':Nat->Prop}{blk:Nat->Option Nat}{val:Nat->Z3}{s:Nat->aH}{b:Option Nat}{u:Z3}{x:aH}(h:ml w ok blk val s b u x)(hf:jN x):ml w ok' blk val s b u x:=by
 cases x with
 | no=>exact h
 | box cs=>
  have⟨b,e,aK,h1,h2,h3,h4,h5⟩:=h;exact⟨b,e,aK,h1,h2,h3,h4,λj d J=>let ⟨v,hv,Y⟩:=h5 j d J;⟨v,hv,Y.flat (hf d (XA J))⟩⟩
 | cn cs=>
  have⟨b,e,aK,h1,h2,h3,h5⟩:=h;exact⟨b,e,aK,h1,h2,h3,λj y hy=>let ⟨v,hv,ho,Y⟩:=h5 j y hy;⟨v,hv,ho,Y.flat (hf y (XA hy))⟩⟩
 | mp es c=>exact h
 | row e sz es=>
  have⟨h1,h2,h3⟩:=h;exact⟨h1,h2,h3.imp id λ⟨b,aK,cap,k1,k2,k3,k4,k5,k6,k7⟩=>⟨b,aK,cap,k1,k2,k3,k4,k5,k6,λi x j d hi hj=>let ⟨v,hv,Y⟩:=k7 i x j d hi hj;⟨v,hv,Y.flat (hf x (XA hi) d (XA hj))⟩⟩⟩
theorem Dh:∀{ss:List aH},(∀x∈ss,jN x)->∀i,jN (getS ss i)
 | [],_,i=>trivial
 | x::xs,h,0=>h x (by simp)
 | x::xs,h,i+1=>Dh (ss:=xs) (λy hy=>h y (by simp[hy])) i
theorem Gs{ops rest:List Z8}{R:Exit->St->Prop}{ty:Z5}{pos:String}{after:Array Edge}{dst:Option Tmp}{f:ϋ}{ys:List Z6}{at_:Array Z5}{args:List T}{ss ss':List aH}{r:T}(ks rows:List Nat)
  (he:cA P f=true) (Y:TF P f args ss r ss') (hc:sV ks args ss r ss'=true) (Vg:kindOk ss ss'=true) (CJ:rowsOf ks ss 0=rows)
  (hold:∀i,i<ss.length->st.s (nth ks i)=shiftS (nth ks) (getS ss i)) (qW:∀i,ss.length<=i->i<ss'.length->st.s (nth ks i)=.no) (J:(match dst with|none=>true|some d=>Nat.blt d st.n)=true)
  (hA:∀(a:Act) (w:W') (blk:Nat->Option Nat) (val:Nat->Z3),qx w0 st a w blk val->∃vu:Nat->Prop,(∀b,fN w0 blk b->vu b)/\(∀i b,i<ss.length->blk (nth ks i)=some b->¬vu b)/\
   rW w vu (λi=>if i<ss.length then blk (nth ks i) else none) (λi=>val (nth ks i)) (getS ss) args (ys.map a.eval)/\((∀b,vu b->fN w0 blk b)\/((∀x∈ss',jN x)/\zh r)))
  (h:tj P w0 ops rest R ((afterS st ks rows ss').put dst (shiftT (nth ks) r))):tj P w0 ops (⟨dst,.call ⟨.value (.func f),ys.toArray,at_⟩,ty,pos,after,none⟩::rest) R st:=by
 subst CJ;simp only[sV,Xs]at hc;have⟨⟨⟨⟨⟨⟨o9,hkl⟩,hle⟩,hba⟩,J7⟩,hbr⟩,aB9⟩:=hc;have hkl:=Xq hkl;have hle:=Nat.le_of_ble_eq_true hle;refine eG (K:=λs=>s=(afterS st ks (rowsOf ks ss 0) ss').put dst (shiftT (nth ks) r)) E (λa w ⟨blk,val,hh⟩=>?_) (λ_ e=>e ▸ h)
 have AF:∀(ss:List aH) (m i:Nat),ss.all (kT m)=true->kT m (getS ss i)=true:=by
  intro ss
  induction ss with
  | nil=>intro m i _;rfl
  | cons x xs ih=>
   intro m i h;simp only[Ze,Xs]at h
   cases i with
   | zero=>exact h.1
   | succ i=>exact ih m i h.2
 have⟨vu,hA1,hA2,hA3,hA4⟩:=hA a w blk val hh
 let Oj:Nat->Option Nat:=λi=>if i<ss.length then blk (nth ks i) else none
 let aa2:Nat->Z3:=λi=>val (nth ks i)
 have dW:∀k,k<ss.length->Oj k=blk (nth ks k)/\aa2 k=val (nth ks k)/\st.s (nth ks k)=shiftS (nth ks) (getS ss k):=λk hk=>⟨Xu hk,rfl,hold k hk⟩
 have HW:∀i b,Oj i=some b->i<ss.length/\blk (nth ks i)=some b:=λi b h=>by
  simp only[Oj]at h
  split at h
  ·exact⟨by assumption,h⟩
  ·cases h
 have SZ:=Y w vu Oj aa2 (ys.map a.eval) (λi b h=>⟨(hh.new _ _ (HW i b h).2).2,hA2 i b (HW i b h).1 (HW i b h).2⟩)
  (λi j b h1 h2=>RJ o9 (by have:=(HW i b h1).1;omega) (by have:=(HW j b h2).1;omega) (hh.inj _ _ b (HW i b h1).2 (HW j b h2).2)) (λi hi=>Xr (by omega)) (λi=>by
   rcases XP i ss.length with hi|hi
   ·have h1:=hh.site (nth ks i)
    rw[hold i hi]at h1;rw[(dW i hi).1];refine h1.ix (λb _ h=>hA1 b h) λcs ep y hy k hk=>?_;have h2:=AF ss ss.length i J7;rw[ep]at h2;exact dW k (jq (X0.1 h2 y hy) k hk)
   ·rw[sP hi];exact Xr (by omega)) hA3
 refine gO (λc hc=>by cases hc) ?_;unfold Oper.wp;rw[oW (f:=f) (cap:=#[]) E E he];have jF:((ys.map a.eval).toArray:Array Z3)=ys.toArray.map a.eval ++ #[]:=by simp
 rw[jF]at SZ;refine SZ.mono ?_;rintro e w' ⟨v,aI,val',rfl,c1,c2,c4,c5,c6,pK,sL⟩
 let jV:Nat->Option Nat:=λk=>match jR k ks with|some i=>aI i|none=>blk k
 let Nu:Nat->Z3:=λk=>match jR k ks with|some i=>val' i|none=>val k
 have hnN:∀i,i<ss'.length->jV (nth ks i)=aI i/\Nu (nth ks i)=val' i:=λi hi=>by
  have:=vJ o9 (i:=i) (by omega);simp only[jV,Nu,this];exact⟨trivial,trivial⟩
 have Ml:∀k b,jR k ks=none->blk k=some b->¬∃i,Oj i=some b:=λk b hk hb ⟨i,hi⟩=>by
  have e:=hh.inj _ _ b hb (HW i b hi).2;subst e;rw[vJ o9 (by have:=(HW i b hi).1;omega)]at hk;cases hk
 have hNb:∀k b,jV k=some b->(jR k ks=none/\blk k=some b)\/∃i,jR k ks=some i/\aI i=some b:=λk b h=>by
  simp only[jV]at h
  cases hk:jR k ks with
  | none=>rw[hk]at h;exact .inl ⟨rfl,h⟩
  | some i=>rw[hk]at h;exact .inr ⟨i,rfl,h⟩
 have az3:∀b,b<w.heap.size->fN w0 blk b->fN w0 jV b:=λb hb h=>⟨h.1,λk hk=>by
  rcases hNb k b hk with ⟨_,h1⟩|⟨i,_,h1⟩
  ·exact h.2 k h1
  ·rcases c2 i b h1 with ⟨j,hj⟩|h2
   ·exact h.2 _ (HW j b hj).2
   ·omega⟩
 have ai9:(∀b,vu b->fN w0 blk b)->∀b,b<w'.heap.size->((vu b\/w.heap.size<=b)/\∀i,aI i≠some b)->fN w0 jV b:=λhq b _ h=>by
  have h:(fN w0 blk b\/w.heap.size<=b)/\∀i,aI i≠some b:=⟨h.1.imp (hq b) id,h.2⟩;refine⟨h.1.elim (λq=>q.1) λq=>.inr (XQ hh.ext.size q),λk hk=>?_⟩;rcases hNb k b hk with ⟨_,h1⟩|⟨i,_,h1⟩
  ·rcases h.1 with q|q
   ·exact q.2 k h1
   ·have:=(hh.new k b h1).2;omega
  ·exact h.2 i h1
 have pK:∀i,ml w' (fN w0 jV) aI val' (getS ss') (aI i) (val' i) (getS ss' i):=λi=>by
  rcases hA4 with q|⟨q,_⟩
  ·exact(pK i).okw (ai9 q)
  ·exact(pK i).flat (Dh q i)
 have sL:iV w' (fN w0 jV) aI val' (getS ss') r v:=by
  rcases hA4 with q|⟨_,q⟩
  ·exact sL.ok' (ai9 q)
  ·exact sL.flat q
 have ah6:∀b o,fN w0 blk b->w.heap[b]?=some o->w'.heap[b]?=some o:=λb o bg ho=>by
  rw[c6.block b (bI ho) (λ⟨i,hi⟩=>bg.2 _ (HW i b hi).2)];exact ho
 have cr:∀{d:D} {u:Z3},iN w (fN w0 blk) d u->iN w' (fN w0 jV) d u:=λh=>h.cr c6.size ah6 λb hb h=>az3 b hb h
 have FP:∀j i,jR j ks=some i->nth ks i=j/\i<ss'.length:=λj i h=>by
  have⟨h1,h2⟩:=n6 h;exact⟨h2,by omega⟩
 have jB:∀{y:T} {u:Z3},iV w (fN w0 blk) blk val st.s y u->iV w' (fN w0 jV) jV Nu (afterS st ks (rowsOf ks ss 0) ss').s (killT (rowsOf ks ss 0) y) u:=by
  have Hc:∀(ss:List aH) (i j:Nat),j<ss.length->(∃e sz es,getS ss j=.row e sz es)->memN (nth ks (i+j)) (rowsOf ks ss i)=true:=by
   intro ss
   induction ss with
   | nil=>intro i j h;simp at h
   | cons x xs ih=>
    intro i j hj m7
    cases j with
    | zero=>
     have⟨e,sz,es,hx⟩:=m7;simp only[getS]at hx;subst hx;simp[rowsOf,memN]
    | succ j=>
     have:=ih (i+1) j (by simpa using hj) m7;rw[show i+1+j=i+(j+1) by omega]at this
     cases x<;>simp only[rowsOf,memN]<;>first|exact this|(rw[this];simp)
  intro y u h
  cases y with
  | d y=>exact cr h
  | ref k o=>
   simp only[killT]
   cases SP:memN k (rowsOf ks ss 0) with
   | true=>simp only[Yp];trivial
   | false=>
    simp only[XO,YC];have⟨q1,b,q2,q3⟩:=h
    cases hk:jR k ks with
    | none=>
     exact⟨by simp only[afterS,hk];exact dN.1 q1,b,by simp only[jV,hk];exact q2,q3⟩
    | some i=>
     have⟨e1,e2⟩:=FP k i hk
     have qK:i<ss.length:=by
      rcases XP i ss.length with h|h
      · exact h
      · exact absurd (by rw[<-e1];exact qW i h e2) q1
     rcases n0 Vg i qK with ⟨v1,v2⟩|⟨v1,_⟩
     ·refine⟨?_,b,?_,q3⟩
      ·simp only[afterS,hk]
       cases hg:getS ss' i<;>rw[hg]at v2<;>first|(cases v2;done)|simp[shiftS]
      ·simp only[jV,hk]
       rw[c1 i v1,(dW i qK).1,e1];exact q2
     ·have:=Hc ss 0 i qK v1
      rw[XK,e1,SP]at this;cases this
  | rs k=>
   simp only[killT]
   cases SP:memN k (rowsOf ks ss 0) with
   | true=>simp only[Yp];trivial
   | false=>
    simp only[XO,YC];have⟨q1,q3⟩:=h
    cases hk:jR k ks with
    | none=>exact⟨by simp only[afterS,hk];exact dN.2 q1,by simp only[Nu,hk];exact q3⟩
    | some i=>
     have⟨e1,e2⟩:=FP k i hk;obtain⟨e,sz,es,q1⟩:=q1
     have qK:i<ss.length:=by
      rcases XP i ss.length with h|h
      · exact h
      · have:=qW i h e2;rw[e1,q1]at this;cases this
     have Y:∃e sz es,getS ss i=.row e sz es:=by
      have:=hold i qK;rw[e1,q1]at this
      cases hg:getS ss i<;>rw[hg]at this<;>simp[shiftS]at this ⊢
     have:=Hc ss 0 i qK Y;rw[XK,e1,SP]at this;cases this
  | own k r g1 g2=>
   simp only[killT]
   cases SP:memN k (rowsOf ks ss 0) with
   | true=>simp only[Yp];trivial
   | false=>
    simp only[XO,YC];have⟨⟨⟨q0,q1⟩,qo⟩,q3⟩:=h
    cases hk:jR k ks with
    | none=>exact⟨⟨⟨by simp only[afterS,hk];exact dN.1 q0,λY=>by simp only[afterS,hk];exact dN.2 (q1 Y)⟩,qo⟩,by simp only[Nu,jV,hk];exact q3.imp λ_ _ h=>cr h⟩
    | some i=>
     have⟨e1,e2⟩:=FP k i hk
     have qK:i<ss.length:=by
      rcases XP i ss.length with h|h
      · exact h
      · exact absurd (by rw[<-e1];exact qW i h e2) q0
     cases hrr:r.row with
     | true=>
      obtain⟨e,sz,es,q1⟩:=q1 hrr
      have Y:∃e sz es,getS ss i=.row e sz es:=by
       have:=hold i qK;rw[e1,q1]at this
       cases hg:getS ss i<;>rw[hg]at this<;>simp[shiftS]at this ⊢
      have:=Hc ss 0 i qK Y;rw[XK,e1,SP]at this;cases this
     | false=>
      rcases n0 Vg i qK with ⟨v1,v2⟩|⟨v1,_⟩
      ·refine⟨⟨⟨?_,λY=>by rw[hrr]at Y;cases Y⟩,qo⟩,?_⟩
       ·simp only[afterS,hk]
        cases hg:getS ss' i<;>rw[hg]at v2<;>first|(cases v2;done)|simp[shiftS]
       ·simp only[jV,hk,hrr,XJ]at q3 ⊢
        rw[c1 i v1,(dW i qK).1,e1];exact q3.imp λ_ _ h=>cr h
      ·have:=Hc ss 0 i qK v1
       rw[XK,e1,SP]at this;cases this
  | un=>exact h
  | dead=>trivial
 have Uq:∀k,k<ss'.length->jV (nth ks k)=aI k/\Nu (nth ks k)=val' k/\(afterS st ks (rowsOf ks ss 0) ss').s (nth ks k)=shiftS (nth ks) (getS ss' k):=λk hk=>by
  have⟨h1,h2⟩:=hnN k hk;refine⟨h1,h2,?_⟩;simp only[afterS,vJ o9 (i:=k) (by omega)]
 have hH:qx w0 (afterS st ks (rowsOf ks ss 0) ss') a w' jV Nu:=by
  refine⟨⟨c6.os.trans hh.ext.os,c6.tape.trans hh.ext.tape,c6.output.trans hh.ext.output,XQ hh.ext.size c6.size,λk hk hm=>?_⟩,hh.kept λj hj hn=>c6.block j hj (λ⟨i,hi⟩=>hn _ (HW i j hi).2),hh.size,λk b hb=>?_,λi j b hi hj=>?_,λk b hp=>?_,λk=>?_,λt=>jB (hh.tmp t)⟩
  ·have kX:k<w.heap.size:=XD hk hh.ext.size
   have e:=c6.block k kX (λ⟨i,hi⟩=>by
    rcases(hh.new _ _ (HW i k hi).2).1 with q|q
    ·omega
    ·exact hm q)
   exact e.trans (hh.ext.block k hk hm)
  ·rcases hNb k b hb with ⟨_,h1⟩|⟨i,_,h1⟩
   ·exact⟨(hh.new k b h1).1,XD (hh.new k b h1).2 c6.size⟩
   ·refine⟨?_,c4 i b h1⟩
    rcases c2 i b h1 with ⟨j,hj⟩|h2
    ·exact(hh.new _ _ (HW j b hj).2).1
    ·exact .inl (XQ hh.ext.size h2)
  ·rcases hNb i b hi with ⟨n1,h1⟩|⟨i',n1,h1⟩<;>rcases hNb j b hj with ⟨n2,h2⟩|⟨j',n2,h2⟩
   ·exact hh.inj i j b h1 h2
   ·rcases c2 j' b h2 with ⟨q,hq⟩|h3
    ·exact absurd ⟨q,hq⟩ (Ml i b n1 h1)
    ·have:=(hh.new i b h1).2;omega
   ·rcases c2 i' b h1 with ⟨q,hq⟩|h3
    ·exact absurd ⟨q,hq⟩ (Ml j b n2 h2)
    ·have:=(hh.new j b h2).2;omega
   ·have:=c5 i' j' b h1 h2
    subst this;rw[<-(FP i i' n1).1,(FP j i' n2).1]
  ·have⟨q1,q2,q3⟩:=hh.kU k b hp
   cases hk:jR k ks with
   | none=>
    refine⟨by simp only[jV,hk];exact q1,?_,q3⟩;simp only[afterS,hk]
    cases hs:st.s k<;>rw[hs]at q2<;>first|(cases q2;done)|rfl
   | some i=>
    have⟨e1,e2⟩:=FP k i hk
    have qK:i<ss.length:=by
     rcases XP i ss.length with h|h
     ·exact h
     ·have:=qW i h e2;rw[e1]at this;rw[this]at q2;cases q2
    rcases n0 Vg i qK with ⟨v1,v2⟩|⟨⟨e,sz,es,v1⟩,_⟩
    ·refine⟨by simp only[jV,hk];rw[c1 i v1,(dW i qK).1,e1];exact q1,?_,q3⟩
     simp only[afterS,hk]
     cases hg:getS ss' i<;>rw[hg]at v2<;>first|(cases v2;done)|rfl
    ·have:=hold i qK
     rw[e1,v1]at this;rw[this]at q2;cases q2
  ·cases hk:jR k ks with
   | some i=>
    have⟨e1,e2⟩:=FP k i hk;have h1:=pK i;have⟨n1,n2,n3⟩:=Uq i e2;rw[e1]at n1 n2 n3;rw[n1,n2,n3];refine h1.shift (λ_ _ h=>h) λcs ep y hy j hj=>?_;have h2:=AF ss' ss'.length i aB9;rw[ep]at h2;exact Uq j (jq (X0.1 h2 y hy) j hj)
   | none=>
    have hs:=hh.site k;have e0:(afterS st ks (rowsOf ks ss 0) ss').s k=killSite (rowsOf ks ss 0) (st.s k):=by simp only[afterS,hk]
    have e1:jV k=blk k:=by simp only[jV,hk]
    have e2:Nu k=val k:=by simp only[Nu,hk]
    rw[e0,e1,e2];have qN:∀c,blk k=some c->w'.heap[c]?=w.heap[c]?:=λc hc=>c6.block c (hh.new k c hc).2 (Ml k c hk hc)
    cases tY:st.s k with
    | no=>rw[tY]at hs;exact hs
    | box cs'=>
     rw[tY]at hs;have⟨c,e,aK,h1,h2,h3,h4,h5⟩:=hs;exact⟨c,e,aK,h1,by rw[qN c h1];exact h2,h3,h4,λj d J=>let ⟨v,hv,Y⟩:=h5 j d J;⟨v,hv,cr Y⟩⟩
    | cn cs'=>
     rw[tY]at hs;have⟨c,e,aK,h1,h2,h3,h5⟩:=hs;refine⟨c,e,aK,h1,by rw[qN c h1];exact h2,by simpa using h3,λi y hy=>?_⟩;rw[XF]at hy
     cases hi:cs'[i]? with
     | none=>rw[hi]at hy;cases hy
     | some z=>
      rw[hi]at hy;cases hy
      obtain⟨v,hv,ho,Y⟩:=h5 i z hi;exact⟨v,hv,ho,jB Y⟩
    | mp es c=>
     rw[tY]at hs;have⟨c',h1,h2⟩:=hs;exact⟨c',h1,by rw[qN c' h1];exact h2⟩
    | row e sz es=>
     rw[tY]at hs;have⟨h1,h2,h3⟩:=hs;exact⟨h1,h2,h3.imp id λ⟨c,aK,cap,k1,k2,k3,k4,k5,k6,k7⟩=>⟨c,aK,cap,k1,k2,k3,k4,by rw[qN c k1];exact k5,k6,λi x j d hi hj=>let ⟨v,hv,Y⟩:=k7 i x j d hi hj;⟨v,hv,cr Y⟩⟩⟩
 refine⟨_,rfl,jV,Nu,hH.put dst _ v (λd Bl=>?_) (sL.shift (λ_ _ h=>h) λk hk=>Uq k (jq hbr k hk))⟩;subst Bl;simpa [YB,afterS] using J
theorem Gt{ops rest:List Z8}{R:Exit->St->Prop}{ty:Z5}{pos:String}{after:Array Edge}{dst:Option Tmp}{f:ϋ}{ys:List Z6}{at_:Array Z5}{args:List T}{ss ss':List aH}{r:T}(ks rows:List Nat)
  (he:cA P f=true) (Y:TF P f args ss r ss') (ha:zj st.ev (nth ks) ys args) (hc:sV ks args ss r ss'=true) (Vg:kindOk ss ss'=true) (CJ:rowsOf ks ss 0=rows)
  (hold:∀i,i<ss.length->st.s (nth ks i)=shiftS (nth ks) (getS ss i)) (qW:∀i,ss.length<=i->i<ss'.length->st.s (nth ks i)=.no) (J:(match dst with|none=>true|some d=>Nat.blt d st.n)=true)
  (h:tj P w0 ops rest R ((afterS st ks rows ss').put dst (shiftT (nth ks) r))):tj P w0 ops (⟨dst,.call ⟨.value (.func f),ys.toArray,at_⟩,ty,pos,after,none⟩::rest) R st:=
 Gs ks rows he Y hc Vg CJ hold qW J (λa w blk val hh=>⟨fN w0 blk,λ_ h=>h,λi b _ hb bg=>bg.2 _ hb,
  y8 (m:=ss.length) (λy=>hh.ev y) (λ_ _ h=>h) (λk hk=>⟨Xu hk,rfl,hold k hk⟩) ha (by simp only[sV,Xs]at hc;exact hc.1.1.1.2),.inl λ_ h=>h⟩) h
theorem Io{s':St}(hl:Le w0 st s')(h:tj P w0 ops rest R s'):tj P w0 ops rest R st:=λF m hF a w hH=>h F m hF a w (hl a w hH)
def yN(st:St)(f:Nat->Nat):List Nat->List aH->Prop
 | _,[]=>True
 | [],_::_=>False
 | k::ks,x::xs=>st.s k=shiftS f x/\yN st f ks xs
def newS(st:St):List Nat->List aH->List aH->Prop
 | _,_,[]=>True
 | [],_,_::_=>True
 | _::ks,_::xs,_::ys=>newS st ks xs ys
 | k::ks,[],_::ys=>st.s k=.no/\newS st ks [] ys
theorem yN.spec{f:Nat->Nat}:∀{ks:List Nat} {ss:List aH},yN st f ks ss->∀i,i<ss.length->st.s (nth ks i)=shiftS f (getS ss i)
 | _,[],_,i,hi=>by simp at hi
 | [],_::_,h,_,_=>h.elim
 | k::ks,x::xs,h,0,_=>h.1
 | k::ks,x::xs,h,i+1,hi=>yN.spec h.2 i (by simpa using hi)
theorem newS.spec:∀{ks:List Nat} {ss ss':List aH},ks.length=ss'.length->newS st ks ss ss'->∀i,ss.length<=i->i<ss'.length->st.s (nth ks i)=.no
 | _,_,[],_,_,i,_,hi=>by simp at hi
 | [],_,_::_,hl,_,_,_,_=>by simp at hl
 | _::ks,_::xs,_::ys,hl,h,i,h1,h2=>by
  cases i with
  | zero=>simp at h1
  | succ i=>exact newS.spec (ks:=ks) (ss:=xs) (ss':=ys) (by simpa using hl) h i (by simpa using h1) (by simpa using h2)
 | k::ks,[],_::ys,hl,h,i,h1,h2=>by
  cases i with
  | zero=>exact h.1
  | succ i=>exact newS.spec (ks:=ks) (ss:=[]) (ss':=ys) (by simpa using hl) h.2 i (by simp) (by simpa using h2)
theorem Gu{dst:Option Tmp}{f:ϋ}{ys:List Z6}{at_:Array Z5}{args:List T}{ss ss':List aH}{r:T}(ks rows:List Nat)
  (he:cA P f=true) (Y:TF P f args ss r ss') (ha:zj st.ev (nth ks) ys args) (hc:sV ks args ss r ss'=true) (Vg:kindOk ss ss'=true) (CJ:rowsOf ks ss 0=rows)
  (hold:yN st (nth ks) ks ss) (qW:newS st ks ss ss') (J:(match dst with|none=>true|some d=>Nat.blt d st.n)=true)
  (h:tj P w0 ops rest R ((afterS st ks rows ss').put dst (shiftT (nth ks) r))):tj P w0 ops (⟨dst,.call ⟨.value (.func f),ys.toArray,at_⟩,ty,pos,after,none⟩::rest) R st:=
 Gt ks rows he Y ha hc Vg CJ hold.spec (qW.spec (by simp only[sV,Xs]at hc;exact Xq hc.1.1.1.1.1.2)) J h
theorem F3{n:Nat}{rs:List ResultVar}{m:Nat}{r:T}{ss':List aH}{e:Exit}(he:e=.ret\/e=.normal)(ns:List Nat)(Y:JU st rs (nth ns) r)(hs:yN st (nth ns) ns ss')
  (hc:(Nat.beq ns.length ss'.length&&nodupN ns&&firstN n 0 m ns&&kS ss'.length r&&ss'.all (kT ss'.length))=true):VI n rs m r ss' e st:=by
 simp only[Xs]at hc;have⟨⟨⟨⟨h1,h2⟩,h3⟩,h4⟩,h5⟩:=hc
 have:∃ns:List Nat,JU st rs (nth ns) r/\A7 st ns ss'/\ns.length=ss'.length/\nodupN ns=true/\firstN n 0 m ns=true/\kS ss'.length r=true/\ss'.all (kT ss'.length)=true:=
  ⟨ns,Y,hs.spec,Xq h1,h2,h3,h4,h5⟩
 rcases he with rfl|rfl<;>exact this
theorem qx.same{a:Act}{w:W'}{blk:Nat->Option Nat}{val:Nat->Z3}(t:Nat)(ht:t<st.n)(hh:qx w0 st (a.put (some t) (a.tmps.getD t undef)) w blk val):qx w0 st a w blk val:=by
 have:a.put (some t) (a.tmps.getD t undef)=a:=by
  have hs:t<a.tmps.size:=by have:=hh.size;simp[Act.put]at this;omega
  cases a with
  | mk tmps defers=>
   simp only[Act.put,Act.mk.injEq,ZD];simp only at hs;rw[XN,X4 hs];refine Array.ext (by simp) λi h1 h2=>?_;simp only[Zw,Array.getElem_setIfInBounds h2]
   split
   ·rename_i e;subst e;rfl
   ·rfl
 rw[this]at hh;exact hh
theorem nZ(k t o:Nat){cs:List D}(hs:st.s k=.box cs)(ht:st.t t=.ref k o)(hk:Nat.blt k st.n=true)(U0:Nat.blt t st.n=true)(hm:∀b,w0.mine b->w0.ok b):Le w0 st ((headSt st [k] [] []).put (some t) (.d (.pt cs o))):=by
 intro a w ⟨blk,val,hh⟩;have hH:qx w0 (headSt st [k] [] []) a w (dI [k] [] blk) val:=zv (ms:=[]) (Out.refl st) (by simp) (by simp) (by intro k h;cases h) (by intro p h;cases h) rfl (by simpa using hk) hh;have h1:=hh.tmp t;rw[ht]at h1;have⟨_,b,hb,hv⟩:=h1;have h2:=hh.site k;rw[hs]at h2;have⟨b',e,aK,bY,cV,eQ,jO,hc⟩:=h2;rw[hb]at bY;cases bY
 have bg:∀c,fN w0 blk c->fN w0 (dI [k] [] blk) c:=λc ⟨q1,q2⟩=>⟨q1,λj hj=>by
  simp only[dI,lookN]at hj
  cases hm:memN j [k]<;>rw[hm]at hj
  ·exact q2 j hj
  ·cases hj⟩
 have MT:fN w0 (dI [k] [] blk) b:=by
  refine⟨(hh.new k b hb).1.elim .inr (λh=>.inl (hm b h)),λj hj=>?_⟩;simp only[dI,lookN]at hj
  cases hmj:memN j [k]<;>rw[hmj]at hj
  ·have:=hh.inj j k b hj hb
   subst this;simp[memN]at hmj
  ·cases hj
 rw[YB]at U0;refine⟨_,_,qx.same t U0 (gN (v:=a.tmps.getD t undef) hH U0 ?_)⟩;show iN w _ (.pt cs o) _
 have:=iN.pt (w:=w) (ok:=fN w0 (dI [k] [] blk)) cs o b 0 (λj=>aK.getD j undef) (bI cV) MT jO (λj d hj=>by
  obtain⟨v,h1,h2⟩:=hc j d hj;rw[cell_of_block cV];simp[XN,h1]) (λj d hj=>by
  obtain⟨v,h1,h2⟩:=hc j d hj;simp only[XN,h1]
  exact h2.ok λ_ _ h=>bg _ h)
 rw[hv];simpa using this
theorem Out.sN{ts TV ms:List Nat}{s s0:St}{sl:List (Nat × T)}{ss:List (Nat × aH)}(hO:Out ts ms s s0)(h:TV.all (λt=>memN t ts)=true)(h1:pH ts sl=true)(h2:pH (ts++ms) ss=true):Out ts ms (headSt s TV sl ss) s0:=by
 have n7:∀t,memN t TV=true->memN t ts=true:=λt ht=>qw ht h
 have eW:∀t,memN t ts=false->memN t TV=false:=λt ht=>by
  rw[<-XT];intro e;rw[n7 t e]at ht;cases ht
 have hk:∀ks:List Nat,(∀j,memN j ks=true->memN j ts=true)->∀j,memN j (ks++TV)=true->memN j ts=true:=λks Bj j hj=>by
  rw[lz,X3]at hj;rcases hj with hj|hj
  ·exact Bj j hj
  ·exact n7 j hj
 refine⟨hO.n,λt ht=>?_,λt ht hm=>?_⟩
 ·have⟨ks,Bj,e⟩:=hO.t t ht
  exact⟨ks++TV,hk ks Bj,by simp only[headSt,iI ht h1,eW t ht,XJ];rw[e,n4]⟩
 ·have⟨ks,Bj,e⟩:=hO.s t ht hm
  have hn:memN t (ts++ms)=false:=by rw[lz,ht,hm];rfl
  exact⟨ks++TV,hk ks Bj,by simp only[headSt,iI hn h2,eW t ht,XJ];rw[e,lY]⟩
structure fJ(w:W')(ok:Nat->Prop)(blk:Nat->Option Nat)(val:Nat->Z3)(s:Nat->aH)(cs:List T)(vs:List Z3):Prop where
 len:vs.length=cs.length
 at_:∀(j:Nat) (x:T),cs[j]?=some x->∃v,vs[j]?=some v/\v.oneCell'=true/\iV w ok blk val s x v
theorem fJ.of{w:W'}{ok:Nat->Prop}{blk:Nat->Option Nat}{val:Nat->Z3}{s:Nat->aH}{cs:List D}{vs:List Z3}(h:oq w ok cs vs)(hs:oU cs):fJ w ok blk val s (cs.map T.d) vs:=
 ⟨by rw[Xo];exact h.length,λj x hx=>by
  rw[XF]at hx;cases hj:cs[j]? with
  | none=>rw[hj]at hx;cases hx
  | some d=>
     rw[hj]at hx;cases hx
     obtain⟨v,hv,Y⟩:=h.at_ hj
     exact⟨v,hv,Y.one (hs d (XA hj)),Y⟩⟩
theorem fJ.set{w:W'}{ok:Nat->Prop}{blk:Nat->Option Nat}{val:Nat->Z3}{s:Nat->aH}{cs xs:List T}{vs us:List Z3}{o:Nat}(h:fJ w ok blk val s cs vs)(h':fJ w ok blk val s xs us)(ho:o+xs.length<=cs.length) :
  fJ w ok blk val s (mj cs o xs) (vs.take o++us++vs.drop (o+us.length)):=by
 have h1:=h.len;have h2:=h'.len;refine⟨by simp[mj];omega,λj z hz=>?_⟩;rcases ia (by omega) hz with ⟨q1,q⟩|⟨q1,q2,q⟩|⟨q1,q⟩
 ·obtain⟨v,hv,r⟩:=h.at_ j z q
  exact⟨v,eL (by omega) (.inl ⟨q1,hv⟩),r⟩
 ·obtain⟨v,hv,r⟩:=h'.at_ _ z q
  exact⟨v,eL (by omega) (.inr (.inl ⟨q1,by omega,hv⟩)),r⟩
 ·obtain⟨v,hv,r⟩:=h.at_ j z q
  exact⟨v,eL (by omega) (.inr (.inr ⟨by omega,hv⟩)),r⟩
def fillT(pl:Nat->Option (Nat × Nat))(cs:List T):List (Nat × List T)->List T
 | []=>cs
 | (i,xs)::ps=>match pl i with
  | some (off,_)=>fillT pl (mj cs off xs) ps
  | none=>[]
def rl(pl:Nat->Option (Nat × Nat))(m:Nat):List (Nat × List T)->Prop
 | []=>True
 | (i,xs)::ps=>(match pl i with|some (off,sz)=>xs.length=sz/\off+sz<=m|none=>False)/\rl pl m ps
inductive pQ(ev:Z6->T):List (Nat × Z6)->List (Nat × List T)->Prop
 | nil:pQ ev [] []
 | one {i:Nat} {y:Z6} {ys:List (Nat × Z6)} {x:T} {xs:List (Nat × List T)} (h:ev y=x) (hx:x.one=true) (hs:pQ ev ys xs):pQ ev ((i,y)::ys) ((i,[x])::xs)
 | agg {i:Nat} {y:Z6} {ys:List (Nat × Z6)} {cs:List D} {xs:List (Nat × List T)} (h:ev y=.d (.agg cs)) (hs:pQ ev ys xs):pQ ev ((i,y)::ys) ((i,cs.map T.d)::xs)
theorem zH{cs xs:List T}{o:Nat}(h:o+xs.length<=cs.length):(mj cs o xs).length=cs.length:=by
 simp[mj];omega
theorem JC{w:W'}{blk:Nat->Option Nat}{val:Nat->Z3}{a:Act}{ok:Nat->Prop}{s:Nat->aH}{ev:Z6->T}(fq:∀y,iV w ok blk val s (ev y) (a.eval y))(eT:∀k,ml w ok blk val s (blk k) (val k) (s k)){pl:Nat->Option (Nat × Nat)}:∀{ys:List (Nat × Z6)} {xs:List (Nat × List T)} {cs:List T} {cells:Array Z3},pQ ev ys xs->fJ w ok blk val s cs cells.toList->rl pl cs.length xs->
  ∃out,Instr.fill pl cells (ys.map λ(i,y)=>(i,a.eval y))=some out/\fJ w ok blk val s (fillT pl cs xs) out.toList:=by
 have step:∀{ys:List (Nat × Z6)} {xs:List (Nat × List T)} {cs:List T} {cells:Array Z3} {i:Nat} {y:Z6} {z:List T},fJ w ok blk val s z (a.eval y).cells.toList->fJ w ok blk val s cs cells.toList->rl pl cs.length ((i,z)::xs)->
   (∀{cs:List T} {cells:Array Z3},fJ w ok blk val s cs cells.toList->rl pl cs.length xs->∃out,Instr.fill pl cells (ys.map λ(i,y)=>(i,a.eval y))=some out/\fJ w ok blk val s (fillT pl cs xs) out.toList)->
   ∃out,Instr.fill pl cells (((i,y)::ys).map λ(i,y)=>(i,a.eval y))=some out/\fJ w ok blk val s (fillT pl cs ((i,z)::xs)) out.toList:=by
  intro ys xs cs cells i y z hz hc bg ih;have⟨h1,h2⟩:=bg
  cases hp:pl i with
  | none=>simp only[hp]at h1
  | some os=>
   have⟨off,sz⟩:=os;simp only[hp]at h1;have hlen:=hz.len;have kY:=hc.len;simp only[YD]at hlen kY;have U2:=ni off (a.eval y).cells.toList 0 cells (by simp;omega);simp only[YI,YD]at U2
   have Na:((a.eval y).cells.zipIdx.foldl (λcs (x:Z3 × Nat)=>cs.setIfInBounds (off+x.2) x.1) cells)=(((a.eval y).cells.toList.zipIdx 0).foldl (λcs (x:Z3 × Nat)=>cs.setIfInBounds (off+x.2) x.1) cells):=by
    rw[<-Zb];simp
   obtain⟨out,k1,k2⟩:=ih (cs:=mj cs off z) (cells:=((a.eval y).cells.zipIdx.foldl (λcs (x:Z3 × Nat)=>cs.setIfInBounds (off+x.2) x.1) cells)) (by
    rw[Na,U2];have:=hc.set hz (o:=off) (by omega)
    simpa using this) (by rw[zH (by omega)];exact h2)
   refine⟨out,?_,by simpa [fillT,hp] using k2⟩;simp only[Yd,Instr.fill,hp];rw[Xr (by simp;omega)];exact k1
 intro ys xs cs cells hp
 induction hp generalizing cs cells with
 | nil=>exact λhc _=>⟨cells,rfl,hc⟩
 | one h hx hs ih=>
  rename_i i y ys x xs;intro hc bg;have Y:iV w ok blk val s x (a.eval y):=h ▸ fq y;have h1:=Y.one eT hx;refine step ⟨by rw[sD h1];rfl,λj u hu=>?_⟩ hc bg λtE vN=>ih tE vN;rw[sD h1]
  cases j with
  | zero=>simp at hu;subst hu;exact⟨_,rfl,h1,Y⟩
  | succ j=>simp at hu
 | agg h hs ih=>
  rename_i i y ys ds xs;intro hc bg;have Y:iN w ok (.agg ds) (a.eval y):=by have:=fq y;rw[h]at this;exact this
  obtain⟨hL,jO⟩:=il Y (.inr ⟨_,rfl⟩);exact step (fJ.of hL λd J=>by have⟨j,hj⟩:=YH J;exact jO j d hj) hc bg λtE vN=>ih tE vN
theorem run_build{g:Option (Nat × Bool)}{t:Z5}{pl:List (Nat × Nat)}{z:Z3}{parts:List (Nat × Z6)}{ev:Z6->Z3}{out:Array Z3}{w:W'}(hp:uu P t pl=true)(hz:eC P t z)(hf:Instr.fill (pl[·]?) z.cells (parts.map λ(i,y)=>(i,ev y))=some out) :
  (execOp ev ⟨dst,.build t parts.toArray,ty,pos,after,g⟩).run P w=.ok (.value (.agg out)) w:=by
 unfold uu at hp
 cases hu:P.underlying t with
 | none=>simp[hu]at hp
 | some d=>
  cases d<;>simp only[hu,XO]at hp
  rename_i fs;simp only[Xs,beq_iff_eq]at hp
  have hm:(fs.mapM λf=>(do pure (f.offset,<-sizeOf f.type):Sem (Nat × Nat))).run P w=.ok pl.toArray w:=by
   rw[<-hp.1];have:=run_places (P:=P) w fs.toList hp.2;have he:(λf:Field=>(do pure (f.offset,<-sizeOf f.type):Sem (Nat × Nat)))=λf=>Functor.map (Prod.mk f.offset) (sizeOf f.type):=by funext f;rw[<-bind_pure_comp]
   rw[he]
   conv=>lhs;rw[<-Array.toArray_toList (xs:=fs)]
   rw[List.mapM_toArray];simp[this]
  have QV:(λi=>(pl.toArray[i]?:Option (Nat × Nat)))=(λi:Nat=>pl[i]?):=by funext i;simp
  simp only[execOp,Instr.build,Sem.run_bind,iE hz,Result.andThen_ok,run_underlying hu,hm];have:(parts.toArray.map λ(x:Nat × Z6)=>(x.1,ev x.2)).toList=parts.map λ(i,y)=>(i,ev y):=by simp
  rw[this];simp only[QV,hf];simp
theorem Out.called{ts ms:List Nat}{s s0:St}{ks rows:List Nat}{ss':List aH}(hO:Out ts ms s s0)(h1:ks.all (λk=>memN k (ts++ms))=true)(h2:rows.all (λk=>memN k ts)=true):Out ts ms (afterS s ks rows ss') s0:=by
 have hk:∀js:List Nat,(∀j,memN j js=true->memN j ts=true)->∀j,memN j (js++rows)=true->memN j ts=true:=λjs hjs j hj=>by
  rw[lz,X3]at hj;rcases hj with hj|hj
  ·exact hjs j hj
  ·exact qw (p:=λk=>memN k ts) hj h2
 refine⟨hO.n,λt ht=>?_,λt ht hm=>?_⟩
 ·have⟨js,hjs,e⟩:=hO.t t ht
  exact⟨js++rows,hk js hjs,by simp only[afterS];rw[e,n4]⟩
 ·have⟨js,hjs,e⟩:=hO.s t ht hm
  refine⟨js++rows,hk js hjs,?_⟩
  have hn:jR t ks=none:=by
   cases hq:jR t ks with
   | none=>rfl
   | some i=>
    exfalso
    have az7:t∈ks:=by
     have⟨hi,hv⟩:=n6 hq;clear h1 hq
     induction ks generalizing i with
     | nil=>simp at hi
     | cons x xs ih=>
      cases i with
      | zero=>exact Xy.2 (.inl hv.symm)
      | succ i=>exact Yc _ (ih i (by simpa using hi) hv)
    have:=X0.1 h1 t az7;rw[lz,ht,hm]at this;cases this
  simp only[afterS,hn];rw[e,lY]
inductive Ef:List (List D)->List (List D)->Prop
 | nil:Ef [] []
 | cons {d d':List D} {ds Pg:List (List D)} (h:Bb d d') (hs:Ef ds Pg):Ef (d::ds) (d'::Pg)
theorem aF{y:Z6}{v:Z3}(h:ev y=.d (.v v):=by rfl):QOp P w0 n s ev ⟨dst,.move y,ty,pos,after,g⟩ (.d (.v v)):=aq h
theorem aA{y:Z6}{v:Z3}(h:ev y=.d (.v v):=by rfl):QOp P w0 n s ev ⟨dst,.assign y,ty,pos,after,g⟩ (.d (.v v)):=aG h
theorem rn{st st':St}{l ops:List Z8}{i:Nat}{e:Nat->T}{R:Exit->St->Prop}(h:R .normal st'):wK P w0 st l n [] i e st' (λu=>tj P w0 ops [] R u):=aw (ai h)
theorem xc{st st':St}{l ops:List Z8}{i:Nat}{e:Nat->T}{x:Code}{R Q:Exit->St->Prop}(h:dG P w0 x R st'):wK P w0 st l n [] i e st' (λu=>tj P w0 ops [] (ta (λu=>dG P w0 x R u) Q) u):=aw (ai h)
theorem xk{st:St}{x:Code}{R Q:Exit->St->Prop}(h:dG P w0 x R st):dG P w0 .skip (ta (λu=>dG P w0 x R u) Q) st:=wO h
theorem xq{st:St}{x y:Code}{R Q:Exit->St->Prop}(h:dG P w0 x (ta (λu=>dG P w0 y R u) R) st):ta (λu=>dG P w0 (.seq x y) R u) Q .normal st:=ae h
theorem xi{x:Int}(h1 : -9223372036854775808<=x:=by omega)(h2:x<=9223372036854775807:=by omega):lL x:=⟨h1,h2⟩
theorem cS{st:St}{t:Tmp}{d:D}(h:UF st.s (st.t t) d:=by exact .d _):rU P st [.tmp t] [d]:=.cons (.tmp h) .nil
theorem gz{st:St}{t u:Tmp}{d f:D}(h:UF st.s (st.t t) d:=by exact .d _)(h':UF st.s (st.t u) f:=by exact .d _):rU P st [.tmp t,.tmp u] [d,f]:=.cons (.tmp h) (.cons (.tmp h') .nil)
theorem xk3{st:St}{t u v:Tmp}{d f j:D}(h:UF st.s (st.t t) d:=by exact .d _)(h':UF st.s (st.t u) f:=by exact .d _)(h2:UF st.s (st.t v) j:=by exact .d _):rU P st [.tmp t,.tmp u,.tmp v] [d,f,j]:=.cons (.tmp h) (.cons (.tmp h') (.cons (.tmp h2) .nil))
theorem xh{ts ms:List Nat}{s s0:St}{sl:List (Nat × T)}{ss:List (Nat × aH)}(hO:Out ts ms s s0)(h1:AllT s sl)(h2:JX s ss)(h3:Mg ts ss ms=true:=by rfl)(h4:slOk ts ss sl=true:=by rfl)(h5:ssOk ts ss ss=true:=by rfl)(h6:ts.all (λt=>Nat.blt t s.n)=true:=by rfl):Le w0 s (headSt s0 ts sl ss):=le_head hO h1 h2 h3 h4 h5 h6
theorem rs{st st':St}{l ops:List Z8}{i:Nat}{e:Nat->T}{x y:Code}{R Q:Exit->St->Prop}(h:dG P w0 x (ta (λu=>dG P w0 y R u) R) st'):wK P w0 st l n [] i e st' (λu=>tj P w0 ops [] (ta (λu=>dG P w0 (.seq x y) R u) Q) u):=aw (ai (ae h))
def LZ(P:Z4)(w0:Cx)(st:St)(o:Z8)(st':St):Prop:=∀a w,Holds w0 st a w->OW P w0 o a w (λa' w'=>Holds w0 st' a' w')
theorem cp{st st':St}{o:Z8}(hg:o.guard=none)(h:∀(ops rest:List Z8) (R:Exit->St->Prop),tj P w0 ops rest R st'->tj P w0 ops (o::rest) R st):LZ P w0 st o st':=by
 intro a w hH F m hF;have h1:=h [] [] (λe s=>e=.normal/\s=st') (ai ⟨rfl,rfl⟩) F m hF a w hH;unfold wpListIn at h1;rw[Xu (by simp[Region.wanted,hg])]at h1;obtain⟨h0,h1⟩:=h1;refine⟨h0,?_⟩;generalize (o.semAt F.round a.eval).run P w=r at *;unfold Oper.uponIn at *
 split<;>simp_all [wpListIn,Post]
 all_goals first
  | exact h1.2.mono λe w' h => by
     cases e with
     | returned v=>simpa using h
     | panicked c=>simp at h
     | outgrown=>have⟨_,_,_,hR,_⟩:=h;cases hR.1
  | skip
def depF(l:List Z8):Nat->Nat->Nat->Bool
 | 0,_,_=>false
 | f+1,i,p=>match l[i]? with
  | some o=>o.after.toList.any λe=>Region.binds .any e&&(Nat.beq e.on p||depF l f e.on p)
  | none=>false
def Rv(l:List Z8)(i p:Nat):Bool:=depF l (i+1) i p
def gl(ks:List (Option Nat))(p:Nat):Option Nat:=(ks[p]?).bind id
def siteGo(st:St)(ks:List (Option Nat))(zs:Nat->aH)(L:Nat->Bool)(k:Nat):Nat->aH
 | 0=>st.s k
 | p+1=>if L p=true/\gl ks p=some k then zs p else siteGo st ks zs L k p
def hidGo(l:List Z8)(ks:List (Option Nat))(i:Nat):Nat->List Nat
 | 0=>[]
 | p+1=>match gl ks p with
  | some k=>if (Nat.blt p i&&Rv l i p)||Nat.beq p i||(Nat.blt i p&&Rv l p i) then hidGo l ks i p else k::hidGo l ks i p
  | none=>hidGo l ks i p
def visT(H:List Nat):T->Bool
 | .ref _ _=>false
 | .rs k=>!memN k H
 | .own _ _ _ _=>false
 | _=>true
def hidS(H:List Nat):aH->aH
 | .cn cs=>if cs.all (visT H)=true then .cn cs else .no
 | x=>x
def hidT(s:Nat->aH):T->T
 | .ref k o=>match s k with|.no=>.dead|_=>.ref k o
 | .rs k=>match s k with|.no=>.dead|_=>.rs k
 | .own k r f g=>match s k with|.no=>.dead|_=>.own k r f g
 | x=>x
def mP(st:St)(l:List Z8)(ks:List (Option Nat))(zs:Nat->aH)(n i:Nat):Nat->aH:=λk=>
 if memN k (hidGo l ks i n)=true then .no else hidS (hidGo l ks i n) (siteGo st ks zs (gd i) k n)
def mq(st:St)(l:List Z8)(n:Nat)(xs:Nat->T)(ks:List (Option Nat))(zs:Nat->aH)(i:Nat)(o:Z8)(gs:List (Nat × Bool)):Z6->T:=λy=>hidT (mP st l ks zs n i) (evAt st l n xs i o gs y)
def MOp(P:Z4)(w0:Cx)(n:Nat)(s:Nat->aH)(ev:Z6->T)(o:Z8)(k:Nat)(z:aH)(x:T):Prop:=
 ∀st,Sub s ev st.s->st.s k=s k->st.n=n->(∀y,ev y=.dead\/st.ev y=ev y)->(∀d,o.dst=some d->d<n)->LZ P w0 st o ((st.site k z).put o.dst x)
def Gz(P:Z4)(w0:Cx)(st:St)(l:List Z8)(n:Nat)(xs:Nat->T)(ks:List (Option Nat))(zs:Nat->aH)(i:Nat)(o:Z8)(gs:List (Nat × Bool))(x:T):Prop:=
 (gl ks i=none/\(QOp P w0 st.n (mP st l ks zs n i) (mq st l n xs ks zs i o gs) o x\/
  ∃tc a b jc cb p q,o.op=.pick (.tmp tc) a b/\cw l n tc=some jc/\dS o jc=true/\xs jc=T.bool cb/\evAt st l n xs i o gs (.tmp tc)=T.bool cb/\
   evAt st l n xs i o ((jc,true)::gs) a=T.bool p/\evAt st l n xs i o ((jc,false)::gs) b=T.bool q/\x=T.bool (bif cb then p else q)))\/
 ∃k,gl ks i=some k/\o.guard=none/\memN k (hidGo l ks i n)=false/\siteGo st ks zs (gd i) k n=mP st l ks zs n i k/\MOp P w0 st.n (mP st l ks zs n i) (mq st l n xs ks zs i o gs) o k (zs i) x
theorem nR{st:St}{ks:List (Option Nat)}{z zs:Nat->aH}{i k:Nat}(hz:∀p,p<i->z p=zs p):∀{m:Nat},siteGo st ks z (gd i) k m=siteGo st ks zs (gd i) k m
 | 0=>rfl
 | m+1=>by
  unfold siteGo;by_cases hm:m<i
  ·rw[hz m hm,nR hz]
  ·have:gd i m=false:=by simp[gd,hm]
   rw[this,Xr (by simp),Xr (by simp),nR hz]
theorem Gz.congr{st:St}{l:List Z8}{n i:Nat}{e xs:Nat->T}{ks:List (Option Nat)}{z zs:Nat->aH}{o:Z8}{gs:List (Nat × Bool)}{x:T}{N:Nat}(h:vX l n N=true)(hi:i<n)(ho:l[i]?=some o)
  (he:∀p,p<i->e p=xs p) (hz:∀p,p<=i->z p=zs p) (hS:Gz P w0 st l n e ks z i o gs x):Gz P w0 st l n xs ks zs i o gs x:=by
 have QT:mP st l ks z n i=mP st l ks zs n i:=funext λk=>by unfold mP;rw[nR λp hp=>hz p (by omega)]
 have fq:mq st l n e ks z i o gs=mq st l n xs ks zs i o gs:=funext λy=>by unfold mq;rw[QT,fI h hi ho he]
 rcases hS with ⟨hk,hS⟩|⟨k,hk,hg,hv,hs,hm⟩
 ·refine .inl ⟨hk,?_⟩
  rcases hS with hq|⟨tc,ya,yb,jc,cb,p,q,cF,hpj,hab,hx,hc,ha,hb,Y⟩
  ·exact .inl (by rw[<-QT,<-fq];exact hq)
  ·have⟨ed,hed,Rb,hj⟩:=dp hab
   have:=dZ h hi ho ed hed Rb;refine .inr ⟨tc,ya,yb,jc,cb,p,q,cF,hpj,hab,by rw[<-he jc (by omega)];exact hx,?_,?_,?_,Y⟩
   ·rw[<-fI h hi ho he];exact hc
   ·rw[<-fI h hi ho he];exact ha
   ·rw[<-fI h hi ho he];exact hb
 ·exact .inr ⟨k,hk,hg,hv,by rw[<-QT,<-nR λp hp=>hz p (by omega)];exact hs,by rw[<-QT,<-fq,<-hz i (Xw _)];exact hm⟩
theorem kv{st:St}{y:Z6}{x:T}(fq:∀y,ev y=.dead\/st.ev y=ev y)(hy:ev y=x)(hx:x≠.dead):st.ev y=x:=by
 rcases fq y with e|e
 ·rw[e]at hy;exact absurd hy.symm hx
 ·rw[e];exact hy
variable{H:Type}{enc:Z5 × Z3->H}{w:W'}{base:Nat}{spare:Nat->Bool}{held:Bool}
abbrev lx:Nat->Prop:=λ_=>True
def Reads(enc:Z5 × Z3->H)(P:Z4)(w:W')(base:Nat)(spare:Nat->Bool)(held:Bool)(t:Z5){α:Type}(C:α->List D)(jU:α->Prop):Prop:=
 ∀(fuel:Nat) (cs:List Z3) (x:DataW H × List MemPlace),DataW.trod enc P w base spare held fuel t cs=some x->∃a,jU a/\oq w lx (C a) cs/\∀d∈C a,d.sc=true
theorem IW{t:Z5}{k:IntKind}(ht:P.underlying t=some (.int k)):Reads enc P w base spare held t (λn:Int=>[.v (.int k n)]) (λn=>(Lit.int k n).wf=true):=by
 intro fuel cs x h;obtain⟨n,rfl,_,hw⟩:=DataW.trod_int ht h;exact⟨n,hw,⟨.v _ E,trivial⟩,by simp[D.sc]⟩
theorem km{t e:Z5}{sz:Nat}{α:Type}{C:α->List D}{jU:α->Prop}(ht:P.underlying t=some (.slice e))(eQ:P.cellsOf e=sz)(vL:0<sz)(hC:∀a,(C a).length=sz)(hE:Reads enc P w base spare held e C jU) :
  Reads enc P w base spare held t (λl:List α=>[.sl sz (l.map C)]) (λl=>∀a∈l,jU a):=by
 intro fuel cs x h;rcases Deep.open_slice ht h with ⟨rfl,_⟩|⟨a,len,cap,m,n,D',Pl,rfl,hb,hl,hm,hmm,rfl,hx⟩
 ·exact⟨[],(λa h=>by cases h),⟨.emp _ _ _ (XC _),trivial⟩,by simp[D.sc]⟩
 ·have WU:len<=m:=by rw[hmm];split<;>omega
  by_cases h0:len=0
  ·subst h0
   exact⟨[],(λa h=>by cases h),⟨.emp _ _ _ hm,trivial⟩,by simp[D.sc]⟩
  have each:∀i,i<len->∃p:α × List Z3,jU p.1/\oq w lx (C p.1) p.2/\(∀d∈C p.1,d.sc=true)/\w.cells? base (a.add (i*P.cellsOf e)) (P.cellsOf e)=some p.2:=λi hi=>by
   obtain⟨cs',h1,h2⟩:=hx i (by omega);obtain⟨y,g,r,s⟩:=hE _ _ _ h2;exact⟨(y,cs'),g,r,s,h1⟩
  obtain⟨p0,-⟩:=each 0 (by omega)
  haveI:Inhabited (α × List Z3):=⟨p0⟩
  have⟨f,hf⟩:=Deep.choose_lt each;rw[eQ]at hf;have⟨b,off,spot⟩:=a;obtain⟨_,SO,hc0⟩:=World.cells?_some (hf 0 (by omega)).2.2.2
  have ai5:spot=none:=by
   have h1:=hc0 0 vL;rw[Xp (by omega)]at h1;simpa [Addr.add] using World.cell?_spot h1
  subst ai5;refine⟨(List.range len).map λi=>(f i).1,λy hy=>?_,⟨?_,trivial⟩,by simp[D.sc]⟩
  ·obtain⟨i,hi,rfl⟩:=X6.1 hy
   exact(hf i (YJ.1 hi)).1
  ·have oL:∀(i:Nat) (e':List D),((List.range len).map λi=>(f i).1).map C=((List.range len).map λi=>C (f i).1):=λ_ _=>by rw[List.map_map];rfl
   rw[oL 0 []]
   have Bm:∀(i:Nat) (e':List D),((List.range len).map λi=>C (f i).1)[i]?=some e'->i<len/\e'=C (f i).1:=λi e' hi=>by
    rw[XF]at hi;by_cases rY:i<len
    ·rw[Y4 rY]at hi;cases hi;exact⟨rY,rfl⟩
    ·rw[List.getElem?_eq_none (by simp;omega)]at hi;cases hi
   have:=iN.sl (w:=w) (ok:=lx) sz ((List.range len).map λi=>C (f i).1) b off cap (λi j=>(f i).2.getD j undef) (by
    have h1:=hc0 0 vL;rw[Xp (by omega)]at h1;have⟨o,ho⟩:=me h1
    simpa [Addr.add] using bI ho) trivial (by simpa using hl) hm
    (λi e' hi=>by obtain⟨_,rfl⟩:=Bm i e' hi;exact hC _)
    (λi e' j d hi J=>by obtain⟨h1,rfl⟩:=Bm i e' hi;exact(hf i h1).2.2.1 d (XA J))
    (λi e' j d hi J=>by
     obtain⟨h1,rfl⟩:=Bm i e' hi;have⟨_,h2,h3⟩:=World.cells?_some (hf i h1).2.2.2;have hj:j<sz:=by have:=(Xt.1 J).1;rw[hC]at this;exact this
     have h4:=h3 j hj;rw[WideShapes.add_plain,WideShapes.add_plain]at h4
     rw[h4,X1,Xp (by omega)];rfl)
    (λi e' j d hi J=>by
     obtain⟨h1,rfl⟩:=Bm i e' hi;obtain⟨v,hv,Y⟩:=(hf i h1).2.1.at_ J
     rw[X1,hv];exact Y)
   simpa using this
theorem Reads.map{t:Z5}{α β:Type}{C:α->List D}{C':β->List D}{jU:α->Prop}{C5:β->Prop}(g:α->β)(h:Reads enc P w base spare held t C jU)(hg:∀a,jU a->C' (g a)=C a/\C5 (g a)):Reads enc P w base spare held t C' C5:=by
 intro fuel cs x hx;have⟨a,h1,h2,h3⟩:=h fuel cs x hx;have⟨k1,k2⟩:=hg a h1;exact⟨g a,k2,k1 ▸ h2,k1 ▸ h3⟩
def ap4(enc:Z5 × Z3->H)(P:Z4)(w:W')(base:Nat)(spare:Nat->Bool)(held:Bool)(n:Nat):List (Z5 × Nat)->List Z3->Prop
 | [],_=>True
 | (t,s)::ts,cs=>(∃x,DataW.trod enc P w base spare held n t (cs.take s)=some x)/\ap4 enc P w base spare held n ts (cs.drop s)
def sumSz:List (Z5 × Nat)->Nat
 | []=>0
 | (_,s)::ts=>s+sumSz ts
def A8(enc:Z5 × Z3->H)(P:Z4)(w:W')(base:Nat)(spare:Nat->Bool)(held:Bool)(ts:List (Z5 × Nat)){α:Type}(C:α->List D)(jU:α->Prop):Prop:=
 ∀(n:Nat) (cs:List Z3),cs.length=sumSz ts->ap4 enc P w base spare held n ts cs->∃a,jU a/\oq w lx (C a) cs/\∀d∈C a,d.sc=true
theorem u3:A8 enc P w base spare held [] (λ_:Unit=>[]) (λ_=>True):=by
 intro n cs hl _;have:cs=[]:=YQ.1 hl;subst this;exact⟨(),trivial,trivial,by simp⟩
theorem bN{t:Z5}{s:Nat}{ts:List (Z5 × Nat)}{α β:Type}{C:α->List D}{C':β->List D}{jU:α->Prop}{C5:β->Prop}(h:Reads enc P w base spare held t C jU)(hs:A8 enc P w base spare held ts C' C5) :
  A8 enc P w base spare held ((t,s)::ts) (λp:α × β=>C p.1++C' p.2) (λp=>jU p.1/\C5 p.2):=by
 intro n cs hl ⟨⟨x,hx⟩,hc⟩;simp only[sumSz]at hl;obtain⟨a,a1,a2,a3⟩:=h n _ x hx;obtain⟨b,b1,b2,b3⟩:=hs n (cs.drop s) (by simp;omega) hc;refine⟨(a,b),⟨a1,b1⟩,?_,λd J=>?_⟩
 ·have:=a2.append b2
  rwa [List.take_append_drop]at this
 ·rcases YV.1 J with J|J
  ·exact a3 d J
  ·exact b3 d J
def fieldsB(P:Z4):Nat->List Field->List (Z5 × Nat)->Bool
 | _,[],[]=>true
 | o,f::fs,(t,s)::ts=>Nat.beq f.offset o&&Nat.beq f.type t&&Nat.beq (P.cellsOf t) s&&fieldsB P (o+s) fs ts
 | _,_,_=>false
theorem pa{n:Nat}{cs:List Z3}:∀{ts:List (Z5 × Nat)} {fs:List Field} {o:Nat},fieldsB P o fs ts=true->(∀(i:Nat) (f:Field),fs[i]?=some f->∃x,DataW.trod enc P w base spare held n f.type ((cs.drop f.offset).take (P.cellsOf f.type))=some x)->
  ap4 enc P w base spare held n ts (cs.drop o)
 | [],_,_,_,_=>trivial
 | (t,s)::ts,[],_,h,_=>by simp[fieldsB]at h
 | (t,s)::ts,f::fs,o,h,hx=>by
  simp only[fieldsB,Xs]at h;have⟨⟨⟨h1,h2⟩,h3⟩,h4⟩:=h;have h1:=Xq h1;have h2:f.type=t:=Xq h2;have h3:=Xq h3;refine⟨?_,?_⟩
  ·have⟨x,Ep⟩:=hx 0 f E
   rw[h1,h2,h3]at Ep;exact⟨x,Ep⟩
  ·rw[List.drop_drop]
   exact pa h4 λi f hf=>hx (i+1) f (by simpa using hf)
def stB(P:Z4)(t:Z5)(ts:List (Z5 × Nat)):Bool:=match P.underlying t with|some (.struct fs)=>fieldsB P 0 fs.toList ts&&Nat.beq (P.cellsOf t) (sumSz ts)|_=>false
theorem eY{t:Z5}{ts:List (Z5 × Nat)}{α:Type}{C:α->List D}{jU:α->Prop}(hs:stB P t ts=true)(h:A8 enc P w base spare held ts C jU):Reads enc P w base spare held t C jU:=by
 intro fuel cs x hx;unfold stB at hs
 split at hs
 ·rename_i fs ht
  simp only[Xs]at hs;have⟨h1,h2⟩:=hs;have⟨xs,n,_,_,hl,hlen,hg⟩:=DataW.trod_struct ht hx;refine h n cs (hl.trans (Xq h2)) (pa (o:=0) h1 λi f hf=>?_);have Vk:fs[i]?=some f:=by simpa using hf
  have hi:i<xs.length:=by
   have:=(Xz.1 Vk).1;omega
  exact⟨xs[i],by rw[hg i f Vk,Xp hi]⟩
 ·cases hs
theorem RM{t:Z5}{cs:Array Z3}{d:DataW H}{p:List MemPlace}{α:Type}{C:α->List D}{jU:α->Prop}(h:DataW.Trod enc P w base spare held t (.agg cs) d p)(hR:Reads enc P w base spare held t C jU):∃a,jU a/\iN w lx (.agg (C a)) (.agg cs):=by
 have⟨fuel,hf⟩:=h;obtain⟨a,h1,h2,h3⟩:=hR _ _ _ hf;refine⟨a,h1,?_⟩;have:=iN.agg (w:=w) (ok:=lx) (C a) cs.toList h2.length (λj d J=>h3 d (XA J)) (λj d v J hv=>h2.get j d v J hv);simpa using this
theorem Out.dE{ts ms:List Nat}{s s0:St}{k:Nat}(hO:Out ts ms s s0)(h:memN k ts=true):Out ts ms (s.dE k) s0:=by
 have hk:∀ks:List Nat,(∀j,memN j ks=true->memN j ts=true)->∀j,memN j (ks++[k])=true->memN j ts=true:=λks Bj j hj=>by
  rw[lz,X3]at hj;rcases hj with hj|hj
  ·exact Bj j hj
  ·simp only[memN,Bool.or_false]at hj
   rw[Xq hj];exact h
 refine⟨hO.n,λt ht=>?_,λt ht hm=>?_⟩
 ·have⟨ks,Bj,e⟩:=hO.t t ht
  exact⟨ks++[k],hk ks Bj,by simp only[St.dE];rw[e,n4]⟩
 ·have⟨ks,Bj,e⟩:=hO.s t ht hm
  exact⟨ks++[k],hk ks Bj,by simp only[St.dE];rw[e,lY]⟩
theorem fP:QOp P w0 n s ev ⟨dst,.assign (.const (.slice none 0 0)),ty,pos,after,g⟩ (.d (.v (.slice none 0 0))):=
 .mk λa w ok blk val h _ qW=>⟨.slice none 0 0,w,by simp[execOp,Act.eval],Ext.refl w,.v _ E⟩
theorem OD{Fe:Fence}{m:Nat}(hFe:FAt w0 Fe){F:(Nat->Bool)->St}{l:List Z8}{n N:Nat}{Q:Exit->Act->W'->Prop}(h:vX l n N=true)(hn:n<=l.length)(hB:wu l n=true)
  (cN:∀(L:Nat->Bool) (i:Nat) (o:Z8) (a:Act) (w:W'),i<n->l[i]?=some o->Done l n L->L i=false->(∀e∈o.after,Region.binds .any e=true->L e.on=true)->Holds w0 (F L) a w->
   (Region.wanted o (yielded l.toArray a.tmps)=true/\OW P w0 o a w (λa' w'=>Holds w0 (F (cK L i)) a' w'))\/
   (Region.wanted o (yielded l.toArray a.tmps)=false/\Holds w0 (F (cK L i)) (a.put o.dst undef) w))
  (hF:∀L,(∀p,p<n->L p=true)->F L=F (gd n))
  (hT:∀a w,Holds w0 (F (gd n)) a w->wpListIn Fe m P l.toArray Q (l.drop n) a w) :
  ∀(f:Nat) (listed:Array Bool) (a:Act) (w:W'),HeadInv .any l.toArray n listed->cntU listed n=f->Holds w0 (F (listed.getD · false)) a w->
   wpAnyIn Fe m P .any l.toArray Q (f+(l.length - n)) listed a w:=by
 simp only[wu,Xs,X3,XW]at hB;intro f
 induction f with
 | zero=>
  intro listed a w inv hc hH;have kQ:=lH hc
  have hle:listed=ie n l.length:=by
   apply Array.ext
   ·simp[inv.size,ie]
   ·intro j h1 h2
    have mB:j<l.length:=by simpa [ie] using h2
    simp only[ie,List.getElem_toArray,List.getElem_map,List.getElem_range];by_cases hj:j<n
    ·have:=kQ j hj
     simp[h1]at this;simp[this,hj]
    ·have:=inv.tail j (by omega) (by simpa using mB)
     simp[h1]at this;simp[this,hj]
  have Nc:(l.drop n).length=l.length - n:=by simp
  have:=gm (md:=.any) (Q':=Q) (P:=P) (ops:=l.toArray) (l.drop n) n listed a w (λj=>by simp[Yk]) (by rw[Nc,hle];exact hB.2) (hT a w (by rw[<-hF (listed.getD · false) kQ];exact hH));rw[Nc]at this;rwa [XK]
 | succ f ih=>
  intro listed a w inv hc hH;rw[show f+1+(l.length - n)=(f+(l.length - n))+1 by omega];obtain⟨j,hj,SQ,CO⟩:=ov (listed:=listed) (k:=n) (by omega);have mB:j<l.length:=by omega
  have SS:j∈Region.ready .any l.toArray listed:=mem_ready.2 ⟨getD_in (by rw[inv.size];simpa using mB) SQ,l[j],by simp[mB],λe he hb=>CO e.on (dZ h hj (Xp mB) e he hb)⟩;refine⟨λh0=>(by rw[h0]at SS;cases SS),λi hi=>?_⟩;have⟨hiu,o,qJ,hia⟩:=mem_ready.1 hi;have ho:l[i]?=some o:=by simpa using qJ
  have rY:i<l.length:=(Xt.1 ho).1
  have n7:i<n:=by
   rcases XP i n with h'|h'
   ·exact h'
   ·rcases hB.1 with e|⟨hs,tE⟩
    ·omega
    ·exact absurd hi (tail_waits hs tE (by simpa using Nat.lt_of_le_of_lt h' rY) inv _ j E hj (getD_in (by rw[inv.size];simpa using mB) SQ) i h')
  have CP:listed.getD i false=false:=getD_both hiu;have M5:i<listed.size:=by rw[inv.size];simpa using rY
  have FT:(λj=>(listed.setIfInBounds i true).getD j false)=cK (listed.getD · false) i:=by
   funext k;by_cases hk:k=i
   ·subst hk;simp[cK,M5]
   ·rw[getD_set_ne false (Ne.symm hk)];simp[cK,hk]
  have step:=cN (listed.getD · false) i o a w n7 ho ⟨λp op hp cF hL e he hb=>inv.closed p op (by simpa using cF) hL e he hb⟩ CP hia hH;rw[<-FT]at step
  have next:∀a' w',Holds w0 (F ((listed.setIfInBounds i true).getD · false)) a' w'->wpAnyIn Fe m P .any l.toArray Q (f+(l.length - n)) (listed.setIfInBounds i true) a' w':=
   λa' w' oO=>ih _ a' w' (inv.set hi n7) (by have:=(rC CP M5 (k:=n)).1 n7;omega) oO
  unfold wpOpIn;simp only[qJ];rcases step with ⟨h1,h2⟩|⟨h1,h2⟩
  ·rw[Xu h1];exact h2.to hFe next
  ·rw[Xr (by simp[h1])];exact⟨λf _=>hFe.fn f,next _ _ h2⟩
inductive Eff where
 | grow (k d:Nat) (z:aH)
 | set (k:Nat) (z:aH) (dst:Option Tmp) (x:T)
 | put (dst:Option Tmp) (x:T)
def Eff.keyOk(tch:List Nat):Eff->Bool
 | .grow k _ _=>memN k tch
 | .set k _ _ _=>memN k tch
 | .put _ _=>true
end
section
variable{P:Z4}{w0:Cx}
def Eff.dst:Eff->Option Tmp
 | .grow _ d _=>some d
 | .set _ _ dst _=>dst
 | .put dst _=>dst
def Eff.val:Eff->T
 | .grow k _ _=>.rs k
 | .set _ _ _ x=>x
 | .put _ x=>x
def Eff.app:Eff->St->St
 | .grow k d z,s=>((s.dE k).site k z).put (some d) (.rs k)
 | .set k z dst x,s=>(s.site k z).put dst x
 | .put dst x,s=>s.put dst x
def QK:aH->Bool
 | .cn _=>true
 | _=>false
def Kt(st:St)(tch:List Nat):T->Bool
 | .ref k _=>!(memN k tch||QK (st.s k))
 | .rs k=>!(memN k tch||QK (st.s k))
 | .own k _ _ _=>!(memN k tch||QK (st.s k))
 | _=>true
structure Ea(st:St)(l:List Z8)(n:Nat)(cs tch:List Nat)(s:St):Prop where
 qn:s.n=st.n
 qs:∀k,memN k tch=false->QK (st.s k)=false->s.s k=st.s k
 qt:∀t,(∀p,cw l n t=some p->memN p cs=false)->Kt st tch (st.t t)=true->s.t t=st.t t
def Ke(P:Z4)(w0:Cx)(s:St)(ev:Z6->T)(o:Z8)(f:Eff):Prop:=
 ∀st,st.s=s.s->st.n=s.n->(∀y,ev y=.dead\/st.ev y=ev y)->(∀d,o.dst=some d->d<s.n)->LZ P w0 st o (f.app st)
variable{s:St}{ev:Z6->T}{ty:Z5}{pos:String}{after:Array Edge}
theorem JL{dst:Option Tmp}{op:Op}{x:T}(hq:QOp P w0 s.n s.s ev ⟨dst,op,ty,pos,after,none⟩ x):Ke P w0 s ev ⟨dst,op,ty,pos,after,none⟩ (.put dst x):=
 λst hk hn fq J a w hH=>hq st a w hH (by rw[hk];exact Sub.refl _ _) hn fq J
theorem aF6{d:Nat}{e:Z5}{z:Z3}(hz:eC P e z)(h1:z.cells.toList.all Value.oneCell'=true)(hs:s.s d=.no):Ke P w0 s ev ⟨some d,.alloc e,ty,pos,after,none⟩ (.set d (.box (dK z)) (some d) (.ref d 0)):=
 λst hk hn fq J=>cp E λops rest R h=>bL hz h1 (by rw[YB,hn];exact J d E) (by rw[hk];exact hs) h
theorem Ib{t:Z5}{y x:Z6}{agg:Bool}{m k o:Nat}{X:D}{cs cs':List D}(ht:szB P t agg m=true)(hy:ev y=.ref k o)(hx:ev x=.d X)(hX:X.sc=true\/∃cs,X=.agg cs)(hm:X.cells.length=m)
  (hk:s.s k=.box cs) (ho:o+m<=cs.length) (ep:dL cs o X.cells=cs'):Ke P w0 s ev ⟨none,.store t y x,ty,pos,after,none⟩ (.set k (.box cs') none .dead):=
 λst kX _ fq _=>cp E λops rest R h=>ay ht (kv fq hy (by simp)) (kv fq hx (by simp)) hX hm (by rw[kX];exact hk) ho ep h
theorem Oc{d k:Nat}{t e sz b m:Nat}{z:Z3}{y x:Z6}{es news es':List (List D)}(ht:slB P t e sz=true)(hz:eC P e z)(hb:Ey P e b=true)(Jo:z.cells.size=sz)(Jq:0<sz)(hy:ev y=.rs k)(hk:s.s k=.row e sz es)(hx:ev x=.d (.sl sz news))
  (hm:news.length=m) (Ra:(es.length+m)*b<=140737488355328) (Ax:es.length+m<=9223372036854775807) (oL:es++news=es'):Ke P w0 s ev ⟨some d,.call ⟨.builtin .append,#[y,x],#[t,t]⟩,ty,pos,after,none⟩ (.grow k d (.row e sz es')):=
 λst kX hn fq J=>cp E λops rest R h=>eX ht hz hb Jo Jq (kv fq hy (by simp)) (by rw[kX];exact hk) (kv fq hx (by simp)) hm Ra Ax (by rw[YB,hn];exact J d E) oL h
theorem FH{st:St}(k t:Nat){e sz:Nat}{es:List (List D)}(hs:st.s k=.row e sz es)(ht:st.t t=.rs k)(hk:Nat.blt k st.n=true)(U0:Nat.blt t st.n=true)(hm:∀b,w0.mine b->w0.ok b):Le w0 st ((headSt st [k] [] []).put (some t) (.d (.sl sz es))):=by
 intro a w ⟨blk,val,hh⟩;have hH:qx w0 (headSt st [k] [] []) a w (dI [k] [] blk) val:=zv (ms:=[]) (Out.refl st) (by simp) (by simp) (by intro k h;cases h) (by intro p h;cases h) rfl (by simpa using hk) hh;have h1:=hh.tmp t;rw[ht]at h1;have⟨_,hv⟩:=h1;have h2:=hh.site k;rw[hs]at h2;have⟨a1,a2,a3⟩:=h2
 have bg:∀c,fN w0 blk c->fN w0 (dI [k] [] blk) c:=λc ⟨q1,q2⟩=>⟨q1,λj hj=>by
  simp only[dI,lookN]at hj
  cases hm:memN j [k]<;>rw[hm]at hj
  ·exact q2 j hj
  ·cases hj⟩
 rw[YB]at U0;refine⟨_,_,qx.same t U0 (gN (v:=a.tmps.getD t undef) hH U0 ?_)⟩;show iN w _ (.sl sz es) _
 rcases a3 with ⟨_,he,dD⟩|⟨b,aK,cap,hb,dD,hn,ez,vQ,eQ,hc⟩
 ·rw[hv,dD,he];exact .emp sz none 0 (XC _)
 ·have MT : fN w0 (dI [k] [] blk) b := by
   refine⟨(hh.new k b hb).1.elim .inr (λh=>.inl (hm b h)),λj hj=>?_⟩;simp only[dI,lookN]at hj
   cases hmj:memN j [k]<;>rw[hmj]at hj
   ·have:=hh.inj j k b hj hb
    subst this;simp[memN]at hmj
   ·cases hj
  rw[hv,dD]
  exact .sl sz es b 0 cap (λi j=>aK.getD (i*sz+j) undef) (bI vQ) MT hn ez a1 a2 (λi x j d hi hj=>by
   obtain⟨v,hv,_⟩:=hc i x j d hi hj;rw[cell_of_block vQ,XK,hv,cO hv]) (λi x j d hi hj=>by
   obtain⟨v,hv,Y⟩:=hc i x j d hi hj
   rw[cO hv];exact Y.ok λ_ _ h=>bg _ h)
def gf(A B:W'):Prop:=B.os=A.os/\B.tape=A.tape/\B.output=A.output
theorem gf.refl(A:W'):gf A A:=⟨rfl,rfl,rfl⟩
def PI(P:Z4)(f:ϋ)(pre post:List D){α:Type}(enc:α->List D)(items:List α)(fin:Bool:=true):Prop:=
 ∀(w:W') (ok:Nat->Prop) (v1 v2:List Z3),oq w ok pre v1->oq w ok post v2->
 ∀(m l:Nat) (V':(Nat->Prop)->Bool × List α->W'->Prop) (W:W') (Y0:Nat->Prop),
  (∀(P':Nat->Prop) (s:Bool × List α) (A B:W'),V' P' s A->A.heap.size<=B.heap.size->gf A B->(∀g,g<A.heap.size->¬P' g->B.heap[g]?=A.heap[g]?)->V' (λg=>P' g\/(A.heap.size<=g/\g<B.heap.size)) s B)->
  (∀(P':Nat->Prop) (s:Bool × List α) (A:W'),V' P' s A->w.heap.size<=A.heap.size/\(∀g,P' g->g<A.heap.size)/\∀g,g<w.heap.size->ok g->A.heap[g]?=w.heap[g]?/\¬P' g)->
  (∀(P':Nat->Prop) (s:List α) (x:α) (us:List Z3) (A:W'),V' P' (true,s) A->(s++[x]) <+: items->oq A (λb=>ok b\/P' b) (enc x) us->∀m',YieldAt Fence.wide m' P l us.toArray A λe B=>
   ∃b,e=.returned (.bool b)/\V' P' (b,s++[x]) B/\A.heap.size<=B.heap.size/\gf A B/\∀g,P' g->B.heap[g]?=A.heap[g]?)->
  (fin=false->∀(P':Nat->Prop) (A:W'),¬V' P' (true,items) A)->
  V' Y0 (true,[]) W->
  CallsIn Fence.wide (m+1) P f (v1++Value.func (.yield l) #[] #[]::v2).toArray W λe B=>(∃v,e=.returned v)/\∃P' s,V' P' s B/\(s.1=true->s.2=items)
theorem iV.eR{w w':W'}{ok ok':Nat->Prop}{blk:Nat->Option Nat}{val:Nat->Z3}{s:Nat->aH}{x:T}{v:Z3}(h:iV w ok blk val s x v)(hs:w.heap.size<=w'.heap.size)
  (hA:∀(b:Nat) (o:Obj),ok b->w.heap[b]?=some o->w'.heap[b]?=some o) (bg:∀b,b<w.heap.size->ok b->ok' b):iV w' ok' blk val s x v:=by
 cases x with
 | d x=>exact iN.cr h hs hA bg
 | own k r f g=>exact⟨h.1,h.2.imp λ_ _ h=>iN.cr h hs hA bg⟩
 | _=>exact h
theorem ml.eR{w w':W'}{ok ok':Nat->Prop}{aI:Nat->Option Nat}{val':Nat->Z3}{s:Nat->aH}{b:Option Nat}{val:Z3}{x:aH}(h:ml w ok aI val' s b val x)(hs:w.heap.size<=w'.heap.size)
  (hA:∀(b:Nat) (o:Obj),ok b->w.heap[b]?=some o->w'.heap[b]?=some o) (hb:∀c,b=some c->w'.heap[c]?=w.heap[c]?) (bg:∀b,b<w.heap.size->ok b->ok' b):ml w' ok' aI val' s b val x:=by
 cases x with
 | no=>exact h
 | box cs=>
  have⟨b,e,aK,h1,h2,h3,h4,h5⟩:=h;exact⟨b,e,aK,h1,(hb b h1).trans h2,h3,h4,λj d J=>let ⟨v,hv,Y⟩:=h5 j d J;⟨v,hv,Y.cr hs hA bg⟩⟩
 | cn cs=>
  have⟨b,e,aK,h1,h2,h3,h5⟩:=h;exact⟨b,e,aK,h1,(hb b h1).trans h2,h3,λj x hx=>let ⟨v,hv,ho,Y⟩:=h5 j x hx;⟨v,hv,ho,Y.eR hs hA bg⟩⟩
 | mp es c=>
  have⟨b,h1,h2⟩:=h;exact⟨b,h1,(hb b h1).trans h2⟩
 | row e sz es=>
  have⟨h1,h2,h3⟩:=h;refine⟨h1,h2,h3.imp id λ⟨b,aK,cap,k1,k2,k3,k4,k5,k6,k7⟩=>⟨b,aK,cap,k1,k2,k3,k4,(hb b k1).trans k5,k6,λi x j d hi hj=>let ⟨v,hv,Y⟩:=k7 i x j d hi hj;⟨v,hv,Y.cr hs hA bg⟩⟩⟩
variable{st:St}{a:Act}{w A B:W'}{blk:Nat->Option Nat}{val:Nat->Z3}{P':Nat->Prop}
structure fY(w0:Cx)(P':Nat->Prop)(st:St)(a:Act)(w:W')(blk:Nat->Option Nat)(val:Nat->Z3):Prop where
 ext:Oy w0 w
 kept:Kept w0 a w
 HD:∀d∈a.defers,∀b,d.target=.collected b->¬P' b
 Rj:∀b o,w0.fix b=some o->¬P' b
 mZ:∀g,P' g->w0.w.heap.size<=g/\g<w.heap.size
 size:a.tmps.size=st.n
 new:∀s b,blk s=some b->Jb w0 b/\b<w.heap.size/\¬P' b
 inj:∀s s' b,blk s=some b->blk s'=some b->s=s'
 kU:∀k b,w0.kU k=some b->blk k=some b/\(st.s k).isVar=true/\st.n<=k
 site:∀s,ml w (λb=>fN w0 blk b/\¬P' b) blk val st.s (blk s) (val s) (st.s s)
 tmp:∀t,iV w (λb=>fN w0 blk b/\¬P' b) blk val st.s (st.t t) (a.tmps.getD t undef)
theorem fY.of(h:qx w0 st a w blk val):fY w0 (λ_=>False) st a w blk val:=
 ⟨h.ext,h.defers,λ_ _ _ _ h=>h,λ_ _ _ h=>h,λ_ h=>h.elim,h.size,λs b hb=>⟨(h.new s b hb).1,(h.new s b hb).2,λh=>h⟩,h.inj,h.kU,
  λs=>(h.site s).eR (Xw _) (λ_ _ _ h=>h) (λ_ _=>rfl) λb _ hb=>⟨hb,λh=>h⟩,λt=>(h.tmp t).eR (Xw _) (λ_ _ _ h=>h) λb _ hb=>⟨hb,λh=>h⟩⟩
theorem fY.hold(h:fY w0 P' st a w blk val):qx w0 st a w blk val:=
 ⟨h.ext,h.kept,h.size,λs b hb=>⟨(h.new s b hb).1,(h.new s b hb).2.1⟩,h.inj,h.kU,
  λs=>(h.site s).eR (Xw _) (λ_ _ _ h=>h) (λ_ _=>rfl) λb _ hb=>hb.1,λt=>(h.tmp t).eR (Xw _) (λ_ _ _ h=>h) λb _ hb=>hb.1⟩
theorem fY.step(h:fY w0 P' st a A blk val)(hs:A.heap.size<=B.heap.size)(qJ:gf A B)(hb:∀g,g<A.heap.size->¬P' g->B.heap[g]?=A.heap[g]?):fY w0 (λg=>P' g\/(A.heap.size<=g/\g<B.heap.size)) st a B blk val:=by
 have hA:∀(b:Nat) (o:Obj),(fN w0 blk b/\¬P' b)->A.heap[b]?=some o->B.heap[b]?=some o:=λb o bg ho=>by rw[hb b (bI ho) bg.2];exact ho
 have bg:∀b,b<A.heap.size->(fN w0 blk b/\¬P' b)->(fN w0 blk b/\¬(P' b\/(A.heap.size<=b/\b<B.heap.size))):=λb bH hb=>⟨hb.1,λh=>by
  rcases h with h|⟨h,_⟩
  ·exact hb.2 h
  ·omega⟩
 have⟨⟨ms,m1,m2,m3⟩,f1⟩:=h.kept;have mY:∀b∈ms,¬P' b:=λb bY=>h.HD { target:=.collected b,args:=#[] } (by rw[m1];exact X6.2 ⟨b,bY,rfl⟩) b E;refine⟨⟨qJ.1.trans h.ext.os,qJ.2.1.trans h.ext.tape,qJ.2.2.trans h.ext.output,XQ h.ext.size hs,λk hk hm=>?_⟩,⟨⟨ms,m1,m2,λb bY=>⟨(m3 b bY).1,?_⟩⟩,λb o hf=>⟨?_,(f1 b o hf).2⟩⟩,λd J b Pc hY=>?_,λb o hf hY=>?_,λg hg=>?_,h.size,λs b Es=>?_,h.inj,h.kU,λs=>?_,λt=>?_⟩
 ·rw[hb k (XD hk h.ext.size) λhY=>by have:=(h.mZ k hY).1;omega];exact h.ext.block k hk hm
 ·rw[hb b (bI (m3 b bY).2) (mY b bY)];exact(m3 b bY).2
 ·rw[hb b (bI (f1 b o hf).1) (h.Rj b o hf)];exact(f1 b o hf).1
 ·rcases hY with hY|⟨hY,_⟩
  ·exact h.HD d J b Pc hY
  ·rw[m1]at J
   obtain⟨b',bY,rfl⟩:=X6.1 J
   cases Pc
   have:=bI (m3 b bY).2;omega
 ·rcases hY with hY|⟨hY,_⟩
  ·exact h.Rj b o hf hY
  ·have:=bI (f1 b o hf).1;omega
 ·rcases hg with hg|⟨h1,h2⟩
  ·exact⟨(h.mZ g hg).1,XD (h.mZ g hg).2 hs⟩
  ·exact⟨XQ h.ext.size h1,h2⟩
 ·have⟨n1,n2,n3⟩:=h.new s b Es
  refine⟨n1,XD n2 hs,λhY=>?_⟩;rcases hY with hY|⟨hY,_⟩
  ·exact n3 hY
  ·omega
 ·exact(h.site s).eR hs hA (λc hc=>hb c (h.new s c hc).2.1 (h.new s c hc).2.2) bg
 ·exact(h.tmp t).eR hs hA bg
def xR(N:Nat)(s:Nat->aH)(k:Nat):aH:=bif Nat.ble N k then shiftS (N + ·) (s (k - N)) else .no
def ja(N:Nat)(st:St):St:={ n:=st.n,t:=λt=>shiftT (N + ·) (st.t t),s:=xR N st.s }
def xS(N:Nat)(blk:Nat->Option Nat)(k:Nat):Option Nat:=bif Nat.ble N k then blk (k - N) else none
def R7(N:Nat)(val:Nat->Z3)(k:Nat):Z3:=val (k - N)
def AN(l:Nat)(r:Loop)(b:Nat):Option Obj:=bif Nat.beq b l then some (.loop r) else none
theorem sS{l:Nat}{r:Loop}{b:Nat}{o:Obj}(h:AN l r b=some o):b=l/\o=.loop r:=by
 unfold AN at h
 cases hb:Nat.beq b l with
 | false=>rw[hb]at h;cases h
 | true=>rw[hb]at h;cases h;exact⟨Xq hb,rfl⟩
def nU(w0:Cx)(P':Nat->Prop)(N l:Nat)(r:Loop)(st:St)(A:W')(blk:Nat->Option Nat):Cx:=
 ⟨A,λb=>fN w0 blk b/\¬P' b,λb=>(∃k,blk k=some b)\/b=l,λk=>bif Nat.ble N k&&(st.s (k - N)).isVar then blk (k - N) else none,AN l r,some l⟩
def loopT(s:Nat->aH):T->T
 | .ref k o=>bif (s k).isVar then .ref k o else .dead
 | .rs _=>.dead
 | .own _ _ _ _=>.dead
 | x=>x
def df(st:St)(S:Nat->aH):St:={ n:=st.n,t:=λt=>loopT st.s (st.t t),s:=S }
def gV(st:St)(S:Nat->aH):St:={ n:=st.n,t:=λ_=>.dead,s:=S }
theorem iN.MA{w w':W'}{ok ok':Nat->Prop}{d:D}{v:Z3}(h:iN w ok d v)(hs:w.heap.size<=w'.heap.size)
  (hA:∀(b:Nat) (aK:Array Z3) (e:Z5) (z:Nat × Nat),ok b->w.heap[b]?=some (Obj.cells aK e z)->w'.heap[b]?=some (Obj.cells aK e z)) (bg:∀b,b<w.heap.size->ok b->ok' b):iN w' ok' d v:=by
 have cell:∀{p:Addr} {v:Z3},ok p.block->w.cell? p=some v->w'.cell? p=some v:=λ{p v} hk h=>by
  have⟨o,ho⟩:=me h
  cases o with
  | cells aK e z=>
   have h':=hA _ _ _ _ hk ho;unfold World.cell? at h ⊢;rw[ho]at h;rw[h'];exact h
  | _=>unfold World.cell? at h;rw[ho]at h;cases h
 induction h with
 | v x h=>exact .v x h
 | emp sz A cap h=>exact .emp sz A cap h
 | sl sz es b off cap vs hb hk hn ez eQ jO hc Y ih=>
  exact .sl sz es b off cap vs (XD hb hs) (bg b hb hk) hn ez eQ jO (λi e j d h1 h2=>cell hk (hc i e j d h1 h2)) (λi e j d h1 h2=>ih i e j d h1 h2)
 | pt cs o b off vs hb hk jO hc Y ih=>
  exact .pt cs o b off vs (XD hb hs) (bg b hb hk) jO (λj d h1=>cell hk (hc j d h1)) (λj d h1=>ih j d h1)
 | fn f cap vs hl Y ih=>exact .fn f cap vs hl λj d v h1 h2=>ih j d v h1 h2
 | vB f cap vs hl Y ih=>exact .vB f cap vs hl λj d v h1 h2=>ih j d v h1 h2
 | agg cs vs hl jO Y ih=>exact .agg cs vs hl jO λj d v h1 h2=>ih j d v h1 h2
 | da cs vs hl Y ih=>exact .da cs vs hl λj d v h1 h2=>ih j d v h1 h2
 | e0 A=>exact .e0 A
 | nan k b h=>exact .nan k b h
theorem fY.sv(h:fY w0 P' st a A blk val){b:Nat}{o:Obj}(hb:A.heap[b]?=some o)(ho:ncO o=true):∀k,blk k≠some b:=λk hk=>by
 have:=h.site k;rw[hk]at this;have⟨o',h1,h2⟩:=this.cells;rw[hb]at h1;cases h1;rw[ho]at h2;cases h2
theorem qx.Sj{c:Cx}{l:Nat}{r:Loop}(r':Loop)(h:qx c st a w blk val)(hf:c.fix=AN l r)(hm:c.mine l):qx { c with fix:=AN l r' } st a (w.putObj l (.loop r')) blk val:=by
 have hl:w.heap[l]?=some (.loop r):=(h.defers.fix l _ (by rw[hf];simp[AN])).1;have bH:=bI hl
 have AE:CK w (w.putObj l (.loop r')):=⟨by rw[World.putObj_size];exact Xw _,λb aK e z hb=>by
  rw[World.putObj_heap_other (λe'=>by rw[e',hl]at hb;cases hb)];exact hb,λb es z hb=>by
  rw[World.putObj_heap_other (λe'=>by rw[e',hl]at hb;cases hb)];exact hb⟩
 have⟨⟨ms,m1,m2,m3⟩,_⟩:=h.defers;refine⟨⟨h.ext.os,h.ext.tape,h.ext.output,by rw[World.putObj_size];exact h.ext.size,λk hk J5=>?_⟩,⟨⟨ms,m1,m2,λb hb=>⟨(m3 b hb).1,?_⟩⟩,λb o hb=>?_⟩,h.size,λs b hb=>⟨(h.new s b hb).1,by rw[World.putObj_size];exact(h.new s b hb).2⟩,h.inj,h.kU,λs=>(h.site s).ky AE,λt=>(h.tmp t).ky AE⟩
 ·rw[World.putObj_heap_other (λe=>J5 (by rw[e];exact hm))];exact h.ext.block k hk J5
 ·have:=(m3 b hb).2
  rw[World.putObj_heap_other (λe'=>by rw[e',hl]at this;cases this)];exact this
 ·obtain⟨rfl,rfl⟩:=sS hb
  exact⟨World.putObj_heap_same bH,rfl⟩
def zR:List Tmp->List D->St->St
 | p::ps,d::ds,s=>zR ps ds (s.put (some p) (.d d))
 | _,_,s=>s
theorem qx.zR{c:Cx}:∀(ps:List Tmp) (ds:List D) (us:List Z3) (s:St) (a:Act),qx c s a w blk val->oq w (fN c blk) ds us->(∀p∈ps,p<s.n)->
  qx c (Am.zR ps ds s) { a with tmps:=(ps.zip us).foldl (λt (x:Tmp × Z3)=>t.setIfInBounds x.1 x.2) a.tmps } w blk val
 | [],_,_,_,_,h,_,_=>h
 | p::ps,[],[],_,_,h,_,_=>h
 | p::ps,d::ds,v::us,s,a,h,Y,hp=>by
  have:=qx.zR ps ds us (s.put (some p) (.d d)) (a.put (some p) v) (h.put (some p) (.d d) v (λk hk=>by cases hk;exact hp p (by simp)) Y.1) Y.2 (λq hq=>by show q<s.n;exact hp q (by simp[hq]));exact this
 | _::_,[],_::_,_,_,_,h,_=>h.elim
 | _::_,_::_,[],_,_,_,h,_=>h.elim
theorem xp{S S':Nat->aH}(hv:∀k,(S k).isVar=(st.s k).isVar):df (df st S) S'=df st S':=by
 simp only[df,St.mk.injEq,Zx,ZD];funext t
 cases hx:st.t t with
 | ref k o=>
  simp only[loopT]
  cases h:(st.s k).isVar with
  | false=>rfl
  | true=>simp only[Yb,loopT,hv k,h]
 | _=>rfl
theorem HC{ok:Nat->Prop}{f:Fn}{cap:List D}{v:Z3}(h:iN w ok (.vB f cap) v):∃vs:List Z3,v=.func f vs.toArray #[]/\oq w ok cap vs:=by
 generalize J:D.vB f cap=x at h
 cases h with
 | vB f cap vs hl Y=>cases J;exact⟨vs,rfl,oq.of hl Y⟩
 | _=>cases J
structure kI(w0:Cx)(st:St)(a:Act)(w:W')(okD:Nat->Prop)(l k0:Nat)(r:Loop)(S:Nat->aH)(P':Nat->Prop)(A:W'):Prop where
 hold:∃blk val,fY w0 P' (df st S) a A blk val/\∀g,okD g->fN w0 blk g/\¬P' g
 Lh:A.heap[l]?=some (.loop r)
 JG:A.heap[k0]?=some (.deferred (some []))
 out:¬P' l/\¬P' k0
 size:w.heap.size+2<=A.heap.size
 data:∀g,okD g->A.heap[g]?=w.heap[g]?
def Ak:Exit->Option Code
 | .ret=>some .ret
 | .exit id=>some (.exit id)
 | _=>none
end
section
variable{P:Z4}{α σ:Type}{V':(Nat->Prop)->σ->W'->Prop}{c:Cx}{st:St}{a:Act}{w A B:W'}{blk:Nat->Option Nat}{val:Nat->Z3}{P':Nat->Prop}{s:σ}
theorem I0{w0:Cx}{n:Nat}{s:Nat->aH}{ev:Z6->T}{dst:Option Tmp}{ty:Z5}{pos:String}{after:Array Edge}{g:Option (Nat × Bool)}{f:ϋ}{ys:List Z6}{ds:List D}(ha:lM ev ys ds) :
  QOp P w0 n s ev ⟨dst,.makeFunc (.func f) ys.toArray #[],ty,pos,after,g⟩ (.d (.vB (.func f) ds)):=
 .mk λa w ok blk val h _ qW=>by
  have hL:=iO h ha;refine⟨.func (.func f) (ys.map a.eval).toArray #[],w,by simp[execOp,Instr.makeFunc],Ext.refl w,?_⟩;exact iN.vB _ _ _ hL.length λj d v h1 h2=>hL.get j d v h1 h2
def tM{σ:Type}(V':(Nat->Prop)->σ->W'->Prop):Prop:=
 ∀(P':Nat->Prop) (s:σ) (A B:W'),V' P' s A->A.heap.size<=B.heap.size->gf A B->(∀g,g<A.heap.size->¬P' g->B.heap[g]?=A.heap[g]?)->V' (λg=>P' g\/(A.heap.size<=g/\g<B.heap.size)) s B
structure gG(c:Cx)(P':Nat->Prop)(st:St)(a:Act)(w:W')(blk:Nat->Option Nat)(val:Nat->Z3):Prop where
 qc:c.w.heap.size<=w.heap.size
 data:∀g,c.ok g->g<c.w.heap.size/\¬P' g/\w.heap[g]?=c.w.heap[g]?
 marks:∃ms:List Nat,a.defers=ms.map (λb=>{ target:=.collected b,args:=#[] })/\ms.Nodup/\∀b∈ms,P' b/\w.heap[b]?=some (.deferred (some []))
 mZ:∀g,P' g->g<w.heap.size
 size:a.tmps.size=st.n
 new:∀s b,blk s=some b->P' b
 inj:∀s s' b,blk s=some b->blk s'=some b->s=s'
 site:∀s,ml w (λb=>(c.ok b\/P' b)/\∀s,blk s≠some b) blk val st.s (blk s) (val s) (st.s s)
 tmp:∀t,iV w (λb=>(c.ok b\/P' b)/\∀s,blk s≠some b) blk val st.s (st.t t) (a.tmps.getD t undef)
def iw(P:Z4){σ:Type}(V':(Nat->Prop)->σ->W'->Prop)(c:Cx)(code:Code)(R:Exit->St->σ->Prop)(st:St)(s:σ):Prop:=
 ∀(m:Nat) (P':Nat->Prop) (a:Act) (w:W') (blk:Nat->Option Nat) (val:Nat->Z3),gG c P' st a w blk val->V' P' s w->
  code.wpIn Fence.wide m P (λe a' w'=>∃st' s' Y' aI val',R e st' s'/\gG c Y' st' a' w' aI val'/\V' Y' s' w') a w
def dO(c:Cx)(P':Nat->Prop)(a:Act)(w:W')(blk:Nat->Option Nat):Cx:=
 ⟨w,λb=>c.ok b\/P' b,λb=>(∃k,blk k=some b)\/∃d∈a.defers,d.target=.collected b,λ_=>none,λ_=>none,none⟩
theorem gG.inner(h:gG c P' st a w blk val):qx (dO c P' a w blk) st a w blk val:=by
 have⟨ms,m1,m2,m3⟩:=h.marks;refine⟨⟨rfl,rfl,rfl,Xw _,λ_ _ _=>rfl⟩,⟨⟨ms,m1,m2,λb hb=>⟨.inr (.inr ⟨{ target:=.collected b,args:=#[] },by rw[m1];exact X6.2 ⟨b,hb,rfl⟩,rfl⟩),(m3 b hb).2⟩⟩,λb o hb=>by cases hb⟩,h.size,λk b hb=>⟨.inr (.inl ⟨k,hb⟩),h.mZ b (h.new k b hb)⟩,h.inj,(λk b hb=>by cases hb),λk=>?_,λt=>?_⟩
 ·exact(h.site k).eR (Xw _) (λ_ _ _ h=>h) (λ_ _=>rfl) λb _ hb=>⟨.inl hb.1,hb.2⟩
 ·exact(h.tmp t).eR (Xw _) (λ_ _ _ h=>h) λb _ hb=>⟨.inl hb.1,hb.2⟩
theorem gG.FF(hh:gG c P' st a w blk val):∀b,(dO c P' a w blk).mine b->(dO c P' a w blk).ok b:=λb hb=>.inr (by
 rcases hb with ⟨k,hk⟩|⟨d,J,Pc⟩
 ·exact hh.new k b hk
 ·have⟨ms,m1,m2,m3⟩:=hh.marks
  rw[m1]at J;obtain⟨b',bY,rfl⟩:=X6.1 J
  cases Pc
  exact(m3 b bY).1)
theorem MC{code:Code}{R:Exit->St->Prop}{R':Exit->St->σ->Prop}(hJ:tM V')(h:∀c',(∀b,c'.mine b->c'.ok b)->c'.uk=none->dG P c' code R st)(hR:∀e st',R e st'->R' e st' s):iw P V' c code R' st s:=by
 intro m P' a w blk val hh hj;refine wpIn_mono (h (dO c P' a w blk) hh.FF E Fence.wide m ⟨.inl E,rfl⟩ a w ⟨blk,val,hh.inner⟩) ?_;rintro e a' w' ⟨st',Y,aI,val',hk⟩
 have Co:∀b,(dO c P' a w blk).mine b->P' b:=λb hb=>by
  rcases hb with ⟨k,hk⟩|⟨d,J,Pc⟩
  ·exact hh.new k b hk
  ·have⟨ms,m1,m2,m3⟩:=hh.marks
   rw[m1]at J;obtain⟨b',bY,rfl⟩:=X6.1 J
   cases Pc
   exact(m3 b bY).1
 have hs:w.heap.size<=w'.heap.size:=hk.ext.size;have iJ:∀g,g<w.heap.size->¬P' g->w'.heap[g]?=w.heap[g]?:=λg hg hY=>hk.ext.block g hg λhm=>hY (Co g hm)
 have CM:∀b,b<w'.heap.size->Jb (dO c P' a w blk) b->P' b\/(w.heap.size<=b/\b<w'.heap.size):=λb hb ho=>by
  rcases ho with q|q
  ·exact .inr ⟨q,hb⟩
  ·exact .inl (Co b q)
 have bg:∀b,b<w'.heap.size->fN (dO c P' a w blk) aI b->(c.ok b\/(P' b\/(w.heap.size<=b/\b<w'.heap.size)))/\∀s,aI s≠some b:=λb hb ho=>⟨by
  rcases ho.1 with (q|q)|q
  ·exact .inl q
  ·exact .inr (.inl q)
  ·exact .inr (.inr ⟨q,hb⟩),ho.2⟩
 refine⟨st',s,λg=>P' g\/(w.heap.size<=g/\g<w'.heap.size),aI,val',hR e st' Y,⟨XQ hh.qc hs,λg hg=>?_,?_,λg hg=>?_,hk.size,λk b hb=>CM b (hk.new k b hb).2 (hk.new k b hb).1,hk.inj,λk=>?_,λt=>?_⟩,hJ P' s w w' hj hs ⟨hk.ext.os,hk.ext.tape,hk.ext.output⟩ iJ⟩
 ·have⟨d1,d2,d3⟩:=hh.data g hg
  refine⟨d1,λhY=>?_,?_⟩
  ·rcases hY with q|⟨q,_⟩
   ·exact d2 q
   ·have:=hh.qc;omega
  ·rw[iJ g (XD d1 hh.qc) d2];exact d3
 ·have⟨ms,m1,m2,m3⟩:=hk.defers.marks
  exact⟨ms,m1,m2,λb hb=>⟨CM b (bI (m3 b hb).2) (m3 b hb).1,(m3 b hb).2⟩⟩
 ·rcases hg with hg|hg
  ·exact XD (hh.mZ g hg) hs
  ·exact hg.2
 ·exact(hk.site k).eR (Xw _) (λ_ _ _ h=>h) (λ_ _=>rfl) bg
 ·exact(hk.tmp t).eR (Xw _) (λ_ _ _ h=>h) bg
theorem gQ{R:Exit->St->σ->Prop}(h:R .normal st s):iw P V' c .skip R st s:=λ_ _ _ _ _ _ hh hj=>wpIn_skip ⟨st,s,_,_,_,h,hh,hj⟩
theorem Ao{R:Exit->St->σ->Prop}(h:R .ret st s):iw P V' c .ret R st s:=λ_ _ _ _ _ _ hh hj=>wpIn_ret ⟨st,s,_,_,_,h,hh,hj⟩
theorem m6{id:Nat}{R:Exit->St->σ->Prop}(h:R (.exit id) st s):iw P V' c (.exit id) R st s:=λ_ _ _ _ _ _ hh hj=>wpIn_exit ⟨st,s,_,_,_,h,hh,hj⟩
theorem cG{x y:Code}{R:Exit->St->σ->Prop}(h:iw P V' c x (λe st' s'=>match e with|.normal=>iw P V' c y R st' s'|e=>R e st' s') st s):iw P V' c (.seq x y) R st s:=λm P' a w blk val hh hj=>
 wpIn_seq (wpIn_mono (h m P' a w blk val hh hj) λe a' w' ⟨st',s',Y',aI,val',hR,vQ,ua⟩=>by
  cases e with
  | normal=>exact hR m Y' a' w' aI val' vQ ua
  | _=>exact⟨st',s',Y',aI,val',hR,vQ,ua⟩)
theorem gR{y:Z6}{x z:Code}{R:Exit->St->σ->Prop}{b:Bool}(hc:st.ev y=T.bool b)(ht:b=true->iw P V' c x R st s)(hf:b=false->iw P V' c z R st s):iw P V' c (.cond y x z) R st s:=by
 intro m P' a w blk val hh hj;have hv:a.eval y=.bool b:=hh.inner.bool hc;exact wpIn_cond_split hv (λh=>ht h m P' a w blk val hh hj) (λh=>hf h m P' a w blk val hh hj)
theorem fo{id:Nat}{x:Code}{R:Exit->St->σ->Prop}(h:iw P V' c x (λe st' s'=>match e with|.exit QP=>if QP=id then R .normal st' s' else R (.exit QP) st' s'|e=>R e st' s') st s):iw P V' c (.block id x) R st s:=λm P' a w blk val hh hj=>
 wpIn_block (wpIn_mono (h m P' a w blk val hh hj) λe a' w' ⟨st',s',Y',aI,val',hR,vQ,ua⟩=>by
  cases e with
  | exit QP=>
   by_cases Q4:QP=id
   ·simp only[Q4,Yp]at hR
    simp only[Exit.inBlock,Q4,Yp];exact⟨st',s',Y',aI,val',hR,vQ,ua⟩
   ·simp only[Q4,YC]at hR
    simp only[Exit.inBlock,Q4,YC];exact⟨st',s',Y',aI,val',hR,vQ,ua⟩
  | _=>exact⟨st',s',Y',aI,val',hR,vQ,ua⟩)
theorem gG.le{st':St}(h:gG c P' st a w blk val)(hl:∀c',(∀b,c'.mine b->c'.ok b)->Le c' st st'):∃aI val',gG c P' st' a w aI val':=by
 obtain⟨aI,val',hk⟩:=hl (dO c P' a w blk) h.FF a w ⟨_,_,h.inner⟩
 have bg:∀b,b<w.heap.size->fN (dO c P' a w blk) aI b->(c.ok b\/P' b)/\∀s,aI s≠some b:=λb hb ho=>⟨by
  rcases ho.1 with q|q
  ·exact q
  ·have:w.heap.size<=b:=q
   omega,ho.2⟩
 refine⟨aI,val',h.qc,h.data,h.marks,h.mZ,hk.size,λk b hb=>?_,hk.inj,λk=>(hk.site k).eR (Xw _) (λ_ _ _ h=>h) (λ_ _=>rfl) bg,λt=>(hk.tmp t).eR (Xw _) (λ_ _ _ h=>h) bg⟩;have⟨n1,n2⟩:=hk.new k b hb;rcases n1 with q|q|⟨d,J,Pc⟩
 ·have:w.heap.size<=b:=q
  omega
 ·have⟨j,hj⟩:=q
  exact h.new j b hj
 ·have⟨ms,m1,m2,m3⟩:=h.marks
  rw[m1]at J;obtain⟨b',bY,rfl⟩:=X6.1 J
  cases Pc
  exact(m3 b bY).1
theorem MB{β:Type}{x:Code}{R:Exit->St->σ->Prop}(Fs:β->St)(L:β->σ)(I:β->Prop)(μ:β->Nat)(x0:β)(h0:I x0)(hl:∀c',(∀b,c'.mine b->c'.ok b)->Le c' st (Fs x0))(hL:L x0=s)
  (Y:∀y,I y->iw P V' c x (λe st' s'=>match e with|.normal=>∃y',I y'/\μ y'<μ y/\s'=L y'/\∀c',(∀b,c'.mine b->c'.ok b)->Le c' st' (Fs y')|e=>R e st' s') (Fs y) (L y)):iw P V' c (.loop x) R st s:=by
 intro m P' a w blk val hh hj b k cs jD hb U4
 have key:∀(n:Nat) (y:β),μ y=n->I y->∀(P':Nat->Prop) (a:Act) (w:W') (blk:Nat->Option Nat) (val:Nat->Z3),gG c P' (Fs y) a w blk val->V' P' (L y) w->
   ∃e a' w',(∃st' s' Y' aI val',R e st' s'/\gG c Y' st' a' w' aI val'/\V' Y' s' w')/\ArrivesIn (Machine.fenced P Fence.wide) P (lone (b.atR a (.code x :: .inLoop x::k)) cs w) b k cs e a' w':=by
  intro n
  induction n using Nat.strongRecOn with
  | _ n ih=>
   intro y hy hI P' a w blk val hh hj;obtain⟨e,a1,w1,⟨st',s',Y',aI,val',hR,vQ,ua⟩,jF⟩:=Y y hI m P' a w blk val hh hj b (.inLoop x::k) cs jD hb U4
   cases e with
   | normal=>
    obtain⟨y',hI',bH,rfl,hle⟩:=hR;have⟨rK,Bz,hh2⟩:=vQ.le hle;obtain⟨e2,a2,w2,hq,Nm⟩:=ih (μ y') (by omega) y' E hI' Y' a1 w1 rK Bz hh2 ua;exact⟨e2,a2,w2,hq,.of_steps (StepsIn.trans jF (.one (fenced_calm hb U4 E) stepR_inLoop)) Nm⟩
   | exit id=>exact⟨_,a1,w1,⟨st',s',Y',aI,val',hR,vQ,ua⟩,.pass (x:=.inLoop x) E (λ_ _=>.inl (by simp)) jF⟩
   | goto l=>exact⟨_,a1,w1,⟨st',s',Y',aI,val',hR,vQ,ua⟩,.pass (x:=.inLoop x) E (λ_ _=>.inl (by simp)) jF⟩
   | ret=>exact⟨_,a1,w1,⟨st',s',Y',aI,val',hR,vQ,ua⟩,.pass (x:=.inLoop x) E (λ_ _=>.inl (by simp)) jF⟩
   | panic ch=>exact⟨_,a1,w1,⟨st',s',Y',aI,val',hR,vQ,ua⟩,.pass (x:=.inLoop x) E (λ_ _=>.inl (by simp)) jF⟩
   | outgrown=>exact⟨_,a1,w1,⟨st',s',Y',aI,val',hR,vQ,ua⟩,.pass (x:=.inLoop x) E (λ_ _=>.inl (by simp)) jF⟩
 have⟨mD,TT,M9⟩:=hh.le hl;obtain⟨e,a',w',hq,jF⟩:=key _ x0 E h0 P' a w mD TT M9 (by rw[hL];exact hj);exact⟨e,a',w',hq,.of_steps (.one (fenced_calm hb U4 E) stepR_loop) jF⟩
theorem gG.after{st':St}{a':Act}{w':W'}{aI:Nat->Option Nat}{val':Nat->Z3}(hJ:tM V')(hh:gG c P' st a w blk val)(hj:V' P' s w)(hk:qx (dO c P' a w blk) st' a' w' aI val'):∃Y',gG c Y' st' a' w' aI val'/\V' Y' s w':=by
 have Co:∀b,(dO c P' a w blk).mine b->P' b:=λb hb=>by
  rcases hb with ⟨k,hk⟩|⟨d,J,Pc⟩
  ·exact hh.new k b hk
  ·have⟨ms,m1,m2,m3⟩:=hh.marks
   rw[m1]at J;obtain⟨b',bY,rfl⟩:=X6.1 J
   cases Pc
   exact(m3 b bY).1
 have hs:w.heap.size<=w'.heap.size:=hk.ext.size;have iJ:∀g,g<w.heap.size->¬P' g->w'.heap[g]?=w.heap[g]?:=λg hg hY=>hk.ext.block g hg λhm=>hY (Co g hm)
 have CM:∀b,b<w'.heap.size->Jb (dO c P' a w blk) b->P' b\/(w.heap.size<=b/\b<w'.heap.size):=λb hb ho=>by
  rcases ho with q|q
  ·exact .inr ⟨q,hb⟩
  ·exact .inl (Co b q)
 have bg:∀b,b<w'.heap.size->fN (dO c P' a w blk) aI b->(c.ok b\/(P' b\/(w.heap.size<=b/\b<w'.heap.size)))/\∀s,aI s≠some b:=λb hb ho=>⟨by
  rcases ho.1 with (q|q)|q
  ·exact .inl q
  ·exact .inr (.inl q)
  ·exact .inr (.inr ⟨q,hb⟩),ho.2⟩
 refine⟨λg=>P' g\/(w.heap.size<=g/\g<w'.heap.size),⟨XQ hh.qc hs,λg hg=>?_,?_,λg hg=>?_,hk.size,λk b hb=>CM b (hk.new k b hb).2 (hk.new k b hb).1,hk.inj,λk=>?_,λt=>?_⟩,hJ P' s w w' hj hs ⟨hk.ext.os,hk.ext.tape,hk.ext.output⟩ iJ⟩
 ·have⟨d1,d2,d3⟩:=hh.data g hg
  refine⟨d1,λhY=>?_,?_⟩
  ·rcases hY with q|⟨q,_⟩
   ·exact d2 q
   ·have:=hh.qc;omega
  ·rw[iJ g (XD d1 hh.qc) d2];exact d3
 ·have⟨ms,m1,m2,m3⟩:=hk.defers.marks
  exact⟨ms,m1,m2,λb hb=>⟨CM b (bI (m3 b hb).2) (m3 b hb).1,(m3 b hb).2⟩⟩
 ·rcases hg with hg|hg
  ·exact XD (hh.mZ g hg) hs
  ·exact hg.2
 ·exact(hk.site k).eR (Xw _) (λ_ _ _ h=>h) (λ_ _=>rfl) bg
 ·exact(hk.tmp t).eR (Xw _) (λ_ _ _ h=>h) bg
def pT(P:Z4){σ:Type}(V':(Nat->Prop)->σ->W'->Prop)(c:Cx)(ops rest:List Z8)(R:Exit->St->σ->Prop)(st:St)(s:σ):Prop:=
 ∀(m:Nat) (P':Nat->Prop) (a:Act) (w:W') (blk:Nat->Option Nat) (val:Nat->Z3),gG c P' st a w blk val->V' P' s w->
  wpListIn Fence.wide m P ops.toArray (λe a' w'=>∃st' s' Y' aI val',R e st' s'/\gG c Y' st' a' w' aI val'/\V' Y' s' w') rest a w
theorem qF{ops:List Z8}{R:Exit->St->σ->Prop}(h:R .normal st s):pT P V' c ops [] R st s:=λ_ _ _ _ _ _ hh hj=>⟨st,s,_,_,_,h,hh,hj⟩
theorem Jn{ops rest:List Z8}{o:Z8}{st':St}{R:Exit->St->σ->Prop}(hJ:tM V')(hg:o.guard=none)(h:∀c',LZ P c' st o st')(Y:pT P V' c ops rest R st' s):pT P V' c ops (o::rest) R st s:=by
 intro m P' a w blk val hh hj;unfold wpListIn;rw[Xu (by simp[Region.wanted,hg])];refine(h (dO c P' a w blk) a w ⟨blk,val,hh.inner⟩).to ⟨.inl E,rfl⟩ λa' w' ⟨aI,val',hk⟩=>?_;have⟨Y',h1,h2⟩:=hh.after hJ hj hk;exact Y m Y' a' w' aI val' h1 h2
theorem vG{l:List Z8}{id:Nat}{R:Exit->St->σ->Prop}(h:pT P V' c l l R st s):iw P V' c (.region id l.toArray false) R st s:=λm P' a w blk val hh hj=>wpIn_region_lit (h m P' a w blk val hh hj)
def GA(P:Z4){α:Type}(V':(Nat->Prop)->Bool × List α->W'->Prop)(l:Nat)(ok:Nat->Prop)(enc:α->List D)(items:List α):Prop:=
 ∀(P':Nat->Prop) (s:List α) (x:α) (us:List Z3) (A:W'),V' P' (true,s) A->(s++[x]) <+: items->oq A (λb=>ok b\/P' b) (enc x) us->∀m,YieldAt Fence.wide m P l us.toArray A λe B=>
  ∃b,e=.returned (.bool b)/\V' P' (b,s++[x]) B/\A.heap.size<=B.heap.size/\gf A B/\∀g,P' g->B.heap[g]?=A.heap[g]?
theorem pJ{V':(Nat->Prop)->Bool × List α->W'->Prop}{ops rest:List Z8}{R:Exit->St->Bool × List α->Prop}{s:List α}{l:Nat}{enc:α->List D}{items:List α}{x:α}{d:Nat}{fv:Z6}{ys:List Z6}{at_:Array Z5}{ty:Z5}{pos:String}{after:Array Edge}
  (hy:GA P V' l c.ok enc items) (AD:∀(P':Nat->Prop) (t:Bool × List α) (B:W'),V' P' t B->(∀g,P' g->g<B.heap.size)/\∀g,c.ok g->B.heap[g]?=c.w.heap[g]?) (hfv:st.ev fv=.d (.fn (.yield l) [])) (ha:lM st.ev ys (enc x)) (Au:(s++[x]) <+: items) (J:Nat.blt d st.n=true)
  (h:∀b,pT P V' c ops rest R (st.put (some d) (T.bool b)) (b,s++[x])):pT P V' c ops (⟨some d,.call ⟨.value fv,ys.toArray,at_⟩,ty,pos,after,none⟩::rest) R st (true,s):=by
 intro m P' a w blk val hh hj;rw[YB]at J;unfold wpListIn;rw[Xu (by simp[Region.wanted])];have n7:=hh.inner;obtain⟨vs,hv,WC⟩:=FY (show iN w _ (.fn (.yield l) []) (a.eval fv) from by have:=n7.ev fv;rw[hfv]at this;exact this);have hvn:vs=[]:=YQ.1 (by rw[oq.length WC];rfl);subst hvn;have kB:oq w _ (enc x) (ys.map a.eval):=iO (λy=>n7.ev y) ha
 have Vt:oq w (λb=>c.ok b\/P' b) (enc x) (ys.map a.eval):=oq.of (oq.length kB) λj z v h1 h2=>(oq.get kB j z v h1 h2).ok λb hb ho=>by
  rcases ho.1 with q|q
  ·exact q
  ·have:w.heap.size<=b:=q
   omega
 obtain⟨fn,tmps,assign,body,bR,hR⟩:=hy P' s x _ w hj Au Vt (m - 1);refine⟨λf _=>trivial,?_⟩;rw[Oper.semAt_eq _ _ _ (λc hc=>by cases hc)]
 have hex:(execOp a.eval ⟨some d,.call ⟨.value fv,ys.toArray,at_⟩,ty,pos,after,none⟩).run P w=.ok (.round l fn tmps assign body) w:=by
  simp[execOp,resolve,hv,Deferred.ofValue,invoke];exact bR
 rw[hex];refine⟨λNb=>by simp[Fence.wide]at Nb,hR.mono ?_⟩;rintro e B ⟨b,rfl,hJ',hs,qJ,iJ⟩;obtain⟨hY1,hD1⟩:=AD P' _ B hJ'
 have hA:∀(b:Nat) (o:Obj),((c.ok b\/P' b)/\∀s,blk s≠some b)->w.heap[b]?=some o->B.heap[b]?=some o:=λb o hb ho=>by
  rcases hb.1 with q|q
  ·rw[hD1 b q,<-(hh.data b q).2.2];exact ho
  ·rw[iJ b q];exact ho
 have⟨ms,m1,m2,m3⟩:=hh.marks;refine h b m P' _ B blk val ⟨XQ hh.qc hs,λg hg=>⟨(hh.data g hg).1,(hh.data g hg).2.1,hD1 g hg⟩,⟨ms,m1,m2,λb hb=>⟨(m3 b hb).1,by rw[iJ b (m3 b hb).1];exact(m3 b hb).2⟩⟩,hY1,by simpa [Act.put,St.put] using hh.size,hh.new,hh.inj,λk=>(hh.site k).eR hs hA (λb hb=>iJ b (hh.new k b hb)) λ_ _ h=>h,λt=>?_⟩ hJ';rw[vi a d _ t (by rw[hh.size];exact J)];by_cases FQ:t=d
 ·subst FQ
  simp only[St.put,Z0,Yb,Yp];exact iN.v _ E
 ·have hb:Nat.beq t d=false:=by rw[<-XT];exact λe=>FQ (Xq e)
  simp only[St.put,hb,XJ,FQ,YC];exact(hh.tmp t).eR hs hA λ_ _ h=>h
theorem dC{code:Code}{R:Exit->St->σ->Prop}{S:St}(hJ:tM V')(h:∀c',(∀b,c'.mine b->c'.ok b)->c'.uk=none->dG P c' code (λe st'=>e=.normal/\st'=S) st)(k:R .normal S s):iw P V' c code R st s:=
 MC hJ h λe st' ⟨h1,h2⟩=>by subst h1;subst h2;exact k
theorem en{ops rest:List Z8}{o:Z8}{st':St}{R:Exit->St->σ->Prop}(hJ:tM V')(hg:o.guard=none)(h:∀(c':Cx) (ops rest:List Z8) (R:Exit->St->Prop),tj P c' ops rest R st'->tj P c' ops (o::rest) R st)(Y:pT P V' c ops rest R st' s):pT P V' c ops (o::rest) R st s:=
 Jn hJ hg (λc'=>cp hg λops rest R=>h c' ops rest R) Y
theorem lD{x:Code}{R:Exit->St->σ->Prop}{β:Type}(ts ms:List Nat)(sl:β->List (Nat × T))(ss:β->List (Nat × aH))(L:β->σ)(I:β->Prop)(μ:β->Nat)(x0:β)(h0:I x0)(hL:L x0=s)
  (hl:∀c',Le c' st (headSt st ts (sl x0) (ss x0)))
  (Y:∀y,I y->iw P V' c x (λe st' s'=>match e with|.normal=>∃y',I y'/\μ y'<μ y/\s'=L y'/\∀c',Le c' st' (headSt st ts (sl y') (ss y'))|e=>R e st' s') (headSt st ts (sl y) (ss y)) (L y)):iw P V' c (.loop x) R st s:=
 MB (λy=>headSt st ts (sl y) (ss y)) L I μ x0 h0 (λc' _=>hl c') hL λy hy m P' a w blk val hh hj=>wpIn_mono (Y y hy m P' a w blk val hh hj) λe a' w' ⟨st',s',Y',aI,val',hR,vQ,ua⟩=>⟨st',s',Y',aI,val',by
  cases e with
  | normal=>have⟨y',h1,h2,h3,h4⟩:=hR;exact⟨y',h1,h2,h3,λc' _=>h4 c'⟩
  | _=>exact hR,vQ,ua⟩
theorem sC{f:ϋ}{fn:Func}{code:Code}{n:Nat}{pre post:List D}{enc:α->List D}{items:List α}{fin:Bool}(hf:P.funcs[f]?=some fn)(hb:fn.body=some code)(hn:fn.ntmps=n)(qH:fn.results=#[])(hl:Nat.ble (pre.length+1+post.length) n=true)
  (h:∀(V':(Nat->Prop)->Bool × List α->W'->Prop) (c:Cx) (l:Nat),tM V'->GA P V' l c.ok enc items->(∀(P':Nat->Prop) (t:Bool × List α) (B:W'),V' P' t B->(∀g,P' g->g<B.heap.size)/\∀g,c.ok g->B.heap[g]?=c.w.heap[g]?)->(fin=false->∀(P':Nat->Prop) (A:W'),¬V' P' (true,items) A)->
   iw P V' c code (λe _ s=>(e=.ret\/e=.normal)/\(s.1=true->s.2=items)) (jZ n (pre++D.fn (.yield l) []::post)) (true,[])):PI P f pre post enc items fin:=by
 rw[Nat.ble_eq]at hl;intro w ok v1 v2 ML hv2 m l V' W Y0 hJ SU UW qL h0;obtain⟨s0,y0,d0⟩:=SU _ _ _ h0;refine callsIn_of_wp_marks hf hb trivial ?_ E;have CN:∀{ds:List D} {vs:List Z3},oq w ok ds vs->oq W (λb=>(ok b/\b<w.heap.size)\/Y0 b) ds vs:=λh=>oq.of h.length λj d v h1 h2=>((h.get j d v h1 h2).ok (ok':=λb=>ok b/\b<w.heap.size) λb hb h=>⟨h,hb⟩).cr s0 (λb o hb ho=>by rw[(d0 b hb.2 hb.1).1];exact ho) λb hb h=>.inl h
 have kB:oq W (λb=>(ok b/\b<w.heap.size)\/Y0 b) (pre++D.fn (.yield l) []::post) (v1++Value.func (.yield l) #[] #[]::v2):=
  (CN ML).append ⟨iN.fn (.yield l) [] [] E (λj d v h=>by simp at h),CN hv2⟩
 generalize WC:v1++Value.func (.yield l) #[] #[]::v2=vs at kB ⊢;obtain⟨c,hc⟩:∃c:Cx,c=⟨w,λb=>ok b/\b<w.heap.size,λ_=>False,λ_=>none,λ_=>none,none⟩:=⟨_,rfl⟩;have hcw:c.w=w:=by rw[hc]
 have Q9:∀b,c.ok b↔(ok b/\b<w.heap.size):=λb=>by rw[hc]
 have dU:gG c Y0 (jZ n (pre++D.fn (.yield l) []::post)) { tmps:=vs.toArray++Array.replicate (fn.ntmps - vs.toArray.size) undef,defers:=[] } W (λ_=>none) (λ_=>undef):=by
  refine⟨by rw[hcw];exact s0,λg hg=>?_,⟨[],rfl,.nil,λb hb=>by cases hb⟩,y0,?_,λs b h=>(by cases h),λs s' b h=>(by cases h),λs=>rfl,λt=>?_⟩
  ·have⟨h1,h2⟩:=(Q9 g).1 hg
   rw[hcw];exact⟨h2,(d0 g h2 h1).2,(d0 g h2 h1).1⟩
  ·have:=kB.length
   simp at this;simp[jZ,hn];omega
  ·have:=wQ (blk:=λ_=>none) (val:=λ_=>undef) (s:=λ_=>aH.no) (fn.ntmps - vs.toArray.size) (oq.of (ok:=λb=>(c.ok b\/Y0 b)/\∀s:Nat,(none:Option Nat)≠some b) kB.length λj d v h1 h2=>(kB.get j d v h1 h2).ok λb _ hb=>⟨hb.imp (Q9 b).2 id,λs h=>by cases h⟩) t
   have e:(vs.toArray++Array.replicate (fn.ntmps - vs.toArray.size) undef)=(vs++List.replicate (fn.ntmps - vs.toArray.size) undef).toArray:=by simp
   show iV _ _ _ _ _ _ ((vs.toArray++Array.replicate (fn.ntmps - vs.toArray.size) undef).getD t undef)
   rw[e,XN,XY,<-X1];exact this
 refine wpIn_mono (h V' c l hJ (λP' s x us A hj hp Y m'=>UW P' s x us A hj hp (oq.of Y.length λj d v h1 h2=>(Y.get j d v h1 h2).ok λb _ hb=>hb.imp (λq=>((Q9 b).1 q).1) id) m')
  (λP' t B hj=>by
   have⟨_,q2,q3⟩:=SU P' t B hj;refine⟨q2,λg hg=>?_⟩;have⟨h1,h2⟩:=(Q9 g).1 hg;rw[hcw]
   exact(q3 g h2 h1).1) qL (m+1) Y0 _ W _ _ dU h0) λe a w' ⟨st',s',Y',aI,val',hR,hH,hj⟩=>?_
 have JB:LeavesInM Fence.wide (m+1) P fn a.tmps (λe B=>(∃v,e=.returned v)/\∃P' s,V' P' s B/\(s.1=true->s.2=items)) a.defers .returning w':=by
  have⟨ms,m1,m2,m3⟩:=hH.marks;rw[m1];have⟨k1,k2,k3,k4,k5,k6⟩:=zF ms w' m2 λb hb=>(m3 b hb).2;refine gB ms w' m2 (λb hb=>(m3 b hb).2) ⟨.tuple #[],?_,⟨_,rfl⟩,_,s',hJ Y' s' w' (shut ms w') hj (by rw[k2];exact Xw _) ⟨k3,k4,k5⟩ (λg _ hg=>k6 g λhm=>hg (m3 g hm).1),hR.2⟩;simp[results,qH]
 cases e with
 | normal=>exact JB
 | ret=>exact JB
 | exit id=>rcases hR.1 with q|q<;>cases q
 | goto l=>rcases hR.1 with q|q<;>cases q
 | panic c=>rcases hR.1 with q|q<;>cases q
 | outgrown=>rcases hR.1 with q|q<;>cases q
def GP(sl:List (Nat × T))(t:Nat):T:=match lookN t sl with|some x=>x|none=>.dead
def siteOf(ss:List (Nat × aH))(k:Nat):aH:=match lookN k ss with|some x=>x|none=>.no
def kZ(n:Nat)(sl:List (Nat × T))(ss:List (Nat × aH)):St:={ n:=n,t:=GP sl,s:=siteOf ss }
def P8(Si:List (Nat × Nat))(k:Nat):Nat:=match lookN k Si with|some j=>j|none=>k
def AG{α:Type}(k:Nat)(ss:List (Nat × α)):Bool:=match lookN k ss with|some _=>true|none=>false
def Ur(ss:List (Nat × aH)):T->Bool
 | .ref k _=>AG k ss
 | .rs k=>AG k ss
 | .own k _ _ _=>AG k ss
 | _=>true
def siteK(ss:List (Nat × aH)):aH->Bool
 | .cn cs=>cs.all (Ur ss)
 | _=>true
def memK(k:Nat)(g:Nat->Nat):List (Nat × aH)->Bool
 | []=>false
 | p::ps=>Nat.beq k (g p.1)||memK k g ps
def z7(g:Nat->Nat):List (Nat × aH)->Bool
 | []=>true
 | p::ps=>!memK (g p.1) g ps&&z7 g ps
def cOk(g:Nat->Nat)(sl:List (Nat × T))(ss:List (Nat × aH)):Bool:=sl.all (λp=>Ur ss p.2)&&ss.all (λp=>siteK ss p.2)&&z7 g ss
def El(s:St)(g:Nat->Nat):List (Nat × T)->Prop
 | []=>True
 | p::ps=>s.t p.1=shiftT g p.2/\El s g ps
def zk(s:St)(g:Nat->Nat):List (Nat × aH)->Prop
 | []=>True
 | p::ps=>s.s (g p.1)=shiftS g p.2/\zk s g ps
theorem El.mem{s:St}{g:Nat->Nat}:∀{l:List (Nat × T)},El s g l->∀p∈l,s.t p.1=shiftT g p.2
 | [],_,p,h=>by cases h
 | q::l,h,p,hp=>by
  rcases Xy.1 hp with rfl|hp
  ·exact h.1
  ·exact El.mem h.2 p hp
theorem zk.mem{s:St}{g:Nat->Nat}:∀{l:List (Nat × aH)},zk s g l->∀p∈l,s.s (g p.1)=shiftS g p.2
 | [],_,p,h=>by cases h
 | q::l,h,p,hp=>by
  rcases Xy.1 hp with rfl|hp
  ·exact h.1
  ·exact zk.mem h.2 p hp
theorem z9{g:Nat->Nat}{k:Nat}{z:aH}:∀{l:List (Nat × aH)},(k,z)∈l->memK (g k) g l=true
 | [],h=>by cases h
 | q::l,h=>by
  simp only[memK,X3];rcases Xy.1 h with rfl|h
  ·exact .inl (Z0 _)
  ·exact .inr (z9 h)
theorem tA{g:Nat->Nat}{k k':Nat}{z z':aH}:∀{l:List (Nat × aH)},z7 g l=true->(k,z)∈l->(k',z')∈l->g k=g k'->k=k'
 | [],_,h,_,_=>by cases h
 | q::l,h,h1,h2,e=>by
  simp only[z7,Xs,Yg]at h;rcases Xy.1 h1 with e1|h1<;>rcases Xy.1 h2 with e2|h2
  ·have:=e1.trans e2.symm;cases this;rfl
  ·have:=z9 (g:=g) h2
   rw[<-e,show k=q.1 by rw[<-e1],h.1]at this;cases this
  ·have:=z9 (g:=g) h1
   rw[e,show k'=q.1 by rw[<-e2],h.1]at this;cases this
  ·exact tA h.2 h1 h2 e
theorem Ld{c:Cx}{s:St}{n:Nat}(g:Nat->Nat)(sl:List (Nat × T))(ss:List (Nat × aH))(hn:s.n=n)(hT:El s g sl)(hS:zk s g ss)(bg:cOk g sl ss=true)(FU:∀k b,c.kU k=some b->g k=k/\AG k ss=true):Le c s (kZ n sl ss):=by
 subst hn;simp only[cOk,Xs]at bg;have⟨⟨o1,o2⟩,o3⟩:=bg;intro a w ⟨blk,val,hh⟩;obtain⟨aI,Nj⟩:∃aI:Nat->Option Nat,aI=λk=>match lookN k ss with|some _=>blk (g k)|none=>none:=⟨_,rfl⟩
 have hb:∀k b,aI k=some b->blk (g k)=some b/\∃z,lookN k ss=some z:=λk b h=>by
  rw[Nj]at h
  cases hl:lookN k ss with
  | none=>simp[hl]at h
  | some z=>simp[hl]at h;exact⟨h,z,rfl⟩
 have vN:∀b,b<w.heap.size->fN c blk b->fN c aI b:=λb _ bY=>⟨bY.1,λk hk=>bY.2 _ (hb k b hk).1⟩
 have key:∀k,AG k ss=true->aI k=blk (g k)/\s.s (g k)=shiftS g (siteOf ss k):=λk hk=>by
  unfold AG at hk
  cases hl:lookN k ss with
  | none=>rw[hl]at hk;cases hk
  | some z=>
   refine⟨by rw[Nj];simp[hl],?_⟩;simp only[siteOf,hl];exact hS.mem _ (eD hl)
 have O8:∀x:T,Ur ss x=true->∀k,(x=.rs k\/(∃o,x=.ref k o)\/∃r f g,x=.own k r f g)->aI k=blk (g k)/\val (g k)=val (g k)/\s.s (g k)=shiftS g (siteOf ss k):=λx hx k hk=>by
  have:AG k ss=true:=by
   rcases hk with rfl|⟨o,rfl⟩|⟨_,_,_,rfl⟩
   ·exact hx
   ·exact hx
   ·exact hx
  exact⟨(key k this).1,rfl,(key k this).2⟩
 refine⟨aI,λk=>val (g k),hh.ext,hh.defers,hh.size,λk b h=>hh.new _ b (hb k b h).1,λk k' b h h'=>?_,λk b h=>?_,λk=>?_,λt=>?_⟩
 ·have⟨h1,z,hz⟩:=hb k b h
  have⟨C1,z',hz'⟩:=hb k' b h';exact tA o3 (eD hz) (eD hz') (hh.inj _ _ b h1 C1)
 ·have⟨p1,p2,p3⟩:=hh.kU k b h
  have⟨e1,e2⟩:=FU k b h;have⟨k1,k2⟩:=key k e2;rw[e1]at k1 k2;refine⟨by rw[k1];exact p1,?_,p3⟩;show (siteOf ss k).isVar=true
  rw[k2]at p2
  cases hz:siteOf ss k<;>rw[hz]at p2<;>first|rfl|cases p2
 ·show ml w _ aI _ (siteOf ss) (aI k) _ (siteOf ss k)
  cases hl:lookN k ss with
  | none=>
   have e1:aI k=none:=by rw[Nj];simp[hl]
   have e2:siteOf ss k=.no:=by simp[siteOf,hl]
   rw[e1,e2];rfl
  | some z=>
   have hz:siteOf ss k=z:=by simp[siteOf,hl]
   have h1:=hh.site (g k);obtain⟨k1,k2⟩:=key k (by simp[AG,hl]);rw[k2,hz]at h1;rw[k1,hz];refine h1.ix vN λcs ep y hy j hj=>O8 y ?_ j hj;have:=X0.1 o2 _ (eD hl);rw[ep]at this;exact X0.1 (by simpa [siteK] using this) y hy
 ·have h1:=hh.tmp t
  show iV w _ aI _ (siteOf ss) (GP sl t) _
  cases hl:lookN t sl with
  | none=>simp only[GP,hl];trivial
  | some x=>
   simp only[GP,hl];rw[hT.mem _ (eD hl)]at h1;exact h1.ix vN (O8 x (by have:=X0.1 o1 _ (eD hl);exact this))
theorem QH{c:Cx}{st:St}(k j o e sz:Nat){cs:List D}(hs:st.s k=.box cs)(hj:st.s j=.no)(ho:cs[o]?=some (.v (.slice none 0 0))) :
  Le c st ((st.site j (.row e sz [])).site k (.cn ((cs.map T.d).set o (.rs j)))):=by
 intro a w ⟨blk,val,hh⟩;have eW:∀i,st.s i≠.no->Nat.beq i j=false:=λi hi=>by rw[<-XT];intro h;rw[Xq h]at hi;exact hi hj
 have hkj:Nat.beq k j=false:=eW k (by rw[hs];simp);have S0:blk j=none:=by have:=hh.site j;rw[hj]at this;exact this
 obtain⟨val',MK⟩:∃val':Nat->Z3,val'=λi=>bif Nat.beq i j then .slice none 0 0 else val i:=⟨_,rfl⟩
 have ai2:∀i,Nat.beq i j=false->val' i=val i:=λi hi=>by rw[MK];simp[hi]
 have eT:∀i,((st.site j (.row e sz [])).site k (.cn ((cs.map T.d).set o (.rs j)))).s i=bif Nat.beq i k then .cn ((cs.map T.d).set o (.rs j)) else bif Nat.beq i j then .row e sz [] else st.s i:=λi=>rfl
 have dW:∀i,st.s i≠.no->val' i=val i/\((st.site j (.row e sz [])).site k (.cn ((cs.map T.d).set o (.rs j)))).s i≠.no/\((∃e' ug es',st.s i=.row e' ug es')->∃e' ug es',((st.site j (.row e sz [])).site k (.cn ((cs.map T.d).set o (.rs j)))).s i=.row e' ug es'):=λi hi=>by
  refine⟨ai2 i (eW i hi),?_,?_⟩
  ·rw[eT]
   cases Nat.beq i k
   ·simp only[XJ,eW i hi];exact hi
   ·simp
  ·rintro ⟨e',ug,es',h⟩
   rw[eT]
   cases FX:Nat.beq i k with
   | false=>simp only[XJ,eW i hi];exact⟨e',ug,es',h⟩
   | true=>rw[Xq FX,hs]at h;cases h
 have hT:∀(x:T) (v:Z3),iV w (fN c blk) blk val st.s x v->iV w (fN c blk) blk val' ((st.site j (.row e sz [])).site k (.cn ((cs.map T.d).set o (.rs j)))).s x v:=λx v h=>by
  cases x with
  | ref i _=>
   have⟨q1,q2⟩:=h;exact⟨(dW i q1).2.1,q2⟩
  | rs i=>
   have⟨⟨e',ug,es',q1⟩,q2⟩:=h;obtain⟨r1,_,r3⟩:=dW i (by rw[q1];simp);exact⟨r3 ⟨e',ug,es',q1⟩,by rw[r1];exact q2⟩
  | own i r _ _=>
   have⟨⟨⟨q0,q1⟩,qo⟩,q2⟩:=h;have⟨r1,r2,r3⟩:=dW i q0;exact⟨⟨⟨r2,λY=>r3 (q1 Y)⟩,qo⟩,by rw[r1];exact q2⟩
  | _=>exact h
 refine⟨blk,val',hh.ext,hh.defers,hh.size,hh.new,hh.inj,λi b h=>?_,λi=>?_,λt=>hT _ _ (hh.tmp t)⟩
 ·have⟨p1,p2,p3⟩:=hh.kU i b h
  refine⟨p1,?_,p3⟩;rw[eT]
  cases FX:Nat.beq i k with
  | true=>rfl
  | false=>simp only[XJ,eW i (by intro h0;rw[h0]at p2;cases p2)];exact p2
 ·rw[eT]
  have h1:=hh.site i
  cases FX:Nat.beq i k with
  | true=>
   have aB1:=Xq FX;subst aB1;rw[hs]at h1;obtain⟨b,e0,aK,h1,h2,h3,h4,h5⟩:=h1;simp only[Yb];refine⟨b,e0,aK,h1,h2,by simpa using h3,λm x hx=>?_⟩;rw[List.getElem?_set]at hx;by_cases hom:o=m
   ·subst hom
    rw[Xu E]at hx
    split at hx
    ·cases hx
     obtain⟨v,hv,Y⟩:=h5 o _ ho;have J2:=iN.c8 Y;subst J2;refine⟨_,hv,rfl,⟨e,sz,[],?_⟩,by rw[MK];simp⟩;rw[eT];have:Nat.beq j i=false:=by rw[<-XT];intro h;rw[Xq h,hs]at hj;cases hj
     rw[this];simp
    ·cases hx
   ·rw[Xr hom,XF]at hx
    cases hm:cs[m]? with
    | none=>rw[hm]at hx;cases hx
    | some d=>
     rw[hm]at hx;cases hx
     obtain⟨v,hv,Y⟩:=h5 m d hm;exact⟨v,hv,Y.one (h4 m d hm),Y⟩
  | false=>
   simp only[XJ]
   cases SV:Nat.beq i j with
   | true=>
    have aB2:=Xq SV;subst aB2;simp only[Yb];refine⟨λm x hx=>by simp at hx,λm x n d hx=>by simp at hx,.inl ⟨S0,rfl,by rw[MK];simp⟩⟩
   | false=>
    simp only[XJ];rw[ai2 i SV]
    cases hz:st.s i with
    | no=>rw[hz]at h1;exact h1
    | box ds=>rw[hz]at h1;exact h1
    | cn ts=>
     rw[hz]at h1;obtain⟨b,e0,aK,h1,h2,h3,h5⟩:=h1;exact⟨b,e0,aK,h1,h2,h3,λm x hx=>let ⟨v,hv,ho,Y⟩:=h5 m x hx;⟨v,hv,ho,hT x v Y⟩⟩
    | row e1 sz1 es1=>rw[hz]at h1;exact h1
    | mp es1 c1=>rw[hz]at h1;exact h1
def UR(p:Nat × aH):Nat × Bool:=(p.1,p.2.isVar)
theorem pv:∀{l l':List (Nat × aH)},l.map UR=l'.map UR->∀k,(siteOf l k).isVar=(siteOf l' k).isVar
 | [],[],_,_=>rfl
 | [],_::_,h,_=>by cases h
 | _::_,[],h,_=>by cases h
 | p::l,q::l',h,k=>by
  simp only[Yd,ZK,UR,ZM]at h;have⟨⟨h1,h2⟩,h3⟩:=h;have ih:=pv h3 k;simp only[siteOf]at ih ⊢;simp only[lookN,h1]
  cases Nat.beq k q.1
  ·exact ih
  ·exact h2
def R8(N:Nat)(ss:List (Nat × aH)):List (Nat × aH):=ss.map λp=>(N+p.1,shiftS (N + ·) p.2)
theorem Cr{N k:Nat}:∀{ss:List (Nat × aH)},lookN k (R8 N ss)=if N<=k then (lookN (k - N) ss).map (shiftS (N + ·)) else none
 | []=>by simp[R8,lookN]
 | p::ss=>by
  have ih:=Cr (N:=N) (k:=k) (ss:=ss);simp only[R8,Yd,lookN]at ih ⊢;by_cases hk:k=N+p.1
  ·subst hk
   simp[Z0]
  ·have h1:Nat.beq k (N+p.1)=false:=by rw[<-XT];exact λe=>hk (Xq e)
   rw[h1,XJ,ih];by_cases hN:N<=k
   ·have h2:Nat.beq (k - N) p.1=false:=by rw[<-XT];intro e;have:=Xq e;omega
    rw[h2,XJ]
   ·simp[hN]
theorem Pv{N n:Nat}{st:St}{ss:List (Nat × aH)}(hn:st.n=n):ja N (gV st (siteOf ss))=kZ n [] (R8 N ss):=by
 subst hn;simp only[ja,gV,kZ,St.mk.injEq,Zx];refine⟨rfl,funext λk=>?_⟩;simp only[xR,siteOf,Cr]
 cases hb:Nat.ble N k with
 | true=>
  have:=Nat.le_of_ble_eq_true hb;rw[Xu this]
  cases lookN (k - N) ss<;>rfl
 | false=>
  have:¬N<=k:=λh=>by rw[(by rw[Nat.ble_eq];exact h:Nat.ble N k=true)]at hb;cases hb
  rw[Xr this];rfl
def UD(N:Nat)(Si:List (Nat × Nat))(ss ss':List (Nat × aH)):Bool:=ss.all λp=>!p.2.isVar||(Nat.beq (P8 Si (N+p.1)) (N+p.1)&&AG (N+p.1) ss')
theorem jA{c:Cx}{s:St}{N n:Nat}{sl:List (Nat × T)}{ss0:List (Nat × aH)}(Si:List (Nat × Nat))(ss:List (Nat × aH))(FU:∀k b,c.kU k=some b->(Nat.ble N k&&((kZ n sl ss0).s (k - N)).isVar)=true)(hn:s.n=n)(hS:zk s (P8 Si) (R8 N ss))(bg:(cOk (P8 Si) [] (R8 N ss)&&UD N Si ss0 (R8 N ss))=true) :
  Le c s (ja N (gV (kZ n sl ss0) (siteOf ss))):=by
 rw[Xs]at bg;rw[Pv (n:=n) E];refine Ld (P8 Si) [] (R8 N ss) hn trivial hS bg.1 λk b hk=>?_;have h1:=FU k b hk;rw[Xs]at h1;have hN:=Nat.le_of_ble_eq_true h1.1;have h2:(siteOf ss0 (k - N)).isVar=true:=h1.2
 cases hl:lookN (k - N) ss0 with
 | none=>simp[siteOf,hl]at h2;cases h2
 | some z=>
  simp only[siteOf,hl]at h2;have h3:=X0.1 bg.2 _ (eD hl);simp only[h2,Y1,ZN,Xs]at h3;rw[show N+(k - N)=k by omega]at h3;exact⟨Xq h3.1,h3.2⟩
theorem Ap{P:Z4}{σ:Type}{V':(Nat->Prop)->σ->W'->Prop}{c:Cx}{code:Code}{R:Exit->St->σ->Prop}{st:St}{s:σ}{t sz:Nat}{es:List (List D)}(h:st.t t=.d (.sl sz es))(hk:es.length<=9223372036854775807->iw P V' c code R st s):iw P V' c code R st s:=by
 intro m P' a w blk val hh hj;refine hk ?_ m P' a w blk val hh hj;have h1:=hh.tmp t;rw[h]at h1;obtain⟨A,cap,_,hn,ez,_⟩:=kO (show iN w _ (.sl sz es) _ from h1);unfold maxLen at ez;omega
end
section
variable{P:Z4}{w0:Cx}{n:Nat}{s:Nat->aH}{ev:Z6->T}{dst:Option Tmp}{ty:Z5}{pos:String}{after:Array Edge}{g:Option (Nat × Bool)}
theorem qk{t m e sz:Nat}{z:Z3}{parts:List (Nat × Z6)}{pA:List (Nat × D)}{cs:List D}(hp:arB P t m e sz=true)(hz:eC P t z)(h1:z.cells.toList.all Value.oneCell'=true)
  (FV:pR ev parts pA) (bg:wF (λi=>some (i*sz,sz)) (dK z).length pA) (ep:fillD (λi=>some (i*sz,sz)) (dK z) pA=cs):QOp P w0 n s ev ⟨dst,.build t parts.toArray,ty,pos,after,g⟩ (.d (.agg cs)):=
 .mk λa w ok blk val h _ qW=>by
  subst ep;have⟨eA,eM⟩:=mb (w:=w) (ok:=ok) h1;have⟨out,k1,k2,k3⟩:=rk h (pl:=λi=>some (i*sz,sz)) (cells:=z.cells) FV eA eM bg;refine⟨.agg out,w,?_,Ext.refl w,?_⟩
  ·have⟨i,hi,eQ⟩:=lJ hp
   have hc:P.cellsOf e=sz:=by simp[Program.cellsOf,hi,eQ]
   have Y:=tu (P:=P) (t:=e) (by rw[hi];rfl) w;rw[hc]at Y;simp only[execOp,Instr.build,Sem.run_bind,iE hz,Result.andThen_ok,run_underlying (iq hp),Y];have:(parts.toArray.map λ(x:Nat × Z6)=>(x.1,a.eval x.2)).toList=parts.map λ(i,y)=>(i,a.eval y):=by simp
   rw[this];simp only[k1];simp
  ·have:=iN.agg (w:=w) (ok:=ok) _ out.toList k2.length (λj d J=>k3 d (XA J)) λj d v h1 h2=>k2.get j d v h1 h2
   show iN _ _ _ _
   simpa using this
theorem ur{t t':Z5}{y:Z6}{k k':IntKind}{i j:Int}(ht:vH P t k'=true)(mn:vH P t' k=true)(hy:ev y=.d (.v (.int k' i)))(h:k.wrap i=j):QOp P w0 n s ev ⟨dst,.convert t t' y,ty,pos,after,g⟩ (.d (.v (.int k j))):=by
 subst h;exact Qg ht mn hy
theorem Uw{t t':Z5}{x y:Z6}{k yk:IntKind}{a b c:Int}(hx:ev x=.d (.v (.int k a)))(hy:ev y=.d (.v (.int yk b)))(h:0<=b/\a.fdiv (2 ^ (min b.toNat k.bits))=c):QOp P w0 n s ev ⟨dst,.binOp .shr t x y t',ty,pos,after,g⟩ (.d (.v (.int k c))):=
 wi hx hy (λw=>by
  have⟨h1,h2⟩:=h
  simp[eqGuard,binOp,Op.shift,show ¬b<0 by omega,h2]) E
def kV(k:IntKind)(x:Int):D:=.v (.int k x)
def kW(k:IntKind)(x:Int):Z3:=.int k x
def EqK(P:Z4)(k:IntKind)(t m:Nat):Prop:=∀(xs ys:List Int),xs.length=m->ys.length=m->∀w,
 (∀x y,(eqGuard .eql t x y (.agg (xs.map (kW k)).toArray) (.agg (ys.map (kW k)).toArray)).run P w=.ok () w)/\(∀x y,(eqGuard .neq t x y (.agg (xs.map (kW k)).toArray) (.agg (ys.map (kW k)).toArray)).run P w=.ok () w)/\
 (Op.equalIn 10000 t (.agg (xs.map (kW k)).toArray) (.agg (ys.map (kW k)).toArray)).run P w=.ok (decide (xs=ys)) w
theorem zf{w:W'}{ok:Nat->Prop}{k:IntKind}{xs:List Int}{v:Z3}(h:iN w ok (.agg (xs.map (kV k))) v):v=.agg (xs.map (kW k)).toArray:=by
 obtain⟨vs,rfl,hL,_⟩:=oD h;congr 2
 have:∀(xs:List Int) (vs:List Z3),oq w ok (xs.map (kV k)) vs->vs=xs.map (kW k):=by
  intro xs
  induction xs with
  | nil=>intro vs h;cases vs with
   | nil=>rfl
   | cons=>exact h.elim
  | cons x xs ih=>
   intro vs h
   cases vs with
   | nil=>exact h.elim
   | cons v vs=>
    have⟨h1,h2⟩:=h;rw[ih vs h2,iN.c8 h1];rfl
 exact this xs vs hL
theorem Uz{t t':Z5}{x y:Z6}{k:IntKind}{m:Nat}{xs ys:List Int}(hE:EqK P k t m)(hx:ev x=.d (.agg (xs.map (kV k))))(hy:ev y=.d (.agg (ys.map (kV k))))(CC:xs.length=m)(hyl:ys.length=m):QOp P w0 n s ev ⟨dst,.binOp .eql t x y t',ty,pos,after,g⟩ (T.bool (decide (xs=ys))):=
 .mk λa w ok blk val h _ qW=>by
  have e1:=zf (show iN w _ (.agg (xs.map (kV k))) (a.eval x) by have:=h x;rw[hx]at this;exact this);have e2:=zf (show iN w _ (.agg (ys.map (kV k))) (a.eval y) by have:=h y;rw[hy]at this;exact this);have⟨g1,_,g3⟩:=hE xs ys CC hyl w;exact⟨_,w,by simp only[execOp,e1,e2,Sem.run_bind,g1,Result.andThen_ok,run_eql_struct,g3];rfl,Ext.refl w,.v _ E⟩
end
section
variable{P:Z4}{α σ:Type}{V':(Nat->Prop)->σ->W'->Prop}{c:Cx}{st:St}{a:Act}{w A B:W'}{blk:Nat->Option Nat}{val:Nat->Z3}{P':Nat->Prop}{s:σ}
theorem gG.GK{ops:List Z8}{o:Z8}{j d:Nat}{g b:Bool}(hh:gG c P' st a w blk val)(hg:o.guard=some (j,b))(hj:(ops[j]?).bind (·.dst)=some d)(ht:st.t d=T.bool g)(J:Nat.blt d st.n=true) :
  Region.wanted o (yielded ops.toArray a.tmps)=(g==b):=by
 rw[YB]at J;have hv:=hh.tmp d;rw[ht]at hv;have hv:=iN.c8 hv;have hs:d<a.tmps.size:=by rw[hh.size];exact J
 have hy:yielded ops.toArray a.tmps j=some g:=by
  unfold yielded;rw[XY,hj];simp only[Zv];rw[X4 hs]
  have:a.tmps[d]=.bool g:=by
   rw[<-hv];simp[Array.getD,hs]
  rw[this]
 simp only[Region.wanted,hg,hy]
 cases g<;>cases b<;>rfl
theorem n5{ops rest:List Z8}{o:Z8}{R:Exit->St->σ->Prop}{j d:Nat}{g b:Bool}(hg:o.guard=some (j,b))(hj:(ops[j]?).bind (·.dst)=some d)(ht:st.t d=T.bool g)(J:Nat.blt d st.n=true)(hgb:(g==b)=false)
  (Vo:∀d,o.dst=some d->d<st.n) (Y:pT P V' c ops rest R (st.put o.dst .un) s):pT P V' c ops (o::rest) R st s:=by
 intro m P' a w blk val hh ua;unfold wpListIn;rw[Xr (by rw[hh.GK hg hj ht J,hgb];simp)];refine⟨λf _=>trivial,?_⟩;refine Y m P' _ w blk val ?_ ua
 cases ho:o.dst with
 | none=>exact hh
 | some q=>
  have hq:=Vo q ho;refine⟨hh.qc,hh.data,hh.marks,hh.mZ,by simpa [Act.put,St.put] using hh.size,hh.new,hh.inj,hh.site,λt=>?_⟩;rw[vi a q _ t (by rw[hh.size];exact hq)];by_cases FQ:t=q
  ·subst FQ
   simp only[St.put,Z0,Yb,Yp];exact rfl
  ·have hb:Nat.beq t q=false:=by rw[<-XT];exact λe=>FQ (Xq e)
   simp only[St.put,hb,XJ,FQ,YC];exact hh.tmp t
theorem FM{ops rest:List Z8}{dst:Option Tmp}{op:Op}{ty:Z5}{pos:String}{after:Array Edge}{R:Exit->St->σ->Prop}{j d:Nat}{b:Bool}{x:T}(hJ:tM V')(hj:(ops[j]?).bind (·.dst)=some d)(ht:st.t d=T.bool b)(J:Nat.blt d st.n=true)
  (Vo:∀d,dst=some d->d<st.n) (h:∀c':Cx,QOp P c' st.n st.s st.ev ⟨dst,op,ty,pos,after,some (j,b)⟩ x) (Y:pT P V' c ops rest R (st.put dst x) s):pT P V' c ops (⟨dst,op,ty,pos,after,some (j,b)⟩::rest) R st s:=by
 intro m P' a w blk val hh ua;unfold wpListIn;rw[Xu (by rw[hh.GK E hj ht J];simp)];refine(h (dO c P' a w blk) st a w ⟨blk,val,hh.inner⟩ (Sub.refl _ _) E (λ_=>.inr E) Vo).to ⟨.inl E,rfl⟩ λa' w' ⟨aI,val',hk⟩=>?_;have⟨Y',h1,h2⟩:=hh.after hJ ua hk;exact Y m Y' a' w' aI val' h1 h2
theorem Cy{V':(Nat->Prop)->Bool × List α->W'->Prop}{ops rest:List Z8}{R:Exit->St->Bool × List α->Prop}{s:List α}{l:Nat}{enc:α->List D}{items:List α}{x:α}{d j dj:Nat}{gb:Bool}{fv:Z6}{ys:List Z6}{at_:Array Z5}{ty:Z5}{pos:String}{after:Array Edge}
  (hj:(ops[j]?).bind (·.dst)=some dj) (ht:st.t dj=T.bool gb) (Nd:Nat.blt dj st.n=true)
  (hy:GA P V' l c.ok enc items) (AD:∀(P':Nat->Prop) (t:Bool × List α) (B:W'),V' P' t B->(∀g,P' g->g<B.heap.size)/\∀g,c.ok g->B.heap[g]?=c.w.heap[g]?) (hfv:st.ev fv=.d (.fn (.yield l) [])) (ha:lM st.ev ys (enc x)) (Au:(s++[x]) <+: items) (J:Nat.blt d st.n=true)
  (h:∀b,pT P V' c ops rest R (st.put (some d) (T.bool b)) (b,s++[x])):pT P V' c ops (⟨some d,.call ⟨.value fv,ys.toArray,at_⟩,ty,pos,after,some (j,gb)⟩::rest) R st (true,s):=by
 intro m P' a w blk val hh hJ0;have h1:=pJ (ops:=ops) (rest:=rest) (R:=R) (ty:=ty) (pos:=pos) (after:=after) (at_:=at_) hy AD hfv ha Au J h m P' a w blk val hh hJ0;unfold wpListIn at h1 ⊢;rw[Xu (by simp[Region.wanted])]at h1;rw[Xu (by rw[hh.GK E hj ht Nd];simp)];exact h1
theorem Qe{w0:Cx}{n:Nat}{sx:Nat->aH}{ev:Z6->T}{dst:Option Tmp}{ty:Z5}{pos:String}{after:Array Edge}{g:Option (Nat × Bool)}{c y z:Z6}{q:Bool}(hc:ev c=T.bool false)(hz:ev z=T.bool q):QOp P w0 n sx ev ⟨dst,.pick c y z,ty,pos,after,g⟩ (T.bool q):=
 .mk λa w ok blk val h _ qW=>by
  refine⟨.bool q,w,?_,Ext.refl w,iN.v _ E⟩;have h1:=h c;rw[hc]at h1;have h1:=iN.c8 h1;have h2:=h z;rw[hz]at h2;have h2:=iN.c8 h2;simp only[execOp,h1,h2,asBool];rfl
variable{w0:Cx}
theorem tB(k j o:Nat){cs:List T}{e sz:Nat}{es:List (List D)}(hk:st.s k=.cn cs)(ho:cs[o]?=some (.rs j))(hs:st.s j=.row e sz es)(M4:Nat.blt j st.n=true)(hm:∀b,w0.mine b->w0.ok b) :
  Le w0 st ((headSt st [j] [] []).site k (.cn ((cs.map (killT [j])).set o (.d (.sl sz es))))):=by
 intro a w ⟨blk,val,hh⟩;have hH:qx w0 (headSt st [j] [] []) a w (dI [j] [] blk) val:=zv (ms:=[]) (Out.refl st) (by simp) (by simp) (by intro k h;cases h) (by intro p h;cases h) rfl (by simpa using M4) hh
 have hkj:memN k [j]=false:=by
  cases h:memN k [j] with
  | false=>rfl
  | true=>
   simp[memN]at h;have:=h;subst this;rw[hk]at hs;cases hs
 have tY:(headSt st [j] [] []).s k=.cn (cs.map (killT [j])):=by
  simp only[headSt,lookN,hkj,XJ,hk,killSite]
 have h1:=hh.site k;rw[hk]at h1;have⟨b1,e1,aG9,p1,p2,p3,p4⟩:=h1;obtain⟨v,hv,Av,_,hvj⟩:=p4 o _ ho;have h2:=hh.site j;rw[hs]at h2;have⟨a1,a2,a3⟩:=h2
 have bg:∀c,fN w0 blk c->fN w0 (dI [j] [] blk) c:=λc ⟨q1,q2⟩=>⟨q1,λi hi=>by
  simp only[dI,lookN]at hi
  cases hm:memN i [j]<;>rw[hm]at hi
  ·exact q2 i hi
  ·cases hi⟩
 have MQ:iN w (fN w0 (dI [j] [] blk)) (.sl sz es) v:=by
  rcases a3 with ⟨_,he,dD⟩|⟨b,aK,cap,hb,dD,hn,ez,vQ,eQ,hc⟩
  ·rw[hvj,dD,he];exact .emp sz none 0 (XC _)
  ·have MT : fN w0 (dI [j] [] blk) b := by
    refine⟨(hh.new j b hb).1.elim .inr (λh=>.inl (hm b h)),λi hi=>?_⟩;simp only[dI,lookN]at hi
    cases hmi:memN i [j]<;>rw[hmi]at hi
    ·have:=hh.inj i j b hi hb
     subst this;simp[memN]at hmi
    ·cases hi
   rw[hvj,dD]
   exact .sl sz es b 0 cap (λi j=>aK.getD (i*sz+j) undef) (bI vQ) MT hn ez a1 a2 (λi x j d hi hj=>by
    obtain⟨v,hv,_⟩:=hc i x j d hi hj;rw[cell_of_block vQ,XK,hv,cO hv]) (λi x j d hi hj=>by
    obtain⟨v,hv,Y⟩:=hc i x j d hi hj
    rw[cO hv];exact Y.ok λ_ _ h=>bg _ h)
 refine⟨_,_,hH.E9 ?_ (by simp) (λe sz es q=>by rw[tY]at q;cases q)⟩;have h3:=hH.site k;rw[tY]at h3;have⟨b,e',aK,q1,q2,q3,q4⟩:=h3
 have WY:b=b1:=by
  have:dI [j] [] blk k=blk k:=by simp only[dI,lookN,hkj,XJ]
  rw[this,p1]at q1;cases q1;rfl
 subst WY;rw[p2]at q2
 cases q2
 refine⟨b,_,_,q1,p2,by simpa using q3,λi x hx=>?_⟩;rw[List.getElem?_set]at hx;by_cases hi:o=i
 ·subst hi
  split at hx
  ·split at hx
   ·cases hx;exact⟨v,hv,Av,MQ⟩
   ·cases hx
  ·exact absurd E ‹_›
 ·rw[Xr hi]at hx
  exact q4 i x hx
theorem HM(k:Nat){ts:List T}(cs:List D)(hk:st.s k=.cn ts)(ht:ts=cs.map T.d)(jO:∀(j:Nat) (d:D),cs[j]?=some d->d.sc=true):Le w0 st (st.site k (.box cs)):=by
 subst ht;intro a w ⟨blk,val,hh⟩;refine⟨blk,val,hh.E9 ?_ (by simp) (λe sz es q=>by rw[hk]at q;cases q)⟩;have h:=hh.site k;rw[hk]at h;have⟨b,e,aK,h1,h2,h3,h4⟩:=h;refine⟨b,e,aK,h1,h2,by simpa using h3,jO,λj d hj=>?_⟩;obtain⟨v,hv,_,Y⟩:=h4 j (.d d) (by rw[XF,hj];rfl);exact⟨v,hv,Y⟩
def Bp(k:Nat)(f g:List D):List T:=f.map T.d ++ .rs k::g.map T.d
theorem RQ{w:W'}{ok:Nat->Prop}{blk:Nat->Option Nat}{val:Nat->Z3}{s:Nat->aH}{k:Nat}{f g:List D}{vs:List Z3}(h:fJ w ok blk val s (Bp k f g) vs):iV w ok blk val s (.ag k f g) (.agg vs.toArray):=by
 have hk:(Bp k f g)[f.length]?=some (.rs k):=by unfold Bp;rw[XM (by simp)];simp
 obtain⟨v,hv,_,Y⟩:=h.at_ _ _ hk;have⟨h1,h2⟩:=Y;subst h2;have hl:=h.len;have hl':(Bp k f g).length=f.length+(g.length+1):=by unfold Bp;simp
 refine⟨⟨⟨(by have⟨e,sz,es,q⟩:=h1;rw[q];simp),λ_=>h1⟩,λh=>by cases h⟩,vs.take f.length++vs.drop (f.length+1),oq.of (by simp;omega) λj d u J hu=>?_,?_⟩
 ·by_cases hj:j<f.length
  ·rw[XZ hj]at J
   rw[XZ (by rw[Ya];omega),Yq,Xu hj]at hu;have hx:(Bp k f g)[j]?=some (.d d):=by unfold Bp;rw[XZ (by simpa using hj),XF,J];rfl
   obtain⟨v,yJ,_,Y⟩:=h.at_ _ _ hx;rw[hu]at yJ;cases yJ
   exact Y
  ·rw[XM (by omega)]at J
   rw[XM (by rw[Ya];omega),Ya,Nat.min_eq_left (by omega),Yk]at hu
   have hx:(Bp k f g)[f.length+1+(j - f.length)]?=some (.d d):=by
    unfold Bp;rw[XM (by simp;omega),Xo,show f.length+1+(j - f.length) - f.length=(j - f.length)+1 by omega,List.getElem?_cons_succ,XF,J];rfl
   obtain⟨v,yJ,_,Y⟩:=h.at_ _ _ hx;rw[hu]at yJ;cases yJ
   exact Y
 ·show Value.agg vs.toArray=.agg _
  congr 1;have e1:(vs.take f.length++vs.drop (f.length+1)).take f.length=vs.take f.length:=by rw[List.take_append_of_le_length (by rw[Ya];omega),List.take_take,Nat.min_self]
  have e2:(vs.take f.length++vs.drop (f.length+1)).drop f.length=vs.drop (f.length+1):=by rw[List.drop_append_of_le_length (by rw[Ya];omega),List.drop_eq_nil_of_le (by rw[Ya];omega),Yt]
  rw[e1,e2];simp only[Yb]
  have e3:vs=vs.take f.length++val k::vs.drop (f.length+1):=by
   have⟨bH,hx⟩:=Xt.1 hv;rw[<-hx,<-Yf bH,List.take_append_drop]
  rw[<-e3]
end
section
variable{P:Z4}{w0:Cx}{n:Nat}{s:Nat->aH}{ev:Z6->T}{dst:Option Tmp}{ty:Z5}{pos:String}{after:Array Edge}{g:Option (Nat × Bool)}
theorem Lu{t:Z5}{pl:List (Nat × Nat)}{z:Z3}{parts:List (Nat × Z6)}{pA:List (Nat × List T)}{k:Nat}{u v:List D}(hp:uu P t pl=true)(hz:eC P t z)(h1:z.cells.toList.all Value.oneCell'=true)
  (FV:pQ ev parts pA) (bg:rl (pl[·]?) (dK z).length pA) (ep:fillT (pl[·]?) ((dK z).map T.d) pA=Bp k u v):QOp P w0 n s ev ⟨dst,.build t parts.toArray,ty,pos,after,g⟩ (.ag k u v):=
 .mk λa w ok blk val h hs qW=>by
  have⟨eA,eM⟩:=mb (w:=w) (ok:=ok) h1;obtain⟨out,k1,k2⟩:=JC h hs (pl:=(pl[·]?)) (cells:=z.cells) FV (fJ.of eA eM) (by rw[Xo];exact bg);rw[ep]at k2;exact⟨.agg out,w,run_build hp hz k1,Ext.refl w,by have:=RQ k2;simpa using this⟩
variable{ops:List Z8}{rest:List Z8}{R:Exit->St->Prop}{st:St}
theorem Wi{w:W'}{ok:Nat->Prop}{blk:Nat->Option Nat}{val:Nat->Z3}{s:Nat->aH}{j:Nat}{f g:List D}{v:Z3}(Y:iV w ok blk val s (.ag j f g) v)(hs:∀k,ml w ok blk val s (blk k) (val k) (s k))(Av:(f.all D.sc&&g.all D.sc)=true):∃vs,v=.agg vs.toArray/\fJ w ok blk val s (Bp j f g) vs:=by
 rw[Xs]at Av;have⟨⟨⟨_,r1⟩,_⟩,us,h1,h2⟩:=Y;have r1:=r1 E;have hl:=h1.length;rw[XI]at hl;have ML:(val j).oneCell'=true:=iV.one (x:=.rs j) (w:=w) (ok:=ok) (blk:=blk) (s:=s) ⟨r1,rfl⟩ hs E;refine⟨_,h2,by unfold Bp;simp;omega,λi z hz=>?_⟩;unfold Bp at hz;simp only[Yb];rcases Nat.lt_trichotomy i f.length with hi|hi|hi
 ·rw[XZ (by simpa using hi)]at hz
  simp only[XF,Xp hi,XB,XS]at hz;subst hz;have ho:=X0.1 Av.1 _ (ZU hi);have hu:us[i]?=some us[i]:=Xp (by omega);have Y:=h1.get i f[i] us[i] (by rw[XZ hi,Xp hi]) hu;exact⟨us[i],by rw[XZ (by rw[Ya];omega),Yq,Xu hi,hu],Y.one ho,Y⟩
 ·subst hi
  rw[XM (by simp)]at hz;simp at hz;subst hz;exact⟨val j,by rw[XM (by rw[Ya];omega),Ya,Nat.min_eq_left (by omega)];simp,ML,r1,rfl⟩
 ·obtain⟨q,rfl⟩:∃q,i=f.length+(q+1):=⟨i - f.length - 1,by omega⟩
  rw[XM (by simp)]at hz;simp only[Xo,Yy,List.getElem?_cons_succ,XF,Ye]at hz;obtain⟨d,J,rfl⟩:=hz;have ho:=X0.1 Av.2 _ (XA J);have SI:q<g.length:=(Xt.1 J).1;have hu:us[f.length+q]?=some us[f.length+q]:=Xp (by omega);have Y:=h1.get (f.length+q) d us[f.length+q] (by rw[XM (by omega)];simpa using J) hu;exact⟨us[f.length+q],by rw[XM (by rw[Ya];omega),Ya,Nat.min_eq_left (by omega),Yy,List.getElem?_cons_succ,Yk,hu],Y.one ho,Y⟩
theorem A2{t:Z5}{y x:Z6}{agg:Bool}{m k j:Nat}{cs ts:List T}{f g:List D}(ht:szB P t agg m=true)(hy:st.ev y=.ref k 0)(hx:st.ev x=.ag j f g)(hk:st.s k=.cn cs)(hm:(Bp j f g).length=m)(hl:cs.length=m)(Av:(f.all D.sc&&g.all D.sc)=true)(hts:Bp j f g=ts)
  (h:tj P w0 ops rest R (st.site k (.cn ts))):tj P w0 ops (⟨none,.store t y x,ty,pos,after,none⟩::rest) R st:=by
 subst hts
 refine tJ (ts:=Bp j f g) ht hy hk (by omega) (show mj cs 0 (Bp j f g)=Bp j f g by
  unfold mj
  rw[List.take_zero,Yt,XK,hm,<-hl,ZI,ZL]) hm (λa w blk val hh=>?_) h
 have Y:iV w (fN w0 blk) blk val st.s (.ag j f g) (a.eval x):=hx ▸ hh.ev x;have⟨vs,r1,r2⟩:=Wi Y hh.site Av;exact⟨vs,by rw[r1];simp[Value.cells],by rw[<-hm];exact r2.len,r2.at_⟩
def fltB(P:Z4)(t:Z5)(k:FloatKind):Bool:=match P.underlying t with|some (.float k')=>decide (k'=k)|_=>false
theorem ij{t:Z5}{k:FloatKind}(h:fltB P t k=true):P.underlying t=some (.float k):=by
 unfold fltB at h
 split at h
 ·rename_i hk;rw[hk,Y3 h]
 ·cases h
theorem lW{t t':Z5}{y:Z6}{k:IntKind}{fk:FloatKind}{i:Int}(ht:vH P t k=true)(mn:fltB P t' fk=true)(hy:ev y=.d (.v (.int k i))):QOp P w0 n s ev ⟨dst,.convert t t' y,ty,pos,after,g⟩ (.d (.v (.float fk (fk.nearest i)))):=
 .mk λa w ok blk val h _ qW=>by
  have h1:a.eval y=.int k i:=iV.c8 (hy ▸ h y);exact⟨_,w,by simp[execOp,convert,run_underlying (lZ ht),run_underlying (ij mn),h1,Conv.intToFloat],Ext.refl w,.v _ E⟩
theorem zP{f:ϋ}{fn:Func}{e:Array Z3->Sem Z3}{y:Z6}{u r:Z3}{at_:Array Z5}(hf:P.funcs[f]?=some fn)(m9:(fn.name == "runtime.NumGoroutine")=false)(hb:fn.body.isNone=true)(hn:Extern.findNext fn=none)(he:Extern.find fn=some e)
  (fq:ev (.func f)=.d (.fn (.func f) [])) (hy:ev y=.d (.v u)) (Y:∀w,(e #[u]).run P w=.ok r w) (h1:r.oneCell'=true):QOp P w0 n s ev ⟨dst,.call ⟨.value (.func f),#[y],at_⟩,ty,pos,after,g⟩ (.d (.v r)):=
 .mk λa w ok blk val h _ qW=>by
  have hv:a.eval y=u:=iV.c8 (hy ▸ h y);refine⟨r,w,?_,Ext.refl w,.v _ h1⟩;have hc:=run_callFunc_extern (P:=P) hf m9 hb hn he #[u] w;have hfv:a.eval (Operand.func f)=.func (.func f) #[] #[]:=rfl;simp[execOp,resolve,invoke,hv,hfv,Deferred.ofValue,hc,Y]
theorem Ll{t:Z5}{y:Z6}{m e:Nat}{cs:List D}{es:List (List D)}(ht:arB P t m e 1=true)(hy:ev y=.d (.pt cs 0))(hm:cs.length=m)(h0:0<m)(hmx:m<=maxLen)(oL:(cs.map λd=>[d])=es):QOp P w0 n s ev ⟨dst,.slice t y none none none,ty,pos,after,g⟩ (.d (.sl 1 es)):=
 .mk λa w ok blk val h _ qW=>by
  subst oL;obtain⟨b,of,vs,hv,hb,bg,hs,hc,Y⟩:=py (show iN w _ (.pt cs 0) (a.eval y) by have:=h y;rw[hy]at this;exact this);have hl:(cs.map λd=>[d]).length=m:=by rw[Xo];exact hm
  have at_:∀(i:Nat) (x:List D) (j:Nat) (d:D),(cs.map λd=>[d])[i]?=some x->x[j]?=some d->cs[i]?=some d/\j=0:=by
   intro i x j d h1 h2;rw[XF,Ye]at h1;obtain⟨p,hp,rfl⟩:=h1
   match j,h2 with
   | 0,h2=>cases h2;exact⟨hp,rfl⟩
  have hR := iN.sl (w := w) (ok := ok) 1 (cs.map λd => [d]) b of m (λi _ => vs i) hb bg (by rw [hl]; exact Xw _) hmx (λi x h1 => by
    rw[XF,Ye]at h1
    obtain⟨p,hp,rfl⟩:=h1;rfl)
   (λi x j d h1 h2=>hs i d (at_ i x j d h1 h2).1) (λi x j d h1 h2=>by
    obtain⟨q1,rfl⟩:=at_ i x j d h1 h2
    rw[YA,YI];exact hc i d q1) (λi x j d h1 h2=>Y i d (at_ i x j d h1 h2).1)
  rw[hl]at hR;refine⟨_,w,?_,Ext.refl w,hR⟩;have⟨inf,hi,eQ⟩:=lJ ht;simp[execOp,Instr.sliceAt,run_underlying (iq ht),hv,Instr.sureAddr,Instr.sliceBounds,sizeOf,bO hi,ei]
theorem ye{cs:List D}{o:Nat}{d:D}(h:o<cs.length):dL cs o [d]=cs.set o d:=by
 unfold dL;rw[List.set_eq_take_append_cons_drop,Xu h];simp
theorem VS{w:W'}{ok:Nat->Prop}{v:Z3}(h:iN w ok .e0 v):∃A,v=.slice A 0 0:=by
 generalize J:D.e0=d at h
 cases h<;>first|(cases J;done)|exact⟨_,rfl⟩
theorem B7{t e sz:Nat}{z:Z3}(ht:slB P t e sz=true)(hz:eC P e z):QOp P w0 n s ev ⟨dst,.buildSlice t 0 #[],ty,pos,after,g⟩ (.d .e0):=
 .mk λa w ok blk val h _ qW=>by
  have⟨i,hi,tZ⟩:=gj ht;refine⟨.slice (some ⟨w.heap.size,0,none⟩) 0 0,w.alloc (.cells #[] e),?_,(Ext.refl w).alloc _,iN.e0 _⟩;have Js:Array.range 0=#[]:=rfl;simp[execOp,Instr.buildSlice,run_underlying (cJ ht),sizeOf,bO hi,Js,Instr.fill,newRow]
theorem yq{t e sz b m:Nat}{z:Z3}{y x:Z6}{news:List (List D)}(ht:slB P t e sz=true)(hz:eC P e z)(hb:Ey P e b=true)(Jo:z.cells.size=sz)(Jq:0<sz)(hy:ev y=.d .e0)(hx:ev x=.d (.sl sz news))(hm:news.length=m)
  (Ra:m*b<=140737488355328) (Ax:m<=9223372036854775807):QOp P w0 n s ev ⟨dst,.call ⟨.builtin .append,#[y,x],#[t,t]⟩,ty,pos,after,g⟩ (.d (.sl sz news)):=
 .mk λa w ok blk val h _ qW=>by
  subst hm;have⟨i,hi,tZ⟩:=gj ht;have⟨i',jm,S2⟩:=rJ hb;rw[hi]at jm;cases jm
  obtain⟨A0,J2⟩:=VS (show iN w ok .e0 (a.eval y) by have:=h y;rw[hy]at this;exact this);obtain⟨A,Ge,En,Jt,ak1,SE,QR,UX⟩:=kO (show iN w ok (.sl sz news) (a.eval x) by have:=h x;rw[hx]at this;exact this);by_cases SM:news=[]
  ·subst SM
   simp only[XL]at En
   have bR:(Builtin.append_ #[t,t] ty #[a.eval y,a.eval x]).run P w=.ok (.slice A0 0 0) w:=by
    rw[J2,En]
    cases A0 with
    | none=>cases A<;>simp[Builtin.append_,run_underlying (cJ ht),sizeOf,bO hi,Builtin.lenOf,Builtin.firstCells,loadCells,loadCellsFrom]
    | some a0=>cases A<;>simp[Builtin.append_,run_underlying (cJ ht),sizeOf,bO hi,Builtin.lenOf,Builtin.firstCells,loadCells,loadCellsFrom,storeCells]
   exact⟨.slice A0 0 0,w,by simp[execOp,resolve,invoke,builtin,bR],Ext.refl w,iN.emp _ _ _ (XC _)⟩
  rcases UX with U5|⟨b',off,vs,hA,bY,vN,tE,SG⟩
  ·exact absurd U5 SM
  ·have vL:0<news.length:=List.length_pos_iff.2 SM
   let nv:List Z3:=(List.range (news.length*sz)).map λq=>vs (q / sz) (q % sz)
   have MU:nv.length=news.length*i.size:=by simp[nv,tZ]
   have WN:∀q u,nv[q]?=some u->∃x d,news[q / sz]?=some x/\x[q % sz]?=some d/\u=vs (q / sz) (q % sz):=λq u hq=>by
    have SI:q<news.length*sz:=by have:=(Xt.1 hq).1;rw[MU,tZ]at this;exact this
    have WH:q / sz<news.length:=Nat.div_lt_of_lt_mul (by rw[YW];exact SI);have Ep:=Xp WH;have hqm:q % sz<(news[q / sz]).length:=by rw[SE _ _ Ep];exact Zp _ Jq
    simp[nv,SI]at hq;exact⟨_,_,Ep,Xp hqm,hq.symm⟩
   have Ng:∀q u,nv[q]?=some u->w.cell? ((⟨b',off,none⟩:Addr).add q)=some u:=λq u hq=>by
    obtain⟨x,d,h1,h2,rfl⟩:=WN q u hq;have:=tE _ x _ d h1 h2;rw[ei,show off+q=off+q / sz*sz+q % sz by have:=Nat.div_add_mod q sz;rw[YW]at this;omega];exact this
   have aC0:news.length*i.bytes<=140737488355328:=by rw[S2];exact Ra
   have bR:∃k cs,k=grownCap w news.length 0 e/\cs=nv.toArray++Builtin.zeroCells z.cells (k - news.length)/\(Builtin.append_ #[t,t] ty #[a.eval y,a.eval x]).run P w=.ok (.slice (some ⟨w.heap.size,0,none⟩) news.length k) (w.drew.alloc (.cells cs e)):=by
    rw[J2,En,hA]
    cases A0 with
    | none=>
     have Y:=run_append_nil (P:=P) w t ty e i z (cJ ht) hi (la hz hi) ⟨b',off,none⟩ news.length Ge nv MU Ng vL (by omega) (by omega);exact⟨_,_,rfl,rfl,Y⟩
    | some a0=>
     have Y:=run_append_grow (P:=P) w t ty e i z (cJ ht) hi (la hz hi) a0 0 0 [] (by simp) (λj u hu=>by simp at hu) ⟨b',off,none⟩ news.length Ge nv MU Ng (by omega) (by omega) (by
      rw[XK];exact growslice_fits vL aC0)
     simp only[XK,Array.empty_append]at Y;exact⟨_,_,rfl,rfl,Y⟩
   obtain⟨k,cs,hk,ep,bR⟩:=bR;have pV:news.length<=k:=by rw[hk];exact grownCap_ge w _ 0 e
   have WV:k<=maxLen:=by rw[hk];exact grownCap_le_maxLen w _ 0 e (by simp[maxLen];omega)
   have hE:Ext w (w.drew.alloc (.cells cs e)):=(Ext.refl w).drew.alloc _;have vS:(w.drew.alloc (.cells cs e)).heap[w.heap.size]?=some (.cells cs e (0,0)):=heap_alloc_new w.drew _;refine⟨_,_,by simp[execOp,resolve,invoke,builtin,bR];rfl,hE,?_⟩;refine iN.sl sz news w.heap.size 0 k vs (bI vS) (qW _ (Xw _)) pV WV SE QR (λj x q d hi hj=>?_) λj x q d hi hj=>(SG j x q d hi hj).ext hE λ_ _ h=>h;rw[cell_of_block vS,XK,ep];have rY:=(Xt.1 hi).1;have mB:q<sz:=by have:=(Xt.1 hj).1;rw[SE j x hi]at this;exact this
   have hq:j*sz+q<news.length*sz:=ly rY mB;have e1:(j*sz+q) / sz=j:=by rw[Zh,Nat.add_mul_div_right _ _ Jq,Zu mB,XK]
   have e2:(j*sz+q) % sz=q:=by rw[Zh,Nat.add_mul_mod_self_right,Zt mB]
   rw[Array.getElem?_append_left (by simp[nv,hq])];simp[nv,hq,e1,e2]
theorem Ff{op:BinOp}{t t':Z5}{x y:Z6}{k:FloatKind}{a b r:Nat}(cF:op=.add\/op=.sub\/op=.mul)(hx:ev x=.d (.v (.float k a)))(hy:ev y=.d (.v (.float k b)))(Y:floatBits op k a b=some r) :
  QOp P w0 n s ev ⟨dst,.binOp op t x y t',ty,pos,after,g⟩ (.d (.v (.float k r))):=
 wi hx hy (λw=>by
  have:=run_float_arith (P:=P) w op t k a b r Y
  rcases cF with rfl|rfl|rfl<;>simp[eqGuard,this]) E
def ordB(op:BinOp)(c:Option Ordering):Bool:=
 match op with
 | .eql=>c==some .eq
 | .neq=>c != some .eq
 | .lss=>c==some .lt
 | .leq=>c==some .lt||c==some .eq
 | .gtr=>c==some .gt
 | .geq=>c==some .gt||c==some .eq
 | _=>false
theorem e9{op:BinOp}{t t':Z5}{x y:Z6}{k:FloatKind}{a b:Nat}{c:Bool}(cF:op=.eql\/op=.neq\/op=.lss\/op=.leq\/op=.gtr\/op=.geq)(hx:ev x=.d (.v (.float k a)))(hy:ev y=.d (.v (.float k b)))(hc:ordB op (k.format.order a b)=c) :
  QOp P w0 n s ev ⟨dst,.binOp op t x y t',ty,pos,after,g⟩ (T.bool c):=by
 subst hc;exact wi hx hy (λw=>by rcases cF with rfl|rfl|rfl|rfl|rfl|rfl<;>simp[eqGuard,binOp,Op.floatCmp,ordB]) E
theorem iH{t t':Z5}{y:Z6}{k:IntKind}{fk:FloatKind}{b:Nat}{i:Int}(ht:fltB P t fk=true)(mn:vH P t' k=true)(hy:ev y=.d (.v (.float fk b)))(Y:floatToIntVal fk b k=some i):QOp P w0 n s ev ⟨dst,.convert t t' y,ty,pos,after,g⟩ (.d (.v (.int k i))):=
 .mk λa w ok blk val h _ qW=>by
  have h1:a.eval y=.float fk b:=iV.c8 (hy ▸ h y);have:=run_convert_float_int (P:=P) w t t' fk k b i (by rw[ij ht];rfl) (lZ mn) Y;exact⟨_,w,by simp[execOp,h1,this],Ext.refl w,.v _ E⟩
theorem Ls{t t':Z5}{y:Z6}{fk Jz:FloatKind}{b r:Nat}(ht:fltB P t fk=true)(mn:fltB P t' Jz=true)(hy:ev y=.d (.v (.float fk b)))(Y:floatToFloatBits fk b Jz=some r):QOp P w0 n s ev ⟨dst,.convert t t' y,ty,pos,after,g⟩ (.d (.v (.float Jz r))):=
 .mk λa w ok blk val h _ qW=>by
  have h1:a.eval y=.float fk b:=iV.c8 (hy ▸ h y);have:=run_convert_float_float (P:=P) w t t' fk Jz b r (by rw[ij ht];rfl) (ij mn) Y;exact⟨_,w,by simp[execOp,h1,this],Ext.refl w,.v _ E⟩
theorem Fa{x:Z6}{ts:Array Z5}{k:FloatKind}{a b:Nat}(hx:ev x=.d (.v (.complex k a b))):QOp P w0 n s ev ⟨dst,.call ⟨.builtin .real,#[x],ts⟩,ty,pos,after,g⟩ (.d (.v (.float k a))):=
 .mk λact w ok blk val h _ _=>by
  have h1:act.eval x=.complex k a b:=iV.c8 (hx ▸ h x);have Y:(Builtin.real_ ts ty #[act.eval x]).run P w=.ok (.float k a) w:=by rw[h1];rfl
  exact⟨_,w,by simp[execOp,resolve,invoke,builtin,Y],Ext.refl w,.v _ E⟩
theorem Fc{x:Z6}{ts:Array Z5}{k:FloatKind}{a b:Nat}(hx:ev x=.d (.v (.complex k a b))):QOp P w0 n s ev ⟨dst,.call ⟨.builtin .imag,#[x],ts⟩,ty,pos,after,g⟩ (.d (.v (.float k b))):=
 .mk λact w ok blk val h _ _=>by
  have h1:act.eval x=.complex k a b:=iV.c8 (hx ▸ h x);have Y:(Builtin.imag_ ts ty #[act.eval x]).run P w=.ok (.float k b) w:=by rw[h1];rfl
  exact⟨_,w,by simp[execOp,resolve,invoke,builtin,Y],Ext.refl w,.v _ E⟩
theorem yp{x y:Z6}{ts:Array Z5}{k:FloatKind}{a b:Nat}(hx:ev x=.d (.v (.float k a)))(hy:ev y=.d (.v (.float k b))):QOp P w0 n s ev ⟨dst,.call ⟨.builtin .complex,#[x,y],ts⟩,ty,pos,after,g⟩ (.d (.v (.complex k a b))):=
 .mk λact w ok blk val h _ _=>by
  have h1:act.eval x=.float k a:=iV.c8 (hx ▸ h x);have h2:act.eval y=.float k b:=iV.c8 (hy ▸ h y)
  have Y:(Builtin.complex_ ts ty #[act.eval x,act.eval y]).run P w=.ok (.complex k a b) w:=by
   rw[h1,h2];show Sem.run P (if k=k then pure (Value.complex k a b) else stuck "complex: parts of different kinds") w=_
   rw[Xu E];rfl
  exact⟨_,w,by simp[execOp,resolve,invoke,builtin,Y],Ext.refl w,.v _ E⟩
theorem Ext.newRow{w:W'}{o:Obj}{cs:Array Z3}:Ext w ((w.alloc o).setRow w.heap.size cs):=by
 have h:=(Ext.refl w).alloc o;exact⟨h.os,h.tape,h.output,by rw[setRow_size];exact h.size,λk hk=>by rw[cT (by omega)];exact h.block k hk⟩
theorem dF{d:Nat}{e t:Z5}{agg:Bool}{m:Nat}{z:Z3}{x:Z6}{X:D}{ty':Z5}{pos':String}{OI:Array Edge}(hz:eC P e z)(Jo:z.cells.size=m)(ht:szB P t agg m=true)(hxd:(match x with|.tmp q=>Nat.beq q d|_=>false)=false)(hx:st.ev x=.d X)(hX:X.sc=true\/∃cs,X=.agg cs)(hm:X.cells.length=m)
  (J:Nat.blt d st.n=true) (h:tj P w0 ops rest R (st.put (some d) (.d (.pt X.cells 0)))) :
  tj P w0 ops (⟨some d,.alloc e,ty,pos,after,none⟩ :: ⟨none,.store t (.tmp d) x,ty',pos',OI,none⟩::rest) R st:=by
 intro F mm hF a w ⟨blk,val,hh⟩;rw[YB]at J;unfold wpListIn;rw[Xu (by simp[Region.wanted])];refine(gg (v:=.pointer (some ⟨w.heap.size,0,none⟩)) (w':=w.alloc (.cells z.cells e)) (by simp[execOp,Instr.alloc,iE hz,newVar,newRow]) (K:=λa' w'=>a'=a.put (some d) (.pointer (some ⟨w.heap.size,0,none⟩))/\w'=w.alloc (.cells z.cells e)) ⟨rfl,rfl⟩).to hF ?_;intro a2 w2 h2;rw[h2.1,h2.2];unfold wpListIn;rw[Xu (by simp[Region.wanted])];have U3:d<a.tmps.size:=by rw[hh.size];exact J
 have fq:(a.put (some d) (.pointer (some ⟨w.heap.size,0,none⟩))).eval (.tmp d)=.pointer (some ⟨w.heap.size,0,none⟩):=by simp[Act.eval,Act.put,U3]
 have aB4:(a.put (some d) (.pointer (some ⟨w.heap.size,0,none⟩))).eval x=a.eval x:=by
  cases x with
  | tmp q=>
   have hq:q≠d:=λe=>by subst e;simp at hxd
   simp[Act.eval,Act.put,Ne.symm hq]
  | _=>rfl
 have Y:iN w (fN w0 blk) X (a.eval x):=by have:=hh.ev x;rw[hx]at this;exact this
 have⟨hL,hs⟩:=il Y hX;have kY:(a.eval x).cells.size=m:=by rw[<-hm,<-hL.length,YD]
 have cV:(w.alloc (.cells z.cells e)).heap[w.heap.size]?=some (.cells z.cells e (0,0)):=fj _ _;have bR:=iF (P:=P) (o:=0) (v:=a.eval x) ht kY cV (by omega) (hL.mem hs)
 have ep:(z.cells.toList.take 0++(a.eval x).cells.toList++z.cells.toList.drop (0+m)).toArray=(a.eval x).cells:=by
  rw[List.take_zero,Yt,XK,Yu (by rw[YD];omega),ZL]
 rw[ep]at bR;have hE:Ext w ((w.alloc (.cells z.cells e)).setRow w.heap.size (a.eval x).cells):=Ext.newRow;have vS:((w.alloc (.cells z.cells e)).setRow w.heap.size (a.eval x).cells).heap[w.heap.size]?=some (.cells (a.eval x).cells e (0,0)):=iD cV
 refine(show OW P w0 _ _ _ (λa' w'=>a'=a.put (some d) (.pointer (some ⟨w.heap.size,0,none⟩))/\w'=(w.alloc (.cells z.cells e)).setRow w.heap.size (a.eval x).cells) from gO (λc hc=>by cases hc) (by
  unfold Oper.wp;rw[show (execOp (a.put (some d) (.pointer (some ⟨w.heap.size,0,none⟩))).eval ⟨none,.store t (.tmp d) x,ty',pos',OI,none⟩).run P (w.alloc (.cells z.cells e))=.ok .skip ((w.alloc (.cells z.cells e)).setRow w.heap.size (a.eval x).cells) by simp[execOp,fq,aB4,bR]]
  exact⟨rfl,rfl⟩)).to hF ?_
 intro a3 w3 h3;rw[h3.1,h3.2];refine h F mm hF _ _ ⟨blk,val,gN (hh.ext' hE) J ?_⟩;have bg:fN w0 blk w.heap.size:=⟨.inr hh.ext.size,λk hk=>by have:=(hh.new k _ hk).2;omega⟩
 have na:∀(j:Nat) (dj:D),X.cells[j]?=some dj->∃v,(a.eval x).cells[j]?=some v/\iN w (fN w0 blk) dj v:=λj dj hj=>by
  obtain⟨v,hv,h4⟩:=hL.at_ hj;exact⟨v,by simpa using hv,h4⟩
 refine iN.pt X.cells 0 w.heap.size 0 (λj=>(a.eval x).cells.getD j undef) (bI vS) bg hs (λj dj hj=>?_) λj dj hj=>?_
 ·obtain⟨v,hv,_⟩:=na j dj hj
  rw[cell_of_block vS,XK,hv,cO hv]
 ·obtain⟨v,hv,h4⟩:=na j dj hj
  rw[cO hv];exact h4.ext hE λ_ _ h=>h
theorem IY{t:Z5}{y:Z6}{l h:Option Z6}{m e lo hi:Nat}{cs:List D}{es:List (List D)}(ht:arB P t m e 1=true)(hy:ev y=.d (.pt cs 0))(hm:cs.length=m)(hmx:m<=maxLen)(hl:oA ev l 0 lo)(hh:oA ev h m hi)(h1:lo<=hi)(h2:hi<=m)(h3:lo<m)
  (oL:((cs.take hi).drop lo).map (λd=>[d])=es):QOp P w0 n s ev ⟨dst,.slice t y l h none,ty,pos,after,g⟩ (.d (.sl 1 es)):=
 .mk λa w ok blk val fq _ qW=>by
  subst oL;obtain⟨b,of,vs,hv,hb,bg,hs,hc,Y⟩:=py (show iN w _ (.pt cs 0) (a.eval y) by have:=fq y;rw[hy]at this;exact this);have Rb:=u6 (P:=P) (cap:=m) fq hl hh h1 h2 (Xw _) false (w:=w);have hln:(((cs.take hi).drop lo).map λd=>[d]).length=hi - lo:=by rw[Xo,ZW,Ya];omega
  have at_:∀(i:Nat) (x:List D) (j:Nat) (d:D),(((cs.take hi).drop lo).map λd=>[d])[i]?=some x->x[j]?=some d->cs[lo+i]?=some d/\j=0:=by
   intro i x j d h1 h2;rw[XF,Ye]at h1;obtain⟨p,hp,rfl⟩:=h1;rw[Yk,Yq]at hp
   split at hp
   ·match j,h2 with
    | 0,h2=>cases h2;exact⟨hp,rfl⟩
   ·cases hp
  have hR := iN.sl (w := w) (ok := ok) 1 (((cs.take hi).drop lo).map λd => [d]) b (of + lo) (m - lo) (λi _ => vs (lo + i)) hb bg (by rw [hln]; omega) (by omega) (λi x h1 => by
    rw[XF,Ye]at h1
    obtain⟨p,hp,rfl⟩:=h1;rfl)
   (λi x j d h1 h2=>hs _ d (at_ i x j d h1 h2).1) (λi x j d h1 h2=>by
    obtain⟨q1,rfl⟩:=at_ i x j d h1 h2
    rw[YA,YI,YZ];exact hc _ d q1) (λi x j d h1 h2=>Y _ d (at_ i x j d h1 h2).1)
  rw[hln]at hR;refine⟨_,w,?_,Ext.refl w,hR⟩;have⟨inf,jm,eQ⟩:=lJ ht;have eW:¬m=lo:=by omega
  simp only[execOp,Instr.sliceAt,Sem.run_bind,run_underlying (iq ht),Result.andThen_ok,hv,Instr.sureAddr,Sem.run_pure,XR,Rb,sizeOf,bO jm,Xr eW,ei,eQ,YA,YI]
theorem Hh{t:Z5}{x:Z6}{m e sz:Nat}{cs:List D}{es:List (List D)}(ht:arB P t m e sz=true)(hx:ev x=.d (.sl 1 es))(oL:es=cs.map λd=>[d])(hm:cs.length=m)(h0:0<m):QOp P w0 n s ev ⟨dst,.sliceToArrayPointer t x,ty,pos,after,g⟩ (.d (.pt cs 0)):=
 .mk λa w ok blk val fq _ qW=>by
  subst oL;obtain⟨A,cap,hv,hn,ez,eQ,hs,vK⟩:=kO (show iN w ok (.sl 1 (cs.map λd=>[d])) (a.eval x) by have:=fq x;rw[hx]at this;exact this);have hl:(cs.map λd=>[d]).length=m:=by rw[Xo];exact hm
  rcases vK with he|⟨b,off,vs,rfl,hb,bg,hc,Y⟩
  ·rw[he]at hl;simp at hl;omega
  ·have at_:∀(j:Nat) (d:D),cs[j]?=some d->(cs.map λd=>[d])[j]?=some [d]:=λj d h=>by rw[XF,h];rfl
   have hR:=iN.pt (w:=w) (ok:=ok) cs 0 b off (λj=>vs j 0) hb bg (λj d h=>hs j [d] 0 d (at_ j d h) E) (λj d h=>by
    have:=hc j [d] 0 d (at_ j d h) E
    rwa [YA,YI]at this) (λj d h=>Y j [d] 0 d (at_ j d h) E)
   refine⟨_,w,?_,Ext.refl w,hR⟩;have bH:¬(cs.map λd=>[d]).length<m:=by omega
   simp only[execOp,Instr.arrayAt,Sem.run_bind,run_underlying (iq ht),Result.andThen_ok,hv,Sem.run_ite,Xr bH,Sem.run_pure,YI]
end
end Go.Proofs.YthcfokccjljnpaaGreat.Am
