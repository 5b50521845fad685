/- Contracts over the abstract machine, and the crowd of workers. Conditions: none. -/
import Derived.MapKept
import Derived.RangeFuncRecord
import Derived.Stop.IfaceNil
import Derived.Laws.IdiomStrings
import Derived.Test.YthcfokccjljnpaaGreatJ2
set_option linter.unusedVariables false
set_option linter.unusedSimpArgs false
set_option linter.unusedSectionVars false
namespace Go.Proofs.YthcfokccjljnpaaGreat.Am
open Go Go.RowKit
section
variable{P:Z4}{w0:Cx}{n:Nat}{s:Nat->aH}{ev:Z6->T}{dst:Option Tmp}{ty:Z5}{pos:String}{after:Array Edge}{g:Option (Nat × Bool)}
theorem B6{t:Z5}{y:Z6}{q o e sz i:Nat}{es:List (List D)}{x:List D}(ht:szB P t true sz=true)(hy:ev y=.ref q o)(hq:s q=.row e sz es)(ho:o=i*sz)(hx:es[i]?=some x):QOp P w0 n s ev ⟨dst,.load t y,ty,pos,after,g⟩ (.d (.agg x)):=
 .mk λa w ok blk val h hs qW=>by
  subst ho;have h1:=h y;rw[hy]at h1;have⟨_,b,hb,hv⟩:=h1;have h2:=hs q;rw[hq]at h2;have⟨a1,a2,h3⟩:=h2;rcases h3 with ⟨J9,_⟩|⟨b',aK,cap,bY,_,_,_,cV,_,hc⟩
  ·rw[hb]at J9;cases J9
  rw[hb]at bY;cases bY
  have CC:=a1 i x hx
  have bR:=run_loadCells (P:=P) w ⟨b,i*sz,none⟩ sz (λj=>aK.getD (i*sz+j) undef) (λj J6=>by
   obtain⟨v,hv,_⟩:=hc i x j _ hx (Xp (by omega))
   rw[ei,cell_of_block cV,hv,cO hv])
  refine⟨.agg ((List.range sz).map λj=>aK.getD (i*sz+j) undef).toArray,w,?_,Ext.refl w,?_⟩
  ·simp only[execOp,hv,Instr.loadAt,Instr.sureAddr,loadVar,Sem.run_bind,Sem.run_pure,Result.andThen_ok,gn ht,Yp,ju ht,bR]
  ·refine iN.agg _ _ (by simpa using CC.symm) (λj d J=>a2 i x j d hx J) λj d v J hv=>?_
   have J6:j<sz:=by have:=(Xt.1 hv).1;simpa using this
   simp[J6]at hv;subst hv;obtain⟨v,hv,Y⟩:=hc i x j d hx J;have:=cO hv;simp[XN]at this;rw[this];exact Y
def mpL:List Int->Nat->List MapEntry
 | [],_=>[]
 | k::ks,n=>⟨.int .i64 k,.bool true,n⟩::mpL ks (n+1)
def uA(ks:List Int):Array MapEntry:=(mpL ks 0).toArray
theorem HA:∀(ks:List Int) (n:Nat),(mpL ks n).length=ks.length
 | [],_=>rfl
 | k::ks,n=>by show (mpL ks (n+1)).length+1=ks.length+1;rw[HA ks (n+1)]
theorem HB(x:Int):∀(ks:List Int) (n:Nat),mpL (ks++[x]) n=mpL ks n++[⟨.int .i64 x,.bool true,n+ks.length⟩]
 | [],n=>rfl
 | k::ks,n=>by
  show _::mpL (ks++[x]) (n+1)=_::(mpL ks (n+1)++_)
  rw[HB x ks (n+1),XH,show n+1+ks.length=n+(ks.length+1) by omega]
theorem Mh(x:Int)(ks:List Int):(uA ks).push ⟨.int .i64 x,.bool true,ks.length⟩=uA (ks++[x]):=by
 unfold uA;rw[HB,XK];simp
theorem F5(x:Int):∀(ks:List Int) (n i:Nat),(x∈ks/\∃j,Instr.findNow (.int .i64) (.int .i64 x) (mpL ks n) i=some (some (j,.bool true)))\/(x∉ks/\Instr.findNow (.int .i64) (.int .i64 x) (mpL ks n) i=some none)
 | [],_,_=>.inr ⟨by simp,rfl⟩
 | k::ks,n,i=>by
  by_cases h:x=k
  ·subst h
   exact .inl ⟨by simp,i,by simp[mpL,Instr.findNow,Instr.sameNow]⟩
  ·rcases F5 x ks (n+1) (i+1) with ⟨h1,j,h2⟩|⟨h1,h2⟩
   ·exact .inl ⟨by simp[h1],j,by simp[mpL,Instr.findNow,Instr.sameNow,beq_false_of_ne h,h2]⟩
   ·exact .inr ⟨by simp[h,h1],by simp[mpL,Instr.findNow,Instr.sameNow,beq_false_of_ne h,h2]⟩
def ax2:Option Nat->Z3->List Z3->Z3->Prop:=λb _ _ v=>∃b',b=some b'/\v=.map (some b')
abbrev T.mp(k:Nat):T:=.own k ⟨false,true⟩ [] ax2
def mpB(P:Z4)(t:Z5)(e:Z5):Bool:=
 match P.underlying t with
 | some (.map k e')=>(match P.underlying k with|some (.int .i64)=>true|_=>false)&&Nat.beq e' e
 | _=>false
theorem vA{P:Z4}{t e:Z5}(h:mpB P t e=true):∃k,P.underlying t=some (.map k e)/\P.underlying k=some (.int .i64):=by
 unfold mpB at h
 split at h
 ·rename_i k e' hu
  rw[Xs]at h;have⟨h1,h2⟩:=h;have:=Xq h2;subst this;refine⟨k,hu,?_⟩
  split at h1
  ·assumption
  ·cases h1
 ·cases h
theorem FC{w:W'}{ok:Nat->Prop}{blk:Nat->Option Nat}{val:Nat->Z3}{s:Nat->aH}{k:Nat}{v:Z3}(h:iV w ok blk val s (.mp k) v):∃b,blk k=some b/\v=.map (some b):=by
 have⟨_,vs,_,h2⟩:=h;exact h2
theorem I1{t e:Z5}{y x:Z6}{k cl:Nat}{i:Int}{ks:List Int}(ht:mpB P t e=true)(hz:eC P e (.bool false))(hy:ev y=.mp k)(hx:ev x=.d (.v (.int .i64 i)))(hk:s k=.mp (uA ks) cl) :
  QOp P w0 n s ev ⟨dst,.lookup t y x false,ty,pos,after,g⟩ (T.bool (decide (i∈ks))):=
 .mk λa w ok blk val h hs qW=>by
  have⟨tk,hu,UZ⟩:=vA ht;have h1:=h y;rw[hy]at h1;have⟨b,hb,hv⟩:=FC h1;have h2:=hs k;rw[hk]at h2;have⟨b',bY,cV⟩:=h2;rw[hb]at bY;cases bY
  have En:a.eval x=.int .i64 i:=iV.c8 (hx ▸ h x);have AE:=λem=>MapKept.run_checkKey (P:=P) (w:=w) (k:=.int .i64 i) UZ (by trivial) em 9999;refine⟨.bool (decide (i∈ks)),w,?_,Ext.refl w,.v _ E⟩;have hml:(uA ks).toList=mpL ks 0:=rfl;rcases F5 i ks 0 0 with ⟨h3,j,h4⟩|⟨h3,h4⟩
  ·have hf:(Instr.findKey tk (.int .i64 i) (uA ks).toList).run P w=.ok (some (j,.bool true)) w:=MapKept.run_findKey UZ (by rw[hml];exact h4)
   rw[ZS h3];simp[execOp,Instr.lookup,hv,En,run_underlying hu,MapKept.run_getObj_map cV,AE,hf,Result.andThen]
  ·have hf:(Instr.findKey tk (.int .i64 i) (uA ks).toList).run P w=.ok none w:=MapKept.run_findKey UZ (by rw[hml];exact h4)
   rw[XV h3];simp[execOp,Instr.lookup,hv,En,run_underlying hu,MapKept.run_getObj_map cV,AE,hf,iE hz,Result.andThen]
theorem Lm{y:Z6}{t e:Z5}{k cl m:Nat}{ks:List Int}(ht:mpB P t e=true)(hy:ev y=.mp k)(hk:s k=.mp (uA ks) cl)(hm:ks.length=m):QOp P w0 n s ev ⟨dst,.call ⟨.builtin .len,#[y],#[t]⟩,ty,pos,after,g⟩ (T.i m):=
 .mk λa w ok blk val h hs qW=>by
  subst hm;have⟨tk,hu,UZ⟩:=vA ht;have h1:=h y;rw[hy]at h1;have⟨b,hb,hv⟩:=FC h1;have h2:=hs k;rw[hk]at h2;have⟨b',bY,cV⟩:=h2;rw[hb]at bY;cases bY
  have eQ:(uA ks).size=ks.length:=by show (mpL ks 0).length=_;exact HA _ _
  exact⟨_,w,ff E (by simp[Builtin.len_,run_underlying hu,hv,MapKept.run_getObj_map cV,goInt,eQ]),Ext.refl w,.v _ E⟩
variable{st:St}{ops rest:List Z8}{R:Exit->St->Prop}
theorem qx.Uk{a:Act}{w:W'}{blk:Nat->Option Nat}{val:Nat->Z3}{k b:Nat}{es es':Array MapEntry}{cl cl':Nat}(hh:qx w0 st a w blk val)(hk:st.s k=.mp es cl)(hb:blk k=some b) :
  qx w0 (st.site k (.mp es' cl')) a (w.putObj b (.map es' cl')) blk val:=by
 have hbl:w.heap[b]?=some (.map es cl):=by
  have:=hh.site k;rw[hk]at this;have⟨b',h1,h2⟩:=this;rw[hb]at h1;cases h1;exact h2
 have hx:ml (w.putObj b (.map es' cl')) (fN w0 blk) blk val st.s (some b) (val k) (.mp es' cl'):=⟨b,rfl,World.putObj_heap_same (bI hbl)⟩;have m7:∀e sz rs,st.s k=.row e sz rs->∃e' ug aC7,(aH.mp es' cl')=.row e' ug aC7:=λe sz rs q=>by rw[hk]at q;cases q
 have Aw:(aH.mp es' cl')≠.no:=by simp
 have jC:(st.s k).isVar=true->(aH.mp es' cl').isVar=true:=λ_=>rfl;have hbn:=hh.new k b hb
 have cr:∀{d:D} {v:Z3},iN w (fN w0 blk) d v->iN (w.putObj b (.map es' cl')) (fN w0 blk) d v:=λh=>
  h.cr (by rw[World.putObj_size];exact Xw _) (λb' o bg ho=>by rw[World.putObj_heap_other (λe=>bg.2 k (by rw[e];exact hb))];exact ho) λ_ _ h=>h
 have jB:∀{y:T} {v:Z3},iV w (fN w0 blk) blk val st.s y v->iV (w.putObj b (.map es' cl')) (fN w0 blk) blk val st.s y v:=λ{y v} h=>by
  cases y with
  | d y=>exact cr h
  | own k r ds F=>exact⟨h.1,h.2.imp λ_ _ h=>cr h⟩
  | _=>exact h
 have dW:∀j,blk j=blk j/\val j=val j/\(st.s j≠.no->(st.site k (.mp es' cl')).s j≠.no)/\((∃e sz es,st.s j=.row e sz es)->∃e sz es,(st.site k (.mp es' cl')).s j=.row e sz es):=λj=>by
  refine⟨rfl,rfl,?_⟩;simp only[St.site]
  cases fE:Nat.beq j k
  ·exact⟨id,id⟩
  ·rw[Xq fE]
   exact⟨λ_=>Aw,λ⟨e,sz,es,q⟩=>m7 e sz es q⟩
 refine⟨⟨hh.ext.os,hh.ext.tape,hh.ext.output,by rw[World.putObj_size];exact hh.ext.size,λj hj hm=>by rw[World.putObj_heap_other (λe=>by subst e;rcases hbn.1 with q|q;omega;exact hm q)];exact hh.ext.block j hj hm⟩,hh.kept λj _ hn=>World.putObj_heap_other (λe=>hn k (by rw[e];exact hb)),hh.size,λj c hj=>by rw[World.putObj_size];exact hh.new j c hj,hh.inj,λj c hj=>?_,λj=>?_,λt=>?_⟩
 ·have⟨q1,q2,q3⟩:=hh.kU j c hj
  refine⟨q1,?_,q3⟩;simp only[St.site]
  cases fE:Nat.beq j k
  ·exact q2
  ·rw[Xq fE]at q2;exact jC q2
 ·have step : ml (w.putObj b (.map es' cl')) (fN w0 blk) blk val st.s (blk j) (val j) ((st.site k (.mp es' cl')).s j) := by
   cases fE:Nat.beq j k
   ·simp only[St.site,fE,XJ]
    have hs:=hh.site j
    have eW:∀c,blk j=some c->c≠b:=λc hc e=>by
     subst e;have:=hh.inj j k c hc hb;subst this;simp at fE
    cases CE:st.s j with
    | no=>rw[CE]at hs;exact hs
    | box cs'=>
     rw[CE]at hs;have⟨c,e,aK,h1,h2,h3,h4,h5⟩:=hs;exact⟨c,e,aK,h1,by rw[World.putObj_heap_other (eW c h1)];exact h2,h3,h4,λj d J=>let ⟨v,hv,Y⟩:=h5 j d J;⟨v,hv,cr Y⟩⟩
    | cn cs'=>
     rw[CE]at hs;have⟨c,e,aK,h1,h2,h3,h5⟩:=hs;exact⟨c,e,aK,h1,by rw[World.putObj_heap_other (eW c h1)];exact h2,h3,λj d J=>let ⟨v,hv,ho,Y⟩:=h5 j d J;⟨v,hv,ho,jB Y⟩⟩
    | mp es c=>
     rw[CE]at hs;have⟨c',h1,h2⟩:=hs;exact⟨c',h1,by rw[World.putObj_heap_other (eW c' h1)];exact h2⟩
    | row e sz es=>
     rw[CE]at hs;have⟨h1,h2,h3⟩:=hs;exact⟨h1,h2,h3.imp id λ⟨c,aK,cap,k1,k2,k3,k4,k5,k6,k7⟩=>⟨c,aK,cap,k1,k2,k3,k4,by rw[World.putObj_heap_other (eW c k1)];exact k5,k6,λi x j d hi hj=>let ⟨v,hv,Y⟩:=k7 i x j d hi hj;⟨v,hv,cr Y⟩⟩⟩
   ·simp only[St.site,fE,Yb]
    rw[Xq fE,hb];exact hx
  exact step.to (λ_ _ h=>h) (.inl E) λ_ _ _ _ j _=>dW j
 ·exact(jB (hh.tmp t)).to (λ_ _ h=>h) λj _=>dW j
theorem A3{d:Nat}{t:Z5}(J:Nat.blt d st.n=true)(hs:st.s d=.no)(h:tj P w0 ops rest R ((st.site d (.mp (uA []) 0)).put (some d) (.mp d))) :
  tj P w0 ops (⟨some d,.makeMap t none,ty,pos,after,none⟩::rest) R st:=by
 refine eG (K:=λs=>s=(st.site d (.mp (uA []) 0)).put (some d) (.mp d)) E (λa w ⟨blk,val,hh⟩=>?_) (λ_ e=>e ▸ h);refine gg (v:=.map (some w.heap.size)) (w':=w.alloc (.map #[] 0)) (by simp[execOp,Instr.makeMap]) ⟨_,rfl,?_⟩;have hH:=hh.lK (k:=d) (x:=.mp (uA []) 0) (u:=undef) (o:=.map #[] 0) hs ⟨w.heap.size,rfl,fj _ _⟩;exact⟨_,_,gN hH (by simpa [YB,St.site] using J) ⟨⟨⟨by simp[St.site],λh=>by cases h⟩,λ_=>rfl⟩,[],trivial,w.heap.size,by simp,rfl⟩⟩
theorem wT{t e:Z5}{y x v:Z6}{k:Nat}{i:Int}{ks:List Int}(ht:mpB P t e=true)(hy:st.ev y=.mp k)(hx:st.ev x=.d (.v (.int .i64 i)))(hv:st.ev v=.d (.v (.bool true)))(hk:st.s k=.mp (uA ks) ks.length)(hi:i∉ks)
  (h:tj P w0 ops rest R (st.site k (.mp (uA (ks++[i])) (ks++[i]).length))):tj P w0 ops (⟨none,.mapUpdate t y x v,ty,pos,after,none⟩::rest) R st:=by
 refine eG (K:=λs=>s=st.site k (.mp (uA (ks++[i])) (ks++[i]).length)) E (λa w ⟨blk,val,hh⟩=>?_) (λ_ e=>e ▸ h);have⟨tk,hu,UZ⟩:=vA ht;have h1:=hh.ev y;rw[hy]at h1;have⟨b,hb,hyv⟩:=FC h1;have h2:=hh.site k;rw[hk]at h2;have⟨b',bY,cV⟩:=h2;rw[hb]at bY;cases bY
 have En:a.eval x=.int .i64 i:=iV.c8 (hx ▸ hh.ev x);have hvv:a.eval v=.bool true:=iV.c8 (hv ▸ hh.ev v);have AE:=MapKept.run_checkKey (P:=P) (w:=w) (k:=.int .i64 i) UZ (by trivial) false 9999;have hml:(uA ks).toList=mpL ks 0:=rfl;rcases F5 i ks 0 0 with ⟨h3,_⟩|⟨_,h4⟩
 ·exact absurd h3 hi
 have hf:(Instr.findKey tk (.int .i64 i) (uA ks).toList).run P w=.ok none w:=MapKept.run_findKey UZ (by rw[hml];exact h4)
 have az0:(w.putObj b (.map (uA (ks++[i])) (ks++[i]).length))={ w with heap:=w.heap.setIfInBounds b (.map ((uA ks).push ⟨.int .i64 i,.bool true,ks.length⟩) (ks.length+1)) }:=by
  rw[Mh,XI];rfl
 have bR:(execOp a.eval ⟨none,.mapUpdate t y x v,ty,pos,after,none⟩).run P w=.ok .skip (w.putObj b (.map (uA (ks++[i])) (ks++[i]).length)):=by
  rw[az0];simp[execOp,Instr.mapUpdate,hyv,En,hvv,run_underlying hu,MapKept.run_getObj_map cV,AE,hf,MapKept.run_setObj_map _ cV,Result.andThen]
 refine gO (λc hc=>by cases hc) ?_;unfold Oper.wp;rw[bR];exact⟨_,rfl,blk,val,hh.Uk hk hb⟩
def flU(l:List Z8)(n:Nat)(Fl:List Nat)(L:Nat->Bool)(t:Tmp):Bool:=
 match cw l n t with
 | some p=>memN p Fl && !L p
 | none=>false
def mk(U:Tmp->Bool)(S:St):St:={ n:=S.n,t:=λt=>bif U t then .dead else S.t t,s:=S.s }
def FloatOK(P:Z4)(w0:Cx)(l:List Z8)(n:Nat)(Fl:List Nat)(S:St):List Nat->Prop
 | []=>True
 | i :: is => (match l[i]? with
  | some o=>(match o.dst with
   | some d=>Ke P w0 S (mk (flU l n Fl (dS o)) S).ev o (.put (some d) (S.t d))
   | none=>False)
  | none=>False)/\FloatOK P w0 l n Fl S is
def pd(P:Z4)(w0:Cx)(l:List Z8)(n:Nat)(Fl:List Nat):List Z8->St->(St->Prop)->Prop
 | [],S,K=>K S
 | o::os,S,K=>∃f:Eff,f.dst=o.dst/\Ke P w0 S (mk (flU l n Fl λ_=>false) S).ev o f/\FloatOK P w0 l n Fl (f.app S) Fl/\pd P w0 l n Fl os (f.app S) K
def Ih(l:List Z8)(n:Nat)(Fl:List Nat)(j:Nat):Bool:=
 (List.range n).any λk=>decide (j<k) && !(memN k Fl)&&(match l[k]? with|some ok=>dS ok j|none=>false)
def Mx(l:List Z8)(n q:Nat)(Fl:List Nat):Bool:=
 (Fl.all λi=>decide (i<n)&&(match l[i]? with|some o=>o.guard.isNone&&o.dst.isSome|none=>false)) &&
 ((List.range q).all λp=>match l[n+p]? with
  | some o=>o.guard.isNone&&(Nat.beq p 0||dS o (n+p - 1))&&(match o.dst with|some d=>(cw l n d).isNone|none=>true)
  | none=>false) &&
 (match l[n]? with|some o=>(List.range n).all λj=>memN j Fl||dS o j||Ih l n Fl j|none=>false)
theorem Db{l:List Z8}{n:Nat}{Fl:List Nat}{S:St}:∀{is:List Nat},FloatOK P w0 l n Fl S is->∀i o d,memN i is=true->l[i]?=some o->o.dst=some d->Ke P w0 S (mk (flU l n Fl (dS o)) S).ev o (.put (some d) (S.t d))
 | [],_,i,o,d,hi,_,_=>by cases hi
 | j::js,h,i,o,d,hi,ho,J=>by
  simp only[memN,X3]at hi;rcases hi with hi|hi
  ·have:=Xq hi
   subst this;have h1:=h.1;rw[ho]at h1;simp only[J]at h1;exact h1
  ·exact Db h.2 i o d hi ho J
structure Ir(P:Z4)(w0:Cx)(l:List Z8)(n q:Nat)(Fl:List Nat)(Sq:Nat->St):Prop where
 step:∀p,p<q->∀o,l[n+p]?=some o->∃f:Eff,f.dst=o.dst/\Sq (p+1)=f.app (Sq p)/\Ke P w0 (Sq p) (mk (flU l n Fl λ_=>false) (Sq p)).ev o f
 fl:∀p,1<=p->p<=q->FloatOK P w0 l n Fl (Sq p) Fl
theorem yC{l:List Z8}{n:Nat}{Fl:List Nat}{K:St->Prop}:∀(q:Nat) (os:List Z8) (i:Nat) (S:St),os.length=q->(∀k,k<q->os[k]?=l[n+i+k]?)->pd P w0 l n Fl os S K->
  ∃Sq:Nat->St,Sq i=S/\K (Sq (i+q))/\(∀p,i<=p->p<i+q->∀o,l[n+p]?=some o->∃f:Eff,f.dst=o.dst/\Sq (p+1)=f.app (Sq p)/\Ke P w0 (Sq p) (mk (flU l n Fl λ_=>false) (Sq p)).ev o f)/\
   ∀p,i+1<=p->p<=i+q->FloatOK P w0 l n Fl (Sq p) Fl
 | 0,[],i,S,_,_,h=>⟨λ_=>S,rfl,h,λp h1 h2=>by omega,λp h1 h2=>by omega⟩
 | 0,_::_,_,_,h,_,_=>by simp at h
 | _+1,[],_,_,h,_,_=>by simp at h
 | q+1,o::os,i,S,hl,HQ,h=>by
  have⟨f,hf,hc,CV,Y⟩:=h;obtain⟨Sq,h1,h2,h3,h4⟩:=yC (l:=l) (n:=n) (Fl:=Fl) (K:=K) q os (i+1) _ (by simpa using hl) (λk hk=>by have:=HQ (k+1) (by omega);simpa [YZ,Zh 1 k] using this) Y;have ho:l[n+i]?=some o:=by have:=HQ 0 (by omega);simpa using this.symm
  refine⟨λp=>if p=i then S else Sq p,by simp,?_,λp hp1 hp2 o' kP=>?_,λp hp1 hp2=>?_⟩
  ·show K (if i+(q+1)=i then S else Sq (i+(q+1)))
   rw[Xr (by omega),show i+(q+1)=i+1+q by omega];exact h2
  ·by_cases e:p=i
   ·subst e
    rw[ho]at kP;cases kP
    refine⟨f,hf,?_,?_⟩
    ·show (if p+1=p then S else Sq (p+1))=f.app (if p=p then S else Sq p)
     rw[Xr (by omega),Xu E];exact h1
    ·simp only[Yp];exact hc
   ·simp only[Xr e,Xr (show ¬p+1=i by omega)]
    exact h3 p (by omega) (by omega) o' kP
  ·simp only[Xr (show ¬p=i by omega)]
   by_cases e:p=i+1
   ·rw[e,h1];exact CV
   ·exact h4 p (by omega) (by omega)
theorem lS{L:Nat->Bool}{i j:Nat}(h:j≠i):cK L i j=L j:=by
 unfold cK;rw[show (j==i)=false from beq_false_of_ne h];rfl
theorem uh{L:Nat->Bool}{i:Nat}:cK L i i=true:=by simp[cK]
theorem zI{L:Nat->Bool}{i j:Nat}(h:L j=true):cK L i j=true:=by
 unfold cK;rw[h,Bool.or_true]
def cntT(n:Nat)(L:Nat->Bool):Nat->Nat
 | 0=>0
 | q+1=>if L (n+q)=true then q+1 else cntT n L q
theorem H8{n:Nat}{L:Nat->Bool}:∀q,cntT n L q<=q
 | 0=>Xw _
 | q+1=>by
  unfold cntT
  split
  ·exact Xw _
  ·exact Nat.le_succ_of_le (H8 q)
theorem oy{n:Nat}{L:Nat->Bool}{p:Nat}:∀{q:Nat},p<=q->(∀j,j<p->L (n+j)=true)->(∀j,p<=j->j<q->L (n+j)=false)->cntT n L q=p
 | 0,hp,_,_=>by show 0=p;omega
 | q+1,hp,h1,h2=>by
  unfold cntT;by_cases e:p=q+1
  ·rw[Xu (h1 q (by omega))];exact e.symm
  ·rw[Xr (by rw[h2 q (by omega) (by omega)];simp)]
   exact oy (by omega) h1 λj a b=>h2 j a (by omega)
open Classical in
noncomputable def fX(st:St)(l:List Z8)(n q:Nat)(Fl:List Nat)(xs:Nat->T)(Sq:Nat->St)(L:Nat->Bool):St:=
 if L n=true then mk (flU l n Fl L) (Sq (cntT n L q)) else dX st l n xs L
theorem FE{U:Tmp->Bool}{S:St}{dst:Option Tmp}{x:T}(h:∀d,dst=some d->U d=false):(mk U S).put dst x=mk U (S.put dst x):=by
 cases dst with
 | none=>rfl
 | some d=>
  simp only[mk,St.put,St.mk.injEq,Zx,ZD];funext t
  cases ht:Nat.beq t d with
  | false=>rfl
  | true=>
   have:=Xq ht;subst this;rw[h t E];rfl
theorem Mk{U:Tmp->Bool}{S:St}{f:Eff}(h:∀d,f.dst=some d->U d=false):f.app (mk U S)=mk U (f.app S):=by
 cases f with
 | grow k d z=>
  show (((mk U S).dE k).site k z).put (some d) (.rs k)=mk U (((S.dE k).site k z).put (some d) (.rs k))
  have e:((mk U S).dE k).site k z=mk U ((S.dE k).site k z):=by
   simp only[mk,St.dE,St.site,St.mk.injEq,Zx,ZD];funext t
   cases U t<;>rfl
  rw[e];exact FE h
 | set k z dst x=>
  show ((mk U S).site k z).put dst x=mk U ((S.site k z).put dst x)
  have e:(mk U S).site k z=mk U (S.site k z):=rfl;rw[e];exact FE h
 | put dst x=>exact FE h
open Classical in
theorem Ji{st:St}{l:List Z8}{n q i:Nat}{Fl:List Nat}{xs:Nat->T}{Sq:Nat->St}{o:Z8}{L:Nat->Bool}{a:Act}{w:W'}(h:vX l n st.n=true)(h':vX l (n+q) st.n=true)(hB:Mx l n q Fl=true)(hq:1<=q)
  (W3:Wk (dX st l n xs (gd n)) (Sq 0)) (hSq:Ir P w0 l n q Fl Sq) (hnS:∀p,p<=q->(Sq p).n=st.n) (hO:∀k o,k<n->l[k]?=some o->ON P w0 st l n xs k o)
  (hi:i<n+q) (ho:l[i]?=some o) (hD:Done l (n+q) L) (jT:L i=false) (pM:∀e∈o.after,Region.binds .any e=true->L e.on=true) (hH:Holds w0 (fX st l n q Fl xs Sq L) a w) :
  (Region.wanted o (yielded l.toArray a.tmps)=true/\OW P w0 o a w (λa' w'=>Holds w0 (fX st l n q Fl xs Sq (cK L i)) a' w'))\/
  (Region.wanted o (yielded l.toArray a.tmps)=false/\Holds w0 (fX st l n q Fl xs Sq (cK L i)) (a.put o.dst undef) w):=by
 simp only[Mx,Xs]at hB;have⟨⟨hB1,S5⟩,hB3⟩:=hB;have aft:∀j,dS o j=true->L j=true:=λj hj=>by obtain⟨e,he,hb,rfl⟩:=dp hj;exact pM e he hb
 have tl:∀p op,p<q->l[n+p]?=some op->op.guard=none/\(1<=p->dS op (n+p - 1)=true)/\∀d,op.dst=some d->cw l n d=none:=λp op hp cF=>by
  have:=X0.1 S5 p (YJ.2 hp);rw[cF]at this;simp only[Xs,X3,Zz]at this;refine⟨this.1.1,λh1=>?_,λd J=>?_⟩
  ·rcases this.1.2 with e|e
   ·have:=Xq e;omega
   ·exact e
  ·have h2:=this.2
   rw[J]at h2;exact Zz.1 h2
 have len:∀p,p<q->∃op,l[n+p]?=some op:=λp hp=>by
  have:=X0.1 S5 p (YJ.2 hp)
  cases e:l[n+p]? with
  | none=>rw[e]at this;cases this
  | some op=>exact⟨op,rfl⟩
 have down:∀p,p<q->L (n+p)=true->∀j,j<=p->L (n+j)=true:=by
  intro p
  induction p with
  | zero =>
    intro _ h1 j hj;have:j=0:=by omega
    subst this;exact h1
  | succ p ih=>
   intro hp h1 j hj;by_cases e:j=p+1
   ·rw[e];exact h1
   ·have⟨op,cF⟩:=len (p+1) hp
    obtain⟨e',Vn,bY,ua⟩:=dp ((tl (p+1) op hp cF).2.1 (by omega));have:=hD.closed (n+(p+1)) op (by omega) cF h1 e' Vn bY;rw[ua,show n+(p+1) - 1=n+p by omega]at this;exact ih (by omega) this j (by omega)
 have ag9:∀op,l[n]?=some op->(∀j,dS op j=true->L j=true)->∀d j,n - j=d->j<n->memN j Fl=false->L j=true:=λop cF QW d=>by
  induction d using Nat.strongRecOn with
  | _ d ih=>
   intro j J hj hf;rw[cF]at hB3;have:=X0.1 hB3 j (YJ.2 hj);rw[hf]at this;simp only[ZN,X3]at this;rcases this with e|e
   ·exact QW j e
   ·unfold Ih at e
    obtain⟨k,hk,e⟩:=List.any_eq_true.1 e;have hk:=YJ.1 hk;simp only[Xs,XW,Yg]at e;have⟨⟨fE,hkf⟩,hka⟩:=e;have hLk:=ih (n - k) (by omega) k E hk hkf
    cases bg:l[k]? with
    | none=>rw[bg]at hka;cases hka
    | some ok=>
     rw[bg]at hka;have⟨e',Vn,bY,ua⟩:=dp hka;have:=hD.closed k ok (by omega) bg hLk e' Vn bY;rw[ua]at this;exact this
 have wanted:o.guard=none->Region.wanted o (yielded l.toArray a.tmps)=true:=λhg=>by simp[Region.wanted,hg]
 by_cases S4:L n=true
 ·have hFL:fX st l n q Fl xs Sq L=mk (flU l n Fl L) (Sq (cntT n L q)):=Xu S4;rw[hFL]at hH;by_cases n7:i<n
  ·have CV:memN i Fl=true:=by
    rw[<-Bool.not_eq_false];intro hf;obtain⟨op,cF⟩:=len 0 (by omega)
    have:=ag9 op cF (λj hj=>by
     have⟨e,he,hb,ua⟩:=dp hj;have:=hD.closed n op (by omega) cF S4 e he hb
     rw[ua]at this;exact this) _ i E n7 hf
    rw[jT]at this;cases this
   have hfi:∀{js:List Nat},(js.all λi=>decide (i<n)&&(match l[i]? with|some o=>o.guard.isNone&&o.dst.isSome|none=>false))=true->memN i js=true->o.guard=none/\o.dst.isSome=true:=by
    intro js
    induction js with
    | nil=>intro _ h2;cases h2
    | cons j js ih=>
     intro h1 h2;simp only[Ze,Xs]at h1;simp only[memN,X3]at h2;rcases h2 with h2|h2
     ·have:=Xq h2
      subst this;have h3:=h1.1.2;rw[ho]at h3;simp only[Xs,Zz]at h3;exact h3
     ·exact ih h1.2 h2
   have⟨hg,Q7⟩:=hfi hB1 CV;obtain⟨d,J⟩:=YM.1 Q7;have⟨FV,hdN⟩:=iy h n7 ho J;obtain⟨p,hp⟩:∃p,cntT n L q=p:=⟨_,rfl⟩
   have hp1:1<=p:=by
    rw[<-hp];rcases Zc (cntT n L q) with e|e
    ·exfalso
     have:∀q,1<=q->cntT n L q≠0:=by
      intro q
      induction q with
      | zero=>intro h;omega
      | succ q ih=>
       intro _;unfold cntT
       split
       · omega
       ·rename_i hc
        rcases Zc q with e0|e0
        · subst e0;exact absurd S4 hc
        · exact ih e0
     exact this q hq e
    ·exact e
   have hpq:p<=q:=by rw[<-hp];exact H8 q
   have hco:=Db (hSq.fl p hp1 hpq) i o d CV ho J;rw[hp]at hH;refine .inl ⟨wanted hg,?_⟩;have dU:=hco (mk (flU l n Fl L) (Sq p)) E E (λy=>?_) (λd' Bl=>by rw[J]at Bl;cases Bl;rw[hnS p hpq];exact hdN) a w hH
   ·have e2 : (Eff.put (some d) ((Sq p).t d)).app (mk (flU l n Fl L) (Sq p)) = fX st l n q Fl xs Sq (cK L i) := by
     have e3:fX st l n q Fl xs Sq (cK L i)=mk (flU l n Fl (cK L i)) (Sq (cntT n (cK L i) q)):=Xu (zI S4)
     have e4:cntT n (cK L i) q=p:=by
      rw[<-hp]
      have:∀q,cntT n (cK L i) q=cntT n L q:=by
       intro q
       induction q with
       | zero=>rfl
       | succ q ih=>
        unfold cntT;have:cK L i (n+q)=L (n+q):=lS (by omega);rw[this,ih]
      exact this q
     rw[e3,e4];show (mk (flU l n Fl L) (Sq p)).put (some d) ((Sq p).t d)=_
     simp only[mk,St.put,St.mk.injEq,Zx,ZD];funext t
     cases ht:Nat.beq t d with
     | true=>
      have:=Xq ht;subst this;have:flU l n Fl (cK L i) t=false:=by unfold flU;rw[FV];simp[uh]
      rw[this];rfl
     | false=>
      simp only[XJ]
      have:flU l n Fl (cK L i) t=flU l n Fl L t:=by
       unfold flU
       cases Bh:cw l n t with
       | none=>rfl
       | some r=>
        simp only
        have hri:r≠i:=λe=>by
         subst e;have⟨_,op,cF,Nb⟩:=de Bh;rw[ho]at cF;cases cF
         rw[J]at Nb;cases Nb
         simp at ht
        have:cK L i r=L r:=lS hri;rw[this]
      rw[this]
    rw[e2]at dU;exact dU
   ·cases y with
    | tmp t=>
     show (bif flU l n Fl (dS o) t then T.dead else (Sq p).t t)=.dead\/(bif flU l n Fl L t then T.dead else (Sq p).t t)=(bif flU l n Fl (dS o) t then T.dead else (Sq p).t t)
     cases hu:flU l n Fl (dS o) t with
     | true=>exact .inl E
     | false=>
      have:flU l n Fl L t=false:=by
       unfold flU at hu ⊢
       cases Bh:cw l n t with
       | none=>rfl
       | some r=>
        rw[Bh]at hu;simp only[Bool.and_eq_false_iff,Y6]at hu ⊢;exact hu.imp id λh=>aft r h
      rw[this];exact .inr E
    | _=>exact .inr E
  ·obtain⟨p,rfl⟩:∃p,i=n+p:=⟨i - n,by omega⟩;have hpq:p<q:=by omega
   have⟨hg,ai7,Pb⟩:=tl p o hpq ho
   have hp0:1<=p:=by
    rcases Zc p with e|e
    ·subst e;rw[YI,S4]at jT;cases jT
    ·exact e
   have Np:L (n+(p - 1))=true:=by have:=aft _ (ai7 hp0);rwa [show n+p - 1=n+(p - 1) by omega]at this
   have h1:=down (p - 1) (by omega) Np
   have h2:∀j,p<=j->j<q->L (n+j)=false:=λj a b=>by
    rw[<-XT];intro hj;have:=down j b hj p a;rw[jT]at this;cases this
   have hc:cntT n L q=p:=oy (by omega) (λj hj=>h1 j (by omega)) h2;rw[hc]at hH;have⟨f,Vj,hS,hco⟩:=hSq.step p hpq o ho;refine .inl ⟨wanted hg,?_⟩;have dU:=hco (mk (flU l n Fl L) (Sq p)) E E (λy=>?_) (λd J=>by rw[hnS p (by omega)];exact(iy h' hi ho J).2) a w hH
   ·have e2 : f.app (mk (flU l n Fl L) (Sq p)) = fX st l n q Fl xs Sq (cK L (n + p)) := by
     have e3:fX st l n q Fl xs Sq (cK L (n+p))=mk (flU l n Fl (cK L (n+p))) (Sq (cntT n (cK L (n+p)) q)):=Xu (zI S4)
     have e4:cntT n (cK L (n+p)) q=p+1:=oy (by omega) (λj hj=>by
      by_cases e:j=p
      · rw[e];exact uh
      · exact zI (h1 j (by omega))) λj a b=>by
      rw[lS (by omega)];exact h2 j (by omega) b
     have e5:flU l n Fl (cK L (n+p))=flU l n Fl L:=by
      funext t;unfold flU
      cases Bh:cw l n t with
      | none=>rfl
      | some r=>
       have Y:=(de Bh).1;have:cK L (n+p) r=L r:=lS (by omega);simp only[this]
     rw[e3,e4,e5,hS];refine Mk λd J=>?_;unfold flU;rw[Pb d (by rw[<-Vj];exact J)]
    rw[e2]at dU;exact dU
   ·cases y with
    | tmp t=>
     show (bif flU l n Fl (λ_=>false) t then T.dead else (Sq p).t t)=.dead\/(bif flU l n Fl L t then T.dead else (Sq p).t t)=(bif flU l n Fl (λ_=>false) t then T.dead else (Sq p).t t)
     cases hu:flU l n Fl (λ_=>false) t with
     | true=>exact .inl E
     | false=>
      have:flU l n Fl L t=false:=by
       unfold flU at hu ⊢
       cases Bh:cw l n t with
       | none=>rfl
       | some r=>
        rw[Bh]at hu;simp only[ZG,Bool.and_true]at hu;simp only[hu,Bool.false_and]
      rw[this];exact .inr E
    | _=>exact .inr E
 ·have Vv:L n=false:=by cases e:L n with|true=>exact absurd e S4|false=>rfl
  have hFL:fX st l n q Fl xs Sq L=dX st l n xs L:=Xr S4;rw[hFL]at hH;by_cases n7:i<n
  ·have hD':Done l n L:=⟨λp op hp cF hL e he hb=>hD.closed p op (by omega) cF hL e he hb⟩
   have e3:fX st l n q Fl xs Sq (cK L i)=dX st l n xs (cK L i):=Xr (by rw[lS (by omega),Vv];simp);rw[e3];exact reg_step h n7 ho hD' jT pM hH (hO i o n7 ho)
  ·obtain⟨p,rfl⟩:∃p,i=n+p:=⟨i - n,by omega⟩
   have hp0:p=0:=by
    rcases Zc p with e|e
    ·exact e
    ·have h1:=aft _ ((tl p o (by omega) ho).2.1 e)
     have:=down (p - 1) (by omega) (by rwa [show n+p - 1=n+(p - 1) by omega]at h1) 0 (XC _);rw[YI,Vv]at this;cases this
   subst hp0;obtain⟨hg,_,Pb⟩:=tl 0 o (by omega) ho;obtain⟨f,Vj,hS,hco⟩:=hSq.step 0 (by omega) o ho;have kQ:∀j,j<n->memN j Fl=false->L j=true:=λj hj hf=>ag9 o ho aft _ j E hj hf
   have UY:Wk (dX st l n xs L) (mk (flU l n Fl L) (Sq 0)):=by
    refine⟨W3.1,W3.2.1,λt=>?_⟩;show (bif flU l n Fl L t then T.dead else (Sq 0).t t)=_\/(bif flU l n Fl L t then T.dead else (Sq 0).t t)=.dead
    cases hu:flU l n Fl L t with
    | true=>exact .inr E
    | false=>
     simp only[XJ]
     have e1:(dX st l n xs L).t t=(dX st l n xs (gd n)).t t:=by
      simp only[dX]
      cases Bh:cw l n t with
      | none=>rfl
      | some r=>
       have Y:=(de Bh).1
       have hLr:L r=true:=by
        cases hf:memN r Fl with
        | false=>exact kQ r Y hf
        | true=>
         unfold flU at hu;rw[Bh]at hu;simp only[hf,Bool.true_and,Y6]at hu;exact hu
       simp only[hLr,gd,Y,decide_true]
     rw[e1];exact W3.2.2 t
   have Vw:=hH.EB UY;refine .inl ⟨wanted hg,?_⟩;have dU:=hco (mk (flU l n Fl L) (Sq 0)) E E (λy=>?_) (λd J=>by rw[hnS 0 (XC _)];exact(iy h' hi ho J).2) a w Vw
   ·have e2 : f.app (mk (flU l n Fl L) (Sq 0)) = fX st l n q Fl xs Sq (cK L (n + 0)) := by
     have e3:fX st l n q Fl xs Sq (cK L (n+0))=mk (flU l n Fl (cK L (n+0))) (Sq (cntT n (cK L (n+0)) q)):=Xu uh
     have h2:∀j,1<=j->j<q->L (n+j)=false:=λj a b=>by
      rw[<-XT];intro hj;have:=down j b hj 0 (XC _);rw[YI,Vv]at this;cases this
     have e4:cntT n (cK L (n+0)) q=1:=oy (by omega) (λj hj=>by
      have:j=0:=by omega
      subst this;exact uh) λj a b=>by
      rw[lS (by omega)];exact h2 j a b
     have e5:flU l n Fl (cK L (n+0))=flU l n Fl L:=by
      funext t;unfold flU
      cases Bh:cw l n t with
      | none=>rfl
      | some r=>
       have Y:=(de Bh).1;have:cK L (n+0) r=L r:=lS (by omega);simp only[this]
     rw[e3,e4,e5,hS];refine Mk λd J=>?_;unfold flU;rw[Pb d (by rw[<-Vj];exact J)]
    rw[e2]at dU;exact dU
   ·cases y with
    | tmp t=>
     show (bif flU l n Fl (λ_=>false) t then T.dead else (Sq 0).t t)=.dead\/(bif flU l n Fl L t then T.dead else (Sq 0).t t)=(bif flU l n Fl (λ_=>false) t then T.dead else (Sq 0).t t)
     cases hu:flU l n Fl (λ_=>false) t with
     | true=>exact .inl E
     | false=>
      have:flU l n Fl L t=false:=by
       unfold flU at hu ⊢
       cases Bh:cw l n t with
       | none=>rfl
       | some r=>
        rw[Bh]at hu;simp only[ZG,Bool.and_true]at hu;simp only[hu,Bool.false_and]
      rw[this];exact .inr E
    | _=>exact .inr E
theorem ar5{f:Eff}{S:St}:(f.app S).n=S.n:=by
 cases f with
 | grow k d z=>rfl
 | set k z dst x=>cases dst<;>rfl
 | put dst x=>cases dst<;>rfl
theorem kE{st:St}{l:List Z8}{id:Nat}{R:Exit->St->Prop}(n q:Nat)(Fl:List Nat)(hm:P.follows .mixedOrders=true)
  (h:(vX l n st.n&&vX l (n+q) st.n&&decide (n+q<=l.length)&&decide (1<=q)&&wu l (n+q)&&Mx l n q Fl)=true)
  (hW:wK P w0 st l n (l.take n) 0 (λ_=>.dead) st (λst'=>pd P w0 l n Fl ((l.drop n).take q) st' λS=>tj P w0 l (l.drop (n+q)) R S)):dG P w0 (.region id l.toArray true) R st:=by
 simp only[Xs,XW]at h;obtain⟨⟨⟨⟨⟨h,h'⟩,hn⟩,hq⟩,hT0⟩,hB⟩:=h;have J4:(l.take n).length=n:=by simp;omega
 have HP:∀k,k<(l.take n).length->(l.take n)[k]?=l[0+k]?:=λk hk=>by rw[J4]at hk;simp[hk]
 obtain⟨xs,_,hO,hL⟩:=qe h (l.take n) 0 _ _ (by omega) HP hW;obtain⟨Sq,hS,hK,U3,hs2⟩:=yC q ((l.drop n).take q) 0 _ (by simp;omega) (λk hk=>by rw[Yq,Xu hk,Yk];rfl) hL;rw[XK]at hK;have ak5:Ir P w0 l n q Fl Sq:=⟨λp hp=>U3 p (XC _) (by omega),λp h1 h2=>hs2 p (by omega) (by omega)⟩
 have W3:Wk (dX st l n xs (gd n)) (Sq 0):=by
  rw[hS];exact vo h (l.take n) 0 st (by omega) HP (by rw[fg (λp _=>by simp[gd])];exact⟨rfl,rfl,λ_=>.inl E⟩)
 have len:∀p,p<q->∃op,l[n+p]?=some op:=λp hp=>⟨_,Xp (by omega)⟩
 have hnS:∀p,p<=q->(Sq p).n=st.n:=by
  intro p
  induction p with
  | zero=>intro _;exact W3.1
  | succ p ih=>
   intro hp;obtain⟨op,cF⟩:=len p (by omega);obtain⟨f,_,hSp,_⟩:=ak5.step p (by omega) op cF;rw[hSp,ar5];exact ih (by omega)
 intro Fe m hFe
 have hF:∀L:Nat->Bool,(∀p,p<n+q->L p=true)->fX st l n q Fl xs Sq L=fX st l n q Fl xs Sq (gd (n+q)):=λL hL=>by
  have e:∀L:Nat->Bool,(∀p,p<n+q->L p=true)->fX st l n q Fl xs Sq L=Sq q:=λL hL=>by
   have e1:fX st l n q Fl xs Sq L=mk (flU l n Fl L) (Sq (cntT n L q)):=Xu (hL n (by omega));rw[e1,oy (Xw q) (λj hj=>hL _ (by omega)) λj a b=>by omega]
   have e2:∀t,flU l n Fl L t=false:=λt=>by
    unfold flU
    cases Bh:cw l n t with
    | none=>rfl
    | some r=>
     have Y:=(de Bh).1;simp[hL r (by omega)]
   cases hS:Sq q
   simp only[mk,e2,XJ]
  rw[e L hL,e (gd (n+q)) λp hp=>by simp[gd,hp]]
 have hT:∀a w,Holds w0 (fX st l n q Fl xs Sq (gd (n+q))) a w->wpListIn Fe m P l.toArray (Post w0 R) (l.drop (n+q)) a w:=λa w hH=>by
  have e1:fX st l n q Fl xs Sq (gd (n+q))=Sq q:=by
   have e1:fX st l n q Fl xs Sq (gd (n+q))=mk (flU l n Fl (gd (n+q))) (Sq (cntT n (gd (n+q)) q)):=Xu (by simp[gd];omega);rw[e1,oy (Xw q) (λj hj=>by simp[gd];omega) λj a b=>by omega]
   have e2:∀t,flU l n Fl (gd (n+q)) t=false:=λt=>by
    unfold flU
    cases Bh:cw l n t with
    | none=>rfl
    | some r=>
     have Y:=(de Bh).1;simp[gd];intro _;omega
   cases hS:Sq q
   simp only[mk,e2,XJ]
  rw[e1]at hH;exact hK Fe m hFe a w hH
 intro a w hH;refine wpIn_region_any hm ?_
 have FN:HeadInv .any l.toArray (n+q) (Array.replicate l.toArray.size false):=
  ⟨by simp,λj oj _ hl=>(by rw[getD_replicate_false]at hl;cases hl),λt _ ht=>getD_in (by simpa using ht) (getD_replicate_false _ _)⟩
 have hF0:fX st l n q Fl xs Sq ((Array.replicate l.toArray.size false).getD · false)=st:=by
  have e1:fX st l n q Fl xs Sq ((Array.replicate l.toArray.size false).getD · false)=dX st l n xs ((Array.replicate l.toArray.size false).getD · false):=Xr (by show ¬(Array.replicate l.toArray.size false).getD n false=true;rw[getD_replicate_false];simp);rw[e1,fg (λp _=>getD_replicate_false _ _)]
 have:=OD (m:=m) hFe (F:=λL=>fX st l n q Fl xs Sq L) h' hn hT0 (λL i o a w hi ho hD jT pM hH=>Ji h h' hB hq W3 ak5 hnS (λk o hk ho=>hO k o (XC _) hk ho) hi ho hD jT pM hH) hF hT (n+q) _ a { w with drawn:=w.drawn+1 } FN lI (by rw[hF0];exact hH.drew);rw[show n+q+(l.length - (n+q))=l.toArray.size by simp;omega]at this;exact this
end
section
variable{P:Z4}{w0:Cx}{S s:St}{ev:Z6->T}{l os:List Z8}{n:Nat}{Fl is:List Nat}{K:St->Prop}{dst:Option Tmp}{op:Op}{ty:Z5}{pos:String}{after:Array Edge}
theorem Gf{t:Z5}{y x:Z6}{agg:Bool}{m k o e sz i j:Nat}{X:D}{es es':List (List D)}{z:List D}(ht:szB P t agg m=true)(hy:ev y=.ref k o)(hx:ev x=.d X)(hX:X.sc=true\/∃cs,X=.agg cs)(hm:X.cells.length=m)
  (hk:s.s k=.row e sz es) (ho:o=i*sz+j) (hz:es[i]?=some z) (hj:j+m<=sz) (oL:es.set i (dL z j X.cells)=es'):Ke P w0 s ev ⟨none,.store t y x,ty,pos,after,none⟩ (.set k (.row e sz es') none .dead):=
 λst kX _ fq _=>cp E λops rest R h=>jL ht (kv fq hy (by simp)) (kv fq hx (by simp)) hX hm (by rw[kX];exact hk) ho hz hj oL h
theorem wC:FloatOK P w0 l n Fl S []:=trivial
theorem gu{i:Nat}{o:Z8}{d:Tmp}{x:T}(ho:l[i]?=some o)(J:o.dst=some d)(hx:S.t d=x)(h:Ke P w0 S (mk (flU l n Fl (dS o)) S).ev o (.put (some d) x))(hs:FloatOK P w0 l n Fl S is):FloatOK P w0 l n Fl S (i::is):=by
 refine⟨?_,hs⟩;rw[ho];simp only[J];rw[hx];exact h
theorem qC(h:K S):pd P w0 l n Fl [] S K:=h
theorem UQ{x:T}(hq:QOp P w0 S.n S.s (mk (flU l n Fl λ_=>false) S).ev ⟨dst,op,ty,pos,after,none⟩ x)(hf:FloatOK P w0 l n Fl (S.put dst x) Fl)(h:pd P w0 l n Fl os (S.put dst x) K) :
 pd P w0 l n Fl (⟨dst,op,ty,pos,after,none⟩::os) S K:=⟨.put dst x,rfl,JL hq,hf,h⟩
theorem vE{k:Nat}{z:aH}(hc:Ke P w0 S (mk (flU l n Fl λ_=>false) S).ev ⟨none,op,ty,pos,after,none⟩ (.set k z none .dead))(hf:FloatOK P w0 l n Fl (S.site k z) Fl)(h:pd P w0 l n Fl os (S.site k z) K) :
 pd P w0 l n Fl (⟨none,op,ty,pos,after,none⟩::os) S K:=⟨.set k z none .dead,rfl,hc,hf,h⟩
theorem aa6{k:Nat}{z:aH}{dst:Option Tmp}{x:T}(hc:Ke P w0 S (mk (flU l n Fl λ_=>false) S).ev ⟨dst,op,ty,pos,after,none⟩ (.set k z dst x))(hf:FloatOK P w0 l n Fl ((S.site k z).put dst x) Fl)(h:pd P w0 l n Fl os ((S.site k z).put dst x) K) :
 pd P w0 l n Fl (⟨dst,op,ty,pos,after,none⟩::os) S K:=⟨.set k z dst x,rfl,hc,hf,h⟩
theorem Jj{k d:Nat}{z:aH}(hc:Ke P w0 S (mk (flU l n Fl λ_=>false) S).ev ⟨some d,op,ty,pos,after,none⟩ (.grow k d z))(hf:FloatOK P w0 l n Fl (((S.dE k).site k z).put (some d) (.rs k)) Fl)(h:pd P w0 l n Fl os (((S.dE k).site k z).put (some d) (.rs k)) K) :
 pd P w0 l n Fl (⟨some d,op,ty,pos,after,none⟩::os) S K:=⟨.grow k d z,rfl,hc,hf,h⟩
end
section
variable{P:Z4}{w0:Cx}{n:Nat}{s:Nat->aH}{ev:Z6->T}{dst:Option Tmp}{ty:Z5}{pos:String}{after:Array Edge}{g:Option (Nat × Bool)}
theorem IZ{t:Z5}{y yl yh ym:Z6}{e sz lo hi:Nat}{es es':List (List D)}(ht:slB P t e sz=true)(hy:ev y=.d (.sl sz es))(hl:ev yl=T.i lo)(hh:ev yh=T.i hi)(hm:ev ym=T.i hi)(h1:lo<hi)(h2:hi<=es.length)(oL:(es.take hi).drop lo=es') :
  QOp P w0 n s ev ⟨dst,.slice t y (some yl) (some yh) (some ym),ty,pos,after,g⟩ (.d (.sl sz es')):=
 .mk λa w ok blk val hv _ qW=>by
  subst oL;obtain⟨A,cap,dD,hn,ez,eQ,hs,vK⟩:=kO (show iN w _ (.sl sz es) (a.eval y) by have:=hv y;rw[hy]at this;exact this);have⟨inf,jm,yK⟩:=gj ht;have el:a.eval yl=.int .i64 (lo:Int):=iV.c8 ((show ev yl=T.i lo from hl) ▸ hv yl);have eh:a.eval yh=.int .i64 (hi:Int):=iV.c8 ((show ev yh=T.i hi from hh) ▸ hv yh);have em:a.eval ym=.int .i64 (hi:Int):=iV.c8 ((show ev ym=T.i hi from hm) ▸ hv ym)
  have Rb:(Instr.sliceBounds true es.length cap (some (a.eval yl)) (some (a.eval yh)) (some (a.eval ym))).run P w=.ok (lo,hi,hi) w:=by
   rw[el,eh,em];simp[Instr.sliceBounds,Instr.sliceBound,asIntOf,show (lo:Int)<=(hi:Int) by omega,show (hi:Int)<=(cap:Int) by omega,show lo<=hi by omega,show hi<=cap by omega]
  rcases vK with rfl|⟨b,off,vs,rfl,bY,bg,hc,Y⟩
  ·simp at h2;omega
  ·have hlen:es.length<=maxLen:=XQ hn ez
   have tk:∀(i:Nat) (e:List D),(es.take hi)[i]?=some e->es[i]?=some e:=λi e h=>by
    rw[Yq]at h
    split at h
    ·exact h
    ·cases h
   have hl':(es.take hi).length=hi:=by rw[Ya];omega
   have key:=O5 (w:=w) (ok:=ok) (es:=es.take hi) (lo:=lo) (hi:=hi) (cap:=hi) bY bg (by omega) (by omega) (λi e h=>eQ i e (tk i e h)) (λi e j d h=>hs i e j d (tk i e h)) (λi e j d h=>hc i e j d (tk i e h)) (λi e j d h=>Y i e j d (tk i e h)) (show lo<=hi by omega) (by omega);rw[List.take_take,Nat.min_self]at key;refine⟨.slice (some ⟨b,off+lo*sz,none⟩) (hi - lo) (hi - lo),w,?_,Ext.refl w,?_⟩
   ·simp only[execOp,Instr.sliceAt,Sem.run_bind,run_underlying (cJ ht),Result.andThen_ok,Instr.slice,dD,Rb,sizeOf,bO jm,XB]
    simp[yK,ei,show ¬hi=lo by omega]
   ·exact key
variable{st:St}{a:Act}{w A B:W'}{blk:Nat->Option Nat}{val:Nat->Z3}{P':Nat->Prop}
def jv(w0:Cx)(P':Nat->Prop)(N l:Nat)(r:Loop)(st:St)(A:W')(blk:Nat->Option Nat):Cx:=
 { nU w0 P' N l r st A blk with ok:=λb=>(fN w0 blk b/\¬P' b)\/P' b }
theorem fY.Un(h:fY w0 P' st a A blk val)(N l:Nat)(hN:st.n<=N){r:Loop}(hl:A.heap[l]?=some (.loop r)):qx (jv w0 P' N l r st A blk) (ja N st) { tmps:=a.tmps,defers:=[] } A (xS N blk) (R7 N val):=by
 have hE:∀k b,xS N blk k=some b->N<=k/\blk (k - N)=some b:=λk b hk=>by
  simp only[xS]at hk
  cases hb:Nat.ble N k with
  | false=>rw[hb]at hk;cases hk
  | true=>rw[hb]at hk;exact⟨Nat.le_of_ble_eq_true hb,hk⟩
 have pV:∀k,Nat.ble N (N+k)=true:=λk=>by rw[Nat.ble_eq];omega
 have bg:∀b,b<A.heap.size->(fN w0 blk b/\¬P' b)->fN (jv w0 P' N l r st A blk) (xS N blk) b:=λb _ hb=>⟨.inl (.inl hb),λs hs=>hb.1.2 _ (hE s b hs).2⟩
 have Q2:∀k,xS N blk (N+k)=blk k/\R7 N val (N+k)=val k/\(ja N st).s (N+k)=shiftS (N + ·) (st.s k):=λk=>by
  simp only[xS,R7,ja,xR,pV k,Yb,Yy];exact⟨trivial,trivial,trivial⟩
 refine⟨⟨rfl,rfl,rfl,Xw _,λ_ _ _=>rfl⟩,⟨⟨[],rfl,.nil,λb hb=>by cases hb⟩,λb o hb=>by obtain⟨rfl,rfl⟩:=sS hb;exact⟨hl,rfl⟩⟩,h.size,λk b hk=>⟨.inr (.inl ⟨_,(hE k b hk).2⟩),(h.new _ b (hE k b hk).2).2.1⟩,λk k' b hk kX=>?_,λk b hk=>?_,λk=>?_,λt=>?_⟩
 ·have e:=h.inj _ _ b (hE k b hk).2 (hE k' b kX).2
  have:=(hE k b hk).1;have:=(hE k' b kX).1;omega
 ·simp only[jv,nU]at hk
  cases hb:Nat.ble N k&&(st.s (k - N)).isVar with
  | false=>rw[hb]at hk;cases hk
  | true=>
   rw[hb]at hk;rw[Xs]at hb;refine⟨by simp only[xS,hb.1,Yb];exact hk,?_,XQ hN (Nat.le_of_ble_eq_true hb.1)⟩;show (xR N st.s k).isVar=true
   simp only[xR,hb.1,Yb];have h2:=hb.2
   cases hs:st.s (k - N)<;>rw[hs]at h2<;>first|rfl|cases h2
 ·show ml _ _ _ _ (xR N st.s) _ _ (xR N st.s k)
  cases hb:Nat.ble N k with
  | false=>simp only[xS,xR,hb,XJ];rfl
  | true=>
   simp only[xS,xR,hb,Yb,R7];exact(h.site (k - N)).shift bg λcs _ y _ j _=>Q2 j
 ·exact(h.tmp t).shift bg λk _=>Q2 k
theorem fY.as4{N l:Nat}{r:Loop}{c:Cx}{S:Nat->aH}{a':Act}{rK:Nat->Option Nat}{Bz:Nat->Z3}(h:fY w0 P' st a A blk val)(hH:qx c (ja N (gV st S)) a' B rK Bz)
  (hs:A.heap.size<=B.heap.size) (qJ:gf A B) (HT:∀g,g<A.heap.size->(∀k,blk k≠some g)->g≠l->B.heap[g]?=A.heap[g]?) (hl:A.heap[l]?=some (.loop r)) (WT:w0.w.heap.size<=l) (hlf:∀o,w0.fix l≠some o)
  (FU:∀k b,(st.s k).isVar=true->blk k=some b->c.kU (N+k)=some b) (qW:∀k b,rK (N+k)=some b->(∃j,blk j=some b)\/A.heap.size<=b)
  (HU:∀k,jN (S k)) (jC:∀k,(S k).isVar=(st.s k).isVar):fY w0 P' (df st S) a B (λk=>rK (N+k)) (λk=>Bz (N+k)):=by
 have pV:∀k,Nat.ble N (N+k)=true:=λk=>by rw[Nat.ble_eq];omega
 have hup:∀k,xR N S (N+k)=shiftS (N + ·) (S k):=λk=>by simp only[xR,pV k,Yb,Yy]
 have⟨⟨ms,m1,m2,m3⟩,f1⟩:=h.kept;have nY:∀b,A.heap.size<=b->¬P' b:=λb hb hY=>by have:=(h.mZ b hY).2;omega
 have pinned:∀k b,(st.s k).isVar=true->blk k=some b->rK (N+k)=some b:=λk b hv hb=>(hH.kU _ _ (FU k b hv hb)).1;refine⟨⟨qJ.1.trans h.ext.os,qJ.2.1.trans h.ext.tape,qJ.2.2.trans h.ext.output,XQ h.ext.size hs,λk hk hm=>?_⟩,⟨⟨ms,m1,m2,λb hb=>⟨(m3 b hb).1,?_⟩⟩,λb o hf=>⟨?_,(f1 b o hf).2⟩⟩,h.HD,h.Rj,λg hg=>⟨(h.mZ g hg).1,XD (h.mZ g hg).2 hs⟩,h.size,λk b hb=>?_,λk k' b hb bY=>?_,λk b hb=>?_,λk=>?_,λt=>?_⟩
 ·rw[HT k (XD hk h.ext.size) (λj hj=>?_) (by omega)]
  ·exact h.ext.block k hk hm
  ·rcases(h.new j k hj).1 with q|q
   ·omega
   ·exact hm q
 ·have bY:=(m3 b hb).2
  rw[HT b (bI bY) (h.sv bY E) (λe=>by rw[e,hl]at bY;cases bY)];exact bY
 ·have⟨q1,q2⟩:=f1 b o hf
  rw[HT b (bI q1) (h.sv q1 q2) (λe=>hlf o (by rw[<-e];exact hf))];exact q1
 ·refine⟨?_,(hH.new _ b hb).2,?_⟩
  ·rcases qW k b hb with ⟨j,hj⟩|q
   ·exact(h.new j b hj).1
   ·exact .inl (XQ h.ext.size q)
  ·rcases qW k b hb with ⟨j,hj⟩|q
   ·exact(h.new j b hj).2.2
   ·exact nY b q
 ·have:=hH.inj _ _ b hb bY
  omega
 ·have⟨q1,q2,q3⟩:=h.kU k b hb
  exact⟨pinned k b q2 q1,by show (S k).isVar=true;rw[jC k];exact q2,q3⟩
 ·have h1:=hH.site (N+k)
  rw[show (ja N (gV st S)).s (N+k)=shiftS (N + ·) (S k) from hup k]at h1;exact ml.flat (h1.ix (λb hb bg=>bg) λcs _ y _ j _=>⟨rfl,rfl,hup j⟩) (HU k)
 ·have h1:=h.tmp t
  show iV B _ _ _ S (loopT st.s (st.t t)) _
  cases hx:st.t t with
  | d x=>
   rw[hx]at h1;refine iN.MA (show iN A _ x _ from h1) hs (λb aK e z bg hb=>?_) λb bH bg=>⟨⟨bg.1.1,λs Es=>?_⟩,bg.2⟩
   ·rw[HT b (bI hb) bg.1.2 (λe=>by rw[e,hl]at hb;cases hb)];exact hb
   ·rcases qW s b Es with ⟨j,hj⟩|q
    ·exact bg.1.2 j hj
    ·omega
  | ref k o=>
   rw[hx]at h1;simp only[loopT]
   cases hv:(st.s k).isVar with
   | false=>trivial
   | true=>
    have⟨q1,b,q2,q3⟩:=h1;exact⟨(λhn=>by have:=jC k;rw[hn,hv]at this;cases this),b,pinned k b hv q2,q3⟩
  | rs k=>trivial
  | own k r f g=>trivial
  | un=>rw[hx]at h1;exact h1
  | dead=>trivial
theorem wP{α β:Type}{g:Z6}{ps:Array Tmp}{assign body:Code}{R:Exit->St->Prop}{f:ϋ}{pre post:List D}{enc:α->List D}{items:List α}{fin:Bool}(N:Nat)(dh:List D)(SH:List Z3->β->Nat->aH)(S':β->Nat->aH)(I:Nat->β->Prop)(X:Exit->β->Prop)(x0:β)
  (cH:w0.uk=none) (hg:(st.ev g=.d (.vB (.func f) pre)/\post=[])\/(st.ev g=.d (.fn (.func f) post)/\pre=[])) (he:cA P f=true) (Vi:PI P f pre post enc items fin) (hN:Nat.ble st.n N=true) (WI:∀y,(enc y).length=ps.size) (iK:∀p∈ps.toList,p<st.n) (CV:∀us x k,jN (SH us x k))
  (jC:∀us x k,(SH us x k).isVar=(st.s k).isVar) (h0:I 0 x0) (hs:∀a w blk val,qx w0 st a w blk val->∃us aI val',oq w (fN w0 aI) dh us/\qx w0 (df st (SH us x0)) a w aI val') (qL:fin=false->∀x,¬I items.length x)
  (m8:∀us,∀w1:Cx,(∀k b,w1.kU k=some b->(Nat.ble N k&&(st.s (k - N)).isVar)=true)->∀k x y,I k x->items[k]?=some y->dG P w1 assign (λe s=>e=.normal/\∀w2:Cx,(∀k b,w2.kU k=some b->(Nat.ble N k&&(st.s (k - N)).isVar)=true)->
   dG P w2 body (λe s'=>(e=.normal/\∃x',I (k+1) x'/\Le w2 s' (ja N (gV st (SH us x'))))\/((Ak e).isSome=true/\∃x',X e x'/\Le w2 s' (ja N (gV st (SH us x'))))) s) (zR ps.toList (enc y) (ja N (df st (SH us x)))))
  (HV:∀us x a w blk val,oq w (fN w0 blk) dh us->qx w0 (df st (SH us x)) a w blk val->qx w0 (df st (S' x)) a w blk val)
  (CX:∀x,I items.length x->R .normal (df st (S' x))) (cC:∀e x,X e x->R e (df st (S' x))):dG P w0 (.rangeFunc g ps assign body) R st:=by
 intro F m hF a w hH;rw[Nat.ble_eq]at hN
 have hFw:F=Fence.wide:=by
  rcases hF.1 with e|⟨l,e⟩
  ·exact e
  ·have:=hF.2;rw[e,cH]at this;cases this
 subst hFw;have⟨aG3,at7,hhI⟩:=hH;have⟨Wt,mD,TT,ay5,M9⟩:=hs a w aG3 at7 hhI;obtain⟨S,hSe⟩:∃S:β->Nat->aH,S=SH Wt:=⟨_,rfl⟩;have m8:=m8 Wt;have jC:=jC Wt;have CV:=CV Wt;have Nk:=HV Wt;rw[<-hSe]at m8 jC CV Nk M9
 obtain⟨v1,v2,hga,ay4,ay3⟩:∃v1 v2:List Z3,a.eval g=.func (.func f) v1.toArray v2.toArray/\oq w (fN w0 mD) pre v1/\oq w (fN w0 mD) post v2:=by
  have evg:∀x,st.ev g=.d x->iN w (fN w0 mD) x (a.eval g):=λx hx=>by
   have h1:=M9.ev g
   have:(df st (S x0)).ev g=.d x:=by
    cases g with
    | tmp t=>show loopT st.s (st.t t)=_;rw[show st.t t=_ from hx];rfl
    | _=>exact hx
   rw[this]at h1;exact h1
  rcases hg with ⟨h1,rfl⟩|⟨h1,rfl⟩
  ·obtain⟨vs,h2,h3⟩:=HC (evg _ h1)
   exact⟨vs,[],h2,h3,trivial⟩
  ·obtain⟨vs,h2,h3⟩:=FY (evg _ h1)
   exact⟨[],vs,h2,trivial,h3⟩
 have CN:∀{ds:List D} {vs:List Z3},oq w (fN w0 mD) ds vs->oq w (λb=>fN w0 mD b/\b<w.heap.size) ds vs:=λh=>oq.of h.length λj d v h1 h2=>(h.get j d v h1 h2).ok λb hb h=>⟨h,hb⟩;have ML:=CN ay4;have hv2:=CN ay3;refine wpIn_rangeFunc ?_;intro fn WX;obtain⟨rec,oJ⟩:∃rec:LoopState->Option Code->Loop,rec=λst pe=>{ state:=st,pending:=pe,fn,tmps:=a.tmps,params:=ps,assign,body,defers:=w.heap.size }:=⟨_,rfl⟩;obtain⟨W1,hW1⟩:∃W1,(w.alloc (.deferred (some []))).alloc (.loop (rec .ready none))=W1:=⟨_,rfl⟩
 have hL1:W1.heap[w.heap.size+1]?=some (.loop (rec .ready none)):=by
  rw[<-hW1];have:=World.alloc_heap_new (w.alloc (.deferred (some []))) (.loop (rec .ready none));rwa [World.size_alloc]at this
 have hK1:W1.heap[w.heap.size]?=some (.deferred (some [])):=by
  rw[<-hW1];exact(Below.heap_alloc _ _ _ (by simp)).trans (World.alloc_heap_new w _)
 have hE1:Ext w W1:=by rw[<-hW1];exact((Ext.refl w).alloc _).alloc _
 have U3:W1.heap.size=w.heap.size+2:=by rw[<-hW1];simp
 have hJ1:kI w0 st a w (λb=>fN w0 mD b/\b<w.heap.size) (w.heap.size+1) w.heap.size (rec .ready none) (S x0) (λ_=>False) W1:=
  ⟨⟨mD,TT,fY.of (M9.ext' hE1),λg hg=>⟨hg.1,λh=>h⟩⟩,hL1,hK1,⟨λh=>h,λh=>h⟩,by omega,λg hg=>hE1.block g hg.2⟩
 refine⟨w.heap.size+1,[{ target:=.collected w.heap.size,args:=#[] }],W1,{ target:=.fn (.func f) v2.toArray,args:=v1.toArray ++ #[.func (.yield (w.heap.size+1)) #[] #[]] },W1,f,
  v1.toArray ++ #[.func (.yield (w.heap.size+1)) #[] #[]]++v2.toArray,W1,?_,?_,λ_ _=>trivial,?_,λh=>(by simp[Fence.wide]at h),?_⟩
 ·rw[<-hW1,oJ];exact run_enterLoop_outer _ _ _ _ _
 ·simp only[resolve,hga]
  simp[go_sem]
 ·simp[invoke,go_sem,lU he]
 ·have kB:v1.toArray ++ #[Value.func (.yield (w.heap.size+1)) #[] #[]]++v2.toArray=(v1++Value.func (.yield (w.heap.size+1)) #[] #[]::v2).toArray:=by simp
  rw[kB]
  refine callsIn_wide.2 (callsIn_wide.1 ((Vi w (λb=>fN w0 mD b/\b<w.heap.size) v1 v2 ML hv2 0 (w.heap.size+1)
   (λP' s A=>match s with
    | (true,s)=>∃x,I s.length x/\kI w0 st a w (λb=>fN w0 mD b/\b<w.heap.size) (w.heap.size+1) w.heap.size (rec .ready none) (S x) P' A
    | (false,_)=>∃e c x,Ak e=some c/\X e x/\kI w0 st a w (λb=>fN w0 mD b/\b<w.heap.size) (w.heap.size+1) w.heap.size (rec .done (some c)) (S x) P' A) W1 (λ_=>False) ?_ ?_ ?_ ?_ ⟨x0,h0,hJ1⟩).mono ?_))
  ·have step : ∀ (r : Loop) (x : β) (P' : Nat -> Prop) (A B : W'), kI w0 st a w (λb => fN w0 mD b /\ b < w.heap.size) (w.heap.size + 1) w.heap.size r (S x) P' A -> A.heap.size <= B.heap.size -> gf A B -> (∀ g, g < A.heap.size -> ¬ P' g -> B.heap[g]? = A.heap[g]?) ->
     kI w0 st a w (λb=>fN w0 mD b/\b<w.heap.size) (w.heap.size+1) w.heap.size r (S x) (λg=>P' g\/(A.heap.size<=g/\g<B.heap.size)) B:=by
    intro r x P' A B hb hAB qJ iJ;obtain⟨blk,val,hh,hD⟩:=hb.hold;have hlA:=bI hb.Lh;have hkA:=bI hb.JG;refine⟨⟨blk,val,hh.step hAB qJ iJ,λg hg=>⟨(hD g hg).1,λh=>?_⟩⟩,(iJ _ hlA hb.out.1).trans hb.Lh,(iJ _ hkA hb.out.2).trans hb.JG,⟨λh=>?_,λh=>?_⟩,XQ hb.size hAB,λg hg=>?_⟩
    ·rcases h with h|⟨h,_⟩
     ·exact(hD g hg).2 h
     ·have:=hb.size;have:=hg.2;omega
    ·rcases h with h|⟨h,_⟩
     ·exact hb.out.1 h
     ·omega
    ·rcases h with h|⟨h,_⟩
     ·exact hb.out.2 h
     ·omega
    ·rw[iJ g (by have:=hb.size;have:=hg.2;omega) (hD g hg).2];exact hb.data g hg
   rintro P' ⟨go,s⟩ A B hJ hAB qJ iJ
   cases go with
   | true=>have⟨x,hI,hb⟩:=hJ;exact⟨x,hI,step _ x P' A B hb hAB qJ iJ⟩
   | false=>have⟨e,c,x,hc,hX,hb⟩:=hJ;exact⟨e,c,x,hc,hX,step _ x P' A B hb hAB qJ iJ⟩
  ·have info : ∀ (r : Loop) (x : β) (P' : Nat -> Prop) (A : W'), kI w0 st a w (λb => fN w0 mD b /\ b < w.heap.size) (w.heap.size + 1) w.heap.size r (S x) P' A ->
     w.heap.size<=A.heap.size/\(∀g,P' g->g<A.heap.size)/\∀g,g<w.heap.size->(fN w0 mD g/\g<w.heap.size)->A.heap[g]?=w.heap[g]?/\¬P' g:=by
    intro r x P' A hb;obtain⟨blk,val,hh,hD⟩:=hb.hold;exact⟨by have:=hb.size;omega,λg hg=>(hh.mZ g hg).2,λg _ hg=>⟨hb.data g hg,(hD g hg).2⟩⟩
   rintro P' ⟨go,s⟩ A hJ
   cases go with
   | true=>have⟨x,hI,hb⟩:=hJ;exact info _ x P' A hb
   | false=>have⟨e,c,x,hc,hX,hb⟩:=hJ;exact info _ x P' A hb
  ·rintro P' s y us A ⟨x,hI,hb⟩ Au J3 m'
   obtain⟨blk,val,hh,hD⟩:=hb.hold;have WG:us.length=ps.size:=by rw[oq.length J3];exact WI y
   have hy:=run_yield (P:=P) (args:=us.toArray) hb.Lh (by rw[oJ];simpa using WG);rw[oJ]at hy
   have hE:∀k b,xS N blk k=some b->blk (k - N)=some b:=λk b hk=>by
    simp only[xS]at hk
    cases hb:Nat.ble N k with
    | false=>rw[hb]at hk;cases hk
    | true=>rw[hb]at hk;exact hk
   have dU:Holds (jv w0 P' N (w.heap.size+1) (rec .ready none) (df st (S x)) A blk) (Am.zR ps.toList (enc y) (ja N (df st (S x)))) { tmps:=(ps.toList.zip us).foldl (λt (x:Tmp × Z3)=>t.setIfInBounds x.1 x.2) a.tmps,defers:=[] } A:=
    ⟨_,_,qx.zR ps.toList (enc y) us _ _ (hh.Un N (w.heap.size+1) hN hb.Lh) (oq.of (oq.length J3) λj d v h1 h2=>(oq.get J3 j d v h1 h2).ok λb hb bg=>⟨.inl (by
     rcases bg with q|q
     ·exact .inl (hD b q)
     ·exact .inr q),λk hk=>by
     have O8:=hE k b hk;rcases bg with q|q
     ·exact(hD b q).1.2 _ O8
     ·exact(hh.new _ b O8).2.2 q⟩) iK⟩
   have aA9:items[s.length]?=some y:=by have⟨t,ht⟩:=Au;rw[<-ht];simp
   have aC2:({ tmps:=(ps.zip us.toArray).foldl (λtmps (x:Tmp × Z3)=>tmps.setIfInBounds x.1 x.2) a.tmps,defers:=[] }:Act)={ tmps:=(ps.toList.zip us).foldl (λt (x:Tmp × Z3)=>t.setIfInBounds x.1 x.2) a.tmps,defers:=[] }:=by
    rw[<-Zb,Array.toList_zip]
   have SJ:∀k b,(bif Nat.ble N k&&((df st (S x)).s (k - N)).isVar then blk (k - N) else none)=some b->(Nat.ble N k&&(st.s (k - N)).isVar)=true:=λk b hk=>by
    have e:((df st (S x)).s (k - N)).isVar=(st.s (k - N)).isVar:=jC x (k - N);rw[e]at hk
    cases hb:Nat.ble N k&&(st.s (k - N)).isVar with
    | true=>rfl
    | false=>rw[hb]at hk;cases hk
   refine⟨fn,_,assign,body,hy,roundIn_of_wpIn WX (wpIn_mono (show assign.wpIn _ _ P _ ({ tmps:=(ps.zip us.toArray).foldl (λtmps (x:Tmp × Z3)=>tmps.setIfInBounds x.1 x.2) a.tmps,defers:=[] }:Act) A from by rw[aC2];exact m8 (jv w0 P' N (w.heap.size+1) (rec .ready none) (df st (S x)) A blk) SJ s.length x y hI aA9 (Fence.wide.inRound (w.heap.size+1)) _ ⟨.inr ⟨_,rfl⟩,rfl⟩ _ _ dU) ?_)⟩;rintro e aI7 aI8 ⟨s1,⟨rfl,tW⟩,aI6,aa3,h1⟩;have Vf:=(h1.defers.fix (w.heap.size+1) (.loop (rec .ready none)) (by simp[jv,nU,AN])).1;have C1:=h1.Sj (rec .busy none) E (.inr E);refine⟨_,run_beginRound Vf (by rw[oJ]),wpIn_mono (tW _ SJ (Fence.wide.inRound (w.heap.size+1)) _ ⟨.inr ⟨_,rfl⟩,rfl⟩ _ _ ⟨_,_,by rw[oJ]at C1 ⊢;exact C1⟩) ?_⟩
   have JB:∀(c1:Cx),c1={ jv w0 P' N (w.heap.size+1) (rec .ready none) (df st (S x)) A blk with fix:=AN (w.heap.size+1) (rec .busy none) }->∀(Gl:Act) (rR:W') (s2:St) (x':β) (jump:Option Code),Le c1 s2 (ja N (gV st (S x')))->Holds c1 s2 Gl rR->
     (Instr.endRound (w.heap.size+1) jump).run P rR=.ok (.bool jump.isNone) (rR.putObj (w.heap.size+1) (.loop (rec (if jump.isNone then .ready else .done) jump)))/\
     ∃B,rR.putObj (w.heap.size+1) (.loop (rec (if jump.isNone then .ready else .done) jump))=B/\
      kI w0 st a w (λb=>fN w0 mD b/\b<w.heap.size) (w.heap.size+1) w.heap.size (rec (if jump.isNone then .ready else .done) jump) (S x') P' B/\A.heap.size<=B.heap.size/\gf A B/\∀g,P' g->B.heap[g]?=A.heap[g]?:=by
    intro c1 bW Gl rR s2 x' jump hle Vw;subst bW;have⟨rK,Bz,h2⟩:=hle Gl rR Vw;have SN:=(h2.defers.fix (w.heap.size+1) (.loop (rec .busy none)) (by simp[AN,oJ])).1;have h3:=h2.Sj (rec (if jump.isNone then .ready else .done) jump) E (.inr E);have hB:(rR.putObj (w.heap.size+1) (.loop (rec (if jump.isNone then .ready else .done) jump))).heap[w.heap.size+1]?=some (.loop (rec (if jump.isNone then .ready else .done) jump)):=World.putObj_heap_same (bI SN)
    have bR:(Instr.endRound (w.heap.size+1) jump).run P rR=.ok (.bool jump.isNone) (rR.putObj (w.heap.size+1) (.loop (rec (if jump.isNone then .ready else .done) jump))):=by
     have:=run_endRound (P:=P) jump SN;rw[oJ]at this ⊢;exact this
    refine⟨bR,_,rfl,?_⟩;generalize hBe:rR.putObj (w.heap.size+1) (.loop (rec (if jump.isNone then .ready else .done) jump))=B at h3 hB;have eQ:A.heap.size<=B.heap.size:=h3.ext.size;have qJ:gf A B:=⟨h3.ext.os,h3.ext.tape,h3.ext.output⟩
    have HT:∀g,g<A.heap.size->(∀k,blk k≠some g)->g≠w.heap.size+1->B.heap[g]?=A.heap[g]?:=λg hg hnb hgl=>h3.ext.block g hg (λhm=>by
     rcases hm with ⟨k,hk⟩|hk
     ·exact hnb k hk
     ·exact hgl hk)
    have qW:∀k b,rK (N+k)=some b->(∃j,blk j=some b)\/A.heap.size<=b:=λk b Rc=>by
     rcases(h3.new _ b Rc).1 with q|q|q
     ·exact .inr q
     ·exact .inl q
     ·exact absurd (by rw[<-q];exact Rc) ((fY.of h3).sv hB E (N+k))
    have Er:w0.w.heap.size<=w.heap.size:=M9.ext.size
    have HV:=hh.as4 (N:=N) (l:=w.heap.size+1) (r:=rec .ready none) (S:=S x') (B:=B) h3 eQ qJ HT hb.Lh (by omega) (λo ho=>by have:=bI (M9.defers.fix _ o ho).1;omega)
     (λk b hv qN=>by
      have e:Nat.ble N (N+k)=true:=by rw[Nat.ble_eq];omega
      show (bif Nat.ble N (N+k)&&((df st (S x)).s (N+k - N)).isVar then blk (N+k - N) else none)=some b
      rw[e,Yy,hv];exact qN)
     qW (λk=>CV x' k) (λk=>(jC x' k).trans (jC x k).symm)
    rw[xp (jC x)]at HV;have hlA:=bI hb.Lh;refine⟨⟨⟨_,_,HV,λg hg=>⟨⟨(hD g hg).1.1,λk hk=>?_⟩,(hD g hg).2⟩⟩,hB,?_,hb.out,XQ hb.size eQ,λg hg=>?_⟩,eQ,qJ,λg hg=>?_⟩
    ·rcases qW k g hk with ⟨j,hj⟩|q
     ·exact(hD g hg).1.2 j hj
     ·have:=hb.size;have:=hg.2;omega
    ·rw[HT _ (bI hb.JG) (hh.sv hb.JG E) (by omega)];exact hb.JG
    ·rw[HT g (by have:=hb.size;have:=hg.2;omega) (hD g hg).1.2 (by have:=hg.2;omega)];exact hb.data g hg
    ·exact HT g (hh.mZ g hg).2 (λk hk=>(hh.new k g hk).2.2 hg) (λe=>hb.out.1 (by rw[<-e];exact hg))
   rintro e Gl rR ⟨s2,aB5,Vw⟩;rcases aB5 with ⟨rfl,x',hI',hle⟩|⟨hj,x',hX,hle⟩
   ·obtain⟨bR,B,hB,h1,h2,h3,h4⟩:=JB _ (by rw[oJ]) Gl rR s2 x' none hle Vw
    exact⟨_,_,bR,true,rfl,by rw[hB];exact⟨x',by rw[XI];exact hI',h1⟩,by rw[hB];exact h2,by rw[hB];exact h3,by rw[hB];exact h4⟩
   ·cases e with
    | ret=>
     obtain⟨bR,B,hB,h1,h2,h3,h4⟩:=JB _ (by rw[oJ]) Gl rR s2 x' (some .ret) hle Vw;exact⟨_,_,bR,false,rfl,by rw[hB];exact⟨.ret,.ret,x',rfl,hX,h1⟩,by rw[hB];exact h2,by rw[hB];exact h3,by rw[hB];exact h4⟩
    | exit id=>
     obtain⟨bR,B,hB,h1,h2,h3,h4⟩:=JB _ (by rw[oJ]) Gl rR s2 x' (some (.exit id)) hle Vw;exact⟨_,_,bR,false,rfl,by rw[hB];exact⟨.exit id,.exit id,x',rfl,hX,h1⟩,by rw[hB];exact h2,by rw[hB];exact h3,by rw[hB];exact h4⟩
    | _=>cases hj
  ·rintro hf P' A ⟨x,hI,_⟩
   exact qL hf x hI
  ·have behind : ∀ (W2 : W') (r : Loop) (x : β) (P' : Nat -> Prop) (st' : LoopState), kI w0 st a w (λb => fN w0 mD b /\ b < w.heap.size) (w.heap.size + 1) w.heap.size r (S x) P' W2 ->
     Holds w0 (df st (S' x)) { a with defers:={ target:=.collected w.heap.size,args:=#[] }::a.defers } (W2.putObj (w.heap.size+1) (.loop { r with state:=st' })):=by
    intro W2 r x P' st' hb;obtain⟨blk,val,hh,hD⟩:=hb.hold;have hlA:=bI hb.Lh
    have AE:CK W2 (W2.putObj (w.heap.size+1) (.loop { r with state:=st' })):=⟨by rw[World.putObj_size];exact Xw _,λb aK e z hc=>by
     rw[World.putObj_heap_other (λe'=>by rw[e',hb.Lh]at hc;cases hc)];exact hc,λb es z hc=>by
     rw[World.putObj_heap_other (λe'=>by rw[e',hb.Lh]at hc;cases hc)];exact hc⟩
    have hm:=hh.hold;have⟨⟨ms0,n1,n2,n3⟩,_⟩:=M9.defers;have⟨⟨ms,m1,m2,m3⟩,mf⟩:=hm.defers
    have bH:∀b∈ms,b<w.heap.size:=λb bY=>by
     have:({ target:=.collected b,args:=#[] }:Deferred)∈a.defers:=by rw[m1];exact X6.2 ⟨b,bY,rfl⟩
     rw[n1]at this;have⟨b',Rc,e⟩:=X6.1 this
     cases e
     exact bI (n3 b Rc).2
    have aj7:oq (W2.putObj (w.heap.size+1) (.loop { r with state:=st' })) (fN w0 blk) dh Wt:=(CN ay5).imp λd v h=>(h.cr (w':=W2) (ok':=fN w0 blk) (by have:=hb.size;omega) (λb o bg ho=>by rw[hb.data b bg];exact ho) (λb _ bg=>(hD b bg).1)).ky AE;refine⟨blk,val,Nk x _ _ _ _ aj7 ?_⟩;refine⟨⟨hm.ext.os,hm.ext.tape,hm.ext.output,by rw[World.putObj_size];exact hm.ext.size,λk hk J5=>?_⟩,⟨⟨w.heap.size::ms,?_,List.nodup_cons.2 ⟨λh=>by have:=bH _ h;omega,m2⟩,λb bY=>?_⟩,λb o hf=>?_⟩,hm.size,λs b Es=>⟨(hm.new s b Es).1,by rw[World.putObj_size];exact(hm.new s b Es).2⟩,hm.inj,hm.kU,λs=>(hm.site s).ky AE,λt=>(hm.tmp t).ky AE⟩
    ·rw[World.putObj_heap_other (by have:=M9.ext.size;omega)];exact hm.ext.block k hk J5
    ·show _::a.defers=_
     rw[m1];rfl
    ·rcases Xy.1 bY with rfl|bY
     ·exact⟨.inl M9.ext.size,by rw[World.putObj_heap_other (by omega)];exact hb.JG⟩
     ·exact⟨(m3 b bY).1,by rw[World.putObj_heap_other (by have:=bH b bY;omega)];exact(m3 b bY).2⟩
    ·refine⟨?_,(mf b o hf).2⟩
     rw[World.putObj_heap_other (by have:=bI (M9.defers.fix b o hf).1;omega)];exact(mf b o hf).1
   rintro e W2 ⟨⟨v,rfl⟩,P',⟨go,s⟩,hJ,hgo⟩
   cases go with
   | true=>
    have⟨x,hI,hb⟩:=hJ;have tZ:s=items:=hgo E;subst tZ;refine⟨none,_,by have:=run_endLoop (P:=P) hb.Lh (by rw[oJ];simp);rw[oJ]at this;exact this,?_⟩;exact⟨_,CX x hI,by have:=behind W2 _ x P' .exhausted hb;rw[oJ]at this;exact this⟩
   | false=>
    have⟨e,c,x,hc,hX,hb⟩:=hJ;refine⟨some c,_,by have:=run_endLoop (P:=P) hb.Lh (by rw[oJ];simp);rw[oJ]at this;exact this,?_⟩;have hq:Post w0 R e _ _:=⟨_,cC e x hX,by have:=behind W2 _ x P' .exhausted hb;rw[oJ]at this;exact this⟩
    cases e with
    | ret=>cases hc;exact wpIn_ret hq
    | exit id=>cases hc;exact wpIn_exit hq
    | _=>cases hc
end
section
variable{P:Z4}{w0:Cx}{st:St}{a:Act}{w:W'}{blk:Nat->Option Nat}{val:Nat->Z3}
def M7(j:Nat)(u:Z3):aH->aH
 | .cn cs=>.cn (cs.set j (.d (.v u)))
 | x=>x
def hideL(k j:Nat)(u:Z3):List (Nat × aH)->List (Nat × aH)
 | []=>[]
 | p::ps=>(p.1,bif Nat.beq p.1 k then M7 j u p.2 else p.2)::hideL k j u ps
theorem gA(k j:Nat)(u:Z3):∀(ss:List (Nat × aH)) (i:Nat),siteOf (hideL k j u ss) i=bif Nat.beq i k then M7 j u (siteOf ss i) else siteOf ss i
 | [],i=>by
  show aH.no=bif Nat.beq i k then M7 j u .no else .no
  cases Nat.beq i k<;>rfl
 | (q,x)::ss,i=>by
  have ih:=gA k j u ss i;simp only[siteOf,hideL,lookN]at ih ⊢
  cases hq:Nat.beq i q with
  | true=>
   simp only[Yb];rw[Xq hq]
  | false=>exact ih
theorem CR(k j:Nat)(u:Z3)(ss:List (Nat × aH))(i:Nat):(siteOf (hideL k j u ss) i).isVar=(siteOf ss i).isVar:=by
 rw[gA]
 cases Nat.beq i k
 ·rfl
 ·simp only[Yb]
  cases siteOf ss i<;>rfl
theorem Dg{l:List (Nat × aH)}(h:∀p∈l,jN p.2)(i:Nat):jN (siteOf l i):=by
 unfold siteOf
 cases hx:lookN i l with
 | none=>trivial
 | some x=>
  simp only
  induction l with
  | nil=>cases hx
  | cons p l ih=>
   simp only[lookN]at hx
   cases hq:Nat.beq i p.1 with
   | true=>rw[hq]at hx;cases hx;exact h p (by simp)
   | false=>rw[hq]at hx;exact ih (λq hq=>h q (by simp[hq])) hx
theorem qx.R5{s s':St}(hh:qx w0 s a w blk val)(hw:Wk s s'):qx w0 s' a w blk val:=by
 have⟨h1,h2,h3⟩:=hw;refine⟨hh.ext,hh.defers,by rw[h1];exact hh.size,hh.new,hh.inj,by rw[h1,h2];exact hh.kU,by rw[h2];exact hh.site,λt=>?_⟩;rw[h2];rcases h3 t with e|e
 ·rw[e];exact hh.tmp t
 ·rw[e];trivial
def sZ:List T->Prop
 | []=>True
 | x::xs=>zh x/\sZ xs
theorem HY:sZ []:=trivial
theorem C6{x:T}{xs:List T}(h:zh x)(hs:sZ xs):sZ (x::xs):=⟨h,hs⟩
theorem HZ:∀{xs:List T},sZ xs->∀x∈xs,zh x
 | [],_,x,hx=>by cases hx
 | y::ys,h,x,hx=>by
  rcases Xy.1 hx with rfl|hx
  ·exact h.1
  ·exact HZ h.2 x hx
theorem C7{cs:List T}(h:sZ cs):jN (.cn cs):=λx hx=>HZ h x hx
theorem og{cs:List D}(h:kH cs):jN (.box cs):=λx hx=>kH.mem h x hx
def wV:List (Nat × aH)->Prop
 | []=>True
 | p::ps=>jN p.2/\wV ps
theorem uE:wV []:=trivial
theorem gS{k:Nat}{x:aH}{ps:List (Nat × aH)}(h:jN x)(hs:wV ps):wV ((k,x)::ps):=⟨h,hs⟩
theorem qV:∀{ps:List (Nat × aH)},wV ps->∀p∈ps,jN p.2
 | [],_,x,hx=>by cases hx
 | y::ys,h,x,hx=>by
  rcases Xy.1 hx with rfl|hx
  ·exact h.1
  ·exact qV h.2 x hx
theorem qx.swap{st st':St}{k:Nat}{cs cs':List T}(hh:qx w0 st a w blk val)(hk:st.s k=.cn cs)(hn:st'.n=st.n)(ht:st'.t=st.t)(kX:st'.s k=.cn cs')(ho:∀i,i≠k->st'.s i=st.s i)(hl:cs'.length=cs.length)
  (hc:∀(aK:Array Z3),(∀(j:Nat) (x:T),cs[j]?=some x->∃v,aK[j]?=some v/\v.oneCell'=true/\iV w (fN w0 blk) blk val st.s x v)->(∃b e,blk k=some b/\w.heap[b]?=some (.cells aK e (0,0)))->∀(j:Nat) (y:T),cs'[j]?=some y->∃v,aK[j]?=some v/\v.oneCell'=true/\iV w (fN w0 blk) blk val st.s y v) :
  qx w0 st' a w blk val:=by
 have dW:∀j,blk j=blk j/\val j=val j/\(st.s j≠.no->st'.s j≠.no)/\((∃e sz es,st.s j=.row e sz es)->∃e sz es,st'.s j=.row e sz es):=λj=>by
  refine⟨rfl,rfl,?_⟩;by_cases e:j=k
  ·subst e
   exact⟨λ_=>by rw[kX];simp,λ⟨e,sz,es,q⟩=>by rw[hk]at q;cases q⟩
  ·rw[ho j e];exact⟨id,id⟩
 refine⟨hh.ext,hh.defers,by rw[hn];exact hh.size,hh.new,hh.inj,λi b hi=>?_,λi=>?_,λt=>?_⟩
 ·have⟨q1,q2,q3⟩:=hh.kU i b hi
  refine⟨q1,?_,by rw[hn];exact q3⟩;by_cases e:i=k
  ·subst e;rw[kX];rfl
  ·rw[ho i e];exact q2
 ·by_cases e:i=k
  ·subst e
   have hs:=hh.site i;rw[hk]at hs;have⟨b,e,aK,h1,h2,h3,h5⟩:=hs;rw[kX];have h6:=hc aK h5 ⟨b,e,h1,h2⟩;exact⟨b,e,aK,h1,h2,by omega,λj y hy=>let ⟨v,hv,ML,Y⟩:=h6 j y hy;⟨v,hv,ML,Y.to (λ_ _ h=>h) λj _=>dW j⟩⟩
  ·rw[ho i e]
   exact(hh.site i).to (λ_ _ h=>h) (.inl E) λ_ _ _ _ j _=>dW j
 ·rw[ht]
  exact(hh.tmp t).to (λ_ _ h=>h) λj _=>dW j
theorem Uj{cs:List T}{j i:Nat}{x y:T}(h:(cs.set j x)[i]?=some y):(i=j/\y=x)\/(i≠j/\cs[i]?=some y):=by
 rw[List.getElem?_set]at h
 split at h
 ·rename_i e
  split at h
  ·cases h;exact .inl ⟨e.symm,rfl⟩
  ·cases h
 ·rename_i e;exact .inr ⟨λq=>e q.symm,h⟩
theorem DV{α β:Type}{g:Z6}{ps:Array Tmp}{assign body:Code}{R:Exit->St->Prop}{f:ϋ}{pre post:List D}{enc:α->List D}{items:List α}{fin:Bool}{n:Nat}(N:Nat)(sl:List (Nat × T))(ss:β->List (Nat × aH))(I:Nat->β->Prop)(X:Exit->β->Prop)(x0:β)(k j:Nat)(d:D)
  (cH:w0.uk=none) (hle:Le w0 st (kZ n sl (ss x0))) (hg:((kZ n sl (ss x0)).ev g=.d (.vB (.func f) pre)/\post=[])\/((kZ n sl (ss x0)).ev g=.d (.fn (.func f) post)/\pre=[])) (he:cA P f=true) (Vi:PI P f pre post enc items fin) (hN:Nat.ble n N=true) (WI:∀y,(enc y).length=ps.size) (iK:ps.toList.all (λp=>Nat.blt p n)=true)
  (CV:∀u x,∀p∈hideL k j u (ss x),jN p.2) (jE:∀x,∃cs,siteOf (ss x) k=.cn cs/\cs[j]?=some (.d d))
  (jC:∀x,(ss x).map UR=(ss x0).map UR) (h0:I 0 x0) (qL:fin=false->∀x,¬I items.length x)
  (m8:∀u:Z3,∀w1:Cx,(∀k b,w1.kU k=some b->(Nat.ble N k&&((kZ n sl (ss x0)).s (k - N)).isVar)=true)->∀i x y,I i x->items[i]?=some y->dG P w1 assign (λe s=>e=.normal/\∀w2:Cx,(∀k b,w2.kU k=some b->(Nat.ble N k&&((kZ n sl (ss x0)).s (k - N)).isVar)=true)->
   dG P w2 body (λe s'=>(e=.normal/\∃x',I (i+1) x'/\Le w2 s' (ja N (gV (kZ n sl (ss x0)) (siteOf (hideL k j u (ss x'))))))\/((Ak e).isSome=true/\∃x',X e x'/\Le w2 s' (ja N (gV (kZ n sl (ss x0)) (siteOf (hideL k j u (ss x'))))))) s) (zR ps.toList (enc y) (ja N (df (kZ n sl (ss x0)) (siteOf (hideL k j u (ss x)))))))
  (CX:∀x,I items.length x->R .normal (df (kZ n sl (ss x0)) (siteOf (ss x)))) (cC:∀e x,X e x->R e (df (kZ n sl (ss x0)) (siteOf (ss x)))):dG P w0 (.rangeFunc g ps assign body) R st:=by
 have EB:∀(S:Nat->aH),(∀i,(S i).isVar=((kZ n sl (ss x0)).s i).isVar)->∀{s1:St},s1.n=n->s1.s=S->s1.t=(kZ n sl (ss x0)).t->Wk s1 (df (kZ n sl (ss x0)) S):=λS hS s1 h1 h2 h3=>by
  refine⟨h1.symm,h2.symm,λt=>?_⟩;show loopT (kZ n sl (ss x0)).s ((kZ n sl (ss x0)).t t)=_\/loopT (kZ n sl (ss x0)).s ((kZ n sl (ss x0)).t t)=.dead
  rw[h3]
  cases hx:(kZ n sl (ss x0)).t t with
  | ref k o=>
   simp only[loopT]
   cases ((kZ n sl (ss x0)).s k).isVar
   ·exact .inr E
   ·exact .inl E
  | rs k=>exact .inr E
  | own k r f g=>exact .inr E
  | _=>exact .inl E
 refine dG.le hle (wP N [d] (λus x=>siteOf (hideL k j (us.headD undef) (ss x))) (λx=>siteOf (ss x)) I X x0 cH hg he Vi hN WI (λp hp=>?_) (λus x i=>Dg (CV _ x) i) (λus x i=>(CR k j _ (ss x) i).trans (pv (jC x) i)) h0 (λa w blk val h=>?_) qL (λus=>m8 (us.headD undef)) (λus x a w blk val J3 h=>?_) CX cC)
 ·have:=X0.1 iK p hp
  rw[YB]at this;exact this
 ·have⟨cs,ep,hj⟩:=jE x0
  have hs:=h.site k;rw[show (kZ n sl (ss x0)).s k=.cn cs from ep]at hs;have⟨b,e,aK,h1,h2,h3,h5⟩:=hs;obtain⟨u,hu,hu1,Y⟩:=h5 j _ hj
  let s1:St:={ n:=n,t:=(kZ n sl (ss x0)).t,s:=siteOf (hideL k j u (ss x0)) }
  have Er : qx w0 s1 a w blk val := h.swap (st' := s1) (k := k) (cs' := cs.set j (.d (.v u))) ep E E (by
    show siteOf (hideL k j u (ss x0)) k=_
    rw[gA,Z0,ep];rfl) (λi hi=>by
    show siteOf (hideL k j u (ss x0)) i=siteOf (ss x0) i
    rw[gA];have:Nat.beq i k=false:=by rw[<-XT];exact λe=>hi (Xq e)
    rw[this];rfl) (by simp) (λaa1 h5' ⟨b',e',C1,h2'⟩ i y hy=>by
    rw[h1]at C1;cases C1
    rw[h2]at h2';cases h2'
    rcases Uj hy with ⟨rfl,rfl⟩|⟨_,hy⟩
    ·exact⟨u,hu,hu1,iN.v u hu1⟩
    ·exact h5' i y hy)
  exact⟨[u],blk,val,⟨Y,trivial⟩,qx.R5 Er (EB _ (λi=>(CR k j u (ss x0) i)) E E E)⟩
 ·have⟨cs,ep,hj⟩:=jE x
  match us,J3 with
  | [u],J3=>
   have hkk:siteOf (hideL k j u (ss x)) k=.cn (cs.set j (.d (.v u))):=by rw[gA,Z0,ep];rfl
   refine h.swap (k:=k) (cs:=cs.set j (.d (.v u))) (cs':=cs) hkk E E ep (λi hi=>?_) (by simp) (λaa1 h5' _ i y hy=>?_)
   ·show siteOf (ss x) i=siteOf (hideL k j u (ss x)) i
    rw[gA];have:Nat.beq i k=false:=by rw[<-XT];exact λe=>hi (Xq e)
    rw[this];rfl
   ·by_cases e:i=j
    ·subst e
     have bH:=(Xt.1 hj).1;obtain⟨v,hv,ML,Y⟩:=h5' i (.d (.v u)) (by rw[List.getElem?_set_self bH]);have:v=u:=iN.c8 Y;subst this;rw[hj]at hy;cases hy
     exact⟨v,hv,ML,J3.1⟩
    ·exact h5' i y (by rw[List.getElem?_set_ne (λq=>e q.symm)];exact hy)
theorem nE{α β:Type}{g:Z6}{ps:Array Tmp}{assign body:Code}{R:Exit->St->Prop}{f:ϋ}{pre post:List D}{enc:α->List D}{items:List α}{fin:Bool}{n:Nat}(N:Nat)(sl:List (Nat × T))(ss:β->List (Nat × aH))(I:Nat->β->Prop)(X:Exit->β->Prop)(x0:β)
  (cH:w0.uk=none) (hle:Le w0 st (kZ n sl (ss x0))) (hg:((kZ n sl (ss x0)).ev g=.d (.vB (.func f) pre)/\post=[])\/((kZ n sl (ss x0)).ev g=.d (.fn (.func f) post)/\pre=[])) (he:cA P f=true) (Vi:PI P f pre post enc items fin) (hN:Nat.ble n N=true) (WI:∀y,(enc y).length=ps.size) (iK:ps.toList.all (λp=>Nat.blt p n)=true)
  (CV:∀x,∀p∈ss x,jN p.2)
  (jC:∀x,(ss x).map UR=(ss x0).map UR) (h0:I 0 x0) (qL:fin=false->∀x,¬I items.length x)
  (m8:∀w1:Cx,(∀k b,w1.kU k=some b->(Nat.ble N k&&((kZ n sl (ss x0)).s (k - N)).isVar)=true)->∀k x y,I k x->items[k]?=some y->dG P w1 assign (λe s=>e=.normal/\∀w2:Cx,(∀k b,w2.kU k=some b->(Nat.ble N k&&((kZ n sl (ss x0)).s (k - N)).isVar)=true)->
   dG P w2 body (λe s'=>(e=.normal/\∃x',I (k+1) x'/\Le w2 s' (ja N (gV (kZ n sl (ss x0)) (siteOf (ss x')))))\/((Ak e).isSome=true/\∃x',X e x'/\Le w2 s' (ja N (gV (kZ n sl (ss x0)) (siteOf (ss x')))))) s) (zR ps.toList (enc y) (ja N (df (kZ n sl (ss x0)) (siteOf (ss x))))))
  (CX:∀x,I items.length x->R .normal (df (kZ n sl (ss x0)) (siteOf (ss x)))) (cC:∀e x,X e x->R e (df (kZ n sl (ss x0)) (siteOf (ss x)))):dG P w0 (.rangeFunc g ps assign body) R st:=by
 refine dG.le hle (wP N [] (λ_ x=>siteOf (ss x)) (λx=>siteOf (ss x)) I X x0 cH hg he Vi hN WI (λp hp=>?_) (λ_ x i=>Dg (CV x) i) (λ_ x i=>pv (jC x) i) h0 (λa w blk val h=>⟨[],blk,val,trivial,qx.R5 h ⟨rfl,rfl,λt=>?_⟩⟩) qL (λ_=>m8) (λ_ _ _ _ _ _ _ h=>h) CX cC)
 ·have:=X0.1 iK p hp
  rw[YB]at this;exact this
 ·show loopT (kZ n sl (ss x0)).s ((kZ n sl (ss x0)).t t)=_\/loopT (kZ n sl (ss x0)).s ((kZ n sl (ss x0)).t t)=.dead
  cases hx:(kZ n sl (ss x0)).t t with
  | ref k o=>
   simp only[loopT]
   cases ((kZ n sl (ss x0)).s k).isVar
   ·exact .inr E
   ·exact .inl E
  | rs k=>exact .inr E
  | own k r f g=>exact .inr E
  | _=>exact .inl E
variable{α σ:Type}{V':(Nat->Prop)->σ->W'->Prop}{c:Cx}{s:σ}
theorem Cw{l:List Z8}{id:Nat}{R:Exit->St->σ->Prop}(n:Nat)(hm:P.follows .mixedOrders=true)(hJ:tM V')(h:(vX l n st.n&&decide (n<=l.length)&&wu l n)=true)
  (hW:∀c':Cx,(∀b,c'.mine b->c'.ok b)->wK P c' st l n (l.take n) 0 (λ_=>.dead) st (λst'=>pT P V' c l (l.drop n) R st' s)):iw P V' c (.region id l.toArray true) R st s:=by
 simp only[Xs,XW]at h;obtain⟨⟨h,hn⟩,hB⟩:=h;have J4:(l.take n).length=n:=by simp;omega
 have HP:∀k,k<(l.take n).length->(l.take n)[k]?=l[0+k]?:=λk hk=>by rw[J4]at hk;simp[hk]
 intro m P' a w blk val hh hj;obtain⟨xs,_,hO,hK⟩:=qe h (l.take n) 0 _ _ (by omega) HP (hW (dO c P' a w blk) hh.FF);have hH:Holds (dO c P' a w blk) st a w:=⟨blk,val,hh.inner⟩
 have hT:∀a' w',Holds (dO c P' a w blk) (dX st l n xs (gd n)) a' w'->wpListIn Fence.wide m P l.toArray (λe a' w'=>∃st' s' Y' aI val',R e st' s'/\gG c Y' st' a' w' aI val'/\V' Y' s' w') (l.drop n) a' w':=λa' w' oO=>by
  obtain⟨aI,val',hk⟩:=oO.EB (vo h (l.take n) 0 st (by omega) HP (by rw[fg (λp _=>by simp[gd])];exact⟨rfl,rfl,λ_=>.inl E⟩));have⟨Y',h1,h2⟩:=hh.after hJ hj hk;exact hK m Y' a' w' aI val' h1 h2
 refine wpIn_region_any hm ?_
 have FN:HeadInv .any l.toArray n (Array.replicate l.toArray.size false):=
  ⟨by simp,λj oj _ hl=>(by rw[getD_replicate_false]at hl;cases hl),λt _ ht=>getD_in (by simpa using ht) (getD_replicate_false _ _)⟩
 have:=Ip (F:=Fence.wide) (m:=m) (w0:=dO c P' a w blk) ⟨.inl E,rfl⟩ h hn hB (λk o hk ho=>hO k o (XC _) hk ho) hT n _ a { w with drawn:=w.drawn+1 } FN lI (by rw[fg (λp _=>getD_replicate_false _ _)];exact hH.drew);rw[show n+(l.length - n)=l.toArray.size by simp;omega]at this;exact this
end
section
variable{P:Z4}{w0:Cx}{n:Nat}{s:Nat->aH}{ev:Z6->T}{dst:Option Tmp}{ty:Z5}{pos:String}{after:Array Edge}{g:Option (Nat × Bool)}
theorem u5{o:Z8}{a:Act}{w:W'}{fv:Z6}{args:Array Z6}{at_:Array Z5}{f:ϋ}{vs:Array Z3}(ho:o.op=.call ⟨.value fv,args,at_⟩)(hf:a.eval fv=.func (.func f) vs #[])(h:cA P f=true) :
  (execOp a.eval o).run P w=.ok (.enter f (vs++args.map a.eval)) w:=by
 simp[execOp,ho,resolve,hf,Deferred.ofValue,invoke,lU h]
theorem Qh{fv:Z6}{f:ϋ}{ys:List Z6}{at_:Array Z5}{cap ds:List D}{r:D}(he:cA P f=true)(hf:ev fv=.d (.vB (.func f) cap))(ha:lM ev ys ds)(Y:PC P f (cap++ds) r) :
  QOp P w0 n s ev ⟨dst,.call ⟨.value fv,ys.toArray,at_⟩,ty,pos,after,g⟩ (.d r):=by
 intro st a w ⟨blk,val,hh⟩ hs hn fq J;have⟨aI,hy,eT,_⟩:=QOp.core hh hs fq;have kB:=iO hy ha;obtain⟨vs,hv,ez⟩:=HC (show iN w _ (.vB (.func f) cap) (a.eval fv) by have:=hy fv;rw[hf]at this;exact this);refine gO (λc hc=>by cases hc) ?_;unfold Oper.wp;rw[u5 E hv he];have hc:=Y w (fN w0 blk) (vs++ys.map a.eval) (ez.append kB);have jF:((vs++ys.map a.eval).toArray:Array Z3)=vs.toArray++ys.toArray.map a.eval:=by simp
 rw[jF]at hc;refine hc.mono ?_;rintro e w' ⟨v,rfl,hE,hR⟩;refine⟨blk,val,(hh.ext' hE).put dst (.d r) v (λd h=>by rw[hn];exact J d h) ?_⟩;refine iN.ok hR λb _ hb=>?_;rcases hb with hb|hb
 ·exact hb
 ·exact⟨.inr (XQ hh.ext.size hb),λk hk=>by have:=(hh.new k b hk).2;omega⟩
theorem Fb{t e m:Z5}{y z:Z6}{cs:List D}{d:D}{i:Int}{k:IntKind}(ht:arB P t m e 1=true)(hs:szB P e false 1=true)(hy:ev y=.d (.agg cs))(hz:ev z=.d (.v (.int k i)))(h0:0<=i)(h1:i<m)(J:cs[i.toNat]?=some d) :
  QOp P w0 n s ev ⟨dst,.index t y z,ty,pos,after,g⟩ (.d d):=
 .mk λa w ok blk val h _ qW=>by
  obtain⟨vs,hv,hL,_⟩:=oD (show iN w _ (.agg cs) (a.eval y) by have:=h y;rw[hy]at this;exact this);have h2:a.eval z=.int k i:=iV.c8 (hz ▸ h z);obtain⟨v,hvi,Y⟩:=hL.at_ J;refine⟨v,w,?_,Ext.refl w,Y⟩;have⟨inf,hi,eQ⟩:=lJ ht;simp[execOp,Instr.index,asIntOf,run_underlying (iq ht),hv,h2,h0,h1,sizeOf,bO hi,eQ,part,gn hs,hvi]
theorem Sy(a r:Nat)(ha:a<2)(Y:r<2 ^ 23 - 1):(Ieee.single.read (a*2 ^ 31+0x7f800000+1+r)).isNaN=true:=by
 have e1:Ieee.single.signWeight=2 ^ 31:=rfl;have e2:Ieee.single.binade=2 ^ 23:=rfl;have e3:Ieee.single.infRung=0x7f800000:=by decide
 unfold Ieee.Format.read;simp only[e1,e2,e3];have h:(a*2 ^ 31+0x7f800000+1+r) % 2 ^ 31=0x7f800000+1+r:=by omega
 rw[h,Xr (by omega),Xr (by omega),Xr (by omega)];rfl
theorem Sz(a r:Nat)(ha:a<2)(Y:r<2 ^ 52 - 1):(Ieee.double.read (a*2 ^ 63+0x7ff0000000000000+1+r)).isNaN=true:=by
 have e1:Ieee.double.signWeight=2 ^ 63:=rfl;have e2:Ieee.double.binade=2 ^ 52:=rfl;have e3:Ieee.double.infRung=0x7ff0000000000000:=by decide +kernel
 unfold Ieee.Format.read;simp only[e1,e2,e3];have h:(a*2 ^ 63+0x7ff0000000000000+1+r) % 2 ^ 63=0x7ff0000000000000+1+r:=by omega
 rw[h,Xr (by omega),Xr (by omega),Xr (by omega)];rfl
theorem Cn(k:FloatKind)(x y t:Nat):(k.decode ((Question.nanBits k x y).cut t)).isNaN=true:=by
 cases k
 ·exact Sy _ _ (Zp _ (by omega)) (Zp _ (by omega))
 ·exact Sz _ _ (Zp _ (by omega)) (Zp _ (by omega))
theorem Mc(k:FloatKind)(x t:Nat):(k.decode ((Question.nanConv k x).cut t)).isNaN=true:=by
 cases k
 ·exact Sy _ _ (Zp _ (by omega)) (Zp _ (by omega))
 ·exact Sz _ _ (Zp _ (by omega)) (Zp _ (by omega))
theorem qv{w:W'}{ok:Nat->Prop}{k:FloatKind}{v:Z3}(h:iN w ok (.nan k) v):∃b,v=.float k b/\(k.decode b).isNaN=true:=by
 generalize J:D.nan k=d at h
 cases h<;>first|(cases J;done)|(cases J;exact⟨_,rfl,by assumption⟩)
theorem Cm{k:FloatKind}{a b:Nat}(h:(k.decode a).isNaN=true):k.format.order a b=none:=by
 unfold Ieee.Format.order;have h:(k.format.read a).isNaN=true:=h;generalize k.format.read a=d at h
 cases d<;>first|(cases h;done)|rfl
theorem Lr{op:BinOp}{t t':Z5}{x y:Z6}{k:FloatKind}{a b:Nat}(cF:op=.add\/op=.sub\/op=.mul)(hx:ev x=.d (.v (.float k a)))(hy:ev y=.d (.v (.float k b)))(Y:floatBits op k a b=none) :
  QOp P w0 n s ev ⟨dst,.binOp op t x y t',ty,pos,after,g⟩ (.d (.nan k)):=
 .mk λact w ok blk val h _ qW=>by
  have e1:act.eval x=.float k a:=iV.c8 (hx ▸ h x);have e2:act.eval y=.float k b:=iV.c8 (hy ▸ h y);refine⟨.float k ((Question.nanBits k a b).cut (w.tape w.drawn (.nanBits k a b))),w.drew,?_,(Ext.refl w).drew,.nan k _ (Cn k a b _)⟩;rcases cF with rfl|rfl|rfl<;>(unfold floatBits at Y;simp only at Y;simp[execOp,e1,e2,eqGuard,binOp,Op.floatArith,Y,Question.forced])
theorem Qf{op:BinOp}{t t':Z5}{x y:Z6}{k:FloatKind}(cF:op=.sub)(hx:ev x=.d (.nan k))(hy:ev y=.d (.nan k)) :
  QOp P w0 n s ev ⟨dst,.binOp op t x y t',ty,pos,after,g⟩ (.d (.nan k)):=
 .mk λact w ok blk val h _ qW=>by
  obtain⟨a,e1,ha⟩:=qv (show iN w ok (.nan k) (act.eval x) by have:=h x;rw[hx]at this;exact this);obtain⟨b,e2,hb⟩:=qv (show iN w ok (.nan k) (act.eval y) by have:=h y;rw[hy]at this;exact this)
  have Y:k.format.sub a b=none:=by
   unfold Ieee.Format.sub;have h:(k.format.read a).isNaN=true:=ha;generalize k.format.read a=d at h
   cases d<;>first|(cases h;done)|rfl
  refine⟨.float k ((Question.nanBits k a b).cut (w.tape w.drawn (.nanBits k a b))),w.drew,?_,(Ext.refl w).drew,.nan k _ (Cn k a b _)⟩;subst cF;simp[execOp,e1,e2,eqGuard,binOp,Op.floatArith,Y,Question.forced]
theorem zO{op:BinOp}{t t':Z5}{x y:Z6}{k:FloatKind}{b:Nat}{c:Bool}(cF:op=.eql\/op=.neq\/op=.lss\/op=.leq\/op=.gtr\/op=.geq)(hx:ev x=.d (.nan k))(hy:ev y=.d (.v (.float k b)))(hc:ordB op none=c) :
  QOp P w0 n s ev ⟨dst,.binOp op t x y t',ty,pos,after,g⟩ (T.bool c):=
 .mk λact w ok blk val h _ qW=>by
  subst hc;obtain⟨a,e1,ha⟩:=qv (show iN w ok (.nan k) (act.eval x) by have:=h x;rw[hx]at this;exact this);have e2:act.eval y=.float k b:=iV.c8 (hy ▸ h y);refine⟨.bool (ordB op none),w,?_,Ext.refl w,iN.v _ E⟩;rcases cF with rfl|rfl|rfl|rfl|rfl|rfl<;>simp[execOp,e1,e2,eqGuard,binOp,Op.floatCmp,ordB,Cm ha]
theorem Lq{op:BinOp}{t t':Z5}{x y:Z6}{k:FloatKind}{c:Bool}(cF:op=.eql\/op=.neq\/op=.lss\/op=.leq\/op=.gtr\/op=.geq)(hx:ev x=.d (.nan k))(hy:ev y=.d (.nan k))(hc:ordB op none=c) :
  QOp P w0 n s ev ⟨dst,.binOp op t x y t',ty,pos,after,g⟩ (T.bool c):=
 .mk λact w ok blk val h _ qW=>by
  subst hc;obtain⟨a,e1,ha⟩:=qv (show iN w ok (.nan k) (act.eval x) by have:=h x;rw[hx]at this;exact this);obtain⟨b,e2,hb⟩:=qv (show iN w ok (.nan k) (act.eval y) by have:=h y;rw[hy]at this;exact this);refine⟨.bool (ordB op none),w,?_,Ext.refl w,iN.v _ E⟩;rcases cF with rfl|rfl|rfl|rfl|rfl|rfl<;>simp[execOp,e1,e2,eqGuard,binOp,Op.floatCmp,ordB,Cm ha]
theorem I2{t t':Z5}{y:Z6}{fk Jz:FloatKind}{b:Nat}(ht:fltB P t fk=true)(mn:fltB P t' Jz=true)(eW:fk≠Jz)(hy:ev y=.d (.v (.float fk b)))(Y:(fk.decode b).isNaN=true):QOp P w0 n s ev ⟨dst,.convert t t' y,ty,pos,after,g⟩ (.d (.nan Jz)):=
 .mk λa w ok blk val h _ qW=>by
  have h1:a.eval y=.float fk b:=iV.c8 (hy ▸ h y);have hu:=run_underlying (w:=w) (ij ht);have hu':=run_underlying (w:=w) (ij mn);refine⟨.float Jz ((Question.nanConv Jz b).cut (w.tape w.drawn (.nanConv Jz b))),w.drew,?_,(Ext.refl w).drew,.nan Jz _ (Mc Jz b _)⟩
  obtain⟨sg,fr,J⟩:∃sg fr,fk.decode b=.nan sg fr:=by
   generalize fk.decode b=d at Y
   cases d<;>first|(cases Y;done)|exact⟨_,_,rfl⟩
  simp[execOp,h1,convert,hu,hu',Conv.floatToFloat,eW,J,Question.forced]
variable{H:Type}{enc:Z5 × Z3->H}{w:W'}{base:Nat}{spare:Nat->Bool}{held:Bool}
theorem EI{fuel:Nat}{t:Z5}{cs:List Z3}{x:DataW H × List MemPlace}{k:FloatKind}(ht:P.underlying t=some (.float k))(h:DataW.trod enc P w base spare held fuel t cs=some x):∃n,cs=[.float k n]/\x=(.lit (.float k n),[])/\(Lit.float k n).wf=true:=by
 cases fuel with
 | zero=>simp[DataW.trod]at h
 | succ n=>
  unfold DataW.trod at h;rw[ht]at h
  split at h<;>simp_all
theorem BZ{t:Z5}{k:FloatKind}(ht:P.underlying t=some (.float k)):Reads enc P w base spare held t (λb:Nat=>[.v (.float k b)]) (λb=>(Lit.float k b).wf=true):=by
 intro fuel cs x h;obtain⟨n,rfl,_,hw⟩:=EI ht h;exact⟨n,hw,⟨.v _ E,trivial⟩,by simp[D.sc]⟩
theorem aJ2{t t':Z5}{x y:Z6}{k:IntKind}{a b c:Int}(hx:ev x=.d (.v (.int k a)))(hy:ev y=.d (.v (.int k b)))(h:bits .andNot k a b=c):QOp P w0 n s ev ⟨dst,.binOp .andNot t x y t',ty,pos,after,g⟩ (.d (.v (.int k c))):=
 wi hx hy (λw=>by
  subst h
  simp[eqGuard,binOp_andNot,intBits_andNot]) E
theorem aW9{f:ϋ}{fn:Func}{e:Array Z3->Sem Z3}{y:Z6}{u:Z3}{k:FloatKind}{at_:Array Z5}(hf:P.funcs[f]?=some fn)(m9:(fn.name == "runtime.NumGoroutine")=false)(hb:fn.body.isNone=true)(hn:Extern.findNext fn=none)(he:Extern.find fn=some e)
  (fq:ev (.func f)=.d (.fn (.func f) [])) (hy:ev y=.d (.v u)) (Y:∀w,∃b w',(e #[u]).run P w=.ok (.float k b) w'/\Ext w w'/\(k.decode b).isNaN=true):QOp P w0 n s ev ⟨dst,.call ⟨.value (.func f),#[y],at_⟩,ty,pos,after,g⟩ (.d (.nan k)):=
 .mk λa w ok blk val h _ qW=>by
  have hv:a.eval y=u:=iV.c8 (hy ▸ h y);have⟨b,w',h1,h2,h3⟩:=Y w;refine⟨.float k b,w',?_,h2,.nan k b h3⟩;have hc:=run_callFunc_extern (P:=P) hf m9 hb hn he #[u] w;have hfv:a.eval (Operand.func f)=.func (.func f) #[] #[]:=rfl;simp[execOp,resolve,invoke,hv,hfv,Deferred.ofValue,hc,h1]
abbrev ptr(b o:Nat):Z3:=.pointer (some ⟨b,o,none⟩)
def fuF:Option Nat->Z3->List Z3->Z3->Prop:=λ_ _ vs v=>vs=[v]/\∃A n,v=.slice (some A) n n
abbrev T.fu(k sz:Nat)(es:List (List D)):T:=.own k ⟨false,false⟩ [.sl sz es] fuF
end
section
variable{P:Z4}{w0:Cx}{ops:List Z8}{rest:List Z8}{R:Exit->St->Prop}{st:St}{ty ty':Z5}{pos pos':String}{after OI:Array Edge}
theorem aK2{d d2 k t e:Nat}{z u0 u1:Z3}(ht:slB P t e 1=true)(hu8:vH P e .u8=true)(hz:eC P e z)(Jo:z.cells.size=1)(e0:constT u0=.d (.v u0))(e1:constT u1=.d (.v u1))(c0:u0.cells=#[u0])(c1:u1.cells=#[u1])(h0:u0.oneCell'=true)(h1:u1.oneCell'=true)(J:Nat.blt d st.n=true)(hd2:Nat.blt d2 st.n=true)(hs:st.s k≠.no)
  (h:tj P w0 ops rest R ((st.put (some d) .dead).put (some d2) (T.fu k 1 [[.v u0],[.v u1]]))):tj P w0 ops (⟨some d,.buildSlice t 2 #[(0,.const u0),(1,.const u1)],ty,pos,after,none⟩ :: ⟨some d2,.convert t t (.tmp d),ty',pos',OI,none⟩::rest) R st:=by
 intro F m hF a w ⟨blk,val,hh⟩;have⟨i,hi,tZ⟩:=gj ht;have O7:Array.range 2=#[0,1]:=rfl
 obtain⟨c,ep⟩:∃c,z.cells=#[c]:=by
  match hq:z.cells,Jo with
  | ⟨[c]⟩,_=>exact⟨c,rfl⟩
 have hda:d<a.tmps.size:=by rw[hh.size];exact Nat.le_of_ble_eq_true J
 unfold wpListIn;rw[Xu (by simp[Region.wanted])]
 refine(show OW P w0 _ a w (λa' w'=>a'=a.put (some d) (.slice (some ⟨w.heap.size,0,none⟩) 2 2)/\w'=w.alloc (.cells #[u0,u1] e)) from gg (v:=.slice (some ⟨w.heap.size,0,none⟩) 2 2) (w':=w.alloc (.cells #[u0,u1] e)) (by
  simp[execOp,Instr.buildSlice,run_underlying (cJ ht),sizeOf,bO hi,tZ,O7,iE hz,Instr.fill,newRow,Act.eval,c0,c1,ep]) ⟨rfl,rfl⟩).to hF ?_
 rintro a1 w1 ⟨rfl,rfl⟩;unfold wpListIn;rw[Xu (by simp[Region.wanted])]
 have hv:(a.put (some d) (.slice (some ⟨w.heap.size,0,none⟩) 2 2)).eval (.tmp d)=.slice (some ⟨w.heap.size,0,none⟩) 2 2:=by
  simp[Act.eval,Act.put,hda]
 have hnb:(w.alloc (.cells #[u0,u1] e)).heap[w.heap.size]?=some (.cells #[u0,u1] e (0,0)):=fj _ _
 have hE:Ext w ((w.alloc (.cells #[u0,u1] e)).freeze ⟨w.heap.size,2,none⟩ 1):=by
  have:=(Ext.refl w).alloc (.cells #[u0,u1] e);refine⟨this.os,this.tape,this.output,?_,λb hb=>?_⟩
  ·simp[World.freeze]
  ·unfold World.freeze
   rw[Xr (by decide)];simp only;rw[Zy,Xr (show ¬w.heap.size=b by omega)];exact this.block b hb
 have Rc:((w.alloc (.cells #[u0,u1] e)).freeze ⟨w.heap.size,2,none⟩ 1).heap[w.heap.size]?=some (.cells #[u0,u1] e (2,3)):=by
  unfold World.freeze;rw[Xr (by decide)];simp only;rw[Zy,Xu E,hnb];rfl
 refine(show OW P w0 _ (a.put (some d) (.slice (some ⟨w.heap.size,0,none⟩) 2 2)) _ (λa' w'=>a'=(a.put (some d) (.slice (some ⟨w.heap.size,0,none⟩) 2 2)).put (some d2) (.slice (some ⟨w.heap.size,0,none⟩) 2 2)/\w'=(w.alloc (.cells #[u0,u1] e)).freeze ⟨w.heap.size,2,none⟩ 1) from gg (v:=.slice (some ⟨w.heap.size,0,none⟩) 2 2) (w':=(w.alloc (.cells #[u0,u1] e)).freeze ⟨w.heap.size,2,none⟩ 1) (by
  have hs2:World.shape? (w.alloc (.cells #[u0,u1] e)) w.heap.size=some (e,2):=by unfold World.shape?;rw[hnb];rfl
  have J5:(markStringish ⟨w.heap.size,0,none⟩).run P (w.alloc (.cells #[u0,u1] e))=.ok () ((w.alloc (.cells #[u0,u1] e)).freeze ⟨w.heap.size,2,none⟩ 1):=by
   simp only[markStringish,shape,freeze,bind,Sem.bind,pure,Sem.run];rw[hs2];simp only[Sem.bind,Sem.run]
  simp[execOp,hv,convert,run_underlying (cJ ht),run_underlying (lZ hu8),J5]) ⟨rfl,rfl⟩).to hF ?_
 rintro a2 w2 ⟨rfl,rfl⟩;refine h F m hF _ _ ⟨blk,val,?_⟩;have hh2:=hh.ext' hE;have h3:=gN (v:=.slice (some ⟨w.heap.size,0,none⟩) 2 2) hh2 (d:=d) (x:=.dead) (by simpa [YB] using J) trivial;refine gN h3 (by simpa [YB,St.put] using hd2) ⟨⟨⟨hs,λq=>(by cases q)⟩,λq=>(by cases q)⟩,[_],⟨?_,trivial⟩,rfl,_,_,rfl⟩;have eW:∀j,blk j≠some w.heap.size:=λj hj=>by have:=(hh.new j _ hj).2;omega
 refine iN.sl 1 [[.v u0], [.v u1]] w.heap.size 0 2 (λi _ => if i = 0 then u0 else u1) (by
   have:=(Xz.1 Rc).1;exact this) ⟨.inr hh.ext.size,eW⟩ (Xw _) (by simp[maxLen]) (λi x hx=>by
   match i,hx with
   | 0,hx=>cases hx;rfl
   | 1,hx=>cases hx;rfl) (λi x j y hx hy=>by
   match i,hx with
   | 0,hx=>cases hx;match j,hy with
    | 0,hy=>cases hy;rfl
   | 1,hx=>cases hx;match j,hy with
    | 0,hy=>cases hy;rfl) (λi x j y hx hy=>by
   match i,hx with
   | 0,hx=>cases hx;match j,hy with
    | 0,hy=>simp[World.cell?,Rc]
   | 1,hx=>cases hx;match j,hy with
    | 0,hy=>simp[World.cell?,Rc]) (λi x j y hx hy=>by
   match i,hx with
   | 0,hx=>cases hx;match j,hy with
    | 0,hy=>cases hy;exact .v u0 h0
   | 1,hx=>cases hx;match j,hy with
    | 0,hy=>cases hy;exact .v u1 h1)
theorem TR{d k:Nat}{t e sz b m m0:Nat}{z:Z3}{y x:Z6}{es news:List (List D)}(ht:slB P t e sz=true)(hz:eC P e z)(hb:Ey P e b=true)(Jo:z.cells.size=sz)(Jq:0<sz)(hy:st.ev y=T.fu k sz es)(hx:st.ev x=.d (.sl sz news))(hm:news.length=m)(hm0:es.length=m0)(vL:0<m)(bd1:0<m0)
  (Ra:(m0+m)*b<=140737488355328) (Ax:m0+m<=9223372036854775807) (J:Nat.blt d st.n=true) (hs:st.s d=.no) (h:tj P w0 ops rest R ((st.site d (.row e sz (es++news))).put (some d) (.rs d))) :
  tj P w0 ops (⟨some d,.call ⟨.builtin .append,#[y,x],#[t,t]⟩,ty,pos,after,none⟩::rest) R st:=by
 subst hm;subst hm0;refine eG (K:=λs=>s=(st.site d (.row e sz (es++news))).put (some d) (.rs d)) E (λa w ⟨blk,val,hh⟩=>?_) (λ_ e=>e ▸ h);have⟨i,hi,tZ⟩:=gj ht;have⟨i',jm,S2⟩:=rJ hb;rw[hi]at jm;cases jm
 have hy0:=hh.ev y;rw[hy]at hy0;have⟨_,vs0,hrl,bf1,A00,n00,bc7⟩:=hy0;subst bf1;have⟨A0,bg6,J2,SM,aH1,aX9,bc6,bf0⟩:=kO hrl.1;rw[bc7]at J2;obtain⟨q1,q2,q3⟩:some A00=A0/\n00=es.length/\n00=bg6:=by cases J2;exact⟨rfl,rfl,rfl⟩
 subst q1;subst q2;obtain⟨A,Ge,En,Jt,ak1,SE,QR,UX⟩:=kO (show iN w (fN w0 blk) (.sl sz news) (a.eval x) by have:=hh.ev x;rw[hx]at this;exact this);rcases UX with U5|⟨b',off,vs,hA,bY,vN,tE,SG⟩
 ·subst U5;simp at vL
 rcases bf0 with U5|⟨b0,bc5,vs0,hA0,bh0,bg8,bf3,bf2⟩
 ·subst U5;simp at bd1
 cases hA0
 have MU:∀(l:List (List D)) (f:Nat->Nat->Z3),((List.range (l.length*sz)).map λq=>f (q / sz) (q % sz)).length=l.length*i.size:=λl f=>by simp[tZ]
 have Ng:∀(l:List (List D)) (f:Nat->Nat->Z3) (c o:Nat),(∀(j:Nat) (x:List D),l[j]?=some x->x.length=sz)->(∀(j:Nat) (x:List D) (q:Nat) (d:D),l[j]?=some x->x[q]?=some d->w.cell? ⟨c,o+j*sz+q,none⟩=some (f j q))->∀q u,((List.range (l.length*sz)).map λq=>f (q / sz) (q % sz))[q]?=some u->w.cell? ((⟨c,o,none⟩:Addr).add q)=some u:=λl f c o hl hc q u hq=>by
  have SI:q<l.length*sz:=by have:=(Xt.1 hq).1;simpa using this
  have WH:q / sz<l.length:=Nat.div_lt_of_lt_mul (by rw[YW];exact SI);have Ep:=Xp WH;have hqm:q % sz<(l[q / sz]).length:=by rw[hl _ _ Ep];exact Zp _ Jq
  simp[SI]at hq;subst hq;have:=hc _ _ _ _ Ep (Xp hqm);rw[ei,show o+q=o+q / sz*sz+q % sz by have:=Nat.div_add_mod q sz;rw[YW]at this;omega];exact this
 have aC0:(es.length+news.length)*i.bytes<=140737488355328:=by rw[S2];exact Ra
 have Y:=run_append_grow (P:=P) w t ty e i z (cJ ht) hi (la hz hi) ⟨b0,bc5,none⟩ es.length es.length ((List.range (es.length*sz)).map λq=>vs0 (q / sz) (q % sz)) (MU es vs0) (Ng es vs0 b0 bc5 aX9 bf3) ⟨b',off,none⟩ news.length Ge ((List.range (news.length*sz)).map λq=>vs (q / sz) (q % sz)) (MU news vs) (Ng news vs b' off SE tE) (by omega) (by omega) (growslice_fits (by omega) aC0)
 obtain⟨k',cs,hk,ep,bR⟩:∃k cs,k=grownCap w (es.length+news.length) es.length e/\cs=((List.range (es.length*sz)).map λq=>vs0 (q / sz) (q % sz)).toArray++((List.range (news.length*sz)).map λq=>vs (q / sz) (q % sz)).toArray++Builtin.zeroCells z.cells (k - (es.length+news.length))/\(Builtin.append_ #[t,t] ty #[a.eval y,a.eval x]).run P w=.ok (.slice (some ⟨w.heap.size,0,none⟩) (es.length+news.length) k) (w.drew.alloc (.cells cs e)):=by
  refine⟨_,_,rfl,rfl,?_⟩;rw[bc7,En,hA];exact Y
 have pV:es.length+news.length<=k':=by rw[hk];exact grownCap_ge w _ _ e
 have WV:k'<=maxLen:=by rw[hk];exact grownCap_le_maxLen w _ _ e (by simp[maxLen];omega)
 have hE0:Ext w w.drew:=(Ext.refl w).drew;have hE:Ext w (w.drew.alloc (.cells cs e)):=hE0.alloc _;have eQ:w.drew.heap.size=w.heap.size:=rfl;have vS:(w.drew.alloc (.cells cs e)).heap[w.heap.size]?=some (.cells cs e (0,0)):=heap_alloc_new w.drew _;have hln:(es++news).length=es.length+news.length:=XI
 have kQ:∀(j:Nat) (x:List D),(es++news)[j]?=some x->(j<es.length/\es[j]?=some x)\/(es.length<=j/\news[j - es.length]?=some x):=λj x hx=>by
  by_cases hj:j<es.length
  ·rw[XZ hj]at hx;exact .inl ⟨hj,hx⟩
  ·rw[XM (by omega)]at hx;exact .inr ⟨by omega,hx⟩
 refine gg (v:=.slice (some ⟨w.heap.size,0,none⟩) (es.length+news.length) k') (w':=w.drew.alloc (.cells cs e)) (by simp[execOp,resolve,invoke,builtin,bR]) ⟨_,rfl,?_⟩
 have hH := (hh.ext' hE0).lK (k := d) (x := .row e sz (es ++ news)) (u := .slice (some ⟨w.heap.size, 0, none⟩) (es.length + news.length) k') (o := .cells cs e) hs ⟨λj x hx => by
   rcases kQ j x hx with ⟨_,h⟩|⟨_,h⟩
   ·exact aX9 _ _ h
   ·exact SE _ _ h,λj x q d hx J=>by
   rcases kQ j x hx with ⟨_,h⟩|⟨_,h⟩
   ·exact bc6 _ _ _ _ h J
   ·exact QR _ _ _ _ h J,.inr ⟨w.heap.size,cs,k',by rw[eQ],by rw[hln],by rw[hln];exact pV,WV,vS,by rw[ep];simp[Builtin.zeroCells,Jo];rw[<-Z2,<-Z2];congr 1;omega,λj x q d hi hj=>?_⟩⟩
 ·exact⟨_,_,gN hH (by simpa [YB,St.site] using J) ⟨⟨e,sz,es++news,by simp[St.site]⟩,by simp⟩⟩
 ·have hkx:∀d v,iN w (fN w0 blk) d v->iN (w.drew.alloc (.cells cs e)) (λb=>fN w0 blk b/\b≠w.drew.heap.size) d v:=λd v h=>h.ext hE λb hb h=>⟨h,by rw[eQ];omega⟩
  rcases kQ j x hi with ⟨mB,h⟩|⟨mB,h⟩
  ·refine⟨vs0 j q,?_,hkx _ _ (bf2 j x q d h hj)⟩
   have SI:q<sz:=by have:=(Xt.1 hj).1;rw[aX9 j x h]at this;exact this
   have hq:j*sz+q<es.length*sz:=ly mB SI;have e1:(j*sz+q) / sz=j:=by rw[Zh,Nat.add_mul_div_right _ _ Jq,Zu SI,XK]
   have e2:(j*sz+q) % sz=q:=by rw[Zh,Nat.add_mul_mod_self_right,Zt SI]
   rw[ep,Array.getElem?_append_left (by simp;omega),Array.getElem?_append_left (by simp;omega)];simp[hq,e1,e2]
  ·obtain⟨j',rfl⟩:∃j',j=es.length+j':=⟨j - es.length,by omega⟩
   rw[Yy]at h;refine⟨vs j' q,?_,hkx _ _ (SG j' x q d h hj)⟩;have hj2:=(Xt.1 h).1;have SI:q<sz:=by have:=(Xt.1 hj).1;rw[SE j' x h]at this;exact this
   have hq:j'*sz+q<news.length*sz:=ly hj2 SI;have e1:(j'*sz+q) / sz=j':=by rw[Zh,Nat.add_mul_div_right _ _ Jq,Zu SI,XK]
   have e2:(j'*sz+q) % sz=q:=by rw[Zh,Nat.add_mul_mod_self_right,Zt SI]
   have e3:(es.length+j')*sz+q=es.length*sz+(j'*sz+q):=by rw[Z2];omega
   rw[ep,e3,Array.getElem?_append_left (by simp;omega),Array.getElem?_append_right (by simp)];simp[hq,e1,e2]
end
section
variable{P:Z4}{w0:Cx}{n:Nat}{s:Nat->aH}{ev:Z6->T}{dst:Option Tmp}{ty:Z5}{pos:String}{after:Array Edge}{g:Option (Nat × Bool)}
theorem BG{t:Z5}{y:Z6}{l h:Option Z6}{b:ByteArray}{lo hi:Nat}(ht:isStr P t=true)(hy:ev y=.d (.v (.string b)))(hl:oA ev l 0 lo)(hh:oA ev h b.size hi)(h1:lo<=hi)(h2:hi<=b.size) :
  QOp P w0 n s ev ⟨dst,.slice t y l h none,ty,pos,after,g⟩ (.d (.v (.string (b.extract lo hi)))):=
 .mk λa w ok blk val hv _ qW=>by
  have dD:a.eval y=.string b:=iV.c8 (hy ▸ hv y);have hb:=u6 (P:=P) (w:=w) (cap:=b.size) hv hl hh h1 h2 (Xw _) false;refine⟨.string (b.extract lo hi),w,?_,Ext.refl w,.v _ E⟩;simp only[execOp,Instr.sliceAt,Sem.run_bind,run_underlying (wa ht),Result.andThen_ok,Instr.slice,dD,XR];simp[hb]
def zn(l:List UInt8):ByteArray:=⟨l.toArray⟩
theorem aW7{t e t':Z5}{y:Z6}{l:List UInt8}(h1:slB P t e 1=true)(h2:vH P e .u8=true)(h3:isStr P t'=true)(hy:ev y=.d (.sl 1 (l.map bC)))(hl:l≠[]):QOp P w0 n s ev ⟨dst,.convert t t' y,ty,pos,after,g⟩ (.d (.v (.string (zn l)))):=
 .mk λa w ok blk val hv _ qW=>by
  obtain⟨A,cap,dD,hn,ez,eQ,hs,vK⟩:=kO (show iN w _ (.sl 1 (l.map bC)) (a.eval y) by have:=hv y;rw[hy]at this;exact this);rcases vK with e0|⟨b,off,vs,hA,hb,bg,hc,Y⟩
  ·exact absurd (List.map_eq_nil_iff.1 e0) hl
  ·subst hA
   rw[Xo]at dD
   have bR:=run_convert_bytes_back (P:=P) w t t' e ⟨b,off,none⟩ cap l (cJ h1) (lZ h2) (wa h3) (λj hj=>by
    have q1:(l.map bC)[j]?=some (bC l[j]):=by rw[XF,Xp hj];rfl
    have q2:=hc j _ 0 _ q1 E;have q3:=iN.c8 (Y j _ 0 _ q1 E);rw[q3,YA,YI]at q2
    rw[ei];exact q2)
   exact⟨_,w,by simp only[execOp,dD,Sem.run_bind,bR];rfl,Ext.refl w,.v _ E⟩
theorem aw1{t e e2 t' k:Z5}{y:Z6}{l:List UInt8}(h1:slB P t e 1=true)(h2:vH P e .u8=true)(h3:isStr P t'=true)(hy:ev y=.rs k)(hk:s k=.row e2 1 (l.map bC))(hl:l≠[]):QOp P w0 n s ev ⟨dst,.convert t t' y,ty,pos,after,g⟩ (.d (.v (.string (zn l)))):=
 .mk λa w ok blk val hv hs qW=>by
  have q1:=hv y;rw[hy]at q1;have⟨_,dD⟩:=q1;have q2:=hs k;rw[hk]at q2;have⟨_,_,h4⟩:=q2;rcases h4 with ⟨_,e0,_⟩|⟨b,aK,cap,hb,hvk,_,_,cV,_,hc⟩
  ·exact absurd (List.map_eq_nil_iff.1 e0) hl
  rw[hvk,Xo]at dD
  have bR := run_convert_bytes_back (P := P) w t t' e ⟨b, 0, none⟩ cap l (cJ h1) (lZ h2) (wa h3) (λj hj => by
   have q1:(l.map bC)[j]?=some (bC l[j]):=by rw[XF,Xp hj];rfl
   obtain⟨v,q2,q3⟩:=hc j _ 0 _ q1 E;rw[iN.c8 q3,YA,YI]at q2
   rw[ei,XK,cell_of_block cV];exact q2)
  exact⟨_,w,by simp only[execOp,dD,Sem.run_bind,bR];rfl,Ext.refl w,.v _ E⟩
theorem ba6{t t':Z5}{x y:Z6}{k:IntKind}{a b c:Int}(hx:ev x=.d (.v (.int k a)))(hy:ev y=.d (.v (.int k b)))(h:bits .or k a b=c):QOp P w0 n s ev ⟨dst,.binOp .or t x y t',ty,pos,after,g⟩ (.d (.v (.int k c))):=
 wi hx hy (λw=>by
  subst h
  simp[eqGuard,binOp_or,intBits_or]) E
theorem aW8{t t':Z5}{x y:Z6}{k yk:IntKind}{a b c:Int}(hx:ev x=.d (.v (.int k a)))(hy:ev y=.d (.v (.int yk b)))(h:0<=b/\k.wrap (a*2 ^ min b.toNat k.bits)=c):QOp P w0 n s ev ⟨dst,.binOp .shl t x y t',ty,pos,after,g⟩ (.d (.v (.int k c))):=
 wi hx hy (λw=>by
  have⟨h1,h3⟩:=h
  simp[eqGuard,binOp,Op.shift,show ¬b<0 by omega,h3]) E
theorem ad7(l:List UInt8):(zn l).data.toList=l:=by unfold zn;simp
theorem tL(l:List UInt8):(zn l).size=l.length:=by unfold zn;simp[ByteArray.size]
theorem al8{l:List UInt8}{i:Nat}{c:UInt8}(h:l[i]?=some c):(zn l)[((i:Nat):Int).toNat]?=some c:=by
 have⟨h1,h2⟩:=Xt.1 h;rw[ZO];have e:i<(zn l).size:=by rw[tL];exact h1
 rw[getElem?_pos (zn l) i e];subst h2;rfl
theorem Lc(l:List UInt8)(a b:Nat):(zn l).extract a b=zn ((l.take b).drop a):=by
 unfold zn;apply ByteArray.ext;rw[ByteArray.data_extract];simp[List.drop_take]
def byI(x:Int):UInt8:=UInt8.ofNat (x % 256).toNat
theorem xE(x:Int):((byI x).toNat:Int)=x % 256:=by
 unfold byI;have h1:0<=x % 256:=Int.emod_nonneg _ (by decide);have h2:x % 256<256:=Int.emod_lt_of_pos _ (by decide);rw[UInt8.toNat_ofNat'];have:(x % 256).toNat<256:=by omega
 rw[Zt (by simpa using this)];omega
theorem aU7(x:Int):IntKind.u8.wrap x=((byI x).toNat:Int):=by
 rw[xE];unfold IntKind.wrap;have e4:IntKind.u8.bits=8:=rfl;have e5:IntKind.u8.signed=false:=rfl;simp[e4,e5]
theorem ak0{x:Int}(h1 : -9223372036854775808<=x)(h2:x<=9223372036854775807):IntKind.i64.wrap x=x:=by
 unfold IntKind.wrap;have e4:IntKind.i64.bits=64:=rfl;have e5:IntKind.i64.signed=true:=rfl;simp[e4,e5];omega
theorem be6{x:Int}(h1 : -1000000000<=x)(h2:x<=1000000000):IntKind.i32.wrap (x % 4294967296)=x:=by
 unfold IntKind.wrap;have e4:IntKind.i32.bits=32:=rfl;have e5:IntKind.i32.signed=true:=rfl;simp[e4,e5];omega
theorem be7{x:Int}(h1 : -2047<=x)(h2:x<=2047):IntKind.i16.wrap (x % 65536)=x:=by
 unfold IntKind.wrap;have e4:IntKind.i16.bits=16:=rfl;have e5:IntKind.i16.signed=true:=rfl;simp[e4,e5];omega
def Gm(n:Int)(k j:Nat):List UInt8:=(List.range j).map λq=>byI (n.fdiv (2 ^ (8*(k - 1 - q))))
theorem wo(n:Int)(k j:Nat):(Gm n k j).length=j:=by unfold Gm;rw[Xo,Yx]
theorem aO9(n:Int)(k j:Nat):Gm n k (j+1)=Gm n k j++[byI (n.fdiv (2 ^ (8*(k - 1 - j))))]:=by unfold Gm;rw[ZA,Yw];rfl
def chN(n:Int)(b:UInt8):Int:=(257*n+b.toNat+1) % 65521
def chS(l:List UInt8):Int:=l.foldl chN 1
theorem aZ1(n:Int)(b:UInt8):0<=chN n b/\chN n b<65521:=⟨Int.emod_nonneg _ (by decide),Int.emod_lt_of_pos _ (by decide)⟩
theorem aO4(l:List UInt8):0<=chS l/\chS l<65521:=by
 unfold chS
 have:∀(l:List UInt8) (n:Int),0<=n/\n<65521->0<=l.foldl chN n/\l.foldl chN n<65521:=by
  intro l
  induction l with
  | nil=>intro n h;exact h
  | cons b l ih=>intro n _;exact ih _ (aZ1 n b)
 exact this l 1 (by decide)
theorem aO3(l:List UInt8)(b:UInt8):chS (l++[b])=chN (chS l) b:=by unfold chS;rw[List.foldl_append];rfl
def MM(l:List UInt8):Int:=l.foldl (λn b=>n*256+b.toNat) 0
theorem aK6(l:List UInt8)(b:UInt8):MM (l++[b])=MM l*256+b.toNat:=by unfold MM;rw[List.foldl_append];rfl
theorem aV0:∀l:List UInt8,l.length<=4->0<=MM l/\MM l<4294967296
 | [],_=>by simp[MM]
 | [a],_=>by
  have h1:=a.toNat_lt;simp only[MM,List.foldl];omega
 | [a,b],_=>by
  have h1:=a.toNat_lt;have h2:=b.toNat_lt;simp only[MM,List.foldl];omega
 | [a,b,c],_=>by
  have h1:=a.toNat_lt;have h2:=b.toNat_lt;have h3:=c.toNat_lt;simp only[MM,List.foldl];omega
 | [a,b,c,d],_=>by
  have h1:=a.toNat_lt;have h2:=b.toNat_lt;have h3:=c.toNat_lt;have h4:=d.toNat_lt;simp only[MM,List.foldl];omega
 | a::b::c::d::e::l,h=>by simp at h
theorem aQ7{a:Int}{b:UInt8}(h:0<=a)(h2:a<1099511627776):bits .or .i64 (a*256) (b.toNat:Int)=a*256+b.toNat:=by
 have hb:=b.toNat_lt;obtain⟨m,rfl⟩:=Int.eq_ofNat_of_zero_le h
 have h1:(BitVec.ofInt 64 ((m:Int)*256)).toNat=m*256:=by
  rw[show ((m:Int)*256)=((m*256:Nat):Int) by omega,BitVec.ofInt_natCast,BitVec.toNat_ofNat];exact Zt (by omega)
 have h3:(BitVec.ofInt 64 (b.toNat:Int)).toNat=b.toNat:=by
  rw[BitVec.ofInt_natCast,BitVec.toNat_ofNat];exact Zt (by omega)
 show IntKind.i64.wrap ((BitVec.ofInt 64 ((m:Int)*256) ||| BitVec.ofInt 64 (b.toNat:Int)).toNat:Int)=_
 rw[BitVec.toNat_or,h1,h3,show m*256 ||| b.toNat=m*256+b.toNat by
  have:=Nat.two_pow_add_eq_or_of_lt (i:=8) (show b.toNat<2 ^ 8 by omega) m;rw[show (2:Nat) ^ 8*m=m*256 by omega]at this
  exact this.symm,ak0 (by omega) (by omega)]
 omega
theorem aM0{a:Int}(h:0<=a)(h2:a<1099511627776):(0:Int)<=8/\IntKind.i64.wrap (a*2 ^ min (8:Int).toNat IntKind.i64.bits)=a*256:=by
 refine⟨by decide,?_⟩;rw[show (2:Int) ^ min (8:Int).toNat IntKind.i64.bits=256 by decide];exact ak0 (by omega) (by omega)
theorem aS7(n:Int):MM (Gm n 2 2)=n % 65536:=by
 have e:MM (Gm n 2 2)=(0*256+((byI (n.fdiv 256)).toNat:Int))*256+(byI (n.fdiv 1)).toNat:=rfl;rw[e,xE,xE,Int.fdiv_eq_ediv_of_nonneg _ (by decide),Int.fdiv_eq_ediv_of_nonneg _ (by decide)];omega
theorem aZ8(n:Int):MM (Gm n 4 4)=n % 4294967296:=by
 have e:MM (Gm n 4 4)=(((0*256+((byI (n.fdiv 16777216)).toNat:Int))*256+(byI (n.fdiv 65536)).toNat)*256+(byI (n.fdiv 256)).toNat)*256+(byI (n.fdiv 1)).toNat:=rfl;rw[e,xE,xE,xE,xE,Int.fdiv_eq_ediv_of_nonneg _ (by decide),Int.fdiv_eq_ediv_of_nonneg _ (by decide),Int.fdiv_eq_ediv_of_nonneg _ (by decide),Int.fdiv_eq_ediv_of_nonneg _ (by decide)];omega
def mvS(st:St)(k j t:Nat)(x:aH):St:=⟨st.n,λi=>bif Nat.beq i t then .rs j else killT [k] (st.t i),λi=>bif Nat.beq i j then x else bif Nat.beq i k then .no else killSite [k] (st.s i)⟩
theorem Ot{i j:Nat}(h:i≠j):Nat.beq i j=false:=by
 rw[<-XT];intro q;exact h (Xq q)
theorem aU3{w0:Cx}{st:St}(k j t:Nat){e sz:Nat}{es:List (List D)}(hk:st.s k=.row e sz es)(hj:st.s j=.no)(ht:st.t t=.rs k):Le w0 st (mvS st k j t (.row e sz es)):=by
 intro a w ⟨blk,val,hh⟩;have hkj:k≠j:=λq=>by rw[q,hj]at hk;cases hk
 obtain⟨aI,vS⟩:∃aI:Nat->Option Nat,aI=λi=>bif Nat.beq i j then blk k else bif Nat.beq i k then none else blk i:=⟨_,rfl⟩
 obtain⟨val',dD⟩:∃val':Nat->Z3,val'=λi=>bif Nat.beq i j then val k else val i:=⟨_,rfl⟩
 have bj:aI j=blk k:=by rw[vS];simp
 have bk:aI k=none:=by rw[vS];simp[Ot hkj]
 have bo:∀i,i≠j->i≠k->aI i=blk i/\val' i=val i:=λi h1 h2=>by rw[vS,dD];simp[Ot h1,Ot h2]
 have hb:∀i b,aI i=some b->(i=j/\blk k=some b)\/(i≠j/\i≠k/\blk i=some b):=λi b h=>by
  by_cases h1:i=j
  ·subst h1;rw[bj]at h;exact .inl ⟨rfl,h⟩
  ·by_cases h2:i=k
   ·subst h2;rw[bk]at h;cases h
   ·rw[(bo i h1 h2).1]at h;exact .inr ⟨h1,h2,h⟩
 have bg:∀b,b<w.heap.size->fN w0 blk b->fN w0 aI b:=λb _ h=>⟨h.1,λi hi=>by
  rcases hb i b hi with ⟨_,q⟩|⟨_,_,q⟩
  ·exact h.2 _ q
  ·exact h.2 _ q⟩
 have sj:(mvS st k j t (.row e sz es)).s j=.row e sz es:=by simp[mvS]
 have so:∀i,i≠j->i≠k->(mvS st k j t (.row e sz es)).s i=killSite [k] (st.s i):=λi h1 h2=>by simp[mvS,Ot h1,Ot h2]
 have dW:∀i,i≠k->st.s i≠.no->aI i=blk i/\val' i=val i/\(st.s i≠.no->(mvS st k j t (.row e sz es)).s i≠.no)/\((∃e sz es,st.s i=.row e sz es)->∃e' ug es',(mvS st k j t (.row e sz es)).s i=.row e' ug es'):=λi h1 h2=>by
  have h3:i≠j:=λq=>h2 (q ▸ hj);refine⟨(bo i h3 h1).1,(bo i h3 h1).2,?_⟩;rw[so i h3 h1];exact dN
 have hT:∀x v,iV w (fN w0 blk) blk val st.s x v->iV w (fN w0 aI) aI val' (mvS st k j t (.row e sz es)).s (killT [k] x) v:=λx v h=>by
  cases x with
  | d x=>exact iN.ok (h:iN w (fN w0 blk) x v) bg
  | un=>exact h
  | dead=>trivial
  | ref i o=>
   by_cases hi:i=k
   ·simp[killT,memN,hi];trivial
   ·have e0:killT [k] (.ref i o)=.ref i o:=by simp[killT,memN,Ot hi]
    rw[e0]
    exact h.to bg λq hq=>by
     rcases hq with hq|⟨_,hq⟩|⟨_,_,_,hq⟩
     ·cases hq
     ·cases hq;exact dW _ hi h.1
     ·cases hq
  | rs i=>
   by_cases hi:i=k
   ·simp[killT,memN,hi];trivial
   ·have e0:killT [k] (.rs i)=.rs i:=by simp[killT,memN,Ot hi]
    rw[e0]
    exact h.to bg λq hq=>by
     rcases hq with hq|⟨_,hq⟩|⟨_,_,_,hq⟩
     ·cases hq;exact dW _ hi (λz=>by have⟨⟨_,_,_,z2⟩,_⟩:=h;rw[z]at z2;cases z2)
     ·cases hq
     ·cases hq
  | own i r ds F=>
   by_cases hi:i=k
   ·simp[killT,memN,hi];trivial
   ·have e0:killT [k] (.own i r ds F)=.own i r ds F:=by simp[killT,memN,Ot hi]
    rw[e0]
    exact h.to bg λq hq=>by
     rcases hq with hq|⟨_,hq⟩|⟨_,_,_,hq⟩
     ·cases hq
     ·cases hq
     ·cases hq;exact dW _ hi h.1.1.1
 refine⟨aI,val',hh.ext,hh.defers,hh.size,λi b h=>?_,λi i' b h h'=>?_,λi b h=>?_,λi=>?_,λi=>?_⟩
 ·rcases hb i b h with ⟨_,q⟩|⟨_,_,q⟩
  ·exact hh.new _ _ q
  ·exact hh.new _ _ q
 ·rcases hb i b h with ⟨q1,q⟩|⟨q1,q2,q⟩<;>rcases hb i' b h' with ⟨p1,p⟩|⟨p1,p2,p⟩
  ·rw[q1,p1]
  ·exact absurd (hh.inj _ _ b q p).symm p2
  ·exact absurd (hh.inj _ _ b q p) q2
  ·exact hh.inj _ _ b q p
 ·have⟨p1,p2,p3⟩:=hh.kU i b h
  have h1:i≠j:=λq=>by rw[q,hj]at p2;cases p2
  have h2:i≠k:=λq=>by rw[q,hk]at p2;cases p2
  refine⟨(bo i h1 h2).1.trans p1,?_,p3⟩;rw[so i h1 h2]
  cases hx:st.s i<;>rw[hx]at p2<;>first|rfl|cases p2
 ·by_cases h1:i=j
  ·subst h1
   rw[sj,bj,show val' i=val k by rw[dD];simp];have q:=hh.site k;rw[hk]at q;exact q.to bg (.inl E) (λcs h=>by cases h)
  ·by_cases h2:i=k
   ·subst h2
    rw[bk,show (mvS st i j t (.row e sz es)).s i=.no by simp[mvS,Ot h1]];exact rfl
   ·rw[so i h1 h2,(bo i h1 h2).1,(bo i h1 h2).2]
    have q:=hh.site i
    cases hx:st.s i with
    | cn cs=>
     rw[hx]at q;have⟨b,e',aK,q1,q2,q3,q4⟩:=q;refine⟨b,e',aK,q1,q2,by rw[q3,Xo],λp y hy=>?_⟩;rw[XF]at hy
     cases hz:cs[p]? with
     | none=>rw[hz]at hy;cases hy
     | some z=>
      rw[hz]at hy;cases hy
      obtain⟨v,z1,z2,z3⟩:=q4 p z hz;exact⟨v,z1,z2,hT _ _ z3⟩
    | _=>rw[hx]at q;exact q.to bg (.inl E) (λcs h=>by cases h)
 ·show iV _ _ _ _ _ (bif Nat.beq i t then .rs j else killT [k] (st.t i)) _
  by_cases h1:i=t
  ·subst h1
   rw[show Nat.beq i i=true from Z0 i];have q:=hh.tmp i;rw[ht]at q;exact⟨⟨e,sz,es,sj⟩,by rw[dD];show _=bif Nat.beq j j then val k else val j;rw[Z0];exact q.2⟩
  ·rw[Ot h1]
   exact hT _ _ (hh.tmp i)
end
end Go.Proofs.YthcfokccjljnpaaGreat.Am
