/- Contracts over the abstract machine, and the crowd of workers. Conditions: none. -/
import Derived.MapKept
import Derived.RangeFuncRecord
import Derived.Stop.IfaceNil
import Derived.Test.YthcfokccjljnpaaGreatJ3
set_option linter.unusedVariables false
set_option linter.unusedSimpArgs false
set_option linter.unusedSectionVars false
namespace Go.Proofs.YthcfokccjljnpaaGreat.Am
section
open Go Go.RowKit
variable{P:Program}{w0:Cx}{n:Nat}{s:Nat->Site}{ev:Operand->T}{dst:Option Tmp}{ty:TypeId}{pos:String}{after:Array Edge}{g:Option (Nat × Bool)}
theorem B6{t:TypeId}{y:Operand}{q o e sz i:Nat}{es:List (List D)}{x:List D}(ht:szB P t true sz=true)(hy:ev y=.ref q o)(hq:s q=.row e sz es)(ho:o=i*sz)(hx:es[i]?=some x):QOp P w0 n s ev ⟨dst,.load t y,ty,pos,after,g⟩ (.d (.agg x)):=
 .mk λa w ok blk val h hs cv=>by
  subst ho;have h1:=h y;rw[hy]at h1;obtain⟨_,b,hb,hv⟩:=h1;have h2:=hs q;rw[hq]at h2;obtain⟨a1,a2,h3⟩:=h2
  rcases h3 with ⟨J9,_⟩|⟨b',aK,cap,bY,_,_,_,cV,_,hc⟩
  ·rw[hb]at J9;cases J9
  rw[hb]at bY;cases bY
  have CC:=a1 i x hx
  have bR:=run_loadCells (P:=P) w ⟨b,i*sz,none⟩ sz (λj=>aK.getD (i*sz+j) undef) (λj J6=>by
   obtain⟨v,hv,_⟩:=hc i x j _ hx (Xp (by omega))
   rw[ei,cell_of_block cV,hv,cO hv])
  refine⟨.agg ((List.range sz).map λj=>aK.getD (i*sz+j) undef).toArray,w,?_,Ext.refl w,?_⟩
  ·simp only[execOp,hv,Instr.loadAt,Instr.sureAddr,loadVar,Sem.run_bind,Sem.run_pure,Result.andThen_ok,gn ht,Yp,ju ht,bR]
  ·refine Rep.agg _ _ (by simpa using CC.symm) (λj d hd=>a2 i x j d hx hd) λj d v hd hv=>?_
   have J6:j<sz:=by have:=(Xt.1 hv).1;simpa using this
   simp[J6]at hv;subst hv;obtain⟨v,hv,hr⟩:=hc i x j d hx hd;have:=cO hv;simp[XN]at this;rw[this];exact hr
def mpL:List Int->Nat->List MapEntry
 | [],_=>[]
 | k::ks,n=>⟨.int .i64 k,.bool true,n⟩::mpL ks (n+1)
def uA(ks:List Int):Array MapEntry:=(mpL ks 0).toArray
theorem HA:∀(ks:List Int) (n:Nat),(mpL ks n).length=ks.length
 | [],_=>rfl
 | k::ks,n=>by show (mpL ks (n+1)).length+1=ks.length+1;rw[HA ks (n+1)]
theorem HB(x:Int):∀(ks:List Int) (n:Nat),mpL (ks++[x]) n=mpL ks n++[⟨.int .i64 x,.bool true,n+ks.length⟩]
 | [],n=>rfl
 | k::ks,n=>by
  show _::mpL (ks++[x]) (n+1)=_::(mpL ks (n+1)++_)
  rw[HB x ks (n+1),XH,show n+1+ks.length=n+(ks.length+1) by omega]
theorem Mh(x:Int)(ks:List Int):(uA ks).push ⟨.int .i64 x,.bool true,ks.length⟩=uA (ks++[x]):=by
 unfold uA;rw[HB,XK];simp
theorem pN(x:Int):∀(ks:List Int) (n i:Nat),(x∈ks∧∃j,Instr.findNow (.int .i64) (.int .i64 x) (mpL ks n) i=some (some (j,.bool true)))∨(x∉ks∧Instr.findNow (.int .i64) (.int .i64 x) (mpL ks n) i=some none)
 | [],_,_=>.inr ⟨by simp,rfl⟩
 | k::ks,n,i=>by
  by_cases h:x=k
  ·subst h
   exact .inl ⟨by simp,i,by simp[mpL,Instr.findNow,Instr.sameNow]⟩
  ·rcases pN x ks (n+1) (i+1) with ⟨h1,j,h2⟩|⟨h1,h2⟩
   ·exact .inl ⟨by simp[h1],j,by simp[mpL,Instr.findNow,Instr.sameNow,beq_false_of_ne h,h2]⟩
   ·exact .inr ⟨by simp[h,h1],by simp[mpL,Instr.findNow,Instr.sameNow,beq_false_of_ne h,h2]⟩
def ax2:Option Nat->Value->List Value->Value->Prop:=λb _ _ v=>∃b',b=some b'∧v=.map (some b')
abbrev T.mp(k:Nat):T:=.own k ⟨false,true⟩ [] ax2
def mpB(P:Program)(t:TypeId)(e:TypeId):Bool:=
 match P.underlying t with
 | some (.map k e')=>(match P.underlying k with|some (.int .i64)=>true|_=>false)&&Nat.beq e' e
 | _=>false
theorem vA{P:Program}{t e:TypeId}(h:mpB P t e=true):∃k,P.underlying t=some (.map k e)∧P.underlying k=some (.int .i64):=by
 unfold mpB at h
 split at h
 ·rename_i k e' hu
  rw[Xs]at h;obtain⟨h1,h2⟩:=h;have:=Xq h2;subst this;refine⟨k,hu,?_⟩
  split at h1
  ·assumption
  ·cases h1
 ·cases h
theorem FC{w:World}{ok:Nat->Prop}{blk:Nat->Option Nat}{val:Nat->Value}{s:Nat->Site}{k:Nat}{v:Value}(h:RepT w ok blk val s (.mp k) v):∃b,blk k=some b∧v=.map (some b):=by
 obtain⟨_,vs,_,h2⟩:=h;exact h2
theorem I1 {t e : TypeId} {y x : Operand} {k cl : Nat} {i : Int} {ks : List Int} (ht : mpB P t e = true) (hz : eC P e (.bool false)) (hy : ev y = .mp k) (hx : ev x = .d (.v (.int .i64 i))) (hk : s k = .mp (uA ks) cl) :
  QOp P w0 n s ev ⟨dst,.lookup t y x false,ty,pos,after,g⟩ (T.bool (decide (i∈ks))):=
 .mk λa w ok blk val h hs cv=>by
  obtain⟨tk,hu,UZ⟩:=vA ht;have h1:=h y;rw[hy]at h1;obtain⟨b,hb,hv⟩:=FC h1;have h2:=hs k;rw[hk]at h2;obtain⟨b',bY,cV⟩:=h2;rw[hb]at bY;cases bY
  have En:a.eval x=.int .i64 i:=RepT.c8 (hx ▸ h x);have AE:=λem=>MapKept.run_checkKey (P:=P) (w:=w) (k:=.int .i64 i) UZ (by trivial) em 9999;refine⟨.bool (decide (i∈ks)),w,?_,Ext.refl w,.v _ rfl⟩;have hml:(uA ks).toList=mpL ks 0:=rfl
  rcases pN i ks 0 0 with ⟨h3,j,h4⟩|⟨h3,h4⟩
  ·have hf:(Instr.findKey tk (.int .i64 i) (uA ks).toList).run P w=.ok (some (j,.bool true)) w:=MapKept.run_findKey UZ (by rw[hml];exact h4)
   rw[X5 h3];simp[execOp,Instr.lookup,hv,En,run_underlying hu,MapKept.run_getObj_map cV,AE,hf,Result.andThen]
  ·have hf:(Instr.findKey tk (.int .i64 i) (uA ks).toList).run P w=.ok none w:=MapKept.run_findKey UZ (by rw[hml];exact h4)
   rw[XV h3];simp[execOp,Instr.lookup,hv,En,run_underlying hu,MapKept.run_getObj_map cV,AE,hf,iE hz,Result.andThen]
theorem Lm{y:Operand}{t e:TypeId}{k cl m:Nat}{ks:List Int}(ht:mpB P t e=true)(hy:ev y=.mp k)(hk:s k=.mp (uA ks) cl)(hm:ks.length=m):QOp P w0 n s ev ⟨dst,.call ⟨.builtin .len,#[y],#[t]⟩,ty,pos,after,g⟩ (T.i m):=
 .mk λa w ok blk val h hs cv=>by
  subst hm;obtain⟨tk,hu,UZ⟩:=vA ht;have h1:=h y;rw[hy]at h1;obtain⟨b,hb,hv⟩:=FC h1;have h2:=hs k;rw[hk]at h2;obtain⟨b',bY,cV⟩:=h2;rw[hb]at bY;cases bY
  have eQ:(uA ks).size=ks.length:=by show (mpL ks 0).length=_;exact HA _ _
  exact⟨_,w,ff rfl (by simp[Builtin.len_,run_underlying hu,hv,MapKept.run_getObj_map cV,goInt,eQ]),Ext.refl w,.v _ rfl⟩
variable{st:St}{ops rest:List Oper}{R:Exit->St->Prop}
theorem Hold.Uk {a : Act} {w : World} {blk : Nat -> Option Nat} {val : Nat -> Value} {k b : Nat} {es es' : Array MapEntry} {cl cl' : Nat} (hh : Hold w0 st a w blk val) (hk : st.s k = .mp es cl) (hb : blk k = some b) :
  Hold w0 (st.site k (.mp es' cl')) a (w.putObj b (.map es' cl')) blk val:=by
 have hbl:w.heap[b]?=some (.map es cl):=by
  have:=hh.site k;rw[hk]at this;obtain⟨b',h1,h2⟩:=this;rw[hb]at h1;cases h1;exact h2
 have hx:SiteIn (w.putObj b (.map es' cl')) (okOf w0 blk) blk val st.s (some b) (val k) (.mp es' cl'):=⟨b,rfl,World.putObj_heap_same (bI hbl)⟩
 have m7:∀e sz rs,st.s k=.row e sz rs->∃e' ug aC7,(Site.mp es' cl')=.row e' ug aC7:=λe sz rs q=>by rw[hk]at q;cases q
 have Aw:(Site.mp es' cl')≠.no:=by simp
 have jC:(st.s k).isVar=true->(Site.mp es' cl').isVar=true:=λ_=>rfl;have hbn:=hh.new k b hb
 have cr:∀{d:D} {v:Value},Rep w (okOf w0 blk) d v->Rep (w.putObj b (.map es' cl')) (okOf w0 blk) d v:=λh=>
  h.cr (by rw[World.putObj_size];exact Xw _) (λb' o bg ho=>by rw[World.putObj_heap_other (λe=>bg.2 k (by rw[e];exact hb))];exact ho) λ_ _ h=>h
 have jB:∀{y:T} {v:Value},RepT w (okOf w0 blk) blk val st.s y v->RepT (w.putObj b (.map es' cl')) (okOf w0 blk) blk val st.s y v:=λ{y v} h=>by
  cases y with
  | d y=>exact cr h
  | own k r ds F=>exact⟨h.1,h.2.imp λ_ _ h=>cr h⟩
  | _=>exact h
 have dW:∀j,blk j=blk j∧val j=val j∧(st.s j≠.no->(st.site k (.mp es' cl')).s j≠.no)∧((∃e sz es,st.s j=.row e sz es)->∃e sz es,(st.site k (.mp es' cl')).s j=.row e sz es):=λj=>by
  refine⟨rfl,rfl,?_⟩;simp only[St.site]
  cases fE:Nat.beq j k
  ·exact⟨id,id⟩
  ·rw[Xq fE]
   exact⟨λ_=>Aw,λ⟨e,sz,es,q⟩=>m7 e sz es q⟩
 refine⟨⟨hh.ext.os,hh.ext.tape,hh.ext.output,by rw[World.putObj_size];exact hh.ext.size,λj hj hm=>by rw[World.putObj_heap_other (λe=>by subst e;rcases hbn.1 with q|q;omega;exact hm q)];exact hh.ext.block j hj hm⟩,hh.kept λj _ hn=>World.putObj_heap_other (λe=>hn k (by rw[e];exact hb)),hh.size,λj c hj=>by rw[World.putObj_size];exact hh.new j c hj,hh.inj,λj c hj=>?_,λj=>?_,λt=>?_⟩
 ·obtain⟨q1,q2,q3⟩:=hh.kU j c hj
  refine⟨q1,?_,q3⟩;simp only[St.site]
  cases fE:Nat.beq j k
  ·exact q2
  ·rw[Xq fE]at q2;exact jC q2
 ·have step : SiteIn (w.putObj b (.map es' cl')) (okOf w0 blk) blk val st.s (blk j) (val j) ((st.site k (.mp es' cl')).s j) := by
   cases fE:Nat.beq j k
   ·simp only[St.site,fE,XJ]
    have hs:=hh.site j
    have eW:∀c,blk j=some c->c≠b:=λc hc e=>by
     subst e;have:=hh.inj j k c hc hb;subst this;simp at fE
    cases CE:st.s j with
    | no=>rw[CE]at hs;exact hs
    | box cs'=>
     rw[CE]at hs;obtain⟨c,e,aK,h1,h2,h3,h4,h5⟩:=hs;exact⟨c,e,aK,h1,by rw[World.putObj_heap_other (eW c h1)];exact h2,h3,h4,λj d hd=>let ⟨v,hv,hr⟩:=h5 j d hd;⟨v,hv,cr hr⟩⟩
    | cn cs'=>
     rw[CE]at hs;obtain⟨c,e,aK,h1,h2,h3,h5⟩:=hs;exact⟨c,e,aK,h1,by rw[World.putObj_heap_other (eW c h1)];exact h2,h3,λj d hd=>let ⟨v,hv,ho,hr⟩:=h5 j d hd;⟨v,hv,ho,jB hr⟩⟩
    | mp es c=>
     rw[CE]at hs;obtain⟨c',h1,h2⟩:=hs;exact⟨c',h1,by rw[World.putObj_heap_other (eW c' h1)];exact h2⟩
    | row e sz es=>
     rw[CE]at hs;obtain⟨h1,h2,h3⟩:=hs;exact⟨h1,h2,h3.imp id λ⟨c,aK,cap,k1,k2,k3,k4,k5,k6,k7⟩=>⟨c,aK,cap,k1,k2,k3,k4,by rw[World.putObj_heap_other (eW c k1)];exact k5,k6,λi x j d hi hj=>let ⟨v,hv,hr⟩:=k7 i x j d hi hj;⟨v,hv,cr hr⟩⟩⟩
   ·simp only[St.site,fE,Yb]
    rw[Xq fE,hb];exact hx
  exact step.to (λ_ _ h=>h) (.inl rfl) λ_ _ _ _ j _=>dW j
 ·exact(jB (hh.tmp t)).to (λ_ _ h=>h) λj _=>dW j
theorem A3 {d : Nat} {t : TypeId} (hd : Nat.blt d st.n = true) (hs : st.s d = .no) (h : Aops P w0 ops rest R ((st.site d (.mp (uA []) 0)).put (some d) (.mp d))) :
  Aops P w0 ops (⟨some d,.makeMap t none,ty,pos,after,none⟩::rest) R st:=by
 refine eG (K:=λs=>s=(st.site d (.mp (uA []) 0)).put (some d) (.mp d)) rfl (λa w ⟨blk,val,hh⟩=>?_) (λ_ e=>e ▸ h);refine gg (v:=.map (some w.heap.size)) (w':=w.alloc (.map #[] 0)) (by simp[execOp,Instr.makeMap]) ⟨_,rfl,?_⟩;have hH:=hh.lK (k:=d) (x:=.mp (uA []) 0) (u:=undef) (o:=.map #[] 0) hs ⟨w.heap.size,rfl,fj _ _⟩;exact⟨_,_,gN hH (by simpa [YB,St.site] using hd) ⟨⟨⟨by simp[St.site],λh=>by cases h⟩,λ_=>rfl⟩,[],trivial,w.heap.size,by simp,rfl⟩⟩
theorem wT{t e:TypeId}{y x v:Operand}{k:Nat}{i:Int}{ks:List Int}(ht:mpB P t e=true)(hy:st.ev y=.mp k)(hx:st.ev x=.d (.v (.int .i64 i)))(hv:st.ev v=.d (.v (.bool true)))(hk:st.s k=.mp (uA ks) ks.length)(hi:i∉ks)
  (h:Aops P w0 ops rest R (st.site k (.mp (uA (ks++[i])) (ks++[i]).length))):Aops P w0 ops (⟨none,.mapUpdate t y x v,ty,pos,after,none⟩::rest) R st:=by
 refine eG (K:=λs=>s=st.site k (.mp (uA (ks++[i])) (ks++[i]).length)) rfl (λa w ⟨blk,val,hh⟩=>?_) (λ_ e=>e ▸ h);obtain⟨tk,hu,UZ⟩:=vA ht;have h1:=hh.ev y;rw[hy]at h1;obtain⟨b,hb,hyv⟩:=FC h1;have h2:=hh.site k;rw[hk]at h2;obtain⟨b',bY,cV⟩:=h2;rw[hb]at bY;cases bY
 have En:a.eval x=.int .i64 i:=RepT.c8 (hx ▸ hh.ev x);have hvv:a.eval v=.bool true:=RepT.c8 (hv ▸ hh.ev v);have AE:=MapKept.run_checkKey (P:=P) (w:=w) (k:=.int .i64 i) UZ (by trivial) false 9999;have hml:(uA ks).toList=mpL ks 0:=rfl
 rcases pN i ks 0 0 with ⟨h3,_⟩|⟨_,h4⟩
 ·exact absurd h3 hi
 have hf:(Instr.findKey tk (.int .i64 i) (uA ks).toList).run P w=.ok none w:=MapKept.run_findKey UZ (by rw[hml];exact h4)
 have az0:(w.putObj b (.map (uA (ks++[i])) (ks++[i]).length))={ w with heap:=w.heap.setIfInBounds b (.map ((uA ks).push ⟨.int .i64 i,.bool true,ks.length⟩) (ks.length+1)) }:=by
  rw[Mh,XI];rfl
 have bR:(execOp a.eval ⟨none,.mapUpdate t y x v,ty,pos,after,none⟩).run P w=.ok .skip (w.putObj b (.map (uA (ks++[i])) (ks++[i]).length)):=by
  rw[az0];simp[execOp,Instr.mapUpdate,hyv,En,hvv,run_underlying hu,MapKept.run_getObj_map cV,AE,hf,MapKept.run_setObj_map _ cV,Result.andThen]
 refine gO (λc hc=>by cases hc) ?_;unfold Oper.wp;rw[bR];exact⟨_,rfl,blk,val,hh.Uk hk hb⟩
def flU(l:List Oper)(n:Nat)(Fl:List Nat)(L:Nat->Bool)(t:Tmp):Bool:=
 match cw l n t with
 | some p=>memN p Fl && !L p
 | none=>false
def mk(U:Tmp->Bool)(S:St):St:={ n:=S.n,t:=λt=>bif U t then .dead else S.t t,s:=S.s }
def FloatOK(P:Program)(w0:Cx)(l:List Oper)(n:Nat)(Fl:List Nat)(S:St):List Nat->Prop
 | []=>True
 | i :: is => (match l[i]? with
  | some o=>(match o.dst with
   | some d=>Ke P w0 S (mk (flU l n Fl (dS o)) S).ev o (.put (some d) (S.t d))
   | none=>False)
  | none=>False)∧FloatOK P w0 l n Fl S is
def pd(P:Program)(w0:Cx)(l:List Oper)(n:Nat)(Fl:List Nat):List Oper->St->(St->Prop)->Prop
 | [],S,K=>K S
 | o::os,S,K=>∃f:Eff,f.dst=o.dst∧Ke P w0 S (mk (flU l n Fl λ_=>false) S).ev o f∧FloatOK P w0 l n Fl (f.app S) Fl∧pd P w0 l n Fl os (f.app S) K
def Ih(l:List Oper)(n:Nat)(Fl:List Nat)(j:Nat):Bool:=
 (List.range n).any λk=>decide (j<k) && !(memN k Fl)&&(match l[k]? with|some ok=>dS ok j|none=>false)
def Mx(l:List Oper)(n q:Nat)(Fl:List Nat):Bool:=
 (Fl.all λi=>decide (i<n)&&(match l[i]? with|some o=>o.guard.isNone&&o.dst.isSome|none=>false)) &&
 ((List.range q).all λp=>match l[n+p]? with
  | some o=>o.guard.isNone&&(Nat.beq p 0||dS o (n+p - 1))&&(match o.dst with|some d=>(cw l n d).isNone|none=>true)
  | none=>false) &&
 (match l[n]? with|some o=>(List.range n).all λj=>memN j Fl||dS o j||Ih l n Fl j|none=>false)
theorem Db{l:List Oper}{n:Nat}{Fl:List Nat}{S:St}:∀{is:List Nat},FloatOK P w0 l n Fl S is->∀i o d,memN i is=true->l[i]?=some o->o.dst=some d->Ke P w0 S (mk (flU l n Fl (dS o)) S).ev o (.put (some d) (S.t d))
 | [],_,i,o,d,hi,_,_=>by cases hi
 | j::js,h,i,o,d,hi,ho,hd=>by
  simp only[memN,X3]at hi
  rcases hi with hi|hi
  ·have:=Xq hi
   subst this;have h1:=h.1;rw[ho]at h1;simp only[hd]at h1;exact h1
  ·exact Db h.2 i o d hi ho hd
structure Ir(P:Program)(w0:Cx)(l:List Oper)(n q:Nat)(Fl:List Nat)(Sq:Nat->St):Prop where
 step:∀p,p<q->∀o,l[n+p]?=some o->∃f:Eff,f.dst=o.dst∧Sq (p+1)=f.app (Sq p)∧Ke P w0 (Sq p) (mk (flU l n Fl λ_=>false) (Sq p)).ev o f
 fl:∀p,1≤p->p≤q->FloatOK P w0 l n Fl (Sq p) Fl
theorem yC{l:List Oper}{n:Nat}{Fl:List Nat}{K:St->Prop}:∀(q:Nat) (os:List Oper) (i:Nat) (S:St),os.length=q->(∀k,k<q->os[k]?=l[n+i+k]?)->pd P w0 l n Fl os S K->
  ∃Sq:Nat->St,Sq i=S∧K (Sq (i+q))∧(∀p,i≤p->p<i+q->∀o,l[n+p]?=some o->∃f:Eff,f.dst=o.dst∧Sq (p+1)=f.app (Sq p)∧Ke P w0 (Sq p) (mk (flU l n Fl λ_=>false) (Sq p)).ev o f)∧
   ∀p,i+1≤p->p≤i+q->FloatOK P w0 l n Fl (Sq p) Fl
 | 0,[],i,S,_,_,h=>⟨λ_=>S,rfl,h,λp h1 h2=>by omega,λp h1 h2=>by omega⟩
 | 0,_::_,_,_,h,_,_=>by simp at h
 | _+1,[],_,_,h,_,_=>by simp at h
 | q+1,o::os,i,S,hl,HQ,h=>by
  obtain⟨f,hf,hc,CV,hr⟩:=h;obtain⟨Sq,h1,h2,h3,h4⟩:=yC (l:=l) (n:=n) (Fl:=Fl) (K:=K) q os (i+1) _ (by simpa using hl) (λk hk=>by have:=HQ (k+1) (by omega);simpa [YZ,Zh 1 k] using this) hr;have ho:l[n+i]?=some o:=by have:=HQ 0 (by omega);simpa using this.symm
  refine⟨λp=>if p=i then S else Sq p,by simp,?_,λp hp1 hp2 o' kP=>?_,λp hp1 hp2=>?_⟩
  ·show K (if i+(q+1)=i then S else Sq (i+(q+1)))
   rw[Xr (by omega),show i+(q+1)=i+1+q by omega];exact h2
  ·by_cases e:p=i
   ·subst e
    rw[ho]at kP;cases kP
    refine⟨f,hf,?_,?_⟩
    ·show (if p+1=p then S else Sq (p+1))=f.app (if p=p then S else Sq p)
     rw[Xr (by omega),Xu rfl];exact h1
    ·simp only[Yp];exact hc
   ·simp only[Xr e,Xr (show ¬p+1=i by omega)]
    exact h3 p (by omega) (by omega) o' kP
  ·simp only[Xr (show ¬p=i by omega)]
   by_cases e:p=i+1
   ·rw[e,h1];exact CV
   ·exact h4 p (by omega) (by omega)
theorem lS{L:Nat->Bool}{i j:Nat}(h:j≠i):cK L i j=L j:=by
 unfold cK;rw[show (j==i)=false from beq_false_of_ne h];rfl
theorem uh{L:Nat->Bool}{i:Nat}:cK L i i=true:=by simp[cK]
theorem zI{L:Nat->Bool}{i j:Nat}(h:L j=true):cK L i j=true:=by
 unfold cK;rw[h,Bool.or_true]
def cntT(n:Nat)(L:Nat->Bool):Nat->Nat
 | 0=>0
 | q+1=>if L (n+q)=true then q+1 else cntT n L q
theorem H8{n:Nat}{L:Nat->Bool}:∀q,cntT n L q≤q
 | 0=>Xw _
 | q+1=>by
  unfold cntT
  split
  ·exact Xw _
  ·exact Nat.le_succ_of_le (H8 q)
theorem oy{n:Nat}{L:Nat->Bool}{p:Nat}:∀{q:Nat},p≤q->(∀j,j<p->L (n+j)=true)->(∀j,p≤j->j<q->L (n+j)=false)->cntT n L q=p
 | 0,hp,_,_=>by show 0=p;omega
 | q+1,hp,h1,h2=>by
  unfold cntT
  by_cases e:p=q+1
  ·rw[Xu (h1 q (by omega))];exact e.symm
  ·rw[Xr (by rw[h2 q (by omega) (by omega)];simp)]
   exact oy (by omega) h1 λj a b=>h2 j a (by omega)
open Classical in
noncomputable def fX(st:St)(l:List Oper)(n q:Nat)(Fl:List Nat)(xs:Nat->T)(Sq:Nat->St)(L:Nat->Bool):St:=
 if L n=true then mk (flU l n Fl L) (Sq (cntT n L q)) else dX st l n xs L
theorem FE{U:Tmp->Bool}{S:St}{dst:Option Tmp}{x:T}(h:∀d,dst=some d->U d=false):(mk U S).put dst x=mk U (S.put dst x):=by
 cases dst with
 | none=>rfl
 | some d=>
  simp only[mk,St.put,St.mk.injEq,Zx,ZD];funext t
  cases ht:Nat.beq t d with
  | false=>rfl
  | true=>
   have:=Xq ht;subst this;rw[h t rfl];rfl
theorem Mk{U:Tmp->Bool}{S:St}{f:Eff}(h:∀d,f.dst=some d->U d=false):f.app (mk U S)=mk U (f.app S):=by
 cases f with
 | grow k d z=>
  show (((mk U S).dE k).site k z).put (some d) (.rs k)=mk U (((S.dE k).site k z).put (some d) (.rs k))
  have e:((mk U S).dE k).site k z=mk U ((S.dE k).site k z):=by
   simp only[mk,St.dE,St.site,St.mk.injEq,Zx,ZD];funext t
   cases U t<;>rfl
  rw[e];exact FE h
 | set k z dst x=>
  show ((mk U S).site k z).put dst x=mk U ((S.site k z).put dst x)
  have e:(mk U S).site k z=mk U (S.site k z):=rfl;rw[e];exact FE h
 | put dst x=>exact FE h
open Classical in
theorem Ji{st:St}{l:List Oper}{n q i:Nat}{Fl:List Nat}{xs:Nat->T}{Sq:Nat->St}{o:Oper}{L:Nat->Bool}{a:Act}{w:World}(h:regB l n st.n=true)(h':regB l (n+q) st.n=true)(hB:Mx l n q Fl=true)(hq:1≤q)
  (W3:Wk (dX st l n xs (gd n)) (Sq 0)) (hSq:Ir P w0 l n q Fl Sq) (hnS:∀p,p≤q->(Sq p).n=st.n) (hO:∀k o,k<n->l[k]?=some o->ON P w0 st l n xs k o)
  (hi:i<n+q) (ho:l[i]?=some o) (hD:Done l (n+q) L) (jT:L i=false) (pM:∀e∈o.after,Region.binds .any e=true->L e.on=true) (hH:Holds w0 (fX st l n q Fl xs Sq L) a w) :
  (Region.wanted o (yielded l.toArray a.tmps)=true∧OW P w0 o a w (λa' w'=>Holds w0 (fX st l n q Fl xs Sq (cK L i)) a' w'))∨
  (Region.wanted o (yielded l.toArray a.tmps)=false∧Holds w0 (fX st l n q Fl xs Sq (cK L i)) (a.put o.dst undef) w):=by
 simp only[Mx,Xs]at hB;obtain⟨⟨hB1,S5⟩,hB3⟩:=hB;have aft:∀j,dS o j=true->L j=true:=λj hj=>by obtain⟨e,he,hb,rfl⟩:=dp hj;exact pM e he hb
 have tl:∀p op,p<q->l[n+p]?=some op->op.guard=none∧(1≤p->dS op (n+p - 1)=true)∧∀d,op.dst=some d->cw l n d=none:=λp op hp cF=>by
  have:=X0.1 S5 p (YJ.2 hp);rw[cF]at this;simp only[Xs,X3,Zz]at this;refine⟨this.1.1,λh1=>?_,λd hd=>?_⟩
  ·rcases this.1.2 with e|e
   ·have:=Xq e;omega
   ·exact e
  ·have h2:=this.2
   rw[hd]at h2;exact Zz.1 h2
 have len:∀p,p<q->∃op,l[n+p]?=some op:=λp hp=>by
  have:=X0.1 S5 p (YJ.2 hp)
  cases e:l[n+p]? with
  | none=>rw[e]at this;cases this
  | some op=>exact⟨op,rfl⟩
 have down:∀p,p<q->L (n+p)=true->∀j,j≤p->L (n+j)=true:=by
  intro p
  induction p with
  | zero =>
    intro _ h1 j hj;have:j=0:=by omega
    subst this;exact h1
  | succ p ih=>
   intro hp h1 j hj
   by_cases e:j=p+1
   ·rw[e];exact h1
   ·obtain⟨op,cF⟩:=len (p+1) hp
    obtain⟨e',Vn,bY,ua⟩:=dp ((tl (p+1) op hp cF).2.1 (by omega));have:=hD.closed (n+(p+1)) op (by omega) cF h1 e' Vn bY;rw[ua,show n+(p+1) - 1=n+p by omega]at this;exact ih (by omega) this j (by omega)
 have ag9:∀op,l[n]?=some op->(∀j,dS op j=true->L j=true)->∀d j,n - j=d->j<n->memN j Fl=false->L j=true:=λop cF QW d=>by
  induction d using Nat.strongRecOn with
  | _ d ih=>
   intro j hd hj hf;rw[cF]at hB3;have:=X0.1 hB3 j (YJ.2 hj);rw[hf]at this;simp only[ZN,X3]at this
   rcases this with e|e
   ·exact QW j e
   ·unfold Ih at e
    obtain⟨k,hk,e⟩:=List.any_eq_true.1 e;have hk:=YJ.1 hk;simp only[Xs,XW,Yg]at e;obtain⟨⟨fE,hkf⟩,hka⟩:=e;have hLk:=ih (n - k) (by omega) k rfl hk hkf
    cases bg:l[k]? with
    | none=>rw[bg]at hka;cases hka
    | some ok=>
     rw[bg]at hka;obtain⟨e',Vn,bY,ua⟩:=dp hka;have:=hD.closed k ok (by omega) bg hLk e' Vn bY;rw[ua]at this;exact this
 have wanted:o.guard=none->Region.wanted o (yielded l.toArray a.tmps)=true:=λhg=>by simp[Region.wanted,hg]
 by_cases S4:L n=true
 ·
  have hFL:fX st l n q Fl xs Sq L=mk (flU l n Fl L) (Sq (cntT n L q)):=Xu S4;rw[hFL]at hH
  by_cases n7:i<n
  ·
   have CV:memN i Fl=true:=by
    rw[<-Bool.not_eq_false];intro hf;obtain⟨op,cF⟩:=len 0 (by omega)
    have:=ag9 op cF (λj hj=>by
     obtain⟨e,he,hb,ua⟩:=dp hj;have:=hD.closed n op (by omega) cF S4 e he hb
     rw[ua]at this;exact this) _ i rfl n7 hf
    rw[jT]at this;cases this
   have hfi:∀{js:List Nat},(js.all λi=>decide (i<n)&&(match l[i]? with|some o=>o.guard.isNone&&o.dst.isSome|none=>false))=true->memN i js=true->o.guard=none∧o.dst.isSome=true:=by
    intro js
    induction js with
    | nil=>intro _ h2;cases h2
    | cons j js ih=>
     intro h1 h2;simp only[Ze,Xs]at h1;simp only[memN,X3]at h2
     rcases h2 with h2|h2
     ·have:=Xq h2
      subst this;have h3:=h1.1.2;rw[ho]at h3;simp only[Xs,Zz]at h3;exact h3
     ·exact ih h1.2 h2
   obtain⟨hg,Q7⟩:=hfi hB1 CV;obtain⟨d,hd⟩:=YM.1 Q7;obtain⟨FV,hdN⟩:=iy h n7 ho hd;obtain⟨p,hp⟩:∃p,cntT n L q=p:=⟨_,rfl⟩
   have hp1:1≤p:=by
    rw[<-hp]
    rcases Zc (cntT n L q) with e|e
    ·exfalso
     have:∀q,1≤q->cntT n L q≠0:=by
      intro q
      induction q with
      | zero=>intro h;omega
      | succ q ih=>
       intro _;unfold cntT
       split
       · omega
       ·rename_i hc
        rcases Zc q with e0|e0
        · subst e0;exact absurd S4 hc
        · exact ih e0
     exact this q hq e
    ·exact e
   have hpq:p≤q:=by rw[<-hp];exact H8 q
   have hco:=Db (hSq.fl p hp1 hpq) i o d CV ho hd;rw[hp]at hH;refine .inl ⟨wanted hg,?_⟩;have dU:=hco (mk (flU l n Fl L) (Sq p)) rfl rfl (λy=>?_) (λd' Bl=>by rw[hd]at Bl;cases Bl;rw[hnS p hpq];exact hdN) a w hH
   ·have e2 : (Eff.put (some d) ((Sq p).t d)).app (mk (flU l n Fl L) (Sq p)) = fX st l n q Fl xs Sq (cK L i) := by
     have e3:fX st l n q Fl xs Sq (cK L i)=mk (flU l n Fl (cK L i)) (Sq (cntT n (cK L i) q)):=Xu (zI S4)
     have e4:cntT n (cK L i) q=p:=by
      rw[<-hp]
      have:∀q,cntT n (cK L i) q=cntT n L q:=by
       intro q
       induction q with
       | zero=>rfl
       | succ q ih=>
        unfold cntT;have:cK L i (n+q)=L (n+q):=lS (by omega);rw[this,ih]
      exact this q
     rw[e3,e4];show (mk (flU l n Fl L) (Sq p)).put (some d) ((Sq p).t d)=_
     simp only[mk,St.put,St.mk.injEq,Zx,ZD];funext t
     cases ht:Nat.beq t d with
     | true=>
      have:=Xq ht;subst this;have:flU l n Fl (cK L i) t=false:=by unfold flU;rw[FV];simp[uh]
      rw[this];rfl
     | false=>
      simp only[XJ]
      have:flU l n Fl (cK L i) t=flU l n Fl L t:=by
       unfold flU
       cases Bh:cw l n t with
       | none=>rfl
       | some r=>
        simp only
        have hri:r≠i:=λe=>by
         subst e;obtain⟨_,op,cF,Nb⟩:=de Bh;rw[ho]at cF;cases cF
         rw[hd]at Nb;cases Nb
         simp at ht
        have:cK L i r=L r:=lS hri;rw[this]
      rw[this]
    rw[e2]at dU;exact dU
   ·cases y with
    | tmp t=>
     show (bif flU l n Fl (dS o) t then T.dead else (Sq p).t t)=.dead∨(bif flU l n Fl L t then T.dead else (Sq p).t t)=(bif flU l n Fl (dS o) t then T.dead else (Sq p).t t)
     cases hu:flU l n Fl (dS o) t with
     | true=>exact .inl rfl
     | false=>
      have:flU l n Fl L t=false:=by
       unfold flU at hu ⊢
       cases Bh:cw l n t with
       | none=>rfl
       | some r=>
        rw[Bh]at hu;simp only[Bool.and_eq_false_iff,Y6]at hu ⊢;exact hu.imp id λh=>aft r h
      rw[this];exact .inr rfl
    | _=>exact .inr rfl
  ·
   obtain⟨p,rfl⟩:∃p,i=n+p:=⟨i - n,by omega⟩
   have hpq:p<q:=by omega
   obtain⟨hg,ai7,Pb⟩:=tl p o hpq ho
   have hp0:1≤p:=by
    rcases Zc p with e|e
    ·subst e;rw[YI,S4]at jT;cases jT
    ·exact e
   have Np:L (n+(p - 1))=true:=by have:=aft _ (ai7 hp0);rwa [show n+p - 1=n+(p - 1) by omega]at this
   have h1:=down (p - 1) (by omega) Np
   have h2:∀j,p≤j->j<q->L (n+j)=false:=λj a b=>by
    rw[<-XT];intro hj;have:=down j b hj p a;rw[jT]at this;cases this
   have hc:cntT n L q=p:=oy (by omega) (λj hj=>h1 j (by omega)) h2;rw[hc]at hH;obtain⟨f,Vj,hS,hco⟩:=hSq.step p hpq o ho;refine .inl ⟨wanted hg,?_⟩;have dU:=hco (mk (flU l n Fl L) (Sq p)) rfl rfl (λy=>?_) (λd hd=>by rw[hnS p (by omega)];exact(iy h' hi ho hd).2) a w hH
   ·have e2 : f.app (mk (flU l n Fl L) (Sq p)) = fX st l n q Fl xs Sq (cK L (n + p)) := by
     have e3:fX st l n q Fl xs Sq (cK L (n+p))=mk (flU l n Fl (cK L (n+p))) (Sq (cntT n (cK L (n+p)) q)):=Xu (zI S4)
     have e4:cntT n (cK L (n+p)) q=p+1:=oy (by omega) (λj hj=>by
      by_cases e:j=p
      · rw[e];exact uh
      · exact zI (h1 j (by omega))) λj a b=>by
      rw[lS (by omega)];exact h2 j (by omega) b
     have e5:flU l n Fl (cK L (n+p))=flU l n Fl L:=by
      funext t;unfold flU
      cases Bh:cw l n t with
      | none=>rfl
      | some r=>
       have hr:=(de Bh).1;have:cK L (n+p) r=L r:=lS (by omega);simp only[this]
     rw[e3,e4,e5,hS];refine Mk λd hd=>?_;unfold flU;rw[Pb d (by rw[<-Vj];exact hd)]
    rw[e2]at dU;exact dU
   ·cases y with
    | tmp t=>
     show (bif flU l n Fl (λ_=>false) t then T.dead else (Sq p).t t)=.dead∨(bif flU l n Fl L t then T.dead else (Sq p).t t)=(bif flU l n Fl (λ_=>false) t then T.dead else (Sq p).t t)
     cases hu:flU l n Fl (λ_=>false) t with
     | true=>exact .inl rfl
     | false=>
      have:flU l n Fl L t=false:=by
       unfold flU at hu ⊢
       cases Bh:cw l n t with
       | none=>rfl
       | some r=>
        rw[Bh]at hu;simp only[ZG,Bool.and_true]at hu;simp only[hu,Bool.false_and]
      rw[this];exact .inr rfl
    | _=>exact .inr rfl
 ·
  have Vv:L n=false:=by cases e:L n with|true=>exact absurd e S4|false=>rfl
  have hFL:fX st l n q Fl xs Sq L=dX st l n xs L:=Xr S4;rw[hFL]at hH
  by_cases n7:i<n
  ·have hD':Done l n L:=⟨λp op hp cF hL e he hb=>hD.closed p op (by omega) cF hL e he hb⟩
   have e3:fX st l n q Fl xs Sq (cK L i)=dX st l n xs (cK L i):=Xr (by rw[lS (by omega),Vv];simp);rw[e3];exact reg_step h n7 ho hD' jT pM hH (hO i o n7 ho)
  ·obtain⟨p,rfl⟩:∃p,i=n+p:=⟨i - n,by omega⟩
   have hp0:p=0:=by
    rcases Zc p with e|e
    ·exact e
    ·have h1:=aft _ ((tl p o (by omega) ho).2.1 e)
     have:=down (p - 1) (by omega) (by rwa [show n+p - 1=n+(p - 1) by omega]at h1) 0 (XC _);rw[YI,Vv]at this;cases this
   subst hp0;obtain⟨hg,_,Pb⟩:=tl 0 o (by omega) ho;obtain⟨f,Vj,hS,hco⟩:=hSq.step 0 (by omega) o ho;have kQ:∀j,j<n->memN j Fl=false->L j=true:=λj hj hf=>ag9 o ho aft _ j rfl hj hf
   have UY:Wk (dX st l n xs L) (mk (flU l n Fl L) (Sq 0)):=by
    refine⟨W3.1,W3.2.1,λt=>?_⟩;show (bif flU l n Fl L t then T.dead else (Sq 0).t t)=_∨(bif flU l n Fl L t then T.dead else (Sq 0).t t)=.dead
    cases hu:flU l n Fl L t with
    | true=>exact .inr rfl
    | false=>
     simp only[XJ]
     have e1:(dX st l n xs L).t t=(dX st l n xs (gd n)).t t:=by
      simp only[dX]
      cases Bh:cw l n t with
      | none=>rfl
      | some r=>
       have hr:=(de Bh).1
       have hLr:L r=true:=by
        cases hf:memN r Fl with
        | false=>exact kQ r hr hf
        | true=>
         unfold flU at hu;rw[Bh]at hu;simp only[hf,Bool.true_and,Y6]at hu;exact hu
       simp only[hLr,gd,hr,decide_true]
     rw[e1];exact W3.2.2 t
   have Vw:=hH.EB UY;refine .inl ⟨wanted hg,?_⟩;have dU:=hco (mk (flU l n Fl L) (Sq 0)) rfl rfl (λy=>?_) (λd hd=>by rw[hnS 0 (XC _)];exact(iy h' hi ho hd).2) a w Vw
   ·have e2 : f.app (mk (flU l n Fl L) (Sq 0)) = fX st l n q Fl xs Sq (cK L (n + 0)) := by
     have e3:fX st l n q Fl xs Sq (cK L (n+0))=mk (flU l n Fl (cK L (n+0))) (Sq (cntT n (cK L (n+0)) q)):=Xu uh
     have h2:∀j,1≤j->j<q->L (n+j)=false:=λj a b=>by
      rw[<-XT];intro hj;have:=down j b hj 0 (XC _);rw[YI,Vv]at this;cases this
     have e4:cntT n (cK L (n+0)) q=1:=oy (by omega) (λj hj=>by
      have:j=0:=by omega
      subst this;exact uh) λj a b=>by
      rw[lS (by omega)];exact h2 j a b
     have e5:flU l n Fl (cK L (n+0))=flU l n Fl L:=by
      funext t;unfold flU
      cases Bh:cw l n t with
      | none=>rfl
      | some r=>
       have hr:=(de Bh).1;have:cK L (n+0) r=L r:=lS (by omega);simp only[this]
     rw[e3,e4,e5,hS];refine Mk λd hd=>?_;unfold flU;rw[Pb d (by rw[<-Vj];exact hd)]
    rw[e2]at dU;exact dU
   ·cases y with
    | tmp t=>
     show (bif flU l n Fl (λ_=>false) t then T.dead else (Sq 0).t t)=.dead∨(bif flU l n Fl L t then T.dead else (Sq 0).t t)=(bif flU l n Fl (λ_=>false) t then T.dead else (Sq 0).t t)
     cases hu:flU l n Fl (λ_=>false) t with
     | true=>exact .inl rfl
     | false=>
      have:flU l n Fl L t=false:=by
       unfold flU at hu ⊢
       cases Bh:cw l n t with
       | none=>rfl
       | some r=>
        rw[Bh]at hu;simp only[ZG,Bool.and_true]at hu;simp only[hu,Bool.false_and]
      rw[this];exact .inr rfl
    | _=>exact .inr rfl
theorem ar5{f:Eff}{S:St}:(f.app S).n=S.n:=by
 cases f with
 | grow k d z=>rfl
 | set k z dst x=>cases dst<;>rfl
 | put dst x=>cases dst<;>rfl
theorem kE{st:St}{l:List Oper}{id:Nat}{R:Exit->St->Prop}(n q:Nat)(Fl:List Nat)(hm:P.follows .mixedOrders=true)
  (h:(regB l n st.n&&regB l (n+q) st.n&&decide (n+q≤l.length)&&decide (1≤q)&&tailOk l (n+q)&&Mx l n q Fl)=true)
  (hW:RegW P w0 st l n (l.take n) 0 (λ_=>.dead) st (λst'=>pd P w0 l n Fl ((l.drop n).take q) st' λS=>Aops P w0 l (l.drop (n+q)) R S)):Awp P w0 (.region id l.toArray true) R st:=by
 simp only[Xs,XW]at h;obtain⟨⟨⟨⟨⟨h,h'⟩,hn⟩,hq⟩,hT0⟩,hB⟩:=h;have J4:(l.take n).length=n:=by simp;omega
 have HP:∀k,k<(l.take n).length->(l.take n)[k]?=l[0+k]?:=λk hk=>by rw[J4]at hk;simp[hk]
 obtain⟨xs,_,hO,hL⟩:=qe h (l.take n) 0 _ _ (by omega) HP hW;obtain⟨Sq,hS,hK,U3,hs2⟩:=yC q ((l.drop n).take q) 0 _ (by simp;omega) (λk hk=>by rw[Yq,Xu hk,Yk];rfl) hL;rw[XK]at hK;have ak5:Ir P w0 l n q Fl Sq:=⟨λp hp=>U3 p (XC _) (by omega),λp h1 h2=>hs2 p (by omega) (by omega)⟩
 have W3:Wk (dX st l n xs (gd n)) (Sq 0):=by
  rw[hS];exact vo h (l.take n) 0 st (by omega) HP (by rw[fg (λp _=>by simp[gd])];exact⟨rfl,rfl,λ_=>.inl rfl⟩)
 have len:∀p,p<q->∃op,l[n+p]?=some op:=λp hp=>⟨_,Xp (by omega)⟩
 have hnS:∀p,p≤q->(Sq p).n=st.n:=by
  intro p
  induction p with
  | zero=>intro _;exact W3.1
  | succ p ih=>
   intro hp;obtain⟨op,cF⟩:=len p (by omega);obtain⟨f,_,hSp,_⟩:=ak5.step p (by omega) op cF;rw[hSp,ar5];exact ih (by omega)
 intro Fe m hFe
 have hF:∀L:Nat->Bool,(∀p,p<n+q->L p=true)->fX st l n q Fl xs Sq L=fX st l n q Fl xs Sq (gd (n+q)):=λL hL=>by
  have e:∀L:Nat->Bool,(∀p,p<n+q->L p=true)->fX st l n q Fl xs Sq L=Sq q:=λL hL=>by
   have e1:fX st l n q Fl xs Sq L=mk (flU l n Fl L) (Sq (cntT n L q)):=Xu (hL n (by omega));rw[e1,oy (Xw q) (λj hj=>hL _ (by omega)) λj a b=>by omega]
   have e2:∀t,flU l n Fl L t=false:=λt=>by
    unfold flU
    cases Bh:cw l n t with
    | none=>rfl
    | some r=>
     have hr:=(de Bh).1;simp[hL r (by omega)]
   cases hS:Sq q
   simp only[mk,e2,XJ]
  rw[e L hL,e (gd (n+q)) λp hp=>by simp[gd,hp]]
 have hT:∀a w,Holds w0 (fX st l n q Fl xs Sq (gd (n+q))) a w->wpListIn Fe m P l.toArray (Post w0 R) (l.drop (n+q)) a w:=λa w hH=>by
  have e1:fX st l n q Fl xs Sq (gd (n+q))=Sq q:=by
   have e1:fX st l n q Fl xs Sq (gd (n+q))=mk (flU l n Fl (gd (n+q))) (Sq (cntT n (gd (n+q)) q)):=Xu (by simp[gd];omega);rw[e1,oy (Xw q) (λj hj=>by simp[gd];omega) λj a b=>by omega]
   have e2:∀t,flU l n Fl (gd (n+q)) t=false:=λt=>by
    unfold flU
    cases Bh:cw l n t with
    | none=>rfl
    | some r=>
     have hr:=(de Bh).1;simp[gd];intro _;omega
   cases hS:Sq q
   simp only[mk,e2,XJ]
  rw[e1]at hH;exact hK Fe m hFe a w hH
 intro a w hH;refine wpIn_region_any hm ?_
 have FN:HeadInv .any l.toArray (n+q) (Array.replicate l.toArray.size false):=
  ⟨by simp,λj oj _ hl=>(by rw[getD_replicate_false]at hl;cases hl),λt _ ht=>getD_in (by simpa using ht) (getD_replicate_false _ _)⟩
 have hF0:fX st l n q Fl xs Sq ((Array.replicate l.toArray.size false).getD · false)=st:=by
  have e1:fX st l n q Fl xs Sq ((Array.replicate l.toArray.size false).getD · false)=dX st l n xs ((Array.replicate l.toArray.size false).getD · false):=Xr (by show ¬(Array.replicate l.toArray.size false).getD n false=true;rw[getD_replicate_false];simp);rw[e1,fg (λp _=>getD_replicate_false _ _)]
 have:=OD (m:=m) hFe (F:=λL=>fX st l n q Fl xs Sq L) h' hn hT0 (λL i o a w hi ho hD jT pM hH=>Ji h h' hB hq W3 ak5 hnS (λk o hk ho=>hO k o (XC _) hk ho) hi ho hD jT pM hH) hF hT (n+q) _ a { w with drawn:=w.drawn+1 } FN lI (by rw[hF0];exact hH.drew);rw[show n+q+(l.length - (n+q))=l.toArray.size by simp;omega]at this;exact this
end
section
open Go Go.RowKit
variable{P:Program}{w0:Cx}{S s:St}{ev:Operand->T}{l os:List Oper}{n:Nat}{Fl is:List Nat}{K:St->Prop}{dst:Option Tmp}{op:Op}{ty:TypeId}{pos:String}{after:Array Edge}
theorem Gf{t:TypeId}{y x:Operand}{agg:Bool}{m k o e sz i j:Nat}{X:D}{es es':List (List D)}{z:List D}(ht:szB P t agg m=true)(hy:ev y=.ref k o)(hx:ev x=.d X)(hX:X.sc=true∨∃cs,X=.agg cs)(hm:X.cells.length=m)
  (hk:s.s k=.row e sz es) (ho:o=i*sz+j) (hz:es[i]?=some z) (hj:j+m≤sz) (oL:es.set i (dL z j X.cells)=es'):Ke P w0 s ev ⟨none,.store t y x,ty,pos,after,none⟩ (.set k (.row e sz es') none .dead):=
 λst kX _ fq _=>cp rfl λops rest R h=>jL ht (kv fq hy (by simp)) (kv fq hx (by simp)) hX hm (by rw[kX];exact hk) ho hz hj oL h
theorem wC:FloatOK P w0 l n Fl S []:=trivial
theorem gu{i:Nat}{o:Oper}{d:Tmp}{x:T}(ho:l[i]?=some o)(hd:o.dst=some d)(hx:S.t d=x)(h:Ke P w0 S (mk (flU l n Fl (dS o)) S).ev o (.put (some d) x))(hs:FloatOK P w0 l n Fl S is):FloatOK P w0 l n Fl S (i::is):=by
 refine⟨?_,hs⟩;rw[ho];simp only[hd];rw[hx];exact h
theorem qC(h:K S):pd P w0 l n Fl [] S K:=h
theorem UQ {x : T} (hq : QOp P w0 S.n S.s (mk (flU l n Fl λ_ => false) S).ev ⟨dst, op, ty, pos, after, none⟩ x) (hf : FloatOK P w0 l n Fl (S.put dst x) Fl) (h : pd P w0 l n Fl os (S.put dst x) K) :
 pd P w0 l n Fl (⟨dst,op,ty,pos,after,none⟩::os) S K:=⟨.put dst x,rfl,JL hq,hf,h⟩
theorem vE {k : Nat} {z : Site} (hc : Ke P w0 S (mk (flU l n Fl λ_ => false) S).ev ⟨none, op, ty, pos, after, none⟩ (.set k z none .dead)) (hf : FloatOK P w0 l n Fl (S.site k z) Fl) (h : pd P w0 l n Fl os (S.site k z) K) :
 pd P w0 l n Fl (⟨none,op,ty,pos,after,none⟩::os) S K:=⟨.set k z none .dead,rfl,hc,hf,h⟩
theorem Jj {k d : Nat} {z : Site} (hc : Ke P w0 S (mk (flU l n Fl λ_ => false) S).ev ⟨some d, op, ty, pos, after, none⟩ (.grow k d z)) (hf : FloatOK P w0 l n Fl (((S.dE k).site k z).put (some d) (.rs k)) Fl) (h : pd P w0 l n Fl os (((S.dE k).site k z).put (some d) (.rs k)) K) :
 pd P w0 l n Fl (⟨some d,op,ty,pos,after,none⟩::os) S K:=⟨.grow k d z,rfl,hc,hf,h⟩
end
section
open Go Go.RowKit
variable{P:Program}{w0:Cx}{n:Nat}{s:Nat->Site}{ev:Operand->T}{dst:Option Tmp}{ty:TypeId}{pos:String}{after:Array Edge}{g:Option (Nat × Bool)}
theorem IZ {t : TypeId} {y yl yh ym : Operand} {e sz lo hi : Nat} {es es' : List (List D)} (ht : slB P t e sz = true) (hy : ev y = .d (.sl sz es)) (hl : ev yl = T.i lo) (hh : ev yh = T.i hi) (hm : ev ym = T.i hi) (h1 : lo < hi) (h2 : hi ≤ es.length) (oL : (es.take hi).drop lo = es') :
  QOp P w0 n s ev ⟨dst,.slice t y (some yl) (some yh) (some ym),ty,pos,after,g⟩ (.d (.sl sz es')):=
 .mk λa w ok blk val hv _ cv=>by
  subst oL;obtain⟨A,cap,dD,hn,ez,eQ,hs,vK⟩:=kO (show Rep w _ (.sl sz es) (a.eval y) by have:=hv y;rw[hy]at this;exact this);obtain⟨inf,jm,yK⟩:=gj ht;have el:a.eval yl=.int .i64 (lo:Int):=RepT.c8 ((show ev yl=T.i lo from hl) ▸ hv yl);have eh:a.eval yh=.int .i64 (hi:Int):=RepT.c8 ((show ev yh=T.i hi from hh) ▸ hv yh);have em:a.eval ym=.int .i64 (hi:Int):=RepT.c8 ((show ev ym=T.i hi from hm) ▸ hv ym)
  have Rb:(Instr.sliceBounds true es.length cap (some (a.eval yl)) (some (a.eval yh)) (some (a.eval ym))).run P w=.ok (lo,hi,hi) w:=by
   rw[el,eh,em];simp[Instr.sliceBounds,Instr.sliceBound,asIntOf,show (lo:Int)≤(hi:Int) by omega,show (hi:Int)≤(cap:Int) by omega,show lo≤hi by omega,show hi≤cap by omega]
  rcases vK with rfl|⟨b,off,vs,rfl,bY,bg,hc,hr⟩
  ·simp at h2;omega
  ·have hlen:es.length≤maxLen:=XQ hn ez
   have tk:∀(i:Nat) (e:List D),(es.take hi)[i]?=some e->es[i]?=some e:=λi e h=>by
    rw[Yq]at h
    split at h
    ·exact h
    ·cases h
   have hl':(es.take hi).length=hi:=by rw[Ya];omega
   have key:=x9 (w:=w) (ok:=ok) (es:=es.take hi) (lo:=lo) (hi:=hi) (cap:=hi) bY bg (by omega) (by omega) (λi e h=>eQ i e (tk i e h)) (λi e j d h=>hs i e j d (tk i e h)) (λi e j d h=>hc i e j d (tk i e h)) (λi e j d h=>hr i e j d (tk i e h)) (show lo≤hi by omega) (by omega);rw[List.take_take,Nat.min_self]at key;refine⟨.slice (some ⟨b,off+lo*sz,none⟩) (hi - lo) (hi - lo),w,?_,Ext.refl w,?_⟩
   ·simp only[execOp,Instr.sliceAt,Sem.run_bind,run_underlying (cJ ht),Result.andThen_ok,Instr.slice,dD,Rb,sizeOf,bO jm,XB]
    simp[yK,ei,show ¬hi=lo by omega]
   ·exact key
variable{st:St}{a:Act}{w A B:World}{blk:Nat->Option Nat}{val:Nat->Value}{Y:Nat->Prop}
def jv(w0:Cx)(Y:Nat->Prop)(N l:Nat)(r:Loop)(st:St)(A:World)(blk:Nat->Option Nat):Cx:=
 { nU w0 Y N l r st A blk with ok:=λb=>(okOf w0 blk b∧¬Y b)∨Y b }
theorem fY.Un(h:fY w0 Y st a A blk val)(N l:Nat)(hN:st.n≤N){r:Loop}(hl:A.heap[l]?=some (.loop r)):Hold (jv w0 Y N l r st A blk) (ja N st) { tmps:=a.tmps,defers:=[] } A (xS N blk) (R7 N val):=by
 have hE:∀k b,xS N blk k=some b->N≤k∧blk (k - N)=some b:=λk b hk=>by
  simp only[xS]at hk
  cases hb:Nat.ble N k with
  | false=>rw[hb]at hk;cases hk
  | true=>rw[hb]at hk;exact⟨Nat.le_of_ble_eq_true hb,hk⟩
 have pV:∀k,Nat.ble N (N+k)=true:=λk=>by rw[Nat.ble_eq];omega
 have bg:∀b,b<A.heap.size->(okOf w0 blk b∧¬Y b)->okOf (jv w0 Y N l r st A blk) (xS N blk) b:=λb _ hb=>⟨.inl (.inl hb),λs hs=>hb.1.2 _ (hE s b hs).2⟩
 have Q2:∀k,xS N blk (N+k)=blk k∧R7 N val (N+k)=val k∧(ja N st).s (N+k)=shiftS (N + ·) (st.s k):=λk=>by
  simp only[xS,R7,ja,xR,pV k,Yb,Yy];exact⟨trivial,trivial,trivial⟩
 refine⟨⟨rfl,rfl,rfl,Xw _,λ_ _ _=>rfl⟩,⟨⟨[],rfl,.nil,λb hb=>by cases hb⟩,λb o hb=>by obtain⟨rfl,rfl⟩:=sS hb;exact⟨hl,rfl⟩⟩,h.size,λk b hk=>⟨.inr (.inl ⟨_,(hE k b hk).2⟩),(h.new _ b (hE k b hk).2).2.1⟩,λk k' b hk kX=>?_,λk b hk=>?_,λk=>?_,λt=>?_⟩
 ·have e:=h.inj _ _ b (hE k b hk).2 (hE k' b kX).2
  have:=(hE k b hk).1;have:=(hE k' b kX).1;omega
 ·simp only[jv,nU]at hk
  cases hb:Nat.ble N k&&(st.s (k - N)).isVar with
  | false=>rw[hb]at hk;cases hk
  | true=>
   rw[hb]at hk;rw[Xs]at hb;refine⟨by simp only[xS,hb.1,Yb];exact hk,?_,XQ hN (Nat.le_of_ble_eq_true hb.1)⟩;show (xR N st.s k).isVar=true
   simp only[xR,hb.1,Yb];have h2:=hb.2
   cases hs:st.s (k - N)<;>rw[hs]at h2<;>first|rfl|cases h2
 ·show SiteIn _ _ _ _ (xR N st.s) _ _ (xR N st.s k)
  cases hb:Nat.ble N k with
  | false=>simp only[xS,xR,hb,XJ];rfl
  | true=>
   simp only[xS,xR,hb,Yb,R7];exact(h.site (k - N)).shift bg λcs _ y _ j _=>Q2 j
 ·exact(h.tmp t).shift bg λk _=>Q2 k
theorem fY.as4{N l:Nat}{r:Loop}{c:Cx}{S:Nat->Site}{a':Act}{rK:Nat->Option Nat}{Bz:Nat->Value}(h:fY w0 Y st a A blk val)(hH:Hold c (ja N (gV st S)) a' B rK Bz)
  (hs:A.heap.size≤B.heap.size) (qJ:gf A B) (HT:∀g,g<A.heap.size->(∀k,blk k≠some g)->g≠l->B.heap[g]?=A.heap[g]?) (hl:A.heap[l]?=some (.loop r)) (WT:w0.w.heap.size≤l) (hlf:∀o,w0.fix l≠some o)
  (FU:∀k b,(st.s k).isVar=true->blk k=some b->c.kU (N+k)=some b) (cv:∀k b,rK (N+k)=some b->(∃j,blk j=some b)∨A.heap.size≤b)
  (HU:∀k,jN (S k)) (jC:∀k,(S k).isVar=(st.s k).isVar):fY w0 Y (df st S) a B (λk=>rK (N+k)) (λk=>Bz (N+k)):=by
 have pV:∀k,Nat.ble N (N+k)=true:=λk=>by rw[Nat.ble_eq];omega
 have hup:∀k,xR N S (N+k)=shiftS (N + ·) (S k):=λk=>by simp only[xR,pV k,Yb,Yy]
 obtain⟨⟨ms,m1,m2,m3⟩,f1⟩:=h.kept;have nY:∀b,A.heap.size≤b->¬Y b:=λb hb hY=>by have:=(h.mZ b hY).2;omega
 have pinned:∀k b,(st.s k).isVar=true->blk k=some b->rK (N+k)=some b:=λk b hv hb=>(hH.kU _ _ (FU k b hv hb)).1;refine⟨⟨qJ.1.trans h.ext.os,qJ.2.1.trans h.ext.tape,qJ.2.2.trans h.ext.output,XQ h.ext.size hs,λk hk hm=>?_⟩,⟨⟨ms,m1,m2,λb hb=>⟨(m3 b hb).1,?_⟩⟩,λb o hf=>⟨?_,(f1 b o hf).2⟩⟩,h.HD,h.Rj,λg hg=>⟨(h.mZ g hg).1,XD (h.mZ g hg).2 hs⟩,h.size,λk b hb=>?_,λk k' b hb bY=>?_,λk b hb=>?_,λk=>?_,λt=>?_⟩
 ·rw[HT k (XD hk h.ext.size) (λj hj=>?_) (by omega)]
  ·exact h.ext.block k hk hm
  ·rcases(h.new j k hj).1 with q|q
   ·omega
   ·exact hm q
 ·have bY:=(m3 b hb).2
  rw[HT b (bI bY) (h.sv bY rfl) (λe=>by rw[e,hl]at bY;cases bY)];exact bY
 ·obtain⟨q1,q2⟩:=f1 b o hf
  rw[HT b (bI q1) (h.sv q1 q2) (λe=>hlf o (by rw[<-e];exact hf))];exact q1
 ·refine⟨?_,(hH.new _ b hb).2,?_⟩
  ·rcases cv k b hb with ⟨j,hj⟩|q
   ·exact(h.new j b hj).1
   ·exact .inl (XQ h.ext.size q)
  ·rcases cv k b hb with ⟨j,hj⟩|q
   ·exact(h.new j b hj).2.2
   ·exact nY b q
 ·have:=hH.inj _ _ b hb bY
  omega
 ·obtain⟨q1,q2,q3⟩:=h.kU k b hb
  exact⟨pinned k b q2 q1,by show (S k).isVar=true;rw[jC k];exact q2,q3⟩
 ·have h1:=hH.site (N+k)
  rw[show (ja N (gV st S)).s (N+k)=shiftS (N + ·) (S k) from hup k]at h1;exact SiteIn.flat (h1.ix (λb hb bg=>bg) λcs _ y _ j _=>⟨rfl,rfl,hup j⟩) (HU k)
 ·have h1:=h.tmp t
  show RepT B _ _ _ S (loopT st.s (st.t t)) _
  cases hx:st.t t with
  | d x=>
   rw[hx]at h1;refine Rep.MA (show Rep A _ x _ from h1) hs (λb aK e z bg hb=>?_) λb bH bg=>⟨⟨bg.1.1,λs Es=>?_⟩,bg.2⟩
   ·rw[HT b (bI hb) bg.1.2 (λe=>by rw[e,hl]at hb;cases hb)];exact hb
   ·rcases cv s b Es with ⟨j,hj⟩|q
    ·exact bg.1.2 j hj
    ·omega
  | ref k o=>
   rw[hx]at h1;simp only[loopT]
   cases hv:(st.s k).isVar with
   | false=>trivial
   | true=>
    obtain⟨q1,b,q2,q3⟩:=h1;exact⟨(λhn=>by have:=jC k;rw[hn,hv]at this;cases this),b,pinned k b hv q2,q3⟩
  | rs k=>trivial
  | own k r f g=>trivial
  | un=>rw[hx]at h1;exact h1
  | dead=>trivial
theorem wP{α β:Type}{g:Operand}{ps:Array Tmp}{assign body:Code}{R:Exit->St->Prop}{f:FuncId}{pre post:List D}{enc:α->List D}{items:List α}{fin:Bool}(N:Nat)(dh:List D)(SH:List Value->β->Nat->Site)(S':β->Nat->Site)(I:Nat->β->Prop)(X:Exit->β->Prop)(x0:β)
  (cH:w0.uk=none) (hg:(st.ev g=.d (.vB (.func f) pre)∧post=[])∨(st.ev g=.d (.fn (.func f) post)∧pre=[])) (he:cA P f=true) (Vi:PI P f pre post enc items fin) (hN:Nat.ble st.n N=true) (WI:∀y,(enc y).length=ps.size) (iK:∀p∈ps.toList,p<st.n) (CV:∀us x k,jN (SH us x k))
  (jC:∀us x k,(SH us x k).isVar=(st.s k).isVar) (h0:I 0 x0) (hs:∀a w blk val,Hold w0 st a w blk val->∃us aI val',RepL w (okOf w0 aI) dh us∧Hold w0 (df st (SH us x0)) a w aI val') (qL:fin=false->∀x,¬I items.length x)
  (m8:∀us,∀w1:Cx,(∀k b,w1.kU k=some b->(Nat.ble N k&&(st.s (k - N)).isVar)=true)->∀k x y,I k x->items[k]?=some y->Awp P w1 assign (λe s=>e=.normal∧∀w2:Cx,(∀k b,w2.kU k=some b->(Nat.ble N k&&(st.s (k - N)).isVar)=true)->
   Awp P w2 body (λe s'=>(e=.normal∧∃x',I (k+1) x'∧Le w2 s' (ja N (gV st (SH us x'))))∨((Ak e).isSome=true∧∃x',X e x'∧Le w2 s' (ja N (gV st (SH us x'))))) s) (zR ps.toList (enc y) (ja N (df st (SH us x)))))
  (HV:∀us x a w blk val,RepL w (okOf w0 blk) dh us->Hold w0 (df st (SH us x)) a w blk val->Hold w0 (df st (S' x)) a w blk val)
  (CX:∀x,I items.length x->R .normal (df st (S' x))) (cC:∀e x,X e x->R e (df st (S' x))):Awp P w0 (.rangeFunc g ps assign body) R st:=by
 intro F m hF a w hH;rw[Nat.ble_eq]at hN
 have hFw:F=Fence.wide:=by
  rcases hF.1 with e|⟨l,e⟩
  ·exact e
  ·have:=hF.2;rw[e,cH]at this;cases this
 subst hFw;obtain⟨aG3,at7,hhI⟩:=hH;obtain⟨Wt,mD,TT,ay5,M9⟩:=hs a w aG3 at7 hhI;obtain⟨S,hSe⟩:∃S:β->Nat->Site,S=SH Wt:=⟨_,rfl⟩
 have m8:=m8 Wt;have jC:=jC Wt;have CV:=CV Wt;have Nk:=HV Wt;rw[<-hSe]at m8 jC CV Nk M9
 obtain⟨v1,v2,hga,ay4,ay3⟩:∃v1 v2:List Value,a.eval g=.func (.func f) v1.toArray v2.toArray∧RepL w (okOf w0 mD) pre v1∧RepL w (okOf w0 mD) post v2:=by
  have evg:∀x,st.ev g=.d x->Rep w (okOf w0 mD) x (a.eval g):=λx hx=>by
   have h1:=M9.ev g
   have:(df st (S x0)).ev g=.d x:=by
    cases g with
    | tmp t=>show loopT st.s (st.t t)=_;rw[show st.t t=_ from hx];rfl
    | _=>exact hx
   rw[this]at h1;exact h1
  rcases hg with ⟨h1,rfl⟩|⟨h1,rfl⟩
  ·obtain⟨vs,h2,h3⟩:=HC (evg _ h1)
   exact⟨vs,[],h2,h3,trivial⟩
  ·obtain⟨vs,h2,h3⟩:=FY (evg _ h1)
   exact⟨[],vs,h2,trivial,h3⟩
 have CN:∀{ds:List D} {vs:List Value},RepL w (okOf w0 mD) ds vs->RepL w (λb=>okOf w0 mD b∧b<w.heap.size) ds vs:=λh=>RepL.of h.length λj d v h1 h2=>(h.get j d v h1 h2).ok λb hb h=>⟨h,hb⟩
 have ML:=CN ay4;have hv2:=CN ay3;refine wpIn_rangeFunc ?_;intro fn WX;obtain⟨rec,oJ⟩:∃rec:LoopState->Option Code->Loop,rec=λst pe=>{ state:=st,pending:=pe,fn,tmps:=a.tmps,params:=ps,assign,body,defers:=w.heap.size }:=⟨_,rfl⟩
 obtain⟨W1,hW1⟩:∃W1,(w.alloc (.deferred (some []))).alloc (.loop (rec .ready none))=W1:=⟨_,rfl⟩
 have hL1:W1.heap[w.heap.size+1]?=some (.loop (rec .ready none)):=by
  rw[<-hW1];have:=World.alloc_heap_new (w.alloc (.deferred (some []))) (.loop (rec .ready none));rwa [World.size_alloc]at this
 have hK1:W1.heap[w.heap.size]?=some (.deferred (some [])):=by
  rw[<-hW1];exact(Below.heap_alloc _ _ _ (by simp)).trans (World.alloc_heap_new w _)
 have hE1:Ext w W1:=by rw[<-hW1];exact((Ext.refl w).alloc _).alloc _
 have U3:W1.heap.size=w.heap.size+2:=by rw[<-hW1];simp
 have hJ1:kI w0 st a w (λb=>okOf w0 mD b∧b<w.heap.size) (w.heap.size+1) w.heap.size (rec .ready none) (S x0) (λ_=>False) W1:=
  ⟨⟨mD,TT,fY.of (M9.ext' hE1),λg hg=>⟨hg.1,λh=>h⟩⟩,hL1,hK1,⟨λh=>h,λh=>h⟩,by omega,λg hg=>hE1.block g hg.2⟩
 refine⟨w.heap.size+1,[{ target:=.collected w.heap.size,args:=#[] }],W1,{ target:=.fn (.func f) v2.toArray,args:=v1.toArray ++ #[.func (.yield (w.heap.size+1)) #[] #[]] },W1,f,
  v1.toArray ++ #[.func (.yield (w.heap.size+1)) #[] #[]]++v2.toArray,W1,?_,?_,λ_ _=>trivial,?_,λh=>(by simp[Fence.wide]at h),?_⟩
 ·rw[<-hW1,oJ];exact run_enterLoop_outer _ _ _ _ _
 ·simp only[resolve,hga]
  simp[go_sem]
 ·simp[invoke,go_sem,lU he]
 ·have kB:v1.toArray ++ #[Value.func (.yield (w.heap.size+1)) #[] #[]]++v2.toArray=(v1++Value.func (.yield (w.heap.size+1)) #[] #[]::v2).toArray:=by simp
  rw[kB]
  refine callsIn_wide.2 (callsIn_wide.1 ((Vi w (λb=>okOf w0 mD b∧b<w.heap.size) v1 v2 ML hv2 0 (w.heap.size+1)
   (λY s A=>match s with
    | (true,s)=>∃x,I s.length x∧kI w0 st a w (λb=>okOf w0 mD b∧b<w.heap.size) (w.heap.size+1) w.heap.size (rec .ready none) (S x) Y A
    | (false,_)=>∃e c x,Ak e=some c∧X e x∧kI w0 st a w (λb=>okOf w0 mD b∧b<w.heap.size) (w.heap.size+1) w.heap.size (rec .done (some c)) (S x) Y A) W1 (λ_=>False) ?_ ?_ ?_ ?_ ⟨x0,h0,hJ1⟩).mono ?_))
  ·have step : ∀ (r : Loop) (x : β) (Y : Nat -> Prop) (A B : World), kI w0 st a w (λb => okOf w0 mD b ∧ b < w.heap.size) (w.heap.size + 1) w.heap.size r (S x) Y A -> A.heap.size ≤ B.heap.size -> gf A B -> (∀ g, g < A.heap.size -> ¬ Y g -> B.heap[g]? = A.heap[g]?) ->
     kI w0 st a w (λb=>okOf w0 mD b∧b<w.heap.size) (w.heap.size+1) w.heap.size r (S x) (λg=>Y g∨(A.heap.size≤g∧g<B.heap.size)) B:=by
    intro r x Y A B hb hAB qJ iJ;obtain⟨blk,val,hh,hD⟩:=hb.hold;have hlA:=bI hb.Lh;have hkA:=bI hb.JG;refine⟨⟨blk,val,hh.step hAB qJ iJ,λg hg=>⟨(hD g hg).1,λh=>?_⟩⟩,(iJ _ hlA hb.out.1).trans hb.Lh,(iJ _ hkA hb.out.2).trans hb.JG,⟨λh=>?_,λh=>?_⟩,XQ hb.size hAB,λg hg=>?_⟩
    ·rcases h with h|⟨h,_⟩
     ·exact(hD g hg).2 h
     ·have:=hb.size;have:=hg.2;omega
    ·rcases h with h|⟨h,_⟩
     ·exact hb.out.1 h
     ·omega
    ·rcases h with h|⟨h,_⟩
     ·exact hb.out.2 h
     ·omega
    ·rw[iJ g (by have:=hb.size;have:=hg.2;omega) (hD g hg).2];exact hb.data g hg
   rintro Y ⟨go,s⟩ A B hJ hAB qJ iJ
   cases go with
   | true=>obtain⟨x,hI,hb⟩:=hJ;exact⟨x,hI,step _ x Y A B hb hAB qJ iJ⟩
   | false=>obtain⟨e,c,x,hc,hX,hb⟩:=hJ;exact⟨e,c,x,hc,hX,step _ x Y A B hb hAB qJ iJ⟩
  ·have info : ∀ (r : Loop) (x : β) (Y : Nat -> Prop) (A : World), kI w0 st a w (λb => okOf w0 mD b ∧ b < w.heap.size) (w.heap.size + 1) w.heap.size r (S x) Y A ->
     w.heap.size≤A.heap.size∧(∀g,Y g->g<A.heap.size)∧∀g,g<w.heap.size->(okOf w0 mD g∧g<w.heap.size)->A.heap[g]?=w.heap[g]?∧¬Y g:=by
    intro r x Y A hb;obtain⟨blk,val,hh,hD⟩:=hb.hold;exact⟨by have:=hb.size;omega,λg hg=>(hh.mZ g hg).2,λg _ hg=>⟨hb.data g hg,(hD g hg).2⟩⟩
   rintro Y ⟨go,s⟩ A hJ
   cases go with
   | true=>obtain⟨x,hI,hb⟩:=hJ;exact info _ x Y A hb
   | false=>obtain⟨e,c,x,hc,hX,hb⟩:=hJ;exact info _ x Y A hb
  ·rintro Y s y us A ⟨x,hI,hb⟩ Au J3 m'
   obtain⟨blk,val,hh,hD⟩:=hb.hold;have WG:us.length=ps.size:=by rw[RepL.length J3];exact WI y
   have hy:=run_yield (P:=P) (args:=us.toArray) hb.Lh (by rw[oJ];simpa using WG);rw[oJ]at hy
   have hE:∀k b,xS N blk k=some b->blk (k - N)=some b:=λk b hk=>by
    simp only[xS]at hk
    cases hb:Nat.ble N k with
    | false=>rw[hb]at hk;cases hk
    | true=>rw[hb]at hk;exact hk
   have dU:Holds (jv w0 Y N (w.heap.size+1) (rec .ready none) (df st (S x)) A blk) (Am.zR ps.toList (enc y) (ja N (df st (S x)))) { tmps:=(ps.toList.zip us).foldl (λt (x:Tmp × Value)=>t.setIfInBounds x.1 x.2) a.tmps,defers:=[] } A:=
    ⟨_,_,Hold.zR ps.toList (enc y) us _ _ (hh.Un N (w.heap.size+1) hN hb.Lh) (RepL.of (RepL.length J3) λj d v h1 h2=>(RepL.get J3 j d v h1 h2).ok λb hb bg=>⟨.inl (by
     rcases bg with q|q
     ·exact .inl (hD b q)
     ·exact .inr q),λk hk=>by
     have O8:=hE k b hk
     rcases bg with q|q
     ·exact(hD b q).1.2 _ O8
     ·exact(hh.new _ b O8).2.2 q⟩) iK⟩
   have aA9:items[s.length]?=some y:=by obtain⟨t,ht⟩:=Au;rw[<-ht];simp
   have aC2:({ tmps:=(ps.zip us.toArray).foldl (λtmps (x:Tmp × Value)=>tmps.setIfInBounds x.1 x.2) a.tmps,defers:=[] }:Act)={ tmps:=(ps.toList.zip us).foldl (λt (x:Tmp × Value)=>t.setIfInBounds x.1 x.2) a.tmps,defers:=[] }:=by
    rw[<-Zb,Array.toList_zip]
   have SJ:∀k b,(bif Nat.ble N k&&((df st (S x)).s (k - N)).isVar then blk (k - N) else none)=some b->(Nat.ble N k&&(st.s (k - N)).isVar)=true:=λk b hk=>by
    have e:((df st (S x)).s (k - N)).isVar=(st.s (k - N)).isVar:=jC x (k - N);rw[e]at hk
    cases hb:Nat.ble N k&&(st.s (k - N)).isVar with
    | true=>rfl
    | false=>rw[hb]at hk;cases hk
   refine⟨fn,_,assign,body,hy,roundIn_of_wpIn WX (wpIn_mono (show assign.wpIn _ _ P _ ({ tmps:=(ps.zip us.toArray).foldl (λtmps (x:Tmp × Value)=>tmps.setIfInBounds x.1 x.2) a.tmps,defers:=[] }:Act) A from by rw[aC2];exact m8 (jv w0 Y N (w.heap.size+1) (rec .ready none) (df st (S x)) A blk) SJ s.length x y hI aA9 (Fence.wide.inRound (w.heap.size+1)) _ ⟨.inr ⟨_,rfl⟩,rfl⟩ _ _ dU) ?_)⟩;rintro e aI7 aI8 ⟨s1,⟨rfl,tW⟩,aI6,aa3,h1⟩;have Vf:=(h1.defers.fix (w.heap.size+1) (.loop (rec .ready none)) (by simp[jv,nU,AN])).1;have C1:=h1.Sj (rec .busy none) rfl (.inr rfl);refine⟨_,run_beginRound Vf (by rw[oJ]),wpIn_mono (tW _ SJ (Fence.wide.inRound (w.heap.size+1)) _ ⟨.inr ⟨_,rfl⟩,rfl⟩ _ _ ⟨_,_,by rw[oJ]at C1 ⊢;exact C1⟩) ?_⟩
   have JB:∀(c1:Cx),c1={ jv w0 Y N (w.heap.size+1) (rec .ready none) (df st (S x)) A blk with fix:=AN (w.heap.size+1) (rec .busy none) }->∀(Gl:Act) (rR:World) (s2:St) (x':β) (jump:Option Code),Le c1 s2 (ja N (gV st (S x')))->Holds c1 s2 Gl rR->
     (Instr.endRound (w.heap.size+1) jump).run P rR=.ok (.bool jump.isNone) (rR.putObj (w.heap.size+1) (.loop (rec (if jump.isNone then .ready else .done) jump)))∧
     ∃B,rR.putObj (w.heap.size+1) (.loop (rec (if jump.isNone then .ready else .done) jump))=B∧
      kI w0 st a w (λb=>okOf w0 mD b∧b<w.heap.size) (w.heap.size+1) w.heap.size (rec (if jump.isNone then .ready else .done) jump) (S x') Y B∧A.heap.size≤B.heap.size∧gf A B∧∀g,Y g->B.heap[g]?=A.heap[g]?:=by
    intro c1 bW Gl rR s2 x' jump hle Vw;subst bW;obtain⟨rK,Bz,h2⟩:=hle Gl rR Vw;have SN:=(h2.defers.fix (w.heap.size+1) (.loop (rec .busy none)) (by simp[AN,oJ])).1;have h3:=h2.Sj (rec (if jump.isNone then .ready else .done) jump) rfl (.inr rfl);have hB:(rR.putObj (w.heap.size+1) (.loop (rec (if jump.isNone then .ready else .done) jump))).heap[w.heap.size+1]?=some (.loop (rec (if jump.isNone then .ready else .done) jump)):=World.putObj_heap_same (bI SN)
    have bR:(Instr.endRound (w.heap.size+1) jump).run P rR=.ok (.bool jump.isNone) (rR.putObj (w.heap.size+1) (.loop (rec (if jump.isNone then .ready else .done) jump))):=by
     have:=run_endRound (P:=P) jump SN;rw[oJ]at this ⊢;exact this
    refine⟨bR,_,rfl,?_⟩;generalize hBe:rR.putObj (w.heap.size+1) (.loop (rec (if jump.isNone then .ready else .done) jump))=B at h3 hB;have eQ:A.heap.size≤B.heap.size:=h3.ext.size;have qJ:gf A B:=⟨h3.ext.os,h3.ext.tape,h3.ext.output⟩
    have HT:∀g,g<A.heap.size->(∀k,blk k≠some g)->g≠w.heap.size+1->B.heap[g]?=A.heap[g]?:=λg hg hnb hgl=>h3.ext.block g hg (λhm=>by
     rcases hm with ⟨k,hk⟩|hk
     ·exact hnb k hk
     ·exact hgl hk)
    have cv:∀k b,rK (N+k)=some b->(∃j,blk j=some b)∨A.heap.size≤b:=λk b Rc=>by
     rcases(h3.new _ b Rc).1 with q|q|q
     ·exact .inr q
     ·exact .inl q
     ·exact absurd (by rw[<-q];exact Rc) ((fY.of h3).sv hB rfl (N+k))
    have Er:w0.w.heap.size≤w.heap.size:=M9.ext.size
    have HV:=hh.as4 (N:=N) (l:=w.heap.size+1) (r:=rec .ready none) (S:=S x') (B:=B) h3 eQ qJ HT hb.Lh (by omega) (λo ho=>by have:=bI (M9.defers.fix _ o ho).1;omega)
     (λk b hv qN=>by
      have e:Nat.ble N (N+k)=true:=by rw[Nat.ble_eq];omega
      show (bif Nat.ble N (N+k)&&((df st (S x)).s (N+k - N)).isVar then blk (N+k - N) else none)=some b
      rw[e,Yy,hv];exact qN)
     cv (λk=>CV x' k) (λk=>(jC x' k).trans (jC x k).symm)
    rw[xp (jC x)]at HV;have hlA:=bI hb.Lh;refine⟨⟨⟨_,_,HV,λg hg=>⟨⟨(hD g hg).1.1,λk hk=>?_⟩,(hD g hg).2⟩⟩,hB,?_,hb.out,XQ hb.size eQ,λg hg=>?_⟩,eQ,qJ,λg hg=>?_⟩
    ·rcases cv k g hk with ⟨j,hj⟩|q
     ·exact(hD g hg).1.2 j hj
     ·have:=hb.size;have:=hg.2;omega
    ·rw[HT _ (bI hb.JG) (hh.sv hb.JG rfl) (by omega)];exact hb.JG
    ·rw[HT g (by have:=hb.size;have:=hg.2;omega) (hD g hg).1.2 (by have:=hg.2;omega)];exact hb.data g hg
    ·exact HT g (hh.mZ g hg).2 (λk hk=>(hh.new k g hk).2.2 hg) (λe=>hb.out.1 (by rw[<-e];exact hg))
   rintro e Gl rR ⟨s2,aB5,Vw⟩
   rcases aB5 with ⟨rfl,x',hI',hle⟩|⟨hj,x',hX,hle⟩
   ·obtain⟨bR,B,hB,h1,h2,h3,h4⟩:=JB _ (by rw[oJ]) Gl rR s2 x' none hle Vw
    exact⟨_,_,bR,true,rfl,by rw[hB];exact⟨x',by rw[XI];exact hI',h1⟩,by rw[hB];exact h2,by rw[hB];exact h3,by rw[hB];exact h4⟩
   ·cases e with
    | ret=>
     obtain⟨bR,B,hB,h1,h2,h3,h4⟩:=JB _ (by rw[oJ]) Gl rR s2 x' (some .ret) hle Vw;exact⟨_,_,bR,false,rfl,by rw[hB];exact⟨.ret,.ret,x',rfl,hX,h1⟩,by rw[hB];exact h2,by rw[hB];exact h3,by rw[hB];exact h4⟩
    | exit id=>
     obtain⟨bR,B,hB,h1,h2,h3,h4⟩:=JB _ (by rw[oJ]) Gl rR s2 x' (some (.exit id)) hle Vw;exact⟨_,_,bR,false,rfl,by rw[hB];exact⟨.exit id,.exit id,x',rfl,hX,h1⟩,by rw[hB];exact h2,by rw[hB];exact h3,by rw[hB];exact h4⟩
    | _=>cases hj
  ·rintro hf Y A ⟨x,hI,_⟩
   exact qL hf x hI
  ·have behind : ∀ (W2 : World) (r : Loop) (x : β) (Y : Nat -> Prop) (st' : LoopState), kI w0 st a w (λb => okOf w0 mD b ∧ b < w.heap.size) (w.heap.size + 1) w.heap.size r (S x) Y W2 ->
     Holds w0 (df st (S' x)) { a with defers:={ target:=.collected w.heap.size,args:=#[] }::a.defers } (W2.putObj (w.heap.size+1) (.loop { r with state:=st' })):=by
    intro W2 r x Y st' hb;obtain⟨blk,val,hh,hD⟩:=hb.hold;have hlA:=bI hb.Lh
    have AE:CK W2 (W2.putObj (w.heap.size+1) (.loop { r with state:=st' })):=⟨by rw[World.putObj_size];exact Xw _,λb aK e z hc=>by
     rw[World.putObj_heap_other (λe'=>by rw[e',hb.Lh]at hc;cases hc)];exact hc,λb es z hc=>by
     rw[World.putObj_heap_other (λe'=>by rw[e',hb.Lh]at hc;cases hc)];exact hc⟩
    have hm:=hh.hold;obtain⟨⟨ms0,n1,n2,n3⟩,_⟩:=M9.defers;obtain⟨⟨ms,m1,m2,m3⟩,mf⟩:=hm.defers
    have bH:∀b∈ms,b<w.heap.size:=λb bY=>by
     have:({ target:=.collected b,args:=#[] }:Deferred)∈a.defers:=by rw[m1];exact X6.2 ⟨b,bY,rfl⟩
     rw[n1]at this;obtain⟨b',Rc,e⟩:=X6.1 this
     cases e
     exact bI (n3 b Rc).2
    have aj7:RepL (W2.putObj (w.heap.size+1) (.loop { r with state:=st' })) (okOf w0 blk) dh Wt:=(CN ay5).imp λd v h=>(h.cr (w':=W2) (ok':=okOf w0 blk) (by have:=hb.size;omega) (λb o bg ho=>by rw[hb.data b bg];exact ho) (λb _ bg=>(hD b bg).1)).ky AE;refine⟨blk,val,Nk x _ _ _ _ aj7 ?_⟩;refine⟨⟨hm.ext.os,hm.ext.tape,hm.ext.output,by rw[World.putObj_size];exact hm.ext.size,λk hk J5=>?_⟩,⟨⟨w.heap.size::ms,?_,List.nodup_cons.2 ⟨λh=>by have:=bH _ h;omega,m2⟩,λb bY=>?_⟩,λb o hf=>?_⟩,hm.size,λs b Es=>⟨(hm.new s b Es).1,by rw[World.putObj_size];exact(hm.new s b Es).2⟩,hm.inj,hm.kU,λs=>(hm.site s).ky AE,λt=>(hm.tmp t).ky AE⟩
    ·rw[World.putObj_heap_other (by have:=M9.ext.size;omega)];exact hm.ext.block k hk J5
    ·show _::a.defers=_
     rw[m1];rfl
    ·rcases Xy.1 bY with rfl|bY
     ·exact⟨.inl M9.ext.size,by rw[World.putObj_heap_other (by omega)];exact hb.JG⟩
     ·exact⟨(m3 b bY).1,by rw[World.putObj_heap_other (by have:=bH b bY;omega)];exact(m3 b bY).2⟩
    ·refine⟨?_,(mf b o hf).2⟩
     rw[World.putObj_heap_other (by have:=bI (M9.defers.fix b o hf).1;omega)];exact(mf b o hf).1
   rintro e W2 ⟨⟨v,rfl⟩,Y,⟨go,s⟩,hJ,hgo⟩
   cases go with
   | true=>
    obtain⟨x,hI,hb⟩:=hJ;have tZ:s=items:=hgo rfl;subst tZ;refine⟨none,_,by have:=run_endLoop (P:=P) hb.Lh (by rw[oJ];simp);rw[oJ]at this;exact this,?_⟩;exact⟨_,CX x hI,by have:=behind W2 _ x Y .exhausted hb;rw[oJ]at this;exact this⟩
   | false=>
    obtain⟨e,c,x,hc,hX,hb⟩:=hJ;refine⟨some c,_,by have:=run_endLoop (P:=P) hb.Lh (by rw[oJ];simp);rw[oJ]at this;exact this,?_⟩;have hq:Post w0 R e _ _:=⟨_,cC e x hX,by have:=behind W2 _ x Y .exhausted hb;rw[oJ]at this;exact this⟩
    cases e with
    | ret=>cases hc;exact wpIn_ret hq
    | exit id=>cases hc;exact wpIn_exit hq
    | _=>cases hc
end
section
open Go Go.RowKit
variable{P:Program}{w0:Cx}{st:St}{a:Act}{w:World}{blk:Nat->Option Nat}{val:Nat->Value}
def M7(j:Nat)(u:Value):Site->Site
 | .cn cs=>.cn (cs.set j (.d (.v u)))
 | x=>x
def hideL(k j:Nat)(u:Value):List (Nat × Site)->List (Nat × Site)
 | []=>[]
 | p::ps=>(p.1,bif Nat.beq p.1 k then M7 j u p.2 else p.2)::hideL k j u ps
theorem gA(k j:Nat)(u:Value):∀(ss:List (Nat × Site)) (i:Nat),siteOf (hideL k j u ss) i=bif Nat.beq i k then M7 j u (siteOf ss i) else siteOf ss i
 | [],i=>by
  show Site.no=bif Nat.beq i k then M7 j u .no else .no
  cases Nat.beq i k<;>rfl
 | (q,x)::ss,i=>by
  have ih:=gA k j u ss i;simp only[siteOf,hideL,lookN]at ih ⊢
  cases hq:Nat.beq i q with
  | true=>
   simp only[Yb];rw[Xq hq]
  | false=>exact ih
theorem CR(k j:Nat)(u:Value)(ss:List (Nat × Site))(i:Nat):(siteOf (hideL k j u ss) i).isVar=(siteOf ss i).isVar:=by
 rw[gA]
 cases Nat.beq i k
 ·rfl
 ·simp only[Yb]
  cases siteOf ss i<;>rfl
theorem Dg{l:List (Nat × Site)}(h:∀p∈l,jN p.2)(i:Nat):jN (siteOf l i):=by
 unfold siteOf
 cases hx:lookN i l with
 | none=>trivial
 | some x=>
  simp only
  induction l with
  | nil=>cases hx
  | cons p l ih=>
   simp only[lookN]at hx
   cases hq:Nat.beq i p.1 with
   | true=>rw[hq]at hx;cases hx;exact h p (by simp)
   | false=>rw[hq]at hx;exact ih (λq hq=>h q (by simp[hq])) hx
theorem Hold.R5{s s':St}(hh:Hold w0 s a w blk val)(hw:Wk s s'):Hold w0 s' a w blk val:=by
 obtain⟨h1,h2,h3⟩:=hw;refine⟨hh.ext,hh.defers,by rw[h1];exact hh.size,hh.new,hh.inj,by rw[h1,h2];exact hh.kU,by rw[h2];exact hh.site,λt=>?_⟩;rw[h2]
 rcases h3 t with e|e
 ·rw[e];exact hh.tmp t
 ·rw[e];trivial
def sZ:List T->Prop
 | []=>True
 | x::xs=>zh x∧sZ xs
theorem HY:sZ []:=trivial
theorem C6{x:T}{xs:List T}(h:zh x)(hs:sZ xs):sZ (x::xs):=⟨h,hs⟩
theorem HZ:∀{xs:List T},sZ xs->∀x∈xs,zh x
 | [],_,x,hx=>by cases hx
 | y::ys,h,x,hx=>by
  rcases Xy.1 hx with rfl|hx
  ·exact h.1
  ·exact HZ h.2 x hx
theorem C7{cs:List T}(h:sZ cs):jN (.cn cs):=λx hx=>HZ h x hx
theorem og{cs:List D}(h:kH cs):jN (.box cs):=λx hx=>kH.mem h x hx
def wV:List (Nat × Site)->Prop
 | []=>True
 | p::ps=>jN p.2∧wV ps
theorem uE:wV []:=trivial
theorem gS{k:Nat}{x:Site}{ps:List (Nat × Site)}(h:jN x)(hs:wV ps):wV ((k,x)::ps):=⟨h,hs⟩
theorem qV:∀{ps:List (Nat × Site)},wV ps->∀p∈ps,jN p.2
 | [],_,x,hx=>by cases hx
 | y::ys,h,x,hx=>by
  rcases Xy.1 hx with rfl|hx
  ·exact h.1
  ·exact qV h.2 x hx
theorem Hold.swap{st st':St}{k:Nat}{cs cs':List T}(hh:Hold w0 st a w blk val)(hk:st.s k=.cn cs)(hn:st'.n=st.n)(ht:st'.t=st.t)(kX:st'.s k=.cn cs')(ho:∀i,i≠k->st'.s i=st.s i)(hl:cs'.length=cs.length)
  (hc:∀(aK:Array Value),(∀(j:Nat) (x:T),cs[j]?=some x->∃v,aK[j]?=some v∧v.oneCell'=true∧RepT w (okOf w0 blk) blk val st.s x v)->(∃b e,blk k=some b∧w.heap[b]?=some (.cells aK e (0,0)))->∀(j:Nat) (y:T),cs'[j]?=some y->∃v,aK[j]?=some v∧v.oneCell'=true∧RepT w (okOf w0 blk) blk val st.s y v) :
  Hold w0 st' a w blk val:=by
 have dW:∀j,blk j=blk j∧val j=val j∧(st.s j≠.no->st'.s j≠.no)∧((∃e sz es,st.s j=.row e sz es)->∃e sz es,st'.s j=.row e sz es):=λj=>by
  refine⟨rfl,rfl,?_⟩
  by_cases e:j=k
  ·subst e
   exact⟨λ_=>by rw[kX];simp,λ⟨e,sz,es,q⟩=>by rw[hk]at q;cases q⟩
  ·rw[ho j e];exact⟨id,id⟩
 refine⟨hh.ext,hh.defers,by rw[hn];exact hh.size,hh.new,hh.inj,λi b hi=>?_,λi=>?_,λt=>?_⟩
 ·obtain⟨q1,q2,q3⟩:=hh.kU i b hi
  refine⟨q1,?_,by rw[hn];exact q3⟩
  by_cases e:i=k
  ·subst e;rw[kX];rfl
  ·rw[ho i e];exact q2
 ·by_cases e:i=k
  ·subst e
   have hs:=hh.site i;rw[hk]at hs;obtain⟨b,e,aK,h1,h2,h3,h5⟩:=hs;rw[kX];have h6:=hc aK h5 ⟨b,e,h1,h2⟩;exact⟨b,e,aK,h1,h2,by omega,λj y hy=>let ⟨v,hv,ML,hr⟩:=h6 j y hy;⟨v,hv,ML,hr.to (λ_ _ h=>h) λj _=>dW j⟩⟩
  ·rw[ho i e]
   exact(hh.site i).to (λ_ _ h=>h) (.inl rfl) λ_ _ _ _ j _=>dW j
 ·rw[ht]
  exact(hh.tmp t).to (λ_ _ h=>h) λj _=>dW j
theorem Uj{cs:List T}{j i:Nat}{x y:T}(h:(cs.set j x)[i]?=some y):(i=j∧y=x)∨(i≠j∧cs[i]?=some y):=by
 rw[List.getElem?_set]at h
 split at h
 ·rename_i e
  split at h
  ·cases h;exact .inl ⟨e.symm,rfl⟩
  ·cases h
 ·rename_i e;exact .inr ⟨λq=>e q.symm,h⟩
theorem DV{α β:Type}{g:Operand}{ps:Array Tmp}{assign body:Code}{R:Exit->St->Prop}{f:FuncId}{pre post:List D}{enc:α->List D}{items:List α}{fin:Bool}{n:Nat}(N:Nat)(sl:List (Nat × T))(ss:β->List (Nat × Site))(I:Nat->β->Prop)(X:Exit->β->Prop)(x0:β)(k j:Nat)(d:D)
  (cH:w0.uk=none) (hle:Le w0 st (kZ n sl (ss x0))) (hg:((kZ n sl (ss x0)).ev g=.d (.vB (.func f) pre)∧post=[])∨((kZ n sl (ss x0)).ev g=.d (.fn (.func f) post)∧pre=[])) (he:cA P f=true) (Vi:PI P f pre post enc items fin) (hN:Nat.ble n N=true) (WI:∀y,(enc y).length=ps.size) (iK:ps.toList.all (λp=>Nat.blt p n)=true)
  (CV:∀u x,∀p∈hideL k j u (ss x),jN p.2) (jE:∀x,∃cs,siteOf (ss x) k=.cn cs∧cs[j]?=some (.d d))
  (jC:∀x,(ss x).map UR=(ss x0).map UR) (h0:I 0 x0) (qL:fin=false->∀x,¬I items.length x)
  (m8:∀u:Value,∀w1:Cx,(∀k b,w1.kU k=some b->(Nat.ble N k&&((kZ n sl (ss x0)).s (k - N)).isVar)=true)->∀i x y,I i x->items[i]?=some y->Awp P w1 assign (λe s=>e=.normal∧∀w2:Cx,(∀k b,w2.kU k=some b->(Nat.ble N k&&((kZ n sl (ss x0)).s (k - N)).isVar)=true)->
   Awp P w2 body (λe s'=>(e=.normal∧∃x',I (i+1) x'∧Le w2 s' (ja N (gV (kZ n sl (ss x0)) (siteOf (hideL k j u (ss x'))))))∨((Ak e).isSome=true∧∃x',X e x'∧Le w2 s' (ja N (gV (kZ n sl (ss x0)) (siteOf (hideL k j u (ss x'))))))) s) (zR ps.toList (enc y) (ja N (df (kZ n sl (ss x0)) (siteOf (hideL k j u (ss x)))))))
  (CX:∀x,I items.length x->R .normal (df (kZ n sl (ss x0)) (siteOf (ss x)))) (cC:∀e x,X e x->R e (df (kZ n sl (ss x0)) (siteOf (ss x)))):Awp P w0 (.rangeFunc g ps assign body) R st:=by
 have EB:∀(S:Nat->Site),(∀i,(S i).isVar=((kZ n sl (ss x0)).s i).isVar)->∀{s1:St},s1.n=n->s1.s=S->s1.t=(kZ n sl (ss x0)).t->Wk s1 (df (kZ n sl (ss x0)) S):=λS hS s1 h1 h2 h3=>by
  refine⟨h1.symm,h2.symm,λt=>?_⟩;show loopT (kZ n sl (ss x0)).s ((kZ n sl (ss x0)).t t)=_∨loopT (kZ n sl (ss x0)).s ((kZ n sl (ss x0)).t t)=.dead
  rw[h3]
  cases hx:(kZ n sl (ss x0)).t t with
  | ref k o=>
   simp only[loopT]
   cases ((kZ n sl (ss x0)).s k).isVar
   ·exact .inr rfl
   ·exact .inl rfl
  | rs k=>exact .inr rfl
  | own k r f g=>exact .inr rfl
  | _=>exact .inl rfl
 refine Awp.le hle (wP N [d] (λus x=>siteOf (hideL k j (us.headD undef) (ss x))) (λx=>siteOf (ss x)) I X x0 cH hg he Vi hN WI (λp hp=>?_) (λus x i=>Dg (CV _ x) i) (λus x i=>(CR k j _ (ss x) i).trans (pv (jC x) i)) h0 (λa w blk val h=>?_) qL (λus=>m8 (us.headD undef)) (λus x a w blk val J3 h=>?_) CX cC)
 ·have:=X0.1 iK p hp
  rw[YB]at this;exact this
 ·obtain⟨cs,ep,hj⟩:=jE x0
  have hs:=h.site k;rw[show (kZ n sl (ss x0)).s k=.cn cs from ep]at hs;obtain⟨b,e,aK,h1,h2,h3,h5⟩:=hs;obtain⟨u,hu,hu1,hr⟩:=h5 j _ hj
  let s1:St:={ n:=n,t:=(kZ n sl (ss x0)).t,s:=siteOf (hideL k j u (ss x0)) }
  have Er : Hold w0 s1 a w blk val := h.swap (st' := s1) (k := k) (cs' := cs.set j (.d (.v u))) ep rfl rfl (by
    show siteOf (hideL k j u (ss x0)) k=_
    rw[gA,Z0,ep];rfl) (λi hi=>by
    show siteOf (hideL k j u (ss x0)) i=siteOf (ss x0) i
    rw[gA];have:Nat.beq i k=false:=by rw[<-XT];exact λe=>hi (Xq e)
    rw[this];rfl) (by simp) (λaa1 h5' ⟨b',e',C1,h2'⟩ i y hy=>by
    rw[h1]at C1;cases C1
    rw[h2]at h2';cases h2'
    rcases Uj hy with ⟨rfl,rfl⟩|⟨_,hy⟩
    ·exact⟨u,hu,hu1,Rep.v u hu1⟩
    ·exact h5' i y hy)
  exact⟨[u],blk,val,⟨hr,trivial⟩,Hold.R5 Er (EB _ (λi=>(CR k j u (ss x0) i)) rfl rfl rfl)⟩
 ·obtain⟨cs,ep,hj⟩:=jE x
  match us,J3 with
  | [u],J3=>
   have hkk:siteOf (hideL k j u (ss x)) k=.cn (cs.set j (.d (.v u))):=by rw[gA,Z0,ep];rfl
   refine h.swap (k:=k) (cs:=cs.set j (.d (.v u))) (cs':=cs) hkk rfl rfl ep (λi hi=>?_) (by simp) (λaa1 h5' _ i y hy=>?_)
   ·show siteOf (ss x) i=siteOf (hideL k j u (ss x)) i
    rw[gA];have:Nat.beq i k=false:=by rw[<-XT];exact λe=>hi (Xq e)
    rw[this];rfl
   ·by_cases e:i=j
    ·subst e
     have bH:=(Xt.1 hj).1;obtain⟨v,hv,ML,hr⟩:=h5' i (.d (.v u)) (by rw[List.getElem?_set_self bH]);have:v=u:=Rep.c8 hr;subst this;rw[hj]at hy;cases hy
     exact⟨v,hv,ML,J3.1⟩
    ·exact h5' i y (by rw[List.getElem?_set_ne (λq=>e q.symm)];exact hy)
theorem nE{α β:Type}{g:Operand}{ps:Array Tmp}{assign body:Code}{R:Exit->St->Prop}{f:FuncId}{pre post:List D}{enc:α->List D}{items:List α}{fin:Bool}{n:Nat}(N:Nat)(sl:List (Nat × T))(ss:β->List (Nat × Site))(I:Nat->β->Prop)(X:Exit->β->Prop)(x0:β)
  (cH:w0.uk=none) (hle:Le w0 st (kZ n sl (ss x0))) (hg:((kZ n sl (ss x0)).ev g=.d (.vB (.func f) pre)∧post=[])∨((kZ n sl (ss x0)).ev g=.d (.fn (.func f) post)∧pre=[])) (he:cA P f=true) (Vi:PI P f pre post enc items fin) (hN:Nat.ble n N=true) (WI:∀y,(enc y).length=ps.size) (iK:ps.toList.all (λp=>Nat.blt p n)=true)
  (CV:∀x,∀p∈ss x,jN p.2)
  (jC:∀x,(ss x).map UR=(ss x0).map UR) (h0:I 0 x0) (qL:fin=false->∀x,¬I items.length x)
  (m8:∀w1:Cx,(∀k b,w1.kU k=some b->(Nat.ble N k&&((kZ n sl (ss x0)).s (k - N)).isVar)=true)->∀k x y,I k x->items[k]?=some y->Awp P w1 assign (λe s=>e=.normal∧∀w2:Cx,(∀k b,w2.kU k=some b->(Nat.ble N k&&((kZ n sl (ss x0)).s (k - N)).isVar)=true)->
   Awp P w2 body (λe s'=>(e=.normal∧∃x',I (k+1) x'∧Le w2 s' (ja N (gV (kZ n sl (ss x0)) (siteOf (ss x')))))∨((Ak e).isSome=true∧∃x',X e x'∧Le w2 s' (ja N (gV (kZ n sl (ss x0)) (siteOf (ss x')))))) s) (zR ps.toList (enc y) (ja N (df (kZ n sl (ss x0)) (siteOf (ss x))))))
  (CX:∀x,I items.length x->R .normal (df (kZ n sl (ss x0)) (siteOf (ss x)))) (cC:∀e x,X e x->R e (df (kZ n sl (ss x0)) (siteOf (ss x)))):Awp P w0 (.rangeFunc g ps assign body) R st:=by
 refine Awp.le hle (wP N [] (λ_ x=>siteOf (ss x)) (λx=>siteOf (ss x)) I X x0 cH hg he Vi hN WI (λp hp=>?_) (λ_ x i=>Dg (CV x) i) (λ_ x i=>pv (jC x) i) h0 (λa w blk val h=>⟨[],blk,val,trivial,Hold.R5 h ⟨rfl,rfl,λt=>?_⟩⟩) qL (λ_=>m8) (λ_ _ _ _ _ _ _ h=>h) CX cC)
 ·have:=X0.1 iK p hp
  rw[YB]at this;exact this
 ·show loopT (kZ n sl (ss x0)).s ((kZ n sl (ss x0)).t t)=_∨loopT (kZ n sl (ss x0)).s ((kZ n sl (ss x0)).t t)=.dead
  cases hx:(kZ n sl (ss x0)).t t with
  | ref k o=>
   simp only[loopT]
   cases ((kZ n sl (ss x0)).s k).isVar
   ·exact .inr rfl
   ·exact .inl rfl
  | rs k=>exact .inr rfl
  | own k r f g=>exact .inr rfl
  | _=>exact .inl rfl
variable{α σ:Type}{J:(Nat->Prop)->σ->World->Prop}{c:Cx}{s:σ}
theorem Cw{l:List Oper}{id:Nat}{R:Exit->St->σ->Prop}(n:Nat)(hm:P.follows .mixedOrders=true)(hJ:tM J)(h:(regB l n st.n&&decide (n≤l.length)&&tailOk l n)=true)
  (hW:∀c':Cx,(∀b,c'.mine b->c'.ok b)->RegW P c' st l n (l.take n) 0 (λ_=>.dead) st (λst'=>pT P J c l (l.drop n) R st' s)):iw P J c (.region id l.toArray true) R st s:=by
 simp only[Xs,XW]at h;obtain⟨⟨h,hn⟩,hB⟩:=h;have J4:(l.take n).length=n:=by simp;omega
 have HP:∀k,k<(l.take n).length->(l.take n)[k]?=l[0+k]?:=λk hk=>by rw[J4]at hk;simp[hk]
 intro m Y a w blk val hh hj;obtain⟨xs,_,hO,hK⟩:=qe h (l.take n) 0 _ _ (by omega) HP (hW (dO c Y a w blk) hh.FF);have hH:Holds (dO c Y a w blk) st a w:=⟨blk,val,hh.inner⟩
 have hT:∀a' w',Holds (dO c Y a w blk) (dX st l n xs (gd n)) a' w'->wpListIn Fence.wide m P l.toArray (λe a' w'=>∃st' s' Y' aI val',R e st' s'∧gG c Y' st' a' w' aI val'∧J Y' s' w') (l.drop n) a' w':=λa' w' oO=>by
  obtain⟨aI,val',hk⟩:=oO.EB (vo h (l.take n) 0 st (by omega) HP (by rw[fg (λp _=>by simp[gd])];exact⟨rfl,rfl,λ_=>.inl rfl⟩));obtain⟨Y',h1,h2⟩:=hh.after hJ hj hk;exact hK m Y' a' w' aI val' h1 h2
 refine wpIn_region_any hm ?_
 have FN:HeadInv .any l.toArray n (Array.replicate l.toArray.size false):=
  ⟨by simp,λj oj _ hl=>(by rw[getD_replicate_false]at hl;cases hl),λt _ ht=>getD_in (by simpa using ht) (getD_replicate_false _ _)⟩
 have:=Ip (F:=Fence.wide) (m:=m) (w0:=dO c Y a w blk) ⟨.inl rfl,rfl⟩ h hn hB (λk o hk ho=>hO k o (XC _) hk ho) hT n _ a { w with drawn:=w.drawn+1 } FN lI (by rw[fg (λp _=>getD_replicate_false _ _)];exact hH.drew);rw[show n+(l.length - n)=l.toArray.size by simp;omega]at this;exact this
end
section
open Go Go.RowKit
variable{P:Program}{w0:Cx}{n:Nat}{s:Nat->Site}{ev:Operand->T}{dst:Option Tmp}{ty:TypeId}{pos:String}{after:Array Edge}{g:Option (Nat × Bool)}
theorem u5{o:Oper}{a:Act}{w:World}{fv:Operand}{args:Array Operand}{at_:Array TypeId}{f:FuncId}{vs:Array Value}(ho:o.op=.call ⟨.value fv,args,at_⟩)(hf:a.eval fv=.func (.func f) vs #[])(h:cA P f=true) :
  (execOp a.eval o).run P w=.ok (.enter f (vs++args.map a.eval)) w:=by
 simp[execOp,ho,resolve,hf,Deferred.ofValue,invoke,lU h]
theorem Qh {fv : Operand} {f : FuncId} {ys : List Operand} {at_ : Array TypeId} {cap ds : List D} {r : D} (he : cA P f = true) (hf : ev fv = .d (.vB (.func f) cap)) (ha : lM ev ys ds) (hr : PC P f (cap ++ ds) r) :
  QOp P w0 n s ev ⟨dst,.call ⟨.value fv,ys.toArray,at_⟩,ty,pos,after,g⟩ (.d r):=by
 intro st a w ⟨blk,val,hh⟩ hs hn fq hd;obtain⟨aI,hy,eT,_⟩:=QOp.core hh hs fq;have kB:=iO hy ha;obtain⟨vs,hv,ez⟩:=HC (show Rep w _ (.vB (.func f) cap) (a.eval fv) by have:=hy fv;rw[hf]at this;exact this);refine gO (λc hc=>by cases hc) ?_;unfold Oper.wp;rw[u5 rfl hv he];have hc:=hr w (okOf w0 blk) (vs++ys.map a.eval) (ez.append kB);have jF:((vs++ys.map a.eval).toArray:Array Value)=vs.toArray++ys.toArray.map a.eval:=by simp
 rw[jF]at hc;refine hc.mono ?_;rintro e w' ⟨v,rfl,hE,hR⟩;refine⟨blk,val,(hh.ext' hE).put dst (.d r) v (λd h=>by rw[hn];exact hd d h) ?_⟩;refine Rep.ok hR λb _ hb=>?_
 rcases hb with hb|hb
 ·exact hb
 ·exact⟨.inr (XQ hh.ext.size hb),λk hk=>by have:=(hh.new k b hk).2;omega⟩
theorem Fb {t e m : TypeId} {y z : Operand} {cs : List D} {d : D} {i : Int} {k : IntKind} (ht : arB P t m e 1 = true) (hs : szB P e false 1 = true) (hy : ev y = .d (.agg cs)) (hz : ev z = .d (.v (.int k i))) (h0 : 0 ≤ i) (h1 : i < m) (hd : cs[i.toNat]? = some d) :
  QOp P w0 n s ev ⟨dst,.index t y z,ty,pos,after,g⟩ (.d d):=
 .mk λa w ok blk val h _ cv=>by
  obtain⟨vs,hv,hL,_⟩:=oD (show Rep w _ (.agg cs) (a.eval y) by have:=h y;rw[hy]at this;exact this);have h2:a.eval z=.int k i:=RepT.c8 (hz ▸ h z);obtain⟨v,hvi,hr⟩:=hL.at_ hd;refine⟨v,w,?_,Ext.refl w,hr⟩;obtain⟨inf,hi,eQ⟩:=lJ ht;simp[execOp,Instr.index,asIntOf,run_underlying (iq ht),hv,h2,h0,h1,sizeOf,bO hi,eQ,part,gn hs,hvi]
theorem Sy(a r:Nat)(ha:a<2)(hr:r<2 ^ 23 - 1):(Ieee.single.read (a*2 ^ 31+0x7f800000+1+r)).isNaN=true:=by
 have e1:Ieee.single.signWeight=2 ^ 31:=rfl;have e2:Ieee.single.binade=2 ^ 23:=rfl;have e3:Ieee.single.infRung=0x7f800000:=by decide
 unfold Ieee.Format.read;simp only[e1,e2,e3];have h:(a*2 ^ 31+0x7f800000+1+r) % 2 ^ 31=0x7f800000+1+r:=by omega
 rw[h,Xr (by omega),Xr (by omega),Xr (by omega)];rfl
theorem Sz(a r:Nat)(ha:a<2)(hr:r<2 ^ 52 - 1):(Ieee.double.read (a*2 ^ 63+0x7ff0000000000000+1+r)).isNaN=true:=by
 have e1:Ieee.double.signWeight=2 ^ 63:=rfl;have e2:Ieee.double.binade=2 ^ 52:=rfl;have e3:Ieee.double.infRung=0x7ff0000000000000:=by decide +kernel
 unfold Ieee.Format.read;simp only[e1,e2,e3];have h:(a*2 ^ 63+0x7ff0000000000000+1+r) % 2 ^ 63=0x7ff0000000000000+1+r:=by omega
 rw[h,Xr (by omega),Xr (by omega),Xr (by omega)];rfl
theorem Cn(k:FloatKind)(x y t:Nat):(k.decode ((Question.nanBits k x y).cut t)).isNaN=true:=by
 cases k
 ·exact Sy _ _ (Zp _ (by omega)) (Zp _ (by omega))
 ·exact Sz _ _ (Zp _ (by omega)) (Zp _ (by omega))
theorem Mc(k:FloatKind)(x t:Nat):(k.decode ((Question.nanConv k x).cut t)).isNaN=true:=by
 cases k
 ·exact Sy _ _ (Zp _ (by omega)) (Zp _ (by omega))
 ·exact Sz _ _ (Zp _ (by omega)) (Zp _ (by omega))
theorem qv{w:World}{ok:Nat->Prop}{k:FloatKind}{v:Value}(h:Rep w ok (.nan k) v):∃b,v=.float k b∧(k.decode b).isNaN=true:=by
 generalize hd:D.nan k=d at h
 cases h<;>first|(cases hd;done)|(cases hd;exact⟨_,rfl,by assumption⟩)
theorem Cm{k:FloatKind}{a b:Nat}(h:(k.decode a).isNaN=true):k.format.order a b=none:=by
 unfold Ieee.Format.order;have h:(k.format.read a).isNaN=true:=h;generalize k.format.read a=d at h
 cases d<;>first|(cases h;done)|rfl
theorem Lr {op : BinOp} {t t' : TypeId} {x y : Operand} {k : FloatKind} {a b : Nat} (cF : op = .add ∨ op = .sub ∨ op = .mul) (hx : ev x = .d (.v (.float k a))) (hy : ev y = .d (.v (.float k b))) (hr : floatBits op k a b = none) :
  QOp P w0 n s ev ⟨dst,.binOp op t x y t',ty,pos,after,g⟩ (.d (.nan k)):=
 .mk λact w ok blk val h _ cv=>by
  have e1:act.eval x=.float k a:=RepT.c8 (hx ▸ h x);have e2:act.eval y=.float k b:=RepT.c8 (hy ▸ h y);refine⟨.float k ((Question.nanBits k a b).cut (w.tape w.drawn (.nanBits k a b))),w.drew,?_,(Ext.refl w).drew,.nan k _ (Cn k a b _)⟩
  rcases cF with rfl|rfl|rfl<;>(unfold floatBits at hr;simp only at hr;simp[execOp,e1,e2,eqGuard,binOp,Op.floatArith,hr,Question.forced])
theorem Qf {op : BinOp} {t t' : TypeId} {x y : Operand} {k : FloatKind} (cF : op = .sub) (hx : ev x = .d (.nan k)) (hy : ev y = .d (.nan k)) :
  QOp P w0 n s ev ⟨dst,.binOp op t x y t',ty,pos,after,g⟩ (.d (.nan k)):=
 .mk λact w ok blk val h _ cv=>by
  obtain⟨a,e1,ha⟩:=qv (show Rep w ok (.nan k) (act.eval x) by have:=h x;rw[hx]at this;exact this);obtain⟨b,e2,hb⟩:=qv (show Rep w ok (.nan k) (act.eval y) by have:=h y;rw[hy]at this;exact this)
  have hr:k.format.sub a b=none:=by
   unfold Ieee.Format.sub;have h:(k.format.read a).isNaN=true:=ha;generalize k.format.read a=d at h
   cases d<;>first|(cases h;done)|rfl
  refine⟨.float k ((Question.nanBits k a b).cut (w.tape w.drawn (.nanBits k a b))),w.drew,?_,(Ext.refl w).drew,.nan k _ (Cn k a b _)⟩;subst cF;simp[execOp,e1,e2,eqGuard,binOp,Op.floatArith,hr,Question.forced]
theorem zO {op : BinOp} {t t' : TypeId} {x y : Operand} {k : FloatKind} {b : Nat} {c : Bool} (cF : op = .eql ∨ op = .neq ∨ op = .lss ∨ op = .leq ∨ op = .gtr ∨ op = .geq) (hx : ev x = .d (.nan k)) (hy : ev y = .d (.v (.float k b))) (hc : ordB op none = c) :
  QOp P w0 n s ev ⟨dst,.binOp op t x y t',ty,pos,after,g⟩ (T.bool c):=
 .mk λact w ok blk val h _ cv=>by
  subst hc;obtain⟨a,e1,ha⟩:=qv (show Rep w ok (.nan k) (act.eval x) by have:=h x;rw[hx]at this;exact this);have e2:act.eval y=.float k b:=RepT.c8 (hy ▸ h y);refine⟨.bool (ordB op none),w,?_,Ext.refl w,Rep.v _ rfl⟩
  rcases cF with rfl|rfl|rfl|rfl|rfl|rfl<;>simp[execOp,e1,e2,eqGuard,binOp,Op.floatCmp,ordB,Cm ha]
theorem Lq {op : BinOp} {t t' : TypeId} {x y : Operand} {k : FloatKind} {c : Bool} (cF : op = .eql ∨ op = .neq ∨ op = .lss ∨ op = .leq ∨ op = .gtr ∨ op = .geq) (hx : ev x = .d (.nan k)) (hy : ev y = .d (.nan k)) (hc : ordB op none = c) :
  QOp P w0 n s ev ⟨dst,.binOp op t x y t',ty,pos,after,g⟩ (T.bool c):=
 .mk λact w ok blk val h _ cv=>by
  subst hc;obtain⟨a,e1,ha⟩:=qv (show Rep w ok (.nan k) (act.eval x) by have:=h x;rw[hx]at this;exact this);obtain⟨b,e2,hb⟩:=qv (show Rep w ok (.nan k) (act.eval y) by have:=h y;rw[hy]at this;exact this);refine⟨.bool (ordB op none),w,?_,Ext.refl w,Rep.v _ rfl⟩
  rcases cF with rfl|rfl|rfl|rfl|rfl|rfl<;>simp[execOp,e1,e2,eqGuard,binOp,Op.floatCmp,ordB,Cm ha]
theorem I2{t t':TypeId}{y:Operand}{fk Jz:FloatKind}{b:Nat}(ht:fltB P t fk=true)(mn:fltB P t' Jz=true)(eW:fk≠Jz)(hy:ev y=.d (.v (.float fk b)))(hr:(fk.decode b).isNaN=true):QOp P w0 n s ev ⟨dst,.convert t t' y,ty,pos,after,g⟩ (.d (.nan Jz)):=
 .mk λa w ok blk val h _ cv=>by
  have h1:a.eval y=.float fk b:=RepT.c8 (hy ▸ h y);have hu:=run_underlying (w:=w) (ij ht);have hu':=run_underlying (w:=w) (ij mn);refine⟨.float Jz ((Question.nanConv Jz b).cut (w.tape w.drawn (.nanConv Jz b))),w.drew,?_,(Ext.refl w).drew,.nan Jz _ (Mc Jz b _)⟩
  obtain⟨sg,fr,hd⟩:∃sg fr,fk.decode b=.nan sg fr:=by
   generalize fk.decode b=d at hr
   cases d<;>first|(cases hr;done)|exact⟨_,_,rfl⟩
  simp[execOp,h1,convert,hu,hu',Conv.floatToFloat,eW,hd,Question.forced]
variable{H:Type}{enc:TypeId × Value->H}{w:World}{base:Nat}{spare:Nat->Bool}{held:Bool}
theorem EI{fuel:Nat}{t:TypeId}{cs:List Value}{x:DataW H × List MemPlace}{k:FloatKind}(ht:P.underlying t=some (.float k))(h:DataW.trod enc P w base spare held fuel t cs=some x):∃n,cs=[.float k n]∧x=(.lit (.float k n),[])∧(Lit.float k n).wf=true:=by
 cases fuel with
 | zero=>simp[DataW.trod]at h
 | succ n=>
  unfold DataW.trod at h;rw[ht]at h
  split at h<;>simp_all
theorem BZ{t:TypeId}{k:FloatKind}(ht:P.underlying t=some (.float k)):Reads enc P w base spare held t (λb:Nat=>[.v (.float k b)]) (λb=>(Lit.float k b).wf=true):=by
 intro fuel cs x h;obtain⟨n,rfl,_,hw⟩:=EI ht h;exact⟨n,hw,⟨.v _ rfl,trivial⟩,by simp[D.sc]⟩
abbrev ptr(b o:Nat):Value:=.pointer (some ⟨b,o,none⟩)
end
end Go.Proofs.YthcfokccjljnpaaGreat.Am
