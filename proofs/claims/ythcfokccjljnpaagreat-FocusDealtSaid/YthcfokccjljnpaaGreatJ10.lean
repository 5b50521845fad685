/- Contracts over the abstract machine, and the crowd of workers. Conditions: none. -/
import Derived.Test.YthcfokccjljnpaaGreatProg
import Derived.Conc.WgGenN3
import Derived.Conc.WgGenN2
import Derived.Test.YthcfokccjljnpaaGreatRows
import Derived.WalkKit
import Derived.ProofKit
import Derived.Leaving
import Derived.Conc.Holds
import Derived.Test.YthcfokccjljnpaaGreatJ1
import Derived.Test.YthcfokccjljnpaaGreatJ8
import Derived.Test.YthcfokccjljnpaaGreatJ5
import Derived.Test.YthcfokccjljnpaaGreatJ9
import Derived.Test.YthcfokccjljnpaaGreatJ4
import Derived.Test.YthcfokccjljnpaaGreatJ7
set_option linter.unusedVariables false
set_option linter.unusedSimpArgs false
set_option linter.unusedSectionVars false
set_option maxRecDepth 100000
namespace Go.Proofs.YthcfokccjljnpaaGreat.Par
section
open Go
abbrev wX:Go.Conc.Lib.WgLink:={ add:=32,done:=34,wait:=36,relMerge:=74,disable:=75,enable:=76,inBubble:=77,associate:=78,fatal:=79,uOr:=80,uAdd:=81,raceRead:=82,uLoad:=83,uStore:=84,disassociate:=85,semrelease:=86,acquire:=87,isAssociated:=88,uCas:=89,raceWrite:=90,semacquire:=91,orU64:=120,addU64:=121,loadU64:=122,storeU64:=123,casU64:=124,tWgP:=166,tUP:=168,tAssoc:=169,tWg:=102,tAU:=99,tU64:=97,tUint:=173,tU32:=100,tPU32:=174,tPAU:=214,tPU64:=216,tNoCopy:=94,tANoCopy:=95,tAlign64:=96 }
theorem Km:Go.Conc.Lib.WgLib Tryz.prog wX:=
 ⟨Tryz.func32,Tryz.func34,Tryz.func36,Tryz.func74,Tryz.func75,Tryz.func76,Tryz.func77,Tryz.func78,Tryz.func79,Tryz.func80,Tryz.func81,Tryz.func82,Tryz.func83,Tryz.func84,Tryz.func85,Tryz.func86,Tryz.func87,Tryz.func88,Tryz.func89,Tryz.func90,Tryz.func91,Tryz.func120,Tryz.func121,Tryz.func122,Tryz.func123,Tryz.func124,Tryz.underlying166,Tryz.runUnderlying166,Tryz.sizeOf166,Tryz.isAgg166,Tryz.zeroValue166,Tryz.underlying168,Tryz.runUnderlying168,Tryz.sizeOf168,Tryz.isAgg168,Tryz.zeroValue168,Tryz.underlying169,Tryz.runUnderlying169,Tryz.sizeOf169,Tryz.isAgg169,Tryz.zeroValue169,Tryz.underlying102,Tryz.runUnderlying102,Tryz.sizeOf102,Tryz.isAgg102,Tryz.zeroValue102,Tryz.underlying99,Tryz.runUnderlying99,Tryz.sizeOf99,Tryz.isAgg99,Tryz.zeroValue99,Tryz.underlying97,Tryz.runUnderlying97,Tryz.sizeOf97,Tryz.isAgg97,Tryz.zeroValue97,Tryz.underlying173,Tryz.runUnderlying173,Tryz.sizeOf173,Tryz.isAgg173,Tryz.zeroValue173,Tryz.underlying100,Tryz.runUnderlying100,Tryz.sizeOf100,Tryz.isAgg100,Tryz.zeroValue100,Tryz.underlying174,Tryz.runUnderlying174,Tryz.sizeOf174,Tryz.isAgg174,Tryz.zeroValue174,Tryz.underlying214,Tryz.runUnderlying214,Tryz.sizeOf214,Tryz.isAgg214,Tryz.zeroValue214,Tryz.underlying216,Tryz.runUnderlying216,Tryz.sizeOf216,Tryz.isAgg216,Tryz.zeroValue216,Tryz.underlying0,Tryz.runUnderlying0,Tryz.sizeOf0,Tryz.isAgg0,Tryz.zeroValue0,Tryz.underlying3,Tryz.runUnderlying3,Tryz.sizeOf3,Tryz.isAgg3,Tryz.zeroValue3,Tryz.underlying4,Tryz.runUnderlying4,Tryz.sizeOf4,Tryz.isAgg4,Tryz.zeroValue4,Tryz.underlying9,Tryz.runUnderlying9,Tryz.sizeOf9,Tryz.isAgg9,Tryz.zeroValue9,Tryz.underlying20,Tryz.runUnderlying20,Tryz.sizeOf20,Tryz.isAgg20,Tryz.zeroValue20,Tryz.underlying21,Tryz.runUnderlying21,Tryz.sizeOf21,Tryz.isAgg21,Tryz.zeroValue21,(by kernel_rfl),(by kernel_rfl)⟩
open Go.Conc
theorem yR{P:Program}{main:Bool}{R R':World->World->Prop}{D D':World->World->Array Event->Prop}{Stop:Goroutine->World->Prop}(hR:∀w cL,R' w cL->R w cL)(hD:∀w w' es,D w w' es->D' w w' es) :
  ∀{n:Nat} {g:Goroutine} {w:World},Goes P main R D Stop n g w->Goes P main R' D' Stop n g w
 | 0,_,_,hg=>λcL r=>hg cL (hR _ _ r)
 | n+1,g,w,hg=>by
  rcases hg with hs|⟨hr,dU⟩
  ·exact .inl λcL r=>hs cL (hR _ _ r)
  ·refine .inr ⟨hr,λcL r=>?_⟩
   have:=dU cL (hR _ _ r);revert this
   cases stepG P main g cL<;>first|exact λh=>h|exact λh=>⟨hD _ _ _ h.1,yR hR hD h.2⟩
theorem Rf{P:Program}{main:Bool}{R:World->World->Prop}{D:World->World->Array Event->Prop}{Stop:Goroutine->World->Prop}{n n':Nat}{g:Goroutine}{w:World}(hn:n≤n')(h:Goes P main R D Stop n g w):Goes P main R D Stop n' g w:=by
 induction hn with
 | refl=>exact h
 | step _ ih=>exact Goes.more ih
structure c7{ι:Type}(P:Program)(main:Bool)(R:World->World->Prop)(D:World->World->Array Event->Prop)(F:World->Prop)(Stop:Goroutine->World->Prop)(g:ι->Goroutine):Prop where
 go:∃m,∀x w,F w->Goes P main R D Stop m (g x) w
variable{ι:Type}{P:Program}{main:Bool}{R:World->World->Prop}{D:World->World->Array Event->Prop}{F F':World->Prop}{Stop:Goroutine->World->Prop}{g g':ι->Goroutine}
theorem c7.at(h:c7 P main R D F Stop g)(x:ι):GX P main R D F Stop (g x):=let ⟨m,h⟩:=h.go;⟨⟨m,h x⟩⟩
theorem GX.VB{g:Goroutine}(h:GX P main R D F Stop g):c7 P main R D F Stop (λ_:ι=>g):=let ⟨m,h⟩:=h.go;⟨⟨m,λ_=>h⟩⟩
theorem c7.stop(W:Wk R D F)(h:∀x w,F w->Stop (g x) w):c7 P main R D F Stop g:=⟨⟨0,λx w hw cL r=>h x cL (W.rel _ _ hw r)⟩⟩
theorem c7.to(W:Wk R D F)(hs:∀x,(g x).status=.running)(h:∀x w,F w->∃w' es,stepG P main (g x) w=.go (g' x) w' es∧D w w' es∧F' w')(hk:c7 P main R D F' Stop g'):c7 P main R D F Stop g:=by
 obtain⟨m,hk⟩:=hk.go;refine⟨⟨m+1,λx w hw=>Goes.step (hs x) λcL r=>?_⟩⟩;obtain⟨w',es,h1,h2,h3⟩:=h x cL (W.rel _ _ hw r);rw[h1];exact⟨h2,hk x w' h3⟩
variable{b:Frame}{a:Act}{k:List Item}{cs:List Frame}{ops:Array Oper}{i:Nat}{o:Oper}{rest:ι->List Nat}
theorem c7.mem(W:Wk R D F){v:Value}{es:Array Event}(ho:ops[i]?=some o)(hw:Region.wanted o (yielded ops a.tmps)=true)(hk:b.kind≠.early)(hr:∀w,F w->(execOp a.eval o).run P w=.ok (.value v) w)(he:∀w,F w->(execOp a.eval o).events P w #[]=es)
  (hq:seen P b.fn es=es) (hD:∀w,F w->D w w es) (h:c7 P main R D F Stop λx=>G (b.at (a.put o.dst v) (.inRegion ops (rest x)::k)) cs):c7 P main R D F Stop λx=>G (b.at a (.inRegion ops (i::rest x)::k)) cs:=
 .to W (λ_=>rfl) (λx w hF=>⟨w,es,by rw[stepG_value ho hw hk (hr w hF)];unfold listed;rw[he w hF,hq],hD w hF,hF⟩) h
theorem c7.value(W:Wk R D F){v:Value}(ho:ops[i]?=some o)(hw:Region.wanted o (yielded ops a.tmps)=true)(hk:b.kind≠.early)(hr:∀w,F w->(execOp a.eval o).run P w=.ok (.value v) w)(he:∀w,F w->(execOp a.eval o).events P w #[]=#[])
  (h:c7 P main R D F Stop λx=>G (b.at (a.put o.dst v) (.inRegion ops (rest x)::k)) cs):c7 P main R D F Stop λx=>G (b.at a (.inRegion ops (i::rest x)::k)) cs:=
 .to W (λ_=>rfl) (λx w hF=>⟨w,#[],by rw[stepG_value ho hw hk (hr w hF)];unfold listed;rw[he w hF,Conc.seen_none],W.dz w,hF⟩) h
theorem c7.put(W:Wk R D F){ad:Addr}{v:Value}(ho:ops[i]?=some o)(hw:Region.wanted o (yielded ops a.tmps)=true)(hk:b.kind≠.early)(hr:∀w,F w->(execOp a.eval o).run P w=.ok .skip (w.setCell ad v))(he:∀w,F w->(execOp a.eval o).events P w #[]=#[⟨.cell ad,true,false⟩])
  (hq:(P.funcs[b.fn]?).any (·.norace)=false) (hD:∀w,F w->D w (w.setCell ad v) #[⟨.cell ad,true,false⟩]) (Vx:∀w,F w->F' (w.setCell ad v)) (h:c7 P main R D F' Stop λx=>G (b.at (a.put o.dst undef) (.inRegion ops (rest x)::k)) cs):c7 P main R D F Stop λx=>G (b.at a (.inRegion ops (i::rest x)::k)) cs:=
 .to W (λ_=>rfl) (λx w hF=>⟨_,_,by rw[stepG_none ho hw hk (hr w hF)];unfold listed;rw[he w hF,seen_eq hq (by simp)],hD w hF,Vx w hF⟩) h
def P9(ops:Array Oper)(l:Array Bool):List Nat:=(List.range ops.size).filter λi=>!l.getD i true&&((ops[i]?).map (·.after.all λe=>!Region.binds .any e||l.getD e.on false)).getD false
def lin(ops:Array Oper):Nat->Nat->Array Bool->List Nat
 | 0,_,_=>[]
 | n+1,t,l=>match (P9 ops l)[t % (P9 ops l).length]? with
  | some i=>i::lin ops n (t / (P9 ops l).length) (l.setIfInBounds i true)
  | none=>[]
theorem Ms(ops:Array Oper):∀(n t:Nat) (l:Array Bool) (acc:List Nat),Region.linearise.go .any ops n t l acc=acc.reverse++lin ops n t l
 | 0,t,l,acc=>by simp[Region.linearise.go,lin]
 | n+1,t,l,acc=>by
  have ih:=Ms ops n;unfold Region.linearise.go lin;show (match (P9 ops l)[t % (P9 ops l).length]? with|some i=>Region.linearise.go .any ops n (t / (P9 ops l).length) (l.setIfInBounds i true) (i::acc)|none=>acc.reverse)=_
  cases (P9 ops l)[t % (P9 ops l).length]? with
  | none=>simp
  | some i=>simp[ih]
theorem QG(ops:Array Oper)(t:Nat):Region.schedule true ops t=lin ops ops.size t (Array.replicate ops.size false):=by
 unfold Region.schedule Region.linearise;simp[Ms]
theorem zb{Q:Nat->Nat->Prop}(hm:∀i m m',m≤m'->Q i m->Q i m'):∀{rs:List Nat},(∀i∈rs,∃m,Q i m)->∃m,∀i∈rs,Q i m
 | [],_=>⟨0,λi h=>by cases h⟩
 | r::rs,h=>by
  obtain⟨m1,h1⟩:=h r (XX ..);obtain⟨m2,h2⟩:=zb hm (rs:=rs) λi hi=>h i (Yc _ hi);refine⟨max m1 m2,λi hi=>?_⟩
  rcases Xy.1 hi with rfl|hi
  ·exact hm _ _ _ (Nat.le_max_left ..) h1
  ·exact hm _ _ _ (Za ..) (h2 i hi)
theorem c7.pick {n : Nat} {l : Array Bool} {rs : List Nat} (hr : P9 ops l = rs) (eW : 0 < rs.length) (h : ∀ i ∈ rs, c7 P main R D F Stop λt : Nat => G (b.at a (.inRegion ops (i :: lin ops n t (l.setIfInBounds i true)) :: k)) cs) :
  c7 P main R D F Stop λt:Nat=>G (b.at a (.inRegion ops (lin ops (n+1) t l)::k)) cs:=by
 obtain⟨m,hm⟩:=zb (Q:=λi m=>∀(t:Nat) w,F w->Goes P main R D Stop m (G (b.at a (.inRegion ops (i::lin ops n t (l.setIfInBounds i true))::k)) cs) w) (λi m m' hle hq t w hw=>Rf hle (hq t w hw)) (rs:=rs) λi hi=>(h i hi).go;refine⟨⟨m,λt w hw=>?_⟩⟩;have bH:t % rs.length<rs.length:=Zp _ eW;have:=hm rs[t % rs.length] (ZU bH) (t / rs.length) w hw;unfold lin;rw[hr,Xp bH];exact this
theorem GX.drawn (W : Wk R D F) {id : Nat} (hmx : P.follows .mixedOrders = true) (hd : ∀ w d, F w -> D w { w with drawn := d } #[] ∧ F { w with drawn := d }) (h : c7 P main R D F Stop λt : Nat => G (b.at a (.inRegion ops (lin ops ops.size t (Array.replicate ops.size false)) :: k)) cs) :
  GX P main R D F Stop (G (b.at a (.code (.region id ops true)::k)) cs):=by
 obtain⟨m,h⟩:=h.go;refine⟨⟨m+1,λw hw=>Goes.step rfl λcL r=>?_⟩⟩;have yI:=W.rel _ _ hw r
 have:∃t d,stepG P main (G (b.at a (.code (.region id ops true)::k)) cs) cL=.go (G (b.at a (.inRegion ops (Region.schedule (P.follows .mixedOrders) ops t)::k)) cs) { cL with drawn:=d } #[]:=by
  have hc:∃t d,(choose (.order b.fn id)).run P cL=.ok t { cL with drawn:=d }:=by
   simp only[choose,Sem.run]
   split
   ·exact⟨_,cL.drawn,rfl⟩
   ·exact⟨_,_,rfl⟩
  obtain⟨t,d,hc⟩:=hc;refine⟨t,d,?_⟩;simp only[G,stepG,stepG.exec,Frame.at,Y1,XO,YC,hc]
 obtain⟨t,d,e⟩:=this;rw[e,hmx,QG];exact⟨(hd cL d yI).1,h t _ (hd cL d yI).2⟩
structure eO(ops:Array Oper)(i:Nat)(op:Op)(d:Option Tmp):Prop where
 get:∃o,ops[i]?=some o∧o.op=op∧o.dst=d∧o.guard=none
variable{op:Op}{d:Option Tmp}{s:Sem Next}
theorem fF{o:Oper}(h:o.guard=none)(y:Nat->Option Bool):Region.wanted o y=true:=by unfold Region.wanted;rw[h]
theorem c7.fa(W:Wk R D F)(hO:eO ops i op d)(hx:∀o:Oper,o.op=op->execOp a.eval o=s){v:Value}{es:Array Event}(hk:b.kind≠.early)(hr:∀w,F w->s.run P w=.ok (.value v) w)(he:∀w,F w->s.events P w #[]=es)
  (hq:seen P b.fn es=es) (hD:∀w,F w->D w w es) (h:c7 P main R D F Stop λx=>G (b.at (a.put d v) (.inRegion ops (rest x)::k)) cs):c7 P main R D F Stop λx=>G (b.at a (.inRegion ops (i::rest x)::k)) cs:=by
 obtain⟨o,h1,h2,h3,h4⟩:=hO.get;have e:=hx o h2;exact c7.mem W h1 (fF h4 _) hk (by rw[e];exact hr) (by rw[e];exact he) hq hD (by rw[h3];exact h)
theorem c7.lO(W:Wk R D F)(hO:eO ops i op d)(hx:∀o:Oper,o.op=op->execOp a.eval o=s){v:Value}(hk:b.kind≠.early)(hr:∀w,F w->s.run P w=.ok (.value v) w)(he:∀w,F w->s.events P w #[]=#[])
  (h:c7 P main R D F Stop λx=>G (b.at (a.put d v) (.inRegion ops (rest x)::k)) cs):c7 P main R D F Stop λx=>G (b.at a (.inRegion ops (i::rest x)::k)) cs:=by
 obtain⟨o,h1,h2,h3,h4⟩:=hO.get;have e:=hx o h2;exact c7.value W h1 (fF h4 _) hk (by rw[e];exact hr) (by rw[e];exact he) (by rw[h3];exact h)
theorem c7.Ly(W:Wk R D F)(hO:eO ops i op d)(hx:∀o:Oper,o.op=op->execOp a.eval o=s){ad:Addr}{v:Value}(hk:b.kind≠.early)(hr:∀w,F w->s.run P w=.ok .skip (w.setCell ad v))(he:∀w,F w->s.events P w #[]=#[⟨.cell ad,true,false⟩])
  (hq:(P.funcs[b.fn]?).any (·.norace)=false) (hD:∀w,F w->D w (w.setCell ad v) #[⟨.cell ad,true,false⟩]) (Vx:∀w,F w->F' (w.setCell ad v)) (h:c7 P main R D F' Stop λx=>G (b.at (a.put d undef) (.inRegion ops (rest x)::k)) cs):c7 P main R D F Stop λx=>G (b.at a (.inRegion ops (i::rest x)::k)) cs:=by
 obtain⟨o,h1,h2,h3,h4⟩:=hO.get;have e:=hx o h2;exact c7.put W h1 (fF h4 _) hk (by rw[e];exact hr) (by rw[e];exact he) hq hD Vx (by rw[h3];exact h)
open Go.ConcN Go.RowKit Go.Conc.Lib Go.ConcR.Gen Go.ConcN.Gen
open Go.ConcR (KK wgBlock WgAt stA smA rd wr mk Payload DC0)
theorem ax1:Tryz.prog.follows .mixedOrders=true:=by kernel_rfl
noncomputable def DT:Code:=Tryz.f33.body.getD .skip
noncomputable def dr:Array Oper:=match DT with|.seq _ (.region _ ops _)=>ops|_=>#[]
noncomputable def fV:Frame:={ (default:Frame) with fn:=Tryz.prog.funcs.size,defers:=[],mode:=.panicking [goexitEntry] }
structure FZ[Payload](c:Kx)(Z:Nat->Prop)(W1 w:World):Prop where
 z:∀b,Z b->w.heap[b]?=W1.heap[b]?
 live:WgLive c.ty c.Wg w
 pay:PayAt c.C c.n w
variable[Payload]{c:Kx}{Z:Nat->Prop}{W1:World}
theorem cD:Wk (RZ c Z i) (DZ c Z i) (FZ c Z W1):=
 ⟨λw w' h r=>⟨λb hb=>(r.z b hb).trans (h.z b hb),r.live h.live,r.pay h.pay⟩,λw=>⟨⟨rfl,rfl,rfl,rfl,λ_ _=>rfl,id,λ_ _=>rfl⟩,by simp⟩⟩
theorem Ns(w:World)(d:Nat)(h:FZ c Z W1 w):DZ c Z i w { w with drawn:=d } #[]∧FZ c Z W1 { w with drawn:=d }:=
 ⟨⟨⟨rfl,rfl,rfl,rfl,λ_ _=>rfl,id,λ_ _=>rfl⟩,by simp⟩,⟨h.z,h.live,h.pay⟩⟩
theorem aL{a:Addr}{v:Value}{w:World}(h:FZ c Z W1 w)(hz:Z a.block)(hc:W1.cell? a=some v):w.cell? a=some v:=by
 unfold World.cell? at hc ⊢;rw[h.z _ hz];exact hc
theorem bU{a:Addr}(hz:Z a.block)(w:World):DZ c Z i w w #[⟨.cell a,false,false⟩]:=
 ⟨⟨rfl,rfl,rfl,rfl,λ_ _=>rfl,id,λ_ _=>rfl⟩,λe he=>by rw[Yz]at he;subst he;exact .inr ⟨a,false,rfl,.inr ⟨hz,rfl⟩⟩⟩
theorem NW{w:World}(hp:PayAt c.C c.n w)(v:Value):DZ c Z i w (w.setCell ⟨c.C,i,none⟩ v) #[⟨.cell ⟨c.C,i,none⟩,true,false⟩]:=by
 refine⟨?_,λe he=>by rw[Yz]at he;subst he;exact .inr ⟨_,true,rfl,.inl rfl⟩⟩;have hA:=aside_setCell w ⟨c.C,i,none⟩ v;obtain⟨arr,h1,h2⟩:=hp
 have hb:(w.setCell ⟨c.C,i,none⟩ v).heap[c.C]?=some (.cells (arr.setIfInBounds i v) Payload.ety):=by
  rw[setCell_eq_setRow w c.C i arr _ (0,0) _ h1,setRow_heap w c.C _ _ _ _ h1]
 refine⟨hA.tape,hA.os,hA.output,hA.size,λb bY=>hA.block b bY,λ_=>⟨_,hb,by simpa using h2⟩,λi' jm=>?_⟩;simp[World.cell?,hb,h1,XE (Ne.symm jm)]
theorem Jw{w:World}(hp:PayAt c.C c.n w)(hi:i<c.n)(v:Value):Has c.C i v (w.setCell ⟨c.C,i,none⟩ v):=by
 obtain⟨arr,h1,h2⟩:=hp
 have hb:(w.setCell ⟨c.C,i,none⟩ v).heap[c.C]?=some (.cells (arr.setIfInBounds i v) Payload.ety):=by
  rw[setCell_eq_setRow w c.C i arr _ (0,0) _ h1,setRow_heap w c.C _ _ _ _ h1]
 simp[Has,World.cell?,hb,h2,hi]
theorem Cb{w:World}(hp:PayAt c.C c.n w)(hi:i<c.n):∃u,w.cell? ⟨c.C,i,none⟩=some u∧w.frozen? ⟨c.C,i,none⟩=false:=by
 obtain⟨arr,h1,h2⟩:=hp;exact⟨arr[i]'(by omega),by simp[World.cell?,h1,h2,hi],by simp[World.frozen?,h1]⟩
end
section
open Go Go.Conc Go.ConcN Go.RowKit Go.Conc.Lib Go.ConcR.Gen Go.ConcN.Gen
open Go.ConcR (KK wgBlock WgAt stA smA rd wr mk Payload DC0)
structure Ee(c:Kx)(bx bs b1 b2 i:Nat)(xv fv:Value)(W1:World):Prop where
 sh:W1.cell? ⟨bs,0,none⟩=some (.slice (some ⟨c.C,0,none⟩) c.n c.n)
 ib:W1.cell? ⟨b1,0,none⟩=some (.int .i64 i)
 xb:W1.cell? ⟨bx,0,none⟩=some xv
 fb:W1.cell? ⟨b2,0,none⟩=some fv
noncomputable def Ob(c:Kx)(bx bs b1 b2:Nat):Deferred:={ target:=.fn (.func 33) #[.pointer (some ⟨c.Wg,0,none⟩),.pointer (some ⟨bx,0,none⟩),.pointer (some ⟨b2,0,none⟩),.pointer (some ⟨bs,0,none⟩),.pointer (some ⟨b1,0,none⟩)],args:=#[] }
noncomputable def iu(T:Array Value)(c:Kx):Act:=⟨T,[dcall 34 #[.pointer (some ⟨c.Wg,0,none⟩)]]⟩
theorem V7(c:Kx)(bx bs b1 b2:Nat)(w:World):stepG Tryz.prog false (born Tryz.prog (Ob c bx bs b1 b2)) w=.go (G ((baseD 33).at ⟨#[.pointer (some ⟨c.Wg,0,none⟩),.pointer (some ⟨bx,0,none⟩),.pointer (some ⟨b2,0,none⟩),.pointer (some ⟨bs,0,none⟩),.pointer (some ⟨b1,0,none⟩),undef,undef,undef,undef,undef,undef],[]⟩ [.code DT]) [fV]) w #[]:=by
 simp[born,Ob,stepG,unwind,callDeferred,invoke,callFunc,Tryz.func33,Tryz.f33,seen,GStep.after,G,Frame.enter,Frame.at,baseD,fV,DT]
theorem Ut(T:Array Value):QuitsD Tryz.prog 2 0 (G { (baseD 33).at ⟨T,[]⟩ [] with mode:=.returning } [fV]):=by
 refine QuitsD.ctl (g':=G fV []) rfl (λw=>?_) ?_
 ·simp[G,stepG,unwind,doReturn,results,Frame.at,baseD,fV,Tryz.func33,Tryz.f33,seen,GStep.after,goexitEntry]
 refine QuitsD.ctl (g':={ G fV [] with status:=.finished }) rfl (λw=>?_) ⟨rfl,rfl⟩;simp[G,stepG,unwind,fV,goexitEntry,Frame.catches];rfl
theorem my{a:Act}{t:TypeId}{x:Operand}{v:Value}(hx:a.eval x=v)(o:Oper)(h:o.op=.load t x):execOp a.eval o=(do Pure.pure (.value (<-Instr.loadAt t v))):=by unfold execOp;rw[h,<-hx]
theorem xix{a:Act}{t:TypeId}{x y:Operand}{v u:Value}(hx:a.eval x=v)(hy:a.eval y=u)(o:Oper)(h:o.op=.indexAddr t x y):execOp a.eval o=(do Pure.pure (.value (<-Instr.indexAt t v u))):=by unfold execOp;rw[h,<-hx,<-hy]
theorem xst{a:Act}{t:TypeId}{x y:Operand}{v u:Value}(hx:a.eval x=v)(hy:a.eval y=u)(o:Oper)(h:o.op=.store t x y):execOp a.eval o=(do Instr.storeAt t v u;Pure.pure .skip):=by unfold execOp;rw[h,<-hx,<-hy]
theorem O3:eO dr 0 (.load 92 (.tmp 3)) (some 5):=⟨⟨_,rfl,rfl,rfl,rfl⟩⟩
theorem O2:eO dr 1 (.load 3 (.tmp 4)) (some 6):=⟨⟨_,rfl,rfl,rfl,rfl⟩⟩
theorem Sw:eO dr 2 (.load 84 (.tmp 1)) (some 7):=⟨⟨_,rfl,rfl,rfl,rfl⟩⟩
theorem Sv:eO dr 3 (.load 64 (.tmp 2)) (some 8):=⟨⟨_,rfl,rfl,rfl,rfl⟩⟩
theorem oc5:eO dr 5 (.indexAddr 92 (.tmp 5) (.tmp 6)) (some 10):=⟨⟨_,rfl,rfl,rfl,rfl⟩⟩
theorem oc6:eO dr 6 (.store 104 (.tmp 10) (.tmp 9)) none:=⟨⟨_,rfl,rfl,rfl,rfl⟩⟩
variable{c:Kx}{w:World}{ad:Addr}{v:Value}
theorem yA(hP:c.P=Tryz.prog)(hc:w.cell? ad=some v):(do Pure.pure (.value (<-Instr.loadAt 92 (.pointer (some ad)))):Sem Next).run c.P w=.ok (.value v) w∧(do Pure.pure (.value (<-Instr.loadAt 92 (.pointer (some ad)))):Sem Next).events c.P w #[]=#[⟨.cell ad,false,false⟩]:=by
 rw[hP];constructor
 ·go_simp
 ·simp[go_sem,hc]
theorem yz(hP:c.P=Tryz.prog)(hc:w.cell? ad=some v):(do Pure.pure (.value (<-Instr.loadAt 3 (.pointer (some ad)))):Sem Next).run c.P w=.ok (.value v) w∧(do Pure.pure (.value (<-Instr.loadAt 3 (.pointer (some ad)))):Sem Next).events c.P w #[]=#[⟨.cell ad,false,false⟩]:=by
 rw[hP];constructor
 ·go_simp
 ·simp[go_sem,hc]
theorem Em(hP:c.P=Tryz.prog)(hc:w.cell? ad=some v):(do Pure.pure (.value (<-Instr.loadAt 84 (.pointer (some ad)))):Sem Next).run c.P w=.ok (.value v) w∧(do Pure.pure (.value (<-Instr.loadAt 84 (.pointer (some ad)))):Sem Next).events c.P w #[]=#[⟨.cell ad,false,false⟩]:=by
 rw[hP];constructor
 ·go_simp
 ·simp[go_sem,hc]
theorem Bf(hP:c.P=Tryz.prog)(hc:w.cell? ad=some v):(do Pure.pure (.value (<-Instr.loadAt 64 (.pointer (some ad)))):Sem Next).run c.P w=.ok (.value v) w∧(do Pure.pure (.value (<-Instr.loadAt 64 (.pointer (some ad)))):Sem Next).events c.P w #[]=#[⟨.cell ad,false,false⟩]:=by
 rw[hP];constructor
 ·go_simp
 ·simp[go_sem,hc]
theorem ixC{i:Nat}(hP:c.P=Tryz.prog)(hi:i<c.n)(w:World):(do Pure.pure (.value (<-Instr.indexAt 92 (.slice (some ⟨c.C,0,none⟩) c.n c.n) (.int .i64 i))):Sem Next).run c.P w=.ok (.value (.pointer (some ⟨c.C,i,none⟩))) w∧(do Pure.pure (.value (<-Instr.indexAt 92 (.slice (some ⟨c.C,0,none⟩) c.n c.n) (.int .i64 i))):Sem Next).events c.P w #[]=#[]:=by
 have bH:(i:Int)<(c.n:Int):=by omega
 have HS:(0:Int)≤(i:Int):=by omega
 rw[hP];constructor
 ·go_simp
 ·simp[go_sem,bH,HS]
theorem stC(hP:c.P=Tryz.prog)(hc:∃u,w.cell? ad=some u∧w.frozen? ad=false)(hv:∃A l k,v=.slice A l k):(do Instr.storeAt 104 (.pointer (some ad)) v;Pure.pure .skip:Sem Next).run c.P w=.ok .skip (w.setCell ad v)∧(do Instr.storeAt 104 (.pointer (some ad)) v;Pure.pure .skip:Sem Next).events c.P w #[]=#[⟨.cell ad,true,false⟩]:=by
 obtain⟨u,h1,h2⟩:=hc;rw[hP];obtain⟨A,l,k,rfl⟩:=hv;constructor
 ·simp[go_sem,stored,h1,h2]
 ·simp[go_sem,stored,storedEv,h1,h2]
  rw[events_store Tryz.prog w #[] ad (.slice A l k) .plain rfl,h1];simp[h2]
theorem dw:(Tryz.prog.funcs[(baseD 33).fn]?).any (·.norace)=false:=by kernel_rfl
variable[Payload]{Z:Nat->Prop}{bx bs b1 b2 i:Nat}{xv fv:Value}{W1:World}
theorem Wj(W1:World)(hP:c.P=Tryz.prog)(jf:c.ty=wX.tWg)(hZ:∀b,c.old b->Z b)(T:Array Value)(v:Value):GX c.P false (RZ c Z i) (DZ c Z i) (λw=>WgLive c.ty c.Wg w∧Has c.C i v w) (AtR c i v) (G ((baseD 33).at (iu T c) [.inRegion dr []]) [fV]):=by
 have W:Wk (RZ c Z i) (DZ c Z i) (λw=>WgLive c.ty c.Wg w∧Has c.C i v w):=⟨λw w' h r=>⟨r.live h.1,(r.cell).trans h.2⟩,(cD (W1:=W1)).dz⟩
 refine GX.fin W ?_;refine GX.end_ W ?_;refine GX.step W rfl (λw _=>?_) (g':=G ((baseD 34).at ⟨#[.pointer (some ⟨c.Wg,0,none⟩),undef,undef,undef],[]⟩ [.code (body_done wX)]) ({ (baseD 33).at ⟨T,[]⟩ [] with mode:=.returning }::[fV])) ?_
 ·rw[hP]
  have:=stepG_unwind_enter (P:=Tryz.prog) (main:=false) (b:=baseD 33) (a:=iu T c) (todo:=[]) (cs:=[fV]) (w:=w) (ds:=[]) (f:=34) (args:=#[.pointer (some ⟨c.Wg,0,none⟩)]) rfl Km.f_done (nm_done wX) rfl;exact this
 ·refine⟨⟨23,λw hw=>?_⟩⟩
  have hD:=doneN (P:=Tryz.prog) Km (Own:=λ_ _=>False) (Rd:=λ_ _=>False) (Wg:=c.Wg) (C:=c.C) (n:=c.n) (Low:=c.L0) (k:=i+1) (val:=v) (c:={ (baseD 33).at ⟨T,[]⟩ [] with mode:=.returning }) (cs:=[fV]) rfl (Ut T) w ⟨by rw[<-jf];exact hw.1,hw.2⟩;rw[<-hP,<-jf]at hD;exact yR (λw cL r=>r.rw hZ) (λw w' es h=>⟨h.1,λe he=>.inl (h.2 e he)⟩) hD
variable(hP:c.P=Tryz.prog)(jf:c.ty=wX.tWg)(hZ:∀b,c.old b->Z b)(hi:i<c.n)(h:Ee c bx bs b1 b2 i xv fv W1)(eE:Z bs)(eA:Z b1)(eM:Z bx)(fK:Z b2)(jS:c.Wg≠c.C)
include hP jf hZ hi h eE eA eM fK jS
theorem Lv(v:Value)(hv:∃A l k,v=.slice A l k):c7 c.P false (RZ c Z i) (DZ c Z i) (FZ c Z W1) (AtR c i v) λt:Nat=>G ((baseD 33).at (iu #[.pointer (some ⟨c.Wg,0,none⟩),.pointer (some ⟨bx,0,none⟩),.pointer (some ⟨b2,0,none⟩),.pointer (some ⟨bs,0,none⟩),.pointer (some ⟨b1,0,none⟩),.slice (some ⟨c.C,0,none⟩) c.n c.n,.int .i64 i,xv,fv,v,undef] c) [.inRegion dr (lin dr 2 t #[true,true,true,true,true,false,false])]) [fV]:=by
 refine c7.pick (rs:=[5]) (by kernel_rfl) (by decide) λj hj=>?_;rw[YS]at hj;subst hj;refine c7.lO cD oc5 (xix rfl rfl) (v:=.pointer (some ⟨c.C,i,none⟩)) (by decide) (λw hF=>(ixC hP hi w).1) (λw hF=>(ixC hP hi w).2) ?_;refine c7.pick (n:=0) (l:=#[true,true,true,true,true,true,false]) (rs:=[6]) (by kernel_rfl) (by decide) λj hj=>?_;rw[YS]at hj;subst hj;refine c7.Ly cD oc6 (xst rfl rfl) (ad:=⟨c.C,i,none⟩) (v:=v) (F':=λw=>WgLive c.ty c.Wg w∧Has c.C i v w) (by decide) (λw hF=>(stC hP (Cb hF.pay hi) hv).1) (λw hF=>(stC hP (Cb hF.pay hi) hv).2) (by rw[hP];exact dw) (λw hF=>NW hF.pay v) (λw hF=>⟨?_,Jw hF.pay hi v⟩) ?_
 ·obtain⟨st,sm,hl⟩:=hF.live
  exact⟨st,sm,hl.of_block ((aside_setCell w ⟨c.C,i,none⟩ v).block c.Wg jS)⟩
 ·exact(Wj W1 hP jf hZ _ v).VB
theorem ad7(v:Value)(hv:∃A l k,v=.slice A l k):c7 c.P false (RZ c Z i) (DZ c Z i) (FZ c Z W1) (AtR c i v) λt:Nat=>G ((baseD 33).at (iu #[.pointer (some ⟨c.Wg,0,none⟩),.pointer (some ⟨bx,0,none⟩),.pointer (some ⟨b2,0,none⟩),.pointer (some ⟨bs,0,none⟩),.pointer (some ⟨b1,0,none⟩),.slice (some ⟨c.C,0,none⟩) c.n c.n,undef,xv,fv,v,undef] c) [.inRegion dr (lin dr 3 t #[true,false,true,true,true,false,false])]) [fV]:=by
 refine c7.pick (rs:=[1]) (by kernel_rfl) (by decide) λj hj=>?_;simp only[Xy,XG,Yn]at hj;subst hj;refine c7.fa cD O2 (my rfl) (v:=.int .i64 i) (by decide) (λw hF=>(yz hP (aL hF eA h.ib)).1) (λw hF=>(yz hP (aL hF eA h.ib)).2) (seen_eq (by rw[hP];exact dw) (by simp)) (λw hF=>bU eA w) ?_;exact Lv hP jf hZ hi h eE eA eM fK jS v hv
theorem ad6(v:Value)(hv:∃A l k,v=.slice A l k):c7 c.P false (RZ c Z i) (DZ c Z i) (FZ c Z W1) (AtR c i v) λt:Nat=>G ((baseD 33).at (iu #[.pointer (some ⟨c.Wg,0,none⟩),.pointer (some ⟨bx,0,none⟩),.pointer (some ⟨b2,0,none⟩),.pointer (some ⟨bs,0,none⟩),.pointer (some ⟨b1,0,none⟩),undef,.int .i64 i,xv,fv,v,undef] c) [.inRegion dr (lin dr 3 t #[false,true,true,true,true,false,false])]) [fV]:=by
 refine c7.pick (rs:=[0]) (by kernel_rfl) (by decide) λj hj=>?_;simp only[Xy,XG,Yn]at hj;subst hj;refine c7.fa cD O3 (my rfl) (v:=.slice (some ⟨c.C,0,none⟩) c.n c.n) (by decide) (λw hF=>(yA hP (aL hF eE h.sh)).1) (λw hF=>(yA hP (aL hF eE h.sh)).2) (seen_eq (by rw[hP];exact dw) (by simp)) (λw hF=>bU eE w) ?_;exact Lv hP jf hZ hi h eE eA eM fK jS v hv
theorem q23(v:Value)(hv:∃A l k,v=.slice A l k):c7 c.P false (RZ c Z i) (DZ c Z i) (FZ c Z W1) (AtR c i v) λt:Nat=>G ((baseD 33).at (iu #[.pointer (some ⟨c.Wg,0,none⟩),.pointer (some ⟨bx,0,none⟩),.pointer (some ⟨b2,0,none⟩),.pointer (some ⟨bs,0,none⟩),.pointer (some ⟨b1,0,none⟩),undef,undef,xv,fv,v,undef] c) [.inRegion dr (lin dr 4 t #[false,false,true,true,true,false,false])]) [fV]:=by
 refine c7.pick (rs:=[0,1]) (by kernel_rfl) (by decide) λj hj=>?_;simp only[Xy,XG,Yn]at hj
 rcases hj with rfl|rfl
 ·refine c7.fa cD O3 (my rfl) (v:=.slice (some ⟨c.C,0,none⟩) c.n c.n) (by decide) (λw hF=>(yA hP (aL hF eE h.sh)).1) (λw hF=>(yA hP (aL hF eE h.sh)).2) (seen_eq (by rw[hP];exact dw) (by simp)) (λw hF=>bU eE w) ?_
  exact ad7 hP jf hZ hi h eE eA eM fK jS v hv
 ·refine c7.fa cD O2 (my rfl) (v:=.int .i64 i) (by decide) (λw hF=>(yz hP (aL hF eA h.ib)).1) (λw hF=>(yz hP (aL hF eA h.ib)).2) (seen_eq (by rw[hP];exact dw) (by simp)) (λw hF=>bU eA w) ?_
  exact ad6 hP jf hZ hi h eE eA eM fK jS v hv
end
section
open Go Go.Conc Go.ConcN Go.RowKit Go.Conc.Lib Go.ConcR.Gen Go.ConcN.Gen
open Go.ConcR (KK wgBlock WgAt stA smA rd wr mk Payload DC0)
theorem sU {P : Program} {main : Bool} {b : Frame} {a : Act} {k : List Item} {cs : List Frame} {ops : Array Oper} {i : Nat} {rest : List Nat} {op : Op} {d : Option Tmp} {fn : Func} {f : FuncId} {co : Code} {args : Array Operand} {Wa : Array TypeId} {vs : Array Value} {n : Nat} (hO : eO ops i op d) (cF : op = .call { callee := .value (.func f), args, argTypes := Wa }) (hk : b.kind ≠ .early) (hf : P.funcs[f]? = some fn) (m9 : (fn.name == "runtime.NumGoroutine") = false) (hb : fn.body = some co) (hv : args.map a.eval = vs) (hn : fn.ntmps - vs.size = n) (w : World) :
  stepG P main (G (b.at a (.inRegion ops (i::rest)::k)) cs) w=.go (G ((base f).at ⟨vs++Array.replicate n undef,[]⟩ [.code co]) (b.at a (.inRegion ops (i::rest)::k)::cs)) w #[]:=by
 obtain⟨o,h1,h2,h3,h4⟩:=hO.get;have bY:fn.body.isNone=false:=by rw[hb];rfl
 have QW:=h2.trans cF;rw[stepG_enter h1 (fF h4 _) hk (run_call_body QW hf m9 bY),enter_at _ hf hb];have:listed P b.fn a o w=#[]:=by unfold listed;rw[events_call_body QW hf m9 bY];exact Conc.seen_none P _
 rw[this,hv,hn]
theorem Di{b:Frame}{a:Act}{k:List Item}{ops:Array Oper}{i:Nat}{rest:List Nat}{op:Op}{d:Option Tmp}(hO:eO ops i op d)(v:Value):(b.at a (.inRegion ops (i::rest)::k)).finish v=b.at (a.put d v) (.inRegion ops rest::k):=by
 obtain⟨o,h1,h2,h3,h4⟩:=hO.get;rw[Frame.finish_at,h1,<-h3];rfl
noncomputable def Ie:Code:=Tryz.f35.body.getD .skip
theorem DQ:Tryz.f35.body=some Ie:=by kernel_rfl
theorem Of:okC 0 Tryz.prog Ie=true:=by kernel_rfl
theorem ah2:(Tryz.f35.name == "runtime.NumGoroutine")=false:=by kernel_rfl
theorem ntV:Tryz.f35.ntmps=33:=by kernel_rfl
theorem oc4:eO dr 4 (.call { callee:=.value (.func 35),args:=#[.tmp 7,.tmp 8,.const (.slice none 0 0)],argTypes:=#[84,64,64] }) (some 9):=⟨⟨_,rfl,rfl,rfl,rfl⟩⟩
noncomputable def Pf(xv fv:Value):Frame:=(base 35).at ⟨#[xv,fv,.slice none 0 0]++Array.replicate 30 undef,[]⟩ [.code Ie]
structure GB(c:Kx)(i:Nat)(xv fv:Value)(W1:World):Prop where
 lone:∀w,(∀b,c.old b->w.heap[b]?=W1.heap[b]?)->∀M s d tp,c.L0≤M->M≤s->∃N cB wE v,Lone c.Q N (lone (Pf xv fv) [di c.Q] (c.wk w M s d tp)) cB wE∧cB.mode=.returning∧cB.defers=[]∧(∃fn,c.Q.funcs[cB.fn]?=some fn∧(results fn cB.tmps).run c.Q wE=.ok v wE)∧c.post i v wE
 res:∀S v w,c.res i S v w->∃A l k,v=.slice A l k
variable[Payload]{c:Kx}{Z:Nat->Prop}{bx bs b1 b2 i:Nat}{xv fv:Value}{W1:World}
theorem Vy(hP:c.P=Tryz.prog)(hQ:c.Q=qP)(iP:c.NG=0):mu c.NG c.Q c.P (Pf xv fv):=by
 rw[hP,hQ,iP];refine⟨rfl,.inl rfl,λit Vi=>?_,(λd hd=>by cases hd),λ_=>⟨_,_,(qA Tryz.func35 rfl),Tryz.func35,rfl⟩⟩;have:it=.code Ie:=by simpa [Pf,Frame.at] using Vi
 subst this;exact Of
theorem Rh(xv fv:Value):∃M,∀f:Re,(∀b,b<M->f b=b)->rF f (Pf xv fv)=Pf xv fv:=by
 obtain⟨M1,e1⟩:=Ad xv;obtain⟨M2,e2⟩:=Ad fv;refine⟨max M1 M2,λf hf=>?_⟩;have h1:=e1 f λb hb=>hf b (by omega);have h2:=e2 f λb hb=>hf b (by omega);simp only[rF,Pf,Frame.at,Yd,Zq,rI,ZH,Array.map_replicate,qi,YK,h1,h2,aW,XR]
theorem uH(hP:c.P=Tryz.prog)(hQ:c.Q=qP)(iP:c.NG=0)(hZ:∀b,c.old b->Z b)(K:GB c i xv fv W1){T:Array Value}{rest:List Nat}(h7:(iu T c).eval (.tmp 7)=xv)(h8:(iu T c).eval (.tmp 8)=fv)
  (hT:∀v,(∃A l k,v=.slice A l k)->GX c.P false (RZ c Z i) (DZ c Z i) (FZ c Z W1) (AtR c i v) (G ((baseD 33).at ((iu T c).put (some 9) v) [.inRegion dr rest]) [fV])) (w:World) (hF:FZ c Z W1 w):eP c Z i (G ((baseD 33).at (iu T c) [.inRegion dr (4::rest)]) [fV]) w:=by
 refine⟨rfl,Pf xv fv,(baseD 33).at (iu T c) [.inRegion dr (4::rest)],[fV],?_,Vy hP hQ iP,rfl,Rh xv fv,K.lone w λb hb=>hF.z b (hZ b hb),λv w' S hr hz hl hp=>?_⟩
 ·rw[hP]
  exact sU oc4 rfl (by decide) Tryz.func35 ah2 DQ (by simp only[YK,Yd,Zq,h7,h8];rfl) (by rw[ntV];rfl) w
 ·rw[Di oc4]
  exact(hT v (K.res S v w' hr)).at ⟨λb hb=>(hz b hb).trans (hF.z b hb),hl,hp⟩
noncomputable def UI:Array Oper:=match DT with|.seq (.region _ ops _) _=>ops|_=>#[]
theorem Oi:DT=.seq (.region 0 UI false) (.region 1 dr true):=rfl
theorem I8:dr.size=7:=rfl
variable(hP:c.P=Tryz.prog)(jf:c.ty=wX.tWg)(hZ:∀b,c.old b->Z b)(hi:i<c.n)(h:Ee c bx bs b1 b2 i xv fv W1)(eE:Z bs)(eA:Z b1)(eM:Z bx)(fK:Z b2)(jS:c.Wg≠c.C)(hQ:c.Q=qP)(iP:c.NG=0)(K:GB c i xv fv W1)
include hP jf hZ hi h eE eA eM fK jS hQ iP K
theorem Hp:c7 c.P false (RZ c Z i) (DZ c Z i) (FZ c Z W1) (eP c Z i) λt:Nat=>G ((baseD 33).at (iu #[.pointer (some ⟨c.Wg,0,none⟩),.pointer (some ⟨bx,0,none⟩),.pointer (some ⟨b2,0,none⟩),.pointer (some ⟨bs,0,none⟩),.pointer (some ⟨b1,0,none⟩),.slice (some ⟨c.C,0,none⟩) c.n c.n,.int .i64 i,xv,fv,undef,undef] c) [.inRegion dr (lin dr 3 t #[true,true,true,true,false,false,false])]) [fV]:=by
 refine c7.pick (rs:=[4]) (by kernel_rfl) (by decide) λj hj=>?_;simp only[Xy,XG,Yn]at hj;subst hj;exact c7.stop cD λt w hF=>uH (T:=#[.pointer (some ⟨c.Wg,0,none⟩),.pointer (some ⟨bx,0,none⟩),.pointer (some ⟨b2,0,none⟩),.pointer (some ⟨bs,0,none⟩),.pointer (some ⟨b1,0,none⟩),.slice (some ⟨c.C,0,none⟩) c.n c.n,.int .i64 i,xv,fv,undef,undef]) (rest:=lin dr 2 t (#[true,true,true,true,false,false,false].setIfInBounds 4 true)) hP hQ iP hZ K rfl rfl (λv hv=>(Lv hP jf hZ hi h eE eA eM fK jS v hv).at t) w hF
theorem UH:c7 c.P false (RZ c Z i) (DZ c Z i) (FZ c Z W1) (eP c Z i) λt:Nat=>G ((baseD 33).at (iu #[.pointer (some ⟨c.Wg,0,none⟩),.pointer (some ⟨bx,0,none⟩),.pointer (some ⟨b2,0,none⟩),.pointer (some ⟨bs,0,none⟩),.pointer (some ⟨b1,0,none⟩),.slice (some ⟨c.C,0,none⟩) c.n c.n,.int .i64 i,xv,undef,undef,undef] c) [.inRegion dr (lin dr 4 t #[true,true,true,false,false,false,false])]) [fV]:=by
 refine c7.pick (rs:=[3]) (by kernel_rfl) (by decide) λj hj=>?_;simp only[Xy,XG,Yn]at hj;subst hj;refine c7.fa cD Sv (my rfl) (v:=fv) (by decide) (λw hF=>(Bf hP (aL hF fK h.fb)).1) (λw hF=>(Bf hP (aL hF fK h.fb)).2) (seen_eq (by rw[hP];exact dw) (by simp)) (λw hF=>bU fK w) ?_;exact Hp hP jf hZ hi h eE eA eM fK jS hQ iP K
theorem UG:c7 c.P false (RZ c Z i) (DZ c Z i) (FZ c Z W1) (eP c Z i) λt:Nat=>G ((baseD 33).at (iu #[.pointer (some ⟨c.Wg,0,none⟩),.pointer (some ⟨bx,0,none⟩),.pointer (some ⟨b2,0,none⟩),.pointer (some ⟨bs,0,none⟩),.pointer (some ⟨b1,0,none⟩),.slice (some ⟨c.C,0,none⟩) c.n c.n,.int .i64 i,undef,fv,undef,undef] c) [.inRegion dr (lin dr 4 t #[true,true,false,true,false,false,false])]) [fV]:=by
 refine c7.pick (rs:=[2]) (by kernel_rfl) (by decide) λj hj=>?_;simp only[Xy,XG,Yn]at hj;subst hj;refine c7.fa cD Sw (my rfl) (v:=xv) (by decide) (λw hF=>(Em hP (aL hF eM h.xb)).1) (λw hF=>(Em hP (aL hF eM h.xb)).2) (seen_eq (by rw[hP];exact dw) (by simp)) (λw hF=>bU eM w) ?_;exact Hp hP jf hZ hi h eE eA eM fK jS hQ iP K
theorem UF:c7 c.P false (RZ c Z i) (DZ c Z i) (FZ c Z W1) (eP c Z i) λt:Nat=>G ((baseD 33).at (iu #[.pointer (some ⟨c.Wg,0,none⟩),.pointer (some ⟨bx,0,none⟩),.pointer (some ⟨b2,0,none⟩),.pointer (some ⟨bs,0,none⟩),.pointer (some ⟨b1,0,none⟩),.slice (some ⟨c.C,0,none⟩) c.n c.n,undef,xv,fv,undef,undef] c) [.inRegion dr (lin dr 4 t #[true,false,true,true,false,false,false])]) [fV]:=by
 refine c7.pick (rs:=[1,4]) (by kernel_rfl) (by decide) λj hj=>?_;simp only[Xy,XG,Yn]at hj
 rcases hj with rfl|rfl
 ·refine c7.fa cD O2 (my rfl) (v:=.int .i64 i) (by decide) (λw hF=>(yz hP (aL hF eA h.ib)).1) (λw hF=>(yz hP (aL hF eA h.ib)).2) (seen_eq (by rw[hP];exact dw) (by simp)) (λw hF=>bU eA w) ?_
  exact Hp hP jf hZ hi h eE eA eM fK jS hQ iP K
 ·exact c7.stop cD λt w hF=>uH (T:=#[.pointer (some ⟨c.Wg,0,none⟩),.pointer (some ⟨bx,0,none⟩),.pointer (some ⟨b2,0,none⟩),.pointer (some ⟨bs,0,none⟩),.pointer (some ⟨b1,0,none⟩),.slice (some ⟨c.C,0,none⟩) c.n c.n,undef,xv,fv,undef,undef]) (rest:=lin dr 3 t (#[true,false,true,true,false,false,false].setIfInBounds 4 true)) hP hQ iP hZ K rfl rfl (λv hv=>(ad7 hP jf hZ hi h eE eA eM fK jS v hv).at t) w hF
theorem UE:c7 c.P false (RZ c Z i) (DZ c Z i) (FZ c Z W1) (eP c Z i) λt:Nat=>G ((baseD 33).at (iu #[.pointer (some ⟨c.Wg,0,none⟩),.pointer (some ⟨bx,0,none⟩),.pointer (some ⟨b2,0,none⟩),.pointer (some ⟨bs,0,none⟩),.pointer (some ⟨b1,0,none⟩),undef,.int .i64 i,xv,fv,undef,undef] c) [.inRegion dr (lin dr 4 t #[false,true,true,true,false,false,false])]) [fV]:=by
 refine c7.pick (rs:=[0,4]) (by kernel_rfl) (by decide) λj hj=>?_;simp only[Xy,XG,Yn]at hj
 rcases hj with rfl|rfl
 ·refine c7.fa cD O3 (my rfl) (v:=.slice (some ⟨c.C,0,none⟩) c.n c.n) (by decide) (λw hF=>(yA hP (aL hF eE h.sh)).1) (λw hF=>(yA hP (aL hF eE h.sh)).2) (seen_eq (by rw[hP];exact dw) (by simp)) (λw hF=>bU eE w) ?_
  exact Hp hP jf hZ hi h eE eA eM fK jS hQ iP K
 ·exact c7.stop cD λt w hF=>uH (T:=#[.pointer (some ⟨c.Wg,0,none⟩),.pointer (some ⟨bx,0,none⟩),.pointer (some ⟨b2,0,none⟩),.pointer (some ⟨bs,0,none⟩),.pointer (some ⟨b1,0,none⟩),undef,.int .i64 i,xv,fv,undef,undef]) (rest:=lin dr 3 t (#[false,true,true,true,false,false,false].setIfInBounds 4 true)) hP hQ iP hZ K rfl rfl (λv hv=>(ad6 hP jf hZ hi h eE eA eM fK jS v hv).at t) w hF
theorem p01:c7 c.P false (RZ c Z i) (DZ c Z i) (FZ c Z W1) (eP c Z i) λt:Nat=>G ((baseD 33).at (iu #[.pointer (some ⟨c.Wg,0,none⟩),.pointer (some ⟨bx,0,none⟩),.pointer (some ⟨b2,0,none⟩),.pointer (some ⟨bs,0,none⟩),.pointer (some ⟨b1,0,none⟩),.slice (some ⟨c.C,0,none⟩) c.n c.n,.int .i64 i,undef,undef,undef,undef] c) [.inRegion dr (lin dr 5 t #[true,true,false,false,false,false,false])]) [fV]:=by
 refine c7.pick (rs:=[2,3]) (by kernel_rfl) (by decide) λj hj=>?_;simp only[Xy,XG,Yn]at hj
 rcases hj with rfl|rfl
 ·refine c7.fa cD Sw (my rfl) (v:=xv) (by decide) (λw hF=>(Em hP (aL hF eM h.xb)).1) (λw hF=>(Em hP (aL hF eM h.xb)).2) (seen_eq (by rw[hP];exact dw) (by simp)) (λw hF=>bU eM w) ?_
  exact UH hP jf hZ hi h eE eA eM fK jS hQ iP K
 ·refine c7.fa cD Sv (my rfl) (v:=fv) (by decide) (λw hF=>(Bf hP (aL hF fK h.fb)).1) (λw hF=>(Bf hP (aL hF fK h.fb)).2) (seen_eq (by rw[hP];exact dw) (by simp)) (λw hF=>bU fK w) ?_
  exact UG hP jf hZ hi h eE eA eM fK jS hQ iP K
theorem p02:c7 c.P false (RZ c Z i) (DZ c Z i) (FZ c Z W1) (eP c Z i) λt:Nat=>G ((baseD 33).at (iu #[.pointer (some ⟨c.Wg,0,none⟩),.pointer (some ⟨bx,0,none⟩),.pointer (some ⟨b2,0,none⟩),.pointer (some ⟨bs,0,none⟩),.pointer (some ⟨b1,0,none⟩),.slice (some ⟨c.C,0,none⟩) c.n c.n,undef,xv,undef,undef,undef] c) [.inRegion dr (lin dr 5 t #[true,false,true,false,false,false,false])]) [fV]:=by
 refine c7.pick (rs:=[1,3]) (by kernel_rfl) (by decide) λj hj=>?_;simp only[Xy,XG,Yn]at hj
 rcases hj with rfl|rfl
 ·refine c7.fa cD O2 (my rfl) (v:=.int .i64 i) (by decide) (λw hF=>(yz hP (aL hF eA h.ib)).1) (λw hF=>(yz hP (aL hF eA h.ib)).2) (seen_eq (by rw[hP];exact dw) (by simp)) (λw hF=>bU eA w) ?_
  exact UH hP jf hZ hi h eE eA eM fK jS hQ iP K
 ·refine c7.fa cD Sv (my rfl) (v:=fv) (by decide) (λw hF=>(Bf hP (aL hF fK h.fb)).1) (λw hF=>(Bf hP (aL hF fK h.fb)).2) (seen_eq (by rw[hP];exact dw) (by simp)) (λw hF=>bU fK w) ?_
  exact UF hP jf hZ hi h eE eA eM fK jS hQ iP K
theorem p03:c7 c.P false (RZ c Z i) (DZ c Z i) (FZ c Z W1) (eP c Z i) λt:Nat=>G ((baseD 33).at (iu #[.pointer (some ⟨c.Wg,0,none⟩),.pointer (some ⟨bx,0,none⟩),.pointer (some ⟨b2,0,none⟩),.pointer (some ⟨bs,0,none⟩),.pointer (some ⟨b1,0,none⟩),.slice (some ⟨c.C,0,none⟩) c.n c.n,undef,undef,fv,undef,undef] c) [.inRegion dr (lin dr 5 t #[true,false,false,true,false,false,false])]) [fV]:=by
 refine c7.pick (rs:=[1,2]) (by kernel_rfl) (by decide) λj hj=>?_;simp only[Xy,XG,Yn]at hj
 rcases hj with rfl|rfl
 ·refine c7.fa cD O2 (my rfl) (v:=.int .i64 i) (by decide) (λw hF=>(yz hP (aL hF eA h.ib)).1) (λw hF=>(yz hP (aL hF eA h.ib)).2) (seen_eq (by rw[hP];exact dw) (by simp)) (λw hF=>bU eA w) ?_
  exact UG hP jf hZ hi h eE eA eM fK jS hQ iP K
 ·refine c7.fa cD Sw (my rfl) (v:=xv) (by decide) (λw hF=>(Em hP (aL hF eM h.xb)).1) (λw hF=>(Em hP (aL hF eM h.xb)).2) (seen_eq (by rw[hP];exact dw) (by simp)) (λw hF=>bU eM w) ?_
  exact UF hP jf hZ hi h eE eA eM fK jS hQ iP K
theorem p12:c7 c.P false (RZ c Z i) (DZ c Z i) (FZ c Z W1) (eP c Z i) λt:Nat=>G ((baseD 33).at (iu #[.pointer (some ⟨c.Wg,0,none⟩),.pointer (some ⟨bx,0,none⟩),.pointer (some ⟨b2,0,none⟩),.pointer (some ⟨bs,0,none⟩),.pointer (some ⟨b1,0,none⟩),undef,.int .i64 i,xv,undef,undef,undef] c) [.inRegion dr (lin dr 5 t #[false,true,true,false,false,false,false])]) [fV]:=by
 refine c7.pick (rs:=[0,3]) (by kernel_rfl) (by decide) λj hj=>?_;simp only[Xy,XG,Yn]at hj
 rcases hj with rfl|rfl
 ·refine c7.fa cD O3 (my rfl) (v:=.slice (some ⟨c.C,0,none⟩) c.n c.n) (by decide) (λw hF=>(yA hP (aL hF eE h.sh)).1) (λw hF=>(yA hP (aL hF eE h.sh)).2) (seen_eq (by rw[hP];exact dw) (by simp)) (λw hF=>bU eE w) ?_
  exact UH hP jf hZ hi h eE eA eM fK jS hQ iP K
 ·refine c7.fa cD Sv (my rfl) (v:=fv) (by decide) (λw hF=>(Bf hP (aL hF fK h.fb)).1) (λw hF=>(Bf hP (aL hF fK h.fb)).2) (seen_eq (by rw[hP];exact dw) (by simp)) (λw hF=>bU fK w) ?_
  exact UE hP jf hZ hi h eE eA eM fK jS hQ iP K
theorem p13:c7 c.P false (RZ c Z i) (DZ c Z i) (FZ c Z W1) (eP c Z i) λt:Nat=>G ((baseD 33).at (iu #[.pointer (some ⟨c.Wg,0,none⟩),.pointer (some ⟨bx,0,none⟩),.pointer (some ⟨b2,0,none⟩),.pointer (some ⟨bs,0,none⟩),.pointer (some ⟨b1,0,none⟩),undef,.int .i64 i,undef,fv,undef,undef] c) [.inRegion dr (lin dr 5 t #[false,true,false,true,false,false,false])]) [fV]:=by
 refine c7.pick (rs:=[0,2]) (by kernel_rfl) (by decide) λj hj=>?_;simp only[Xy,XG,Yn]at hj
 rcases hj with rfl|rfl
 ·refine c7.fa cD O3 (my rfl) (v:=.slice (some ⟨c.C,0,none⟩) c.n c.n) (by decide) (λw hF=>(yA hP (aL hF eE h.sh)).1) (λw hF=>(yA hP (aL hF eE h.sh)).2) (seen_eq (by rw[hP];exact dw) (by simp)) (λw hF=>bU eE w) ?_
  exact UG hP jf hZ hi h eE eA eM fK jS hQ iP K
 ·refine c7.fa cD Sw (my rfl) (v:=xv) (by decide) (λw hF=>(Em hP (aL hF eM h.xb)).1) (λw hF=>(Em hP (aL hF eM h.xb)).2) (seen_eq (by rw[hP];exact dw) (by simp)) (λw hF=>bU eM w) ?_
  exact UE hP jf hZ hi h eE eA eM fK jS hQ iP K
theorem p23:c7 c.P false (RZ c Z i) (DZ c Z i) (FZ c Z W1) (eP c Z i) λt:Nat=>G ((baseD 33).at (iu #[.pointer (some ⟨c.Wg,0,none⟩),.pointer (some ⟨bx,0,none⟩),.pointer (some ⟨b2,0,none⟩),.pointer (some ⟨bs,0,none⟩),.pointer (some ⟨b1,0,none⟩),undef,undef,xv,fv,undef,undef] c) [.inRegion dr (lin dr 5 t #[false,false,true,true,false,false,false])]) [fV]:=by
 refine c7.pick (rs:=[0,1,4]) (by kernel_rfl) (by decide) λj hj=>?_;simp only[Xy,XG,Yn]at hj
 rcases hj with rfl|rfl|rfl
 ·refine c7.fa cD O3 (my rfl) (v:=.slice (some ⟨c.C,0,none⟩) c.n c.n) (by decide) (λw hF=>(yA hP (aL hF eE h.sh)).1) (λw hF=>(yA hP (aL hF eE h.sh)).2) (seen_eq (by rw[hP];exact dw) (by simp)) (λw hF=>bU eE w) ?_
  exact UF hP jf hZ hi h eE eA eM fK jS hQ iP K
 ·refine c7.fa cD O2 (my rfl) (v:=.int .i64 i) (by decide) (λw hF=>(yz hP (aL hF eA h.ib)).1) (λw hF=>(yz hP (aL hF eA h.ib)).2) (seen_eq (by rw[hP];exact dw) (by simp)) (λw hF=>bU eA w) ?_
  exact UE hP jf hZ hi h eE eA eM fK jS hQ iP K
 ·exact c7.stop cD λt w hF=>uH (T:=#[.pointer (some ⟨c.Wg,0,none⟩),.pointer (some ⟨bx,0,none⟩),.pointer (some ⟨b2,0,none⟩),.pointer (some ⟨bs,0,none⟩),.pointer (some ⟨b1,0,none⟩),undef,undef,xv,fv,undef,undef]) (rest:=lin dr 4 t (#[false,false,true,true,false,false,false].setIfInBounds 4 true)) hP hQ iP hZ K rfl rfl (λv hv=>(q23 hP jf hZ hi h eE eA eM fK jS v hv).at t) w hF
theorem p0:c7 c.P false (RZ c Z i) (DZ c Z i) (FZ c Z W1) (eP c Z i) λt:Nat=>G ((baseD 33).at (iu #[.pointer (some ⟨c.Wg,0,none⟩),.pointer (some ⟨bx,0,none⟩),.pointer (some ⟨b2,0,none⟩),.pointer (some ⟨bs,0,none⟩),.pointer (some ⟨b1,0,none⟩),.slice (some ⟨c.C,0,none⟩) c.n c.n,undef,undef,undef,undef,undef] c) [.inRegion dr (lin dr 6 t #[true,false,false,false,false,false,false])]) [fV]:=by
 refine c7.pick (rs:=[1,2,3]) (by kernel_rfl) (by decide) λj hj=>?_;simp only[Xy,XG,Yn]at hj
 rcases hj with rfl|rfl|rfl
 ·refine c7.fa cD O2 (my rfl) (v:=.int .i64 i) (by decide) (λw hF=>(yz hP (aL hF eA h.ib)).1) (λw hF=>(yz hP (aL hF eA h.ib)).2) (seen_eq (by rw[hP];exact dw) (by simp)) (λw hF=>bU eA w) ?_
  exact p01 hP jf hZ hi h eE eA eM fK jS hQ iP K
 ·refine c7.fa cD Sw (my rfl) (v:=xv) (by decide) (λw hF=>(Em hP (aL hF eM h.xb)).1) (λw hF=>(Em hP (aL hF eM h.xb)).2) (seen_eq (by rw[hP];exact dw) (by simp)) (λw hF=>bU eM w) ?_
  exact p02 hP jf hZ hi h eE eA eM fK jS hQ iP K
 ·refine c7.fa cD Sv (my rfl) (v:=fv) (by decide) (λw hF=>(Bf hP (aL hF fK h.fb)).1) (λw hF=>(Bf hP (aL hF fK h.fb)).2) (seen_eq (by rw[hP];exact dw) (by simp)) (λw hF=>bU fK w) ?_
  exact p03 hP jf hZ hi h eE eA eM fK jS hQ iP K
theorem p1:c7 c.P false (RZ c Z i) (DZ c Z i) (FZ c Z W1) (eP c Z i) λt:Nat=>G ((baseD 33).at (iu #[.pointer (some ⟨c.Wg,0,none⟩),.pointer (some ⟨bx,0,none⟩),.pointer (some ⟨b2,0,none⟩),.pointer (some ⟨bs,0,none⟩),.pointer (some ⟨b1,0,none⟩),undef,.int .i64 i,undef,undef,undef,undef] c) [.inRegion dr (lin dr 6 t #[false,true,false,false,false,false,false])]) [fV]:=by
 refine c7.pick (rs:=[0,2,3]) (by kernel_rfl) (by decide) λj hj=>?_;simp only[Xy,XG,Yn]at hj
 rcases hj with rfl|rfl|rfl
 ·refine c7.fa cD O3 (my rfl) (v:=.slice (some ⟨c.C,0,none⟩) c.n c.n) (by decide) (λw hF=>(yA hP (aL hF eE h.sh)).1) (λw hF=>(yA hP (aL hF eE h.sh)).2) (seen_eq (by rw[hP];exact dw) (by simp)) (λw hF=>bU eE w) ?_
  exact p01 hP jf hZ hi h eE eA eM fK jS hQ iP K
 ·refine c7.fa cD Sw (my rfl) (v:=xv) (by decide) (λw hF=>(Em hP (aL hF eM h.xb)).1) (λw hF=>(Em hP (aL hF eM h.xb)).2) (seen_eq (by rw[hP];exact dw) (by simp)) (λw hF=>bU eM w) ?_
  exact p12 hP jf hZ hi h eE eA eM fK jS hQ iP K
 ·refine c7.fa cD Sv (my rfl) (v:=fv) (by decide) (λw hF=>(Bf hP (aL hF fK h.fb)).1) (λw hF=>(Bf hP (aL hF fK h.fb)).2) (seen_eq (by rw[hP];exact dw) (by simp)) (λw hF=>bU fK w) ?_
  exact p13 hP jf hZ hi h eE eA eM fK jS hQ iP K
theorem p2:c7 c.P false (RZ c Z i) (DZ c Z i) (FZ c Z W1) (eP c Z i) λt:Nat=>G ((baseD 33).at (iu #[.pointer (some ⟨c.Wg,0,none⟩),.pointer (some ⟨bx,0,none⟩),.pointer (some ⟨b2,0,none⟩),.pointer (some ⟨bs,0,none⟩),.pointer (some ⟨b1,0,none⟩),undef,undef,xv,undef,undef,undef] c) [.inRegion dr (lin dr 6 t #[false,false,true,false,false,false,false])]) [fV]:=by
 refine c7.pick (rs:=[0,1,3]) (by kernel_rfl) (by decide) λj hj=>?_;simp only[Xy,XG,Yn]at hj
 rcases hj with rfl|rfl|rfl
 ·refine c7.fa cD O3 (my rfl) (v:=.slice (some ⟨c.C,0,none⟩) c.n c.n) (by decide) (λw hF=>(yA hP (aL hF eE h.sh)).1) (λw hF=>(yA hP (aL hF eE h.sh)).2) (seen_eq (by rw[hP];exact dw) (by simp)) (λw hF=>bU eE w) ?_
  exact p02 hP jf hZ hi h eE eA eM fK jS hQ iP K
 ·refine c7.fa cD O2 (my rfl) (v:=.int .i64 i) (by decide) (λw hF=>(yz hP (aL hF eA h.ib)).1) (λw hF=>(yz hP (aL hF eA h.ib)).2) (seen_eq (by rw[hP];exact dw) (by simp)) (λw hF=>bU eA w) ?_
  exact p12 hP jf hZ hi h eE eA eM fK jS hQ iP K
 ·refine c7.fa cD Sv (my rfl) (v:=fv) (by decide) (λw hF=>(Bf hP (aL hF fK h.fb)).1) (λw hF=>(Bf hP (aL hF fK h.fb)).2) (seen_eq (by rw[hP];exact dw) (by simp)) (λw hF=>bU fK w) ?_
  exact p23 hP jf hZ hi h eE eA eM fK jS hQ iP K
theorem p3:c7 c.P false (RZ c Z i) (DZ c Z i) (FZ c Z W1) (eP c Z i) λt:Nat=>G ((baseD 33).at (iu #[.pointer (some ⟨c.Wg,0,none⟩),.pointer (some ⟨bx,0,none⟩),.pointer (some ⟨b2,0,none⟩),.pointer (some ⟨bs,0,none⟩),.pointer (some ⟨b1,0,none⟩),undef,undef,undef,fv,undef,undef] c) [.inRegion dr (lin dr 6 t #[false,false,false,true,false,false,false])]) [fV]:=by
 refine c7.pick (rs:=[0,1,2]) (by kernel_rfl) (by decide) λj hj=>?_;simp only[Xy,XG,Yn]at hj
 rcases hj with rfl|rfl|rfl
 ·refine c7.fa cD O3 (my rfl) (v:=.slice (some ⟨c.C,0,none⟩) c.n c.n) (by decide) (λw hF=>(yA hP (aL hF eE h.sh)).1) (λw hF=>(yA hP (aL hF eE h.sh)).2) (seen_eq (by rw[hP];exact dw) (by simp)) (λw hF=>bU eE w) ?_
  exact p03 hP jf hZ hi h eE eA eM fK jS hQ iP K
 ·refine c7.fa cD O2 (my rfl) (v:=.int .i64 i) (by decide) (λw hF=>(yz hP (aL hF eA h.ib)).1) (λw hF=>(yz hP (aL hF eA h.ib)).2) (seen_eq (by rw[hP];exact dw) (by simp)) (λw hF=>bU eA w) ?_
  exact p13 hP jf hZ hi h eE eA eM fK jS hQ iP K
 ·refine c7.fa cD Sw (my rfl) (v:=xv) (by decide) (λw hF=>(Em hP (aL hF eM h.xb)).1) (λw hF=>(Em hP (aL hF eM h.xb)).2) (seen_eq (by rw[hP];exact dw) (by simp)) (λw hF=>bU eM w) ?_
  exact p23 hP jf hZ hi h eE eA eM fK jS hQ iP K
theorem p:c7 c.P false (RZ c Z i) (DZ c Z i) (FZ c Z W1) (eP c Z i) λt:Nat=>G ((baseD 33).at (iu #[.pointer (some ⟨c.Wg,0,none⟩),.pointer (some ⟨bx,0,none⟩),.pointer (some ⟨b2,0,none⟩),.pointer (some ⟨bs,0,none⟩),.pointer (some ⟨b1,0,none⟩),undef,undef,undef,undef,undef,undef] c) [.inRegion dr (lin dr 7 t #[false,false,false,false,false,false,false])]) [fV]:=by
 refine c7.pick (rs:=[0,1,2,3]) (by kernel_rfl) (by decide) λj hj=>?_;simp only[Xy,XG,Yn]at hj
 rcases hj with rfl|rfl|rfl|rfl
 ·refine c7.fa cD O3 (my rfl) (v:=.slice (some ⟨c.C,0,none⟩) c.n c.n) (by decide) (λw hF=>(yA hP (aL hF eE h.sh)).1) (λw hF=>(yA hP (aL hF eE h.sh)).2) (seen_eq (by rw[hP];exact dw) (by simp)) (λw hF=>bU eE w) ?_
  exact p0 hP jf hZ hi h eE eA eM fK jS hQ iP K
 ·refine c7.fa cD O2 (my rfl) (v:=.int .i64 i) (by decide) (λw hF=>(yz hP (aL hF eA h.ib)).1) (λw hF=>(yz hP (aL hF eA h.ib)).2) (seen_eq (by rw[hP];exact dw) (by simp)) (λw hF=>bU eA w) ?_
  exact p1 hP jf hZ hi h eE eA eM fK jS hQ iP K
 ·refine c7.fa cD Sw (my rfl) (v:=xv) (by decide) (λw hF=>(Em hP (aL hF eM h.xb)).1) (λw hF=>(Em hP (aL hF eM h.xb)).2) (seen_eq (by rw[hP];exact dw) (by simp)) (λw hF=>bU eM w) ?_
  exact p2 hP jf hZ hi h eE eA eM fK jS hQ iP K
 ·refine c7.fa cD Sv (my rfl) (v:=fv) (by decide) (λw hF=>(Bf hP (aL hF fK h.fb)).1) (λw hF=>(Bf hP (aL hF fK h.fb)).2) (seen_eq (by rw[hP];exact dw) (by simp)) (λw hF=>bU fK w) ?_
  exact p3 hP jf hZ hi h eE eA eM fK jS hQ iP K
theorem RB:GX c.P false (RZ c Z i) (DZ c Z i) (FZ c Z W1) (eP c Z i) (born Tryz.prog (Ob c bx bs b1 b2)):=by
 refine GX.step cD rfl (λw _=>by rw[hP];exact V7 c bx bs b1 b2 w) ?_;rw[Oi];refine GX.seq cD ?_;refine GX.region cD ?_;rw[show List.range UI.size=[0] from rfl];refine GX.defer cD rfl rfl (by decide) rfl ?_;refine GX.fin cD ?_;refine GX.drawn cD (by rw[hP];exact ax1) (λw d hF=>Ns w d hF) ?_;simp only[I8];rw[show Array.replicate 7 false=#[false,false,false,false,false,false,false] from rfl,show UI[0].dst=none from rfl];simp only[Act.put,Act.eval,YK,Yd,Zq];exact p hP jf hZ hi h eE eA eM fK jS hQ iP K
end
section
open Go Go.Conc Go.ConcN Go.RowKit Go.Conc.Lib Go.ConcR.Gen
open Go.ConcR (KK wgBlock WgAt stA smA rd wr mk Payload DC0)
theorem eF{P:Program}{main:Bool}{R:World->World->Prop}{D:World->World->Array Event->Prop}{Stop D9:Goroutine->World->Prop}(h:∀g w,Stop g w->D9 g w):∀{n:Nat} {g:Goroutine} {w:World},Goes P main R D Stop n g w->Goes P main R D D9 n g w
 | 0,_,_,hg=>λcL r=>h _ _ (hg cL r)
 | n+1,g,w,hg=>by
  rcases hg with hs|⟨hr,dU⟩
  ·exact .inl λcL r=>h _ _ (hs cL r)
  ·refine .inr ⟨hr,λcL r=>?_⟩
   have:=dU cL r;revert this
   cases stepG P main g cL<;>first|exact λh=>h|exact λx=>⟨x.1,eF h x.2⟩
variable[Payload]{c:Kx}{B B' A A':Goroutine->World->Prop}
theorem AtAcq.mono(h:∀g w,B g w->B' g w)(g:Goroutine)(w:World)(x:AtAcq c B g w):AtAcq c B' g w:=let ⟨a,g',s,y⟩:=x;⟨a,g',s,h _ _ y⟩
theorem AtKe.mono(h:∀g w,B g w->B' g w)(g:Goroutine)(w:World)(x:AtKe c B g w):AtKe c B' g w:=let ⟨a,g',s,m,y⟩:=x;⟨a,g',s,m,eF (AtAcq.mono h) y⟩
theorem AtW4.mono(h:∀g w,B g w->B' g w)(g:Goroutine)(w:World)(x:AtW4 c B g w):AtW4 c B' g w:=⟨x.1,λhw=>let ⟨g',s,m,y⟩:=x.2 hw;⟨g',s,m,eF (AtKe.mono h) y⟩⟩
theorem AtW3.mono(h:∀g w,B g w->B' g w)(g:Goroutine)(w:World)(x:AtW3 c B g w):AtW3 c B' g w:=⟨x.1,x.2.1,x.2.2.1,λhw=>let ⟨g',s,m,y⟩:=x.2.2.2 hw;⟨g',s,m,eF (AtW4.mono h) y⟩⟩
theorem AtW2.mono(h:∀g w,B g w->B' g w)(k:∀g w,A g w->A' g w){vs:Nat}(g:Goroutine)(w:World)(x:AtW2 c B A vs g w):AtW2 c B' A' vs g w:=
 ⟨x.1,λv hv hw=>⟨λe=>let ⟨g',s,m,y⟩:=(x.2 v hv hw).1 e;⟨g',s,m,eF (AtW3.mono h) y⟩,λe=>let ⟨g',s,m,y⟩:=(x.2 v hv hw).2 e;⟨g',s,m,eF k y⟩⟩⟩
theorem AtW1.mono(h:∀g w,B g w->B' g w)(k:∀g w,A g w->A' g w)(g:Goroutine)(w:World)(x:AtW1 c B A g w):AtW1 c B' A' g w:=
 ⟨x.1,λv hv hw=>let ⟨g',s,y,z⟩:=x.2 v hv hw;⟨g',s,λe=>let ⟨m,y⟩:=y e;⟨m,eF (AtKe.mono h) y⟩,λe=>let ⟨m,z⟩:=z e;⟨m,eF (AtW2.mono h k) z⟩⟩⟩
theorem AtKd.mono(k:∀g w,A g w->A' g w)(g:Goroutine)(w:World)(x:AtKd c A g w):AtKd c A' g w:=let ⟨a,g',s,m,y⟩:=x;⟨a,g',s,m,eF k y⟩
end
section
open Go Go.Conc Go.ConcN Go.RowKit Go.Conc.Lib Go.ConcR.Gen
open Go.ConcR (KK wgBlock WgAt stA smA rd wr mk Payload DC0)
theorem GX.mono{P:Program}{main:Bool}{R:World->World->Prop}{D:World->World->Array Event->Prop}{F:World->Prop}{Stop D9:Goroutine->World->Prop}{g:Goroutine}(h:GX P main R D F Stop g)(k:∀g w,Stop g w->D9 g w):GX P main R D F D9 g:=let ⟨m,h⟩:=h.go;⟨⟨m,λw hw=>eF k (h w hw)⟩⟩
variable{P:Program}{main:Bool}{R:World->World->Prop}{D:World->World->Array Event->Prop}{F F':World->Prop}{Stop:Goroutine->World->Prop}{b:Frame}{a:Act}{k:List Item}{cs:List Frame}{ops:Array Oper}{i:Nat}{rest:List Nat}{op:Op}{d:Option Tmp}{s:Sem Next}
theorem GX.fa(W:Wk R D F)(hO:eO ops i op d)(hx:∀o:Oper,o.op=op->execOp a.eval o=s){v:Value}{es:Array Event}(hk:b.kind≠.early)(hr:∀w,F w->s.run P w=.ok (.value v) w)(he:∀w,F w->s.events P w #[]=es)
  (hq:seen P b.fn es=es) (hD:∀w,F w->D w w es) (h:GX P main R D F Stop (G (b.at (a.put d v) (.inRegion ops rest::k)) cs)):GX P main R D F Stop (G (b.at a (.inRegion ops (i::rest)::k)) cs):=
 (c7.fa (ι:=Unit) (rest:=λ_=>rest) W hO hx hk hr he hq hD h.VB).at ()
theorem GX.lO(W:Wk R D F)(hO:eO ops i op d)(hx:∀o:Oper,o.op=op->execOp a.eval o=s){v:Value}(hk:b.kind≠.early)(hr:∀w,F w->s.run P w=.ok (.value v) w)(he:∀w,F w->s.events P w #[]=#[])
 (h:GX P main R D F Stop (G (b.at (a.put d v) (.inRegion ops rest::k)) cs)):GX P main R D F Stop (G (b.at a (.inRegion ops (i::rest)::k)) cs):=(c7.lO (ι:=Unit) (rest:=λ_=>rest) W hO hx hk hr he h.VB).at ()
theorem GX.Ly(W:Wk R D F)(hO:eO ops i op d)(hx:∀o:Oper,o.op=op->execOp a.eval o=s){ad:Addr}{v:Value}(hk:b.kind≠.early)(hr:∀w,F w->s.run P w=.ok .skip (w.setCell ad v))(he:∀w,F w->s.events P w #[]=#[⟨.cell ad,true,false⟩])
  (hq:(P.funcs[b.fn]?).any (·.norace)=false) (hD:∀w,F w->D w (w.setCell ad v) #[⟨.cell ad,true,false⟩]) (Vx:∀w,F w->F' (w.setCell ad v)) (h:GX P main R D F' Stop (G (b.at (a.put d undef) (.inRegion ops rest::k)) cs)):GX P main R D F Stop (G (b.at a (.inRegion ops (i::rest)::k)) cs):=
 (c7.Ly (ι:=Unit) (rest:=λ_=>rest) W hO hx hk hr he hq hD Vx h.VB).at ()
theorem GX.move(W:Wk R D F){x:Operand}{v:Value}(hO:eO ops i (.move x) d)(hx:a.eval x=v)(hk:b.kind≠.early)(h:GX P main R D F Stop (G (b.at (a.put d v) (.inRegion ops rest::k)) cs)):GX P main R D F Stop (G (b.at a (.inRegion ops (i::rest)::k)) cs):=
 .lO W hO (s:=Pure.pure (.value v)) (λo h=>by unfold execOp;rw[h,<-hx]) hk (λw _=>rfl) (λw _=>rfl) h
theorem xal{a:Act}{t:TypeId}(o:Oper)(h:o.op=.alloc t):execOp a.eval o=(do Pure.pure (.value (<-Instr.alloc t true (.tuple #[])))):=by unfold execOp;rw[h]
theorem xbi{a:Act}{op:BinOp}{t y:TypeId}{x z:Operand}{v u:Value}(hx:a.eval x=v)(hz:a.eval z=u)(o:Oper)(h:o.op=.binOp op t x z y):execOp a.eval o=(do Pure.pure (.value (<-(do eqGuard op t x z v u;binOp op t v u)))):=by unfold execOp;rw[h,<-hx,<-hz]
theorem xmf{a:Act}{f:FuncId}{cs:Array Operand}{vs:Array Value}(hx:cs.map a.eval=vs)(o:Oper)(h:o.op=.makeFunc (.func f) #[] cs):execOp a.eval o=(Pure.pure (.value (.func (.func f) #[] vs))):=by unfold execOp;rw[h];simp only[hx,Array.map_empty];rfl
noncomputable def as2:Code:=Tryz.f8.body.getD .skip
noncomputable def oY:Code:=match as2 with|.seq _ (.seq _ (.seq _ (.seq _ (.seq _ r))))=>r|_=>.skip
noncomputable def g8:Code:=match oY with|.seq _ r=>r|_=>.skip
noncomputable def oG:Array Oper:=match oY with|.seq (.region _ o _) _=>o|_=>#[]
noncomputable def LR:Array Oper:=match g8 with|.seq (.seq (.region _ o _) _) _=>o|_=>#[]
noncomputable def LD:Code:=match g8 with|.seq (.seq _ (.block _ (.loop l))) _=>l|_=>.skip
noncomputable def RD:Code:=match g8 with|.seq _ r=>r|_=>.skip
noncomputable def LU:Array Oper:=match LD with|.seq (.region _ o _) _=>o|_=>#[]
noncomputable def o7:Array Oper:=match LD with|.seq _ (.seq _ (.seq (.block _ (.seq (.region _ o _) _)) _))=>o|_=>#[]
noncomputable def Cf:Array Oper:=match LD with|.seq _ (.seq _ (.seq (.block _ (.seq _ (.seq (.region _ o _) _))) _))=>o|_=>#[]
noncomputable def vp:Array Oper:=match LD with|.seq _ (.seq _ (.seq (.block _ (.seq _ (.seq _ (.region _ o _)))) _))=>o|_=>#[]
noncomputable def Ce:Array Oper:=match LD with|.seq _ (.seq _ (.seq _ (.region _ o _)))=>o|_=>#[]
noncomputable def qp:Array Oper:=match RD with|.seq (.region _ o _) _=>o|_=>#[]
noncomputable def TD:Code:=match RD with|.seq _ r=>r|_=>.skip
theorem Lg:oY=.seq (.region 8 oG false) g8:=rfl
theorem Lf:g8=.seq (.seq (.region 9 LR false) (.block 0 (.loop LD))) RD:=rfl
theorem TH:LD=.seq (.region 10 LU false) (.seq (.cond (.tmp 45) .skip (.exit 0)) (.seq (.block 1 (.seq (.region 11 o7 false) (.seq (.region 12 Cf false) (.region 13 vp false)))) (.region 14 Ce false))):=rfl
theorem at1:RD=.seq (.region 15 qp false) TD:=rfl
theorem oe8:eO oG 0 (.alloc 102) (some 11):=⟨⟨_,rfl,rfl,rfl,rfl⟩⟩
theorem aw5:eO LR 0 (.move (.tmp 1)) (some 42):=⟨⟨_,rfl,rfl,rfl,rfl⟩⟩
theorem aw4:eO LR 1 (.call { callee:=.builtin .len,args:=#[.tmp 42],argTypes:=#[38] }) (some 43):=⟨⟨_,rfl,rfl,rfl,rfl⟩⟩
theorem aw3:eO LR 2 (.move (.const (.int .i64 0))) (some 44):=⟨⟨_,rfl,rfl,rfl,rfl⟩⟩
theorem ag8:eO LU 0 (.binOp .lss 3 (.tmp 44) (.tmp 43) 3) (some 45):=⟨⟨_,rfl,rfl,rfl,rfl⟩⟩
theorem ag7:eO o7 0 (.move (.tmp 44)) (some 46):=⟨⟨_,rfl,rfl,rfl,rfl⟩⟩
theorem ag6:eO o7 1 (.indexAddr 38 (.tmp 42) (.tmp 44)) (some 47):=⟨⟨_,rfl,rfl,rfl,rfl⟩⟩
theorem ag5:eO o7 2 (.load 64 (.tmp 47)) (some 48):=⟨⟨_,rfl,rfl,rfl,rfl⟩⟩
theorem ag4:eO o7 3 (.alloc 3) (some 12):=⟨⟨_,rfl,rfl,rfl,rfl⟩⟩
theorem ag3:eO o7 4 (.alloc 64) (some 13):=⟨⟨_,rfl,rfl,rfl,rfl⟩⟩
theorem ag2:eO o7 5 (.store 3 (.tmp 12) (.tmp 46)) (none):=⟨⟨_,rfl,rfl,rfl,rfl⟩⟩
theorem ag1:eO o7 6 (.store 64 (.tmp 13) (.tmp 48)) (none):=⟨⟨_,rfl,rfl,rfl,rfl⟩⟩
theorem aw7:eO Cf 0 (.call { callee:=.value (.func 32),args:=#[.tmp 11,.const (.int .i64 1)],argTypes:=#[102,3] }) (some 49):=⟨⟨_,rfl,rfl,rfl,rfl⟩⟩
theorem ag0:eO vp 0 (.makeFunc (.func 33) #[] #[.tmp 11,.tmp 6,.tmp 13,.tmp 10,.tmp 12]) (some 50):=⟨⟨_,rfl,rfl,rfl,rfl⟩⟩
theorem af9:eO vp 1 (.go { callee:=.value (.tmp 50),args:=#[],argTypes:=#[] }) (none):=⟨⟨_,rfl,rfl,rfl,rfl⟩⟩
theorem af8:eO Ce 0 (.binOp .add 3 (.tmp 44) (.const (.int .i64 1)) 3) (some 51):=⟨⟨_,rfl,rfl,rfl,rfl⟩⟩
theorem af7:eO Ce 1 (.move (.tmp 51)) (some 44):=⟨⟨_,rfl,rfl,rfl,rfl⟩⟩
theorem aw6:eO qp 0 (.call { callee:=.value (.func 36),args:=#[.tmp 11],argTypes:=#[102] }) (some 52):=⟨⟨_,rfl,rfl,rfl,rfl⟩⟩
theorem au2:List.range oG.size=[0]:=rfl
theorem au1:List.range LR.size=[0,1,2]:=rfl
theorem R9:List.range LU.size=[0]:=rfl
theorem ab1:List.range o7.size=[0,1,2,3,4,5,6]:=rfl
theorem ab0:List.range Cf.size=[0]:=rfl
theorem aa9:List.range vp.size=[0,1]:=rfl
theorem aa8:List.range Ce.size=[0,1]:=rfl
theorem aa7:List.range qp.size=[0]:=rfl
theorem Mr:(Tryz.prog.funcs[(base 8).fn]?).any (·.norace)=false:=by kernel_rfl
variable{c:Kx}(hP:c.P=Tryz.prog)
include hP
theorem al3(w:World):(do Pure.pure (.value (<-Instr.alloc 3 true (.tuple #[]))):Sem Next).run c.P w=.ok (.value (.pointer (some ⟨w.heap.size,0,none⟩))) (w.alloc (.cells #[.int .i64 0] 3))∧(do Pure.pure (.value (<-Instr.alloc 3 true (.tuple #[]))):Sem Next).events c.P w #[]=#[]:=by
 rw[hP];constructor
 ·go_simp
 ·simp[go_sem]
theorem aG5(w:World):(do Pure.pure (.value (<-Instr.alloc 64 true (.tuple #[]))):Sem Next).run c.P w=.ok (.value (.pointer (some ⟨w.heap.size,0,none⟩))) (w.alloc (.cells #[.slice none 0 0] 64))∧(do Pure.pure (.value (<-Instr.alloc 64 true (.tuple #[]))):Sem Next).events c.P w #[]=#[]:=by
 rw[hP];constructor
 ·go_simp
 ·simp[go_sem]
theorem st3{w:World}{ad:Addr}{n:Int}(hc:∃u,w.cell? ad=some u∧w.frozen? ad=false):(do Instr.storeAt 3 (.pointer (some ad)) (.int .i64 n);Pure.pure .skip:Sem Next).run c.P w=.ok .skip (w.setCell ad (.int .i64 n))∧(do Instr.storeAt 3 (.pointer (some ad)) (.int .i64 n);Pure.pure .skip:Sem Next).events c.P w #[]=#[⟨.cell ad,true,false⟩]:=by
 obtain⟨u,h1,h2⟩:=hc;rw[hP];constructor
 ·simp[go_sem,stored,h1,h2]
 ·simp[go_sem,stored,storedEv,h1,h2]
theorem ab6{w:World}{ad:Addr}{A:Option Addr}{l k:Nat}(hc:∃u,w.cell? ad=some u∧w.frozen? ad=false):(do Instr.storeAt 64 (.pointer (some ad)) (.slice A l k);Pure.pure .skip:Sem Next).run c.P w=.ok .skip (w.setCell ad (.slice A l k))∧(do Instr.storeAt 64 (.pointer (some ad)) (.slice A l k);Pure.pure .skip:Sem Next).events c.P w #[]=#[⟨.cell ad,true,false⟩]:=by
 obtain⟨u,h1,h2⟩:=hc;rw[hP];constructor
 ·simp[go_sem,stored,h1,h2]
 ·simp[go_sem,stored,storedEv,h1,h2]
  rw[events_store Tryz.prog w #[] ad (.slice A l k) .plain rfl,h1];simp[h2]
theorem ah9{ad:Addr}{n cap i:Nat}(hi:i<n)(w:World):(do Pure.pure (.value (<-Instr.indexAt 38 (.slice (some ad) n cap) (.int .i64 i))):Sem Next).run c.P w=.ok (.value (.pointer (some (ad.add i)))) w∧(do Pure.pure (.value (<-Instr.indexAt 38 (.slice (some ad) n cap) (.int .i64 i))):Sem Next).events c.P w #[]=#[]:=by
 have bH:(i:Int)<(n:Int):=by omega
 have HS:(0:Int)≤(i:Int):=by omega
 rw[hP];constructor
 ·go_simp
 ·simp[go_sem,bH,HS]
theorem ls3(x y:Int)(p q:Operand)(w:World):(do Pure.pure (.value (<-(do eqGuard .lss 3 p q (.int .i64 x) (.int .i64 y);binOp .lss 3 (.int .i64 x) (.int .i64 y)))):Sem Next).run c.P w=.ok (.value (.bool (decide (x<y)))) w∧(do Pure.pure (.value (<-(do eqGuard .lss 3 p q (.int .i64 x) (.int .i64 y);binOp .lss 3 (.int .i64 x) (.int .i64 y)))):Sem Next).events c.P w #[]=#[]:=by
 rw[hP];constructor
 ·go_simp
 ·simp[go_sem]
theorem ad3(x y:Int)(p q:Operand)(w:World):(do Pure.pure (.value (<-(do eqGuard .add 3 p q (.int .i64 x) (.int .i64 y);binOp .add 3 (.int .i64 x) (.int .i64 y)))):Sem Next).run c.P w=.ok (.value (.int .i64 (IntKind.i64.wrap (x+y)))) w∧(do Pure.pure (.value (<-(do eqGuard .add 3 p q (.int .i64 x) (.int .i64 y);binOp .add 3 (.int .i64 x) (.int .i64 y)))):Sem Next).events c.P w #[]=#[]:=by
 rw[hP];constructor
 ·go_simp
 ·simp[go_sem]
end
section
open Go Go.Conc Go.ConcN Go.RowKit Go.Conc.Lib Go.ConcR.Gen
open Go.ConcR (KK wgBlock WgAt stA smA rd wr mk Payload DC0)
instance av9:Payload:=⟨104⟩
theorem GX.Tx{P:Program}{main:Bool}{R:World->World->Prop}{D:World->World->Array Event->Prop}{F:World->Prop}{Stop:Goroutine->World->Prop}{b:Frame}{a:Act}{k:List Item}{cs:List Frame}{ops:Array Oper}{i:Nat}{rest:List Nat}{op:Op}{d:Option Tmp}{fn:Func}{f:FuncId}{co:Code}{args:Array Operand}{Wa:Array TypeId}{vs:Array Value}{n:Nat}(W:Wk R D F)(hO:eO ops i op d)(cF:op=.call { callee:=.value (.func f),args,argTypes:=Wa })(hk:b.kind≠.early)(hf:P.funcs[f]?=some fn)(m9:(fn.name == "runtime.NumGoroutine")=false)(hb:fn.body=some co)(hv:args.map a.eval=vs)(hn:fn.ntmps - vs.size=n)
  (h:GX P main R D F Stop (G ((base f).at ⟨vs++Array.replicate n undef,[]⟩ [.code co]) (b.at a (.inRegion ops (i::rest)::k)::cs))):GX P main R D F Stop (G (b.at a (.inRegion ops (i::rest)::k)) cs):=
 .step W rfl (λw _=>sU hO cF hk hf m9 hb hv hn w) h
structure FD(c:Kx)(W w:World):Prop where
 live:WgLive c.ty c.Wg w
 old:∀b,c.old b->w.heap[b]?=W.heap[b]?
structure FB(c:Kx)(W:World)(l:List (Nat × Obj))(w:World):Prop extends FD c W w where
 mine:∀x∈l,w.heap[x.1]?=some x.2∧c.L0≤x.1
variable{c:Kx}{W w w':World}{l:List (Nat × Obj)}{bs:Nat->Prop}
theorem ee{w:World}{a:Addr}{v:Value}{b:Nat}(h:b≠a.block):(w.setCell a v).heap[b]?=w.heap[b]?:=(aside_setCell w a v).block b h
theorem Dk(hW:c.Wg<c.L0)(hl:∀x∈l,bs x.1):Wl c bs (FB c W l):=by
 refine { rel:=λw w' h r=>⟨⟨r.live h.live,λb hb=>(r.old b hb).trans (h.old b hb)⟩,λx hx=>⟨(r.bs x.1 (hl x hx)).trans (h.mine x hx).1,(h.mine x hx).2⟩⟩,dz:=λw=>DS.none w,live:=λw h=>h.live,set:=λw a v h ha hlv=>⟨⟨hlv,λb hb=>?_⟩,λx hx=>⟨?_,(h.mine x hx).2⟩⟩ }
 ·rw[ee (by rw[ha];exact hb.2.1)];exact h.old b hb
 ·rw[ee (by rw[ha];have:=(h.mine x hx).2;omega)];exact(h.mine x hx).1
theorem Dj(hW:c.Wg<c.L0):Wl c fQ (FD c W):=by
 refine { rel:=λw w' h r=>⟨r.live h.live,λb hb=>(r.old b hb).trans (h.old b hb)⟩,dz:=λw=>DS.none w,live:=λw h=>h.live,set:=λw a v h ha hlv=>⟨hlv,λb hb=>?_⟩ };rw[ee (by rw[ha];exact hb.2.1)];exact h.old b hb
theorem QF(h:WgLive c.ty c.Wg w):c.Wg<w.heap.size:=by
 obtain⟨st,sm,hw⟩:=h;have h:=hw.cellSt;unfold World.cell? at h
 cases hb:w.heap[c.Wg]? with
 | none=>simp only[stA,hb]at h;cases h
 | some o=>exact(Xz.1 hb).1
theorem ir{o:Obj}{b:Nat}(h:b<w.heap.size):(w.alloc o).heap[b]?=w.heap[b]?:=by
 show (w.heap.push o)[b]?=_
 rw[YE,Xr (by omega)]
theorem JR{o:Obj}:(w.alloc o).heap[w.heap.size]?=some o:=by
 show (w.heap.push o)[w.heap.size]?=_
 simp
theorem HI{w w':World}(h:WgLive c.ty c.Wg w)(e:w'.heap[c.Wg]?=w.heap[c.Wg]?):WgLive c.ty c.Wg w':=let ⟨st,sm,h⟩:=h;⟨st,sm,h.of_block e⟩
theorem Dl(hL:c.L0=c.Wg+1)(h:FB c W l w)(o:Obj):FB c W ((w.heap.size,o)::l) (w.alloc o):=by
 have bH:=QF h.live;refine⟨⟨HI h.live (ir bH),λb hb=>(ir (by have:=hb.1;omega)).trans (h.old b hb)⟩,λx hx=>?_⟩
 rcases Xy.1 hx with rfl|hx
 ·exact⟨JR,by omega⟩
 ·obtain⟨h1,h2⟩:=h.mine x hx
  exact⟨(ir (Xz.1 h1).1).trans h1,h2⟩
theorem FD.b(h:FD c W w):FB c W [] w:=⟨h,λx hx=>by cases hx⟩
theorem lu{b:Nat}{v:Value}{e:TypeId}(h:w.heap[b]?=some (.cells #[v] e)):w.cell? ⟨b,0,none⟩=some v∧w.frozen? ⟨b,0,none⟩=false:=by
 constructor
 ·simp[World.cell?,h]
 ·simp[World.frozen?,h]
theorem Ht{b:Nat}{v u:Value}{e:TypeId}(h:w.heap[b]?=some (.cells #[v] e)):(w.setCell ⟨b,0,none⟩ u).heap[b]?=some (.cells #[u] e):=by
 rw[setCell_eq_setRow w b 0 _ _ (0,0) _ h,setRow_heap w b _ _ _ _ h];rfl
theorem qq{a:Addr}{v:Value}(h:FD c W w)(ho:c.old a.block)(hc:W.cell? a=some v):w.cell? a=some v:=by
 unfold World.cell? at hc ⊢;rw[h.old _ ho];exact hc
theorem Ru{a:Addr}(ho:c.old a.block)(w:World):DS c bs w w #[⟨.cell a,false,false⟩]:=.one w (.inr (.inl ⟨a,false,rfl,.inr ⟨ho,rfl⟩⟩))
theorem Dz{a:Addr}{v:Value}(h:bs a.block)(w:World):DS c bs w (w.setCell a v) #[⟨.cell a,true,false⟩]:=by
 have hA:=aside_setCell w a v;exact⟨hA.tape,hA.os,hA.output,hA.size,λb hb=>hA.block b λe=>hb (e ▸ h),λe he=>by rw[Yz]at he;subst he;exact .inr (.inl ⟨a,true,rfl,.inl h⟩)⟩
structure Ba(c:Kx)(W:World)(bx bs:Nat)(xv:Value)(qS:Nat->Value)(A:Option Addr):Prop where
 P:c.P=Tryz.prog
 Q:c.Q=qP
 NG:c.NG=0
 ty:c.ty=wX.tWg
 L0:c.L0=c.Wg+1
 CL:c.C<c.L0
 CW:c.C≠c.Wg
 ox:c.old bx
 os:c.old bs
 sh:W.cell? ⟨bs,0,none⟩=some (.slice (some ⟨c.C,0,none⟩) c.n c.n)
 xb:W.cell? ⟨bx,0,none⟩=some xv
 el:∀i,i<c.n->∃ad,A=some ad∧c.old (ad.add i).block∧W.cell? (ad.add i)=some (qS i)
 fs:∀i,i<c.n->∃A l k,qS i=.slice A l k
 K:∀i,i<c.n->GB c i xv (qS i) W
 hn:c.n<2147483648
structure mg(c:Kx)(bx bs cap:Nat)(A:Option Addr)(T:Array Value)(i:Nat):Prop where
 sz:T.size=85
 t6:T[6]?=some (.pointer (some ⟨bx,0,none⟩))
 t10:T[10]?=some (.pointer (some ⟨bs,0,none⟩))
 t11:T[11]?=some (.pointer (some ⟨c.Wg,0,none⟩))
 t42:T[42]?=some (.slice A c.n cap)
 t43:T[43]?=some (.int .i64 c.n)
 t44:T[44]?=some (.int .i64 i)
structure Gw(bx bs:Nat)(T:Array Value):Prop where
 sz:T.size=85
 t6:T[6]?=some (.pointer (some ⟨bx,0,none⟩))
 t10:T[10]?=some (.pointer (some ⟨bs,0,none⟩))
def mw(c:Kx)(W:World)(bx bs:Nat)(cs:List Frame)(g:Goroutine)(w:World):Prop:=∃T,Gw bx bs T∧It wX c.Wg (FD c W) ((base 8).at ⟨T,[]⟩ [.inRegion qp [0],.code TD]) cs g w
def Ei(c:Kx)(bx bs:Nat)(cs:List Frame)(g:Goroutine)(w:World):Prop:=∃T,Gw bx bs T∧OU c.P (G ((base 8).at ⟨T,[]⟩ [.inRegion qp [],.code TD]) cs) g w
end
section
open Go Go.Conc Go.ConcN Go.RowKit Go.Conc.Lib Go.ConcR.Gen
open Go.ConcR (KK wgBlock WgAt stA smA rd wr mk Payload DC0)
variable{c:Kx}{W:World}{bx bs cap:Nat}{xv:Value}{qS:Nat->Value}{A:Option Addr}{cs:List Frame}
theorem OE(g:Goroutine)(w:World)(h:mw c W bx bs cs g w):g.status=.running:=by
 obtain⟨_,_,_,rfl,_⟩:=h;rfl
theorem Ou(g:Goroutine)(w:World)(h:Ei c bx bs cs g w):g.status=.running:=by
 obtain⟨_,_,h⟩:=h;exact h.1
theorem Mt(X:Ba c W bx bs xv qS A):WgLib c.P wX:=by rw[X.P];exact Km
theorem JQ(X:Ba c W bx bs xv qS A)(jf:c.ty=wX.tWg)(g:Goroutine)(w:World)(h:mw c W bx bs cs g w):∃m,GS c fQ (AtW1 c (Ei c bx bs cs) (mw c W bx bs cs)) m g w:=by
 obtain⟨T,hT,hA⟩:=h;obtain⟨m,hm⟩:=ED (L:=wX) (b₀:=base 8) (a₀:=⟨T,[]⟩) (ops₀:=qp) (i₀:=0) (rest₀:=[]) (k₀:=[.code TD]) (Mt X) (Dj (by have:=X.L0;omega)) g w hA;refine⟨m,eF (AtW1.mono (λg w h=>⟨_,?_,h⟩) (λg w h=>⟨T,hT,h⟩)) hm⟩;show Gw bx bs ((⟨T,[]⟩:Act).put (some 52) (.tuple #[])).tmps
 exact⟨by simp[Act.put,hT.sz],by simp[Act.put,Xx,hT.t6],by simp[Act.put,Xx,hT.t10]⟩
noncomputable def Q8(T:Array Value):Frame:=(base 8).at ⟨T,[]⟩ [.code LD,.inLoop LD,.inBlock 0,.code RD]
theorem ac7(v:Value):#[v]++Array.replicate 83 undef=#[v,undef,undef,undef,undef,undef,undef,undef,undef,undef,undef,undef,undef,undef,undef,undef,undef,undef,undef,undef,undef,undef,undef,undef,undef,undef,undef,undef,undef,undef,undef,undef,undef,undef,undef,undef,undef,undef,undef,undef,undef,undef,undef,undef,undef,undef,undef,undef,undef,undef,undef,undef,undef,undef,undef,undef,undef,undef,undef,undef,undef,undef,undef,undef,undef,undef,undef,undef,undef,undef,undef,undef,undef,undef,undef,undef,undef,undef,undef,undef,undef,undef,undef,undef]:=by
 apply Array.ext';simp only[Array.toList_append,Array.toList_replicate,List.replicate];rfl
theorem Up(v u:Value):#[v,u]++Array.replicate 115 undef=#[v,u,undef,undef,undef,undef,undef,undef,undef,undef,undef,undef,undef,undef,undef,undef,undef,undef,undef,undef,undef,undef,undef,undef,undef,undef,undef,undef,undef,undef,undef,undef,undef,undef,undef,undef,undef,undef,undef,undef,undef,undef,undef,undef,undef,undef,undef,undef,undef,undef,undef,undef,undef,undef,undef,undef,undef,undef,undef,undef,undef,undef,undef,undef,undef,undef,undef,undef,undef,undef,undef,undef,undef,undef,undef,undef,undef,undef,undef,undef,undef,undef,undef,undef,undef,undef,undef,undef,undef,undef,undef,undef,undef,undef,undef,undef,undef,undef,undef,undef,undef,undef,undef,undef,undef,undef,undef,undef,undef,undef,undef,undef,undef,undef,undef,undef,undef]:=by
 apply Array.ext';simp only[Array.toList_append,Array.toList_replicate,List.replicate];rfl
theorem E8(X:Ba c W bx bs xv qS A){T:Array Value}(hT:mg c bx bs cap A T c.n):GX c.P true (R0 c fQ) (DS c fQ) (FD c W) (AtKd c (mw c W bx bs cs)) (G (Q8 T) cs):=by
 have WK:=Dj (c:=c) (W:=W) (by have:=X.L0;omega);unfold Q8;rw[TH];refine GX.seq WK.toWk ?_;refine GX.region WK.toWk ?_;rw[R9];refine GX.lO WK.toWk ag8 (xbi (v:=.int .i64 c.n) (u:=.int .i64 c.n) (by simp[Act.eval,Act.put,Xx,hT.t44]) (by simp[Act.eval,Act.put,Xx,hT.t43])) (v:=.bool false) (by decide) (λw _=>?_) (λw _=>(ls3 X.P _ _ _ _ w).2) ?_
 ·have:=(ls3 X.P (c.n:Int) (c.n:Int) (.tmp 44) (.tmp 43) w).1
  rwa [show decide ((c.n:Int)<(c.n:Int))=false from by simp]at this
 refine GX.fin WK.toWk ?_;refine GX.seq WK.toWk ?_;refine GX.jH WK.toWk (by simp[Act.eval,Act.put,Xx,hT.sz]) ?_;refine GX.exit WK.toWk (k':=[.code RD]) rfl ?_;rw[at1];refine GX.seq WK.toWk ?_;refine GX.region WK.toWk ?_;rw[aa7];have hw:=EC (L:=wX) (F:=FD c W) (b₀:=base 8) (a₀:=⟨T.setIfInBounds 45 (.bool false),[]⟩) (ops₀:=qp) (i₀:=0) (rest₀:=[]) (k₀:=[.code TD]) (cs:=cs) (Mt X) WK;refine GX.Tx WK.toWk (fn:=waitFn wX) (vs:=#[.pointer (some ⟨c.Wg,0,none⟩)]) (n:=83) aw6 rfl (by decide) (Mt X).f_wait (nm_wait wX) (co:=body_wait wX) rfl (by simp[Act.eval,Act.put,Xx,hT.t11]) rfl ?_;rw[ac7];exact GX.mono hw (AtKd.mono λg w h=>⟨_,⟨by simp[hT.sz],by simp[Xx,hT.t6],by simp[Xx,hT.t10]⟩,h⟩)
theorem A6 {P : Program} {main : Bool} {b : Frame} {a : Act} {k : List Item} {cs : List Frame} {ops : Array Oper} {i : Nat} {rest : List Nat} {t : TypeId} {d : Tmp} {w : World} {x : Array Value} {e : TypeId} (hO : eO ops i (.alloc t) (some d)) (hk : b.kind ≠ .early) (h : (do Pure.pure (.value (<- Instr.alloc t true (.tuple #[]))) : Sem Next).run P w = .ok (.value (.pointer (some ⟨w.heap.size, 0, none⟩))) (w.alloc (.cells x e)) ∧ (do Pure.pure (.value (<- Instr.alloc t true (.tuple #[]))) : Sem Next).events P w #[] = #[]) :
  stepG P main (G (b.at a (.inRegion ops (i::rest)::k)) cs) w=.go (G (b.at (a.put (some d) (.pointer (some ⟨w.heap.size,0,none⟩))) (.inRegion ops rest::k)) cs) (w.alloc (.cells x e)) #[]:=by
 obtain⟨o,h1,h2,h3,h4⟩:=hO.get;have e0:=xal (a:=a) o h2;rw[stepG_value h1 (fF h4 _) hk (by rw[e0];exact h.1),h3];unfold listed;rw[e0,h.2,Conc.seen_none]
theorem go_step {P : Program} {main : Bool} {b : Frame} {a : Act} {k : List Item} {cs : List Frame} {ops : Array Oper} {i : Nat} {rest : List Nat} {w : World} {x : Operand} {f : FuncId} {vs : Array Value} (hO : eO ops i (.go { callee := .value x, args := #[], argTypes := #[] }) none) (hk : b.kind ≠ .early) (hx : a.eval x = .func (.func f) #[] vs) :
  stepG P main (G (b.at a (.inRegion ops (i::rest)::k)) cs) w=.spawn (G (b.at a (.inRegion ops rest::k)) cs) (born P { target:=.fn (.func f) vs,args:=#[] }) w #[]:=by
 obtain⟨o,h1,h2,h3,h4⟩:=hO.get;have e0:execOp a.eval o=Pure.pure (.spawn { target:=.fn (.func f) vs,args:=#[] }):=by unfold execOp;rw[h2];simp[resolve,hx,Deferred.ofValue]
 rw[stepG_spawn (d:={ target:=.fn (.func f) vs,args:=#[] }) (w':=w) (f:=.func f) (c:=vs) h1 (fF h4 _) hk (by rw[e0];rfl) rfl,h3];unfold listed;rw[e0];show GStep.spawn _ _ _ (seen P b.fn #[])=_
 rw[Conc.seen_none];rfl
def rS(c:Kx)(W:World)(bx bs:Nat)(cs:List Frame):Nat->Goroutine->World->Prop
 | 0=>AtKd c (mw c W bx bs cs)
 | r+1=>OV c (jM c (AtKd c (mw c W bx bs cs)) r) (c.n - (r+1))
theorem E5(r:Nat)(g:Goroutine)(w:World):jM c (AtKd c (mw c W bx bs cs)) r g w↔∃m,GS c fQ (rS c W bx bs cs r) m g w:=by cases r<;>exact Iff.rfl
noncomputable def kR:List Item:=[.inBlock 1,.code (.region 14 Ce false),.inLoop LD,.inBlock 0,.code RD]
structure TG(c:Kx)(bx bs cap:Nat)(A:Option Addr)(T:Array Value)(i b1 b2:Nat):Prop extends mg c bx bs cap A T i where
 t12:T[12]?=some (.pointer (some ⟨b1,0,none⟩))
 t13:T[13]?=some (.pointer (some ⟨b2,0,none⟩))
theorem TP{i:Nat}(h:i<2147483648):IntKind.i64.wrap ((i:Int)+1)=((i+1:Nat):Int):=by rw[IntKind.wrap_i64];omega
theorem E6 (X : Ba c W bx bs xv qS A) {r i : Nat} (hi : i + (r + 1) = c.n) (ih : ∀ T, mg c bx bs cap A T (i + 1) -> GX c.P true (R0 c fQ) (DS c fQ) (FD c W) (rS c W bx bs cs r) (G (Q8 T) cs)) {T : Array Value} (hT : mg c bx bs cap A T i) :
  GX c.P true (R0 c fQ) (DS c fQ) (FD c W) (rS c W bx bs cs r) (G ((base 8).at ⟨T,[]⟩ (.inRegion vp []::kR)) cs):=by
 have WK:=(Dj (c:=c) (W:=W) (by have:=X.L0;omega)).toWk;have hn:=X.hn;refine GX.fin WK ?_;refine GX.inBlock WK ?_;refine GX.region WK ?_;rw[aa8];refine GX.lO WK af8 (xbi (v:=.int .i64 i) (u:=.int .i64 1) (by simp[Act.eval,Act.put,Xx,hT.t44]) rfl) (v:=.int .i64 ((i+1:Nat):Int)) (by decide) (λw _=>?_) (λw _=>(ad3 X.P _ _ _ _ w).2) ?_
 ·have:=(ad3 X.P (i:Int) 1 (.tmp 44) (.const (.int .i64 1)) w).1
  rwa [TP (by omega)]at this
 refine GX.move WK af7 (v:=.int .i64 ((i+1:Nat):Int)) (by simp[Act.eval,Act.put,Xx,hT.sz]) (by decide) ?_;refine GX.fin WK ?_;refine GX.inLoop WK ?_;refine ih _ ⟨?_,?_,?_,?_,?_,?_,?_⟩<;>first|(simp[Act.put,Xx,hT.t6,hT.t10,hT.t11,hT.t42,hT.t43];done)|simp[Act.put,Xx,hT.sz]
theorem uf{b1 b2:Nat}{o1 o2:Obj}:∀x∈[(b2,o2),(b1,o1)],two b1 b2 x.1:=λx hx=>by
 simp only[Xy,XG,Yn]at hx
 rcases hx with rfl|rfl
 ·exact .inr rfl
 ·exact .inl rfl
theorem La (X : Ba c W bx bs xv qS A) {r i b1 b2 : Nat} (hi : i + (r + 1) = c.n) (ih : ∀ T, mg c bx bs cap A T (i + 1) -> GX c.P true (R0 c fQ) (DS c fQ) (FD c W) (rS c W bx bs cs r) (G (Q8 T) cs)) {T : Array Value} (hT : TG c bx bs cap A T i b1 b2) :
  GX c.P true (R0 c (two b1 b2)) (DS c (two b1 b2)) (FB c W [(b2,.cells #[qS i] 64),(b1,.cells #[.int .i64 i] 3)]) (AtGo c (jM c (AtKd c (mw c W bx bs cs)) r) i b1 b2) (G ((base 8).at ⟨T,[]⟩ (.inRegion Cf [] :: .code (.region 13 vp false)::kR)) cs):=by
 have hL:=X.L0;have WL:=Dk (c:=c) (W:=W) (bs:=two b1 b2) (l:=[(b2,.cells #[qS i] 64),(b1,.cells #[.int .i64 i] 3)]) (by omega) uf;refine GX.fin WL.toWk ?_;refine GX.region WL.toWk ?_;rw[aa9];refine GX.lO WL.toWk ag0 (xmf (vs:=#[.pointer (some ⟨c.Wg,0,none⟩),.pointer (some ⟨bx,0,none⟩),.pointer (some ⟨b2,0,none⟩),.pointer (some ⟨bs,0,none⟩),.pointer (some ⟨b1,0,none⟩)]) (by simp[Act.eval,hT.t6,hT.t10,hT.t11,hT.t12,hT.t13])) (by decide) (λw _=>rfl) (λw _=>rfl) ?_;refine GX.stop WL.toWk λw hF=>?_;obtain⟨m2,l2⟩:=hF.mine _ (XX ..);obtain⟨m1,l1⟩:=hF.mine (b1,.cells #[.int .i64 i] 3) (by simp);refine⟨rfl,_,_,go_step af9 (by decide) (f:=33) (vs:=#[.pointer (some ⟨c.Wg,0,none⟩),.pointer (some ⟨bx,0,none⟩),.pointer (some ⟨b2,0,none⟩),.pointer (some ⟨bs,0,none⟩),.pointer (some ⟨b1,0,none⟩)]) (by simp[Act.eval,Act.put,Xx,hT.sz]),λhp=>?_,?_⟩
 ·have K:=X.K i (by omega)
  have hG:=RB (c:=c) (Z:=λb=>c.old b∨two b1 b2 b) (bx:=bx) (bs:=bs) (b1:=b1) (b2:=b2) (i:=i) (xv:=xv) (fv:=qS i) (W1:=w) X.P X.ty (λb hb=>.inl hb) (by omega) ⟨qq hF.toFD X.os X.sh,(lu m1).1,qq hF.toFD X.ox X.xb,(lu m2).1⟩ (.inl X.os) (.inr (.inl rfl)) (.inl X.ox) (.inr (.inr rfl)) (Ne.symm X.CW) X.Q X.NG
   ⟨λw' h=>K.lone w' λb hb=>(h b hb).trans (hF.old b hb),K.res⟩
  rw[X.P]at hG ⊢;exact hG.at ⟨λ_ _=>rfl,hF.live,hp⟩
 ·rw[E5]
  refine GX.at (E6 X hi ih (T:=T.setIfInBounds 50 _) ?_) hF.toFD;exact⟨by simp[hT.sz],by simp[Xx,hT.t6],by simp[Xx,hT.t10],by simp[Xx,hT.t11],by simp[Xx,hT.t42],by simp[Xx,hT.t43],by simp[Xx,hT.t44]⟩
theorem IS (X : Ba c W bx bs xv qS A) {r i b1 b2 : Nat} (hi : i + (r + 1) = c.n) (eW : b1 ≠ b2) (ih : ∀ T, mg c bx bs cap A T (i + 1) -> GX c.P true (R0 c fQ) (DS c fQ) (FD c W) (rS c W bx bs cs r) (G (Q8 T) cs)) {T : Array Value} (hT : TG c bx bs cap A T i b1 b2) (h46 : T[46]? = some (.int .i64 i)) (h48 : T[48]? = some (qS i)) :
  GX c.P true (R0 c (two b1 b2)) (DS c (two b1 b2)) (FB c W [(b2,.cells #[.slice none 0 0] 64),(b1,.cells #[.int .i64 0] 3)]) (AtKdS c (jM c (AtKd c (mw c W bx bs cs)) r) i b1 b2) (G ((base 8).at ⟨T,[]⟩ (.inRegion o7 [5,6] :: .code (.seq (.region 12 Cf false) (.region 13 vp false))::kR)) cs):=by
 have hL:=X.L0;have WL0:=Dk (c:=c) (W:=W) (bs:=two b1 b2) (l:=[(b2,.cells #[.slice none 0 0] 64),(b1,.cells #[.int .i64 0] 3)]) (by omega) uf;have WL1:=Dk (c:=c) (W:=W) (bs:=two b1 b2) (l:=[(b2,.cells #[.slice none 0 0] 64),(b1,.cells #[.int .i64 i] 3)]) (by omega) uf;have WL:=Dk (c:=c) (W:=W) (bs:=two b1 b2) (l:=[(b2,.cells #[qS i] 64),(b1,.cells #[.int .i64 i] 3)]) (by omega) uf;obtain⟨A',l',k',hf⟩:=X.fs i (by omega)
 have lv:∀{w:World} {b:Nat} {v:Value},FD c W w->c.L0≤b->FD c W (w.setCell ⟨b,0,none⟩ v):=λ{w b v} h hb=>⟨HI h.live (ee (by show c.Wg≠b;omega)),λq hq=>by
  rw[ee (by show q≠b;have:=hq.1;omega)];exact h.old q hq⟩
 refine GX.Ly (F':=FB c W [(b2,.cells #[.slice none 0 0] 64),(b1,.cells #[.int .i64 i] 3)]) WL0.toWk ag2 (xst (v:=.pointer (some ⟨b1,0,none⟩)) (u:=.int .i64 i) (by simp[Act.eval,hT.t12]) (by simp[Act.eval,h46])) (ad:=⟨b1,0,none⟩) (v:=.int .i64 i) (by decide) (λw hF=>(st3 X.P ?_).1) (λw hF=>(st3 X.P ?_).2) (by rw[X.P];exact Mr) (λw hF=>Dz (.inl rfl) w) (λw hF=>?_) ?_
 ·exact⟨_,lu (hF.mine (b1,.cells #[.int .i64 0] 3) (by simp)).1⟩
 ·exact⟨_,lu (hF.mine (b1,.cells #[.int .i64 0] 3) (by simp)).1⟩
 ·obtain⟨m2,l2⟩:=hF.mine (b2,.cells #[.slice none 0 0] 64) (by simp)
  obtain⟨m1,l1⟩:=hF.mine (b1,.cells #[.int .i64 0] 3) (by simp);refine⟨lv hF.toFD l1,λx hx=>?_⟩;simp only[Xy,XG,Yn]at hx
  rcases hx with rfl|rfl
  ·exact⟨(ee (by show b2≠b1;exact Ne.symm eW)).trans m2,l2⟩
  ·exact⟨Ht m1,l1⟩
 refine GX.Ly (F':=FB c W [(b2,.cells #[qS i] 64),(b1,.cells #[.int .i64 i] 3)]) WL1.toWk ag1 (xst (v:=.pointer (some ⟨b2,0,none⟩)) (u:=.slice A' l' k') (by simp[Act.eval,Act.put,hT.t13]) (by simp[Act.eval,Act.put,h48,hf])) (ad:=⟨b2,0,none⟩) (v:=.slice A' l' k') (by decide) (λw hF=>(ab6 X.P ?_).1) (λw hF=>(ab6 X.P ?_).2) (by rw[X.P];exact Mr) (λw hF=>Dz (.inr rfl) w) (λw hF=>?_) ?_
 ·exact⟨_,lu (hF.mine (b2,.cells #[.slice none 0 0] 64) (by simp)).1⟩
 ·exact⟨_,lu (hF.mine (b2,.cells #[.slice none 0 0] 64) (by simp)).1⟩
 ·obtain⟨m2,l2⟩:=hF.mine (b2,.cells #[.slice none 0 0] 64) (by simp)
  obtain⟨m1,l1⟩:=hF.mine (b1,.cells #[.int .i64 i] 3) (by simp);refine⟨lv hF.toFD l2,λx hx=>?_⟩;simp only[Xy,XG,Yn]at hx
  rcases hx with rfl|rfl
  ·rw[hf];exact⟨Ht m2,l2⟩
  ·exact⟨(ee (by show b1≠b2;exact eW)).trans m1,l1⟩
 refine GX.fin WL.toWk ?_;refine GX.seq WL.toWk ?_;refine GX.region WL.toWk ?_;rw[ab0];refine GX.Tx WL.toWk (fn:=addFn wX) (vs:=#[.pointer (some ⟨c.Wg,0,none⟩),.int .i64 1]) (n:=115) aw7 rfl (by decide) (Mt X).f_add (nm_add wX) (co:=body_add wX) rfl (by simp[Act.eval,Act.put,hT.t11]) rfl ?_;rw[Up];refine as9 (L:=wX) (c:=c) (Mt X) WL ?_;refine La X hi ih (T:=T.setIfInBounds 49 (.tuple #[])) ⟨⟨?_,?_,?_,?_,?_,?_,?_⟩,?_,?_⟩<;>first|(simp[Xx,hT.t6,hT.t10,hT.t11,hT.t12,hT.t13,hT.t42,hT.t43,hT.t44];done)|simp[Xx,hT.sz]
theorem E7(X:Ba c W bx bs xv qS A){r i:Nat}(hi:i+(r+1)=c.n)(ih:∀T,mg c bx bs cap A T (i+1)->GX c.P true (R0 c fQ) (DS c fQ) (FD c W) (rS c W bx bs cs r) (G (Q8 T) cs)){T:Array Value}(hT:mg c bx bs cap A T i):GX c.P true (R0 c fQ) (DS c fQ) (FD c W) (rS c W bx bs cs (r+1)) (G (Q8 T) cs):=by
 have hL:=X.L0;have CQ:c.n - (r+1)=i:=by omega
 have WK:=(Dj (c:=c) (W:=W) (by omega)).toWk;obtain⟨ad,rfl,had,Pa⟩:=X.el i (by omega);unfold Q8;rw[TH];refine GX.seq WK ?_;refine GX.region WK ?_;rw[R9];refine GX.lO WK ag8 (xbi (v:=.int .i64 i) (u:=.int .i64 c.n) (by simp[Act.eval,Act.put,Xx,hT.t44]) (by simp[Act.eval,Act.put,Xx,hT.t43])) (v:=.bool true) (by decide) (λw _=>?_) (λw _=>(ls3 X.P _ _ _ _ w).2) ?_
 ·have:=(ls3 X.P (i:Int) (c.n:Int) (.tmp 44) (.tmp 43) w).1
  rwa [show decide ((i:Int)<(c.n:Int))=true from by simp;omega]at this
 refine GX.fin WK ?_;refine GX.seq WK ?_;refine GX.iS WK (by simp[Act.eval,Act.put,Xx,hT.sz]) ?_;refine GX.skip WK ?_;refine GX.seq WK ?_;refine GX.block WK ?_;refine GX.seq WK ?_;refine GX.region WK ?_;rw[ab1];refine GX.move WK ag7 (v:=.int .i64 i) (by simp[Act.eval,Act.put,Xx,hT.t44]) (by decide) ?_;refine GX.lO WK ag6 (xix (v:=.slice (some ad) c.n cap) (u:=.int .i64 i) (by simp[Act.eval,Act.put,Xx,hT.t42]) (by simp[Act.eval,Act.put,Xx,hT.t44])) (by decide) (λw _=>(ah9 X.P (by omega) w).1) (λw _=>(ah9 X.P (by omega) w).2) ?_;refine GX.fa WK ag5 (my (v:=.pointer (some (ad.add i))) (by simp[Act.eval,Act.put,Xx,hT.sz])) (v:=qS i) (es:=#[⟨.cell (ad.add i),false,false⟩]) (by decide) (λw hF=>(Bf X.P (qq hF had Pa)).1) (λw hF=>(Bf X.P (qq hF had Pa)).2) (seen_eq (by rw[X.P];exact Mr) (by simp)) (λw hF=>Ru had w) ?_;refine GX.stop WK λw hF=>?_;refine⟨rfl,_,_,_,_,A6 ag4 (by decide) (al3 X.P w),by simp,?_⟩;have hF1:=Dl hL hF.b (.cells #[.int .i64 0] 3);generalize w.heap.size=b1 at hF1;refine GX.at (F:=FB c W [(b1,.cells #[.int .i64 0] 3)]) ?_ hF1;have W1:=(Dk (c:=c) (W:=W) (bs:=two b1 b1) (l:=[(b1,.cells #[.int .i64 0] 3)]) (by omega) (λx hx=>by rw[YS]at hx;subst hx;exact .inl rfl)).toWk;refine GX.stop W1 λw hF=>?_;refine⟨rfl,_,_,_,_,A6 ag3 (by decide) (aG5 X.P w),by simp,?_⟩;have hF2:=Dl hL hF (.cells #[.slice none 0 0] 64);have bH:b1<w.heap.size:=(Xz.1 (hF.mine _ (XX ..)).1).1;generalize w.heap.size=b2 at hF2 bH;refine GX.at (F:=FB c W [(b2,.cells #[.slice none 0 0] 64),(b1,.cells #[.int .i64 0] 3)]) ?_ hF2;rw[CQ];refine IS X hi (by omega) ih ⟨⟨?_,?_,?_,?_,?_,?_,?_⟩,?_,?_⟩ ?_ ?_<;>first|(simp[Act.put,Xx,hT.t6,hT.t10,hT.t11,hT.t42,hT.t43,hT.t44];done)|simp[Act.put,Xx,hT.sz]
theorem va(X:Ba c W bx bs xv qS A):∀(r i:Nat) (T:Array Value),i+r=c.n->mg c bx bs cap A T i->GX c.P true (R0 c fQ) (DS c fQ) (FD c W) (rS c W bx bs cs r) (G (Q8 T) cs)
 | 0,i,T,h,hT=>by
  obtain rfl:i=c.n:=by omega
  exact E8 X hT
 | r+1,i,T,h,hT=>E7 X h (λT' hT'=>va X r (i+1) T' (by omega) hT') hT
end
section
open Go Go.Conc
open Am (D Rep RepL RepT SiteIn St Cx Holds Hold Awp Aops RegW T Site okOf Ours ExtM Kept AsD regB tailOk StepOp FAt)
theorem yS{P:Program}{main:Bool}{R:World->World->Prop}{D:World->World->Array Event->Prop}{Stop:Goroutine->World->Prop}{I:World->Prop}(hR:∀w w',R w w'->I w->I w')(hD:∀w w' es,D w w' es->I w->I w') :
  ∀{n:Nat} {g:Goroutine} {w:World},I w->Goes P main R D Stop n g w->Goes P main R D (λg' w'=>Stop g' w'∧I w') n g w
 | 0,_,_,hI,hg=>λcL r=>⟨hg cL r,hR _ _ r hI⟩
 | n+1,g,w,hI,hg=>by
  rcases hg with hs|⟨hr,dU⟩
  ·exact .inl λcL r=>⟨hs cL r,hR _ _ r hI⟩
  ·refine .inr ⟨hr,λcL r=>?_⟩
   have:=dU cL r;have hI1:=hR _ _ r hI;revert this
   cases stepG P main g cL<;>first|exact λh=>h|exact λx=>⟨x.1,yS hR hD (hD _ _ _ x.1 hI1) x.2⟩
theorem jk{w w':World}{ok ok':Nat->Prop}{d:D}{v:Value}(h:Rep w ok d v)(hs:w.heap.size≤w'.heap.size)(hc:∀(a:Addr) v,ok a.block->w.cell? a=some v->w'.cell? a=some v)(bg:∀b,b<w.heap.size->ok b->ok' b):Rep w' ok' d v:=by
 induction h with
 | v x h=>exact .v x h
 | emp sz A cap h=>exact .emp sz A cap h
 | sl sz es b off cap vs hb hk hn ez eQ jO kY hr ih=>
  exact .sl sz es b off cap vs (XD hb hs) (bg b hb hk) hn ez eQ jO (λi e j d h1 h2=>hc _ _ hk (kY i e j d h1 h2)) (λi e j d h1 h2=>ih i e j d h1 h2)
 | pt cs o b off vs hb hk jO kY hr ih=>
  exact .pt cs o b off vs (XD hb hs) (bg b hb hk) jO (λj d h1=>hc _ _ hk (kY j d h1)) (λj d h1=>ih j d h1)
 | fn f cap vs hl hr ih=>exact .fn f cap vs hl λj d v h1 h2=>ih j d v h1 h2
 | vB f cap vs hl hr ih=>exact .vB f cap vs hl λj d v h1 h2=>ih j d v h1 h2
 | agg cs vs hl jO hr ih=>exact .agg cs vs hl jO λj d v h1 h2=>ih j d v h1 h2
 | da cs vs hl hr ih=>exact .da cs vs hl λj d v h1 h2=>ih j d v h1 h2
 | e0 A=>exact .e0 A
 | nan k b h=>exact .nan k b h
def Tm(w:World)(ok:Nat->Prop):List (Nat × D)->Array Value->Prop
 | [],_=>True
 | x::l,T=>(∃v,T[x.1]?=some v∧Rep w ok x.2 v)∧Tm w ok l T
theorem Tm.imp{w w':World}{ok ok':Nat->Prop}{T:Array Value}(h:∀d v,Rep w ok d v->Rep w' ok' d v):∀{l:List (Nat × D)},Tm w ok l T->Tm w' ok' l T
 | [],_=>trivial
 | _::_,⟨⟨v,h1,h2⟩,k⟩=>⟨⟨v,h1,h _ _ h2⟩,k.imp h⟩
theorem Tm.cells{w w':World}{ok ok':Nat->Prop}{T:Array Value}{l:List (Nat × D)}(h:Tm w ok l T)(hs:w.heap.size≤w'.heap.size)(hc:∀(a:Addr) v,ok a.block->w.cell? a=some v->w'.cell? a=some v)(bg:∀b,b<w.heap.size->ok b->ok' b):Tm w' ok' l T:=
 h.imp λ_ _ r=>jk r hs hc bg
theorem Tm.put{w:World}{ok:Nat->Prop}{T:Array Value}{d:Nat}{v:Value}:∀{l:List (Nat × D)},(l.all λx=>!(Nat.beq x.1 d))=true->Tm w ok l T->Tm w ok l (T.setIfInBounds d v)
 | [],_,_=>trivial
 | x::l,h,⟨⟨u,h1,h2⟩,k⟩=>by
  simp only[Ze,Xs,Yg]at h;exact⟨⟨u,by rw[XE (Ne.symm (Nat.ne_of_beq_eq_false h.1))];exact h1,h2⟩,k.put h.2⟩
def dT:List (Nat × D)->Nat->T
 | [],_=>.dead
 | x::l,k=>bif Nat.beq k x.1 then .d x.2 else dT l k
def stD(n:Nat)(l:List (Nat × D)):St:=⟨n,dT l,λ_=>.no⟩
def cxD(w:World)(ok:Nat->Prop):Cx:=⟨w,ok,λ_=>False,λ_=>none,λ_=>none,none⟩
theorem N4{w:World}{ok:Nat->Prop}{blk:Nat->Option Nat}{val:Nat->Value}{s:Nat->Site}{T:Array Value}(k:Nat):∀{l:List (Nat × D)},Tm w ok l T->RepT w ok blk val s (dT l k) (T.getD k undef)
 | [],_=>trivial
 | x::l,⟨⟨v,h1,h2⟩,h⟩=>by
  unfold dT
  cases hb:Nat.beq k x.1 with
  | false=>exact N4 k h
  | true=>
   have e:=Xq hb;subst e;have:T.getD x.1 undef=v:=by rw[XN,h1];rfl
   rw[this];exact h2
theorem vM{w:World}{ok:Nat->Prop}{n:Nat}{l:List (Nat × D)}{T:Array Value}(h:Tm w ok l T)(hn:T.size=n):Holds (cxD w ok) (stD n l) ⟨T,[]⟩ w:=by
 refine⟨λ_=>none,λ_=>undef,⟨rfl,rfl,rfl,Xw _,λ_ _ _=>rfl⟩,Kept.nil rfl rfl,hn,λs b h=>by simp at h,λs s' b h=>by simp at h,(λk b h=>by cases h),λs=>rfl,λt=>?_⟩;exact N4 t (h.imp λd v r=>Rep.ok r λb hb hk=>⟨.inl hk,λs h=>by cases h⟩)
def OutD(st:St):List (Nat × D)->Prop
 | []=>True
 | x::l=>(Nat.blt x.1 st.n=true∧AsD st.s (st.t x.1) x.2)∧OutD st l
theorem qI{w w':World}{ok:Nat->Prop}{st:St}{a:Act}(h:Holds (cxD w ok) st a w'):∀{l:List (Nat × D)},OutD st l->Tm w' (λb=>ok b∨w.heap.size≤b) l a.tmps
 | [],_=>trivial
 | x::l,⟨⟨h1,h2⟩,k⟩=>by
  refine⟨?_,qI h k⟩;obtain⟨blk,val,hh⟩:=h;have hx:x.1<a.tmps.size:=by rw[hh.size];exact Nat.le_of_ble_eq_true h1
  have:=Rep.as' (ok':=λb=>ok b∨w.heap.size≤b) (hh.tmp x.1) hh.site h2 (λb hb=>hb.1) (λk b hb=>(hh.new k b hb).1.elim .inr λh=>h.elim);rw[XN,X4 hx]at this;exact⟨_,X4 hx,this⟩
def Fj:Next->Prop
 | .value _|.skip|.enter _ _=>True
 | _=>False
def ND(s:Sem Next):Prop:=∀(P:Program) (w:World) (n:Next) (w':World),s.run P w=.ok n w'->Fj n
theorem ah1(s:Sem Value):ND (do Pure.pure (.value (<-s))):=λP w d w' h=>by
 rw[Sem.run_bind]at h
 cases hs:s.run P w<;>rw[hs]at h<;>simp at h
 rw[<-h.1];trivial
theorem aw9(s:Sem Unit):ND (do s;Pure.pure .skip):=λP w d w' h=>by
 rw[Sem.run_bind]at h
 cases hs:s.run P w<;>rw[hs]at h<;>simp at h
 rw[<-h.1];trivial
theorem z8{n:Next}(h:Fj n):ND (Pure.pure n):=λP w d w' e=>by
 rw[Sem.run_pure]at e
 cases e
 exact h
theorem uz{α:Type}{s:Sem α}{f:α->Sem Next}(h:∀x,ND (f x)):ND (s >>= f):=λP w d w' e=>by
 rw[Sem.run_bind]at e
 cases hs:s.run P w with
 | ok x w1=>rw[hs]at e;exact h x P w1 d w' e
 | halt x w1=>rw[hs]at e;simp at e
def ndB(P:Program)(o:Oper):Bool:=
 match o.op with
 | .defer _|.go _|.send _ _|.recv _ _ _|.select _ _=>false
 | .call c=>(match c.callee with
  | .value (.func f)=>(match P.funcs[f]? with
   | some fn=>fn.body.isSome && !(fn.name == "runtime.NumGoroutine")
   | none=>false)
  | .builtin .len=>true
  | _=>false)
 | _=>true
theorem uy{P:Program}{o:Oper}{a:Act}{w w':World}{n:Next}(h:ndB P o=true)(e:(execOp a.eval o).run P w=.ok n w'):Fj n:=by
 unfold execOp at e;unfold ndB at h
 cases ho:o.op<;>simp only[ho]at e h<;>first
  | exact ah1 _ P w n w' e
  | exact aw9 _ P w n w' e
  | (cases h;done)
  | (simp at e;rw[<-e.1];trivial)
  | skip
 ·refine uz (λx=>?_) P w n w' e
  exact z8 (n:=.value _) trivial
 ·rename_i x
  revert e;generalize a.eval x=v;intro e
  split at e<;>first|(simp[go_sem]at e;done)|(simp at e;rw[<-e.1];trivial)|skip
  split at e<;>first|(simp[go_sem]at e;done)|(simp at e;rw[<-e.1];trivial)|skip
  refine uz (λp=>uz λq=>?_) P w n w' e
  split
  ·refine uz λx=>?_
   exact z8 (n:=.value _) trivial
  ·exact z8 (n:=.value _) trivial
 ·rename_i c
  cases hc:c.callee with
  | builtin b=>
   rw[hc]at h
   cases b<;>first|(cases h;done)|skip
   simp only[resolve,hc,pure_bind,invoke,builtin]at e;exact ah1 _ P w n w' e
  | invoke r n=>rw[hc]at h;cases h
  | value x=>
   rw[hc]at h
   cases x with
   | func f=>
    simp only at h
    cases hf:P.funcs[f]? with
    | none=>rw[hf]at h;cases h
    | some fn=>
     rw[hf]at h;simp only[Xs,Yg]at h;simp only[resolve,hc,Act.eval,Deferred.ofValue,Sem.run_bind,Sem.run_pure,Result.andThen_ok,invoke,callFunc]at e;rw[show program.run P w=.ok P w from rfl]at e;simp only[Result.andThen_ok,hf]at e;rw[Xr (by rw[h.2];simp),Xr (by intro hn;rw[Zz]at hn;rw[hn]at h;cases h.1)]at e;simp at e;rw[<-e.1];trivial
   | _=>cases h
theorem gy{P:Program}{o:Oper}(h:ndB P o=true):∀c,o.op≠.defer c:=λc e=>by
 unfold ndB at h;rw[e]at h
 cases h
theorem nX{P:Program}{ops:Array Oper}{m:Nat}{Z:Exit->Act->World->Prop}:∀{l:List Oper} {a:Act} {w:World},l.all (ndB P)=true->a.defers=[]->wpListIn Fence.wide m P ops Z l a w->wpListIn Fence.wide m P ops (λe a' w'=>Z e a' w'∧(e=.normal->a'.defers=[])) l a w
 | [],a,w,_,hd,h=>⟨h,λ_=>hd⟩
 | o::l,a,w,hl,hd,h=>by
  simp only[Ze,Xs]at hl;unfold wpListIn at h ⊢
  split
  ·rename_i hw
   rw[Xu hw]at h;obtain⟨h1,h2⟩:=h;refine⟨h1,?_⟩;rw[Oper.semAt_eq _ _ _ (gy hl.1)]at h2 ⊢;have hp:∀(v:Value) w',wpListIn Fence.wide m P ops Z l (a.put o.dst v) w'->wpListIn Fence.wide m P ops (λe a' w'=>Z e a' w'∧(e=.normal->a'.defers=[])) l (a.put o.dst v) w':=λv w' h=>nX hl.2 (by cases o.dst<;>exact hd) h;have hn:=λn w'=>uy (P:=P) (o:=o) (a:=a) (w:=w) (w':=w') (n:=n) hl.1;generalize (execOp a.eval o).run P w=r at *;unfold Oper.uponIn at h2 ⊢
   split at h2
   ·exact hp _ _ h2
   ·exact hp _ _ h2
   ·exact(hn _ _ rfl).elim
   ·refine⟨h2.1,h2.2.mono λe w' he=>?_⟩
    cases e with
    | returned v=>exact hp _ _ he
    | panicked c=>exact⟨he,λe=>by cases e⟩
    | outgrown=>obtain⟨a',JZ,he⟩:=he;exact⟨a',JZ,he,λe=>by cases e⟩
   ·exact⟨h2.1,h2.2.mono λv w' he=>hp _ _ he⟩
   ·refine⟨h2.1,h2.2.mono λe w' he=>?_⟩
    cases e with
    | returned v=>exact hp _ _ he
    | panicked c=>exact⟨he,λe=>by cases e⟩
    | outgrown=>obtain⟨a',JZ,he⟩:=he;exact⟨a',JZ,he,λe=>by cases e⟩
   ·exact⟨h2,λe=>by cases e⟩
   ·exact h2.elim
  ·rename_i hw
   rw[Xr hw]at h;exact⟨h.1,nX hl.2 (by cases o.dst<;>exact hd) h.2⟩
def SW(Q:Program)(b:Frame)(cs:List Frame)(w0:Cx)(Post:Frame->World->Prop)(items:List Item)(st:St):Prop:=
 ∀a w,a.defers=[]->Holds w0 st a w->∃fr w',Steps Q (lone (b.at a items) cs w) (lone fr cs w')∧Post fr w'
variable{Q:Program}{b:Frame}{cs:List Frame}{w0:Cx}{Post:Frame->World->Prop}{k:List Item}{st:St}{x y:Code}
theorem sw_seq(h:SW Q b cs w0 Post (.code x :: .code y::k) st):SW Q b cs w0 Post (.code (.seq x y)::k) st:=λa w hd hH=>
 let ⟨fr,w',hs,hp⟩:=h a w hd hH;⟨fr,w',IQ.trans hs,hp⟩
theorem sw_skip(h:SW Q b cs w0 Post k st):SW Q b cs w0 Post (.code .skip::k) st:=λa w hd hH=>
 let ⟨fr,w',hs,hp⟩:=h a w hd hH;⟨fr,w',(Steps.one (step_lone_go (by simp[stepG,stepG.exec,Frame.at,GStep.bare]))).trans hs,hp⟩
theorem sw_nil{ops:Array Oper}(h:SW Q b cs w0 Post k st):SW Q b cs w0 Post (.inRegion ops []::k) st:=λa w hd hH=>
 let ⟨fr,w',hs,hp⟩:=h a w hd hH;⟨fr,w',(Steps.one (step_lone_go (by simp[stepG,stepG.exec,Frame.at,GStep.bare]))).trans hs,hp⟩
theorem sw_stop(h:∀a w,a.defers=[]->Holds w0 st a w->Post (b.at a k) w):SW Q b cs w0 Post k st:=λa w hd hH=>⟨_,_,.refl _ _,h a w hd hH⟩
theorem sw_ret(h:∀a w,a.defers=[]->Holds w0 st a w->Post { b.at a (.code .ret::k) with mode:=.returning } w):SW Q b cs w0 Post (.code .ret::k) st:=λa w hd hH=>
 ⟨_,_,.one (step_lone_go (by simp[stepG,stepG.exec,Frame.at,GStep.bare])),h a w hd hH⟩
theorem sw_cond{c:Operand}{v:Bool}(hc:st.ev c=Am.T.bool v)(ht:v=true->SW Q b cs w0 Post (.code x::k) st)(hf:v=false->SW Q b cs w0 Post (.code y::k) st):SW Q b cs w0 Post (.code (.cond c x y)::k) st:=λa w hd hH=>by
 have hv:a.eval c=.bool v:=by obtain⟨blk,val,hh⟩:=hH;exact hh.bool hc
 have h':(b.at a (.code (.cond c x y)::k)).eval c=.bool v:=by rw[Frame.eval_at];exact hv
 have hs:Steps Q (lone (b.at a (.code (.cond c x y)::k)) cs w) (lone (b.at a (.code (if v then x else y)::k)) cs w):=.one (step_lone_go (by
  simp only[Frame.at]at h'
  simp[stepG,stepG.exec,Frame.at,GStep.bare,h']))
 cases v with
 | true=>obtain⟨fr,w',h1,h2⟩:=ht rfl a w hd hH;exact⟨fr,w',hs.trans h1,h2⟩
 | false=>obtain⟨fr,w',h1,h2⟩:=hf rfl a w hd hH;exact⟨fr,w',hs.trans h1,h2⟩
theorem sw_region{l:List Oper}{id:Nat}(n:Nat)(Js:w0.uk=none)(hb:b.roundOf=none)(h:(regB l n st.n&&decide (n≤l.length))=true)(o9:l.all (ndB Q)=true)
  (hW:RegW Q w0 st l n (l.take n) 0 (λ_=>.dead) st (λst'=>Aops Q w0 l (l.drop n) (λe st'=>e=.normal∧SW Q b cs w0 Post k st') st')):SW Q b cs w0 Post (.code (.region id l.toArray false)::k) st:=by
 intro a w hd hH;simp only[Xs,XW]at h;obtain⟨h,hn⟩:=h;have J4:(l.take n).length=n:=by simp;omega
 have HP:∀k,k<(l.take n).length->(l.take n)[k]?=l[0+k]?:=λk hk=>by rw[J4]at hk;simp[hk]
 obtain⟨xs,_,hO,hK⟩:=Am.qe h (l.take n) 0 _ _ (by omega) HP hW;have hF:FAt w0 Fence.wide:=⟨.inl rfl,Js.symm⟩
 have hT:∀a w,Holds w0 (Am.dX st l n xs (Am.gd n)) a w->wpListIn Fence.wide 1 Q l.toArray (Am.Post w0 (λe st'=>e=.normal∧SW Q b cs w0 Post k st')) (l.drop n) a w:=λa w hH=>
  hK Fence.wide 1 hF a w (hH.EB (Am.vo h (l.take n) 0 st (by omega) HP (by rw[Am.fg (λp _=>by simp[Am.gd])];exact⟨rfl,rfl,λ_=>.inl rfl⟩)))
 have hl:=Am.G6 (m:=1) hF h hn (λk o hk ho=>hO k o (XC _) hk ho) hT n 0 rfl (XC _) a w (by rw[Am.fg (λp _=>by simp[Am.gd])];exact hH);have hl:=nX (l:=l) o9 hd (by simpa using hl);rw[<-wpOpsIn_eq_wpListIn (ops:=l.toArray) l 0 (by simp),<-List.range_eq_range',show l.length=l.toArray.size by simp]at hl;obtain⟨e,a',w',⟨⟨st',⟨he,hs⟩,oO⟩,Bl⟩,h1,_⟩:=Bv hl hb k cs;obtain⟨fr,JZ,h2,hp⟩:=hs a' w' (Bl he) oO;exact⟨fr,JZ,qg.trans ((h1 he).trans h2),hp⟩
theorem sw_op{st':St}{ops:Array Oper}{i:Nat}{rest:List Nat}{o:Oper}(Js:w0.uk=none)(hk:b.kind=.normal)(hb:b.roundOf=none)(ho:ops[i]?=some o)(hg:o.guard=none)(o9:ndB Q o=true)(dU:StepOp Q w0 st o st')
  (h:SW Q b cs w0 Post (.inRegion ops rest::k) st'):SW Q b cs w0 Post (.inRegion ops (i::rest)::k) st:=by
 intro a w hd hH;have hn:=λn w'=>uy (P:=Q) (o:=o) (a:=a) (w:=w) (w':=w') (n:=n) o9;have hw:Region.wanted o (yielded ops a.tmps)=true:=by simp[Region.wanted,hg]
 have h1:=dU a w hH Fence.wide 1 ⟨.inl rfl,Js.symm⟩
 have aj5:o.wpIn Fence.wide 1 Q a w (λa' w'=>Holds w0 st' a' w'∧a'.defers=[]) (λ_ _ _=>False):=by
  obtain⟨h0,h2⟩:=h1;refine⟨h0,?_⟩;rw[Oper.semAt_eq _ _ _ (gy o9)]at h2 ⊢;have hp:∀v,(a.put o.dst v).defers=[]:=λv=>by cases o.dst<;>exact hd
  generalize (execOp a.eval o).run Q w=r at *;unfold Oper.uponIn at h2 ⊢
  split at h2
  ·exact⟨h2,hp _⟩
  ·exact⟨h2,hp _⟩
  ·exact(hn _ _ rfl).elim
  ·refine⟨h2.1,h2.2.mono λe w' he=>?_⟩
   cases e with
   | returned v=>exact⟨he,hp _⟩
   | panicked c=>exact he
   | outgrown=>exact he
  ·exact(hn _ _ rfl).elim
  ·exact(hn _ _ rfl).elim
  ·exact h2
  ·exact h2.elim
 obtain⟨a',w',⟨oO,Bl⟩,hs⟩:=vr (cs:=cs) (k:=k) ho hw hk hb (λd w' e=>hn _ _ e) (λr x w' e=>hn _ _ e) (λl f t x y w' e=>hn _ _ e) (gy o9) aj5;obtain⟨fr,JZ,h2,hp⟩:=h a' w' Bl oO;exact⟨fr,JZ,hs.trans h2,hp⟩
open Go.ConcN (ShN)
open Go.ConcR (DC0)
variable{P:Program}{g g':Goroutine}{w:World}{sl:Option (Nat × Nat)}{t:Trace}
theorem IM(hr:g.status=.running):∃d sl',stepT P (crowd #[g] w sl)=runT P (crowd #[g] (w.at d) sl') 0:=by
 obtain⟨i,g1,d,sl',hi,hg,dU⟩:=crowd_pick (P:=P) (w:=w) (sl:=sl) (gs:=#[g]) (λx hx tm=>by
  have:x=g:=by simpa using hx
  subst this;rw[hr];simp) ⟨0,g,rfl,hr⟩
 have:i=0:=by have:=(Xz.1 hi).1;simpa using this
 subst this;exact⟨d,sl',dU⟩
theorem nQ(hr:g.status=.running)(w':Nat->World)(g2:Nat->Goroutine)(h:∀d,stepG P true g (w.at d)=.go (g2 d) (w' d) #[]):∃d sl',runNT P 1 (crowd #[g] w sl) t=(.next (crowd #[g2 d] (w' d) sl'),t):=by
 obtain⟨d,sl',hp⟩:=IM (P:=P) (w:=w) (sl:=sl) hr;refine⟨d,sl',?_⟩;have:=runT_crowd_go (P:=P) (gs:=#[g]) (sl:=sl') (i:=0) (w:=w.at d) rfl (h d);rw[ofEvents_eq]at this;simp only[runNT,hp,this];simp
theorem gC{P:Program}{a b:Nat}{m m1:Machine}{t t1:Trace}{r:Stepped × Trace}(h:runNT P a m t=(.next m1,t1))(h':runNT P b m1 t1=r):runNT P (a+b) m t=r:=by rw[runNT_add,h];exact h'
def GC(P:Program)(m0:Machine)(fr:Frame)(cs:List Frame)(w:World):Prop:=∃n sl t q,runNT P n m0 #[]=(.next (crowd #[G fr cs] w sl),t)∧Past (λ_=>False) w.heap.size t∧(∀op∈t,op.g=0)∧Leavers P t #[G fr cs] q
def JW(P:Program)(m0:Machine)(Shun:Loc->Prop)(fr:Frame)(cs:List Frame)(w:World):Prop:=∃n gs sl t q B,runNT P n m0 #[]=(.next (crowd gs w sl),t)∧gs[0]?=some (G fr cs)∧Leavers P t gs q∧Past Shun (max B w.heap.size) t
structure Sg(M:Nat)(w wE w':World):Prop where
 cell:∀(a:Addr) v,wE.cell? a=some v->w'.cell? a=some v
 heap:∀(b:Nat) o,M≤b->wE.heap[b]?=some o->o≠cu->w'.heap[b]?=some o
 size:wE.heap.size=w'.heap.size
 tape:w'.tape=w.tape
 os:w'.os=w.os
 output:w'.output=w.output
 low:∀b,b<M->w'.heap[b]?=w.heap[b]?
end
section
open Go Go.Conc
open Go.ConcN (ShN)
open Go.ConcR (DC0)
open Am (D Rep)
variable{P Q:Program}{NG M:Nat}{m0:Machine}{Shun:Loc->Prop}{X:Nat->Prop}{fr fr' r8:Frame}{cs cs':List Frame}{w w' wE W0:World}{r:Option Code}{Post:Frame->World->Prop}
theorem JN{sl:Option (Nat × Nat)}:GC P (crowd #[G fr cs] w sl) fr cs w:=
 ⟨0,sl,#[],λ_=>0,rfl,past_nil.mono (XC _),by simp,leavers_one P _⟩
theorem GC.n(h:GC P m0 fr cs w):JW P m0 (λ_=>False) fr cs w:=
 let ⟨n,sl,t,q,h1,h2,_,h4⟩:=h;⟨n,_,sl,t,q,0,h1,rfl,h4,h2.mono (Za ..)⟩
theorem JS.sg{gs:Array Goroutine}{sl:Option (Nat × Nat)}(O:JS P NG M W0 wE (crowd gs w sl) w'):Sg M w wE w':=
 ⟨λa v h=>by have:=O.wr.cell h;rwa [vf,show rA id a=a from rfl]at this,λb o hb h hd=>O.heap (w0:=w) hb h hd,O.size,O.tape,O.os,O.output,O.low⟩
theorem Oy(h:GC P m0 fr cs w)(hs:∀d,stepG P true (G fr cs) (w.at d)=.go (G fr' cs') (w.at d) #[]):∃d,GC P m0 fr' cs' (w.at d):=by
 obtain⟨n,sl,t,q,h1,h2,h3,h4⟩:=h;obtain⟨d,sl',hr⟩:=nQ (P:=P) (g:=G fr cs) (w:=w) (sl:=sl) (t:=t) rfl (λd=>w.at d) (λ_=>G fr' cs') hs;exact⟨d,_,sl',t,q,gC h1 hr,h2,h3,⟨λi g hi hg=>by have:=(Xz.1 hg).1;simp at this;omega,h4.above⟩⟩
theorem D2{g:Goroutine}{m:Nat}(h:∃n gs sl t q B,runNT P n m0 #[]=(.next (crowd gs w sl),t)∧gs[0]?=some g∧Leavers P t gs q∧Past Shun (max B w.heap.size) t)(hG:Goes P true AtRel DC0 (λg' _=>g'=G fr' cs') m g w):∃d,JW P m0 Shun fr' cs' (w.at d):=by
 obtain⟨n,gs,sl,t,q,B,h1,h2,h3,h4⟩:=h;have hk:=yS (I:=λw'=>∃d,w'=w.at d) (λa b hr ⟨d,e⟩=>by obtain⟨d',rfl⟩:=hr;exact⟨d',by rw[e];rfl⟩) (λa b es hd hi=>by rw[hd.1];exact hi) ⟨w.drawn,rfl⟩ hG;obtain⟨N,W5,a',w',sl',t',q',k1,k2,k3,⟨k4,d,k5⟩,k6,k7⟩:=walk_beside (Shun:=Shun) (B:=max B w.heap.size) (D:=DC0) (λw w' es hd e he=>by rw[hd.2]at he;simp at he) _ m gs _ w sl t q (Xw _) h2 h3 h4 hk;subst k4;subst k5;exact⟨d,_,W5,sl',t',q',B,gC h1 k1,k3,k6,k7⟩
theorem Ox{m:Nat}(h:JW P m0 Shun fr cs w)(hG:Goes P true AtRel DC0 (λg' _=>g'=G fr' cs') m (G fr cs) w):∃d,JW P m0 Shun fr' cs' (w.at d):=D2 h hG
theorem RK(H:Fk Q P (KO NG P) id)(h:GC P m0 fr cs w)(hM:M≤w.heap.size)(ep:∀c∈cs,c.mode=.run)(ok:mu NG Q P r8)(jD:r8.roundOf=none)(E:Ex r cs (cy r8 cs) (cy fr cs))
  (hl:∀tp,∃cB wE,Steps Q (lone r8 [di Q] (lw (KO NG P) M (λ_=>False) tp w)) (lone cB [di Q] wE)∧Post cB wE) (hP:∀cB wE,Post cB wE->(∀ch,cB.mode≠.panicking ch)∧(r≠none->cB.mode=.run->cB.todo=[.code (.exit 0)])) :
  ∃cB wE w' T,Post cB wE∧GC P m0 { cB with todo:=T } cs w'∧(r=none->T=cB.todo)∧(∀rc,r=some rc->cB.mode=.run->T=[.code rc])∧Sg M w wE w'∧mu NG Q P cB:=by
 obtain⟨n,sl,t,q,h1,h2,h3,h4⟩:=h
 obtain⟨cB,wE,N,gs,w',sl',q',t',T,k1,k2,k3,k4,k5,k6,k7,k8,k9,k10,k11⟩:=G7 (M:=M) (r:=r) (cs':=cs) (Shun:=λ_=>False) (B:=0) (X:=λ_=>False) (Post:=Post) (EY:=sl) H hM (λb h=>h.elim) (λl h=>h.elim) ep rfl h4 (h2.mono (Za ..)) ok jD E λtp=>by
  obtain⟨cB,wE,⟨N,hs⟩,hp⟩:=hl tp;exact⟨N,cB,wE,⟨hs,(hP _ _ hp).1⟩,(hP _ _ hp).2,hp⟩
 have Q5:gs=#[G { cB with todo:=T } cs]:=by
  apply Array.ext
  ·rw[k3];rfl
  ·intro i hi jm
   have:i=0:=by simp at jm;omega
   subst this;rw[X4 hi]at k4;exact YT k4
 subst Q5;exact⟨cB,wE,w',T,k1,⟨_,sl',t',q',gC h1 k2,by simpa using k6,k11 h3 rfl,k5⟩,k7,k8,k9.sg,k10⟩
theorem RJ(H:Fk Q P (KO NG P) id)(h:JW P m0 Shun fr cs w)(hM:M≤w.heap.size)(hX:∀b,X b->b<w.heap.size)(hS:∀l,Shun l->(∃a,l=.cell a∧X a.block)∨∃b,l=.obj b∧X b)(ep:∀c∈cs,c.mode=.run)(ok:mu NG Q P r8)(jD:r8.roundOf=none)(E:Ex r cs (cy r8 cs) (cy fr cs))
  (hl:∀tp,∃cB wE,Steps Q (lone r8 [di Q] (lw (KO NG P) M X tp w)) (lone cB [di Q] wE)∧Post cB wE) (hP:∀cB wE,Post cB wE->(∀ch,cB.mode≠.panicking ch)∧(r≠none->cB.mode=.run->cB.todo=[.code (.exit 0)])) :
  ∃cB wE w' T,Post cB wE∧JW P m0 Shun { cB with todo:=T } cs w'∧(r=none->T=cB.todo)∧(∀rc,r=some rc->cB.mode=.run->T=[.code rc])∧Sg M w wE w'∧mu NG Q P cB:=by
 obtain⟨n,wZ,sl,t,q,B,h1,h2,h3,h4⟩:=h
 obtain⟨cB,wE,N,gs,w',sl',q',t',T,k1,k2,k3,k4,k5,k6,k7,k8,k9,k10,k11⟩:=G7 (M:=M) (r:=r) (cs':=cs) (Shun:=Shun) (B:=B) (X:=X) (Post:=Post) (EY:=sl) H hM hX hS ep h2 h3 h4 ok jD E λtp=>by
  obtain⟨cB,wE,⟨N,hs⟩,hp⟩:=hl tp;exact⟨N,cB,wE,⟨hs,(hP _ _ hp).1⟩,(hP _ _ hp).2,hp⟩
 exact⟨cB,wE,w',T,k1,⟨_,gs,sl',t',q',B,gC h1 k2,k4,k5,k6⟩,k7,k8,k9.sg,k10⟩
open Go.ConcN Go.RowKit Go.Conc.Lib Go.ConcR.Gen
open Go.ConcR (KK wgBlock WgAt stA smA rd wr mk Payload)
open Am (RepL)
def aG8(d:D):Prop:=∃n,d=.v (.int .i64 n)
def Wo(es:List (List D)):Prop:=∀x∈es,∀d∈x,aG8 d
theorem P7{K:Kc}{M:Nat}{f:Re}{W0 w w':World}(H:WR K M f W0 w w'){ok S:Nat->Prop}{es:List (List D)}{v:Value}(oL:Wo es)(hS:∀b o,w.heap[b]?=some o->o≠cu->S (f b))(h:Rep w ok (.sl 2 es) v):Rep w' S (.sl 2 es) (rV f v):=by
 generalize hd:D.sl 2 es=d at h
 cases h with
 | emp sz A cap h=>
  cases hd
  rw[aW];exact .emp _ _ _ h
 | sl sz es' b off cap vs hb bg hn ez eQ hs hc hr=>
  cases hd
  rw[aW]
  cases es with
  | nil=>exact .emp _ _ _ ez
  | cons e l=>
   have he:e.length=2:=eQ 0 e rfl;obtain⟨d0,Pd⟩:∃d0,e[0]?=some d0:=⟨e[0],by rw[Xp]⟩
   obtain⟨cc,ce,cz,q1,_⟩:=cellsOf? (hc 0 e 0 d0 rfl Pd);have hl:Obj.cells cc ce cz≠cu:=λe=>by cases e
   obtain⟨o',kP,_⟩:=(H.blk _ _ q1).resolve_left hl
   have iv:∀i x j d,(e::l)[i]?=some x->x[j]?=some d->rV f (vs i j)=vs i j∧Rep w' S d (vs i j):=λi x j d h1 h2=>by
    obtain⟨n,rfl⟩:=oL x (XA h1) d (XA h2);have:=Am.Rep.c8 (hr i x j _ h1 h2);rw[this];exact⟨by simp,.v _ rfl⟩
   refine .sl 2 (e::l) (f b) off cap vs (Xz.1 kP).1 (hS b _ q1 hl) hn ez eQ hs (λi x j d h1 h2=>?_) (λi x j d h1 h2=>(iv i x j d h1 h2).2);have:=H.cell (hc i x j d h1 h2);rw[(iv i x j d h1 h2).1]at this;exact this
 | _=>cases hd
theorem yi{w:World}{ok:Nat->Prop}{es:List (List D)}{v:Value}{sz:Nat}(h:Rep w ok (.sl sz es) v):∃A l k,v=.slice A l k:=by
 cases h<;>exact⟨_,_,_,rfl⟩
theorem sd{a:MemAct}{B:Nat}{x:Touch}(h:a.low B)(hx:a.touch?=some x):x.loc.low B:=by
 cases a with
 | access e=>simp only[MemAct.touch?,XS]at hx;subst hx;exact h
 | mark m=>cases m<;>simp only[MemAct.touch?,XS,reduceCtorEq]at hx<;>(subst hx;exact h)
 | _=>simp[MemAct.touch?]at hx
structure OK(B:Nat)(t:Trace):Prop where
 I3:Past (λ_=>False) B t
 g0:∀op∈t,op.g=0
variable{t:Trace}{c:Kx}{O Lw:Nat->Nat}{B:Nat}
theorem OK.touch(h:OK B t){i:Nat}{a:Touch}(ha:touchAt t i=some a):Knows t 0 i∧a.loc.low B:=by
 obtain⟨x,hx,hxa⟩:=touch_of ha;have hm:=Ym hx;have hk:=knows_own hx;rw[h.g0 x hm]at hk;exact⟨hk,sd (h.I3.seen x hm) hxa⟩
theorem OK.ct(h:OK B t)(hB:B≤c.Wg):CT (ShN c.Wg) (nG c O) (Ec c O Lw) t 0:=by
 have sh:∀l:Loc,l.low B->¬ShN c.Wg l:=λl hl ⟨a,e,hb⟩=>by
  subst e;have:a.block<B:=hl;omega
 refine⟨λi op x hi hx hs=>?_,λk k1 k0=>by omega,λk k1 k0=>by omega,λl hn hl i a ha e=>(h.touch ha).1,λl hn hl i a ha e hw=>(h.touch ha).1,h.I3.clean,λi op hi=>by rw[h.g0 op (Ym hi)];exact Xw _⟩;exact absurd hs (sh _ (sd (h.I3.seen op (Ym hi)) hx))
noncomputable def kx(Wg C n:Nat)(nJ:Nat->List (List D))(m0:Machine)(t0:Trace):Kx where
 P:=Tryz.prog
 Q:=qP
 NG:=0
 ty:=wX.tWg
 Wg:=Wg
 C:=C
 n:=n
 L0:=Wg+1
 m0:=m0
 t0:=t0
 post:=λi v w=>Rep w (λ_=>True) (.sl 2 (nJ i)) v
 res:=λi S v w=>Rep w S (.sl 2 (nJ i)) v
variable{Wg C n:Nat}{nJ:Nat->List (List D)}{t0:Trace}
theorem QI(i:Nat)(S S':Nat->Prop)(v:Value)(w w':World)(h:(kx Wg C n nJ m0 t0).res i S v w)(hk:∀b,b<w.heap.size->S b->w'.heap[b]?=w.heap[b]?)(hs:w.heap.size≤w'.heap.size)(hS:∀b,b<w.heap.size->S b->S' b):(kx Wg C n nJ m0 t0).res i S' v w':=
 Am.Rep.cr (show Rep w S (.sl 2 (nJ i)) v from h) hs (λb o hb ho=>(hk b (Xz.1 ho).1 hb).trans ho) hS
structure uI(w:World)(C n bx bs cap:Nat)(A:Option Addr)(T:Array Value)(xv:Value)(qS:Nat->Value)(nJ:Nat->List (List D)):Prop where
 sz:T.size=85
 t1:T[1]?=some (.slice A n cap)
 t6:T[6]?=some (.pointer (some ⟨bx,0,none⟩))
 t10:T[10]?=some (.pointer (some ⟨bs,0,none⟩))
 hC:C<w.heap.size
 hx:bx<w.heap.size∧bx≠C
 hs:bs<w.heap.size∧bs≠C
 pay:∃cs:Array Value,w.heap[C]?=some (.cells cs 104)∧cs.size=n
 sh:w.cell? ⟨bs,0,none⟩=some (.slice (some ⟨C,0,none⟩) n n)
 xb:w.cell? ⟨bx,0,none⟩=some xv
 el:∀i,i<n->∃ad,A=some ad∧((ad.add i).block<w.heap.size∧(ad.add i).block≠C)∧w.cell? (ad.add i)=some (qS i)
 fs:∀i,i<n->∃A l k,qS i=.slice A l k
 rows:∀i,Wo (nJ i)
 lone:∀i,i<n->∀(w1:World),w.heap.size≤w1.heap.size->(∀(a:Addr) v,a.block<w.heap.size->a.block≠C->w.cell? a=some v->w1.cell? a=some v)->
  ∃N cB wE v,Lone qP N (lone (Pf xv (qS i)) [di qP] w1) cB wE∧cB.mode=.returning∧cB.defers=[]∧(∃fn,qP.funcs[cB.fn]?=some fn∧(results fn cB.tmps).run qP wE=.ok v wE)∧Rep wE (λ_=>True) (.sl 2 (nJ i)) v
 hn:n<2147483648
theorem Po{c:Kx}{w:World}{M s d:Nat}{tp:Nat->Question->Nat}{a:Addr}{v:Value}(ho:c.old a.block)(hb:a.block<s)(h:w.cell? a=some v):(c.wk w M s d tp).cell? a=some v:=by
 obtain⟨x,e,z,h1,h2,h3⟩:=cellsOf? h;have hw:=wk_heap (c:=c) (w:=w) (M:=M) (d:=d) (tp:=tp) a.block hb;rw[Xu ho,h1]at hw;unfold World.cell?;simp only[hw];simp[h2,h3]
theorem Xk{a:Act}{w:World}{A:Option Addr}{n cap:Nat}{x:Operand}(hx:a.eval x=.slice A n cap)(o:Oper)(h:o.op=.call { callee:=.builtin .len,args:=#[x],argTypes:=#[38] }) :
  (execOp a.eval o).run Tryz.prog w=.ok (.value (.int .i64 n)) w∧(execOp a.eval o).events Tryz.prog w #[]=#[]:=by
 have hm:(#[x]:Array Operand).map a.eval=#[.slice A n cap]:=by simp only[YK,Yd,Zq,hx]
 unfold execOp;simp only[h,resolve,hm,pure_bind,invoke,builtin];clear hx hm;constructor
 ·simp[go_sem,Builtin.len_,goInt]
 ·simp[go_sem,Builtin.len_,goInt]
end
section
open Go Go.Conc Go.ConcN Go.RowKit Go.Conc.Lib Go.ConcR.Gen
open Go.ConcR (KK wgBlock WgAt stA smA rd wr mk Payload DC0)
open Am (D Rep RepL)
variable{w:World}{C n bx bs cap:Nat}{A:Option Addr}{T:Array Value}{xv:Value}{qS:Nat->Value}{nJ:Nat->List (List D)}{cs:List Frame}{t:Trace}{sl:Option (Nat × Nat)}
theorem xY(S:uI w C n bx bs cap A T xv qS nJ)(m0:Machine)(t0:Trace)(w1:World)(hk:∀b,b<w.heap.size->w1.heap[b]?=w.heap[b]?):Ba (kx w.heap.size C n nJ m0 t0) w1 bx bs xv qS A:=by
 have hc:∀{a:Addr} {v:Value},a.block<w.heap.size->w.cell? a=some v->w1.cell? a=some v:=λ{a v} ha h=>by
  unfold World.cell? at h ⊢;rw[hk _ ha];exact h
 have ol:∀{b:Nat},b<w.heap.size∧b≠C->(kx w.heap.size C n nJ m0 t0).old b:=λ{b} h=>⟨Nat.lt_succ_of_lt h.1,by show b≠w.heap.size;omega,h.2⟩
 have hC:=S.hC;refine⟨rfl,rfl,rfl,rfl,rfl,Nat.lt_succ_of_lt S.hC,by show C≠w.heap.size;omega,ol S.hx,ol S.hs,hc S.hs.1 S.sh,hc S.hx.1 S.xb,λi hi=>?_,S.fs,λi hi=>⟨λw2 h2 M s d tp hM hs=>?_,λS' v w' h=>yi h⟩,S.hn⟩
 ·obtain⟨ad,h1,h2,h3⟩:=S.el i hi
  exact⟨ad,h1,ol h2,hc h2.1 h3⟩
 ·have hL:w.heap.size+1≤M:=hM
  refine S.lone i hi _ (by rw[nI];omega) λa v ha Eu hv=>Po (ol ⟨ha,Eu⟩) (by omega) ?_;have:=hc ha hv;unfold World.cell? at this ⊢;rw[h2 _ (ol ⟨ha,Eu⟩)];exact this
theorem EL (S : uI w C n bx bs cap A T xv qS nJ) (m0 : Machine) (t0 : Trace) (w1 : World) (hk : ∀ b, b < w.heap.size -> w1.heap[b]? = w.heap[b]?) (hl : WgLive wX.tWg w.heap.size w1) :
  GX Tryz.prog true (R0 (kx w.heap.size C n nJ m0 t0) fQ) (DS (kx w.heap.size C n nJ m0 t0) fQ) (FD (kx w.heap.size C n nJ m0 t0) w1) (rS (kx w.heap.size C n nJ m0 t0) w1 bx bs cs n) (G ((base 8).at ⟨T.setIfInBounds 11 (.pointer (some ⟨w.heap.size,0,none⟩)),[]⟩ [.inRegion oG [],.code g8]) cs):=by
 have X:=xY S m0 t0 w1 hk;have WK:=(Dj (c:=kx w.heap.size C n nJ m0 t0) (W:=w1) (YF _)).toWk;have R:=va (cs:=cs) (cap:=cap) X n 0;generalize hc:kx w.heap.size C n nJ m0 t0=c at *;have e1:c.P=Tryz.prog:=by rw[<-hc];rfl
 have e2:c.n=n:=by rw[<-hc];rfl
 have e3:c.Wg=w.heap.size:=by rw[<-hc];rfl
 rw[e1]at R;refine GX.fin WK ?_;rw[Lf];refine GX.seq WK ?_;refine GX.seq WK ?_;refine GX.region WK ?_;rw[au1];refine GX.move WK aw5 (v:=.slice A n cap) (by simp[Act.eval,Xx,S.t1]) (by decide) ?_;obtain⟨o,h1,h2,h3,h4⟩:=aw4.get;have hx:((⟨T.setIfInBounds 11 (.pointer (some ⟨w.heap.size,0,none⟩)),[]⟩:Act).put (some 42) (.slice A n cap)).eval (.tmp 42)=.slice A n cap:=by simp[Act.eval,Act.put,Xx,S.sz]
 refine GX.value WK h1 (fF h4 _) (by decide) (v:=.int .i64 n) (λw _=>(Xk hx o h2).1) (λw _=>(Xk hx o h2).2) ?_;rw[h3];refine GX.move WK aw3 (v:=.int .i64 0) rfl (by decide) ?_;refine GX.fin WK ?_;refine GX.block WK ?_;refine GX.loop WK ?_;refine R _ (by omega) ⟨?_,?_,?_,?_,?_,?_,?_⟩<;>first|(simp[Act.put,Xx,S.t6,S.t10,e2,e3];done)|simp[Act.put,Xx,S.sz,e2,e3]
theorem as8(w:World):(do Pure.pure (.value (<-Instr.alloc 102 true (.tuple #[]))):Sem Next).run Tryz.prog w=.ok (.value (.pointer (some ⟨w.heap.size,0,none⟩))) (w.alloc (.cells #[.int .u64 0,.int .u32 0] 102))∧(do Pure.pure (.value (<-Instr.alloc 102 true (.tuple #[]))):Sem Next).events Tryz.prog w #[]=#[]:=by
 constructor
 ·go_simp
 ·simp[go_sem]
theorem IG(T:Array Value)(cs:List Frame)(w:World)(sl:Option (Nat × Nat))(t:Trace):∃d sl',runNT Tryz.prog 3 (crowd #[G ((base 8).at ⟨T,[]⟩ [.code oY]) cs] w sl) t=(.next (crowd #[G ((base 8).at ⟨T.setIfInBounds 11 (.pointer (some ⟨w.heap.size,0,none⟩)),[]⟩ [.inRegion oG [],.code g8]) cs] ((w.at d).alloc (.cells #[.int .u64 0,.int .u32 0] 102)) sl'),t):=by
 rw[Lg];obtain⟨d1,s1,h1⟩:=nQ (P:=Tryz.prog) (g:=G ((base 8).at ⟨T,[]⟩ [.code (.seq (.region 8 oG false) g8)]) cs) (w:=w) (sl:=sl) (t:=t) rfl (λd=>w.at d) (λ_=>G ((base 8).at ⟨T,[]⟩ [.code (.region 8 oG false),.code g8]) cs) λd=>stepG_seq
 obtain⟨d2,s2,h2⟩:=nQ (P:=Tryz.prog) (g:=G ((base 8).at ⟨T,[]⟩ [.code (.region 8 oG false),.code g8]) cs) (w:=w.at d1) (sl:=s1) (t:=t) rfl (λd=>w.at d) (λ_=>G ((base 8).at ⟨T,[]⟩ [.inRegion oG [0],.code g8]) cs) λd=>by
  have:=stepG_region (P:=Tryz.prog) (main:=true) (b:=base 8) (a:=⟨T,[]⟩) (k:=[.code g8]) (cs:=cs) (w:=w.at d) (id:=8) (ops:=oG);rw[au2]at this;exact this
 obtain⟨d3,s3,h3⟩:=nQ (P:=Tryz.prog) (g:=G ((base 8).at ⟨T,[]⟩ [.inRegion oG [0],.code g8]) cs) (w:=w.at d2) (sl:=s2) (t:=t) rfl (λd=>(w.at d).alloc (.cells #[.int .u64 0,.int .u32 0] 102)) (λ_=>G ((base 8).at ⟨T.setIfInBounds 11 (.pointer (some ⟨w.heap.size,0,none⟩)),[]⟩ [.inRegion oG [],.code g8]) cs) λd=>A6 oe8 (by decide) (as8 (w.at d));exact⟨d3,s3,gC h1 (gC h2 h3)⟩
theorem DC(S:uI w C n bx bs cap A T xv qS nJ)(ht:OK w.heap.size t)(cs:List Frame)(sl:Option (Nat × Nat)):∃N m0,runNT Tryz.prog N (crowd #[G ((base 8).at ⟨T,[]⟩ [.code oY]) cs] w sl) t=(.next m0,t)∧
  (m0.world.tape=w.tape∧m0.world.os=w.os∧m0.world.output=w.output∧∀b,b<w.heap.size->m0.world.heap[b]?=w.heap[b]?)∧A9 (kx w.heap.size C n nJ m0 t) (Ei (kx w.heap.size C n nJ m0 t) bx bs cs):=by
 obtain⟨d,sl',bR⟩:=IG T cs w sl t;refine⟨3,_,bR,⟨rfl,rfl,rfl,λb hb=>ir hb⟩,?_⟩;generalize tX:(w.at d).alloc (.cells #[.int .u64 0,.int .u32 0] 102)=w1;have hk:∀b,b<w.heap.size->w1.heap[b]?=w.heap[b]?:=λb hb=>by rw[<-tX];exact ir hb
 have eQ:w1.heap.size=w.heap.size+1:=by
  rw[<-tX];show (w.heap.push _).size=_
  simp
 have iQ:WgAt wX.tWg w.heap.size w1 0 0:=by
  unfold WgAt wgBlock;rw[<-tX];have:=heap_alloc_new (w.at d) (.cells #[.int .u64 0,.int .u32 0] 102);exact this
 generalize hm0:crowd #[G ((base 8).at ⟨T.setIfInBounds 11 (.pointer (some ⟨w.heap.size,0,none⟩)),[]⟩ [.inRegion oG [],.code g8]) cs] w1 sl'=m0;have X:=xY S m0 t w1 hk;have hG:=(EL (cs:=cs) S m0 t w1 hk ⟨_,_,iQ⟩).at (w:=w1) ⟨⟨_,_,iQ⟩,λ_ _=>rfl⟩;have FW:PayAt C n w1:=let ⟨x,h1,h2⟩:=S.pay;⟨x,(hk _ S.hC).trans h1,h2⟩;have hC:=S.hC;have geo:Geo (kx w.heap.size C n nJ m0 t):=⟨YF _,Nat.lt_succ_of_lt S.hC,by show C≠w.heap.size;omega,S.hn⟩
 obtain⟨tag,f0,ep,eI⟩:∃tag f0,CS (kx w.heap.size C n nJ m0 t) (Ei (kx w.heap.size C n nJ m0 t) bx bs cs) (mw (kx w.heap.size C n nJ m0 t) w1 bx bs cs) tag 0 f0 0 fQ (G ((base 8).at ⟨T.setIfInBounds 11 (.pointer (some ⟨w.heap.size,0,none⟩)),[]⟩ [.inRegion oG [],.code g8]) cs) w1∧ConcN.Mode 0 (λ_=>⟨7,0,0⟩) tag 0 0:=by
  have hm:∀tag,isOpen tag->pend tag=0->(∀vs,tag≠.w2 vs)->ConcN.Mode 0 (λ_=>⟨7,0,0⟩) tag 0 0:=λtag h1 h2 h3=>by
   have:=ConcN.Mode.opn (j:=0) (D:=λ_=>⟨7,0,0⟩) (tag:=tag) h1 (λi hi=>by omega) (λvs h=>absurd h (h3 vs));have e:(((Vc 0 (λ_=>(⟨7,0,0⟩:WD))+pend tag:Nat):Int)*KK)=0:=by rw[h2];simp[Vc,sumTo]
   rwa [e]at this
  obtain⟨m,vO⟩:=hG
  cases n with
  | zero=>exact⟨.kd,m,.kd (c:=kx w.heap.size C 0 nJ m0 t) vO,hm _ trivial rfl (λ_ h=>by cases h)⟩
  | succ r=>
   refine⟨.sp r 7,m,?_,hm _ trivial rfl (λ_ h=>by cases h)⟩;have:=CS.RP (c:=kx w.heap.size C (r+1) nJ m0 t) (bB:=Ei (kx w.heap.size C (r+1) nJ m0 t) bx bs cs) (AnchW:=mw (kx w.heap.size C (r+1) nJ m0 t) w1 bx bs cs) (r:=r) (YF r) vO
   rwa [show (kx w.heap.size C (r+1) nJ m0 t).n - (r+1)=0 from Nat.sub_self _]at this
 refine crowd_runs (AnchW:=mw (kx w.heap.size C n nJ m0 t) w1 bx bs cs) (λi S S' v w w'=>QI i S S' v w w') (λf _=>fkQ f) (XC _) (λi v M f W0 wE w' S' h1 h2 h3=>P7 h2 (S.rows i) h3 h1) geo OE Ou (λg w h=>JQ X rfl g w h) _ 0
  ⟨#[G ((base 8).at ⟨T.setIfInBounds 11 (.pointer (some ⟨w.heap.size,0,none⟩)),[]⟩ [.inRegion oG [],.code g8]) cs],w1,sl',0,λ_=>⟨7,0,0⟩,λ_=>0,tag,f0,0,fQ,G ((base 8).at ⟨T.setIfInBounds 11 (.pointer (some ⟨w.heap.size,0,none⟩)),[]⟩ [.inRegion oG [],.code g8]) cs,0,0,λ_=>0,λ_=>w.heap.size+1,λ_=>undef,hm0.symm,rfl,?_,rfl⟩
 have e0:m0.world=w1:=by rw[<-hm0];rfl
 refine⟨rfl,rfl,ep,λi hi=>by omega,ht.ct (Xw _),λi hi=>?_,ht.I3.hears,λi hi=>by omega,λi hi=>by omega,λi hi=>by omega,FW,iQ,eI,λop cF x hx=>?_,λop cF x hx hk hg=>absurd (ht.g0 op cF) hg,λk=>Xw _,λk hk=>Xw _,by rw[eQ];exact Xw _,λb hb=>hb.elim,λk hk=>rfl,?_,λb hb=>?_⟩
 ·obtain⟨op,h1,h2⟩:=Ye.1 hi
  have:=ht.I3.seen op (Ym h1);rw[h2]at this;exact absurd this (Nat.lt_irrefl _)
 ·exact Loc.low_mono (by omega) (sd (ht.I3.seen op cF) hx)
 ·show w1.tape=m0.world.tape∧w1.os=m0.world.os∧w1.output=m0.world.output
  rw[e0];exact⟨rfl,rfl,rfl⟩
 ·show _=m0.world.heap[b]?
  rw[e0]
end
section
open Go Go.Conc
open Go.ConcN (ShN)
open Am (D Rep RepL RepT SiteIn St Cx Holds Hold Awp Aops RegW T Site okOf Ours ExtM Kept AsD regB tailOk StepOp FAt)
def PostR(n:Nat)(b:Frame)(ok:Nat->Prop)(wl:World)(l:List (Nat × D))(fr:Frame)(wE:World):Prop:=wl.heap.size≤wE.heap.size∧∃T todo,fr={ b.at ⟨T,[]⟩ todo with mode:=.returning }∧T.size=n∧Tm wE (λb=>ok b∨wl.heap.size≤b) l T
def PostN(n:Nat)(b:Frame)(ok:Nat->Prop)(wl:World)(k:List Item)(l:List (Nat × D))(fr:Frame)(wE:World):Prop:=wl.heap.size≤wE.heap.size∧∃T,fr=b.at ⟨T,[]⟩ k∧T.size=n∧Tm wE (λb=>ok b∨wl.heap.size≤b) l T
theorem hold_size{c:Cx}{st:St}{a:Act}{w:World}(h:Holds c st a w):a.tmps.size=st.n∧c.w.heap.size≤w.heap.size:=let ⟨_,_,h⟩:=h;⟨h.size,h.ext.size⟩
variable{Q:Program}{b:Frame}{cs:List Frame}{ok:Nat->Prop}{wl:World}{k:List Item}{st:St}{n:Nat}{l:List (Nat × D)}{c:Code}
theorem sw_retO(hn:st.n=n)(h:OutD st l):SW Q b cs (cxD wl ok) (PostR n b ok wl l) (.code .ret::k) st:=
 sw_ret λa w hd hH=>⟨(hold_size hH).2,a.tmps,_,by cases a;cases hd;rfl,(hold_size hH).1.trans hn,qI hH h⟩
theorem sw_stopO(hn:st.n=n)(h:OutD st l):SW Q b cs (cxD wl ok) (PostN n b ok wl k l) k st:=
 sw_stop λa w hd hH=>⟨(hold_size hH).2,a.tmps,by cases a;cases hd;rfl,(hold_size hH).1.trans hn,qI hH h⟩
theorem yr:∀(ms:List Nat) (w:World) (fr:Frame),fr.mode≠.run->fr.defers=ms.map (λb=>{ target:=.collected b,args:=#[] })->ms.Nodup->(∀b∈ms,w.heap[b]?=some (.deferred (some [])))->Steps Q (lone fr cs w) (lone { fr with defers:=[] } cs (Am.shut ms w))
 | [],w,fr,_,hd,_,_=>by
  have:{ fr with defers:=[] }=fr:=by cases fr;cases hd;rfl
  rw[this];exact .refl _ _
 | m::ms,w,fr,hr,hd,hn,hb=>by
  obtain⟨h1,h2⟩:=List.nodup_cons.1 hn;have s1:=step_collected (P:=Q) (cs:=cs) hr hd rfl (run_takeDeferred (hb m (by simp)));have:=yr ms (w.putObj m (.deferred none)) { fr with defers:=[]++ms.map (λb=>{ target:=.collected b,args:=#[] }) } hr rfl h2 (λc hc=>Am.pE h1 hc (hb c (by simp[hc])));exact .head s1 this
theorem sw_tail(hb:b.roundOf=none)(h:Awp Q (cxD wl ok) c (λe st'=>e=.ret∧st'.n=n∧OutD st' l) st):SW Q b cs (cxD wl ok) (PostR n b ok wl l) [.code c] st:=by
 intro a w hd hH;obtain⟨e,a',w',⟨st',⟨he,hn,hO⟩,oO⟩,_,h2⟩:=Ix (h Fence.wide 1 ⟨.inl rfl,rfl⟩ a w hH) hb [] cs;obtain⟨todo,hs⟩:=h2 he;obtain⟨ms,m1,m2,m3,hS⟩:=oO.shut rfl;have hp:=yr (Q:=Q) (cs:=cs) ms w' { b.at a' todo with mode:=.returning } (by simp) m1 m2 m3;exact⟨_,_,hs.trans hp,(hold_size hS).2,a'.tmps,todo,rfl,(hold_size hS).1.trans hn,qI hS hO⟩
variable{w0:Cx}{Post:Frame->World->Prop}{ops:Array Oper}{id i:Nat}{rest:List Nat}{a:Act}{w w':World}{o:Oper}{v:Value}
theorem sw_enter{l:List Nat}(hl:List.range ops.size=l)(h:SW Q b cs w0 Post (.inRegion ops l::k) st):SW Q b cs w0 Post (.code (.region id ops false)::k) st:=λa w hd hH=>
 let ⟨fr,w',hs,hp⟩:=h a w hd hH;⟨fr,w',(by subst hl;exact qg.trans hs),hp⟩
theorem nil_steps:Steps Q (lone (b.at a (.inRegion ops []::k)) cs w) (lone (b.at a k) cs w):=.one (step_lone_go (by simp[stepG,stepG.exec,Frame.at,GStep.bare]))
theorem skipc_steps:Steps Q (lone (b.at a (.code .skip::k)) cs w) (lone (b.at a k) cs w):=.one (step_lone_go (by simp[stepG,stepG.exec,Frame.at,GStep.bare]))
theorem val_step (hk : b.kind = .normal) (hb : b.roundOf = none) (ho : ops[i]? = some o) (hg : o.guard = none) (o9 : ndB Q o = true) (hr : (execOp a.eval o).run Q w = .ok (.value v) w') :
  Steps Q (lone (b.at a (.inRegion ops (i::rest)::k)) cs w) (lone (b.at (a.put o.dst v) (.inRegion ops rest::k)) cs w'):=by
 have hn:=λn w'=>uy (P:=Q) (o:=o) (a:=a) (w:=w) (w':=w') (n:=n) o9
 obtain⟨a1,w1,⟨rfl,rfl⟩,hs⟩:=vr (m:=1) (K:=λa1 w1=>a1=a.put o.dst v∧w1=w') (cs:=cs) (k:=k) (rest:=rest) ho (by simp[Region.wanted,hg]) hk hb (λd w' e=>hn _ _ e) (λr x w' e=>hn _ _ e) (λl f t x y w' e=>hn _ _ e) (gy o9)
  ⟨λ_ _=>trivial,by rw[Oper.semAt_eq _ _ _ (gy o9),hr];exact⟨rfl,rfl⟩⟩
 exact hs
theorem skip_step (hk : b.kind = .normal) (hb : b.roundOf = none) (ho : ops[i]? = some o) (hg : o.guard = none) (o9 : ndB Q o = true) (hr : (execOp a.eval o).run Q w = .ok .skip w') :
  Steps Q (lone (b.at a (.inRegion ops (i::rest)::k)) cs w) (lone (b.at (a.put o.dst undef) (.inRegion ops rest::k)) cs w'):=by
 have hn:=λn w'=>uy (P:=Q) (o:=o) (a:=a) (w:=w) (w':=w') (n:=n) o9
 obtain⟨a1,w1,⟨rfl,rfl⟩,hs⟩:=vr (m:=1) (K:=λa1 w1=>a1=a.put o.dst undef∧w1=w') (cs:=cs) (k:=k) (rest:=rest) ho (by simp[Region.wanted,hg]) hk hb (λd w' e=>hn _ _ e) (λr x w' e=>hn _ _ e) (λl f t x y w' e=>hn _ _ e) (gy o9)
  ⟨λ_ _=>trivial,by rw[Oper.semAt_eq _ _ _ (gy o9),hr];exact⟨rfl,rfl⟩⟩
 exact hs
theorem sw_ops{l:List Oper}{j:Nat}{idx:List Nat}(Js:w0.uk=none)(hb:b.roundOf=none)(az1:ops=l.toArray)(hi:idx=List.range' j (l.drop j).length)(o9:(l.drop j).all (ndB Q)=true)(hA:Aops Q w0 l (l.drop j) (λe st'=>e=.normal∧SW Q b cs w0 Post k st') st):SW Q b cs w0 Post (.inRegion ops idx::k) st:=by
 intro a w hd hH;have hl:=nX (l:=l.drop j) o9 hd (hA Fence.wide 1 ⟨.inl rfl,Js.symm⟩ a w hH);rw[<-wpOpsIn_eq_wpListIn (ops:=l.toArray) (l.drop j) j (λi=>by simp),<-hi,<-az1]at hl;obtain⟨e,a',w',⟨⟨st',⟨he,hs⟩,oO⟩,Bl⟩,h1,_⟩:=Bv hl hb k cs;obtain⟨fr,JZ,h2,hp⟩:=hs a' w' (Bl he) oO;exact⟨fr,JZ,(h1 he).trans h2,hp⟩
end
section
open Go Go.Conc
open Go.ConcN (ShN)
open Am (D Rep RepL RepT SiteIn St Cx Holds Hold Awp Aops RegW T Site okOf Ours ExtM Kept AsD regB tailOk StepOp FAt)
variable{P Q:Program}{NG M:Nat}{m0:Machine}{Shun:Loc->Prop}{X:Nat->Prop}{b fr:Frame}{cs:List Frame}{w:World}{r:Option Code}{T:Array Value}{items k:List Item}{l l':List (Nat × D)}{n:Nat}
theorem Wc{Post:World->Frame->World->Prop}(H:Fk Q P (KO NG P) id)(h:JW P m0 Shun fr cs w)(hM:M≤w.heap.size)(hX:∀b,X b->b<w.heap.size)(hS:∀l,Shun l->∃a,l=.cell a∧X a.block)(ep:∀c∈cs,c.mode=.run)
  (ok:mu NG Q P (b.at ⟨T,[]⟩ items)) (E:Ex r cs (cy (b.at ⟨T,[]⟩ items) cs) (cy fr cs)) (hT:Tm w (λb=>¬X b) l T) (hn:T.size=n)
  (Er:∀wl,wl.heap.size=w.heap.size->SW Q b [di Q] (cxD wl (λb=>¬X b)) (Post wl) items (stD n l)) (hP:∀wl cB wE,Post wl cB wE->(∀ch,cB.mode≠.panicking ch)∧(r≠none->cB.mode=.run->cB.todo=[.code (.exit 0)])) :
  ∃wl cB wE w' Tk,wl.heap.size=w.heap.size∧Post wl cB wE∧JW P m0 Shun { cB with todo:=Tk } cs w'∧(r=none->Tk=cB.todo)∧(∀rc,r=some rc->cB.mode=.run->Tk=[.code rc])∧Sg M w wE w'∧mu NG Q P cB:=by
 obtain⟨cB,wE,w',Tk,⟨wl,h1,h2⟩,h3⟩:=RJ (M:=M) (X:=X) (r:=r) (r8:=b.at ⟨T,[]⟩ items) (Post:=λfr wE=>∃wl,wl.heap.size=w.heap.size∧Post wl fr wE) H h hM hX (λl hl=>.inl (hS l hl)) ep ok rfl E (λtp=>by
  have hw:(lw (KO NG P) M X tp w).heap.size=w.heap.size:=qy;obtain⟨fr,w1,hs,hp⟩:=Er (lw (KO NG P) M X tp w) hw ⟨T,[]⟩ _ rfl (vM (hT.cells (YX hw.symm) (λa v ha hc=>HE ha hc) λ_ _ h=>h) hn)
  exact⟨fr,w1,hs,_,hw,hp⟩) (λcB wE ⟨wl,_,hp⟩=>hP wl cB wE hp)
 exact⟨wl,cB,wE,w',Tk,h1,h2,h3⟩
theorem Gm{Post:World->Frame->World->Prop}(H:Fk Q P (KO NG P) id)(h:GC P m0 fr cs w)(hM:M≤w.heap.size)(ep:∀c∈cs,c.mode=.run)
  (ok:mu NG Q P (b.at ⟨T,[]⟩ items)) (E:Ex r cs (cy (b.at ⟨T,[]⟩ items) cs) (cy fr cs)) (hT:Tm w (λ_=>True) l T) (hn:T.size=n)
  (Er:∀wl,wl.heap.size=w.heap.size->SW Q b [di Q] (cxD wl (λ_=>True)) (Post wl) items (stD n l)) (hP:∀wl cB wE,Post wl cB wE->(∀ch,cB.mode≠.panicking ch)∧(r≠none->cB.mode=.run->cB.todo=[.code (.exit 0)])) :
  ∃wl cB wE w' Tk,wl.heap.size=w.heap.size∧Post wl cB wE∧GC P m0 { cB with todo:=Tk } cs w'∧(r=none->Tk=cB.todo)∧(∀rc,r=some rc->cB.mode=.run->Tk=[.code rc])∧Sg M w wE w'∧mu NG Q P cB:=by
 obtain⟨cB,wE,w',Tk,⟨wl,h1,h2⟩,h3⟩:=RK (M:=M) (r:=r) (r8:=b.at ⟨T,[]⟩ items) (Post:=λfr wE=>∃wl,wl.heap.size=w.heap.size∧Post wl fr wE) H h hM ep ok rfl E (λtp=>by
  have hw:(lw (KO NG P) M (λ_=>False) tp w).heap.size=w.heap.size:=qy;obtain⟨fr,w1,hs,hp⟩:=Er (lw (KO NG P) M (λ_=>False) tp w) hw ⟨T,[]⟩ _ rfl (vM (hT.cells (YX hw.symm) (λa v _ hc=>HE (λh=>h) hc) λ_ _ h=>h) hn)
  exact⟨fr,w1,hs,_,hw,hp⟩) (λcB wE ⟨wl,_,hp⟩=>hP wl cB wE hp)
 exact⟨wl,cB,wE,w',Tk,h1,h2,h3⟩
theorem Sg.tm{wE w':World}{ok ok':Nat->Prop}(S:Sg M w wE w')(h:Tm wE ok l T)(bg:∀b,b<wE.heap.size->ok b->ok' b):Tm w' ok' l T:=h.cells (YX S.size) (λa v _ hc=>S.cell a v hc) bg
theorem D3(H:Fk Q P (KO NG P) id)(h:GC P m0 fr cs w)(hM:M≤w.heap.size)(ep:∀c∈cs,c.mode=.run)(ok:mu NG Q P (b.at ⟨T,[]⟩ items))(E:Ex r cs (cy (b.at ⟨T,[]⟩ items) cs) (cy fr cs))(hT:Tm w (λ_=>True) l T)(hn:T.size=n)
  (Er:∀wl,SW Q b [di Q] (cxD wl (λ_=>True)) (PostR n b (λ_=>True) wl l') items (stD n l)):∃T' todo w' wE,GC P m0 { b.at ⟨T',[]⟩ todo with mode:=.returning } cs w'∧T'.size=n∧Tm w' (λ_=>True) l' T'∧Sg M w wE w'∧w.heap.size≤w'.heap.size:=by
 obtain⟨wl,cB,wE,w',Tk,h1,⟨h2,T',todo,rfl,h3,h4⟩,h5,_,_,h6,_⟩:=Gm (Post:=λwl=>PostR n b (λ_=>True) wl l') H h hM ep ok E hT hn (λwl _=>Er wl) (λwl cB wE ⟨_,T',todo,e,_⟩=>⟨λch=>(by rw[e];simp),λ_ hm=>(by rw[e]at hm;cases hm)⟩);exact⟨T',Tk,w',wE,h5,h3,h6.tm h4 λ_ _ _=>trivial,h6,by have:=h6.size;omega⟩
theorem DY(H:Fk Q P (KO NG P) id)(h:JW P m0 Shun fr cs w)(hM:M≤w.heap.size)(hX:∀b,X b->b<w.heap.size)(hS:∀l,Shun l->∃a,l=.cell a∧X a.block)(ep:∀c∈cs,c.mode=.run)(ok:mu NG Q P (b.at ⟨T,[]⟩ items))(E:Ex r cs (cy (b.at ⟨T,[]⟩ items) cs) (cy fr cs))(hT:Tm w (λb=>¬X b) l T)(hn:T.size=n)
  (Er:∀wl,SW Q b [di Q] (cxD wl (λb=>¬X b)) (PostR n b (λb=>¬X b) wl l') items (stD n l)):∃T' todo w' wE,JW P m0 Shun { b.at ⟨T',[]⟩ todo with mode:=.returning } cs w'∧T'.size=n∧Tm w' (λb=>¬X b) l' T'∧Sg M w wE w'∧w.heap.size≤w'.heap.size:=by
 obtain⟨wl,cB,wE,w',Tk,h1,⟨h2,T',todo,rfl,h3,h4⟩,h5,_,_,h6,_⟩:=Wc (Post:=λwl=>PostR n b (λb=>¬X b) wl l') H h hM hX hS ep ok E hT hn (λwl _=>Er wl) (λwl cB wE ⟨_,T',todo,e,_⟩=>⟨λch=>(by rw[e];simp),λ_ hm=>(by rw[e]at hm;cases hm)⟩);exact⟨T',Tk,w',wE,h5,h3,h6.tm h4 λb hb h=>h.elim id λh hx=>by have:=hX b hx;omega,h6,by have:=h6.size;omega⟩
theorem Ii(H:Fk Q P (KO NG P) id)(h:GC P m0 fr cs w)(hM:M≤w.heap.size)(ep:∀c∈cs,c.mode=.run)(ok:mu NG Q P (b.at ⟨T,[]⟩ items))(E:Ex r cs (cy (b.at ⟨T,[]⟩ items) cs) (cy fr cs))(hT:Tm w (λ_=>True) l T)(hn:T.size=n)(hk:r≠none->k=[.code (.exit 0)])
  (Er:∀wl,SW Q b [di Q] (cxD wl (λ_=>True)) (PostN n b (λ_=>True) wl k l') items (stD n l)):∃T' Tk w' wE,GC P m0 (b.at ⟨T',[]⟩ Tk) cs w'∧(r=none->Tk=k)∧(∀rc,r=some rc->Tk=[.code rc])∧T'.size=n∧Tm w' (λ_=>True) l' T'∧Sg M w wE w'∧w.heap.size≤w'.heap.size:=by
 obtain⟨wl,cB,wE,w',Tk,h1,⟨h2,T',rfl,h3,h4⟩,h5,h7,h8,h6,_⟩:=Gm (Post:=λwl=>PostN n b (λ_=>True) wl k l') H h hM ep ok E hT hn (λwl _=>Er wl) (λwl cB wE ⟨_,T',e,_⟩=>⟨λch=>(by rw[e];simp[Frame.at]),λhr hm=>(by rw[e];exact hk hr)⟩);exact⟨T',Tk,w',wE,h5,h7,λrc hr=>h8 rc hr rfl,h3,h6.tm h4 λ_ _ _=>trivial,h6,by have:=h6.size;omega⟩
end
section
open Go
noncomputable def Ig:Code:=Tryz.f3.body.getD .skip
noncomputable def proL:Code:=match Ig with|.seq a (.seq b (.seq c _))=>.seq a (.seq b (.seq c .skip))|_=>.skip
noncomputable def restL:Code:=match Ig with|.seq _ (.seq _ (.seq _ r))=>r|_=>.skip
noncomputable def ops5L:Array Oper:=match restL with|.seq (.region _ o _) _=>o|_=>#[]
noncomputable def sufL:Code:=match restL with|.seq _ r=>r|_=>.skip
theorem Og:Tryz.f3.body=some Ig:=by kernel_rfl
noncomputable def DR:Code:=Tryz.f8.body.getD .skip
theorem Gi:spin restL proL=Ig:=by kernel_rfl
theorem Ld:restL=.seq (.region 5 ops5L false) sufL:=rfl
theorem aa6:List.range ops5L.size=[0,1,2,3,4,5,6,7,8,9]:=rfl
theorem Oh:Tryz.f8.body=some DR:=by kernel_rfl
noncomputable def proE:Code:=match DR with|.seq a (.seq b (.seq c (.seq d (.seq e _))))=>.seq a (.seq b (.seq c (.seq d (.seq e .skip))))|_=>.skip
end
end Go.Proofs.YthcfokccjljnpaaGreat.Par
namespace Go.Proofs.YthcfokccjljnpaaGreat.Am.M
section
open Go
open Go.Proofs.YthcfokccjljnpaaGreat.Par (SW sw_seq sw_skip sw_nil sw_stop sw_ret sw_cond sw_region sw_op sw_enter sw_ops val_step skip_step hold_size ndB nil_steps skipc_steps sw_retO sw_stopO sw_tail PostR PostN stD cxD OutD Tm proL restL sufL ops5L proE)
abbrev bL:Frame:=Go.Conc.base 3
abbrev bE:Frame:=Go.Conc.base 8
theorem lawA(t:Tsk)(dl:List (List Int))(hq:¬(litB t=true∧fewF dl=true))(wl:World)(ok:Nat->Prop):SW qP bL [Par.di qP] (cxD wl ok) (PostR 76 bL ok wl [(4,.v (.bool true))]) [.code proL,.code (.exit 0)] (stD 76 [(0,.agg (tskC t)),(1,.sl 1 (dl.map lC))]):=by
 have cH:(cxD wl ok).uk=none:=rfl;refine sw_seq (sw_region 2 rfl rfl (by kernel_rfl) (by kernel_rfl) ?_);refine aa (aP rfl (by exact .inr ⟨_,rfl⟩)) (aa (aG (x:=.d (.v _)) rfl) (aw (ai ?_)));refine⟨rfl,?_⟩;refine sw_seq (sw_seq (sw_region 2 rfl rfl (by kernel_rfl) (by kernel_rfl) ?_));refine aa (ak en5 .nil rfl (DW)) (aa (bX rfl) (aw (ai ?_)));refine⟨rfl,?_⟩;refine sw_cond rfl (λbW=>?_) (λbW=>?_)
 ·
  simp at bW
 ·
  (try simp only[nb,Xv]at bW)
  refine sw_skip (sw_seq (sw_seq (sw_region 8 rfl rfl (by kernel_rfl) (by kernel_rfl) ?_)));refine aa (ax kJ rfl rfl rfl) (aa (ak en6 (.cons rfl .nil) rfl (HK _)) (aa (bX rfl) (aa (aq (x:=.d (.v _)) rfl) (aE rfl rfl (λhG=>(aq (x:=.d (.sl _ _)) rfl)) (aE rfl rfl (λhG=>(ak en7 (.cons rfl .nil) rfl (rm _))) (aE rfl rfl (λhG=>(bX rfl)) (aT rfl rfl rfl rfl rfl rfl ?_)))))));refine aw (ai ?_);refine⟨rfl,?_⟩;refine sw_cond rfl (λdB=>?_) (λdB=>?_)
  ·
   (try simp only[nb,Xv]at dB)
   refine sw_seq (sw_region 1 rfl rfl (by kernel_rfl) (by kernel_rfl) ?_);refine aa (aG (x:=.d (.v _)) rfl) (aw (ai ?_));refine⟨rfl,?_⟩;exact sw_retO rfl ⟨⟨rfl,(by exact .d _)⟩,trivial⟩
  ·
   (try simp only[nb,Xv]at dB)
   exact absurd dB hq
theorem lawB(t:Tsk)(dl:List (List Int))(h1:litB t=true)(h2:fewF dl=true)(wl:World)(ok:Nat->Prop):SW qP bL [Par.di qP] (cxD wl ok) (PostN 76 bL ok wl [.code (.exit 0)] [(1,.sl 1 (dl.map lC)),(2,.pt (tskC t) 0)]) [.code proL,.code (.exit 0)] (stD 76 [(0,.agg (tskC t)),(1,.sl 1 (dl.map lC))]):=by
 have cH:(cxD wl ok).uk=none:=rfl;refine sw_seq (sw_region 2 rfl rfl (by kernel_rfl) (by kernel_rfl) ?_);refine aa (aP rfl (by exact .inr ⟨_,rfl⟩)) (aa (aG (x:=.d (.v _)) rfl) (aw (ai ?_)));refine⟨rfl,?_⟩;refine sw_seq (sw_seq (sw_region 2 rfl rfl (by kernel_rfl) (by kernel_rfl) ?_));refine aa (ak en5 .nil rfl (DW)) (aa (bX rfl) (aw (ai ?_)));refine⟨rfl,?_⟩;refine sw_cond rfl (λbW=>?_) (λbW=>?_)
 ·
  simp at bW
 ·
  (try simp only[nb,Xv]at bW)
  refine sw_skip (sw_seq (sw_seq (sw_region 8 rfl rfl (by kernel_rfl) (by kernel_rfl) ?_)));refine aa (ax kJ rfl rfl rfl) (aa (ak en6 (.cons rfl .nil) rfl (HK _)) (aa (bX rfl) (aa (aq (x:=.d (.v _)) rfl) (aE rfl rfl (λhG=>(aq (x:=.d (.sl _ _)) rfl)) (aE rfl rfl (λhG=>(ak en7 (.cons rfl .nil) rfl (rm _))) (aE rfl rfl (λhG=>(bX rfl)) (aT rfl rfl rfl rfl rfl rfl ?_)))))));refine aw (ai ?_);refine⟨rfl,?_⟩;refine sw_cond rfl (λdB=>?_) (λdB=>?_)
  ·
   (try simp only[nb,Xv]at dB)
   rcases dB with q|q
   ·rw[h1]at q;cases q
   ·rw[h2]at q;cases q
  ·
   (try simp only[nb,Xv]at dB)
   refine sw_skip (sw_skip ?_);exact sw_stopO rfl ⟨⟨rfl,(by exact .d _)⟩,⟨rfl,(by exact .d _)⟩,trivial⟩
theorem lawC (t : Tsk) (dl : List (List Int)) (Vf : t.ar.el.length ≤ 1000) (SN : t.bf.length ≤ 10000) (hf1 : dl.length ≤ 10000) (hf2 : ∀ x ∈ dl, x.length ≤ 10000) (wl : World) (ok : Nat -> Prop) :
  SW qP bL [Par.di qP] (cxD wl ok) (PostN 76 bL ok wl [.inRegion ops5L [4,5,6,7,8,9],.code sufL] [(1,.sl 1 (dl.map lC)),(2,.pt (tskC t) 0),(22,.agg (tskC t)),(24,.sl 1 (dl.map lC))]) [.code restL] (stD 76 [(1,.sl 1 (dl.map lC)),(2,.pt (tskC t) 0)]):=by
 rw[Par.Ld];refine sw_seq (sw_enter Par.aa6 ?_);refine sw_op rfl rfl rfl (i:=0) rfl rfl (by kernel_rfl) (cp rfl λops rest R h=>aN rfl (ax kJ rfl rfl rfl) h) ?_;refine sw_op rfl rfl rfl (i:=1) rfl rfl (by kernel_rfl) (cp rfl λops rest R h=>aN rfl (ak en9 (.cons rfl .nil) rfl (B0 t Vf SN)) h) ?_;refine sw_op rfl rfl rfl (i:=2) rfl rfl (by kernel_rfl) (cp rfl λops rest R h=>aN rfl (aq (x:=.d (.sl _ _)) rfl) h) ?_;refine sw_op rfl rfl rfl (i:=3) rfl rfl (by kernel_rfl) (cp rfl λops rest R h=>aN rfl (ak aF5 (.cons rfl .nil) rfl (DF dl hf1 hf2)) h) ?_;exact sw_stopO rfl ⟨⟨rfl,(by exact .d _)⟩,⟨rfl,(by exact .d _)⟩,⟨rfl,(by exact .d _)⟩,⟨rfl,(by exact .d _)⟩,trivial⟩
theorem TA:Ey qP 104 24=true:=by kernel_rfl
theorem Xb:eC qP 92 (.slice none 0 0):=by unfold eC;kernel_rfl
structure GoOk(t:Tsk)(dl:List (List Int))(wl wE:World)(T:Array Value)(A:Option Addr)(cap bx C bs:Nat)(xv:Value):Prop where
 sz:T.size=85
 t1:T[1]?=some (.slice A dl.length cap)
 t6:T[6]?=some (.pointer (some ⟨bx,0,none⟩))
 t10:T[10]?=some (.pointer (some ⟨bs,0,none⟩))
 hC:wl.heap.size≤C∧C<bs∧bs<wE.heap.size
 hx:bx<C
 pay:∃cs:Array Value,wE.heap[C]?=some (.cells cs 104)∧cs.size=dl.length
 sh:wE.cell? ⟨bs,0,none⟩=some (.slice (some ⟨C,0,none⟩) dl.length dl.length)
 xb:wE.cell? ⟨bx,0,none⟩=some xv
 xr:Rep wE (λb=>b<C) (.pt (tkC t) 0) xv
 el:∀(i:Nat) x,dl[i]?=some x->∃ad v,A=some ad∧(ad.add i).block<C∧wE.cell? (ad.add i)=some v∧Rep wE (λb=>b<C) (.sl 1 (x.map iC)) v
def PostGo(t:Tsk)(dl:List (List Int))(wl:World)(fr:Frame)(wE:World):Prop:=∃T A cap bx C bs xv,fr=bE.at ⟨T,[]⟩ [.code (.exit 0)]∧GoOk t dl wl wE T A cap bx C bs xv
noncomputable def o6:Array Oper:=match Par.DR with|.seq _ (.seq _ (.seq _ (.seq _ (.seq (.region _ o _) _))))=>o|_=>#[]
theorem o7a:Par.eO o6 0 (.move (.tmp 1)) (some 39):=⟨⟨_,rfl,rfl,rfl,rfl⟩⟩
theorem o7b:Par.eO o6 1 (.call { callee:=.builtin .len,args:=#[.tmp 39],argTypes:=#[38] }) (some 40):=⟨⟨_,rfl,rfl,rfl,rfl⟩⟩
theorem o7c:Par.eO o6 2 (.makeSlice 92 (.tmp 40) (.tmp 40)) (some 41):=⟨⟨_,rfl,rfl,rfl,rfl⟩⟩
theorem o7d:Par.eO o6 3 (.alloc 92) (some 10):=⟨⟨_,rfl,rfl,rfl,rfl⟩⟩
theorem o7e:Par.eO o6 4 (.store 92 (.tmp 10) (.tmp 41)) none:=⟨⟨_,rfl,rfl,rfl,rfl⟩⟩
theorem aa5:List.range o6.size=[0,1,2,3,4]:=rfl
theorem TR:∀(i:Nat) o,o6[i]?=some o->ndB qP o=true:=λi o h=>(Yi.1 (show o6.all (ndB qP)=true by kernel_rfl)) o (Ym h)
theorem Qj {t : Tsk} {dl : List (List Int)} {wl : World} {ok : Nat -> Prop} {st : St} {cs : List Frame} (hn : st.n = 85) (h1 : st.t 1 = .d (.sl 1 (dl.map lC))) (h6 : st.t 6 = .ref 6 0) (hs6 : st.s 6 = .box [.pt (tkC t) 0]) (Nc : dl.length ≤ 1000) :
  SW qP bE cs (cxD wl ok) (PostGo t dl wl) (.code (.region 7 o6 false) :: .code .skip::[.code (.exit 0)]) st:=by
 refine sw_enter aa5 λa w hd hH=>?_;obtain⟨eQ,pV⟩:=hold_size hH;obtain⟨blk,val,hh⟩:=hH;have bH:∀k,k<85->k<a.tmps.size:=λk hk=>by omega
 have q1:=hh.tmp 1;rw[h1]at q1;obtain⟨A,cap,e1,ez,Ax,_,_,hA⟩:=kO (show Rep w _ (.sl 1 (dl.map lC)) _ from q1);have q6:=hh.tmp 6;rw[h6]at q6;obtain⟨_,bx,b1,e6⟩:=q6;have q7:=hh.site 6;rw[hs6]at q7;obtain⟨bx',e,aK,b2,hbx,WC,_,jE⟩:=q7;rw[b1]at b2;cases b2
 obtain⟨xv,En,UX⟩:=jE 0 _ rfl;rw[Xo]at e1 ez;have g1:a.tmps[1]?=some (.slice A dl.length cap):=by rw[<-e1,XN,X4 (bH 1 (by decide))];rfl
 have g6:a.tmps[6]?=some (.pointer (some ⟨bx,0,none⟩)):=by rw[<-e6,XN,X4 (bH 6 (by decide))];rfl
 have hbl:bx<w.heap.size:=bI hbx;obtain⟨i7,hi7,tZ⟩:=gj Ug;obtain⟨i8,hi8,S2⟩:=rJ TA;rw[hi7]at hi8;cases hi8
 have ev:∀(T:Array Value) (k:Nat) v,T[k]?=some v->(⟨T,[]⟩:Act).eval (.tmp k)=v:=λT k v h=>by
  show T.getD k undef=v
  rw[XN,h];rfl
 have se:∀(T:Array Value) (k:Nat) v,k<T.size->(T.setIfInBounds k v)[k]?=some v:=λT k v h=>X9 h;have sn:∀(T:Array Value) (k j:Nat) v,k≠j->(T.setIfInBounds k v)[j]?=T[j]?:=λT k j v h=>XE h;have hT0:a.tmps.size=85:=eQ.trans hn;have ea:a=⟨a.tmps,[]⟩:=by cases a;cases hd;rfl
 rw[ea];obtain⟨oa,a1,a2,a3,a4⟩:=o7a.get;obtain⟨ob,b1',b2',b3,b4⟩:=o7b.get;obtain⟨oc,c1,c2,c3,c4⟩:=o7c.get;obtain⟨od,d1,d2,d3,d4⟩:=o7d.get;obtain⟨oe,e1',e2,e3,e4⟩:=o7e.get;generalize a.tmps=T0 at *;have s1:=val_step (Q:=qP) (b:=bE) (cs:=cs) (k:=[.code .skip,.code (.exit 0)]) (a:=⟨T0,[]⟩) (rest:=[1,2,3,4]) (w:=w) (w':=w) (v:=.slice A dl.length cap) rfl rfl a1 a4 (TR _ _ a1) (by unfold execOp;rw[a2];simp[ev _ _ _ g1]);rw[a3]at s1;have z1:(T0.setIfInBounds 39 (.slice A dl.length cap)).size=85:=by simp[hT0]
 have k1:=se T0 39 (.slice A dl.length cap) (by omega);have p1:=(sn T0 39 1 (.slice A dl.length cap) (by decide)).trans g1;have p6:=(sn T0 39 6 (.slice A dl.length cap) (by decide)).trans g6;change Steps _ _ (lone (bE.at ⟨T0.setIfInBounds 39 (.slice A dl.length cap),[]⟩ _) _ _) at s1;generalize T0.setIfInBounds 39 (.slice A dl.length cap)=T1 at *
 have s2:=val_step (Q:=qP) (b:=bE) (cs:=cs) (k:=[.code .skip,.code (.exit 0)]) (a:=⟨T1,[]⟩) (rest:=[2,3,4]) (w:=w) (w':=w) (v:=.int .i64 dl.length) rfl rfl b1' b4 (TR _ _ b1') (by
  obtain⟨u,hu⟩:=pI tC
  exact ff b2' (by rw[ev _ _ _ k1];simp[Builtin.len_,run_underlying hu,goInt]))
 rw[b3]at s2;have z2:(T1.setIfInBounds 40 (.int .i64 dl.length)).size=85:=by simp[z1]
 have k2:=se T1 40 (.int .i64 dl.length) (by omega);have p1:=(sn T1 40 1 (.int .i64 dl.length) (by decide)).trans p1;have p6:=(sn T1 40 6 (.int .i64 dl.length) (by decide)).trans p6;change Steps _ _ (lone (bE.at ⟨T1.setIfInBounds 40 (.int .i64 dl.length),[]⟩ _) _ _) at s2;generalize T1.setIfInBounds 40 (.int .i64 dl.length)=T2 at *;have J5:=run_make (P:=qP) w 92 104 i7 (.slice none 0 0) (cJ Ug) hi7 (la Xj hi7) .i64 .i64 (dl.length:Int) (dl.length:Int) (by omega) (by omega) (by rw[S2];omega) (by omega);simp only[ZO,tZ,YA]at J5;have s3:=val_step (Q:=qP) (b:=bE) (cs:=cs) (k:=[.code .skip,.code (.exit 0)]) (a:=⟨T2,[]⟩) (rest:=[3,4]) (w:=w) (w':=w.alloc (.cells (madeCells (Value.slice none 0 0).cells dl.length) 104)) (v:=.slice (some ⟨w.heap.size,0,none⟩) dl.length dl.length) rfl rfl c1 c4 (TR _ _ c1) (by unfold execOp;rw[c2];simp[ev _ _ _ k2,J5]);rw[c3]at s3;have z3:(T2.setIfInBounds 41 (.slice (some ⟨w.heap.size,0,none⟩) dl.length dl.length)).size=85:=by simp[z2]
 have k3:=se T2 41 (.slice (some ⟨w.heap.size,0,none⟩) dl.length dl.length) (by omega);have p1:=(sn T2 41 1 (.slice (some ⟨w.heap.size,0,none⟩) dl.length dl.length) (by decide)).trans p1;have p6:=(sn T2 41 6 (.slice (some ⟨w.heap.size,0,none⟩) dl.length dl.length) (by decide)).trans p6;change Steps _ _ (lone (bE.at ⟨T2.setIfInBounds 41 (.slice (some ⟨w.heap.size,0,none⟩) dl.length dl.length),[]⟩ _) _ _) at s3;generalize T2.setIfInBounds 41 (.slice (some ⟨w.heap.size,0,none⟩) dl.length dl.length)=T3 at *;have hC:=fj w (.cells (madeCells (Value.slice none 0 0).cells dl.length) 104);have tX:(w.alloc (.cells (madeCells (Value.slice none 0 0).cells dl.length) 104)).heap.size=w.heap.size+1:=by simp
 have hk1:∀b,b<w.heap.size->(w.alloc (.cells (madeCells (Value.slice none 0 0).cells dl.length) 104)).heap[b]?=w.heap[b]?:=λb hb=>Par.ir hb;have ay6:(madeCells (Value.slice none 0 0).cells dl.length).size=dl.length:=by simp[madeCells]
 generalize w.alloc (.cells (madeCells (Value.slice none 0 0).cells dl.length) 104)=w1 at *;have s4:=val_step (Q:=qP) (b:=bE) (cs:=cs) (k:=[.code .skip,.code (.exit 0)]) (a:=⟨T3,[]⟩) (rest:=[4]) (w:=w1) (w':=w1.alloc (.cells #[.slice none 0 0] 92)) (v:=.pointer (some ⟨w1.heap.size,0,none⟩)) rfl rfl d1 d4 (TR _ _ d1) (by unfold execOp;rw[d2];simp[Instr.alloc,iE Xb,newVar,newRow];rfl);rw[d3]at s4;have z4:(T3.setIfInBounds 10 (.pointer (some ⟨w1.heap.size,0,none⟩))).size=85:=by simp[z3]
 have k4:=se T3 10 (.pointer (some ⟨w1.heap.size,0,none⟩)) (by omega);have k3:=(sn T3 10 41 (.pointer (some ⟨w1.heap.size,0,none⟩)) (by decide)).trans k3;have p1:=(sn T3 10 1 (.pointer (some ⟨w1.heap.size,0,none⟩)) (by decide)).trans p1;have p6:=(sn T3 10 6 (.pointer (some ⟨w1.heap.size,0,none⟩)) (by decide)).trans p6;change Steps _ _ (lone (bE.at ⟨T3.setIfInBounds 10 (.pointer (some ⟨w1.heap.size,0,none⟩)),[]⟩ _) _ _) at s4;generalize T3.setIfInBounds 10 (.pointer (some ⟨w1.heap.size,0,none⟩))=T4 at *;have hB:=fj w1 (.cells #[.slice none 0 0] 92);have tW:(w1.alloc (.cells #[.slice none 0 0] 92)).heap.size=w1.heap.size+1:=by simp
 have O8:∀b,b<w1.heap.size->(w1.alloc (.cells #[.slice none 0 0] 92)).heap[b]?=w1.heap[b]?:=λb hb=>Par.ir hb;generalize w1.alloc (.cells #[.slice none 0 0] 92)=w2 at *;have dU:=iF (P:=qP) (v:=.slice (some ⟨w.heap.size,0,none⟩) dl.length dl.length) (o:=0) ab2 rfl hB (Xw _) (λu hu=>by simp[Value.cells]at hu;subst hu;rfl);have s5:=skip_step (Q:=qP) (b:=bE) (cs:=cs) (k:=[.code .skip,.code (.exit 0)]) (a:=⟨T4,[]⟩) (rest:=[]) (w:=w2) (w':=w2.setRow w1.heap.size ((#[Value.slice none 0 0]:Array Value).toList.take 0++(Value.slice (some ⟨w.heap.size,0,none⟩) dl.length dl.length).cells.toList++(#[Value.slice none 0 0]:Array Value).toList.drop (0+1)).toArray) rfl rfl e1' e4 (TR _ _ e1') (by unfold execOp;rw[e2];simp only[ev _ _ _ k4,ev _ _ _ k3];rw[Sem.run_bind,dU];rfl);rw[e3]at s5;have hw3:=setRow_size (w:=w2) (b:=w1.heap.size) (cs:=((#[Value.slice none 0 0]:Array Value).toList.take 0++(Value.slice (some ⟨w.heap.size,0,none⟩) dl.length dl.length).cells.toList++(#[Value.slice none 0 0]:Array Value).toList.drop (0+1)).toArray);have Es:=iD (cs:=((#[Value.slice none 0 0]:Array Value).toList.take 0++(Value.slice (some ⟨w.heap.size,0,none⟩) dl.length dl.length).cells.toList++(#[Value.slice none 0 0]:Array Value).toList.drop (0+1)).toArray) hB;have hk3:=λb' (h:b'≠w1.heap.size)=>cT (w:=w2) (b:=w1.heap.size) (b':=b') (cs:=((#[Value.slice none 0 0]:Array Value).toList.take 0++(Value.slice (some ⟨w.heap.size,0,none⟩) dl.length dl.length).cells.toList++(#[Value.slice none 0 0]:Array Value).toList.drop (0+1)).toArray) h;generalize w2.setRow w1.heap.size _=w3 at *;have cr:∀b,b<w.heap.size->w3.heap[b]?=w.heap[b]?:=λb hb=>(hk3 b (by omega)).trans ((O8 b (by omega)).trans (hk1 b hb))
 have kc:∀(ad:Addr) v,w.cell? ad=some v->w3.cell? ad=some v:=λad v h=>by
  have hl:=Ia h;unfold World.cell? at h ⊢;rw[cr _ hl];exact h
 have kr:∀{d:D} {v:Value} {ok:Nat->Prop},Rep w ok d v->Rep w3 (λb=>b<w.heap.size) d v:=λ{d v ok} h=>Par.jk (Rep.ok h (ok':=λb=>b<w.heap.size) λb hb _=>hb) (by omega) (λad v _ h=>kc ad v h) λb hb _=>hb
 have s6:Steps qP (lone (bE.at ⟨T4,[]⟩ [.inRegion o6 [],.code .skip,.code (.exit 0)]) cs w3) (lone (bE.at ⟨T4,[]⟩ [.code (.exit 0)]) cs w3):=
  nil_steps.trans skipc_steps
 refine⟨_,w3,s1.trans (s2.trans (s3.trans (s4.trans (s5.trans s6)))),T4,A,cap,bx,w.heap.size,w1.heap.size,xv,rfl,z4,p1,p6,k4,⟨pV,by omega,by omega⟩,hbl,⟨_,(hk3 _ (by omega)).trans ((O8 _ (by omega)).trans hC),ay6⟩,?_,?_,kr UX,λi x hx=>?_⟩
 ·rw[cell_of_block Es];rfl
 ·exact kc _ _ (by rw[cell_of_block hbx];exact En)
 ·have hm:(dl.map lC)[i]?=some (lC x):=by rw[XF,hx];rfl
  rcases hA with h|⟨b,off,vs,rfl,hb,_,hc,hr⟩
  ·rw[h]at hm;cases hm
  ·have yO:=hc i _ 0 _ hm rfl
   refine⟨⟨b,off,none⟩,vs i 0,rfl,by rw[ei];exact hb,kc _ _ ?_,kr (hr i _ 0 _ hm rfl)⟩;rw[ei]
   simpa using yO
theorem dealtW(t:Tsk)(dl:List (List Int))(hw:(ckT t).2≠0)(wl:World)(ok:Nat->Prop):SW qP bE [Par.di qP] (cxD wl ok) (PostR 85 bE ok wl [(4,.sl 1 []),(5,.v (.int .i64 ((ckT t).2)))]) [.code proE,.code (.exit 0)] (stD 85 [(0,.agg (tskC t)),(1,.sl 1 (dl.map lC))]):=by
 have cH:(cxD wl ok).uk=none:=rfl;refine sw_seq (sw_region 3 rfl rfl (by kernel_rfl) (by kernel_rfl) ?_);refine aa (aP rfl (by exact .inr ⟨_,rfl⟩)) (aa (aG (x:=.d (.sl _ _)) rfl) (aa (aG (x:=.d (.v _)) rfl) (aw (ai ?_))));refine⟨rfl,?_⟩;refine sw_seq (sw_region 5 rfl rfl (by kernel_rfl) (by kernel_rfl) ?_);refine aa (ax kJ rfl rfl rfl) (aa (ak JD (.cons rfl .nil) rfl (Hr t hw)) (aa (aq (x:=.d (.da _)) rfl) (aa (au rfl rfl) (aa (au rfl rfl) (aw (aD Kg rfl rfl rfl (ay lg rfl rfl (by exact .inl rfl) rfl rfl (by decide) rfl (aN rfl (aG (x:=.d (.v _)) rfl) (ai ?_)))))))));refine⟨rfl,?_⟩;refine sw_seq (sw_seq (sw_region 2 rfl rfl (by kernel_rfl) (by kernel_rfl) ?_));refine aa (aq (x:=.d (.v _)) rfl) (aa (bS rfl rfl) (aw (ai ?_)));refine⟨rfl,?_⟩;refine sw_cond rfl (λbV=>?_) (λbV=>?_)
 ·
  (try simp only[nb,Xv]at bV)
  refine sw_seq (sw_region 3 rfl rfl (by kernel_rfl) (by kernel_rfl) ?_);refine aa (aq (x:=.d (.v _)) rfl) (aa (aG (x:=.d (.sl _ _)) rfl) (aa (aG (x:=.d (.v _)) rfl) (aw (ai ?_))));refine⟨rfl,?_⟩;exact sw_retO rfl ⟨⟨rfl,(by exact .d _)⟩,⟨rfl,(by exact .d _)⟩,trivial⟩
 ·
  (try simp only[nb,Xv]at bV)
  exact absurd bV hw
theorem dealtD(t:Tsk)(dl:List (List Int))(h:TskOk t)(hd:(dealR t.ne dl).2≠0)(wl:World)(ok:Nat->Prop):SW qP bE [Par.di qP] (cxD wl ok) (PostR 85 bE ok wl [(4,.sl 1 []),(5,.v (.int .i64 ((dealR t.ne dl).2)))]) [.code proE,.code (.exit 0)] (stD 85 [(0,.agg (tskC t)),(1,.sl 1 (dl.map lC))]):=by
 have cH:(cxD wl ok).uk=none:=rfl;have wY:=h.n1;have Bi:=h.n2;refine sw_seq (sw_region 3 rfl rfl (by kernel_rfl) (by kernel_rfl) ?_);refine aa (aP rfl (by exact .inr ⟨_,rfl⟩)) (aa (aG (x:=.d (.sl _ _)) rfl) (aa (aG (x:=.d (.v _)) rfl) (aw (ai ?_))));refine⟨rfl,?_⟩;refine sw_seq (sw_region 5 rfl rfl (by kernel_rfl) (by kernel_rfl) ?_);refine aa (ax kJ rfl rfl rfl) (aa (ak JD (.cons rfl .nil) rfl (zX t h)) (aa (aq (x:=.d (.da _)) rfl) (aa (au rfl rfl) (aa (au rfl rfl) (aw (aD Kg rfl rfl rfl (ay lg rfl rfl (by exact .inl rfl) rfl rfl (by decide) rfl (aN rfl (aG (x:=.d (.v _)) rfl) (ai ?_)))))))));refine⟨rfl,?_⟩;refine sw_seq (sw_seq (sw_region 2 rfl rfl (by kernel_rfl) (by kernel_rfl) ?_));refine aa (aq (x:=.d (.v _)) rfl) (aa (bS rfl rfl) (aw (ai ?_)));refine⟨rfl,?_⟩;refine sw_cond rfl (λbV=>?_) (λbV=>?_)
 ·
  simp at bV
 ·
  (try simp only[nb,Xv]at bV)
  refine sw_skip (sw_seq (sw_seq (sw_region 11 rfl rfl (by kernel_rfl) (by kernel_rfl) ?_)));refine aa (aQ lg rfl rfl rfl) (aa (bZ rfl) (aa (af oh rfl) (aa (aj bo rfl rfl) (aa (aq (x:=.d (.sl _ _)) rfl) (aa (ak VM (.cons rfl (.cons rfl .nil)) rfl (nD t.ne dl)) (aa (aq (x:=.d (.da _)) rfl) (aa (au rfl rfl) (aa (au rfl rfl) (aa (aG (x:=.d (.v _)) rfl) (aa (aG (x:=.d (.v _)) rfl) (aw (ai ?_))))))))))));refine⟨rfl,?_⟩;refine sw_seq (sw_region 2 rfl rfl (by kernel_rfl) (by kernel_rfl) ?_);refine aa (aq (x:=.d (.v _)) rfl) (aa (bS rfl rfl) (aw (ai ?_)));refine⟨rfl,?_⟩;refine sw_cond rfl (λeU=>?_) (λeU=>?_)
  ·
   (try simp only[nb,Xv]at eU)
   refine sw_seq (sw_region 3 rfl rfl (by kernel_rfl) (by kernel_rfl) ?_);refine aa (aq (x:=.d (.v _)) rfl) (aa (aG (x:=.d (.sl _ _)) rfl) (aa (aG (x:=.d (.v _)) rfl) (aw (ai ?_))));refine⟨rfl,?_⟩;exact sw_retO rfl ⟨⟨rfl,(by exact .d _)⟩,⟨rfl,(by exact .d _)⟩,trivial⟩
  ·
   (try simp only[nb,Xv]at eU)
   exact absurd eU hd
theorem dealtK(t:Tsk)(dl:List (List Int))(h:TskOk t)(hd:(dealR t.ne dl).2=0)(Nc:dl.length≤1000)(wl:World)(ok:Nat->Prop):SW qP bE [Par.di qP] (cxD wl ok) (PostGo t dl wl) [.code proE,.code (.exit 0)] (stD 85 [(0,.agg (tskC t)),(1,.sl 1 (dl.map lC))]):=by
 have cH:(cxD wl ok).uk=none:=rfl;have wY:=h.n1;have Bi:=h.n2;refine sw_seq (sw_region 3 rfl rfl (by kernel_rfl) (by kernel_rfl) ?_);refine aa (aP rfl (by exact .inr ⟨_,rfl⟩)) (aa (aG (x:=.d (.sl _ _)) rfl) (aa (aG (x:=.d (.v _)) rfl) (aw (ai ?_))));refine⟨rfl,?_⟩;refine sw_seq (sw_region 5 rfl rfl (by kernel_rfl) (by kernel_rfl) ?_);refine aa (ax kJ rfl rfl rfl) (aa (ak JD (.cons rfl .nil) rfl (zX t h)) (aa (aq (x:=.d (.da _)) rfl) (aa (au rfl rfl) (aa (au rfl rfl) (aw (aD Kg rfl rfl rfl (ay lg rfl rfl (by exact .inl rfl) rfl rfl (by decide) rfl (aN rfl (aG (x:=.d (.v _)) rfl) (ai ?_)))))))));refine⟨rfl,?_⟩;refine sw_seq (sw_seq (sw_region 2 rfl rfl (by kernel_rfl) (by kernel_rfl) ?_));refine aa (aq (x:=.d (.v _)) rfl) (aa (bS rfl rfl) (aw (ai ?_)));refine⟨rfl,?_⟩;refine sw_cond rfl (λbV=>?_) (λbV=>?_)
 ·
  simp at bV
 ·
  (try simp only[nb,Xv]at bV)
  refine sw_skip (sw_seq (sw_seq (sw_region 11 rfl rfl (by kernel_rfl) (by kernel_rfl) ?_)));refine aa (aQ lg rfl rfl rfl) (aa (bZ rfl) (aa (af oh rfl) (aa (aj bo rfl rfl) (aa (aq (x:=.d (.sl _ _)) rfl) (aa (ak VM (.cons rfl (.cons rfl .nil)) rfl (nD t.ne dl)) (aa (aq (x:=.d (.da _)) rfl) (aa (au rfl rfl) (aa (au rfl rfl) (aa (aG (x:=.d (.v _)) rfl) (aa (aG (x:=.d (.v _)) rfl) (aw (ai ?_))))))))))));refine⟨rfl,?_⟩;refine sw_seq (sw_region 2 rfl rfl (by kernel_rfl) (by kernel_rfl) ?_);refine aa (aq (x:=.d (.v _)) rfl) (aa (bS rfl rfl) (aw (ai ?_)));refine⟨rfl,?_⟩;refine sw_cond rfl (λeU=>?_) (λeU=>?_)
  ·
   (try simp only[nb,Xv]at eU)
   exact absurd hd eU
  ·
   (try simp only[nb,Xv]at eU)
   refine sw_skip (sw_seq ?_);exact Qj rfl rfl rfl rfl Nc
open Go.Proofs.YthcfokccjljnpaaGreat.Par (TD)
def pS(l:List (List (Int × Int)))(j:Nat):Int × Int:=l.foldl (λs x=>(s.1+(x.getD j (0,0)).1,s.2+(x.getD j (0,0)).2)) (0,0)
theorem Hn(l:List (List (Int × Int)))(x:List (Int × Int))(j:Nat):pS (l++[x]) j=((pS l j).1+(x.getD j (0,0)).1,(pS l j).2+(x.getD j (0,0)).2):=by unfold pS;rw[List.foldl_append];rfl
def smD(l:List (List (Int × Int)))(n:Nat):List (Int × Int):=(List.range n).map (pS l)
theorem PU(l:List (List (Int × Int)))(n:Nat):(smD l n).length=n:=by unfold smD;rw[Xo,Yx]
def Ev(l:List (List (Int × Int)))(n i k:Nat):List (List D):=(List.range n).map λj=>shC (pS (l.take (if j<k then i+1 else i)) j)
theorem AS(l:List (List (Int × Int)))(n i k:Nat):(Ev l n i k).length=n:=by unfold Ev;rw[Xo,Yx]
theorem VG{l:List (List (Int × Int))}{n i k:Nat}(h:k<n):(Ev l n i k)[k]?=some (shC (pS (l.take i) k)):=by
 unfold Ev;rw[XF,Y4 h];simp
theorem Rq{l:List (List (Int × Int))}{n i k:Nat}{s x:Int × Int}(h:k<n)(hs:pS (l.take (i+1)) k=s):(Ev l n i k).set k (shC s)=Ev l n i (k+1):=by
 subst hs;apply List.ext_getElem?;intro j;rw[List.getElem?_set,AS];unfold Ev;rw[XF,XF]
 by_cases hj:k=j
 ·subst hj
  rw[Xu rfl,Xu h,Y4 h];simp
 ·rw[Xr hj]
  rcases XP j n with hn|hn
  ·rw[Y4 hn]
   simp only[XB]
   by_cases h1:j<k
   ·rw[Xu h1,Xu (by omega)]
   ·rw[Xr h1,Xr (by omega)]
  ·rw[List.getElem?_eq_none (by rw[Yx];omega)];rfl
theorem NF(l:List (List (Int × Int)))(n:Nat):Ev l n 0 0=List.replicate n (shC (0,0)):=by
 rw[List.eq_replicate_iff];refine⟨AS _ _ _ _,λb hb=>?_⟩;unfold Ev at hb;obtain⟨j,_,rfl⟩:=X6.1 hb;rw[Xr (by omega)];rfl
theorem NH{l:List (List (Int × Int))}{n i:Nat}:Ev l n i n=Ev l n (i+1) 0:=by
 unfold Ev;refine Y5 λj hj=>?_;have:=YJ.1 hj;rw[Xu this,Xr (by omega)]
theorem Rr(l:List (List (Int × Int)))(n:Nat):Ev l n l.length 0=(smD l n).map shC:=by
 unfold Ev smD;rw[List.map_map];refine Y5 λj hj=>?_;rw[Xr (by omega),YL];rfl
theorem Sr{l:List (List (Int × Int))}{B:Int}(hB:0≤B){j:Nat}:∀{i:Nat},(∀x∈l,-B≤(x.getD j (0,0)).1∧(x.getD j (0,0)).1≤B∧-B≤(x.getD j (0,0)).2∧(x.getD j (0,0)).2≤B)->-(B*i)≤(pS (l.take i) j).1∧(pS (l.take i) j).1≤B*i∧-(B*i)≤(pS (l.take i) j).2∧(pS (l.take i) j).2≤B*i
 | 0,_=>by simp[pS]
 | i+1,h=>by
  have ih:=Sr hB (i:=i) h;have e:B*((i+1:Nat):Int)=B*i+B:=by rw[Int.natCast_succ,ZX,Int.mul_one]
  rcases XP i l.length with hl|hl
  ·rw[Yh hl,Hn,e]
   have:=h _ (ZU hl);simp only;omega
  ·rw[Yo (by omega)]
   rw[Yo hl]at ih;omega
def shrC(s:List (Int × Int)):List D:=[.sl 2 (s.map shC)]
set_option maxHeartbeats 4000000 in
theorem tailD(t:Tsk)(h:TskOk t)(xj:List (List (Int × Int)))(U3:xj.length≤100)(hs2:∀x∈xj,x.length=clN t)(hs3:∀x∈xj,∀j,-10000000≤(x.getD j (0,0)).1∧(x.getD j (0,0)).1≤10000000∧-10000000≤(x.getD j (0,0)).2∧(x.getD j (0,0)).2≤10000000)(wl:World)(ok:Nat->Prop):Awp qP (cxD wl ok) TD (λe st=>e=.ret∧st.n=85∧OutD st [(4,.sl 1 (((smD xj (clN t)).map czP).map cvC)),(5,.v (.int .i64 0))]) (stD 85 [(6,.pt [.pt (tkC t) 0] 0),(10,.pt [.sl 1 (xj.map shrC)] 0)]):=by
 have cH:(cxD wl ok).uk=none:=rfl;have bQ:∀b,(cxD wl ok).mine b->(cxD wl ok).ok b:=λb hb=>hb.elim;obtain⟨hg,_,_⟩:=gW h.gr;have yO:=dg hg;have hcn:((clN t:Nat):Int)=t.g.co*t.g.ro:=by unfold clN;omega
 have kY:=Tw h;refine ae (ca 5 mixed (by kernel_rfl) ?_);refine aa (aj lg rfl rfl) (aa (bZ rfl) (aa (af qZ rfl) (aa (ax (ds:=[_,_,_,_,_]) oE rfl rfl rfl) (aa (ak F4 (.cons rfl .nil) rfl ((by have q:=jG t.g hg;rw[<-hcn]at q;exact q))) (aw ?_)))));refine za (m:=clN t) uX jW Tz rfl rfl rfl rfl (by (try simp only[Xo]);omega) (by (try simp only[Xo]);omega) rfl rfl ?_;refine aN rfl (aG (x:=.rs _) rfl) (ai ?_);change Awp _ _ _ _ _;refine ae (ae (ca 3 mixed (by kernel_rfl) ?_));refine aa (aj ab2 rfl rfl) (aa (cd ai0 rfl (by exact aV _ _)) (aa (aq (x:=.d (.v _)) rfl) (aw (ai ?_))));change Awp _ _ _ _ _;refine bm (t:=59) rfl (λaA0=>?_)
 (try simp only[Xo]at aA0)
 refine az (bG [16,17,18,61,62,63,64,65,66,67,68,69,70,71,72,73,74,75,76,77,78,79,80,81,82] [58] (α:=Nat) (λi=>[(61,T.i (i:Int))]) (λi=>[(58,.row 108 2 (Ev xj (clN t) i 0))]) (λi=>i≤xj.length) (λi=>xj.length - i) 0 (XC _) ?_ ?_)
 ·exact le_head (ms:=[58]) (by repeat (exact Out.refl _)) ⟨(by rfl),trivial⟩ ⟨(by (show Site.row _ _ _=Site.row _ _ _;(rw[NF];rfl))),trivial⟩ rfl rfl rfl rfl
 ·
  intro i hi;refine ae (ca 1 mixed (by kernel_rfl) ?_);refine aa (cM rfl rfl) (aw (ai ?_));change Awp _ _ _ _ _;refine ae (ao rfl (λl7=>?_) (λl7=>?_))
  ·
   (try simp only[nb,Xv]at l7)
   have rY:i<xj.length:=by omega
   obtain⟨x,hx⟩:∃x,xj[i]?=some x:=⟨_,Xp rY⟩
   have CC:=hs2 x (XA hx);refine wO ?_;change Awp _ _ _ _ _;refine ae (az (ae (ca 3 mixed (by kernel_rfl) ?_)));refine aa (aJ Ug rfl rfl (by omega) (cm (by omega) hx)) (aa (aj ab5 rfl rfl) (aa (aG (x:=.d (.sl _ _)) rfl) (aw (ai ?_))));change Awp _ _ _ _ _;refine ae (ca 3 mixed (by kernel_rfl) ?_);refine aa (aq (x:=.d (.sl _ _)) rfl) (aa (cd MD rfl (by exact aV _ _)) (aa (aq (x:=.d (.v _)) rfl) (aw (ai ?_))));change Awp _ _ _ _ _;refine bm (t:=65) rfl (λaz9=>?_)
   (try simp only[Xo]at az9)
   refine az (bG [17,18,67,68,69,70,71,72,73,74,75,76,77,78,79,80,81] [58] (α:=Nat) (λk=>[(67,T.i (k:Int))]) (λk=>[(58,.row 108 2 (Ev xj (clN t) i k))]) (λk=>k≤clN t) (λk=>clN t - k) 0 (XC _) ?_ ?_)
   ·exact le_head (ms:=[58]) (by repeat (exact Out.refl _)) ⟨(by rfl),trivial⟩ ⟨(by rfl),trivial⟩ rfl rfl rfl rfl
   ·
    intro k hk;refine ae (ca 1 mixed (by kernel_rfl) ?_);refine aa (cM rfl rfl) (aw (ai ?_));change Awp _ _ _ _ _;refine ae (ao rfl (λVr=>?_) (λVr=>?_))
    ·
     (try simp only[nb,Xv]at Vr)
     have bH:k<clN t:=by omega
     have Eo:∃e,x[k]?=some e:=⟨_,Xp (by omega)⟩
     obtain⟨e,Eo⟩:=Eo;have hxg:x.getD k (0,0)=e:=by rw[X1,Eo];rfl
     have J8:=hs3 x (XA hx) k;rw[hxg]at J8;have WI:=Sr (l:=xj) (B:=10000000) (by decide) (j:=k) (i:=i) (λy hy=>hs3 y hy k);have iK:pS (xj.take (i+1)) k=((pS (xj.take i) k).1+e.1,(pS (xj.take i) k).2+e.2):=by rw[iB hx,Hn,hxg]
     have FT:=Rq (x:=e) bH iK;have hea:=VG (l:=xj) (n:=clN t) (i:=i) bH;have Pa:=AS xj (clN t) i k;refine wO ?_;change Awp _ _ _ _ _;refine ae (az (ae (ca 3 mixed (by kernel_rfl) ?_)));refine aa (aq (x:=.d (.v _)) rfl) (aa (aJ uX rfl rfl (by omega) (cm (by omega) Eo)) (aa (ax (ds:=[_,_]) fW rfl rfl rfl) (aw (aD jW rfl rfl rfl (aN rfl (aG (x:=.d (.v _)) rfl) (ay fW rfl rfl (by exact .inr ⟨_,rfl⟩) rfl rfl (by decide) rfl (ai ?_)))))));change Awp _ _ _ _ _;refine ca 9 mixed (by kernel_rfl) ?_;refine aa (aq (x:=.rs _) rfl) (aa (aq (x:=.d (.v _)) rfl) (aa (aq (x:=.rs _) rfl) (aa (aq (x:=.d (.v _)) rfl) (aa (gL uX rfl rfl rfl (by omega) (by omega)) (aa (B6 fW rfl rfl rfl hea) (aa (aX (ds:=[_,_]) fW rfl rfl rfl rfl) (aa (ak an2 (.cons rfl (.cons rfl .nil)) rfl (H2 _ _ _ _ (by omega) (by omega) (by omega) (by omega))) (aa (gL uX rfl rfl rfl (by omega) (by omega)) (aw (jL fW rfl rfl (by exact .inr ⟨_,rfl⟩) rfl rfl (i:=k) (j:=0) rfl hea (by decide) FT (ai ?_)))))))))));change Awp _ _ _ _ _;refine ca 2 mixed (by kernel_rfl) ?_;refine aa (bC rfl rfl (lL.mk (by omega) (by omega))) (aa (aq (x:=.d (.v _)) rfl) (aw (ai ?_)));refine⟨k+1,by omega,by omega,?_⟩;exact le_head (ms:=[58]) (by repeat (first|exact Out.head rfl rfl|(refine Out.put ?_ rfl)|(refine Out.site ?_ rfl))) ⟨(by rfl),trivial⟩ ⟨(by rfl),trivial⟩ rfl rfl rfl rfl
    ·
     (try simp only[nb,Xv]at Vr)
     have vP:k=clN t:=by omega
     subst vP;have Jt:=NH (l:=xj) (n:=clN t) (i:=i);refine bJ ?_;change Awp _ _ _ _ _;refine ca 2 mixed (by kernel_rfl) ?_;refine aa (bC rfl rfl (lL.mk (by omega) (by omega))) (aa (aq (x:=.d (.v _)) rfl) (aw (ai ?_)));refine⟨i+1,by omega,by omega,?_⟩;exact le_head (ms:=[58]) (by repeat (first|exact Out.head rfl rfl|(refine Out.put ?_ rfl)|(refine Out.sN ?_ rfl rfl rfl))) ⟨(by rfl),trivial⟩ ⟨(by (show Site.row _ _ _=Site.row _ _ _;(rw[Jt];done))),trivial⟩ rfl rfl rfl rfl
  ·
   (try simp only[nb,Xv]at l7)
   have n7:i=xj.length:=by omega
   subst n7;rw[Rr];refine bJ ?_;change Awp _ _ _ _ _;refine ae (Awp.le (FH (es:=(smD xj (clN t)).map shC) 58 14 (by show Site.row _ _ _=_;rfl) rfl rfl rfl bQ) ?_);refine ca 4 mixed (by kernel_rfl) ?_;refine aa (aq (x:=.d (.sl _ _)) rfl) (aa (ak an1 (.cons rfl .nil) rfl (qu (smD xj (clN t)) (by rw[PU];omega))) (aa (aG (x:=.d (.sl _ _)) rfl) (aa (aG (x:=.d (.v _)) rfl) (aw (ai ?_)))));change Awp _ _ _ _ _;refine ah ?_;exact⟨rfl,rfl,⟨⟨rfl,(by exact .d _)⟩,⟨rfl,(by exact .d _)⟩,trivial⟩⟩
theorem Gn{s:Nat->Site}{t:T}{x y:D}(h:t=.d y)(e:y=x):AsD s t x:=by subst h;subst e;exact .d _
set_option maxHeartbeats 4000000 in
theorem lawE(t:Tsk)(dl:List (List Int))(res:List (Nat × Nat))(e:Int)(h1:litB t=true)(hE:e=if (ckT t).2≠0 then (ckT t).2 else (dealR t.ne dl).2)(hR:e≠0->res=[])(hR2:e=0->res=imL t (evI t) [])(wl:World)(ok:Nat->Prop):SW qP bL [Par.di qP] (cxD wl ok) (PostR 76 bL ok wl [(4,.v (.bool true))]) [.inRegion ops5L [5,6,7,8,9],.code sufL] (stD 76 [(1,.sl 1 (dl.map lC)),(2,.pt (tskC t) 0),(25,.da [.sl 1 (res.map cvC),.v (.int .i64 e)])]):=by
 have cH:(cxD wl ok).uk=none:=rfl;obtain⟨Vf,SN⟩:=lit_le h1;refine sw_op rfl rfl rfl (i:=5) rfl rfl (by kernel_rfl) (cp rfl λops rest R h=>aN rfl (aq (x:=.d (.da _)) rfl) h) ?_;refine sw_op rfl rfl rfl (i:=6) rfl rfl (by kernel_rfl) (cp rfl λops rest R h=>aN rfl (au rfl rfl) h) ?_;refine sw_op rfl rfl rfl (i:=7) rfl rfl (by kernel_rfl) (cp rfl λops rest R h=>aN rfl (au rfl rfl) h) ?_;refine sw_op rfl rfl rfl (i:=8) rfl rfl (by kernel_rfl) (cp rfl λops rest R h=>aN rfl (aG (x:=.d (.sl _ _)) rfl) h) ?_;refine sw_op rfl rfl rfl (i:=9) rfl rfl (by kernel_rfl) (cp rfl λops rest R h=>aN rfl (aG (x:=.d (.v _)) rfl) h) ?_;refine sw_nil ?_;refine sw_tail rfl ?_;refine ae (ca 3 mixed (by kernel_rfl) ?_);refine aa (ax kJ rfl rfl rfl) (aa (ak aF4 (.cons rfl .nil) rfl (E3 _)) (aa (aG (x:=.d (.v _)) rfl) (aw (ai ?_))));change Awp _ _ _ _ _;refine ae (ae (ca 2 mixed (by kernel_rfl) ?_));refine aa (aq (x:=.d (.v _)) rfl) (aa (fG rfl rfl) (aw (ai ?_)));change Awp _ _ _ _ _;refine ao rfl (λmo=>?_) (λmo=>?_)
 ·
  (try simp only[nb,Xv]at mo)
  have bg:TskOk t:=ckT_ok mo;have Pa:=bg.el;have aI0:=bg.n1;have aH9:=bg.n2;obtain⟨hg,_,_⟩:=gW bg.gr;have hcn:((clN t:Nat):Int)=t.g.co*t.g.ro:=by have:=dg hg;unfold clN;omega
  have hwn:dealR (t.ar.el.length:Int) dl=dealR t.ne dl:=by rw[Pa]
  have he:e=(dealR t.ne dl).2:=by rw[hE,Xr (λq=>q mo)]
  refine ca 10 mixed (by kernel_rfl) ?_;refine aa (af fc rfl) (aa (af du rfl) (aa (aj jP rfl rfl) (aa (cd kA rfl (by exact aV _ _)) (aa (aq (x:=.d (.sl _ _)) rfl) (aa (ak aF3 (.cons rfl (.cons rfl .nil)) rfl (zL t.ar.el.length dl)) (aa (aq (x:=.d (.da _)) rfl) (aa (au rfl rfl) (aa (au rfl rfl) (aa (aG (x:=.d (.v _)) rfl) (aw (ai ?_)))))))))));change Awp _ _ _ _ _;refine bm (t:=35) rfl (λaA1=>?_)
  (try simp only[Xo]at aA1)
  refine ae (ae (ca 2 mixed (by kernel_rfl) ?_));refine aa (aq (x:=.d (.v _)) rfl) (aa (bS rfl rfl) (aw (ai ?_)));change Awp _ _ _ _ _;refine ao rfl (λCZ=>?_) (λCZ=>?_)
  ·
   (try simp only[nb,Xv]at CZ)
   have hr:=hR (by rw[he,<-hwn];exact CZ);subst hr;rw[<-hwn]at he;refine ae (ca 9 mixed (by kernel_rfl) ?_);refine aa (aq (x:=.d (.v _)) rfl) (aa (aq (x:=.d (.v _)) rfl) (aa (fG rfl rfl) (aa (aq (x:=.d (.v _)) rfl) (aE rfl rfl (λhG=>(aq (x:=.d (.sl _ _)) rfl)) (aE rfl rfl (λhG=>(cd yF rfl (by exact aV _ _))) (aE rfl rfl (λhG=>(fG rfl rfl)) (aT rfl rfl rfl rfl rfl rfl ?_)))))));refine aa (aG (x:=.d (.v _)) rfl) (aw (ai ?_));change Awp _ _ _ _ _;refine ah ?_;exact⟨rfl,rfl,⟨rfl,Gn rfl (by simp[he])⟩,trivial⟩
  ·
   (try simp only[nb,Xv]at CZ)
   have he0:e=0:=by rw[he,<-hwn];exact CZ
   have hr:=hR2 he0;subst hr;have fK:Cz t=(imL t (evI t) [],0):=by unfold Cz;rw[Xr (λq=>q mo)]
   have rY:=QN t (evI t) [];refine wO ?_;change Awp _ _ _ _ _;refine ae (ca 8 mixed (by kernel_rfl) ?_);refine aa (ax kJ rfl rfl rfl) (aa (ak en9 (.cons rfl .nil) rfl (B0 _ (by omega) (by omega))) (aa (ak aF2 (.cons rfl .nil) rfl ((by have q:=MJ t;rw[fK]at q;exact q))) (aa (aq (x:=.d (.da _)) rfl) (aa (au rfl rfl) (aa (au rfl rfl) (aa (aG (x:=.d (.sl _ _)) rfl) (aa (aG (x:=.d (.v _)) rfl) (aw (ai ?_)))))))));change Awp _ _ _ _ _;refine ae (ca 20 mixed (by kernel_rfl) ?_);refine aa (aq (x:=.d (.v _)) rfl) (aa (fG rfl rfl) (aa (aq (x:=.d (.v _)) rfl) (aE rfl rfl (λhG=>(aq (x:=.d (.v _)) rfl)) (aE rfl rfl (λhG=>(fG rfl rfl)) (aT rfl rfl rfl rfl rfl rfl ?_)))));refine aa (aq (x:=.d (.v _)) rfl) (aE rfl rfl (λhG=>(aq (x:=.d (.sl _ _)) rfl)) (aE rfl rfl (λhG=>(cd yF rfl (by exact aV _ _))) (aE rfl rfl (λhG=>(af fy rfl)) (aE rfl rfl (λhG=>(ax (ds:=[_,_,_,_,_]) mI rfl rfl rfl)) (aE rfl rfl (λhG=>(ak VN (.cons rfl .nil) rfl (ve t.g hg))) (aE rfl rfl (λhG=>(fG rfl rfl)) (aT rfl rfl rfl rfl rfl rfl ?_)))))));refine aa (aq (x:=.d (.v _)) rfl) (aE rfl rfl (λhG=>(aq (x:=.d (.sl _ _)) rfl)) (aE rfl rfl (λhG=>(aq (x:=.d (.sl _ _)) rfl)) (aE rfl rfl (λhG=>(ak aF1 (.cons rfl (.cons rfl .nil)) rfl (E2 _ _))) (aT rfl rfl rfl rfl rfl rfl ?_))));refine aa (aG (x:=.d (.v _)) rfl) (aw (ai ?_));change Awp _ _ _ _ _;refine ah ?_;exact⟨rfl,rfl,⟨rfl,Gn rfl (by simp[he0,rY,hcn])⟩,trivial⟩
 ·
  (try simp only[nb,Xv]at mo)
  have he:e=(ckT t).2:=by rw[hE,Xu mo]
  refine wO ?_;change Awp _ _ _ _ _;refine ae (ae (ca 2 mixed (by kernel_rfl) ?_));refine aa (aq (x:=.d (.v _)) rfl) (aa (bS rfl rfl) (aw (ai ?_)));change Awp _ _ _ _ _;refine ao rfl (λCZ=>?_) (λCZ=>?_)
  ·
   (try simp only[nb,Xv]at CZ)
   have hr:=hR (by rw[he];exact CZ);subst hr;refine ae (ca 9 mixed (by kernel_rfl) ?_);refine aa (aq (x:=.d (.v _)) rfl) (aa (aq (x:=.d (.v _)) rfl) (aa (fG rfl rfl) (aa (aq (x:=.d (.v _)) rfl) (aE rfl rfl (λhG=>(aq (x:=.d (.sl _ _)) rfl)) (aE rfl rfl (λhG=>(cd yF rfl (by exact aV _ _))) (aE rfl rfl (λhG=>(fG rfl rfl)) (aT rfl rfl rfl rfl rfl rfl ?_)))))));refine aa (aG (x:=.d (.v _)) rfl) (aw (ai ?_));change Awp _ _ _ _ _;refine ah ?_;exact⟨rfl,rfl,⟨rfl,Gn rfl (by simp[he])⟩,trivial⟩
  ·
   (try simp only[nb,Xv]at CZ)
   exact absurd CZ mo
theorem H0{n:Int}:∀{l ks:List Int},(aH n ks l).1=0->wU n ks->(aH n ks l).2=ks++l∧wU n (ks++l)
 | [],ks,_,h=>by rw[ZL];exact⟨rfl,h⟩
 | x::l,ks,h,hk=>by
  unfold aH at h ⊢
  by_cases h1:¬dP 0 x (n - 1)=true
  ·rw[Xu h1]at h;cases h
  ·rw[Xr h1]at h ⊢
   by_cases h2:x∈ks
   ·rw[Xu h2]at h;cases h
   ·rw[Xr h2]at h ⊢
    have h3:=cY.1 (XU.1 h1);have:=H0 h (Ag hk h3 h2)
    rwa [Yr,List.singleton_append]at this
theorem NZ{n:Int}:∀{dl:List (List Int)} {ks:List Int} {b:Int},(My n ks b dl).1=0->wU n ks->(My n ks b dl).2.1=ks++dl.flatten∧wU n (ks++dl.flatten)
 | [],ks,b,_,h=>by rw[List.flatten_nil,ZL];exact⟨rfl,h⟩
 | l::dl,ks,b,h,hk=>by
  unfold My at h ⊢
  by_cases h1:(aH n ks l).1≠0
  ·rw[Xu h1]at h;exact absurd h h1
  ·rw[Xr h1]at h ⊢
   obtain⟨e,O8⟩:=H0 (XU.1 h1) hk;rw[e]at h ⊢;have:=NZ h O8
   rwa [Yr,<-ZP]at this
theorem deal_ok{n:Int}{dl:List (List Int)}(h:(dealR n dl).2=0):wU n dl.flatten∧dl.length≤16∧n≤dl.flatten.length:=by
 unfold dealR at h
 split at h
 ·cases h
 split at h
 ·cases h
 split at h
 ·rename_i h3;exact absurd h h3
 split at h
 ·cases h
 rename_i h1 h2 h3 h4;obtain⟨e,hk⟩:=NZ (XU.1 h3) (⟨List.nodup_nil,λx hx=>by cases hx⟩:wU n []);rw[Yt]at e hk;rw[e]at h4;exact⟨hk,by omega,by omega⟩
theorem QA{n:Nat}{x:Int}:x∈gY n↔0≤x∧x<n:=by
 refine⟨Iq,λh=>?_⟩;unfold gY;exact X6.2 ⟨x.toNat,YJ.2 (by omega),by omega⟩
theorem Jd(n:Nat):(gY n).Nodup:=by
 unfold gY;rw[List.Nodup,List.pairwise_map];exact List.nodup_range.imp λh q=>h (by omega)
theorem JH{n:Int}{dl:List (List Int)}(hn:0≤n)(h:(dealR n dl).2=0):dl.flatten.Perm (gY n.toNat):=by
 obtain⟨hk,_,hl⟩:=deal_ok h;refine(List.perm_ext_iff_of_nodup hk.1 (Jd _)).2 λx=>?_;rw[QA];constructor
 ·intro hx;have:=hk.2 x hx;omega
 ·intro hx
  refine Decidable.by_contra λhc=>?_;have:=FJ (Ag hk (by omega) hc) hn;rw[XI,List.length_singleton]at this;omega
theorem Kr(t:Tsk)(c:Int)(x y:Int × Int)(s:(Int × Int) × Int):EE t c [] (EE t c [] s x) y=EE t c [] (EE t c [] s y) x:=by
 rw[nK,nK,nK,nK]
 by_cases q1:dP 0 (su t.ar (gZ t.g c) x) 60=true<;>by_cases q2:dP 0 (su t.ar (gZ t.g c) y) 60=true<;>simp[q1,q2]<;>omega
theorem Ks(t:Tsk)(c:Int){l m:List (Int × Int)}(h:l.Perm m):lN t c [] l=lN t c [] m:=h.foldl_eq' (λx _ y _ s=>Kr t c x y s) _
theorem zm(t:Tsk)(c:Int):∀(l:List (Int × Int)) (s:(Int × Int) × Int),l.foldl (EE t c []) s=((s.1.1+(lN t c [] l).1.1,s.1.2+(lN t c [] l).1.2),s.2+(lN t c [] l).2)
 | [],s=>by
  show s=((s.1.1+0,s.1.2+0),s.2+0)
  simp
 | y::l,s=>by
  have e:lN t c [] (y::l)=l.foldl (EE t c []) (EE t c [] ((0,0),0) y):=rfl;rw[e,zm t c l];show l.foldl (EE t c []) (EE t c [] s y)=_
  rw[zm t c l,nK,nK]
  by_cases q:dP 0 (su t.ar (gZ t.g c) y) 60=true
  ·rw[Xu q,Xu q]
   simp only[ZM];omega
  ·rw[Xr q,Xr q]
   simp only[ZM];omega
theorem Pr(t:Tsk)(c:Int)(l m:List (Int × Int)):lN t c [] (l++m)=(((lN t c [] l).1.1+(lN t c [] m).1.1,(lN t c [] l).1.2+(lN t c [] m).1.2),(lN t c [] l).2+(lN t c [] m).2):=by
 have e:lN t c [] (l++m)=m.foldl (EE t c []) (lN t c [] l):=by unfold lN;rw[List.foldl_append]
 rw[e,zm]
theorem Qk(l m:List Int)(n:Nat):mW (l++m) n=mW l n++mW m n:=by unfold mW;rw[List.flatMap_append]
def shsOf(t:Tsk)(dl:List (List Int)):List (List (Int × Int)):=dl.map λfs=>vlsL t fs []
theorem Pp(t:Tsk)(fs:List Int):(vlsL t fs []).length=clN t:=pY _ _ _ _
theorem Kp(t:Tsk)(fs:List Int)(j:Nat):(vlsL t fs []).getD j (0,0)=if j<clN t then (lN t (j:Int) [] (mW fs t.ne.toNat)).1 else (0,0):=by
 rw[X1];unfold vlsL uK;rw[XF]
 split
 ·rename_i h;rw[Y4 h];rfl
 ·rename_i h;rw[List.getElem?_eq_none (by rw[Yx];omega)];rfl
theorem Ho(t:Tsk){j:Nat}(hj:j<clN t):∀(dl:List (List Int)) (s:Int × Int),(shsOf t dl).foldl (λs x=>(s.1+(x.getD j (0,0)).1,s.2+(x.getD j (0,0)).2)) s=(s.1+(lN t (j:Int) [] (mW dl.flatten t.ne.toNat)).1.1,s.2+(lN t (j:Int) [] (mW dl.flatten t.ne.toNat)).1.2)
 | [],s=>by
  show s=(s.1+0,s.2+0)
  simp
 | fs::dl,s=>by
  have e:shsOf t (fs::dl)=vlsL t fs []::shsOf t dl:=rfl;rw[e,List.foldl_cons,Ho t hj dl,ZP,Qk,Pr,Kp,Xu hj];simp only[ZM];omega
theorem res_eq{t:Tsk}{dl:List (List Int)}(h:TskOk t)(hd:(dealR t.ne dl).2=0):(smD (shsOf t dl) (clN t)).map czP=imL t (evI t) []:=by
 have hn:=h.n1;unfold imL vlsL uK smD evI;congr 1;refine Y5 λj hj=>?_;have bH:=YJ.1 hj;have hp:(mW dl.flatten t.ne.toNat).Perm (mW (gY t.ne.toNat) t.ne.toNat):=List.Perm.flatMap_right _ (JH (by omega) hd);unfold pS;rw[Ho t bH,Ks t _ hp];simp
theorem shs_in{t:Tsk}{dl:List (List Int)}(h:TskOk t)(hl:∀x∈dl,x.length≤20):(∀x∈shsOf t dl,x.length=clN t)∧∀x∈shsOf t dl,∀j,-10000000≤(x.getD j (0,0)).1∧(x.getD j (0,0)).1≤10000000∧-10000000≤(x.getD j (0,0)).2∧(x.getD j (0,0)).2≤10000000:=by
 have Bi:=h.n2;refine⟨λx hx=>?_,λx hx j=>?_⟩
 ·obtain⟨fs,_,rfl⟩:=X6.1 hx
  exact Pp t fs
 ·obtain⟨fs,hfs,rfl⟩:=X6.1 hx
  rw[Kp]
  split
  ·have hb:=EF h (c:=(j:Int)) (dd:=[]) (l:=mW fs t.ne.toNat) _ (Xw _)
   rw[YL,zS]at hb;have h1:=hl fs hfs;have h2:fs.length*t.ne.toNat≤20*16:=Nat.mul_le_mul h1 (by omega);have h3:((fs.length*t.ne.toNat:Nat):Int)≤320:=by omega
   have h4:(0:Int)≤((fs.length*t.ne.toNat:Nat):Int):=Int.natCast_nonneg _;generalize ((fs.length*t.ne.toNat:Nat):Int)=q at *;omega
  ·simp
theorem few_ok{dl:List (List Int)}(h:fewF dl=true):dl.length≤18∧∀x∈dl,x.length≤20:=by
 unfold fewF at h;rw[Xs,XW,X0]at h;exact⟨h.1,λx hx=>by have:=h.2 x hx;simpa using this⟩
theorem row_ok(t:Tsk)(fs:List Int):Par.Wo ((vlsL t fs []).map shC):=by
 intro x hx d hd;obtain⟨y,_,rfl⟩:=X6.1 hx;simp only[shC,Xy,XG,Yn]at hd
 rcases hd with rfl|rfl<;>exact⟨_,rfl⟩
end
end Go.Proofs.YthcfokccjljnpaaGreat.Am.M
namespace Go.Proofs.YthcfokccjljnpaaGreat.Par
section
open Go Go.Conc Go.RowKit
open Go.ConcN (ShN Has PayAt)
open Go.ConcR (DC0 Payload)
open Am (D Rep)
open Am.M (Tsk tskC tkC lC iC shC cvC czP litB fewF ckT ckT_ok dealR TskOk imL evI clN vlsL shsOf smD shrC bL bE PostGo GoOk lawA lawB lawC dealtW dealtD dealtK tailD lawE deal_ok res_eq shs_in few_ok row_ok lit_le values_p)
theorem Vz:Fk qP Tryz.prog (KO 0 Tryz.prog) id:=fkQ id
theorem Gj:spin oY proE=DR:=by kernel_rfl
theorem G1:spine proL:=by show spine (.seq _ (.seq _ (.seq _ .skip)));exact trivial
theorem G2:spine proE:=by show spine (.seq _ (.seq _ (.seq _ (.seq _ (.seq _ .skip)))));exact trivial
theorem Hw:okC 0 Tryz.prog proL=true:=by kernel_rfl
theorem LZ:okC 0 Tryz.prog restL=true:=by kernel_rfl
theorem Hx:okC 0 Tryz.prog proE=true:=by kernel_rfl
theorem af4:okC 0 Tryz.prog TD=true:=by kernel_rfl
theorem Hv:okI 0 Tryz.prog (.inRegion ops5L [5,6,7,8,9])=true∧okC 0 Tryz.prog sufL=true:=⟨by kernel_rfl,by kernel_rfl⟩
theorem af5:okI 0 Tryz.prog (.inRegion qp [])=true:=by kernel_rfl
theorem pC{f:Nat}{T:Array Value}{items:List Item}(hf:∃fn wB,qP.funcs[f]?=some fn∧Tryz.prog.funcs[f]?=some wB∧wB.results=fn.results)(h:∀i∈items,okI 0 Tryz.prog i=true):mu 0 qP Tryz.prog ((base f).at ⟨T,[]⟩ items):=
 ⟨rfl,.inl rfl,h,(λd hd=>by cases hd),λ_=>hf⟩
theorem L9{g:Nat}{f:Func}(h:Tryz.prog.funcs[g]?=some f)(hg:flags[g]?=some false):qP.funcs[g]?=some (oH f.results):=by
 have h':Tryz.prog.funcs.toList[g]?=some f:=by simpa using h
 show (⟨mapG flags Tryz.prog.funcs.toList⟩:Array Func)[g]?=some _
 rw[X8,uB,hg,h'];rfl
theorem fnL:∃fn wB,qP.funcs[3]?=some fn∧Tryz.prog.funcs[3]?=some wB∧wB.results=fn.results:=⟨_,_,L9 Tryz.func3 rfl,Tryz.func3,rfl⟩
theorem fnE:∃fn wB,qP.funcs[8]?=some fn∧Tryz.prog.funcs[8]?=some wB∧wB.results=fn.results:=⟨_,_,L9 Tryz.func8 rfl,Tryz.func8,rfl⟩
theorem ol4:eO ops5L 4 (.call { callee:=.value (.func 8),args:=#[.tmp 22,.tmp 24],argTypes:=#[37,38] }) (some 25):=⟨⟨_,rfl,rfl,rfl,rfl⟩⟩
theorem ah3:(Tryz.f8.name == "runtime.NumGoroutine")=false:=by kernel_rfl
theorem ntD:Tryz.f8.ntmps=85:=by kernel_rfl
theorem Sg.below{M M0:Nat}{w wE w':World}(S:Sg M w wE w')(h:w.heap.size≤w'.heap.size)(hM:M0≤M):Below M0 w w':=⟨S.os,S.tape,S.output,h,λk hk=>S.low k (by omega)⟩
theorem Tm.low{w w':World}{ok ok':Nat->Prop}{l:List (Nat × D)}{T:Array Value}(h:Tm w ok l T)(hs:w.heap.size≤w'.heap.size)(hk:∀b,b<w.heap.size->w'.heap[b]?=w.heap[b]?)(bg:∀b,b<w.heap.size->ok' b):Tm w' ok' l T:=by
 refine(h.imp (λd v r=>Am.Rep.ok r (ok':=λb=>b<w.heap.size) λb hb _=>hb)).cells hs (λa v ha hc=>?_) λb hb _=>bg b hb;unfold World.cell? at hc ⊢;rw[hk _ ha];exact hc
variable{m0:Machine}{Shun:Loc->Prop}{X:Nat->Prop}{w W:World}{T T2:Array Value}{todo:List Item}
theorem HN(h:JW Tryz.prog m0 Shun { bL.at ⟨T,[]⟩ todo with mode:=.returning } [] w)(hT:T[4]?=some (.bool true))(hB:Below W.heap.size W w) :
  ∃N last o w' t',runNT Tryz.prog (N+1) m0 #[]=(.ended o w',t')∧runN Tryz.prog N m0=.next last∧step Tryz.prog last=.ended o w'∧Conc.Good Tryz.prog (λv w'=>v=.bool true∧Below W.heap.size W w') last o w' t':=by
 obtain⟨n,gs,sl,t,q,B,h1,h2,h3,h4⟩:=h;have e4:T.getD 4 undef=.bool true:=by rw[XN,hT];rfl
 obtain⟨N,last,o,w',t',k1,k2,k3,k4⟩:=beside_ends (Shun:=Shun) (B:=max B w.heap.size) (D:=DC0) (Post:=λv w'=>v=.bool true∧Below W.heap.size W w') (n:=0) (sl:=sl) (λw w' es hd e he=>by rw[hd.2]at he;simp at he) h2 h3 h4 (λw1 hr=>by
  obtain⟨d,rfl⟩:=hr;refine⟨rfl,.bool true,#[],?_,(λe he=>by simp at he),rfl,⟨hB.os,hB.tape,hB.output,hB.size,hB.block⟩⟩
  simp[G,stepG,unwind,doReturn,results,Frame.at,base,Tryz.func3,Tryz.f3,seen,GStep.after,e4,hT])
 refine⟨n+N,last,o,w',t',?_,?_,k3,k4⟩
 ·rw[YZ,runNT_add,h1];exact k1
 ·rw[runN_add,<-runNT_fst Tryz.prog _ _ #[],h1];exact k2
theorem yB{t:Tsk}{dl:List (List Int)}{res:List (Nat × Nat)}{e:Int}{T':Array Value}{td:List Item}(h:JW Tryz.prog m0 Shun { bE.at ⟨T',[]⟩ td with mode:=.returning } [bL.at ⟨T2,[]⟩ [.inRegion ops5L [4,5,6,7,8,9],.code sufL]] w)(hX:∀b,X b->b<w.heap.size)(hS:∀l,Shun l->∃a,l=.cell a∧X a.block)
  (hB:Below W.heap.size W w) (hT':Tm w (λb=>¬X b) [(4,.sl 1 (res.map cvC)),(5,.v (.int .i64 e))] T') (S3:Tm w (λb=>¬X b) [(1,.sl 1 (dl.map lC)),(2,.pt (tskC t) 0)] T2) (hn:T2.size=76)
  (h1:litB t=true) (hE:e=if (ckT t).2≠0 then (ckT t).2 else (dealR t.ne dl).2) (hR:e≠0->res=[]) (hR2:e=0->res=imL t (evI t) []) :
  ∃N last o w' t',runNT Tryz.prog (N+1) m0 #[]=(.ended o w',t')∧runN Tryz.prog N m0=.next last∧step Tryz.prog last=.ended o w'∧Conc.Good Tryz.prog (λv w'=>v=.bool true∧Below W.heap.size W w') last o w' t':=by
 obtain⟨⟨v4,q1,q2⟩,⟨v5,q3,q4⟩,_⟩:=hT';have g4:T'.getD 4 undef=v4:=by rw[XN,q1];rfl
 have g5:T'.getD 5 undef=v5:=by rw[XN,q3];rfl
 obtain⟨o4,a1,a2,a3,a4⟩:=ol4.get
 obtain⟨d,hA⟩:=Ox (fr':=bL.at ⟨T2.setIfInBounds 25 (.tuple #[v4,v5]),[]⟩ [.inRegion ops5L [5,6,7,8,9],.code sufL]) (cs':=[]) (m:=1) h (Goes.step rfl λw1 hr=>goes_leave2 (t:=4) (u:=5) rfl rfl Tryz.func8 rfl ⟨⟨rfl,rfl⟩,λw2 Jr=>by
  rw[g4,g5,a1];show G (bL.at ((⟨T2,[]⟩:Act).put o4.dst _) _) _=_
  rw[a3];rfl⟩)
 have hT:Tm (w.at d) (λb=>¬X b) [(1,.sl 1 (dl.map lC)),(2,.pt (tskC t) 0),(25,.da [.sl 1 (res.map cvC),.v (.int .i64 e)])] (T2.setIfInBounds 25 (.tuple #[v4,v5])):=by
  have h2:Tm (w.at d) (λb=>¬X b) [(1,.sl 1 (dl.map lC)),(2,.pt (tskC t) 0)] T2:=S3.cells (Xw _) (λ_ _ _ h=>h) λ_ _ h=>h;obtain⟨k1,k2,_⟩:=h2.put (d:=25) (v:=.tuple #[v4,v5]) rfl;refine⟨k1,k2,⟨.tuple #[v4,v5],X9 (by omega),?_⟩,trivial⟩;refine Am.Rep.da _ [v4,v5] rfl λj d v hd hv=>?_
  match j,hd,hv with
  | 0,hd,hv=>cases hd;cases hv;exact q2.cr (Xw _) (λ_ _ _ h=>h) λ_ _ h=>h
  | 1,hd,hv=>cases hd;cases hv;exact q4.cr (Xw _) (λ_ _ _ h=>h) λ_ _ h=>h
  | j+2,hd,hv=>simp at hd
 obtain⟨T3,td3,w3,wE,r1,r2,⟨⟨v,r3,r4⟩,_⟩,r5,r6⟩:=DY (M:=W.heap.size) (X:=X) (b:=bL) (r:=none) (n:=76) (l':=[(4,.v (.bool true))]) Vz hA (show W.heap.size≤w.heap.size from hB.size) hX hS (λc hc=>by cases hc) (pC fnL λi hi=>by
  simp only[Xy,XG,Yn]at hi
  rcases hi with rfl|rfl
  ·exact Hv.1
  ·exact Hv.2) (.same rfl rfl) hT (by simp[hn]) λwl=>lawE t dl res e h1 hE hR hR2 wl _
 have hv:=Am.Rep.c8 r4;subst hv;exact HN r1 r3 ((show Below W.heap.size W (w.at d) from ⟨hB.os,hB.tape,hB.output,hB.size,hB.block⟩).trans (r5.below r6 (Xw _)))
end
section
open Go Go.Conc Go.RowKit
open Go.ConcN (ShN Has PayAt)
open Go.ConcR (DC0 Payload)
open Am (D Rep)
open Am.M (Tsk tskC tkC lC iC shC cvC czP litB fewF ckT ckT_ok dealR TskOk imL evI clN vlsL shsOf smD shrC bL bE PostGo GoOk lawA lawB lawC dealtW dealtD dealtK tailD lawE deal_ok res_eq shs_in few_ok row_ok lit_le values_p)
variable{m0:Machine}{w wl wE wc:World}{T:Array Value}{t:Tsk}{dl:List (List Int)}{A:Option Addr}{cap bx C bs M:Nat}{xv:Value}{lf:Frame}
theorem By{fs:List Int}{fv:Value}(h:TskOk t)(hf:∀x∈fs,0≤x∧x<t.ne)(hl:fs.length≤100){w1:World}{ok:Nat->Prop}(hx:Rep w1 ok (.pt (tkC t) 0) xv)(hv:Rep w1 ok (.sl 1 (fs.map iC)) fv) :
  ∃N cB wE v,Lone qP N (lone (Pf xv fv) [di qP] w1) cB wE∧cB.mode=.returning∧cB.defers=[]∧(∃fn,qP.funcs[cB.fn]?=some fn∧(results fn cB.tmps).run qP wE=.ok v wE)∧Rep wE (λ_=>True) (.sl 2 ((vlsL t fs []).map shC)) v:=by
 obtain⟨e,w',fr,⟨v,rfl,_,hr⟩,⟨N,hs⟩,WX,hm,hd,_,sL⟩:=values_p t fs [] h hf hl w1 ok [xv,fv,.slice none 0 0] ⟨hx,hv,.emp _ _ _ (XC _),trivial⟩ [di qP]
 have e1:Frame.enter qP 35 [xv,fv,.slice none 0 0].toArray .normal=Pf xv fv:=by
  rw[enter_at _ (qA Tryz.func35 rfl) DQ,ntV];rfl
 rw[e1]at hs;exact⟨N,fr,w',v,⟨hs,λch=>by rw[hm];simp⟩,hm,hd,sL,Am.Rep.ok hr λ_ _ _=>trivial⟩
def ak6(A:Option Addr)(w:World)(i:Nat):Value:=match A with|some ad=>(w.cell? (ad.add i)).getD undef|none=>undef
def Pq(t:Tsk)(dl:List (List Int))(i:Nat):List (List D):=(vlsL t (dl.getD i []) []).map shC
theorem Nq(h:TskOk t)(hd:(dealR t.ne dl).2=0)(hl:∀x∈dl,x.length≤20)(G:GoOk t dl wl wE T A cap bx C bs xv)(S:Sg M wc wE w)(hM:M≤C):uI w C dl.length bx bs cap A T xv (ak6 A w) (Pq t dl):=by
 obtain⟨hk,Ay,_⟩:=deal_ok hd;have hC:=G.hC;have hx:=G.hx;have hs:=S.size
 have el:∀i,i<dl.length->∃ad v,A=some ad∧(ad.add i).block<C∧w.cell? (ad.add i)=some v∧Rep wE (λb=>b<C) (.sl 1 ((dl.getD i []).map iC)) v∧ak6 A w i=v∧dl.getD i []∈dl:=λi hi=>by
  obtain⟨ad,v,rfl,h1,h2,h3⟩:=G.el i dl[i] (Xp hi);have e:dl.getD i []=dl[i]:=by rw[X1,Xp hi];rfl
  refine⟨ad,v,rfl,h1,S.cell _ _ h2,by rw[e];exact h3,?_,by rw[e];exact ZU hi⟩;show (w.cell? (ad.add i)).getD undef=v
  rw[S.cell _ _ h2];rfl
 refine⟨G.sz,G.t1,G.t6,G.t10,by omega,⟨by omega,by omega⟩,⟨by omega,by omega⟩,?_,S.cell _ _ G.sh,S.cell _ _ G.xb,λi hi=>?_,λi hi=>?_,λi=>row_ok t _,λi hi w1 tX bW=>?_,by omega⟩
 ·obtain⟨cs,h1,h2⟩:=G.pay
  exact⟨cs,S.heap _ _ hM h1 (λe=>by cases e),h2⟩
 ·obtain⟨ad,v,rfl,h1,h2,_,h3,_⟩:=el i hi
  exact⟨ad,rfl,⟨by omega,by omega⟩,by rw[h3];exact h2⟩
 ·obtain⟨ad,v,rfl,h1,h2,hr,h3,_⟩:=el i hi
  rw[h3];exact yi hr
 ·obtain⟨ad,v,rfl,h1,h2,hr,h3,hm⟩:=el i hi
  rw[h3];have jE:∀(a:Addr) v,a.block<C->wE.cell? a=some v->w1.cell? a=some v:=λa v ha hv=>bW a v (by omega) (by omega) (S.cell _ _ hv);refine By (ok:=λ_=>True) h (λx hx=>?_) (by have:=hl _ hm;omega) (jk G.xr (by omega) jE λ_ _ _=>trivial) (jk hr (by omega) jE λ_ _ _=>trivial);have:=hk.2 x (List.mem_flatten.2 ⟨_,hm,hx⟩);omega
theorem Ft{α:Type}{x d:α}{j:Nat}(h:[x][j]?=some d):j=0∧d=x:=by
 cases j with
 | zero=>cases h;exact⟨rfl,rfl⟩
 | succ j=>simp at h
theorem F9(h:TskOk t)(hd:(dealR t.ne dl).2=0)(hl:∀x∈dl,x.length≤20)(G:GoOk t dl wl wE T A cap bx C bs xv)(S:Sg M wc wE w)(hM:M≤C)(ep:lf.mode=.run)(h1:GC Tryz.prog m0 ((base 8).at ⟨T,[]⟩ [.code oY]) [lf] w) :
  ∃Wg T' td w',JW Tryz.prog m0 (ShN Wg) { bE.at ⟨T',[]⟩ td with mode:=.returning } [lf] w'∧w.heap.size≤Wg∧Wg<w'.heap.size∧Tm w' (λb=>¬b=Wg) [(4,.sl 1 (((smD (shsOf t dl) (clN t)).map czP).map cvC)),(5,.v (.int .i64 0))] T'∧Below M w w':=by
 have hC:=G.hC;have hx:=G.hx;have hs:=S.size;obtain⟨_,Ay,_⟩:=deal_ok hd;have St:=Nq h hd hl G S hM;obtain⟨n,sl,tr0,q,r1,r2,r3,r4⟩:=h1;obtain⟨N,m1,k1,⟨k2,k3,k4,k5⟩,n',gs,g,w',sl',t',q',B,Ss,val,j1,j2,j3,j4,j5,j6,j7,j8,j9,j10,j11,j12,j13,j14⟩:=DC St ⟨r2,r3⟩ [lf] sl;obtain⟨T2,S3,hg,hG⟩:=j4;obtain⟨m,hm⟩:=hG.at (w:=w') trivial;have US:∀b,b<w.heap.size->b≠C->w'.heap[b]?=w.heap[b]?:=λb hb hc=>(j13 b ⟨Nat.lt_succ_of_lt hb,by show b≠w.heap.size;omega,hc⟩).trans (k5 b hb);have xx:w.heap.size+1≤w'.heap.size:=j14;obtain⟨d,hN⟩:=D2 (P:=Tryz.prog) (m0:=m0) (Shun:=ShN w.heap.size) (w:=w') (fr':=(base 8).at ⟨T2,[]⟩ [.inRegion qp [],.code TD]) (cs':=[lf]) ⟨_,gs,sl',t',q',B,gC r1 (gC k1 j1),j3,j5,j6.mono (Nat.le_max_left ..)⟩ (eF (λg' w h=>h.1) hm)
 have jE:∀(a:Addr) v,a.block<C->wE.cell? a=some v->w'.cell? a=some v:=λa v ha hv=>by
  have:=S.cell _ _ hv;unfold World.cell? at this ⊢;rw[US _ (by omega) (by omega)];exact this
 have Nh:∀(a:Addr) v,a.block<w.heap.size->a.block≠C->w.cell? a=some v->w'.cell? a=some v:=λa v ha hc hv=>by
  unfold World.cell? at hv ⊢;rw[US _ ha hc];exact hv
 have g6:Rep (w'.at d) (λb=>¬b=w.heap.size) (.pt [.pt (tkC t) 0] 0) (.pointer (some ⟨bx,0,none⟩)):=by
  refine .pt [.pt (tkC t) 0] 0 bx 0 (λ_=>xv) (by show bx<w'.heap.size;omega) (by omega) (λj d hj=>?_) (λj d hj=>?_) (λj d hj=>?_)
  all_goals (obtain⟨rfl,rfl⟩:=Ft hj)
  ·rfl
  ·exact Nh _ _ (by show bx<_;omega) (by show bx≠C;omega) (S.cell _ _ G.xb)
  ·exact jk G.xr (by show wE.heap.size≤w'.heap.size;omega) jE λb hb hk=>by omega
 have g10:Rep (w'.at d) (λb=>¬b=w.heap.size) (.pt [.sl 1 ((shsOf t dl).map shrC)] 0) (.pointer (some ⟨bs,0,none⟩)):=by
  have e:(.slice (some ⟨C,0,none⟩) dl.length dl.length:Value)=.slice (some ⟨C,0,none⟩) ((shsOf t dl).map shrC).length dl.length:=by rw[Xo];unfold shsOf;rw[Xo]
  refine .pt [.sl 1 ((shsOf t dl).map shrC)] 0 bs 0 (λ_=>.slice (some ⟨C,0,none⟩) dl.length dl.length) (by show bs<w'.heap.size;omega) (by omega) (λj d hj=>?_) (λj d hj=>?_) (λj d hj=>?_)
  all_goals (obtain⟨rfl,rfl⟩:=Ft hj)
  ·rfl
  ·exact Nh _ _ (by show bs<_;omega) (by show bs≠C;omega) (S.cell _ _ G.sh)
  ·rw[e]
   have at_:∀(i:Nat) x,((shsOf t dl).map shrC)[i]?=some x->i<dl.length∧x=[.sl 2 (Pq t dl i)]:=λi x hx=>by
    unfold shsOf at hx;rw[XF,XF]at hx
    cases hi:dl[i]? with
    | none=>rw[hi]at hx;cases hx
    | some fs=>
     rw[hi]at hx;cases hx
     refine⟨(Xt.1 hi).1,?_⟩;unfold shrC Pq;rw[X1,hi];rfl
   refine .sl 1 _ C 0 dl.length (λi _=>val i) (by show C<w'.heap.size;omega) (by omega) (by rw[Xo];unfold shsOf;rw[Xo];exact Xw _) (by simp only[maxLen];omega) (λi x hx=>?_) (λi x j d hx hj=>?_) (λi x j d hx hj=>?_) (λi x j d hx hj=>?_)
   ·rw[(at_ i x hx).2];rfl
   all_goals (obtain⟨hi,rfl⟩:=at_ i x hx)
   all_goals (obtain⟨rfl,rfl⟩:=Ft hj)
   ·rfl
   ·have:=(j8 i hi).1
    show w'.cell? ⟨C,0+i*1+0,none⟩=_
    rw[show 0+i*1+0=i by omega];exact this
   ·have:Rep w' (Ss i) (.sl 2 (Pq t dl i)) (val i):=(j8 i hi).2
    refine jk this (Xw _) (λ_ _ _ h=>h) λb hb hk=>?_
    rcases j9 i b hk with h|h
    ·exact h.2.1
    ·have:w.heap.size+1≤b:=h
     omega
 obtain⟨q2,q3⟩:=shs_in h hl
 obtain⟨T',td,w2,wE2,a1,a2,a3,a4,a5⟩:=DY (M:=M) (X:=λb=>b=w.heap.size) (b:=bE) (r:=none) (n:=85) (l:=[(6,.pt [.pt (tkC t) 0] 0),(10,.pt [.sl 1 ((shsOf t dl).map shrC)] 0)]) (l':=[(4,.sl 1 (((smD (shsOf t dl) (clN t)).map czP).map cvC)),(5,.v (.int .i64 0))]) Vz hN (by show M≤w'.heap.size;omega) (λb hb=>by show b<w'.heap.size;omega) (λl ⟨a,e,hb⟩=>⟨a,e,hb⟩) (λc hc=>by simp at hc;rw[hc];exact ep) (pC fnE λi hi=>by
  simp only[Xy,XG,Yn]at hi
  rcases hi with rfl|rfl
  ·exact af5
  ·exact af4) (.same rfl rfl) ⟨⟨_,S3.t6,g6⟩,⟨_,S3.t10,g10⟩,trivial⟩ S3.sz (λwl=>sw_nil (sw_tail rfl (tailD t h (shsOf t dl) (by unfold shsOf;rw[Xo];omega) q2 q3 wl _)))
 refine⟨w.heap.size,T',td,w2,a1,Xw _,by have:(w'.at d).heap.size=w'.heap.size:=rfl;omega,a3,?_⟩;have hb:Below M w (w'.at d):=⟨(j11.trans k3:w'.os=w.os),(j10.trans k2:w'.tape=w.tape),(j12.trans k4:w'.output=w.output),by show w.heap.size≤w'.heap.size;omega,λk hk=>US k (by omega) (by omega)⟩
 exact hb.trans (a4.below a5 (Xw _))
end
section
open Go Go.Conc Go.RowKit
open Go.ConcN (ShN Has PayAt)
open Go.ConcR (DC0 Payload)
open Am (D Rep)
open Am.M (Tsk tskC tkC lC iC shC cvC czP litB fewF ckT ckT_ok dealR TskOk imL evI clN vlsL shsOf smD shrC bL bE PostGo GoOk lawA lawB lawC dealtW dealtD dealtK tailD lawE deal_ok res_eq shs_in few_ok row_ok lit_le values_p)
variable{m0:Machine}{w W:World}{t:Tsk}{dl:List (List Int)}{vt vd:Value}{T:Array Value}
theorem AR{f:Nat}{rc c:Code}{cs:List Frame}(hs:spine c):Ex (some rc) cs (cy ((base f).at ⟨T,[]⟩ [.code c,.code (.exit 0)]) cs) (cy ((base f).at ⟨T,[]⟩ [.code (spin rc c)]) cs):=
 .top rc c ((base f).at ⟨T,[]⟩ []) rfl hs rfl rfl rfl
theorem ux:okC 0 Tryz.prog (.exit 0)=true:=rfl
theorem mF(a b:Value)(n:Nat):(#[a,b]++Array.replicate n undef)[0]?=some a∧(#[a,b]++Array.replicate n undef)[1]?=some b∧(#[a,b]++Array.replicate n undef).size=n+2:=by
 refine⟨?_,?_,?_⟩
 ·rw[Array.getElem?_append_left (by simp)];rfl
 ·rw[Array.getElem?_append_left (by simp)];rfl
 ·simp;omega
theorem rB{c d:Code}{i:Item}(hi:i∈[Item.code c,.code d])(h:okC 0 Tryz.prog c=true)(h':okC 0 Tryz.prog d=true):okI 0 Tryz.prog i=true:=by
 simp only[Xy,XG,Yn]at hi
 rcases hi with rfl|rfl
 ·exact h
 ·exact h'
theorem PE (hvt : Rep W (λ_ => True) (.agg (tskC t)) vt) (hvd : Rep W (λ_ => True) (.sl 1 (dl.map lC)) vd) {sl : Option (Nat × Nat)} : ∃ N last o w' t', runNT Tryz.prog (N + 1) (crowd #[G (Frame.enter Tryz.prog 3 #[vt, vd] .normal) []] W sl) #[] = (.ended o w', t') ∧ runN Tryz.prog N (crowd #[G (Frame.enter Tryz.prog 3 #[vt, vd] .normal) []] W sl) = .next last ∧ step Tryz.prog last = .ended o w' ∧
  Conc.Good Tryz.prog (λv w'=>v=.bool true∧Below W.heap.size W w') last o w' t':=by
 have e0:Frame.enter Tryz.prog 3 #[vt,vd] .normal=bL.at ⟨#[vt,vd]++Array.replicate 74 undef,[]⟩ [.code (spin restL proL)]:=by
  rw[enter_at _ Tryz.func3 Og,Gi];rfl
 have h0:=JN (P:=Tryz.prog) (fr:=Frame.enter Tryz.prog 3 #[vt,vd] .normal) (cs:=[]) (w:=W) (sl:=sl);generalize hm0:crowd #[G (Frame.enter Tryz.prog 3 #[vt,vd] .normal) []] W sl=m0 at *;rw[e0]at h0;have T0:Tm W (λ_=>True) [(0,.agg (tskC t)),(1,.sl 1 (dl.map lC))] (#[vt,vd]++Array.replicate 74 undef):=⟨⟨vt,(mF vt vd 74).1,hvt⟩,⟨vd,(mF vt vd 74).2.1,hvd⟩,trivial⟩
 by_cases hq:litB t=true∧fewF dl=true
 case neg=>
  obtain⟨T',td,w',wE,a1,a2,⟨⟨v,a3,a4⟩,_⟩,a5,a6⟩:=D3 (M:=W.heap.size) (r:=some restL) (b:=bL) (n:=76) (l':=[(4,.v (.bool true))]) Vz h0 (Xw _) (λc hc=>by cases hc) (pC fnL λi hi=>rB hi Hw ux) (AR G1) T0 (mF vt vd 74).2.2 λwl=>lawA t dl hq wl _;have hv:=Am.Rep.c8 a4;subst hv;exact HN a1.n a3 (a5.below a6 (Xw _))
 obtain⟨hq1,hq2⟩:=hq;obtain⟨Vf,SN⟩:=lit_le hq1;obtain⟨hf1,hf2⟩:=few_ok hq2;obtain⟨T1,Tk,w1,wE1,a1,_,a2,a3,a4,a5,a6⟩:=Ii (M:=W.heap.size) (r:=some restL) (b:=bL) (n:=76) (k:=[.code (.exit 0)]) (l':=[(1,.sl 1 (dl.map lC)),(2,.pt (tskC t) 0)]) Vz h0 (Xw _) (λc hc=>by cases hc) (pC fnL λi hi=>rB hi Hw ux) (AR G1) T0 (mF vt vd 74).2.2 (λ_=>rfl) λwl=>lawB t dl hq1 hq2 wl _;rw[a2 _ rfl]at a1;obtain⟨T2,Tk2,w2,wE2,b1,b2,_,b3,b4,b5,b6⟩:=Ii (M:=W.heap.size) (r:=none) (b:=bL) (n:=76) (k:=[.inRegion ops5L [4,5,6,7,8,9],.code sufL]) (l':=[(1,.sl 1 (dl.map lC)),(2,.pt (tskC t) 0),(22,.agg (tskC t)),(24,.sl 1 (dl.map lC))]) Vz a1 a6 (λc hc=>by cases hc) (pC fnL λi hi=>by simp only[Xy,XG,Yn]at hi;subst hi;exact LZ) (.same rfl rfl) a4 a3 (λh=>absurd rfl h) λwl=>lawC t dl (by omega) (by omega) (by omega) (λx hx=>by have:=hf2 x hx;omega) wl _;rw[b2 rfl]at b1;have S5:Below W.heap.size W w2:=(a5.below a6 (Xw _)).trans (b5.below b6 (Xw _));obtain⟨c1,c2,⟨Pu,c3,c4⟩,⟨Pt,c5,c6⟩,_⟩:=b4
 obtain⟨d,hD⟩:=Oy (fr':=(base 8).at ⟨#[Pu,Pt]++Array.replicate 83 undef,[]⟩ [.code DR]) (cs':=[bL.at ⟨T2,[]⟩ [.inRegion ops5L [4,5,6,7,8,9],.code sufL]]) b1 λd=>sU ol4 rfl (by decide) Tryz.func8 ah3 Oh (by
  simp only[YK,Yd,Zq,Act.eval,XN,c3,c5];rfl) (by rw[ntD];rfl) (w2.at d)
 rw[<-Gj]at hD;have S3:Tm (w2.at d) (λ_=>True) [(1,.sl 1 (dl.map lC)),(2,.pt (tskC t) 0)] T2:=(show Tm w2 (λ_=>True) [(1,.sl 1 (dl.map lC)),(2,.pt (tskC t) 0)] T2 from ⟨c1,c2,trivial⟩).cells (Xw _) (λ_ _ _ h=>h) λ_ _ h=>h;have hTD:Tm (w2.at d) (λ_=>True) [(0,.agg (tskC t)),(1,.sl 1 (dl.map lC))] (#[Pu,Pt]++Array.replicate 83 undef):=(show Tm w2 (λ_=>True) [(0,.agg (tskC t)),(1,.sl 1 (dl.map lC))] (#[Pu,Pt]++Array.replicate 83 undef) from ⟨⟨Pu,(mF Pu Pt 83).1,c4⟩,⟨Pt,(mF Pu Pt 83).2.1,c6⟩,trivial⟩).cells (Xw _) (λ_ _ _ h=>h) λ_ _ h=>h;have hBD:Below W.heap.size W (w2.at d):=⟨S5.os,S5.tape,S5.output,S5.size,S5.block⟩
 generalize w2.at d=w3 at *;have hM:=hBD.size
 have ep:∀c∈[bL.at ⟨T2,[]⟩ [.inRegion ops5L [4,5,6,7,8,9],.code sufL]],c.mode=.run:=λc hc=>by
  simp only[Xy,XG,Yn]at hc;subst hc;rfl
 have early:∀e:Int,e≠0->(e=if (ckT t).2≠0 then (ckT t).2 else (dealR t.ne dl).2)->(∀wl ok,SW qP bE [di qP] (cxD wl ok) (PostR 85 bE ok wl [(4,.sl 1 []),(5,.v (.int .i64 e))]) [.code proE,.code (.exit 0)] (stD 85 [(0,.agg (tskC t)),(1,.sl 1 (dl.map lC))]))->
   ∃N last o w' t',runNT Tryz.prog (N+1) m0 #[]=(.ended o w',t')∧runN Tryz.prog N m0=.next last∧step Tryz.prog last=.ended o w'∧Conc.Good Tryz.prog (λv w'=>v=.bool true∧Below W.heap.size W w') last o w' t':=by
  intro e he hE Er;obtain⟨T',td,w',wE,f1,f2,f3,f4,f5⟩:=D3 (M:=w3.heap.size) (r:=some oY) (b:=bE) (n:=85) Vz hD (Xw _) ep (pC fnE λi hi=>rB hi Hx ux) (AR G2) hTD (mF Pu Pt 83).2.2 λwl=>Er wl _;refine yB (X:=λ_=>False) (res:=[]) f1.n (λb h=>h.elim) (λl h=>h.elim) (hBD.trans (f4.below f5 hM)) ?_ ?_ b3 hq1 hE (λ_=>rfl) (λh=>absurd h he)
  ·exact f3.cells (Xw _) (λ_ _ _ h=>h) λ_ _ _ h=>h
  ·exact S3.low f5 (λb hb=>f4.low b hb) λ_ _ h=>h
 by_cases hw:(ckT t).2≠0
 ·exact early _ hw (by rw[Xu hw]) λwl ok=>dealtW t dl hw wl ok
 have h:=ckT_ok (XU.1 hw)
 by_cases hd:(dealR t.ne dl).2≠0
 ·exact early _ hd (by rw[Xr hw]) λwl ok=>dealtD t dl h hd wl ok
 have Pd:=XU.1 hd;obtain⟨wl,cB,wE,w4,Tk4,g1,⟨T4,A,cap,bx,C,bs,xv,rfl,G4⟩,g3,_,g5,g6,_⟩:=Gm (M:=w3.heap.size) (r:=some oY) (b:=bE) (n:=85) (Post:=PostGo t dl) Vz hD (Xw _) ep (pC fnE λi hi=>rB hi Hx ux) (AR G2) hTD (mF Pu Pt 83).2.2 (λwl _=>dealtK t dl h Pd (by omega) wl _) (λwl cB wE ⟨T,A,cap,bx,C,bs,xv,e,_⟩=>⟨λch=>(by rw[e];simp[Frame.at]),λ_ _=>by rw[e];rfl⟩);have hw4:w3.heap.size≤w4.heap.size:=by have:=g6.size;have:=G4.hC;omega
 have hB4:=g6.below hw4 (Xw w3.heap.size)
 have g3':GC Tryz.prog m0 ((base 8).at ⟨T4,[]⟩ [.code oY]) [bL.at ⟨T2,[]⟩ [.inRegion ops5L [4,5,6,7,8,9],.code sufL]] w4:=by
  have:=g5 _ rfl rfl;subst this;exact g3
 obtain⟨Wg,T',td,w',k1,k2,k3,k4,k5⟩:=F9 h Pd hf2 G4 g6 (by have:=G4.hC;omega) rfl g3';have hB:=hB4.trans k5;refine yB (X:=λb=>b=Wg) (e:=0) k1 (λb hb=>by omega) (λl ⟨a,e,hb⟩=>⟨a,e,hb⟩) (hBD.trans ⟨hB.os,hB.tape,hB.output,hB.size,λk hk=>hB.block k (by omega)⟩) k4 ?_ b3 hq1 (by rw[Xr hw,Pd]) (λh=>absurd rfl h) (λ_=>res_eq h Pd);exact S3.low hB.size (λb hb=>hB.block b hb) λb hb=>by omega
end
end Go.Proofs.YthcfokccjljnpaaGreat.Par
namespace Go.Proofs.YthcfokccjljnpaaGreat
section
open Go Go.ChangeShapes Go.WideShapes Go.ChangeAt Go.RowKit
theorem cW{a b:Bool}(h:a=true)(k:b=true):(a&&b)=true:=by rw[h,k];rfl
theorem Jk{P:Program}{f:FuncId}{fn:Func}{s:ChangeSpec}{c:OpenClaim}(h0:(c.wf (OpenSpec.ofChange s))=true)(h1:(laidOutB P)=true)(h2:(mapsRowed P)=true)(h3:(fn.params.all (P.readableRec ·))=true)(h4:(namedTie P c.named s.vars)=true)(h5:((c.stops==[]))=true)(h6:((P.stops==[]))=true)(h7:((c.knobs==[]))=true)(h8:((P.stopKnobs==[]))=true)(h9:((c.inPlace==P.inPlace f))=true)(h10:((c.unfollowed==P.unfollowed f))=true)(h11:((c.recurses==P.recurses f))=true)(h12:((c.named==P.varsNamed f))=true)(h13:((c.maps==(fn.params.toList++s.plain.varTypes P).any (P.mapsRec ·)))=true)(h14:((c.ifaces==(fn.params.toList++s.plain.varTypes P).any (P.ifacesRec ·)))=true)(h15:((c.mapsOut==P.mapsAmong fn.resultTypes.toList))=true)(h16:((c.loops==(fn.params.toList++s.plain.varTypes P).any (P.loopsFrom ·)))=true)(h17:((c.wideKeys==(fn.params.toList++s.plain.varTypes P++fn.resultTypes.toList).any (P.wideKeysFrom ·)))=true)(h18:(s.vars.all (P.varReadable ·))=true)(h19:(fn.resultTypes.all (λt=>P.readableRec t&&decide (t<P.types.size)))=true)(h20:((c.ifacesOut==fn.resultTypes.toList.any (P.ifacesRec ·)))=true)(h21:((c.loopsOut==fn.resultTypes.toList.any (P.loopsFrom ·)))=true)(h22:((c.plainKeys==P.plainKeys))=true)(h23:(c.shortTexts.isNone)=true)(h24:(P.stopsHeard)=true)(h25:(P.mayEnter)=true)(h26:((c.lifted==P.liftsFinal))=true)(h27:((P.make==some c.make))=true)(h28:c.kinds=[])(hd:c.domain.isEmpty=true)(h29:((c.pinned==c.pinnedBy))=true)(h30:((c.veiled==(fn.params.toList++s.plain.varTypes P++fn.resultTypes.toList).any (P.veiledRec ·)))=true)(h31:(c.veiledFits P fn.params.toList (fn.params.toList++s.plain.varTypes P++fn.resultTypes.toList))=true):joinedFacts P f fn s c=true:=(cW (cW (cW (cW (cW (cW (cW (cW (cW (cW (cW (cW (cW (cW (cW (cW (cW (cW (cW (cW (cW (cW (cW (cW (cW (cW (cW (cW (cW (cW (cW h0 h1) h2) h3) h4) h5) h6) h7) h8) h9) h10) h11) h12) h13) h14) h15) h16) h17) h18) h19) h20) h21) h22) h23) h24) h25) h26) h27) (by rw[h28,Xu hd];rfl)) h29) h30) h31)
theorem ax8:(laidOutB Tryz.pinned.checked.prog)=true:=by kernel_rfl
theorem ax7:(mapsRowed Tryz.pinned.checked.prog)=true:=by kernel_rfl
theorem ax6:((Tryz.pinned.checked.prog.stops==[]))=true:=by kernel_rfl
theorem ax5:((Tryz.pinned.checked.prog.stopKnobs==[]))=true:=by kernel_rfl
theorem ah8:(Tryz.pinned.checked.prog.stopsHeard)=true:=by kernel_rfl
theorem ah7:(Tryz.pinned.checked.prog.mayEnter)=true:=by kernel_rfl
theorem xw:Tryz.pinned.checked.prog.liftsFinal=Rows.focusDealtRow.lifted:=by kernel_rfl
theorem QJ:Tryz.pinned.checked.prog.make=some Rows.focusDealtRow.make:=by kernel_rfl
theorem An:Tryz.pinned.checked.prog.plainKeys=Rows.focusDealtRow.plainKeys:=by kernel_rfl
end
end Go.Proofs.YthcfokccjljnpaaGreat
