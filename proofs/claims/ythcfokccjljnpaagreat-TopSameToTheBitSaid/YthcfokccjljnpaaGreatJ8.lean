/- Contracts over the abstract machine, and the crowd of workers. Conditions: none. -/
import Derived.Test.YthcfokccjljnpaaGreatProg
import Derived.Conc.WgGenN3
import Derived.Conc.WgGenN2
import Derived.Test.YthcfokccjljnpaaGreatJ1
import Derived.Test.YthcfokccjljnpaaGreatJ7
import Derived.Test.YthcfokccjljnpaaGreatJ4
set_option linter.unusedVariables false
set_option linter.unusedSimpArgs false
set_option linter.unusedSectionVars false
set_option maxRecDepth 100000
namespace Go.Proofs.YthcfokccjljnpaaGreat.Par
open Go.Proofs.Tryz Go Go.Conc Go.ConcN Go.RowKit Go.Conc.Lib Go.ConcR.Gen Go.ConcN.Gen
open Go.ConcR (KK wgBlock WgAt stA smA rd wr mk Payload DC0)
abbrev wX:Go.Conc.Lib.WgLink:={ add:=32,done:=34,wait:=36,relMerge:=74,disable:=75,enable:=76,inBubble:=77,associate:=78,fatal:=79,uOr:=80,uAdd:=81,raceRead:=82,uLoad:=83,uStore:=84,disassociate:=85,semrelease:=86,acquire:=87,isAssociated:=88,uCas:=89,raceWrite:=90,semacquire:=91,orU64:=120,addU64:=121,loadU64:=122,storeU64:=123,casU64:=124,tWgP:=166,tUP:=168,tAssoc:=169,tWg:=102,tAU:=99,tU64:=97,tUint:=173,tU32:=100,tPU32:=174,tPAU:=214,tPU64:=216,tNoCopy:=94,tANoCopy:=95,tAlign64:=96 }
theorem Km:Go.Conc.Lib.WgLib prog wX:=
 ⟨func32,func34,func36,func74,func75,func76,func77,func78,func79,func80,func81,func82,func83,func84,func85,func86,func87,func88,func89,func90,func91,func120,func121,func122,func123,func124,underlying166,runUnderlying166,sizeOf166,isAgg166,zeroValue166,underlying168,runUnderlying168,sizeOf168,isAgg168,zeroValue168,underlying169,runUnderlying169,sizeOf169,isAgg169,zeroValue169,underlying102,runUnderlying102,sizeOf102,isAgg102,zeroValue102,underlying99,runUnderlying99,sizeOf99,isAgg99,zeroValue99,underlying97,runUnderlying97,sizeOf97,isAgg97,zeroValue97,underlying173,runUnderlying173,sizeOf173,isAgg173,zeroValue173,underlying100,runUnderlying100,sizeOf100,isAgg100,zeroValue100,underlying174,runUnderlying174,sizeOf174,isAgg174,zeroValue174,underlying214,runUnderlying214,sizeOf214,isAgg214,zeroValue214,underlying216,runUnderlying216,sizeOf216,isAgg216,zeroValue216,underlying0,runUnderlying0,sizeOf0,isAgg0,zeroValue0,underlying3,runUnderlying3,sizeOf3,isAgg3,zeroValue3,underlying4,runUnderlying4,sizeOf4,isAgg4,zeroValue4,underlying9,runUnderlying9,sizeOf9,isAgg9,zeroValue9,underlying20,runUnderlying20,sizeOf20,isAgg20,zeroValue20,underlying21,runUnderlying21,sizeOf21,isAgg21,zeroValue21,(by kernel_rfl),(by kernel_rfl)⟩
theorem yR{P:Z4}{main:Bool}{R R':W'->W'->Prop}{D D':W'->W'->Array ϊ->Prop}{Stop:Z7->W'->Prop}(hR:∀w cL,R' w cL->R w cL)(hD:∀w w' es,D w w' es->D' w w' es) :
  ∀{n:Nat} {g:Z7} {w:W'},Goes P main R D Stop n g w->Goes P main R' D' Stop n g w
 | 0,_,_,hg=>λcL r=>hg cL (hR _ _ r)
 | n+1,g,w,hg=>by
  rcases hg with hs|⟨Y,dU⟩
  ·exact .inl λcL r=>hs cL (hR _ _ r)
  ·refine .inr ⟨Y,λcL r=>?_⟩
   have:=dU cL (hR _ _ r);revert this
   cases stepG P main g cL<;>first|exact λh=>h|exact λh=>⟨hD _ _ _ h.1,yR hR hD h.2⟩
theorem Rf{P:Z4}{main:Bool}{R:W'->W'->Prop}{D:W'->W'->Array ϊ->Prop}{Stop:Z7->W'->Prop}{n n':Nat}{g:Z7}{w:W'}(hn:n<=n')(h:Goes P main R D Stop n g w):Goes P main R D Stop n' g w:=by
 induction hn with
 | refl=>exact h
 | step _ ih=>exact Goes.more ih
structure c7{ι:Type}(P:Z4)(main:Bool)(R:W'->W'->Prop)(D:W'->W'->Array ϊ->Prop)(F:W'->Prop)(Stop:Z7->W'->Prop)(g:ι->Z7):Prop where
 go:∃m,∀x w,F w->Goes P main R D Stop m (g x) w
section
variable{ι:Type}{P:Z4}{main:Bool}{R:W'->W'->Prop}{D:W'->W'->Array ϊ->Prop}{F F':W'->Prop}{Stop:Z7->W'->Prop}{g g':ι->Z7}
theorem c7.at(h:c7 P main R D F Stop g)(x:ι):GX P main R D F Stop (g x):=let ⟨m,h⟩:=h.go;⟨⟨m,h x⟩⟩
theorem GX.VB{g:Z7}(h:GX P main R D F Stop g):c7 P main R D F Stop (λ_:ι=>g):=let ⟨m,h⟩:=h.go;⟨⟨m,λ_=>h⟩⟩
theorem c7.stop(W:Wk R D F)(h:∀x w,F w->Stop (g x) w):c7 P main R D F Stop g:=⟨⟨0,λx w hw cL r=>h x cL (W.rel _ _ hw r)⟩⟩
theorem c7.to(W:Wk R D F)(hs:∀x,(g x).status=.running)(h:∀x w,F w->∃w' es,stepG P main (g x) w=.go (g' x) w' es/\D w w' es/\F' w')(hk:c7 P main R D F' Stop g'):c7 P main R D F Stop g:=by
 obtain⟨m,hk⟩:=hk.go;refine⟨⟨m+1,λx w hw=>Goes.step (hs x) λcL r=>?_⟩⟩;obtain⟨w',es,h1,h2,h3⟩:=h x cL (W.rel _ _ hw r);rw[h1];exact⟨h2,hk x w' h3⟩
variable{b:Frame}{a:Act}{k:List Item}{cs:List Frame}{ops:Array Z8}{i:Nat}{o:Z8}{rest:ι->List Nat}
theorem c7.mem(W:Wk R D F){v:Z3}{es:Array ϊ}(ho:ops[i]?=some o)(hw:Region.wanted o (yielded ops a.tmps)=true)(hk:b.kind≠.early)(Y:∀w,F w->(execOp a.eval o).run P w=.ok (.value v) w)(he:∀w,F w->(execOp a.eval o).events P w #[]=es)
  (hq:seen P b.fn es=es) (hD:∀w,F w->D w w es) (h:c7 P main R D F Stop λx=>G (b.at (a.put o.dst v) (.inRegion ops (rest x)::k)) cs):c7 P main R D F Stop λx=>G (b.at a (.inRegion ops (i::rest x)::k)) cs:=
 .to W (λ_=>rfl) (λx w hF=>⟨w,es,by rw[stepG_value ho hw hk (Y w hF)];unfold listed;rw[he w hF,hq],hD w hF,hF⟩) h
theorem c7.value(W:Wk R D F){v:Z3}(ho:ops[i]?=some o)(hw:Region.wanted o (yielded ops a.tmps)=true)(hk:b.kind≠.early)(Y:∀w,F w->(execOp a.eval o).run P w=.ok (.value v) w)(he:∀w,F w->(execOp a.eval o).events P w #[]=#[])
  (h:c7 P main R D F Stop λx=>G (b.at (a.put o.dst v) (.inRegion ops (rest x)::k)) cs):c7 P main R D F Stop λx=>G (b.at a (.inRegion ops (i::rest x)::k)) cs:=
 .to W (λ_=>rfl) (λx w hF=>⟨w,#[],by rw[stepG_value ho hw hk (Y w hF)];unfold listed;rw[he w hF,Conc.seen_none],W.dz w,hF⟩) h
theorem c7.put(W:Wk R D F){ad:Addr}{v:Z3}(ho:ops[i]?=some o)(hw:Region.wanted o (yielded ops a.tmps)=true)(hk:b.kind≠.early)(Y:∀w,F w->(execOp a.eval o).run P w=.ok .skip (w.setCell ad v))(he:∀w,F w->(execOp a.eval o).events P w #[]=#[⟨.cell ad,true,false⟩])
  (hq:(P.funcs[b.fn]?).any (·.norace)=false) (hD:∀w,F w->D w (w.setCell ad v) #[⟨.cell ad,true,false⟩]) (Vx:∀w,F w->F' (w.setCell ad v)) (h:c7 P main R D F' Stop λx=>G (b.at (a.put o.dst undef) (.inRegion ops (rest x)::k)) cs):c7 P main R D F Stop λx=>G (b.at a (.inRegion ops (i::rest x)::k)) cs:=
 .to W (λ_=>rfl) (λx w hF=>⟨_,_,by rw[stepG_none ho hw hk (Y w hF)];unfold listed;rw[he w hF,seen_eq hq (by simp)],hD w hF,Vx w hF⟩) h
def P9(ops:Array Z8)(l:Array Bool):List Nat:=(List.range ops.size).filter λi=>!l.getD i true&&((ops[i]?).map (·.after.all λe=>!Region.binds .any e||l.getD e.on false)).getD false
def lin(ops:Array Z8):Nat->Nat->Array Bool->List Nat
 | 0,_,_=>[]
 | n+1,t,l=>match (P9 ops l)[t % (P9 ops l).length]? with
  | some i=>i::lin ops n (t / (P9 ops l).length) (l.setIfInBounds i true)
  | none=>[]
theorem Ms(ops:Array Z8):∀(n t:Nat) (l:Array Bool) (acc:List Nat),Region.linearise.go .any ops n t l acc=acc.reverse++lin ops n t l
 | 0,t,l,acc=>by simp[Region.linearise.go,lin]
 | n+1,t,l,acc=>by
  have ih:=Ms ops n;unfold Region.linearise.go lin;show (match (P9 ops l)[t % (P9 ops l).length]? with|some i=>Region.linearise.go .any ops n (t / (P9 ops l).length) (l.setIfInBounds i true) (i::acc)|none=>acc.reverse)=_
  cases (P9 ops l)[t % (P9 ops l).length]? with
  | none=>simp
  | some i=>simp[ih]
theorem QG(ops:Array Z8)(t:Nat):Region.schedule true ops t=lin ops ops.size t (Array.replicate ops.size false):=by
 unfold Region.schedule Region.linearise;simp[Ms]
theorem zb{Q:Nat->Nat->Prop}(hm:∀i m m',m<=m'->Q i m->Q i m'):∀{rs:List Nat},(∀i∈rs,∃m,Q i m)->∃m,∀i∈rs,Q i m
 | [],_=>⟨0,λi h=>by cases h⟩
 | r::rs,h=>by
  have⟨m1,h1⟩:=h r (XX ..);obtain⟨m2,h2⟩:=zb hm (rs:=rs) λi hi=>h i (Yc _ hi);refine⟨max m1 m2,λi hi=>?_⟩;rcases Xy.1 hi with rfl|hi
  ·exact hm _ _ _ (Nat.le_max_left ..) h1
  ·exact hm _ _ _ (Za ..) (h2 i hi)
theorem c7.pick{n:Nat}{l:Array Bool}{rs:List Nat}(Y:P9 ops l=rs)(eW:0<rs.length)(h:∀i∈rs,c7 P main R D F Stop λt:Nat=>G (b.at a (.inRegion ops (i::lin ops n t (l.setIfInBounds i true))::k)) cs) :
  c7 P main R D F Stop λt:Nat=>G (b.at a (.inRegion ops (lin ops (n+1) t l)::k)) cs:=by
 obtain⟨m,hm⟩:=zb (Q:=λi m=>∀(t:Nat) w,F w->Goes P main R D Stop m (G (b.at a (.inRegion ops (i::lin ops n t (l.setIfInBounds i true))::k)) cs) w) (λi m m' hle hq t w hw=>Rf hle (hq t w hw)) (rs:=rs) λi hi=>(h i hi).go;refine⟨⟨m,λt w hw=>?_⟩⟩;have bH:t % rs.length<rs.length:=Zp _ eW;have:=hm rs[t % rs.length] (ZU bH) (t / rs.length) w hw;unfold lin;rw[Y,Xp bH];exact this
theorem GX.drawn(W:Wk R D F){id:Nat}(hmx:P.follows .mixedOrders=true)(J:∀w d,F w->D w { w with drawn:=d } #[]/\F { w with drawn:=d })(h:c7 P main R D F Stop λt:Nat=>G (b.at a (.inRegion ops (lin ops ops.size t (Array.replicate ops.size false))::k)) cs) :
  GX P main R D F Stop (G (b.at a (.code (.region id ops true)::k)) cs):=by
 obtain⟨m,h⟩:=h.go;refine⟨⟨m+1,λw hw=>Goes.step E λcL r=>?_⟩⟩;have yI:=W.rel _ _ hw r
 have:∃t d,stepG P main (G (b.at a (.code (.region id ops true)::k)) cs) cL=.go (G (b.at a (.inRegion ops (Region.schedule (P.follows .mixedOrders) ops t)::k)) cs) { cL with drawn:=d } #[]:=by
  have hc:∃t d,(choose (.order b.fn id)).run P cL=.ok t { cL with drawn:=d }:=by
   simp only[choose,Sem.run]
   split
   ·exact⟨_,cL.drawn,rfl⟩
   ·exact⟨_,_,rfl⟩
  obtain⟨t,d,hc⟩:=hc;refine⟨t,d,?_⟩;simp only[G,stepG,stepG.exec,Frame.at,Y1,XO,YC,hc]
 obtain⟨t,d,e⟩:=this;rw[e,hmx,QG];exact⟨(J cL d yI).1,h t _ (J cL d yI).2⟩
structure eO(ops:Array Z8)(i:Nat)(op:Op)(d:Option Tmp):Prop where
 get:∃o,ops[i]?=some o/\o.op=op/\o.dst=d/\o.guard=none
variable{op:Op}{d:Option Tmp}{s:Sem Next}
theorem fF{o:Z8}(h:o.guard=none)(y:Nat->Option Bool):Region.wanted o y=true:=by unfold Region.wanted;rw[h]
theorem c7.fa(W:Wk R D F)(hO:eO ops i op d)(hx:∀o:Z8,o.op=op->execOp a.eval o=s){v:Z3}{es:Array ϊ}(hk:b.kind≠.early)(Y:∀w,F w->s.run P w=.ok (.value v) w)(he:∀w,F w->s.events P w #[]=es)
  (hq:seen P b.fn es=es) (hD:∀w,F w->D w w es) (h:c7 P main R D F Stop λx=>G (b.at (a.put d v) (.inRegion ops (rest x)::k)) cs):c7 P main R D F Stop λx=>G (b.at a (.inRegion ops (i::rest x)::k)) cs:=by
 have⟨o,h1,h2,h3,h4⟩:=hO.get;have e:=hx o h2;exact c7.mem W h1 (fF h4 _) hk (by rw[e];exact Y) (by rw[e];exact he) hq hD (by rw[h3];exact h)
theorem c7.lO(W:Wk R D F)(hO:eO ops i op d)(hx:∀o:Z8,o.op=op->execOp a.eval o=s){v:Z3}(hk:b.kind≠.early)(Y:∀w,F w->s.run P w=.ok (.value v) w)(he:∀w,F w->s.events P w #[]=#[])
  (h:c7 P main R D F Stop λx=>G (b.at (a.put d v) (.inRegion ops (rest x)::k)) cs):c7 P main R D F Stop λx=>G (b.at a (.inRegion ops (i::rest x)::k)) cs:=by
 have⟨o,h1,h2,h3,h4⟩:=hO.get;have e:=hx o h2;exact c7.value W h1 (fF h4 _) hk (by rw[e];exact Y) (by rw[e];exact he) (by rw[h3];exact h)
theorem c7.Ly(W:Wk R D F)(hO:eO ops i op d)(hx:∀o:Z8,o.op=op->execOp a.eval o=s){ad:Addr}{v:Z3}(hk:b.kind≠.early)(Y:∀w,F w->s.run P w=.ok .skip (w.setCell ad v))(he:∀w,F w->s.events P w #[]=#[⟨.cell ad,true,false⟩])
  (hq:(P.funcs[b.fn]?).any (·.norace)=false) (hD:∀w,F w->D w (w.setCell ad v) #[⟨.cell ad,true,false⟩]) (Vx:∀w,F w->F' (w.setCell ad v)) (h:c7 P main R D F' Stop λx=>G (b.at (a.put d undef) (.inRegion ops (rest x)::k)) cs):c7 P main R D F Stop λx=>G (b.at a (.inRegion ops (i::rest x)::k)) cs:=by
 have⟨o,h1,h2,h3,h4⟩:=hO.get;have e:=hx o h2;exact c7.put W h1 (fF h4 _) hk (by rw[e];exact Y) (by rw[e];exact he) hq hD Vx (by rw[h3];exact h)
theorem ax1:prog.follows .mixedOrders=true:=by kernel_rfl
noncomputable def DT:Code:=f33.body.getD .skip
noncomputable def dr:Array Z8:=match DT with|.seq _ (.region _ ops _)=>ops|_=>#[]
noncomputable def fV:Frame:={ (default:Frame) with fn:=prog.funcs.size,defers:=[],mode:=.panicking [goexitEntry] }
structure FZ[Payload](c:Kx)(Z:Nat->Prop)(W1 w:W'):Prop where
 z:∀b,Z b->w.heap[b]?=W1.heap[b]?
 live:WgLive c.ty c.Wg w
 pay:PayAt c.C c.q w
variable[Payload]{c:Kx}{Z:Nat->Prop}{W1:W'}
theorem cD:Wk (RZ c Z i) (DZ c Z i) (FZ c Z W1):=
 ⟨λw w' h r=>⟨λb hb=>(r.z b hb).trans (h.z b hb),r.live h.live,r.pay h.pay⟩,λw=>⟨⟨rfl,rfl,rfl,rfl,λ_ _=>rfl,id,λ_ _=>rfl⟩,by simp⟩⟩
theorem Ns(w:W')(d:Nat)(h:FZ c Z W1 w):DZ c Z i w { w with drawn:=d } #[]/\FZ c Z W1 { w with drawn:=d }:=
 ⟨⟨⟨rfl,rfl,rfl,rfl,λ_ _=>rfl,id,λ_ _=>rfl⟩,by simp⟩,⟨h.z,h.live,h.pay⟩⟩
theorem aL{a:Addr}{v:Z3}{w:W'}(h:FZ c Z W1 w)(hz:Z a.block)(hc:W1.cell? a=some v):w.cell? a=some v:=by
 unfold World.cell? at hc ⊢;rw[h.z _ hz];exact hc
theorem bU{a:Addr}(hz:Z a.block)(hg:¬c.G a.block)(w:W'):DZ c Z i w w #[⟨.cell a,false,false⟩]:=
 ⟨⟨rfl,rfl,rfl,rfl,λ_ _=>rfl,id,λ_ _=>rfl⟩,λe he=>by rw[Yz]at he;subst he;exact .inr ⟨a,false,rfl,.inr ⟨hz,hg,rfl⟩⟩⟩
theorem NW{w:W'}(hp:PayAt c.C c.q w)(v:Z3):DZ c Z i w (w.setCell ⟨c.C,i - c.p,none⟩ v) #[⟨.cell ⟨c.C,i - c.p,none⟩,true,false⟩]:=by
 refine⟨?_,λe he=>by rw[Yz]at he;subst he;exact .inr ⟨_,true,rfl,.inl E⟩⟩;have hA:=aside_setCell w ⟨c.C,i - c.p,none⟩ v;have⟨arr,h1,h2⟩:=hp
 have hb:(w.setCell ⟨c.C,i - c.p,none⟩ v).heap[c.C]?=some (.cells (arr.setIfInBounds (i - c.p) v) Payload.ety):=by
  rw[setCell_eq_setRow w c.C (i - c.p) arr _ (0,0) _ h1,setRow_heap w c.C _ _ _ _ h1]
 refine⟨hA.tape,hA.os,hA.output,hA.size,λb bY=>hA.block b bY,λ_=>⟨_,hb,by simpa using h2⟩,λi' jm=>?_⟩;simp[World.cell?,hb,h1,XE (Ne.symm jm)]
theorem Jw{w:W'}(hp:PayAt c.C c.q w)(hi:i - c.p<c.q)(v:Z3):Has c.C (i - c.p) v (w.setCell ⟨c.C,i - c.p,none⟩ v):=by
 have⟨arr,h1,h2⟩:=hp
 have hb:(w.setCell ⟨c.C,i - c.p,none⟩ v).heap[c.C]?=some (.cells (arr.setIfInBounds (i - c.p) v) Payload.ety):=by
  rw[setCell_eq_setRow w c.C (i - c.p) arr _ (0,0) _ h1,setRow_heap w c.C _ _ _ _ h1]
 simp[Has,World.cell?,hb,h2,hi]
theorem Cb{w:W'}(hp:PayAt c.C c.q w)(hi:i - c.p<c.q):∃u,w.cell? ⟨c.C,i - c.p,none⟩=some u/\w.frozen? ⟨c.C,i - c.p,none⟩=false:=by
 have⟨arr,h1,h2⟩:=hp;exact⟨arr[i - c.p]'(by omega),by simp[World.cell?,h1,h2,hi],by simp[World.frozen?,h1]⟩
end
structure Ee(c:Kx)(bx bs b1 b2 i:Nat)(xv fv:Z3)(W1:W'):Prop where
 sh:W1.cell? ⟨bs,0,none⟩=some (.slice (some ⟨c.C,0,none⟩) c.q c.q)
 ib:W1.cell? ⟨b1,0,none⟩=some (.int .i64 ((i - c.p:Nat):Int))
 xb:W1.cell? ⟨bx,0,none⟩=some xv
 fb:W1.cell? ⟨b2,0,none⟩=some fv
 gs:¬c.G bs
 g1:¬c.G b1
 gx:¬c.G bx
 g2:¬c.G b2
noncomputable def Ob(c:Kx)(bx bs b1 b2:Nat):Deferred:={ target:=.fn (.func 33) #[.pointer (some ⟨c.Wg,0,none⟩),.pointer (some ⟨bx,0,none⟩),.pointer (some ⟨b2,0,none⟩),.pointer (some ⟨bs,0,none⟩),.pointer (some ⟨b1,0,none⟩)],args:=#[] }
noncomputable def iu(T:Array Z3)(c:Kx):Act:=⟨T,[dcall 34 #[.pointer (some ⟨c.Wg,0,none⟩)]]⟩
theorem V7(c:Kx)(bx bs b1 b2:Nat)(w:W'):stepG prog false (born prog (Ob c bx bs b1 b2)) w=.go (G ((baseD 33).at ⟨#[.pointer (some ⟨c.Wg,0,none⟩),.pointer (some ⟨bx,0,none⟩),.pointer (some ⟨b2,0,none⟩),.pointer (some ⟨bs,0,none⟩),.pointer (some ⟨b1,0,none⟩),undef,undef,undef,undef,undef,undef],[]⟩ [.code DT]) [fV]) w #[]:=by
 simp[born,Ob,stepG,unwind,callDeferred,invoke,callFunc,func33,f33,seen,GStep.after,G,Frame.enter,Frame.at,baseD,fV,DT]
theorem Ut(T:Array Z3):QuitsD prog 2 0 (G { (baseD 33).at ⟨T,[]⟩ [] with mode:=.returning } [fV]):=by
 refine QuitsD.ctl (g':=G fV []) E (λw=>?_) ?_
 ·simp[G,stepG,unwind,doReturn,results,Frame.at,baseD,fV,func33,f33,seen,GStep.after,goexitEntry]
 refine QuitsD.ctl (g':={ G fV [] with status:=.finished }) E (λw=>?_) ⟨rfl,rfl⟩;simp[G,stepG,unwind,fV,goexitEntry,Frame.catches];rfl
theorem my{a:Act}{t:Z5}{x:Z6}{v:Z3}(hx:a.eval x=v)(o:Z8)(h:o.op=.load t x):execOp a.eval o=(do Pure.pure (.value (<-Instr.loadAt t v))):=by unfold execOp;rw[h,<-hx]
theorem xix{a:Act}{t:Z5}{x y:Z6}{v u:Z3}(hx:a.eval x=v)(hy:a.eval y=u)(o:Z8)(h:o.op=.indexAddr t x y):execOp a.eval o=(do Pure.pure (.value (<-Instr.indexAt t v u))):=by unfold execOp;rw[h,<-hx,<-hy]
theorem xst{a:Act}{t:Z5}{x y:Z6}{v u:Z3}(hx:a.eval x=v)(hy:a.eval y=u)(o:Z8)(h:o.op=.store t x y):execOp a.eval o=(do Instr.storeAt t v u;Pure.pure .skip):=by unfold execOp;rw[h,<-hx,<-hy]
theorem O3:eO dr 0 (.load 92 (.tmp 3)) (some 5):=⟨⟨_,rfl,rfl,rfl,rfl⟩⟩
theorem O2:eO dr 1 (.load 3 (.tmp 4)) (some 6):=⟨⟨_,rfl,rfl,rfl,rfl⟩⟩
theorem Sw:eO dr 2 (.load 84 (.tmp 1)) (some 7):=⟨⟨_,rfl,rfl,rfl,rfl⟩⟩
theorem Sv:eO dr 3 (.load 64 (.tmp 2)) (some 8):=⟨⟨_,rfl,rfl,rfl,rfl⟩⟩
theorem oc5:eO dr 5 (.indexAddr 92 (.tmp 5) (.tmp 6)) (some 10):=⟨⟨_,rfl,rfl,rfl,rfl⟩⟩
theorem oc6:eO dr 6 (.store 104 (.tmp 10) (.tmp 9)) none:=⟨⟨_,rfl,rfl,rfl,rfl⟩⟩
section
variable{c:Kx}{w:W'}{ad:Addr}{v:Z3}
theorem yA(hP:c.P=prog)(hc:w.cell? ad=some v):(do Pure.pure (.value (<-Instr.loadAt 92 (.pointer (some ad)))):Sem Next).run c.P w=.ok (.value v) w/\(do Pure.pure (.value (<-Instr.loadAt 92 (.pointer (some ad)))):Sem Next).events c.P w #[]=#[⟨.cell ad,false,false⟩]:=by
 rw[hP];constructor
 ·go_simp
 ·simp[go_sem,hc]
theorem yz(hP:c.P=prog)(hc:w.cell? ad=some v):(do Pure.pure (.value (<-Instr.loadAt 3 (.pointer (some ad)))):Sem Next).run c.P w=.ok (.value v) w/\(do Pure.pure (.value (<-Instr.loadAt 3 (.pointer (some ad)))):Sem Next).events c.P w #[]=#[⟨.cell ad,false,false⟩]:=by
 rw[hP];constructor
 ·go_simp
 ·simp[go_sem,hc]
theorem Em(hP:c.P=prog)(hc:w.cell? ad=some v):(do Pure.pure (.value (<-Instr.loadAt 84 (.pointer (some ad)))):Sem Next).run c.P w=.ok (.value v) w/\(do Pure.pure (.value (<-Instr.loadAt 84 (.pointer (some ad)))):Sem Next).events c.P w #[]=#[⟨.cell ad,false,false⟩]:=by
 rw[hP];constructor
 ·go_simp
 ·simp[go_sem,hc]
theorem Bf(hP:c.P=prog)(hc:w.cell? ad=some v):(do Pure.pure (.value (<-Instr.loadAt 64 (.pointer (some ad)))):Sem Next).run c.P w=.ok (.value v) w/\(do Pure.pure (.value (<-Instr.loadAt 64 (.pointer (some ad)))):Sem Next).events c.P w #[]=#[⟨.cell ad,false,false⟩]:=by
 rw[hP];constructor
 ·go_simp
 ·simp[go_sem,hc]
theorem ixC{i:Nat}(hP:c.P=prog)(hi:i<c.q)(w:W'):(do Pure.pure (.value (<-Instr.indexAt 92 (.slice (some ⟨c.C,0,none⟩) c.q c.q) (.int .i64 i))):Sem Next).run c.P w=.ok (.value (.pointer (some ⟨c.C,i,none⟩))) w/\(do Pure.pure (.value (<-Instr.indexAt 92 (.slice (some ⟨c.C,0,none⟩) c.q c.q) (.int .i64 i))):Sem Next).events c.P w #[]=#[]:=by
 have bH:(i:Int)<(c.q:Int):=by omega
 have HS:(0:Int)<=(i:Int):=by omega
 rw[hP];constructor
 ·go_simp
 ·simp[go_sem,bH,HS]
theorem stC(hP:c.P=prog)(hc:∃u,w.cell? ad=some u/\w.frozen? ad=false)(hv:∃A l k,v=.slice A l k):(do Instr.storeAt 104 (.pointer (some ad)) v;Pure.pure .skip:Sem Next).run c.P w=.ok .skip (w.setCell ad v)/\(do Instr.storeAt 104 (.pointer (some ad)) v;Pure.pure .skip:Sem Next).events c.P w #[]=#[⟨.cell ad,true,false⟩]:=by
 have⟨u,h1,h2⟩:=hc;rw[hP];obtain⟨A,l,k,rfl⟩:=hv;constructor
 ·simp[go_sem,stored,h1,h2]
 ·simp[go_sem,stored,storedEv,h1,h2]
  rw[events_store prog w #[] ad (.slice A l k) .plain E,h1];simp[h2]
theorem dw:(prog.funcs[(baseD 33).fn]?).any (·.norace)=false:=by kernel_rfl
variable[Payload]{Z:Nat->Prop}{bx bs b1 b2 i:Nat}{xv fv:Z3}{W1:W'}
theorem Wj(W1:W')(hP:c.P=prog)(jf:c.ty=wX.tWg)(hZ:∀b,c.old b->Z b)(T:Array Z3)(v:Z3):GX c.P false (RZ c Z i) (DZ c Z i) (λw=>WgLive c.ty c.Wg w/\Has c.C (i - c.p) v w) (AtR c i v) (G ((baseD 33).at (iu T c) [.inRegion dr []]) [fV]):=by
 have W:Wk (RZ c Z i) (DZ c Z i) (λw=>WgLive c.ty c.Wg w/\Has c.C (i - c.p) v w):=⟨λw w' h r=>⟨r.live h.1,(r.cell).trans h.2⟩,(cD (W1:=W1)).dz⟩;refine GX.fin W ?_;refine GX.end_ W ?_;refine GX.step W E (λw _=>?_) (g':=G ((baseD 34).at ⟨#[.pointer (some ⟨c.Wg,0,none⟩),undef,undef,undef],[]⟩ [.code (body_done wX)]) ({ (baseD 33).at ⟨T,[]⟩ [] with mode:=.returning }::[fV])) ?_
 ·rw[hP]
  have:=stepG_unwind_enter (P:=prog) (main:=false) (b:=baseD 33) (a:=iu T c) (todo:=[]) (cs:=[fV]) (w:=w) (ds:=[]) (f:=34) (args:=#[.pointer (some ⟨c.Wg,0,none⟩)]) E Km.f_done (nm_done wX) E;exact this
 ·refine⟨⟨23,λw hw=>?_⟩⟩
  have hD:=doneN (P:=prog) Km (Own:=λ_ _=>False) (Rd:=λ_ _=>False) (Wg:=c.Wg) (C:=c.C) (n:=c.q) (Low:=c.L0) (k:=i - c.p+1) (val:=v) (c:={ (baseD 33).at ⟨T,[]⟩ [] with mode:=.returning }) (cs:=[fV]) E (Ut T) w ⟨by rw[<-jf];exact hw.1,hw.2⟩;rw[<-hP,<-jf]at hD;exact yR (λw cL r=>r.rw hZ) (λw w' es h=>⟨h.1,λe he=>.inl (h.2 e he)⟩) hD
end
theorem sU{P:Z4}{main:Bool}{b:Frame}{a:Act}{k:List Item}{cs:List Frame}{ops:Array Z8}{i:Nat}{rest:List Nat}{op:Op}{d:Option Tmp}{fn:Func}{f:ϋ}{co:Code}{args:Array Z6}{Wa:Array Z5}{vs:Array Z3}{n:Nat}(hO:eO ops i op d)(cF:op=.call { callee:=.value (.func f),args,argTypes:=Wa })(hk:b.kind≠.early)(hf:P.funcs[f]?=some fn)(m9:(fn.name == "runtime.NumGoroutine")=false)(hb:fn.body=some co)(hv:args.map a.eval=vs)(hn:fn.ntmps - vs.size=n)(w:W') :
  stepG P main (G (b.at a (.inRegion ops (i::rest)::k)) cs) w=.go (G ((base f).at ⟨vs++Array.replicate n undef,[]⟩ [.code co]) (b.at a (.inRegion ops (i::rest)::k)::cs)) w #[]:=by
 have⟨o,h1,h2,h3,h4⟩:=hO.get;have bY:fn.body.isNone=false:=by rw[hb];rfl
 have QW:=h2.trans cF;rw[stepG_enter h1 (fF h4 _) hk (run_call_body QW hf m9 bY),enter_at _ hf hb];have:listed P b.fn a o w=#[]:=by unfold listed;rw[events_call_body QW hf m9 bY];exact Conc.seen_none P _
 rw[this,hv,hn]
theorem Di{b:Frame}{a:Act}{k:List Item}{ops:Array Z8}{i:Nat}{rest:List Nat}{op:Op}{d:Option Tmp}(hO:eO ops i op d)(v:Z3):(b.at a (.inRegion ops (i::rest)::k)).finish v=b.at (a.put d v) (.inRegion ops rest::k):=by
 have⟨o,h1,h2,h3,h4⟩:=hO.get;rw[Frame.finish_at,h1,<-h3];rfl
noncomputable def Ie:Code:=f35.body.getD .skip
theorem DQ:f35.body=some Ie:=by kernel_rfl
theorem Of:okC 0 prog Ie=true:=by kernel_rfl
theorem ah2:(f35.name == "runtime.NumGoroutine")=false:=by kernel_rfl
theorem ntV:f35.ntmps=33:=by kernel_rfl
theorem oc4:eO dr 4 (.call { callee:=.value (.func 35),args:=#[.tmp 7,.tmp 8,.const (.slice none 0 0)],argTypes:=#[84,64,64] }) (some 9):=⟨⟨_,rfl,rfl,rfl,rfl⟩⟩
noncomputable def Pf(xv fv:Z3):Frame:=(base 35).at ⟨#[xv,fv,.slice none 0 0]++Array.replicate 30 undef,[]⟩ [.code Ie]
structure GB(c:Kx)(i:Nat)(xv fv:Z3)(W1:W'):Prop where
 lone:∀w,(∀b,c.old b->w.heap[b]?=W1.heap[b]?)->∀M s d tp,c.L0<=M->M<=s->∃N cB wE v,Lone c.Q N (lone (Pf xv fv) [di c.Q] (c.wk w M s d tp)) cB wE/\cB.mode=.returning/\cB.defers=[]/\(∃fn,c.Q.funcs[cB.fn]?=some fn/\(results fn cB.tmps).run c.Q wE=.ok v wE)/\c.post i v wE
 res:∀S v w,c.res i S v w->∃A l k,v=.slice A l k
section
variable[Payload]{c:Kx}{Z:Nat->Prop}{bx bs b1 b2 i:Nat}{xv fv:Z3}{W1:W'}
theorem Vy(hP:c.P=prog)(hQ:c.Q=qP)(iP:c.NG=0):mu c.NG c.Q c.P (Pf xv fv):=by
 rw[hP,hQ,iP];refine⟨rfl,.inl E,λit Vi=>?_,(λd J=>by cases J),λ_=>⟨_,_,(qA func35 E),func35,rfl⟩⟩;have:it=.code Ie:=by simpa [Pf,Frame.at] using Vi
 subst this;exact Of
theorem Rh(xv fv:Z3):∃M,∀f:Re,(∀b,b<M->f b=b)->rF f (Pf xv fv)=Pf xv fv:=by
 have⟨M1,e1⟩:=Ad xv;have⟨M2,e2⟩:=Ad fv;refine⟨max M1 M2,λf hf=>?_⟩;have h1:=e1 f λb hb=>hf b (by omega);have h2:=e2 f λb hb=>hf b (by omega);simp only[rF,Pf,Frame.at,Yd,Zq,rI,ZH,Array.map_replicate,qi,YK,h1,h2,aW,XR]
theorem uH(hP:c.P=prog)(hQ:c.Q=qP)(iP:c.NG=0)(hZ:∀b,c.old b->Z b)(K:GB c i xv fv W1){T:Array Z3}{rest:List Nat}(h7:(iu T c).eval (.tmp 7)=xv)(h8:(iu T c).eval (.tmp 8)=fv)
  (hT:∀v,(∃A l k,v=.slice A l k)->GX c.P false (RZ c Z i) (DZ c Z i) (FZ c Z W1) (AtR c i v) (G ((baseD 33).at ((iu T c).put (some 9) v) [.inRegion dr rest]) [fV])) (w:W') (hF:FZ c Z W1 w):eP c Z i (G ((baseD 33).at (iu T c) [.inRegion dr (4::rest)]) [fV]) w:=by
 refine⟨rfl,Pf xv fv,(baseD 33).at (iu T c) [.inRegion dr (4::rest)],[fV],?_,Vy hP hQ iP,rfl,Rh xv fv,K.lone w λb hb=>hF.z b (hZ b hb),λv w' S Y hz hl hp=>?_⟩
 ·rw[hP]
  exact sU oc4 E (by decide) func35 ah2 DQ (by simp only[YK,Yd,Zq,h7,h8];rfl) (by rw[ntV];rfl) w
 ·rw[Di oc4]
  exact(hT v (K.res S v w' Y)).at ⟨λb hb=>(hz b hb).trans (hF.z b hb),hl,hp⟩
structure Job(c:Kx)(Z:Nat->Prop)(bx bs b1 b2 i:Nat)(xv fv:Z3)(W1:W'):Prop where
 hP:c.P=prog
 jf:c.ty=wX.tWg
 hZ:∀b,c.old b->Z b
 hi:i - c.p<c.q
 h:Ee c bx bs b1 b2 i xv fv W1
 eE:Z bs
 eA:Z b1
 eM:Z bx
 fK:Z b2
 jS:c.Wg≠c.C
 hQ:c.Q=qP
 iP:c.NG=0
 K:GB c i xv fv W1
variable{St:Z7->W'->Prop}{v v9:Z3}{e0 e1 e2 e3:Bool}{ls:Nat->List Nat}
abbrev JT(V':Job c Z bx bs b1 b2 i xv fv W1)(v9:Z3)(e0 e1 e2 e3:Bool):Array Z3:=#[.pointer (some ⟨c.Wg,0,none⟩),.pointer (some ⟨bx,0,none⟩),.pointer (some ⟨b2,0,none⟩),.pointer (some ⟨bs,0,none⟩),.pointer (some ⟨b1,0,none⟩),bif e0 then .slice (some ⟨c.C,0,none⟩) c.q c.q else undef,bif e1 then .int .i64 ((i - c.p:Nat):Int) else undef,bif e2 then xv else undef,bif e3 then fv else undef,v9,undef]
abbrev JQ(V':Job c Z bx bs b1 b2 i xv fv W1)(St:Z7->W'->Prop)(v9:Z3)(e0 e1 e2 e3:Bool)(ls:Nat->List Nat):Prop:=c7 c.P false (RZ c Z i) (DZ c Z i) (FZ c Z W1) St λt:Nat=>G ((baseD 33).at (iu (JT V' v9 e0 e1 e2 e3) c) [.inRegion dr (ls t)]) [fV]
abbrev JP(V':Job c Z bx bs b1 b2 i xv fv W1)(e0 e1 e2 e3:Bool)(n:Nat):Prop:=JQ V' (eP c Z i) undef e0 e1 e2 e3 λt=>lin dr n t #[e0,e1,e2,e3,false,false,false]
abbrev JR(V':Job c Z bx bs b1 b2 i xv fv W1)(v:Z3)(e0 e1:Bool)(n:Nat):Prop:=JQ V' (AtR c i v) v e0 e1 true true λt=>lin dr n t #[e0,e1,true,true,true,false,false]
theorem kc{p:Nat->Prop}{i:Nat}{l:List Nat}(h:p i)(hl:∀k∈l,p k):∀k∈i::l,p k:=List.forall_mem_cons.2 ⟨h,hl⟩
theorem kn{p:Nat->Prop}:∀k∈[],p k:=nofun
variable(V':Job c Z bx bs b1 b2 i xv fv W1)
include V'
theorem s0(h:JQ V' St v9 true e1 e2 e3 ls):JQ V' St v9 false e1 e2 e3 λt=>0::ls t:=c7.fa cD O3 (my E) (v:=.slice (some ⟨c.C,0,none⟩) c.q c.q) (by decide) (λw hF=>(yA V'.hP (aL hF V'.eE V'.h.sh)).1) (λw hF=>(yA V'.hP (aL hF V'.eE V'.h.sh)).2) (seen_eq (by rw[V'.hP];exact dw) (by simp)) (λw hF=>bU V'.eE V'.h.gs w) h
theorem s1(h:JQ V' St v9 e0 true e2 e3 ls):JQ V' St v9 e0 false e2 e3 λt=>1::ls t:=c7.fa cD O2 (my E) (v:=.int .i64 ((i - c.p:Nat):Int)) (by decide) (λw hF=>(yz V'.hP (aL hF V'.eA V'.h.ib)).1) (λw hF=>(yz V'.hP (aL hF V'.eA V'.h.ib)).2) (seen_eq (by rw[V'.hP];exact dw) (by simp)) (λw hF=>bU V'.eA V'.h.g1 w) h
theorem s2(h:JQ V' St v9 e0 e1 true e3 ls):JQ V' St v9 e0 e1 false e3 λt=>2::ls t:=c7.fa cD Sw (my E) (v:=xv) (by decide) (λw hF=>(Em V'.hP (aL hF V'.eM V'.h.xb)).1) (λw hF=>(Em V'.hP (aL hF V'.eM V'.h.xb)).2) (seen_eq (by rw[V'.hP];exact dw) (by simp)) (λw hF=>bU V'.eM V'.h.gx w) h
theorem s3(h:JQ V' St v9 e0 e1 e2 true ls):JQ V' St v9 e0 e1 e2 false λt=>3::ls t:=c7.fa cD Sv (my E) (v:=fv) (by decide) (λw hF=>(Bf V'.hP (aL hF V'.fK V'.h.fb)).1) (λw hF=>(Bf V'.hP (aL hF V'.fK V'.h.fb)).2) (seen_eq (by rw[V'.hP];exact dw) (by simp)) (λw hF=>bU V'.fK V'.h.g2 w) h
theorem q11(hv:∃A l k,v=.slice A l k):JR V' v true true 2:=by
 refine c7.pick (rs:=[5]) (by kernel_rfl) (by decide) λj hj=>?_;rw[YS]at hj;subst hj;refine c7.lO cD oc5 (xix E E) (v:=.pointer (some ⟨c.C,i - c.p,none⟩)) (by decide) (λw hF=>(ixC V'.hP V'.hi w).1) (λw hF=>(ixC V'.hP V'.hi w).2) ?_;refine c7.pick (n:=0) (l:=#[true,true,true,true,true,true,false]) (rs:=[6]) (by kernel_rfl) (by decide) λj hj=>?_;rw[YS]at hj;subst hj;refine c7.Ly cD oc6 (xst E E) (ad:=⟨c.C,i - c.p,none⟩) (v:=v) (F':=λw=>WgLive c.ty c.Wg w/\Has c.C (i - c.p) v w) (by decide) (λw hF=>(stC V'.hP (Cb hF.pay V'.hi) hv).1) (λw hF=>(stC V'.hP (Cb hF.pay V'.hi) hv).2) (by rw[V'.hP];exact dw) (λw hF=>NW hF.pay v) (λw hF=>⟨?_,Jw hF.pay V'.hi v⟩) ?_
 ·have⟨st,sm,hl⟩:=hF.live
  exact⟨st,sm,hl.of_block ((aside_setCell w ⟨c.C,i - c.p,none⟩ v).block c.Wg V'.jS)⟩
 ·exact(Wj W1 V'.hP V'.jf V'.hZ _ v).VB
theorem q10(hv:∃A l k,v=.slice A l k):JR V' v true false 3:=c7.pick (rs:=[1]) (by kernel_rfl) (by decide) (kc (s1 V' (q11 V' hv)) kn)
theorem q01(hv:∃A l k,v=.slice A l k):JR V' v false true 3:=c7.pick (rs:=[0]) (by kernel_rfl) (by decide) (kc (s0 V' (q11 V' hv)) kn)
theorem q00(hv:∃A l k,v=.slice A l k):JR V' v false false 4:=c7.pick (rs:=[0,1]) (by kernel_rfl) (by decide) (kc (s0 V' (q10 V' hv)) (kc (s1 V' (q01 V' hv)) kn))
theorem s4(h:∀v,(∃A l k,v=.slice A l k)->JQ V' (AtR c i v) v e0 e1 true true ls):JQ V' (eP c Z i) undef e0 e1 true true λt=>4::ls t:=c7.stop cD λt w hF=>uH (T:=JT V' undef e0 e1 true true) V'.hP V'.hQ V'.iP V'.hZ V'.K E E (λv hv=>(h v hv).at t) w hF
theorem az2:JP V' true true true true 3:=c7.pick (rs:=[4]) (by kernel_rfl) (by decide) (kc (s4 V' λv hv=>q11 V' hv) kn)
theorem aM3:JP V' true true true false 4:=c7.pick (rs:=[3]) (by kernel_rfl) (by decide) (kc (s3 V' (az2 V')) kn)
theorem aM4:JP V' true true false true 4:=c7.pick (rs:=[2]) (by kernel_rfl) (by decide) (kc (s2 V' (az2 V')) kn)
theorem aM5:JP V' true false true true 4:=c7.pick (rs:=[1,4]) (by kernel_rfl) (by decide) (kc (s1 V' (az2 V')) (kc (s4 V' λv hv=>q10 V' hv) kn))
theorem aM6:JP V' false true true true 4:=c7.pick (rs:=[0,4]) (by kernel_rfl) (by decide) (kc (s0 V' (az2 V')) (kc (s4 V' λv hv=>q01 V' hv) kn))
theorem aT6:JP V' true true false false 5:=c7.pick (rs:=[2,3]) (by kernel_rfl) (by decide) (kc (s2 V' (aM3 V')) (kc (s3 V' (aM4 V')) kn))
theorem aT7:JP V' true false true false 5:=c7.pick (rs:=[1,3]) (by kernel_rfl) (by decide) (kc (s1 V' (aM3 V')) (kc (s3 V' (aM5 V')) kn))
theorem aT8:JP V' true false false true 5:=c7.pick (rs:=[1,2]) (by kernel_rfl) (by decide) (kc (s1 V' (aM4 V')) (kc (s2 V' (aM5 V')) kn))
theorem aT9:JP V' false true true false 5:=c7.pick (rs:=[0,3]) (by kernel_rfl) (by decide) (kc (s0 V' (aM3 V')) (kc (s3 V' (aM6 V')) kn))
theorem aU0:JP V' false true false true 5:=c7.pick (rs:=[0,2]) (by kernel_rfl) (by decide) (kc (s0 V' (aM4 V')) (kc (s2 V' (aM6 V')) kn))
theorem aU1:JP V' false false true true 5:=c7.pick (rs:=[0,1,4]) (by kernel_rfl) (by decide) (kc (s0 V' (aM5 V')) (kc (s1 V' (aM6 V')) (kc (s4 V' λv hv=>q00 V' hv) kn)))
theorem ba9:JP V' true false false false 6:=c7.pick (rs:=[1,2,3]) (by kernel_rfl) (by decide) (kc (s1 V' (aT6 V')) (kc (s2 V' (aT7 V')) (kc (s3 V' (aT8 V')) kn)))
theorem bb4:JP V' false true false false 6:=c7.pick (rs:=[0,2,3]) (by kernel_rfl) (by decide) (kc (s0 V' (aT6 V')) (kc (s2 V' (aT9 V')) (kc (s3 V' (aU0 V')) kn)))
theorem bb5:JP V' false false true false 6:=c7.pick (rs:=[0,1,3]) (by kernel_rfl) (by decide) (kc (s0 V' (aT7 V')) (kc (s1 V' (aT9 V')) (kc (s3 V' (aU1 V')) kn)))
theorem bb6:JP V' false false false true 6:=c7.pick (rs:=[0,1,2]) (by kernel_rfl) (by decide) (kc (s0 V' (aT8 V')) (kc (s1 V' (aU0 V')) (kc (s2 V' (aU1 V')) kn)))
theorem bb7:JP V' false false false false 7:=c7.pick (rs:=[0,1,2,3]) (by kernel_rfl) (by decide) (kc (s0 V' (ba9 V')) (kc (s1 V' (bb4 V')) (kc (s2 V' (bb5 V')) (kc (s3 V' (bb6 V')) kn))))
end
section
variable[Payload]{c:Kx}{Z:Nat->Prop}{bx bs b1 b2 i:Nat}{xv fv:Z3}{W1:W'}
noncomputable def UI:Array Z8:=match DT with|.seq (.region _ ops _) _=>ops|_=>#[]
theorem Oi:DT=.seq (.region 0 UI false) (.region 1 dr true):=rfl
theorem I8:dr.size=7:=rfl
theorem RB(hP:c.P=prog)(jf:c.ty=wX.tWg)(hZ:∀b,c.old b->Z b)(hi:i - c.p<c.q)(h:Ee c bx bs b1 b2 i xv fv W1)(eE:Z bs)(eA:Z b1)(eM:Z bx)(fK:Z b2)(jS:c.Wg≠c.C)(hQ:c.Q=qP)(iP:c.NG=0)(K:GB c i xv fv W1):GX c.P false (RZ c Z i) (DZ c Z i) (FZ c Z W1) (eP c Z i) (born prog (Ob c bx bs b1 b2)):=by
 refine GX.step cD E (λw _=>by rw[hP];exact V7 c bx bs b1 b2 w) ?_;rw[Oi];refine GX.seq cD ?_;refine GX.region cD ?_;rw[show List.range UI.size=[0] from rfl];refine GX.defer cD E E (by decide) E ?_;refine GX.fin cD ?_;refine GX.drawn cD (by rw[hP];exact ax1) (λw d hF=>Ns w d hF) ?_;simp only[I8];rw[show Array.replicate 7 false=#[false,false,false,false,false,false,false] from rfl,show UI[0].dst=none from rfl];simp only[Act.put,Act.eval,YK,Yd,Zq];exact bb7 ⟨hP,jf,hZ,hi,h,eE,eA,eM,fK,jS,hQ,iP,K⟩
end
end Go.Proofs.YthcfokccjljnpaaGreat.Par
