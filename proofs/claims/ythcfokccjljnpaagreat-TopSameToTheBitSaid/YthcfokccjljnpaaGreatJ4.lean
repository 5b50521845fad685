/- Contracts over the abstract machine, and the crowd of workers. Conditions: none. -/
import GoSem.Step
import Derived.Laws.Sem
import Derived.KernelRfl
import Derived.Conc.Events
import Derived.Conc.Listed
import Derived.Calls
import Derived.Test.YthcfokccjljnpaaGreatProg
import Derived.Test.YthcfokccjljnpaaGreatJ1
set_option linter.unusedVariables false
set_option linter.unusedSimpArgs false
set_option linter.unusedSectionVars false
namespace Go.Proofs.YthcfokccjljnpaaGreat.Par
open Go Go.Proofs.Tryz
abbrev Re:=Nat->Nat
def rA(f:Re)(a:Addr):Addr:={ a with block:=f a.block }
def rFn(f:Re):Fn->Fn
 | .yield l=>.yield (f l)
 | x=>x
def rV(f:Re):Z3->Z3
 | .pointer a=>.pointer (a.map (rA f))
 | .slice a l c=>.slice (a.map (rA f)) l c
 | .map r=>.map (r.map f)
 | .chan r=>.chan (r.map f)
 | .func fn first cap=>.func (rFn f fn) (first.map (rV f)) (cap.map (rV f))
 | .iface t v=>.iface t (rV f v)
 | .agg cs=>.agg (cs.map (rV f))
 | .tuple vs=>.tuple (vs.map (rV f))
 | v=>v
def rL(f:Re)(l:Loop):Loop:={ l with tmps:=l.tmps.map (rV f),defers:=f l.defers }
def rE(f:Re)(e:MapEntry):MapEntry:={ e with key:=rV f e.key,val:=rV f e.val }
abbrev Kc:=Code->Prop
inductive OR(K:Kc)(f:Re):Obj->Obj->Prop
 | cells (c:Array Z3) (e:Z5) (z z':Nat × Nat) (hz:∀o,o<c.size->z'.1<=o->o<z'.2->z.1<=o/\o<z.2):OR K f (.cells c e z) (.cells (c.map (rV f)) e z')
 | loop (l:Loop) (h:K l.assign/\K l.body) (hp:∀c,l.pending=some c->K c):OR K f (.loop l) (.loop (rL f l))
 | number (a:Addr) (b:Bool):OR K f (.number a b) (.number (rA f a) b)
 | aN8:OR K f (.deferred (some [])) (.deferred (some []))
 | defn:OR K f (.deferred none) (.deferred none)
 | map (es:Array MapEntry) (c:Nat):OR K f (.map es c) (.map (es.map (rE f)) c)
def zs(o o':Obj):Prop:=∀c e z c' e' z',o=.cells c e z->o'=.cells c' e' z'->z'=z
def ig:Halt->Bool
 | .panic _|.stuck _=>true
 | .unsupported (.initOrder _)=>false
 | .unsupported _=>true
 | _=>false
def cu:Obj:=.view ⟨0,0,some 0⟩ 0
inductive DM(Q:Z4){α:Type}:Option (Nat × Bool)->Sem α->Prop
 | halt (d) (h:Halt) (hp:ig h=true):DM Q d (.halt h)
 | load (d) (m:Go.Mode) (a:Addr) (k:Z3->Sem α) (h:∀v,DM Q d (k v)):DM Q d (.load m a k)
 | shape (d) (r:Nat) (k:Option (Z5 × Nat)->Sem α) (h:∀x,DM Q d (k x)):DM Q d (.shape r k)
 | px (r:Nat) (b:Bool) (k:Option (Z5 × Nat)->Sem α) (h:DM Q (some (r,b)) (k none)):DM Q (some (r,b)) (.shape r k)
 | getObj (d) (r:Nat) (k:Obj->Sem α) (h:∀x,DM Q d (k x)):DM Q d (.getObj r k)
 | n8 (r:Nat) (k:Obj->Sem α) (h:DM Q (some (r,true)) (k cu)):DM Q (some (r,true)) (.getObj r k)
 | qR (r:Nat) (k:Obj->Sem α):DM Q (some (r,false)) (.getObj r k)
 | program (d) (k:Z4->Sem α) (h:DM Q d (k Q)):DM Q d (.program k)
 | choose (d) (q:Question) (k:Nat->Sem α) (h:∀n,DM Q d (k n)):DM Q d (.choose q k)
 | frozen (d) (a:Addr) (k:Bool->Sem α) (h:∀b,DM Q d (k b)):DM Q d (.frozen a k)
 | mark (d) (m:Mark) (k:Sem α) (h:DM Q d k):DM Q d (.mark m k)
 | sys (d) (c:Sys) (k:SysRet->Sem α) (h:∀r,DM Q d (k r)):DM Q d (.sys c k)
 | Qu (d) (c:Array Z3) (e:Z5) (z:Nat × Nat) (h:Nat->Halt) (hp:∀r,ig (h r)=true):DM Q d (.new (.cells c e z) λr=>.halt (h r))
theorem DM.bind{Q:Z4}{α β:Type}{d:Option (Nat × Bool)}{s:Sem α}(h:DM Q d s)(k:α->Sem β):DM Q d (s.bind k):=by
 induction h with
 | halt d h hp=>exact .halt d h hp
 | load d m a k' h ih=>exact .load d m a _ ih
 | shape d r k' h ih=>exact .shape d r _ ih
 | px r b k' h ih=>exact .px r b _ ih
 | getObj d r k' h ih=>exact .getObj d r _ ih
 | n8 r k' h ih=>exact .n8 r _ ih
 | qR r k'=>exact .qR r _
 | program d k' h ih=>exact .program d _ ih
 | choose d q k' h ih=>exact .choose d q _ ih
 | frozen d a k' h ih=>exact .frozen d a _ ih
 | mark d m k' h ih=>exact .mark d m _ ih
 | sys d c k' h ih=>exact .sys d c _ ih
 | Qu d c e z h hp=>exact .Qu d c e z h hp
def idleM:Mark->Bool
 | .acquire _|.release _|.releaseMerge _|.disable|.enable|.read _|.write _=>false
 | _=>true
inductive SR(Q P:Z4)(K:Kc)(f:Re){α β:Type}(R:α->β->Prop):Sem α->Sem β->Prop
 | pure (a:α) (b:β) (h:R a b):SR Q P K f R (.pure a) (.pure b)
 | load (a:Addr) (k:Z3->Sem α) (k':Z3->Sem β) (h:∀v,SR Q P K f R (k v) (k' (rV f v))):SR Q P K f R (.load .plain a k) (.load .plain (rA f a) k')
 | store (a:Addr) (v:Z3) (k:Sem α) (k':Sem β) (h:SR Q P K f R k k'):SR Q P K f R (.store .plain a v k) (.store .plain (rA f a) (rV f v) k')
 | new (o o':Obj) (k:Nat->Sem α) (k':Nat->Sem β) (ho:OR K f o o') (hz:zs o o') (h:∀r,SR Q P K f R (k r) (k' (f r))):SR Q P K f R (.new o k) (.new o' k')
 | shape (r:Nat) (k:Option (Z5 × Nat)->Sem α) (k':Option (Z5 × Nat)->Sem β) (hl:∀e n,SR Q P K f R (k (some (e,n))) (k' (some (e,n)))) (hn:SR Q P K f R (k none) (k' none))
  (J:∀b,DM Q (some (r,b)) (k none)):SR Q P K f R (.shape r k) (.shape (f r) k')
 | getObj (r:Nat) (k:Obj->Sem α) (k':Obj->Sem β) (h:∀o o',OR K f o o'->SR Q P K f R (k o) (k' o')) (J:DM Q (some (r,true)) (k cu)):SR Q P K f R (.getObj r k) (.getObj (f r) k')
 | getSet (r:Nat) (F:Obj->Sem α) (F':Obj->Sem β) (c:Obj->Prop) (o1 Fx:Obj->Obj) (k:Obj->Sem α) (k':Obj->Sem β) (J:DM Q (some (r,true)) (F cu)) (hm:∀es n,¬c (.map es n)) (h1:∀o o',OR K f o o'->¬c o->DM Q none (F o))
  (h2:∀o o',OR K f o o'->c o->F o=.setObj r (o1 o) (k o)/\F' o'=.setObj (f r) (Fx o') (k' o')/\OR K f (o1 o) (Fx o')) (hz:∀o o',OR K f o o'->c o->zs (o1 o) (Fx o')) (h3:∀o o',OR K f o o'->c o->SR Q P K f R (k o) (k' o')):SR Q P K f R (.getObj r F) (.getObj (f r) F')
 | choose (q:Question) (k:Nat->Sem α) (k':Nat->Sem β) (h:∀n,SR Q P K f R (k n) (k' n)):SR Q P K f R (.choose q k) (.choose q k')
 | program (k:Z4->Sem α) (k':Z4->Sem β) (h:SR Q P K f R (k Q) (k' P)):SR Q P K f R (.program k) (.program k')
 | room (m:Mark) (hm:idleM m=true) (k:Sem α) (k':Sem β) (h:SR Q P K f R k k'):SR Q P K f R (.mark m k) (.mark m k')
 | F8 (s:Sem α) (s':Sem β) (h:DM Q none s):SR Q P K f R s s'
section
variable{Q P:Z4}{K:Kc}{f:Re}
theorem SR.bind{α β γ δ:Type}{R:α->β->Prop}{R':γ->δ->Prop}{s:Sem α}{s':Sem β}{k:α->Sem γ}{k':β->Sem δ}
  (h:SR Q P K f R s s') (hk:∀a b,R a b->SR Q P K f R' (k a) (k' b)):SR Q P K f R' (s.bind k) (s'.bind k'):=by
 induction h with
 | pure a b h=>exact hk a b h
 | load a k k' h ih=>exact .load a _ _ ih
 | store a v k k' h ih=>exact .store a v _ _ ih
 | new o o' k k' ho hz h ih=>exact .new o o' _ _ ho hz ih
 | shape r k k' hl hn J ih1 QO=>exact .shape r _ _ ih1 QO λb=>(J b).bind _
 | getObj r k k' h J ih=>exact .getObj r _ _ ih (J.bind _)
 | getSet r F F' c o1 Fx k1 Wz J hm h1 h2 hz h3 ih=>
  refine .getSet r (λo=>(F o).bind k) (λo=>(F' o).bind k') c o1 Fx (λo=>(k1 o).bind k) (λo=>(Wz o).bind k') (J.bind _) hm (λo o' h hc=>(h1 o o' h hc).bind _) (λo o' h hc=>?_) hz ih;have⟨e1,e2,e3⟩:=h2 o o' h hc;simp only[e1,e2];exact⟨rfl,rfl,e3⟩
 | choose q k k' h ih=>exact .choose q _ _ ih
 | program k k' h ih=>exact .program _ _ ih
 | room m hm k k' h ih=>exact .room m hm _ _ ih
 | F8 s s' h=>exact .F8 _ _ (h.bind _)
theorem SR.imp{α β:Type}{R R':α->β->Prop}{s:Sem α}{s':Sem β}(h:SR Q P K f R s s')(hk:∀a b,R a b->R' a b):SR Q P K f R' s s':=by
 induction h with
 | pure a b h=>exact .pure a b (hk a b h)
 | load a k k' h ih=>exact .load a _ _ ih
 | store a v k k' h ih=>exact .store a v _ _ ih
 | new o o' k k' ho hz h ih=>exact .new o o' _ _ ho hz ih
 | shape r k k' hl hn J ih1 QO=>exact .shape r _ _ ih1 QO J
 | getObj r k k' h J ih=>exact .getObj r _ _ ih J
 | getSet r F F' c o1 Fx k1 Wz J hm h1 h2 hz h3 ih=>exact .getSet r F F' c o1 Fx k1 Wz J hm h1 h2 hz ih
 | choose q k k' h ih=>exact .choose q _ _ ih
 | program k k' h ih=>exact .program _ _ ih
 | room m hm k k' h ih=>exact .room m hm _ _ ih
 | F8 s s' h=>exact .F8 _ _ h
def Result.world{α:Type}:Result α->W'
 | .ok _ w=>w
 | .halt _ w=>w
theorem tN{p:Z4}{w w1:W'}{at_:Addr}{u:Z5}{a:Addr}{v:Z3}{b:Bool}{l:List Addr}(h:w.viewStore p at_ u a v b=.ok (w1,l)):w1.drawn=w.drawn/\w1.heap.size=w.heap.size:=by
 unfold World.viewStore at h;simp only[bind,Except.bind,pure,Except.pure,throw,throwThe,MonadExceptOf.throw]at h
 repeat' (split at h<;>try (first|(cases h;done)|skip))
 all_goals (first|(cases h;simp)|skip)
theorem JO{α:Type}:∀(a:Ask α) (w:W'),w.drawn<=(w.ask a).2.drawn/\(w.ask a).2.heap=w.heap:=by
 intro a
 induction a with
 | done a=>intro w;simp[World.ask]
 | ask what range k ih=>
  intro w;simp only[World.ask]
  split
  ·exact ih _ w
  ·exact⟨XQ (Nat.le_succ _) (ih _ { w with drawn:=w.drawn+1 }).1,(ih _ { w with drawn:=w.drawn+1 }).2⟩
theorem xW(w:W')(c:Sys):w.drawn<=(w.sys c).2.drawn/\(w.sys c).2.heap=w.heap:=by
 have:=JO (Kernel.perform c w.os) w;unfold World.sys
 split<;>simp_all
theorem C4{α:Type}(p:Z4)(s:Sem α):∀(w:W') (es:Array ϊ),w.drawn<=(Result.world (s.runT p w es).1).drawn/\w.heap.size<=(Result.world (s.runT p w es).1).heap.size:=by
 induction s with
 | pure a=>intro w es;simp[Sem.runT,Result.world]
 | load m a k ih=>
  intro w es;simp only[Sem.runT]
  split
  ·exact ih _ w _
  ·split
   ·exact ih _ w _
   ·simp[Result.world]
 | store m a v k ih=>
  intro w es
  cases v<;>simp only[Sem.runT]<;>first|(simp[Result.world];done)|skip
  all_goals
   split
   ·split
    ·simp[Result.world]
    ·have e:∀v,w.drawn=(w.setCell a v).drawn/\w.heap.size=(w.setCell a v).heap.size:=λv=>by simp[World.setCell]
     exact⟨XQ (YX (e _).1) (ih _ _).1,XQ (YX (e _).2) (ih _ _).2⟩
   ·split
    ·rename_i w1 l hw
     have hk:w1.drawn=w.drawn/\w1.heap.size=w.heap.size:=by
      unfold World.farStore at hw
      split at hw
      ·split at hw
       · rename_i hv;cases hw;exact tN hv
       · cases hw
      · cases hw
     have:=ih w1 (es++l.toArray.map (⟨.cell ·,true,m == .atomic⟩));rw[hk.1,hk.2]at this;exact this
    ·simp[Result.world]
 | new o k ih=>
  intro w es;simp only[Sem.runT];have:=ih w.heap.size { w with heap:=w.heap.push o } es;refine⟨this.1,XQ ?_ this.2⟩;simp
 | shape r k ih=>intro w es;exact ih _ w es
 | freeze a n k ih=>
  intro w es;have:=ih (w.freeze a n) es;have e:(w.freeze a n).drawn=w.drawn/\(w.freeze a n).heap.size=w.heap.size:=by unfold World.freeze;split<;>simp
  simp only[Sem.runT];rw[e.1,e.2]at this;exact this
 | frozen a k ih=>intro w es;exact ih _ w es
 | getObj r k ih=>
  intro w es;simp only[Sem.runT]
  split<;>first|(simp[Result.world];done)|exact ih _ w _
 | setObj r o k ih=>
  intro w es;simp only[Sem.runT]
  split
  ·simp[Result.world]
  ·have:=ih { w with heap:=w.heap.setIfInBounds r o } (es.push ⟨.obj r,true,o.isChan⟩)
   simpa using this
  ·simp[Result.world]
 | choose q k ih=>
  intro w es;simp only[Sem.runT]
  split
  ·exact ih _ w es
  ·have:=ih (q.cut (w.tape w.drawn q)) { w with drawn:=w.drawn+1 } es
   exact⟨XQ (Nat.le_succ _) this.1,this.2⟩
 | sys c k ih=>
  intro w es;simp only[Sem.runT];have h1:=ih (w.sys c).1 (w.sys c).2 (es.push ⟨.output,true,false⟩);have h2:=xW w c;exact⟨XQ h2.1 h1.1,by rw[h2.2]at h1;exact h1.2⟩
 | program k ih=>intro w es;exact ih p w es
 | mark m k ih=>intro w es;exact ih w _
 | halt h=>intro w es;simp[Sem.runT,Result.world]
theorem yg(p:Z4)(w:W')(u:Z5)(k:Addr)(b:Bool):∃m,w.seen p ⟨0,0,some 0⟩ u k b=.error m:=by
 unfold World.seen;simp[bind,Except.bind,throw,throwThe,MonadExceptOf.throw];exact⟨_,rfl⟩
structure FR(M N0:Nat)(f:Re)(W0:W'):Prop where
 low:∀b,b<M->f b=b
 hi:∀b,M<=b->N0<=f b
 frz:∀b,b<M->W0.heap[b]?=some cu\/∃c e,W0.heap[b]?=some (.cells c e (0,c.size))
structure WR(K:Kc)(M:Nat)(f:Re)(W0 w w':W'):Prop where
 blk:∀b o,w.heap[b]?=some o->o=cu\/∃o',w'.heap[f b]?=some o'/\OR K f o o'
 inj:∀b c o o',w.heap[b]?=some o->w.heap[c]?=some o'->o≠cu->o'≠cu->f b=f c->b=c
 low:∀b,b<M->w.heap[b]?=W0.heap[b]?
 size:M<=w.heap.size
 dd:∀b:Nat,W0.heap[b]?=some cu->w.heap[b]?=some cu
 zz:∀b o o',M<=b->w.heap[b]?=some o->w'.heap[f b]?=some o'->o≠cu->zs o o'
inductive xN(M:Nat)(f:Re)(W0:W')(L N:Nat):ϊ->Prop
 | low (a:Addr) (v:Z3) (h:a.block<M) (hc:W0.cell? a=some v):xN M f W0 L N ⟨.cell a,false,false⟩
 | own (a:Addr) (wr:Bool) (b:Nat) (hb:M<=b) (hl:b<L) (hn:f b<N) (J:W0.heap[b]?≠some cu) (e:a.block=f b):xN M f W0 L N ⟨.cell a,wr,false⟩
 | obj (b:Nat) (wr:Bool) (hb:M<=b) (hl:b<L) (hn:f b<N) (J:W0.heap[b]?≠some cu):xN M f W0 L N ⟨.obj (f b),wr,false⟩
 | room (m:Mark) (hm:idleM m=true):xN M f W0 L N ⟨.mark m,false,true⟩
theorem xN.mono{M:Nat}{f:Re}{W0:W'}{L N L' N':Nat}{e:ϊ}(h:xN M f W0 L N e)(hL:L<=L')(hN:N<=N'):xN M f W0 L' N' e:=by
 cases h with
 | low a v h hc=>exact .low a v h hc
 | own a wr b hb hl hn J e=>exact .own a wr b hb (by omega) (by omega) J e
 | obj b wr hb hl hn J=>exact .obj b wr hb (by omega) (by omega) J
 | room m hm=>exact .room m hm
structure Mv(M:Nat)(f:Re)(w w1 w' dt:W'):Prop where
 t:w1.tape=w.tape
 t':dt.tape=w'.tape
 os':dt.os=w'.os
 ae9:dt.output=w'.output
 d:w1.drawn+w'.drawn=w.drawn+dt.drawn
 dle:w'.drawn<=dt.drawn
 n:w1.heap.size+w'.heap.size=w.heap.size+dt.heap.size
 FA:w'.heap.size<=dt.heap.size
 cr:∀b:Nat,b<w'.heap.size->(∀c,M<=c->c<w.heap.size->f c=b->w.heap[c]?=some cu/\∀k e z,w'.heap[b]?≠some (.cells k e z))->dt.heap[b]?=w'.heap[b]?
 dead:∀b:Nat,w.heap[b]?=some cu->w1.heap[b]?=some cu
 maps:∀(b:Nat) (es:Array MapEntry) (c:Nat),w.heap[b]?=some (Obj.map es c)->∃es' c',w1.heap[b]?=some (Obj.map es' c')
variable{M N0:Nat}{W0:W'}
theorem Mv.le{w w1 w' dt:W'}(h:Mv M f w w1 w' dt):w.heap.size<=w1.heap.size:=by have:=h.n;have:=h.FA;omega
theorem Mv.refl(w w':W'):Mv M f w w w' w':=⟨rfl,rfl,rfl,rfl,rfl,Xw _,rfl,Xw _,λ_ _ _=>rfl,λ_ h=>h,λ_ _ _ h=>⟨_,_,h⟩⟩
theorem Mv.trans{w w1 w2 w' dt Ws:W'}(h:Mv M f w w1 w' dt)(h2:Mv M f w1 w2 dt Ws)(hN:∀i,w'.heap.size+i<dt.heap.size->f (w.heap.size+i)=w'.heap.size+i):Mv M f w w2 w' Ws:=by
 have⟨a1,a2,a3,a4,a5,a6,a7,a8,a9,aD,a10⟩:=h;have⟨b1,b2,b3,b4,b5,b6,b7,b8,b9,bD,b10⟩:=h2;refine⟨b1.trans a1,b2.trans a2,b3.trans a3,b4.trans a4,by omega,by omega,by omega,by omega,λb hb hc=>?_,λb h=>bD b (aD b h),λb es c h=>let ⟨_,_,h⟩:=a10 b es c h;b10 b _ _ h⟩;have e1:=a9 b hb hc;rw[b9 b (by omega) λc h1 h2 h3=>?_,e1];rw[e1];rcases XP c w.heap.size with h|h
 ·exact⟨aD c (hc c h1 h h3).1,(hc c h1 h h3).2⟩
 ·have:=hN (c - w.heap.size) (by omega)
  rw[show w.heap.size+(c - w.heap.size)=c by omega]at this;omega
theorem cellsOf?{w:W'}{a:Addr}{v:Z3}(h:w.cell? a=some v):∃c e z,w.heap[a.block]?=some (.cells c e z)/\a.spot=none/\c[a.off]?=some v:=by
 unfold World.cell? at h
 split at h
 ·rename_i c e z hc
  split at h
  ·cases h
  ·rename_i hs;exact⟨c,e,z,hc,by simpa using hs,h⟩
 ·cases h
theorem WR.cell{w w':W'}(H:WR K M f W0 w w'){a:Addr}{v:Z3}(h:w.cell? a=some v):w'.cell? (rA f a)=some (rV f v):=by
 have⟨c,e,z,h1,h2,h3⟩:=cellsOf? h;rcases H.blk _ _ h1 with J|⟨o',ho,Y⟩
 ·cases J
 ·cases Y
  unfold World.cell? rA;simp only[ho,h2];simp[h3]
theorem WR.far{w w':W'}(H:WR K M f W0 w w'){a:Addr}(h:w.cell? a=none)(p:Z4):(∀b,∃e,w.farLoad p a b=.error e/\ig e=true)/\∀v b,∃e,w.farStore p a v b=.error e/\ig e=true:=by
 have nc:∀what,(∀at_ u,w.heap[a.block]?≠some (.view at_ u))->ig (w.noCell a what)=true:=λwhat hn=>by
  unfold World.noCell
  cases hb:w.heap[a.block]? with
  | none=>rfl
  | some o=>
   rcases H.blk _ _ hb with J|⟨o',ho,Y⟩
   ·exact absurd (hb.trans (congrArg some J)) (hn _ _)
   ·cases Y<;>rfl
 rcases Zd (∃at_ u,w.heap[a.block]?=some (.view at_ u)) with ⟨at_,u,hv⟩|hn
 ·have : (Obj.view at_ u) = cu := by
   rcases H.blk _ _ hv with J|⟨o',ho,Y⟩
   ·exact J
   ·cases Y
  cases this
  refine⟨λb=>?_,λv b=>?_⟩
  ·have⟨m,hm⟩:=yg p w 0 a b
   refine⟨.unsupported (.unsafePointer m),?_,rfl⟩;unfold World.farLoad;simp only[hv];unfold World.viewLoad;rw[hm];rfl
  ·have⟨m,hm⟩:=yg p w 0 a b
   have:∃m,w.viewStore p ⟨0,0,some 0⟩ 0 a v b=.error m:=by
    unfold World.viewStore;rw[hm];simp only[bind,Except.bind,throw,throwThe,MonadExceptOf.throw,pure,Except.pure]
    split<;>exact⟨_,rfl⟩
   have⟨m',vO⟩:=this;refine⟨.unsupported (.unsafePointer m'),?_,rfl⟩;unfold World.farStore;simp only[hv,vO]
 ·have WQ:∀at_ u,w.heap[a.block]?≠some (.view at_ u):=λat_ u hv=>hn ⟨at_,u,hv⟩
  refine⟨λb=>⟨_,?_,nc "load: no such cell" WQ⟩,λv b=>⟨_,?_,nc "store: no such cell" WQ⟩⟩
  ·unfold World.farLoad;split
   ·rename_i hv;exact absurd hv (WQ _ _)
   ·rfl
  ·unfold World.farStore;split
   ·rename_i hv;exact absurd hv (WQ _ _)
   ·rfl
theorem OR.live{o o':Obj}(h:OR K f o o')(hn:∀c e z,o≠.cells c e z):o≠cu/\(∀c e z,o'≠.cells c e z)/\o'.isChan=false:=by
 cases h with
 | cells c e z z' hz=>exact absurd E (hn c e z)
 | loop l h hp=>exact⟨(λe=>by cases e),(λ_ _ _ e=>by cases e),rfl⟩
 | number a b=>exact⟨(λe=>by cases e),(λ_ _ _ e=>by cases e),rfl⟩
 | aN8=>exact⟨(λe=>by cases e),(λ_ _ _ e=>by cases e),rfl⟩
 | defn=>exact⟨(λe=>by cases e),(λ_ _ _ e=>by cases e),rfl⟩
 | map es c=>exact⟨(λe=>by cases e),(λ_ _ _ e=>by cases e),rfl⟩
theorem OR.UM{o o':Obj}(h:OR K f o o'):o'.isChan=false:=by cases h<;>rfl
theorem WR.vn{w w':W'}(H:WR K M f W0 w w'){M' b:Nat}{o:Obj}(h:w.heap[b]?=some o)(J:o≠cu)(hb:M'<=b):b<w.heap.size/\f b<w'.heap.size/\W0.heap[b]?≠some cu:=by
 obtain⟨o',ho,_⟩:=(H.blk _ _ h).resolve_left J;exact⟨(Xz.1 h).1,(Xz.1 ho).1,λhx=>J (by rw[H.dd _ hx]at h;cases h;rfl)⟩
theorem WR.turn{w w':W'}(F:FR M N0 f W0)(H:WR K M f W0 w w'){r:Nat}{o0 o o':Obj}(h0:w.heap[r]?=some o0)(hl:o0≠cu)(Y:M<=r)(hO:OR K f o o')(hz:zs o o'){w1 dt:W'}
  (h1:w1.heap=w.heap.setIfInBounds r o) (C1:dt.heap=w'.heap.setIfInBounds (f r) o'):WR K M f W0 w1 dt:=by
 have⟨lt,_⟩:=Xz.1 h0;obtain⟨O4,kP,_⟩:=(H.blk _ _ h0).resolve_left hl;have⟨lt',_⟩:=Xz.1 kP
 have get:∀b o1,w1.heap[b]?=some o1->(b=r/\o1=o)\/(b≠r/\w.heap[b]?=some o1):=λb o1 hb=>by
  rw[h1]at hb;by_cases e:r=b
  ·subst e;rw[X9 lt]at hb;cases hb;exact .inl ⟨rfl,rfl⟩
  ·rw[XE e]at hb;exact .inr ⟨λe'=>e e'.symm,hb⟩
 refine⟨λb o1 hb=>?_,λb c o1 o2 hb hc d1 d2 he=>?_,λb hb=>?_,by rw[h1,Zi];exact H.size,λb hb=>by rw[h1,XE (λe=>hl (by subst e;rw[H.dd _ hb]at h0;cases h0;rfl))];exact H.dd _ hb,λb o1 Fx hb k1 k2 nd=>?_⟩
 ·rcases get b o1 hb with ⟨rfl,rfl⟩|⟨eW,bY⟩
  ·exact .inr ⟨o',by rw[C1,X9 lt'],hO⟩
  ·rcases Zd (o1=cu) with J|J
   ·exact .inl J
   ·obtain⟨o2,SK,Jr⟩:=(H.blk _ _ bY).resolve_left J
    refine .inr ⟨o2,?_,Jr⟩;rw[C1,XE (λe=>eW (H.inj b r o1 o0 bY h0 J hl e.symm))];exact SK
 ·rcases get b o1 hb with ⟨rfl,rfl⟩|⟨eW,bY⟩<;>rcases get c o2 hc with ⟨rfl,rfl⟩|⟨aI1,tE⟩
  ·rfl
  ·exact H.inj _ c o0 o2 h0 tE hl d2 he
  ·exact H.inj b _ o1 o0 bY h0 d1 hl he
  ·exact H.inj b c o1 o2 bY tE d1 d2 he
 ·rw[h1,XE (by omega)];exact H.low b hb
 ·rcases get b o1 k1 with ⟨rfl,rfl⟩|⟨eW,bY⟩
  ·rw[C1,X9 lt']at k2;cases k2;exact hz
  ·rw[C1,XE (λe=>eW (H.inj b r o1 o0 bY h0 nd hl e.symm))]at k2
   exact H.zz b o1 Fx hb bY k2 nd
theorem WR.push{w w':W'}(F:FR M N0 f W0)(H:WR K M f W0 w w'){o o':Obj}(hO:OR K f o o')(hz:zs o o')(hf:f w.heap.size=w'.heap.size){w1 dt:W'}
  (h1:w1.heap=w.heap.push o) (C1:dt.heap=w'.heap.push o'):WR K M f W0 w1 dt:=by
 have get:∀b o1,w1.heap[b]?=some o1->(b=w.heap.size/\o1=o)\/(b<w.heap.size/\w.heap[b]?=some o1):=λb o1 hb=>by
  rw[h1,YE]at hb
  split at hb
  ·rename_i e;cases hb;exact .inl ⟨e,rfl⟩
  ·exact .inr ⟨(Xz.1 hb).1,hb⟩
 have old:∀b o1,w'.heap[b]?=some o1->dt.heap[b]?=some o1:=λb o1 hb=>by
  have:=(Xz.1 hb).1;rw[C1,YE,Xr (by omega)];exact hb
 refine⟨λb o1 hb=>?_,λb c o1 o2 hb hc d1 d2 he=>?_,λb hb=>?_,by rw[h1,Array.size_push];have:=H.size;omega,λb hb=>by rw[h1,YE,Xr (by have:=(Xz.1 (H.dd _ hb)).1;omega)];exact H.dd _ hb,λb o1 Fx hb k1 k2 nd=>?_⟩
 ·rcases get b o1 hb with ⟨rfl,rfl⟩|⟨_,bY⟩
  ·exact .inr ⟨o',by rw[C1,hf];simp,hO⟩
  ·rcases H.blk _ _ bY with J|⟨o2,SK,Jr⟩
   ·exact .inl J
   ·exact .inr ⟨o2,old _ _ SK,Jr⟩
 ·have lt : ∀ b o1, w.heap[b]? = some o1 -> o1 ≠ cu -> f b < w'.heap.size := λb o1 hb J => by
   obtain⟨o2,SK,_⟩:=(H.blk _ _ hb).resolve_left J;exact(Xz.1 SK).1
  rcases get b o1 hb with ⟨rfl,rfl⟩|⟨_,bY⟩<;>rcases get c o2 hc with ⟨rfl,rfl⟩|⟨_,tE⟩
  ·rfl
  ·have:=lt _ _ tE d2;omega
  ·have:=lt _ _ bY d1;omega
  ·exact H.inj b c o1 o2 bY tE d1 d2 he
 ·have:=H.size
  rw[h1,YE,Xr (by omega)];exact H.low b hb
 ·rcases get b o1 k1 with ⟨rfl,rfl⟩|⟨_,bY⟩
  ·rw[C1,hf,YE,Xu E]at k2;cases k2;exact hz
  ·obtain⟨o2,SK,_⟩:=(H.blk _ _ bY).resolve_left nd
   rw[old _ _ SK]at k2;cases k2
   exact H.zz b o1 _ hb bY SK nd
def bg(w:W'):Prop:=∀(b:Nat) (ds:List Deferred),w.heap[b]?=some (.deferred (some ds))->ds=[]
theorem WR.bg{K:Kc}{w w':W'}(h:WR K M f W0 w w'):bg w:=λb ds hb=>by
 rcases h.blk _ _ hb with h|⟨o',_,h⟩
 ·cases h
 ·cases h;rfl
theorem modify_eq{h:Array Obj}{b:Nat}{o:Obj}(hb:h[b]?=some o)(g:Obj->Obj):h.modify b g=h.setIfInBounds b (g o):=by
 have⟨lt,he⟩:=Xz.1 hb;apply Array.ext_getElem?;intro i;by_cases e:b=i
 ·subst e;simp[Zy,Array.getElem_modify,he,lt]
 ·simp[Zy,XE e,e]
def atD(d:Option (Nat × Bool))(w:W'):Prop:=∀r b,d=some (r,b)->w.heap[r]?=bif b then some cu else none
theorem DM.run{α:Type}{d:Option (Nat × Bool)}{s:Sem α}(h:DM Q d s):∀{w w':W'},WR K M f W0 w w'->atD d w->∀es,∃h w1 e1,s.runT Q w es=(.halt h w1,e1)/\ig h=true/\bg w1:=by
 induction h with
 | halt d h hp=>intro w w' H J es;exact⟨h,w,es,rfl,hp,H.bg⟩
 | load d m a k h ih=>
  intro w w' H J es;simp only[Sem.runT]
  split
  ·exact ih _ H J _
  ·rename_i hc
   have⟨e,h1,h2⟩:=(H.far hc Q).1 (m == .atomic);rw[h1];exact⟨_,_,_,rfl,h2,H.bg⟩
 | shape d r k h ih=>intro w w' H J es;exact ih _ H J es
 | px r b k h ih=>
  intro w w' H J es;have hb:=J r b E;have:w.shape? r=none:=by unfold World.shape?;rw[hb];cases b<;>rfl
  simp only[Sem.runT,this];exact ih H J es
 | getObj d r k h ih=>
  intro w w' H J es;simp only[Sem.runT]
  split
  ·exact⟨_,_,_,rfl,rfl,H.bg⟩
  ·exact ih _ H J _
  ·exact⟨_,_,_,rfl,rfl,H.bg⟩
 | n8 r k h ih=>
  intro w w' H J es;have hb:w.heap[r]?=some cu:=J r true E
  have e:Sem.runT Q (.getObj r k) w es=(k cu).runT Q w (es.push ⟨.obj r,false,false⟩):=by
   simp only[Sem.runT,hb,cu];rfl
  rw[e];exact ih H J _
 | qR r k=>
  intro w w' H J es;have hb:w.heap[r]?=none:=J r false E;exact⟨_,_,_,by simp only[Sem.runT,hb];rfl,rfl,H.bg⟩
 | program d k h ih=>intro w w' H J es;exact ih H J es
 | frozen d a k h ih=>intro w w' H J es;exact ih _ H J es
 | mark d m k h ih=>intro w w' H J es;exact ih H J _
 | choose d q k h ih=>
  intro w w' H J es;simp only[Sem.runT]
  split
  ·exact ih _ H J es
  ·exact ih _ (w:={ w with drawn:=w.drawn+1 }) (w':=w') ⟨H.blk,H.inj,H.low,H.size,H.dd,H.zz⟩ J es
 | sys d c k h ih=>
  intro w w' H J es;have e:=(xW w c).2;simp only[Sem.runT];refine ih _ (w:=(w.sys c).2) (w':=w') ⟨?_,?_,?_,?_,?_,?_⟩ ?_ _<;>(try unfold atD)<;>rw[e]
  ·exact H.blk
  ·exact H.inj
  ·exact H.low
  ·exact H.size
  ·exact H.dd
  ·exact H.zz
  ·exact J
 | Qu d c e z h hp=>
  intro w w' H J es;refine⟨_,_,_,rfl,hp _,λb ds hb=>?_⟩;simp only[YE]at hb
  split at hb
  ·cases hb
  ·exact H.bg b ds hb
def oneV:Z3->Bool
 | .agg _|.tuple _=>false
 | _=>true
theorem LW(f:Re)(v:Z3):oneV (rV f v)=oneV v:=by cases v<;>simp[rV,oneV]
theorem xX{v:Z3}(h:oneV v=true)(p:Z4){α:Type}(k:Sem α)(w:W')(es:Array ϊ)(a:Addr):Sem.runT p (.store .plain a v k) w es=(match w.cell? a with
 | some _=>if w.frozen? a then (.halt (.unsupported (.unsafePointer "a write to bytes that a string shares")) w,es) else k.runT p (w.setCell a v) (es.push ⟨.cell a,true,false⟩)
 | none=>match w.farStore p a v false with
  | .ok (w,Py)=>k.runT p w (es++Py.toArray.map (⟨.cell ·,true,false⟩))
  | .error h=>(.halt h w,es)):=by cases v<;>first|rfl|cases h
theorem EK{v:Z3}(h:oneV v=false)(p:Z4){α:Type}(k:Sem α)(w:W')(es:Array ϊ)(a:Addr):Sem.runT p (.store .plain a v k) w es=(.halt (.stuck "store: not the value of one cell") w,es):=by cases v<;>first|rfl|cases h
theorem WR.tH{α:Type}{s:Sem α}{w w':W'}{es:Array ϊ}(H:WR K M f W0 w w')(h:∃h w1 e1,s.runT Q w es=(.halt h w1,e1)/\ig h=true/\Par.bg w1):∃h w1 e1,s.runT Q w es=(.halt h w1,e1)/\ig h=true/\Par.bg w1:=h
theorem SR.run(F:FR M N0 f W0){D1 N1:Nat}{α β:Type}{R:α->β->Prop}{s:Sem α}{s':Sem β}(h:SR Q P K f R s s'):∀(w w':W') (es es':Array ϊ),WR K M f W0 w w'->
  (Result.world (s'.runT P w' es').1).drawn<=D1->(Result.world (s'.runT P w' es').1).heap.size<=N1->
  (∀i q,w'.drawn+i<D1->w.tape (w.drawn+i) q=w'.tape (w'.drawn+i) q)->(∀i,w'.heap.size+i<N1->f (w.heap.size+i)=w'.heap.size+i)->
  (∃h w1 e1,s.runT Q w es=(.halt h w1,e1)/\ig h=true/\bg w1)\/
  ∃a b w1 dt e1 new,s.runT Q w es=(.ok a w1,e1)/\s'.runT P w' es'=(.ok b dt,es'++new)/\R a b/\WR K M f W0 w1 dt/\(∀e∈new,xN M f W0 w1.heap.size dt.heap.size e)/\Mv M f w w1 w' dt:=by
 induction h with
 | pure a b h=>intro w w' es es' H _ _ _ _;exact .inr ⟨a,b,w,w',es,#[],rfl,by simp[Sem.runT],h,H,by simp,.refl _ _⟩
 | load a k k' h ih=>
  intro w w' es es' H h1 h2 hT hN
  cases hc:w.cell? a with
  | none=>
   have⟨e,p1,p2⟩:=(H.far hc Q).1 false;exact .inl ⟨_,_,_,by simp only[Sem.runT,hc,show (Mode.plain==Mode.atomic)=false from rfl,p1];rfl,p2,H.bg⟩
  | some v=>
   have tE:=H.cell hc;simp only[Sem.runT,hc,tE]at h1 h2 ⊢;rcases ih v w w' (es.push ⟨.cell a,false,false⟩) (es'.push ⟨.cell (rA f a),false,false⟩) H h1 h2 hT hN with h|⟨a1,b1,w1,dt,e1,new,r1,r2,r3,r4,r5,r6⟩
   ·exact .inl h
   ·refine .inr ⟨a1,b1,w1,dt,e1,#[⟨.cell (rA f a),false,false⟩]++new,r1,by rw[show (Mode.plain==Mode.atomic)=false from rfl,r2];simp,r3,r4,λe he=>?_,r6⟩
    rcases YG.1 he with he|he
    ·rw[Yz]at he
     subst he;rcases XP a.block M with hb|hb
     ·have:rA f a=a:=by unfold rA;rw[F.low _ hb]
      rw[this];refine .low a v hb ?_;have⟨c,e,z,q1,q2,q3⟩:=cellsOf? hc;rw[H.low _ hb]at q1;unfold World.cell?;simp[q1,q2,q3]
     ·have⟨c,e,z,q1,_⟩:=cellsOf? hc
      exact(H.vn (M':=M) q1 (λe=>by cases e) hb).elim λl n=>.own _ _ a.block hb (XD l r6.le) (XD n.1 r6.FA) n.2 E
    ·exact r5 e he
 | store a v k k' h ih=>
  intro w w' es es' H h1 h2 hT hN
  cases ho:oneV v with
  | false=>exact .inl ⟨_,_,_,EK ho _ _ _ _ _,rfl,H.bg⟩
  | true=>
   have kP:=(LW f v).trans ho;rw[xX kP]at h1 h2 ⊢;rw[xX ho]
   cases hc:w.cell? a with
   | none=>
    have⟨e,p1,p2⟩:=(H.far hc Q).2 v false;exact .inl ⟨_,_,_,by simp only[p1];rfl,p2,H.bg⟩
   | some u=>
    have tE:=H.cell hc;simp only[tE]at h1 h2 ⊢;by_cases hz:w.frozen? a=true
    ·exact .inl ⟨_,_,_,by rw[Xu hz],rfl,H.bg⟩
    ·rw[Xr hz]
     have⟨c,e,z,q1,q2,q3⟩:=cellsOf? hc;have hl:Obj.cells c e z≠cu:=λh=>by cases h
     obtain⟨o',kP,Y⟩:=(H.blk _ _ q1).resolve_left hl
     have hM:M<=a.block:=by
      rcases XP a.block M with hb|hb
      ·exfalso
       rcases F.frz _ hb with hf|⟨c',e',hf⟩
       · rw[<-H.low _ hb,q1]at hf;cases hf
       rw[<-H.low _ hb,q1]at hf
       cases hf
       apply hz;unfold World.frozen?;rw[q1];have:=(Xz.1 q3).1;simp[this]
      · exact hb
     generalize hoc:Obj.cells c e z=oc at Y
     cases Y<;>cases hoc
     rename_i z' hz'
     have hzn:¬w'.frozen? (rA f a)=true:=by
      intro hx;apply hz;unfold World.frozen? rA at hx;unfold World.frozen?;rw[kP]at hx;rw[q1];simp only[Xs,XW]at hx ⊢;exact hz' _ (Xz.1 q3).1 hx.1 hx.2
     rw[Xr hzn]at h1 h2 ⊢
     have m1:(w.setCell a v).heap=w.heap.setIfInBounds a.block (.cells (c.setIfInBounds a.off v) e z):=by
      unfold World.setCell;simp only;rw[modify_eq q1];simp[q2]
     have m1':(w'.setCell (rA f a) (rV f v)).heap=w'.heap.setIfInBounds (f a.block) (.cells ((c.setIfInBounds a.off v).map (rV f)) e z'):=by
      unfold World.setCell;simp only[rA];rw[modify_eq kP];simp[q2]
     have H1:WR K M f W0 (w.setCell a v) (w'.setCell (rA f a) (rV f v)):=H.turn F q1 hl hM (.cells _ _ _ _ λo h=>hz' o (by simpa using h)) (λc1 e1 z1 c2 e2 z2 k1 k2=>by cases k1;cases k2;exact H.zz a.block _ _ hM q1 kP hl _ _ _ _ _ _ E E) m1 m1';have sz:(w.setCell a v).heap.size=w.heap.size:=by rw[m1];simp
     have ug:(w'.setCell (rA f a) (rV f v)).heap.size=w'.heap.size:=by rw[m1'];simp
     have mv:Mv M f w (w.setCell a v) w' (w'.setCell (rA f a) (rV f v)):=⟨rfl,rfl,rfl,rfl,rfl,Xw _,by rw[sz,ug],by rw[ug];exact Xw _,λb hb hn=>by
      rw[m1',XE (λe=>hl (by have:=(hn a.block hM (Xz.1 q1).1 e).1;rw[q1]at this;exact YT this))],λb h=>by rw[m1,XE (λe=>by subst e;rw[q1]at h;cases h)];exact h,λb es c h=>⟨es,c,by rw[m1,XE (λe=>by subst e;rw[q1]at h;cases h)];exact h⟩⟩
     rcases ih (w.setCell a v) (w'.setCell (rA f a) (rV f v)) (es.push ⟨.cell a,true,false⟩) (es'.push ⟨.cell (rA f a),true,false⟩) H1 h1 h2 hT (λi hi=>by rw[ug]at hi ⊢;rw[sz];exact hN i hi) with h|⟨a1,b1,w1,dt,e1,new,r1,r2,r3,r4,r5,r6⟩
     ·exact .inl h
     ·refine .inr ⟨a1,b1,w1,dt,e1,#[⟨.cell (rA f a),true,false⟩]++new,r1,by rw[r2];simp,r3,r4,λe he=>?_,mv.trans r6 (λi hi=>by rw[ug]at hi;omega)⟩
      rcases YG.1 he with he|he
      ·rw[Yz]at he
       subst he;exact(H.vn (M':=M) q1 hl hM).elim λl n=>.own _ _ a.block hM (XD l (by have:=r6.le;rwa [sz]at this)) (XD n.1 (by have:=r6.FA;rwa [ug]at this)) n.2 E
      · exact r5 e he
 | new o o' k k' ho hz h ih=>
  intro w w' es es' H h1 h2 hT hN;simp only[Sem.runT]at h1 h2 ⊢;have hg:=(C4 P (k' w'.heap.size) { w' with heap:=w'.heap.push o' } es').2;simp only[Array.size_push]at hg;have hf:f w.heap.size=w'.heap.size:=by have:=hN 0 (by omega);simpa using this
  have H1:WR K M f W0 { w with heap:=w.heap.push o } { w' with heap:=w'.heap.push o' }:=H.push F ho hz hf E E;have mv:Mv M f w { w with heap:=w.heap.push o } w' { w' with heap:=w'.heap.push o' }:=⟨rfl,rfl,rfl,rfl,rfl,Xw _,by simp;omega,by simp,λb hb hn=>by simp only[YE];rw[Xr (by omega)],λb h=>by simp only[YE];rw[Xr (by have:=(Xz.1 h).1;omega)];exact h,λb es c h=>⟨es,c,by simp only[YE];rw[Xr (by have:=(Xz.1 h).1;omega)];exact h⟩⟩;have ih':=ih w.heap.size { w with heap:=w.heap.push o } { w' with heap:=w'.heap.push o' } es es' H1;rw[hf]at ih'
  rcases ih' h1 h2 hT (λi hi=>by
   simp only[Array.size_push]at hi ⊢;have:=hN (i+1) (by omega)
   rw[show w.heap.size+1+i=w.heap.size+(i+1) by omega,this];omega) with h|⟨a1,b1,w1,dt,e1,new,r1,r2,r3,r4,r5,r6⟩
  ·exact .inl h
  ·exact .inr ⟨a1, b1, w1, dt, e1, new, r1, r2, r3, r4, r5, mv.trans r6 λi hi => by
    simp only[Array.size_push]at hi;obtain rfl:i=0:=by omega
    simpa using hf⟩
 | shape r k k' hl hn J ih1 QO=>
  intro w w' es es' H h1 h2 hT hN;have sh:∀(w:W') (o:Obj),w.heap[r]?=some o->w.shape? r=match o with|.cells c e _=>some (e,c.size)|_=>none:=λw o ho=>by unfold World.shape?;rw[ho];cases o<;>rfl
  cases hb:w.heap[r]? with
  | none=>
   have s1:w.shape? r=none:=by unfold World.shape?;rw[hb]
   simp only[Sem.runT,s1];exact .inl (H.tH <| ((J false)).run H (λr' b' e=>by cases e;exact hb) es)
  | some o=>
   rcases H.blk _ _ hb with CY|⟨o',kP,Y⟩
   ·have s1:w.shape? r=none:=by rw[sh w o hb,CY];rfl
    simp only[Sem.runT,s1];exact .inl (H.tH <| ((J true)).run H (λr' b' e=>by cases e;rw[hb,CY];rfl) es)
   ·have s2:∀o',w'.heap[f r]?=some o'->w'.shape? (f r)=match o' with|.cells c e _=>some (e,c.size)|_=>none:=λo' kP=>by unfold World.shape?;rw[kP];cases o'<;>rfl
    replace s2:=s2 o' kP;have s1:=sh w o hb
    cases Y with
    | cells c e z z' hz=>
     simp only[ZZ]at s1 s2;simp only[Sem.runT,s1,s2]at h1 h2 ⊢;exact ih1 e c.size w w' es es' H h1 h2 hT hN
    | loop l h hp=>simp only[Sem.runT,s1,s2]at h1 h2 ⊢;exact QO w w' es es' H h1 h2 hT hN
    | number a b=>simp only[Sem.runT,s1,s2]at h1 h2 ⊢;exact QO w w' es es' H h1 h2 hT hN
    | aN8=>simp only[Sem.runT,s1,s2]at h1 h2 ⊢;exact QO w w' es es' H h1 h2 hT hN
    | defn=>simp only[Sem.runT,s1,s2]at h1 h2 ⊢;exact QO w w' es es' H h1 h2 hT hN
    | map=>simp only[Sem.runT,s1,s2]at h1 h2 ⊢;exact QO w w' es es' H h1 h2 hT hN
 | getObj r k k' h J ih=>
  intro w w' es es' H h1 h2 hT hN
  cases hb:w.heap[r]? with
  | none=>exact .inl ⟨_,_,_,by simp only[Sem.runT,hb];rfl,rfl,H.bg⟩
  | some o=>
   rcases Zd (∃c e z,o=.cells c e z) with ⟨c,e,z,rfl⟩|hn
   ·exact .inl ⟨_,_,_,by simp only[Sem.runT,hb];rfl,rfl,H.bg⟩
   ·have wY:∀c e z,o≠.cells c e z:=λc e z he=>hn ⟨c,e,z,he⟩
    rcases H.blk _ _ hb with CY|⟨o',kP,Y⟩
    ·have g1 : Sem.runT Q (.getObj r k) w es = (k cu).runT Q w (es.push ⟨.obj r, false, false⟩) := by
      simp only[Sem.runT,hb,CY,cu];rfl
     rw[g1];exact .inl (H.tH <| (J).run H (λr' b' e=>by cases e;rw[hb,CY];rfl) _)
    ·have⟨l1,l2,l3⟩:=Y.live wY
     have g1:Sem.runT Q (.getObj r k) w es=(k o).runT Q w (es.push ⟨.obj r,false,o.isChan⟩):=by
      simp only[Sem.runT,hb]
     have g2:Sem.runT P (.getObj (f r) k') w' es'=(k' o').runT P w' (es'.push ⟨.obj (f r),false,false⟩):=by
      simp only[Sem.runT,kP,l3]
     rw[g2]at h1 h2 ⊢;rw[g1];rcases ih o o' Y w w' _ _ H h1 h2 hT hN with h|⟨a1,b1,w1,dt,e1,new,r1,r2,r3,r4,r5,r6⟩
     ·exact .inl h
     ·refine .inr ⟨a1,b1,w1,dt,e1,#[⟨.obj (f r),false,false⟩]++new,r1,by rw[r2];simp,r3,r4,λe he=>?_,r6⟩
      rcases YG.1 he with he|he
      ·rw[Yz]at he
       subst he;rcases XP r M with bY|bY
       ·exfalso
        rcases F.frz _ bY with hf|⟨c',e',hf⟩
        · rw[<-H.low _ bY,hb]at hf;cases hf;exact l1 E
        · rw[<-H.low _ bY,hb]at hf;cases hf;exact wY _ _ _ E
       · exact(H.vn (M':=M) hb l1 bY).elim λl n=>.obj r false bY (XD l r6.le) (XD n.1 r6.FA) n.2
      · exact r5 e he
 | getSet r F0 F0' c o1 Fx k k' J hm q1 q2 qz q3 ih=>
  intro w w' es es' H h1 h2 hT hN
  cases hb:w.heap[r]? with
  | none=>exact .inl ⟨_,_,_,by simp only[Sem.runT,hb];rfl,rfl,H.bg⟩
  | some o0=>
   rcases Zd (∃c e z,o0=.cells c e z) with ⟨c,e,z,rfl⟩|hn
   ·exact .inl ⟨_,_,_,by simp only[Sem.runT,hb];rfl,rfl,H.bg⟩
   ·have wY:∀c e z,o0≠.cells c e z:=λc e z he=>hn ⟨c,e,z,he⟩
    have g0:Sem.runT Q (.getObj r F0) w es=(F0 o0).runT Q w (es.push ⟨.obj r,false,o0.isChan⟩):=by
     simp only[Sem.runT,hb]
    rcases H.blk _ _ hb with CY|⟨O4,aj2,Y⟩
    ·rw[g0,CY]
     exact .inl (H.tH <| (J).run H (λr' b' e=>by cases e;rw[hb,CY];rfl) _)
    ·rcases Zd (c o0) with hc|hc
     ·have⟨l1,l2,l3⟩:=Y.live wY
      have⟨f1,f2,ho⟩:=q2 o0 O4 Y hc
      have hM:M<=r:=by
       rcases XP r M with bY|bY
       ·exfalso
        rcases F.frz _ bY with hf|⟨c',e',hf⟩
        · rw[<-H.low _ bY,hb]at hf;cases hf;exact l1 E
        · rw[<-H.low _ bY,hb]at hf;cases hf;exact wY _ _ _ E
       · exact bY
      have g1:Sem.runT Q (F0 o0) w (es.push ⟨.obj r,false,o0.isChan⟩)=(k o0).runT Q { w with heap:=w.heap.setIfInBounds r (o1 o0) } ((es.push ⟨.obj r,false,o0.isChan⟩).push ⟨.obj r,true,(o1 o0).isChan⟩):=by
       rw[f1];simp only[Sem.runT,hb]
      have g2:Sem.runT P (.getObj (f r) F0') w' es'=(k' O4).runT P { w' with heap:=w'.heap.setIfInBounds (f r) (Fx O4) } ((es'.push ⟨.obj (f r),false,false⟩).push ⟨.obj (f r),true,false⟩):=by
       have:Sem.runT P (.getObj (f r) F0') w' es'=(F0' O4).runT P w' (es'.push ⟨.obj (f r),false,false⟩):=by
        simp only[Sem.runT,aj2,l3]
       rw[this,f2];simp only[Sem.runT,aj2,ho.UM]
      rw[g2]at h1 h2 ⊢;rw[g0,g1];have H1:WR K M f W0 { w with heap:=w.heap.setIfInBounds r (o1 o0) } { w' with heap:=w'.heap.setIfInBounds (f r) (Fx O4) }:=H.turn F hb l1 hM ho (qz o0 O4 Y hc) E E
      have mv:Mv M f w { w with heap:=w.heap.setIfInBounds r (o1 o0) } w' { w' with heap:=w'.heap.setIfInBounds (f r) (Fx O4) }:=⟨rfl,rfl,rfl,rfl,rfl,Xw _,by simp,by simp,λb bY hn=>by
       simp only;rw[XE (λe=>l1 (by have:=(hn r hM (Xz.1 hb).1 e).1;rw[hb]at this;exact YT this))],λb h=>by simp only;rw[XE (λe=>by subst e;rw[hb]at h;exact l1 (YT h))];exact h,λb es c' h=>⟨es,c',by simp only;rw[XE (λe=>by subst e;rw[hb]at h;cases h;exact hm _ _ hc)];exact h⟩⟩
      rcases ih o0 O4 Y hc _ _ ((es.push ⟨.obj r,false,o0.isChan⟩).push ⟨.obj r,true,(o1 o0).isChan⟩) ((es'.push ⟨.obj (f r),false,false⟩).push ⟨.obj (f r),true,false⟩) H1 h1 h2 hT (λi hi=>by simp only[Zi]at hi ⊢;exact hN i hi) with h|⟨a1,b1,w1,dt,e1,new,r1,r2,r3,r4,r5,r6⟩
      · exact .inl h
      ·refine .inr ⟨a1,b1,w1,dt,e1,#[⟨.obj (f r),false,false⟩]++(#[⟨.obj (f r),true,false⟩]++new),r1,by rw[r2,ZQ,ZQ,Array.append_assoc,Array.append_assoc],r3,r4,λe he=>?_,mv.trans r6 (λi hi=>by simp only[Zi]at hi;omega)⟩
       have ow:∀wr,xN M f W0 w1.heap.size dt.heap.size ⟨.obj (f r),wr,false⟩:=λwr=>(H.vn (M':=M) hb l1 hM).elim λl n=>.obj r wr hM (XD l (by have:=r6.le;simpa using this)) (XD n.1 (by have:=r6.FA;simpa using this)) n.2;rcases YG.1 he with he|he
       · rw[Yz]at he;subst he;exact ow false
       ·rcases YG.1 he with he|he
        · rw[Yz]at he;subst he;exact ow true
        · exact r5 e he
     ·rw[g0]
      exact .inl (H.tH <| (q1 o0 O4 Y hc).run H (λ_ _ e=>by cases e) _)
 | choose q k k' h ih=>
  intro w w' es es' H h1 h2 hT hN;simp only[Sem.runT]at h1 h2 ⊢
  split
  ·rename_i hq
   rw[Xu hq]at h1 h2;exact ih 0 w w' es es' H h1 h2 hT hN
  ·rename_i hq
   rw[Xr hq]at h1 h2;have hg:=(C4 P (k' (q.cut (w'.tape w'.drawn q))) { w' with drawn:=w'.drawn+1 } es').1;simp only at hg;have ht:w.tape w.drawn q=w'.tape w'.drawn q:=by have:=hT 0 q (by omega);simpa using this
   rw[ht];have mv:Mv M f w { w with drawn:=w.drawn+1 } w' { w' with drawn:=w'.drawn+1 }:=⟨rfl,rfl,rfl,rfl,by simp;omega,by simp,rfl,Xw _,λb hb hn=>rfl,λ_ h=>h,λ_ _ _ h=>⟨_,_,h⟩⟩
   rcases ih _ { w with drawn:=w.drawn+1 } { w' with drawn:=w'.drawn+1 } es es' ⟨H.blk,H.inj,H.low,H.size,H.dd,H.zz⟩ h1 h2 (λi q hi=>by
    have:=hT (i+1) q (by simp only at hi;omega)
    rw[show w.drawn+1+i=w.drawn+(i+1) by omega,show w'.drawn+1+i=w'.drawn+(i+1) by omega];exact this) hN with h|⟨a1,b1,w1,dt,e1,new,r1,r2,r3,r4,r5,r6⟩
   ·exact .inl h
   ·exact .inr ⟨a1,b1,w1,dt,e1,new,r1,r2,r3,r4,r5,mv.trans r6 λi hi=>by simp only at hi;omega⟩
 | program k k' h ih=>intro w w' es es' H h1 h2 hT hN;exact ih w w' es es' H h1 h2 hT hN
 | room m hm k k' h ih=>
  intro w w' es es' H h1 h2 hT hN;simp only[Sem.runT]at h1 h2 ⊢;rcases ih w w' _ _ H h1 h2 hT hN with h|⟨a1,b1,w1,dt,e1,new,r1,r2,r3,r4,r5,r6⟩
  ·exact .inl h
  ·refine .inr ⟨a1,b1,w1,dt,e1,#[⟨.mark m,false,true⟩]++new,r1,by rw[r2];simp,r3,r4,λe he=>?_,r6⟩
   rcases YG.1 he with he|he
   ·rw[Yz]at he;subst he;exact .room m hm
   ·exact r5 e he
 | F8 s s' h=>
  intro w w' es es' H _ _ _ _;exact .inl (H.tH <| (h).run H (λ_ _ e=>by cases e) es)
def SX(Q P:Z4)(K:Kc)(f:Re){α β:Type}(R:α->β->Prop)(s:Sem α)(s':Sem β):Prop:=∀{M N0:Nat} {W0:W'} (F:FR M N0 f W0) {D1 N1:Nat} (w w':W') (es es':Array ϊ),WR K M f W0 w w'->
 (Result.world (s'.runT P w' es').1).drawn<=D1->(Result.world (s'.runT P w' es').1).heap.size<=N1->
 (∀i q,w'.drawn+i<D1->w.tape (w.drawn+i) q=w'.tape (w'.drawn+i) q)->(∀i,w'.heap.size+i<N1->f (w.heap.size+i)=w'.heap.size+i)->
 (∃h w1 e1,s.runT Q w es=(.halt h w1,e1)/\ig h=true/\bg w1)\/
 ∃a b w1 dt e1 new,s.runT Q w es=(.ok a w1,e1)/\s'.runT P w' es'=(.ok b dt,es'++new)/\R a b/\WR K M f W0 w1 dt/\(∀e∈new,xN M f W0 w1.heap.size dt.heap.size e)/\Mv M f w w1 w' dt
theorem SR.sx{α β:Type}{R:α->β->Prop}{s:Sem α}{s':Sem β}(h:SR Q P K f R s s'):SX Q P K f R s s':=by
 intro M N0 W0 F D1 N1 w w' es es';exact h.run F w w' es es'
def RV(f:Re):Z3->Z3->Prop:=λv v'=>v'=rV f v
def RA(f:Re):Addr->Addr->Prop:=λa a'=>a'=rA f a
structure Lk(Q P:Z4)(f:Re):Prop where
 zr:Q.toTables={ P.toTables with globals:=#[] }
 zero:∀t i v,P.info? t=some i->i.zero=some v->rV f v=v
theorem tD(T:Tables):∀(n:Nat) (t:Z5),Made.infoAt { T with globals:=#[] } n t=Made.infoAt T n t
 | 0,t=>rfl
 | n+1,t=>by
  have ih:Made.infoAt { T with globals:=#[] } n=Made.infoAt T n:=funext (tD T n);unfold Made.infoAt;rw[ih]
theorem qG{Q P:Z4}(h:Q.toTables={ P.toTables with globals:=#[] })(t:Z5):Q.info? t=P.info? t:=by
 show Tables.info? Q.toTables t=Tables.info? P.toTables t
 rw[h];unfold Tables.info?;rw[tD]
theorem nL{Q P:Z4}(h:Q.toTables={ P.toTables with globals:=#[] })(t:Z5):Q.underlying t=P.underlying t:=by unfold Program.underlying;simp only[qG h]
theorem AT{Q P:Z4}(h:Q.toTables={ P.toTables with globals:=#[] }):Q.depth=P.depth:=by unfold Program.depth;rw[h]
theorem rH{Q P:Z4}(h:Q.toTables={ P.toTables with globals:=#[] })(t:Z5):Q.cellsOf t=P.cellsOf t:=by unfold Program.cellsOf;simp only[qG h]
theorem uG{Q P:Z4}(h:Q.toTables={ P.toTables with globals:=#[] })(t:Z5):Q.bytesOf t=P.bytesOf t:=by unfold Program.bytesOf;simp only[qG h]
theorem HX{Q P:Z4}(h:Q.toTables={ P.toTables with globals:=#[] }):Q.globals.size=0:=by rw[h];rfl
theorem AZ{Q P:Z4}(h:Q.toTables={ P.toTables with globals:=#[] }):∀(d:Nat) (t off:Nat),byteOfCell Q d t off=byteOfCell P d t off
 | 0,t,off=>rfl
 | d+1,t,off=>by
  have ih:=AZ h d;unfold byteOfCell;simp only[nL h,rH h,uG h,ih]
theorem H7{Q P:Z4}(h:Q.toTables={ P.toTables with globals:=#[] }):∀(d:Nat) (t off:Nat),cellOfByte Q d t off=cellOfByte P d t off
 | 0,t,off=>rfl
 | d+1,t,off=>by
  have ih:=H7 h d;unfold cellOfByte;simp only[nL h,rH h,uG h,ih]
theorem RI{Q P:Z4}(h:Q.toTables={ P.toTables with globals:=#[] })(d e c o:Nat)(b:Int):cellAtBytes Q d e c o b=cellAtBytes P d e c o b:=by
 unfold cellAtBytes;simp only[rH h,uG h,AZ h,H7 h]
@[simp] theorem bP(b:Bool):rV f (.bool b)=.bool b:=by simp[rV]
@[simp] theorem cf(k:IntKind)(n:Int):rV f (.int k n)=.int k n:=by simp[rV]
@[simp] theorem br(k:FloatKind)(n:Nat):rV f (.float k n)=.float k n:=by simp[rV]
@[simp] theorem aR(k:FloatKind)(n m:Nat):rV f (.complex k n m)=.complex k n m:=by simp[rV]
@[simp] theorem aZ(s:ByteArray):rV f (.string s)=.string s:=by simp[rV]
@[simp] theorem aM(a:Option Addr):rV f (.pointer a)=.pointer (a.map (rA f)):=by simp[rV]
@[simp] theorem aW(a:Option Addr)(l c:Nat):rV f (.slice a l c)=.slice (a.map (rA f)) l c:=by simp[rV]
@[simp] theorem cq(r:Option Nat):rV f (.map r)=.map (r.map f):=by simp[rV]
@[simp] theorem bM(r:Option Nat):rV f (.chan r)=.chan (r.map f):=by simp[rV]
@[simp] theorem bK(fn:Fn)(a b:Array Z3):rV f (.func fn a b)=.func (rFn f fn) (a.map (rV f)) (b.map (rV f)):=by simp[rV]
@[simp] theorem aU:rV f .nilFunc=.nilFunc:=by simp[rV]
@[simp] theorem bq(t:Z5)(v:Z3):rV f (.iface t v)=.iface t (rV f v):=by simp[rV]
@[simp] theorem aO:rV f .nilIface=.nilIface:=by simp[rV]
@[simp] theorem cg(cs:Array Z3):rV f (.agg cs)=.agg (cs.map (rV f)):=by simp[rV]
@[simp] theorem bl(cs:Array Z3):rV f (.tuple cs)=.tuple (cs.map (rV f)):=by simp[rV]
@[simp] theorem qi:rV f undef=undef:=by simp[undef]
theorem qj(v:Z3):(rV f v).cells=v.cells.map (rV f):=by cases v<;>simp[Value.cells]
theorem mU(a:Addr)(n:Nat):rA f (a.add n)=(rA f a).add n:=by unfold rA Addr.add;split<;>rfl
@[simp] theorem Qc(a:Addr):(rA f a).spot=a.spot:=rfl
@[simp] theorem Lj(a:Addr):(rA f a).off=a.off:=rfl
@[simp] theorem B4(a:Addr):(rA f a).block=f a.block:=rfl
theorem SR.dR{α β γ δ:Type}{R:α->β->Prop}{R':γ->δ->Prop}{s:Sem α}{s':Sem β}{k:α->Sem γ}{k':β->Sem δ}
 (h:SR Q P K f R s s') (hk:∀a b,R a b->SR Q P K f R' (k a) (k' b)):SR Q P K f R' (s >>= k) (s' >>= k'):=h.bind hk
theorem SR.aS{α γ δ:Type}{R':γ->δ->Prop}{s s':Sem α}{k:α->Sem γ}{k':α->Sem δ}
 (h:SR Q P K f Eq s s') (hk:∀a,SR Q P K f R' (k a) (k' a)):SR Q P K f R' (s >>= k) (s' >>= k'):=h.bind λa b e=>e ▸ hk a
theorem SR.mC{γ δ:Type}{R':γ->δ->Prop}{s s':Sem Z3}{k:Z3->Sem γ}{k':Z3->Sem δ}
 (h:SR Q P K f (RV f) s s') (hk:∀a,SR Q P K f R' (k a) (k' (rV f a))):SR Q P K f R' (s >>= k) (s' >>= k'):=h.bind λa b e=>by cases e;exact hk a
theorem SR.ret{α β:Type}{R:α->β->Prop}{a:α}{b:β}(h:R a b):SR Q P K f R (Pure.pure a) (Pure.pure b):=.pure a b h
theorem SR.db{α:Type}{a:α}:SR Q P K f Eq (Pure.pure a) (Pure.pure a):=.pure a a E
theorem SR.cE{v v':Z3}(h:v'=rV f v):SR Q P K f (RV f) (Pure.pure v) (Pure.pure v'):=.pure _ _ h
theorem SR.dm{α β:Type}{R:α->β->Prop}{s:Sem α}{s':Sem β}(h:DM Q none s):SR Q P K f R s s':=.F8 _ _ h
theorem DM.dR{α β:Type}{d:Option (Nat × Bool)}{s:Sem α}(h:DM Q d s)(k:α->Sem β):DM Q d (s >>= k):=h.bind k
theorem DM.st{α:Type}{d:Option (Nat × Bool)}{s:String}:DM Q d (stuck s:Sem α):=.halt _ _ E
theorem DM.un{α:Type}{d:Option (Nat × Bool)}{u:Unsupported}(h:ig (.unsupported u)=true):DM Q d (unsupported u:Sem α):=.halt _ _ h
theorem DM.pg{α:Type}{d:Option (Nat × Bool)}{k:Z4->Sem α}(h:DM Q d (k Q)):DM Q d (Go.program >>= k):=.program _ _ h
def Uu:RuntimeError->Bool
 | .typeAssertion .. | .panicNil=>false
 | _=>true
theorem DM.rp{α:Type}{d:Option (Nat × Bool)}{e:RuntimeError}(h:Uu e=true):DM Q d (runtimePanic e:Sem α):=by
 unfold runtimePanic;refine .pg ?_
 cases e<;>first|exact .halt _ _ E|cases h
theorem DM.bp{α:Type}{d:Option (Nat × Bool)}{k:IntKind}{x y:Int}{c:BoundsCode}:DM Q d (boundsPanic k x y c:Sem α):=by
 unfold boundsPanic
 split
 ·refine .choose _ _ _ λn=>?_
  simp only[bind,pure,Sem.bind,Function.comp];refine DM.rp ?_;rfl
 ·exact(show DM Q d (runtimePanic (.bounds (IntKind.i64.wrap x) y (k != .u64) c)) from by refine DM.rp ?_;rfl)
theorem mL(L:Lk Q P f)(t:Z5):SR Q P K f (λi i'=>i=i'/\P.info? t=some i) (typeInfo t) (typeInfo t):=by
 unfold typeInfo;refine .program _ _ ?_;show SR Q P K f _ (match Q.info? t with|some i=>Pure.pure i|none=>stuck "no such type") (match P.info? t with|some i=>Pure.pure i|none=>stuck "no such type")
 rw[qG L.zr]
 cases P.info? t with
 | none=>exact .dm .st
 | some i=>exact .pure _ _ ⟨rfl,rfl⟩
theorem kk(L:Lk Q P f)(t:Z5):SR Q P K f Eq (typeInfo t) (typeInfo t):=(mL L t).imp λ_ _ h=>h.1
theorem eH(L:Lk Q P f)(t:Z5):SR Q P K f (λi i'=>i=i'/\P.underlying t=some i) (underlying t) (underlying t):=by
 unfold underlying;refine .program _ _ ?_;show SR Q P K f _ (match Q.underlying t with|some i=>Pure.pure i|none=>stuck "no such type") (match P.underlying t with|some i=>Pure.pure i|none=>stuck "no such type")
 rw[nL L.zr]
 cases P.underlying t with
 | none=>exact .dm .st
 | some i=>exact .pure _ _ ⟨rfl,rfl⟩
theorem dY(L:Lk Q P f)(t:Z5):SR Q P K f Eq (underlying t) (underlying t):=(eH L t).imp λ_ _ h=>h.1
theorem GY(L:Lk Q P f)(t:Z5):SR Q P K f (RV f) (zeroValue t) (zeroValue t):=by
 unfold zeroValue;refine(mL L t).dR λi i' ⟨e,h⟩=>?_;subst e
 cases hz:i.zero with
 | none=>exact .dm (.un E)
 | some v=>exact .cE (L.zero t i v h hz).symm
theorem G1(L:Lk Q P f)(t:Z5):SR Q P K f (λv v'=>v=v'/\rV f v=v) (zeroValue t) (zeroValue t):=by
 unfold zeroValue;refine(mL L t).dR λi i' ⟨e,h⟩=>?_;subst e
 cases hz:i.zero with
 | none=>exact .dm (.un E)
 | some v=>exact .ret ⟨rfl,L.zero t i v h hz⟩
theorem dx(L:Lk Q P f)(t:Z5):SR Q P K f Eq (sizeOf t) (sizeOf t):=(kk L t).aS λi=>.db
theorem BP(L:Lk Q P f)(t:Z5):SR Q P K f Eq (isAgg t) (isAgg t):=(dY L t).aS λi=>by cases i<;>exact .db
theorem lj(a:Addr):∀(n i:Nat) (acc:Array Z3),SR Q P K f (λx x'=>x'=x.map (rV f)) (loadCellsFrom a i n acc) (loadCellsFrom (rA f a) i n (acc.map (rV f)))
 | 0,i,acc=>.ret E
 | n+1,i,acc=>by
  unfold loadCellsFrom;rw[<-mU];refine .load _ _ _ λv=>?_;have:=lj a n (i+1) (acc.push v);rw[Array.map_push]at this;exact this
theorem p9(a:Addr)(n:Nat):SR Q P K f (λx x'=>x'=x.map (rV f)) (loadCells a n) (loadCells (rA f a) n):=by
 have:=lj (Q:=Q) (P:=P) (K:=K) (f:=f) a n 0 #[];simpa [loadCells] using this
theorem lP(L:Lk Q P f)(t:Z5)(a:Addr):SR Q P K f (RV f) (loadVar t a) (loadVar t (rA f a)):=by
 unfold loadVar;refine(BP L t).aS λb=>?_
 cases b with
 | true=>exact(dx L t).aS λn=>(p9 a n).dR λx x' e=>by cases e;exact .cE (by simp)
 | false=>exact .load _ _ _ λv=>.pure _ _ E
theorem kK(a:Addr):∀(vs:List Z3) (i:Nat),SR Q P K f Eq (storeCells a vs i) (storeCells (rA f a) (vs.map (rV f)) i)
 | [],i=>.db
 | v::vs,i=>by
  rw[Yd];unfold storeCells;rw[<-mU];have:=kK a vs (i+1);refine SR.bind (R:=λ_ _=>True) (.store _ _ _ _ (.pure _ _ trivial)) λ_ _ _=>this
theorem BK(L:Lk Q P f)(t:Z5)(a:Addr)(v:Z3):SR Q P K f Eq (storeVar t a v) (storeVar t (rA f a) (rV f v)):=by
 unfold storeVar;refine(dx L t).aS λn=>?_;rw[qj,ZZ];by_cases h:v.cells.size≠n
 ·simp only[Xu h];exact .dm (DM.dR .st _)
 ·simp only[Xr h]
  have:=kK (Q:=Q) (P:=P) (K:=K) (f:=f) a v.cells.toList 0;simpa using this
theorem nN(e:Z5)(c:Array Z3):SR Q P K f (RA f) (newRow e c) (newRow e (c.map (rV f))):=by
 unfold newRow;exact .new _ _ _ _ (.cells _ _ _ _ λo _ h1 h2=>by simp at h2) (λ_ _ _ _ _ _ h h'=>by cases h;cases h';rfl) λr=>.pure _ _ E
theorem x4(t:Z5)(v:Z3):SR Q P K f (RA f) (newVar t v) (newVar t (rV f v)):=by
 unfold newVar;rw[qj];exact nN t _
theorem kh(L:Lk Q P f)(t:Z5)(cs:Array Z3)(off:Nat):SR Q P K f (RV f) (part t cs off) (part t (cs.map (rV f)) off):=by
 unfold part;refine(BP L t).aS λb=>?_
 cases b with
 | true=>exact(dx L t).aS λn=>.cE (by simp)
 | false=>
  simp only[Yl]
  cases cs[off]? with
  | none=>exact .dm .st
  | some v=>exact .cE E
theorem lQ(v:Z3):SR Q P K f Eq (asIntOf v) (asIntOf (rV f v)):=by
 cases v<;>simp[asIntOf]<;>first|exact .db|exact .dm .st|skip
 rename_i a
 cases a<;>simp<;>first|exact .dm .st|exact .dm (.un E)
theorem qa(v:Z3):SR Q P K f Eq (asInt v) (asInt (rV f v)):=(lQ v).aS λx=>.db
theorem x8(v:Z3):SR Q P K f Eq (asBool v) (asBool (rV f v)):=by
 cases v<;>simp[asBool]<;>first|exact .db|exact .dm .st
theorem KT(v:Z3):SR Q P K f (λx x'=>x'=x.map (rV f)) (asAgg v) (asAgg (rV f v)):=by
 cases v<;>simp[asAgg]<;>first|exact .ret E|exact .dm .st
theorem nO(v:Z3):SR Q P K f (RA f) (asAddr v) (asAddr (rV f v)):=by
 cases v<;>simp[asAddr]<;>first|exact .dm .st|skip
 rename_i a
 cases a<;>simp<;>first|exact .dm (.rp E)|exact .ret E
theorem kg(v:Z3):SR Q P K f (RA f) (Instr.sureAddr v) (Instr.sureAddr (rV f v)):=by
 cases v<;>simp[Instr.sureAddr]<;>first|exact .dm .st|skip
 rename_i a
 cases a<;>simp<;>first|exact .dm .st|exact .ret E
theorem II(L:Lk Q P f)(t:Z5)(v:Z3):SR Q P K f (RV f) (Instr.loadAt t v) (Instr.loadAt t (rV f v)):=
 (kg v).dR λa a' e=>by cases e;exact lP L t a
theorem EN(L:Lk Q P f)(t:Z5)(v x:Z3):SR Q P K f Eq (Instr.storeAt t v x) (Instr.storeAt t (rV f v) (rV f x)):=
 (kg v).dR λa a' e=>by cases e;exact BK L t a x
theorem KU(L:Lk Q P f)(t:Z5):SR Q P K f (RV f) (Instr.alloc t true (.tuple #[])) (Instr.alloc t true (.tuple #[])):=by
 unfold Instr.alloc;refine(GY L t).mC λz=>?_;exact(x4 t z).dR λa a' e=>by cases e;exact .cE (by simp)
theorem Ua(t:Z5)(v:Z3):SR Q P K f (RV f) (Instr.box t v) (Instr.box t (rV f v)):=
 (x4 t v).dR λa a' e=>by cases e;exact .cE (by simp)
theorem OK{γ δ:Type}{R':γ->δ->Prop}{r:Nat}{k:Option (Addr × Z5)->Sem γ}{k':Option (Addr × Z5)->Sem δ}(h:SR Q P K f R' (k none) (k' none))(J:∀x,DM Q (some (r,true)) (k (some x))) :
  SR Q P K f R' (viewAt r >>= k) (viewAt (f r) >>= k'):=by
 unfold viewAt;refine .shape _ _ _ (λe n=>h) ?_ ?_
 ·refine .getObj _ _ _ (λo o' ho=>?_) (J _)
  cases ho<;>exact h
 ·intro b
  cases b with
  | true=>exact .n8 _ _ (J _)
  | false=>exact .qR _ _
theorem IH(a:Addr):SR Q P K f Eq (noView a) (noView (rA f a)):=by
 unfold noView;refine OK ?_ λx=>?_
 ·exact .db
 ·exact DM.un E
theorem BM{γ δ:Type}{R':γ->δ->Prop}{r:Nat}{k:Option (Addr × Bool)->Sem γ}{k':Option (Addr × Bool)->Sem δ}(h:SR Q P K f R' (k none) (k' none))(h2:∀a b,SR Q P K f R' (k (some (a,b))) (k' (some (rA f a,b))))
  (J:DM Q (some (r,true)) (k none)):SR Q P K f R' (numberAt r >>= k) (numberAt (f r) >>= k'):=by
 unfold numberAt;refine .shape _ _ _ (λe n=>h) ?_ ?_
 ·refine .getObj _ _ _ (λo o' ho=>?_) J
  cases ho<;>first|exact h|exact h2 _ _
 ·intro b
  cases b with
  | true=>exact .n8 _ _ J
  | false=>exact .qR _ _
theorem DM.ite{α:Type}{d:Option (Nat × Bool)}{c:Prop}[Decidable c]{a b:Sem α}(h1:DM Q d a)(h2:DM Q d b):DM Q d (if c then a else b):=by split<;>assumption
theorem BO{α β:Type}{g:α->Sem β}:∀{xs:List α},(∀x∈xs,SR Q P K f Eq (g x) (g x))->SR Q P K f Eq (xs.mapM g) (xs.mapM g)
 | [],_=>by simp only[List.mapM_nil];exact .db
 | x::xs,h=>by
  simp only[List.mapM_cons];exact(h x (by simp)).aS λy=>(BO λz hz=>h z (by simp[hz])).aS λys=>.db
theorem PN{α β:Type}{g:α->Sem β}{xs:Array α}(h:∀x∈xs,SR Q P K f Eq (g x) (g x)):SR Q P K f Eq (xs.mapM g) (xs.mapM g):=by
 rw[Array.mapM_eq_mapM_toList];rw[map_eq_pure_bind];exact(BO λx hx=>h x (by simpa using hx)).aS λys=>.db
theorem wD(place:Nat->Option (Nat × Nat)):∀(parts:List (Nat × Z3)) (cells:Array Z3),Instr.fill place (cells.map (rV f)) (parts.map λx=>(x.1,rV f x.2))=(Instr.fill place cells parts).map (·.map (rV f))
 | [],cells=>by simp[Instr.fill]
 | (i,v)::rest,cells=>by
  simp only[Yd,Instr.fill]
  cases place i with
  | none=>rfl
  | some os=>
   have⟨off,size⟩:=os;simp only[qj,ZZ]
   split
   ·rfl
   ·rw[<-wD place rest]
    congr 1
    have:∀(l:List (Z3 × Nat)) (cs:Array Z3),(l.map λx=>(rV f x.1,x.2)).foldl (λcs x=>cs.setIfInBounds (off+x.2) x.1) (cs.map (rV f))=(l.foldl (λcs x=>cs.setIfInBounds (off+x.2) x.1) cs).map (rV f):=by
     intro l
     induction l with
     | nil=>intro cs;rfl
     | cons x l ih=>intro cs;simp only[Yd,List.foldl_cons];rw[<-ih];simp
    have h2:=this v.cells.zipIdx.toList cells;rw[<-Zb,<-Zb,<-h2];congr 1;simp[Array.toList_zipIdx,List.zipIdx_map]
theorem sr_indexAt(L:Lk Q P f)(t:Z5)(x i:Z3):SR Q P K f (RV f) (Instr.indexAt t x i) (Instr.indexAt t (rV f x) (rV f i)):=by
 unfold Instr.indexAt;refine(lQ i).aS λki=>?_;have⟨k,n⟩:=ki;simp only;refine(dY L t).aS λd=>?_
 have fin:∀(base:Option Addr) (len:Nat) (elem:Z5),SR Q P K f (RV f)
   (do let TW := len <= 1 && (match <- underlying t with | .array .. => true | _ => false)
       match base with
       | some a=>if 0<=n/\n<len then Pure.pure (Value.pointer (some (a.add (n.toNat*(<-sizeOf elem))))) else if TW then unsupported (.noEntry "op/indexAddr.an index out of range at an array of length 0 or 1 (ledger 616)") else boundsPanic k n len .index
       | none=>boundsPanic k n 0 .index)
   (do let TW := len <= 1 && (match <- underlying t with | .array .. => true | _ => false)
       match base.map (rA f) with
       | some a=>if 0<=n/\n<len then Pure.pure (Value.pointer (some (a.add (n.toNat*(<-sizeOf elem))))) else if TW then unsupported (.noEntry "op/indexAddr.an index out of range at an array of length 0 or 1 (ledger 616)") else boundsPanic k n len .index
       | none=>boundsPanic k n 0 .index):=by
  intro base len elem;refine(dY L t).aS λd=>?_
  cases base with
  | none=>exact .dm .bp
  | some a=>
   simp only[XB];by_cases hc:0<=n/\n<len
   ·simp only[Xu hc]
    exact(dx L elem).aS λm=>.cE (by simp[mU])
   ·simp only[Xr hc]
    exact .dm (.ite (.un E) .bp)
 cases d<;>cases x<;>simp only[aM,aW,bP,cf,br,aR,aZ,cq,bM,bK,aU,bq,aO,cg,bl]<;>first|exact .dm (DM.dR .st _)|exact fin _ _ _|skip
 all_goals
  rename_i len elem a
  cases a with
  | none=>exact .dm (DM.dR .st _)
  | some a=>exact fin (some a) len elem
theorem jo{v:Z3}(h:rV f v=v):v.cells.map (rV f)=v.cells:=by rw[<-qj,h]
theorem KR(L:Lk Q P f)(t:Z5)(parts:Array (Nat × Z3)):SR Q P K f (RV f) (Instr.build t parts) (Instr.build t (parts.map λx=>(x.1,rV f x.2))):=by
 unfold Instr.build;refine(G1 L t).dR λz z' ⟨e,hz⟩=>?_;subst e
 have hf:∀place,Instr.fill place z.cells (parts.map λx=>(x.1,rV f x.2)).toList=(Instr.fill place z.cells parts.toList).map (·.map (rV f)):=λplace=>by
  have:=wD (f:=f) place parts.toList z.cells;rw[jo hz]at this;simpa using this
 refine(dY L t).aS λd=>?_
 cases d with
 | struct fs=>
  refine(PN λx hx=>(dx L x.type).aS λn=>.db).aS λplaces=>?_;simp only[hf]
  cases Instr.fill (λx=>places[x]?) z.cells parts.toList with
  | none=>exact .dm .st
  | some c=>exact .cE (by simp)
 | array n elem=>
  refine(dx L elem).aS λsize=>?_;simp only[hf]
  cases Instr.fill (λi=>some (i*size,size)) z.cells parts.toList with
  | none=>exact .dm .st
  | some c=>exact .cE (by simp)
 | _=>exact .dm .st
theorem sB{z:Array Z3}(hz:z.map (rV f)=z)(n:Nat):((Array.range n).map λi=>z[i % z.size]!).map (rV f)=(Array.range n).map λi=>z[i % z.size]!:=by
 rw[Array.map_map];apply Zk;intro i hi;simp only[Function.comp];have h:=congrArg (λa=>a[i % z.size]?) hz;simp only[Yl]at h;rw[getElem!_def]
 cases hv:z[i % z.size]? with
 | none=>show rV f default=default;simp[default,instInhabitedValue.default]
 | some v=>rw[hv]at h;simpa using h
theorem xd(L:Lk Q P f)(t:Z5)(len:Nat)(parts:Array (Nat × Z3)):SR Q P K f (RV f) (Instr.buildSlice t len parts) (Instr.buildSlice t len (parts.map λx=>(x.1,rV f x.2))):=by
 unfold Instr.buildSlice;refine(dY L t).aS λd=>?_
 cases d with
 | slice elem=>?_
 | _=>exact .dm .st
 refine(dx L elem).aS λsize=>?_;simp only;by_cases h1:len*size > 2 ^ 24
 ·simp only[Xu h1];exact .dm (DM.dR (.un E) _)
 ·simp only[Xr h1]
  have fin:∀z:Array Z3,z.map (rV f)=z->SR Q P K f (RV f)
    (do let some cells := Instr.fill (λi => some (i * size, size)) ((Array.range (len * size)).map (z[· % z.size]!)) parts.toList | stuck "buildSlice: a part of the wrong size"
        Pure.pure (Value.slice (some (<-newRow elem cells)) len len))
    (do let some cells := Instr.fill (λi => some (i * size, size)) ((Array.range (len * size)).map (z[· % z.size]!)) (parts.map λx => (x.1, rV f x.2)).toList | stuck "buildSlice: a part of the wrong size"
        Pure.pure (Value.slice (some (<-newRow elem cells)) len len)):=by
   intro z hz;have:=wD (f:=f) (λi=>some (i*size,size)) parts.toList ((Array.range (len*size)).map (z[· % z.size]!));rw[sB hz]at this;have h2:Instr.fill (λi=>some (i*size,size)) ((Array.range (len*size)).map (z[· % z.size]!)) (parts.map λx=>(x.1,rV f x.2)).toList=(Instr.fill (λi=>some (i*size,size)) ((Array.range (len*size)).map (z[· % z.size]!)) parts.toList).map (·.map (rV f)):=by simpa using this
   rw[h2]
   cases Instr.fill (λi=>some (i*size,size)) ((Array.range (len*size)).map (z[· % z.size]!)) parts.toList with
   | none=>exact .dm .st
   | some c=>exact(nN elem c).dR λa a' e=>by cases e;exact .cE (by simp)
  by_cases h3:len*size=0
  ·simp only[Xu h3]
   exact fin #[] (by simp)
  ·simp only[Xr h3]
   exact(G1 L elem).dR λz z' ⟨e,hz⟩=>by
    subst e;exact fin z.cells (jo hz)
theorem ET(v:Z3)(i:Nat):SR Q P K f (RV f) (Instr.extract v i) (Instr.extract (rV f v) i):=by
 cases v<;>simp[Instr.extract]<;>first|exact .dm .st|skip
 rename_i vs
 cases vs[i]? with
 | none=>exact .dm .st
 | some v=>exact .cE E
theorem aV8(L:Lk Q P f)(ts:Array Z5)(t:Z5)(args:Array Z3):SR Q P K f (RV f) (Builtin.len_ ts t args) (Builtin.len_ ts t (args.map (rV f))):=by
 unfold Builtin.len_;simp only[Yl]
 cases ts[0]? with
 | none=>exact .dm .st
 | some t=>
  cases args[0]? with
  | none=>exact .dm .st
  | some x=>
   simp only[XB];refine(dY L t).aS λd=>?_
   cases d<;>cases x<;>simp[goInt]<;>first|exact .dm .st|exact .cE (by simp)|exact(dY L _).aS λd=>(by cases d<;>first|exact .dm .st|exact .cE (by simp))|skip
   all_goals
    rename_i r
    cases r with
    | none=>exact .cE (by simp)
    | some r=>exact .getObj _ _ _ (λo o' ho=>by cases ho<;>first|exact .dm .st|exact .cE (by simp[goInt])) .st
theorem PK(ts:Array Z5)(t:Z5)(args:Array Z3):SR Q P K f (RV f) (Builtin.real_ ts t args) (Builtin.real_ ts t (args.map (rV f))):=by
 have⟨l⟩:=args;simp only[YK]
 match l with
 | []=>exact .dm .st
 | [x]=>cases x<;>first|exact .dm .st|exact .cE (by simp)|(simp;first|exact .dm .st|exact .cE (by simp))
 | _::_::_=>exact .dm .st
theorem PO(ts:Array Z5)(t:Z5)(args:Array Z3):SR Q P K f (RV f) (Builtin.imag_ ts t args) (Builtin.imag_ ts t (args.map (rV f))):=by
 have⟨l⟩:=args;simp only[YK]
 match l with
 | []=>exact .dm .st
 | [x]=>cases x<;>first|exact .dm .st|exact .cE (by simp)|(simp;first|exact .dm .st|exact .cE (by simp))
 | _::_::_=>exact .dm .st
theorem vcs{p:Z3->Prop}(h1:∀b,p (.bool b))(h2:∀k n,p (.int k n))(h3:∀k n,p (.float k n))(h4:∀k n m,p (.complex k n m))(h5:∀s,p (.string s))(h6:p (.pointer none))(h7:∀a,p (.pointer (some a)))
  (h8:∀a l c,p (.slice a l c)) (h9:∀r,p (.map r)) (h10:∀r,p (.chan r)) (h11:∀fn a b,p (.func fn a b)) (h12:p .nilFunc) (h13:∀t v,p (.iface t v)) (h14:p .nilIface) (h15:∀cs,p (.agg cs)) (h16:∀cs,p (.tuple cs)) (v:Z3):p v:=by
 cases v with
 | pointer a=>cases a with
  | none=>exact h6
  | some a=>exact h7 a
 | bool b=>exact h1 b
 | int k n=>exact h2 k n
 | float k n=>exact h3 k n
 | complex k n m=>exact h4 k n m
 | string s=>exact h5 s
 | slice a l c=>exact h8 a l c
 | map r=>exact h9 r
 | chan r=>exact h10 r
 | func fn a b=>exact h11 fn a b
 | nilFunc=>exact h12
 | iface t v=>exact h13 t v
 | nilIface=>exact h14
 | agg cs=>exact h15 cs
 | tuple cs=>exact h16 cs
theorem BJ(op:BinOp)(x y:ByteArray):SR Q P K f (RV f) (Op.stringOp op x y) (Op.stringOp op x y):=by
 unfold Op.stringOp
 cases op<;>simp only<;>first|exact .cE (by simp)|exact .dm .st|skip
 split
 ·exact .dm (.un E)
 ·exact .cE (by simp)
theorem PM(x y:Z3):SR Q P K f (RV f) (Builtin.max2 x y) (Builtin.max2 (rV f x) (rV f y)):=by
 have hf:∀k a b,SR Q P K f (RV f) (Builtin.max2 (.float k a) (.float k b)) (Builtin.max2 (.float k a) (.float k b)):=λk a b=>by
  unfold Builtin.max2;simp only
  cases k.format.order a b with
  | none=>exact .choose _ _ _ λn=>.cE (by simp)
  | some o=>cases o<;>exact .cE (by simp)
 induction x using vcs<;>induction y using vcs<;>simp only[bP,cf,br,aR,aZ,aM,aW,cq,bM,bK,aU,bq,aO,cg,bl,XR,XB]<;>
  first|exact .dm .st|exact .dm (.un E)|exact .cE (by simp)|exact hf _ _ _
theorem sk{g:Z3->Z3->Sem Z3}(h:∀x y,SR Q P K f (RV f) (g x y) (g (rV f x) (rV f y))):∀(l:List Z3) (x:Z3),SR Q P K f (RV f) (l.foldlM g x) ((l.map (rV f)).foldlM g (rV f x))
 | [],x=>.cE E
 | y::l,x=>by
  simp only[Yd,List.foldlM_cons];exact(h x y).mC λz=>sk h l z
theorem PL(x y:Z3):SR Q P K f (RV f) (Builtin.min2 x y) (Builtin.min2 (rV f x) (rV f y)):=by
 have hf:∀k a b,SR Q P K f (RV f) (Builtin.min2 (.float k a) (.float k b)) (Builtin.min2 (.float k a) (.float k b)):=λk a b=>by
  unfold Builtin.min2;simp only
  cases k.format.order a b with
  | none=>exact .choose _ _ _ λn=>.cE (by simp)
  | some o=>cases o<;>exact .cE (by simp)
 induction x using vcs<;>induction y using vcs<;>simp only[bP,cf,br,aR,aZ,aM,aW,cq,bM,bK,aU,bq,aO,cg,bl,XR,XB]<;>
  first|exact .dm .st|exact .dm (.un E)|exact .cE (by simp)|exact hf _ _ _
theorem aV7(ts:Array Z5)(t:Z5)(args:Array Z3):SR Q P K f (RV f) (Builtin.max_ ts t args) (Builtin.max_ ts t (args.map (rV f))):=by
 have⟨l⟩:=args
 cases l with
 | nil=>exact .dm .st
 | cons x l=>simp only[YK,Builtin.max_,Yd];exact sk PM l x
theorem aV6(ts:Array Z5)(t:Z5)(args:Array Z3):SR Q P K f (RV f) (Builtin.min_ ts t args) (Builtin.min_ ts t (args.map (rV f))):=by
 have⟨l⟩:=args
 cases l with
 | nil=>exact .dm .st
 | cons x l=>simp only[YK,Builtin.min_,Yd];exact sk PL l x
theorem KI(op:UnOp)(x:Z3):SR Q P K f (RV f) (Op.unary op x) (Op.unary op (rV f x)):=by
 cases op<;>induction x using vcs<;>simp only[bP,cf,br,aR,aZ,aM,aW,cq,bM,bK,aU,bq,aO,cg,bl,XR,XB]<;>first|exact .dm .st|exact .dm (.un E)|exact .cE (by simp)
theorem NJ(k:FloatKind)(b:Nat)(d:IntKind):SR Q P K f (RV f) (Conv.floatToInt k b d) (Conv.floatToInt k b d):=by
 unfold Conv.floatToInt;simp only;have any:SR Q P K f (RV f) (do Pure.pure (Value.int d (d.wrap (<-choose (.floatToInt k b d))))) (do Pure.pure (Value.int d (d.wrap (<-choose (.floatToInt k b d))))):=.choose _ _ _ λn=>.cE (by simp)
 split
 ·split
  ·exact .cE (by simp)
  ·exact any
 ·exact any
theorem EV(L:Lk Q P f)(src dst:Z5)(x:Z3)(J:∀d,P.underlying dst=some d->∃k,d=.int k)(hs:∀d,P.underlying src=some d->(∃k,d=.int k)\/∃k,d=.float k):SR Q P K f (RV f) (convert src dst x) (convert src dst (rV f x)):=by
 unfold convert;refine(eH L src).dR λs s' ⟨e,h⟩=>?_;subst e;refine(eH L dst).dR λd d' ⟨e,h'⟩=>?_;subst e;obtain⟨k,rfl⟩:=J _ h';rcases hs _ h with ⟨j,rfl⟩|⟨j,rfl⟩<;>induction x using vcs<;>simp only[bP,cf,br,aR,aZ,aM,aW,cq,bM,bK,aU,bq,aO,cg,bl,XR,XB]<;>first|exact .dm .st|exact .dm (.un E)|exact .cE (by simp)|exact NJ _ _ _
theorem kL(size n:Nat)(v:Z3):SR Q P K f (λx x'=>x'=x.map (rV f)) (Builtin.firstCells size n v) (Builtin.firstCells size n (rV f v)):=by
 induction v using vcs<;>simp only[bP,cf,br,aR,aZ,aM,aW,cq,bM,bK,aU,bq,aO,cg,bl,XR,XB]<;>first|exact .dm .st|skip
 ·refine .ret ?_
  rw[Array.map_map];congr 1;funext b;simp
 rename_i a l c
 cases a with
 | none=>exact .ret (by simp)
 | some a=>exact p9 a _
theorem KL(v:Z3):SR Q P K f Eq (Builtin.lenOf v) (Builtin.lenOf (rV f v)):=by
 induction v using vcs<;>simp only[bP,cf,br,aR,aZ,aM,aW,cq,bM,bK,aU,bq,aO,cg,bl,XR,XB]<;>first|exact .dm .st|exact .db
theorem uS(n:Nat):SR Q P K f Eq (askRoom n) (askRoom n):=by
 unfold askRoom
 split
 ·exact .room _ E _ _ (.pure _ _ E)
 ·exact .db
theorem MJ{z:Array Z3}(hz:z.map (rV f)=z)(n:Nat):(Builtin.zeroCells z n).map (rV f)=Builtin.zeroCells z n:=sB hz _
theorem DM.hc{α:Type}{a:Addr}{n:Nat}{k:Bool->Sem α}(h:∀b,DM Q none (k b)):DM Q none (Builtin.holdsCells a n >>= k):=by
 refine .shape _ _ _ λx=>?_
 cases x<;>exact h _
theorem DM.ms{size l n:Nat}{base:Option Addr}{x:Z3}{α:Type}{k:Bool->Sem α}(h:∀b,DM Q none (k b)):DM Q none (Builtin.mayShare size l n base x >>= k):=by
 have fin : ∀ there : Bool, DM Q none ((if !there then Pure.pure true else match x with
   | .slice (some b) _ _=>do Pure.pure (!(<-Builtin.holdsCells b (n*size))||base.any (·.block==b.block))
   | _=>Pure.pure false:Sem Bool) >>= k):=by
  intro there
  cases there with
  | false=>exact h _
  | true=>
   cases x<;>try exact h _
   rename_i a _ _
   cases a with
   | none=>exact h _
   | some b=>simp only[Y1,XO,YC,bind_assoc];exact .hc λb=>h _
 unfold Builtin.mayShare
 cases base with
 | none=>exact fin true
 | some a=>
  simp only[bind_assoc];refine .hc λb=>?_;exact .frozen _ _ _ λb=>fin _
theorem IL(L:Lk Q P f)(ts:Array Z5)(t:Z5)(args:Array Z3)(hn:∃x e,ts[1]?=some x/\P.underlying x=some (.slice e)):SR Q P K f (RV f) (Builtin.append_ ts t args) (Builtin.append_ ts t (args.map (rV f))):=by
  unfold Builtin.append_;simp only[Yl]
  cases ts[0]? with
  | none=>exact .dm .st
  | some st=>
  cases args[0]? with
  | none=>exact .dm .st
  | some s=>
  cases args[1]? with
  | none=>exact .dm .st
  | some x=>
  simp only[XB];refine(dY L st).aS λd=>?_
  cases d with
  | slice elem=>?_
  | _=>exact .dm .st
  simp only
  cases s with
  | slice base l c=>?_
  | _=>simp only[bP,cf,br,aR,aZ,aM,aW,cq,bM,bK,aU,bq,aO,cg,bl,XR,XB];exact .dm .st
  simp only[aW];refine(dx L elem).aS λsize=>?_;obtain⟨xt,e2,hx,hn⟩:=hn;simp only[hx];refine(eH L xt).dR λd d' ⟨e,h⟩=>?_;subst e;rw[hn]at h
  cases h
  simp only[pure_bind,XO,YC,ZG,Yp,false_or];refine(KL x).aS λn=>?_;by_cases hc:l+n<=c
  · simp only[Xu hc]
    refine(kL size n x).dR λnew aw8 e=>?_
    cases e
    cases base with
    | none=>exact .cE (by simp)
    | some a=>
      simp only[XB];rw[<-mU,Array.toList_map];exact(kK (a.add (l*size)) new.toList 0).aS λ_=>.cE (by simp)
  · simp only[Xr hc]
    refine(kk L elem).aS λi=>?_
    have tail:SR Q P K f (RV f)
       (do let eb <- choose (Question.appendCap (l + n) c elem)
           let i <-typeInfo elem
           askRoom (eb*i.bytes)
           let old <-Builtin.firstCells size l (Value.slice base l c)
           let new <-Builtin.firstCells size n x
           let z <-zeroValue elem
           let r <-newRow elem (old++new++Builtin.zeroCells z.cells (eb - (l+n)))
           Pure.pure (Value.slice (some r) (l+n) eb))
       (do let eb <- choose (Question.appendCap (l + n) c elem)
           let i <-typeInfo elem
           askRoom (eb*i.bytes)
           let old <-Builtin.firstCells size l (Value.slice (base.map (rA f)) l c)
           let new <-Builtin.firstCells size n (rV f x)
           let z <-zeroValue elem
           let r <-newRow elem (old++new++Builtin.zeroCells z.cells (eb - (l+n)))
           Pure.pure (Value.slice (some r) (l+n) eb)):=by
      refine .choose _ _ _ λcap=>?_;refine(kk L elem).aS λi=>(uS _).aS λ_=>?_;have h1:=kL (Q:=Q) (P:=P) (K:=K) (f:=f) size l (Value.slice base l c);rw[aW]at h1;refine h1.dR λold aH4 e=>?_
      cases e
      refine(kL size n x).dR λnew aw8 e=>?_
      cases e
      refine(G1 L elem).dR λz z' ⟨e,hz⟩=>?_;subst e;have h2:=nN (Q:=Q) (P:=P) (K:=K) (f:=f) elem (old++new++Builtin.zeroCells z.cells (cap - (l+n)));rw[ZH,ZH,MJ (jo hz)]at h2;refine h2.dR λa a' e=>?_
      cases e
      exact .cE (by simp)
    have rest:SR Q P K f (RV f)
       (do let i <- typeInfo elem
           if Builtin.nextslicecap (l+n) c*i.bytes > 2 ^ 48 then do
             (do if (!(<- Builtin.mayShare size l n base x)) then
                   mark Mark.noRoom
                   unsupported (.resourceLimit "append: a slice or a string whose bytes no memory bears")
                 else unsupported (.resourceLimit "append: a slice or a string whose bytes no memory bears"):Sem Unit)
             let eb <-choose (Question.appendCap (l+n) c elem)
             let i <-typeInfo elem
             askRoom (eb*i.bytes)
             let old <-Builtin.firstCells size l (Value.slice base l c)
             let new <-Builtin.firstCells size n x
             let z <-zeroValue elem
             let r <-newRow elem (old++new++Builtin.zeroCells z.cells (eb - (l+n)))
             Pure.pure (Value.slice (some r) (l+n) eb)
           else do
             let eb <-choose (Question.appendCap (l+n) c elem)
             let i <-typeInfo elem
             askRoom (eb*i.bytes)
             let old <-Builtin.firstCells size l (Value.slice base l c)
             let new <-Builtin.firstCells size n x
             let z <-zeroValue elem
             let r <-newRow elem (old++new++Builtin.zeroCells z.cells (eb - (l+n)))
             Pure.pure (Value.slice (some r) (l+n) eb))
       (do let i <- typeInfo elem
           if Builtin.nextslicecap (l+n) c*i.bytes > 2 ^ 48 then do
             (do if (!(<- Builtin.mayShare size l n (base.map (rA f)) (rV f x))) then
                   mark Mark.noRoom
                   unsupported (.resourceLimit "append: a slice or a string whose bytes no memory bears")
                 else unsupported (.resourceLimit "append: a slice or a string whose bytes no memory bears"):Sem Unit)
             let eb <-choose (Question.appendCap (l+n) c elem)
             let i <-typeInfo elem
             askRoom (eb*i.bytes)
             let old <-Builtin.firstCells size l (Value.slice (base.map (rA f)) l c)
             let new <-Builtin.firstCells size n (rV f x)
             let z <-zeroValue elem
             let r <-newRow elem (old++new++Builtin.zeroCells z.cells (eb - (l+n)))
             Pure.pure (Value.slice (some r) (l+n) eb)
           else do
             let eb <-choose (Question.appendCap (l+n) c elem)
             let i <-typeInfo elem
             askRoom (eb*i.bytes)
             let old <-Builtin.firstCells size l (Value.slice (base.map (rA f)) l c)
             let new <-Builtin.firstCells size n (rV f x)
             let z <-zeroValue elem
             let r <-newRow elem (old++new++Builtin.zeroCells z.cells (eb - (l+n)))
             Pure.pure (Value.slice (some r) (l+n) eb)):=by
      refine(kk L elem).aS λi=>?_;by_cases Y:Builtin.nextslicecap (l+n) c*i.bytes > 2 ^ 48
      · simp only[Xu Y]
        refine .dm (DM.dR (DM.ms λb=>?_) _)
        cases b with
        | false=>exact .mark _ _ _ (.un E)
        | true=>exact .un E
      · simp only[Xr Y]
        exact tail
    by_cases Y:((l+n:Nat):Int) > IntKind.i64.max/\i.bytes=0
    · simp only[Xu Y]
      exact .dm (DM.dR (.rp E) _)
    · simp only[Xr Y]
      exact rest
def RE(f:Re):Z3->Z3->Prop:=λv v'=>v=v'/\rV f v=v
theorem SR.rv{s s':Sem Z3}(h:SR Q P K f (RE f) s s'):SR Q P K f (RV f) s s':=h.imp λv v' ⟨e,h⟩=>by subst e;exact h.symm
theorem gi(op:BinOp)(k:FloatKind)(x y:Nat):SR Q P K f (RE f) (Op.floatArith op k x y) (Op.floatArith op k x y):=by
 unfold Op.floatArith
 have fin:∀r:Option Nat,SR Q P K f (RE f) (match r with|some r=>Pure.pure (.float k r)|none=>do Pure.pure (Value.float k (<-choose (.nanBits k x y)))) (match r with|some r=>Pure.pure (.float k r)|none=>do Pure.pure (Value.float k (<-choose (.nanBits k x y)))):=λr=>by
  cases r with
  | none=>exact .choose _ _ _ λn=>.ret ⟨rfl,by simp⟩
  | some r=>exact .ret ⟨rfl,by simp⟩
 cases op<;>first|exact fin _|exact .dm .st
theorem tg(op:BinOp)(k:FloatKind)(x y:Nat):SR Q P K f (RE f) (Op.floatCmp op k x y) (Op.floatCmp op k x y):=by
 unfold Op.floatCmp
 cases op<;>first|exact .ret ⟨rfl,by simp⟩|exact .dm .st
theorem mi(s:FloatKind)(x:Nat)(d:FloatKind):SR Q P K f (RE f) (Conv.floatToFloat s x d) (Conv.floatToFloat s x d):=by
 unfold Conv.floatToFloat;simp only
 repeat' split
 all_goals first|exact .ret ⟨rfl,by simp⟩|exact .choose _ _ _ λn=>.ret ⟨rfl,by simp⟩|skip
theorem x7{s:Sem Z3}(h:SR Q P K f (RE f) s s)(m:String):SR Q P K f Eq
  (do
   let .float _ r <-s|stuck m
   Pure.pure r)
  (do
   let .float _ r <-s|stuck m
   Pure.pure r):=
 h.dR λv v' ⟨e,_⟩=>by subst e;cases v<;>first|exact .db|exact .dm .st
theorem nQ(op:BinOp)(k:FloatKind)(x y:Nat):SR Q P K f Eq (Op.Complex.arith op k x y) (Op.Complex.arith op k x y):=x7 (gi op k x y) _
theorem mN(op:BinOp)(k:FloatKind)(x y:Nat):SR Q P K f Eq (Op.Complex.cmp op k x y) (Op.Complex.cmp op k x y):=
 (tg op k x y).dR λv v' ⟨e,h⟩=>by subst e;have:=x8 (Q:=Q) (P:=P) (K:=K) (f:=f) v;rw[h]at this;exact this
theorem gp(s:FloatKind)(x:Nat)(d:FloatKind):SR Q P K f Eq (Op.Complex.conv s x d) (Op.Complex.conv s x d):=by
 unfold Op.Complex.conv
 split
 ·exact .db
 ·exact x7 (mi s x d) _
theorem EP(a b c d:Nat):SR Q P K f Eq (Op.Complex.product a b c d) (Op.Complex.product a b c d):=
 (nQ _ _ _ _).aS λ_=>(nQ _ _ _ _).aS λ_=>(nQ _ _ _ _).aS λ_=>(nQ _ _ _ _).aS λ_=>(nQ _ _ _ _).aS λ_=>(nQ _ _ _ _).aS λ_=>.db
theorem zD(s a b c d:Nat):SR Q P K f Eq (Op.Complex.corrected s a b c d) (Op.Complex.corrected s a b c d):=
 (nQ _ _ _ _).aS λ_=>(nQ _ _ _ _).aS λ_=>(nQ _ _ _ _).aS λ_=>(nQ _ _ _ _).aS λ_=>(nQ _ _ _ _).aS λ_=>(nQ _ _ _ _).aS λ_=>(nQ _ _ _ _).aS λ_=>(nQ _ _ _ _).aS λ_=>.db
theorem BL(a b c d:Nat):SR Q P K f Eq (Op.Complex.quotient a b c d) (Op.Complex.quotient a b c d):=by
 unfold Op.Complex.quotient;refine(mN _ _ _ _).aS λt=>?_
 have tail:∀e g:Nat,SR Q P K f Eq
   (do let zero := (<- Op.Complex.cmp .eql .f64 c 0) && (<- Op.Complex.cmp .eql .f64 d 0)
       if !(Op.Complex.isNaN e&&Op.Complex.isNaN g) then Pure.pure (e,g)
       else if zero&&(!Op.Complex.isNaN a || !Op.Complex.isNaN b) then
        Pure.pure (<-Op.Complex.mul (Op.Complex.copysign Op.Complex.inf c) a,<-Op.Complex.mul (Op.Complex.copysign Op.Complex.inf c) b)
       else if (Op.Complex.isInf a||Op.Complex.isInf b)&&Op.Complex.isFinite c&&Op.Complex.isFinite d then
        Op.Complex.corrected Op.Complex.inf (Op.Complex.inf2one a) (Op.Complex.inf2one b) c d
       else if (Op.Complex.isInf c||Op.Complex.isInf d)&&Op.Complex.isFinite a&&Op.Complex.isFinite b then
        Op.Complex.corrected 0 a b (Op.Complex.inf2one c) (Op.Complex.inf2one d)
       else Pure.pure (e,g))
   (do let zero := (<- Op.Complex.cmp .eql .f64 c 0) && (<- Op.Complex.cmp .eql .f64 d 0)
       if !(Op.Complex.isNaN e&&Op.Complex.isNaN g) then Pure.pure (e,g)
       else if zero&&(!Op.Complex.isNaN a || !Op.Complex.isNaN b) then
        Pure.pure (<-Op.Complex.mul (Op.Complex.copysign Op.Complex.inf c) a,<-Op.Complex.mul (Op.Complex.copysign Op.Complex.inf c) b)
       else if (Op.Complex.isInf a||Op.Complex.isInf b)&&Op.Complex.isFinite c&&Op.Complex.isFinite d then
        Op.Complex.corrected Op.Complex.inf (Op.Complex.inf2one a) (Op.Complex.inf2one b) c d
       else if (Op.Complex.isInf c||Op.Complex.isInf d)&&Op.Complex.isFinite a&&Op.Complex.isFinite b then
        Op.Complex.corrected 0 a b (Op.Complex.inf2one c) (Op.Complex.inf2one d)
       else Pure.pure (e,g)):=by
  intro e g;refine(mN _ _ _ _).aS λu=>?_
  have fin:∀zero:Bool,SR Q P K f Eq
       (if !(Op.Complex.isNaN e&&Op.Complex.isNaN g) then Pure.pure (e,g)
       else if zero&&(!Op.Complex.isNaN a || !Op.Complex.isNaN b) then do
        Pure.pure (<-Op.Complex.mul (Op.Complex.copysign Op.Complex.inf c) a,<-Op.Complex.mul (Op.Complex.copysign Op.Complex.inf c) b)
       else if (Op.Complex.isInf a||Op.Complex.isInf b)&&Op.Complex.isFinite c&&Op.Complex.isFinite d then
        Op.Complex.corrected Op.Complex.inf (Op.Complex.inf2one a) (Op.Complex.inf2one b) c d
       else if (Op.Complex.isInf c||Op.Complex.isInf d)&&Op.Complex.isFinite a&&Op.Complex.isFinite b then
        Op.Complex.corrected 0 a b (Op.Complex.inf2one c) (Op.Complex.inf2one d)
       else Pure.pure (e,g))
       (if !(Op.Complex.isNaN e&&Op.Complex.isNaN g) then Pure.pure (e,g)
       else if zero&&(!Op.Complex.isNaN a || !Op.Complex.isNaN b) then do
        Pure.pure (<-Op.Complex.mul (Op.Complex.copysign Op.Complex.inf c) a,<-Op.Complex.mul (Op.Complex.copysign Op.Complex.inf c) b)
       else if (Op.Complex.isInf a||Op.Complex.isInf b)&&Op.Complex.isFinite c&&Op.Complex.isFinite d then
        Op.Complex.corrected Op.Complex.inf (Op.Complex.inf2one a) (Op.Complex.inf2one b) c d
       else if (Op.Complex.isInf c||Op.Complex.isInf d)&&Op.Complex.isFinite a&&Op.Complex.isFinite b then
        Op.Complex.corrected 0 a b (Op.Complex.inf2one c) (Op.Complex.inf2one d)
       else Pure.pure (e,g)):=by
    intro zero
    repeat' split
    all_goals first|exact .db|exact zD _ _ _ _ _|exact(nQ _ _ _ _).aS λ_=>(nQ _ _ _ _).aS λ_=>.db
  first|exact(mN _ _ _ _).aS λw=>fin _|(cases u<;>first|exact fin _|exact(mN _ _ _ _).aS λw=>fin _)
 cases t
 ·exact(nQ _ _ _ _).aS λ_=>(nQ _ _ _ _).aS λ_=>(nQ _ _ _ _).aS λ_=>(nQ _ _ _ _).aS λ_=>(nQ _ _ _ _).aS λ_=>(nQ _ _ _ _).aS λ_=>(nQ _ _ _ _).aS λ_=>(nQ _ _ _ _).aS λ_=>(nQ _ _ _ _).aS λ_=>tail _ _
 ·exact(nQ _ _ _ _).aS λ_=>(nQ _ _ _ _).aS λ_=>(nQ _ _ _ _).aS λ_=>(nQ _ _ _ _).aS λ_=>(nQ _ _ _ _).aS λ_=>(nQ _ _ _ _).aS λ_=>(nQ _ _ _ _).aS λ_=>(nQ _ _ _ _).aS λ_=>(nQ _ _ _ _).aS λ_=>tail _ _
theorem zE(op:BinOp)(k:FloatKind)(a b c d:Nat):SR Q P K f (RV f) (Op.complexOp op k a b c d) (Op.complexOp op k a b c d):=by
 unfold Op.complexOp
 cases op<;>simp only<;>first|exact .dm .st|skip
 ·exact(nQ _ _ _ _).aS λ_=>(nQ _ _ _ _).aS λ_=>.cE (by simp)
 ·exact(nQ _ _ _ _).aS λ_=>(nQ _ _ _ _).aS λ_=>.cE (by simp)
 ·exact(gp _ _ _).aS λ_=>(gp _ _ _).aS λ_=>(gp _ _ _).aS λ_=>(gp _ _ _).aS λ_=>(EP _ _ _ _).aS λ_=>(gp _ _ _).aS λ_=>(gp _ _ _).aS λ_=>.cE (by simp)
 ·exact(gp _ _ _).aS λ_=>(gp _ _ _).aS λ_=>(gp _ _ _).aS λ_=>(gp _ _ _).aS λ_=>(BL _ _ _ _).aS λ_=>(gp _ _ _).aS λ_=>(gp _ _ _).aS λ_=>.cE (by simp)
 ·exact(mN _ _ _ _).aS λa=>(mN _ _ _ _).aS λ_=>.cE (by simp)
 ·exact(mN _ _ _ _).aS λa=>(mN _ _ _ _).aS λ_=>.cE (by simp)
theorem DM.asInt{α:Type}{d:Option (Nat × Bool)}{v:Z3}{k:Int->Sem α}(h:∀n,DM Q d (k n)):DM Q d (asInt v >>= k):=by
 unfold Go.asInt;simp only[bind_assoc,pure_bind]
 induction v using vcs<;>first|exact DM.dR .st _|exact DM.dR (.un E) _|exact h _
theorem DM.numberAt{α:Type}{d:Option (Nat × Bool)}{r:Nat}{k:Option (Addr × Bool)->Sem α}(h:∀x,DM Q d (k x)):DM Q d (numberAt r >>= k):=by
 unfold Go.numberAt;refine .shape _ _ _ λx=>?_
 cases x with
 | some x=>exact h _
 | none=>exact .getObj _ _ _ λo=>by cases o<;>exact h _
theorem DM.behind{α:Type}{d:Option (Nat × Bool)}{a:Addr}{k:Addr × Bool->Sem α}(h:∀x,DM Q d (k x)):DM Q d (behindNumber a >>= k):=by
 unfold behindNumber;simp only[bind_assoc,pure_bind];exact .numberAt λx=>h _
theorem sr{γ δ:Type}{R':γ->δ->Prop}{a:Addr}{k:Addr × Bool->Sem γ}{k':Addr × Bool->Sem δ}(h:∀a b,SR Q P K f R' (k (a,b)) (k' (rA f a,b)))(J:DM Q (some (a.block,true)) (k (a,false))) :
  SR Q P K f R' (behindNumber a >>= k) (behindNumber (rA f a) >>= k'):=by
 unfold behindNumber;simp only[bind_assoc,pure_bind,B4];exact BM (h a false) (λa' b=>h a' b) J
theorem DM.twoPlaces(L:Lk Q P f){d:Option (Nat × Bool)}{a b:Addr}:DM Q d (Op.twoPlaces a b):=by
 unfold Op.twoPlaces;refine .pg ?_;rw[HX L.zr];simp only[ge_iff_le,XC,decide_true,Bool.or_true,Yp];exact DM.dR (.un E) _
theorem DM.addrSub(L:Lk Q P f){d:Option (Nat × Bool)}{k:IntKind}{a b:Addr}:DM Q d (Op.addrSub k a b):=DM.dR (.twoPlaces L) _
theorem DM.addrCmp(L:Lk Q P f){d:Option (Nat × Bool)}{op:BinOp}{a b:Addr}:DM Q d (Op.addrCmp op a b):=DM.dR (.twoPlaces L) _
theorem Hw(L:Lk Q P f)(a:Addr):SR Q P K f Eq (byteOf a) (byteOf (rA f a)):=by
 unfold byteOf;simp only[Qc,B4,Lj]
 cases a.spot with
 | some s=>exact .db
 | none=>
  refine .program _ _ ?_;refine(IH a).aS λ_=>?_;refine .shape _ _ _ (λe n=>?_) (.dm .st) (λb=>.st);simp only[rH L.zr,AT L.zr,AZ L.zr,uG L.zr,Sem.bind]
  split
  ·exact .db
  ·split
   ·exact .db
   ·exact .dm .st
theorem uT(L:Lk Q P f)(k:IntKind)(a:Addr)(n:Int):SR Q P K f (RV f) (Op.addrMod k a n) (Op.addrMod k (rA f a) n):=by
 unfold Op.addrMod;refine .shape _ _ _ (λe m=>?_) (.dm (.un E)) (λb=>.un E);refine(kk L e).aS λi=>?_;simp only
 split
 ·exact .dm (DM.dR (.un E) _)
 ·exact(Hw L a).aS λb=>.cE (by simp)
theorem DM.unsafeAdd{d:Option (Nat × Bool)}{ts:Array Z5}{t:Z5}{y:Z3}:DM Q d (Builtin.unsafeAdd_ ts t #[.pointer none,y]):=by
 unfold Builtin.unsafeAdd_;refine(show DM Q _ (Go.asInt y >>= _) from .asInt λn=>?_);by_cases h0:n=0
 ·simp only[Xu h0];exact .un E
 ·simp only[Xr h0]
  by_cases h1:n<0
  ·simp only[Xu h1];exact DM.dR (.un E) _
  ·simp only[Xr h1];exact .un E
theorem DM.EG{ts:Array Z5}{t:Z5}{a:Addr}{y:Z3}:DM Q (some (a.block,true)) (Builtin.unsafeAdd_ ts t #[.pointer (some a),y]):=by
 unfold Builtin.unsafeAdd_;refine(show DM Q _ (Go.asInt y >>= _) from .asInt λn=>?_);by_cases h0:n=0
 ·simp only[Xu h0]
  unfold viewAt;exact .px _ _ _ (.n8 _ _ (DM.un E))
 ·simp only[Xr h0]
  by_cases h1:n<0
  ·simp only[Xu h1];exact DM.dR (.un E) _
  ·simp only[Xr h1];exact .px _ _ _ (DM.un E)
theorem zw(L:Lk Q P f)(ts:Array Z5)(t:Z5)(a:Addr)(y:Z3):SR Q P K f (RV f) (Builtin.unsafeAdd_ ts t #[.pointer (some a),y]) (Builtin.unsafeAdd_ ts t #[.pointer (some (rA f a)),rV f y]):=by
 unfold Builtin.unsafeAdd_;refine(show SR Q P K f (RV f) (asInt y >>= _) (asInt (rV f y) >>= _) from (qa y).aS λn=>?_);by_cases h0:n=0
 ·simp only[Xu h0]
  refine OK ?_ λx=>?_
  ·exact .cE (by simp)
  ·exact DM.un E
 ·simp only[Xr h0]
  by_cases h1:n<0
  ·simp only[Xu h1];exact .dm (DM.dR (.un E) _)
  ·simp only[Xr h1]
   refine .shape _ _ _ (λe m=>?_) (.dm (.un E)) (λb=>.un E);refine .program _ _ ?_;simp only[Sem.bind,RI L.zr,rH L.zr,AT L.zr,Lj]
   split
   ·exact .cE (by simp[rA])
   ·exact .dm (.un E)
theorem BR(b:Addr)(l:Bool):SR Q P K f (RV f) (asNumber b l) (asNumber (rA f b) l):=.new _ _ _ _ (.number b l) (λ_ _ _ _ _ _ h=>by cases h) λr=>.pure _ _ (by simp[RV,rA])
theorem DM.und{α:Type}{d:Option (Nat × Bool)}{t:Z5}{k:TypeDesc->Sem α}(h:∀x,DM Q d (k x)):DM Q d (underlying t >>= k):=by
 unfold underlying;simp only[bind_assoc];refine .pg ?_
 cases Q.underlying t with
 | none=>exact DM.dR .st _
 | some x=>exact h x
theorem DM.Mj{d:Option (Nat × Bool)}{t:Z5}{y:Z3}:DM Q d (movedNumber t (.pointer none) y):=by
 unfold movedNumber;refine .und λx=>?_
 cases x<;>first|exact(DM.unsafeAdd:DM Q d (Builtin.unsafeAdd_ #[] t #[.pointer none,y]))|(refine DM.dR (.un ?_) _;rfl)
theorem uO(L:Lk Q P f)(t:Z5)(a:Addr)(y:Z3)(ht:∀d,P.underlying t=some d->d≠.unsafePointer):SR Q P K f (RV f) (movedNumber t (.pointer (some a)) y) (movedNumber t (.pointer (some (rA f a))) (rV f y)):=by
  unfold movedNumber;refine(eH L t).dR λd d' ⟨e,h⟩=>?_;subst e;have:=ht d h
  have key:SR Q P K f (RV f)
     (do let (a, lost) <- behindNumber a
         match <-Builtin.unsafeAdd_ #[] t #[.pointer (some a),y] with
         | .pointer (some b)=>asNumber b lost
         | v=>Pure.pure v)
     (do let (a, lost) <- behindNumber (rA f a)
         match <-Builtin.unsafeAdd_ #[] t #[.pointer (some a),rV f y] with
         | .pointer (some b)=>asNumber b lost
         | v=>Pure.pure v):=by
    refine sr (λa l=>?_) ?_
    · refine(zw L #[] t a y).mC λv=>?_
      induction v using vcs<;>simp only[bP,cf,br,aR,aZ,aM,aW,cq,bM,bK,aU,bq,aO,cg,bl,XR,XB]<;>first|exact .cE (by simp)|exact BR _ _
    ·exact DM.dR .EG _
  cases d<;>first|exact absurd E this|exact key
theorem SR.ite{α β:Type}{R:α->β->Prop}{c:Prop}[Decidable c]{a b:Sem α}{a' b':Sem β}(h1:SR Q P K f R a a')(h2:SR Q P K f R b b'):SR Q P K f R (if c then a else b) (if c then a' else b'):=by split<;>assumption
def eqOk(P:Z4):Nat->Z5->Bool
 | 0,_=>false
 | n+1,t=>match P.underlying t with
  | some (.int _)=>match ((P.info? t).map (·.desc):Option TypeDesc) with
   | some (TypeDesc.named nm _)=>nm != "sync.copyChecker"
   | _=>true
  | some .bool|some .string|some (.float _)=>true
  | some (.array _ e)=>eqOk P n e
  | some (.struct fs)=>!P.stoodInHeld t&&fs.all λfd=>eqOk P n fd.type
  | _=>false
theorem Hv{α β:Type}{g g':α->β->Sem (ForInStep β)}:∀(xs:List α),(∀x∈xs,∀b,SR Q P K f Eq (g x b) (g' x b))->∀b:β,SR Q P K f Eq (forIn xs b g) (forIn xs b g')
 | [],_,b=>by simp only[List.forIn_nil];exact .db
 | x::xs,h,b=>by
  simp only[List.forIn_cons];refine(h x (by simp) b).aS λr=>?_
  cases r with
  | done b=>exact .db
  | yield b=>exact Hv xs (λy hy=>h y (by simp[hy])) b
theorem KN{α β:Type}{g g':α->β->Sem (ForInStep β)}{xs:Array α}{b:β}(h:∀x∈xs,∀b,SR Q P K f Eq (g x b) (g' x b)):SR Q P K f Eq (forIn xs b g) (forIn xs b g'):=by
 rw[<-Array.forIn_toList,<-Array.forIn_toList];exact Hv xs.toList (λx hx=>h x (by simpa using hx)) b
theorem dm_pp(L:Lk Q P f)(t:Z5)(hi:∀i,P.info? t=some i->∀u,i.desc≠.named "sync.copyChecker" u)(a b:Addr):DM Q none (do
   let (a,b):=((<-behindNumber a).1,(<-behindNumber b).1)
   if a.block==b.block&&a.block<(<-program).globals.size then return (<-byteOf a)==(<-byteOf b)
   let .named "sync.copyChecker" _:=(<-typeInfo t).desc|unsupported .addressObserved
   if a==b then pure true else unsupported .addressObserved:Sem Bool):=by
 refine .behind λa=>.behind λb=>?_;refine .pg ?_;rw[HX L.zr];simp only[Nat.not_lt_zero,decide_false,Bool.and_false,XO,YC];unfold typeInfo;simp only[bind_assoc];refine .pg ?_;rw[qG L.zr];cases hj:P.info? t with
 | none=>exact DM.dR .st _
 | some i=>
  have:=hi i hj;simp only[pure_bind];exact .un E
theorem uR(L:Lk Q P f):∀(n d:Nat) (t:Z5) (x y:Z3),eqOk P n t=true->SR Q P K f Eq (Op.equalIn d t x y) (Op.equalIn d t (rV f x) (rV f y))
 | _,0,_,_,_,_=>.dm (.un E)
 | 0,_,_,_,_,h=>by cases h
 | n+1,d+1,t,x,y,h=>by
  have ih:=uR L n d;unfold Op.equalIn;refine(eH L t).dR λe e' ⟨he,hu⟩=>?_;subst he;unfold eqOk at h;rw[hu]at h
  cases e with
  | bool=>induction x using vcs<;>induction y using vcs<;>simp only[bP,cf,br,aR,aZ,aM,aW,cq,bM,bK,aU,bq,aO,cg,bl,XR,XB]<;>first|exact .dm .st|exact .db
  | float k=>
   induction x using vcs<;>induction y using vcs<;>simp only[bP,cf,br,aR,aZ,aM,aW,cq,bM,bK,aU,bq,aO,cg,bl,XR,XB]<;>first|exact .dm .st|exact .ite .db (.dm .st)
  | array len elem=>
   cases x<;>cases y<;>simp only[bP,cf,br,aR,aZ,aM,aW,cq,bM,bK,aU,bq,aO,cg,bl]<;>first|exact .dm .st|skip
   rename_i xs ys;refine(dx L elem).aS λn=>?_;simp only[Std.Legacy.Range.forIn_eq_forIn_range'];refine(Hv _ (λi hi s=>?_) _).aS λs=>?_
   ·refine(kh L _ _ _).mC λa=>(kh L _ _ _).mC λb=>?_
    refine(ih _ a b h).aS λr=>?_
    cases r<;>exact .db
   ·obtain⟨s,u⟩:=s
    cases s<;>exact .db
  | string=>induction x using vcs<;>induction y using vcs<;>simp only[bP,cf,br,aR,aZ,aM,aW,cq,bM,bK,aU,bq,aO,cg,bl,XR,XB]<;>first|exact .dm .st|exact .db
  | int k=>
   have hi:∀i,P.info? t=some i->∀u,i.desc≠.named "sync.copyChecker" u:=λi hi u hu=>by
    rw[hi]at h;simp[hu]at h
   have hp:=dm_pp (Q:=Q) L t hi
   induction x using vcs<;>induction y using vcs<;>simp only[bP,cf,br,aR,aZ,aM,aW,cq,bM,bK,aU,bq,aO,cg,bl,XR,XB]<;>first|exact .dm .st|exact .db|exact .dm (.un E)|exact .dm (hp _ _)|skip
   ·split
    ·exact .db
    ·exact .dm .st
   ·rename_i k n a
    rcases n with (_|m)|m<;>first|exact .db|exact .dm (.un E)
   ·rename_i a k n
    rcases n with (_|m)|m<;>first|exact .db|exact .dm (.un E)
  | struct fs=>
   simp only[Xs,Yg,Yi]at h;have⟨hs,hf⟩:=h
   cases x<;>cases y<;>simp only[bP,cf,br,aR,aZ,aM,aW,cq,bM,bK,aU,bq,aO,cg,bl]<;>first|exact .dm .st|skip
   rename_i xs ys;refine .program _ _ ?_;simp only[Sem.bind,hs,XO,YC];by_cases hq:Q.stoodInHeld t=true
   ·simp only[Xu hq]
    exact .dm (DM.dR (.un E) _)
   ·simp only[Xr hq]
    refine(KN λfd Vj s=>?_).aS λs=>?_
    ·by_cases hn:fd.name≠ "_"
     ·simp only[Xu hn]
      refine(kh L _ _ _).mC λa=>(kh L _ _ _).mC λb=>?_;refine(ih _ a b (hf fd Vj)).aS λr=>?_
      cases r<;>exact .db
     ·simp only[Xr hn];exact .db
    ·obtain⟨s,u⟩:=s
     cases s<;>exact .db
  | _=>cases h
theorem zB(L:Lk Q P f):∀(n d:Nat) (t:Z5),eqOk P n t=true->SR Q P K f Eq (Op.eqGuardIn d t .nilIface .nilIface) (Op.eqGuardIn d t .nilIface .nilIface)
 | _,0,_,_=>.dm (.un E)
 | 0,_,_,h=>by cases h
 | n+1,d+1,t,h=>by
  unfold Op.eqGuardIn;refine(eH L t).dR λe e' ⟨he,hu⟩=>?_;subst he;unfold eqOk at h;rw[hu]at h
  cases e<;>first|exact .db|cases h
theorem H6(h:Q.toTables={ P.toTables with globals:=#[] }):∀(d:Nat) (t:Z5),Q.eqGuardType d t=P.eqGuardType d t
 | 0,t=>rfl
 | d+1,t=>by
  have ih:=H6 h d;unfold Program.eqGuardType;simp only[nL h,ih]
theorem sr_eqGuard(L:Lk Q P f)(op:BinOp)(t:Z5)(x y:Z6)(a b:Z3)(n:Nat)(h:(op=.eql\/op=.neq)->eqOk P n t=true/\P.eqGuardType P.depth t=false):SR Q P K f Eq (eqGuard op t x y a b) (eqGuard op t x y (rV f a) (rV f b)):=by
 unfold eqGuard
 have key:eqOk P n t=true/\P.eqGuardType P.depth t=false->SR Q P K f Eq
   (match a,b with
   | .nilIface,.nilIface=>do
    if (x matches .const _)||(y matches .const _) then return
    if <-Op.eqGuardIn Op.maxDepth t a b then unsupported (.noEntry "binop/eql: two nil values of an interface type with methods, neither of them the literal nil")
   | .agg _,.agg _=>do
    if !(<-program).eqGuardType (<-program).depth t then return
    if <-Op.eqGuardIn Op.maxDepth t a b then unsupported (.noEntry "binop/eql: two nil values of an interface type with methods, in a part of a struct or an array")
   | _,_=>pure ():Sem Unit)
   (match rV f a,rV f b with
   | .nilIface,.nilIface=>do
    if (x matches .const _)||(y matches .const _) then return
    if <-Op.eqGuardIn Op.maxDepth t (rV f a) (rV f b) then unsupported (.noEntry "binop/eql: two nil values of an interface type with methods, neither of them the literal nil")
   | .agg _,.agg _=>do
    if !(<-program).eqGuardType (<-program).depth t then return
    if <-Op.eqGuardIn Op.maxDepth t (rV f a) (rV f b) then unsupported (.noEntry "binop/eql: two nil values of an interface type with methods, in a part of a struct or an array")
   | _,_=>pure ():Sem Unit):=λ⟨h1,h2⟩=>by
  cases a<;>cases b<;>simp only[bP,cf,br,aR,aZ,aM,aW,cq,bM,bK,aU,bq,aO,cg,bl]<;>first|exact .db|skip
  ·refine .ite .db ?_
   refine(zB L n _ t h1).aS λr=>?_
   cases r
   ·exact .db
   ·exact .dm (.un E)
  ·refine .program _ _ (.program _ _ ?_)
   simp only[Sem.bind,H6 L.zr,AT L.zr,h2,ZG,Yp];exact .db
 cases op<;>first|exact .db|exact key (h (.inl E))|exact key (h (.inr E))
theorem On(op:BinOp)(t:Z5)(a b:ByteArray):binOp op t (.string a) (.string b)=Op.stringOp op a b:=by cases op<;>rfl
theorem Oo(op:BinOp)(t:Z5)(k j:FloatKind)(a b c d:Nat):binOp op t (.complex k a b) (.complex j c d)=if k≠j then stuck "BinOp: operands of different kinds" else Op.complexOp op k a b c d:=by cases op<;>rfl
theorem ab7(op:BinOp)(t:Z5)(k j:FloatKind)(a b:Nat):SR Q P K f (RV f) (binOp op t (.float k a) (.float j b)) (binOp op t (.float k a) (.float j b)):=by
 have h:∃s,binOp op t (.float k a) (.float j b)=(if k≠j then stuck "BinOp: operands of different kinds" else s)/\SR Q P K f (RV f) s s:=by
  cases op<;>first|exact⟨_,rfl,(gi .add k a b).rv⟩|exact⟨_,rfl,(gi .sub k a b).rv⟩|exact⟨_,rfl,(gi .mul k a b).rv⟩|exact⟨_,rfl,(gi .quo k a b).rv⟩|exact⟨Op.floatCmp _ k a b,rfl,(tg _ k a b).rv⟩
 have⟨s,e,hs⟩:=h;rw[e];exact .ite (.dm .st) hs
theorem IJ(op:BinOp)(t:Z5)(k j:IntKind)(a b:Int):SR Q P K f (RV f) (binOp op t (.int k a) (.int j b)) (binOp op t (.int k a) (.int j b)):=by
 have dv:∀op,SR Q P K f (RV f) (Op.intDiv op k a b) (Op.intDiv op k a b):=λop=>by
  unfold Op.intDiv;refine .ite (.dm (.rp E)) ?_
  cases op<;>first|exact .cE (by simp)|exact .dm .st
 have sh:∀op,SR Q P K f (RV f) (Op.shift op k a j b) (Op.shift op k a j b):=λop=>by
  unfold Op.shift;refine .ite (.dm (.rp E)) ?_
  cases op<;>first|exact .cE (by simp)|exact .dm .st
 have h:(∃s,binOp op t (.int k a) (.int j b)=(if k≠j then stuck "BinOp: operands of different kinds" else s)/\SR Q P K f (RV f) s s)\/SR Q P K f (RV f) (binOp op t (.int k a) (.int j b)) (binOp op t (.int k a) (.int j b)):=by
  cases op<;>first
   | exact .inr (show SR Q P K f (RV f) (Op.shift .shl k a j b) (Op.shift .shl k a j b) from sh _)
   | exact .inr (show SR Q P K f (RV f) (Op.shift .shr k a j b) (Op.shift .shr k a j b) from sh _)
   | exact .inl ⟨Op.intDiv .quo k a b,rfl,dv _⟩|exact .inl ⟨Op.intDiv .rem k a b,rfl,dv _⟩
   | exact .inl ⟨Op.intArith _ k a b,rfl,.cE (by simp)⟩|exact .inl ⟨Op.intBits _ k a b,rfl,.cE (by simp)⟩|exact .inl ⟨Op.intCmp _ a b,rfl,.cE (by simp)⟩|exact .inl ⟨Op.intCmp _ a b,rfl,.dm .st⟩
 rcases h with ⟨s,e,hs⟩|h
 ·rw[e];exact .ite (.dm .st) hs
 ·exact h
def binOk(P:Z4)(op:BinOp)(t:Z5):Bool:=
 match op with
 | .eql|.neq=>eqOk P 20 t && !P.eqGuardType P.depth t
 | .add|.sub=>(match P.underlying t with|some .unsafePointer=>false|some _=>true|none=>false)
 | _=>true
theorem KQ(L:Lk Q P f)(t:Z5)(x y:Z3)(he:eqOk P 20 t=true):SR Q P K f Eq (Op.equal t x y) (Op.equal t (rV f x) (rV f y)):=uR L 20 _ t x y he
def nk:Z3->Nat
 | .int ..=>1
 | .float ..=>2
 | .complex ..=>3
 | .string _=>4
 | _=>0
theorem Mb(v:Z3):nk (rV f v)=nk v:=by cases v<;>simp[nk]
def eB(x y:Z3):Prop:=nk x=nk y/\nk x≠0
theorem KV(op:BinOp)(t:Z5)(x y:Z3)(h:eB x y):SR Q P K f (RV f) (binOp op t x y) (binOp op t (rV f x) (rV f y)):=by
 have⟨h1,h2⟩:=h
 cases x<;>first|exact absurd E h2|skip
 all_goals cases y<;>first|cases h1|skip
 ·simp only[cf];exact IJ _ _ _ _ _ _
 ·simp only[br];exact ab7 _ _ _ _ _ _
 ·simp only[aR,Oo];exact .ite (.dm .st) (zE _ _ _ _ _ _)
 ·simp only[aZ,On];exact BJ _ _ _
theorem binOp_eql(t:Z5)(x y:Z3)(h:¬eB x y):binOp .eql t x y=(do pure (.bool (<-Op.equal t x y))):=by
 cases x<;>cases y<;>first|rfl|exact absurd ⟨rfl,by simp[nk]⟩ h
theorem binOp_neq(t:Z5)(x y:Z3)(h:¬eB x y):binOp .neq t x y=(do pure (.bool (!(<-Op.equal t x y)))):=by
 cases x<;>cases y<;>first|rfl|exact absurd ⟨rfl,by simp[nk]⟩ h
theorem ze{x y:Z3}(h:¬eB x y):¬eB (rV f x) (rV f y):=by unfold eB at h ⊢;rw[Mb,Mb];exact h
theorem VX(t:Z5)(x y:Z3)(h:¬eB x y):DM Q none (binOp .mul t x y):=by
 cases x<;>cases y<;>first|exact DM.st|exact DM.un E|exact absurd ⟨rfl,by simp[nk]⟩ h
theorem VW(t:Z5)(x y:Z3)(h:¬eB x y):DM Q none (binOp .quo t x y):=by
 cases x<;>cases y<;>first|exact DM.st|exact DM.un E|exact absurd ⟨rfl,by simp[nk]⟩ h
theorem ar8(t:Z5)(x y:Z3)(h:¬eB x y):DM Q none (binOp .or t x y):=by
 cases x<;>cases y<;>first|exact DM.st|exact DM.un E|exact absurd ⟨rfl,by simp[nk]⟩ h
theorem VT(t:Z5)(x y:Z3)(h:¬eB x y):DM Q none (binOp .xor t x y):=by
 cases x<;>cases y<;>first|exact DM.st|exact DM.un E|exact absurd ⟨rfl,by simp[nk]⟩ h
theorem JF(t:Z5)(x y:Z3)(h:¬eB x y):DM Q none (binOp .andNot t x y):=by
 cases x<;>cases y<;>first|exact DM.st|exact DM.un E|exact absurd ⟨rfl,by simp[nk]⟩ h
theorem VV(t:Z5)(x y:Z3)(h:¬eB x y):DM Q none (binOp .shl t x y):=by
 cases x<;>cases y<;>first|exact DM.st|exact DM.un E|exact absurd ⟨rfl,by simp[nk]⟩ h
theorem VU(t:Z5)(x y:Z3)(h:¬eB x y):DM Q none (binOp .shr t x y):=by
 cases x<;>cases y<;>first|exact DM.st|exact DM.un E|exact absurd ⟨rfl,by simp[nk]⟩ h
theorem VY(L:Lk Q P f)(t:Z5)(x y:Z3)(h:¬eB x y):DM Q none (binOp .lss t x y):=by
 induction x using vcs<;>induction y using vcs<;>first|exact DM.st|exact DM.un E|exact DM.behind λa=>DM.behind λb=>.addrCmp L|exact absurd ⟨rfl,by simp[nk]⟩ h
theorem VZ(L:Lk Q P f)(t:Z5)(x y:Z3)(h:¬eB x y):DM Q none (binOp .leq t x y):=by
 induction x using vcs<;>induction y using vcs<;>first|exact DM.st|exact DM.un E|exact DM.behind λa=>DM.behind λb=>.addrCmp L|exact absurd ⟨rfl,by simp[nk]⟩ h
theorem V0(L:Lk Q P f)(t:Z5)(x y:Z3)(h:¬eB x y):DM Q none (binOp .gtr t x y):=by
 induction x using vcs<;>induction y using vcs<;>first|exact DM.st|exact DM.un E|exact DM.behind λa=>DM.behind λb=>.addrCmp L|exact absurd ⟨rfl,by simp[nk]⟩ h
theorem V1(L:Lk Q P f)(t:Z5)(x y:Z3)(h:¬eB x y):DM Q none (binOp .geq t x y):=by
 induction x using vcs<;>induction y using vcs<;>first|exact DM.st|exact DM.un E|exact DM.behind λa=>DM.behind λb=>.addrCmp L|exact absurd ⟨rfl,by simp[nk]⟩ h
theorem aV5(L:Lk Q P f)(t:Z5)(x y:Z3)(h:¬eB x y):SR Q P K f (RV f) (binOp .rem t x y) (binOp .rem t (rV f x) (rV f y)):=by
 have hp:∀(k:IntKind) (a:Addr) (n:Int),SR Q P K f (RV f) (do Op.addrMod k (<-behindNumber a).1 n) (do Op.addrMod k (<-behindNumber (rA f a)).1 n):=λk a n=>
  sr (λa b=>uT L k a n) (.px _ _ _ (DM.un E))
 induction x using vcs<;>induction y using vcs<;>first|exact .dm .st|exact .dm (DM.un E)|exact absurd ⟨rfl,by simp[nk]⟩ h|(simp only[aM,cf,XB];exact hp _ _ _)
theorem Ub(L:Lk Q P f)(t:Z5)(x y:Z3)(h:¬eB x y):SR Q P K f (RV f) (binOp .and t x y) (binOp .and t (rV f x) (rV f y)):=by
 have hp:∀(k:IntKind) (a:Addr) (n:Int),SR Q P K f (RV f) (do Op.addrMod k (<-behindNumber a).1 (n+1)) (do Op.addrMod k (<-behindNumber (rA f a)).1 (n+1)):=λk a n=>
  sr (λa b=>uT L k a _) (.px _ _ _ (DM.un E))
 induction x using vcs<;>induction y using vcs<;>first|exact .dm .st|exact .dm (DM.un E)|exact absurd ⟨rfl,by simp[nk]⟩ h|(simp only[aM,cf,XB];exact hp _ _ _)
theorem Uc(L:Lk Q P f)(t:Z5)(x y:Z3)(h:¬eB x y)(ht:∀d,P.underlying t=some d->d≠.unsafePointer):SR Q P K f (RV f) (binOp .add t x y) (binOp .add t (rV f x) (rV f y)):=by
 have hq:∀(a:Option Addr) (k:IntKind) (n:Int),SR Q P K f (RV f) (binOp .add t (.pointer a) (.int k n)) (binOp .add t (.pointer (a.map (rA f))) (.int k n)):=λa k n=>by
  refine(eH L t).dR λd d' ⟨e,J⟩=>?_;subst e;have:=ht d J
  have key:SR Q P K f (RV f) (movedNumber t (.pointer a) (.int k n)) (movedNumber t (.pointer (a.map (rA f))) (.int k n)):=by
   cases a with
   | none=>exact .dm .Mj
   | some a=>have:=uO (Q:=Q) (P:=P) (K:=K) L t a (.int k n) ht;simpa using this
  cases d<;>first|exact absurd E this|exact key
 have hi:∀(a:Option Addr) (k:IntKind) (n:Int),SR Q P K f (RV f) (binOp .add t (.int k n) (.pointer a)) (binOp .add t (.int k n) (.pointer (a.map (rA f)))):=λa k n=>by
  show SR Q P K f (RV f) (movedNumber t (.pointer a) (.int k n)) (movedNumber t (.pointer (a.map (rA f))) (.int k n))
  cases a with
  | none=>exact .dm .Mj
  | some a=>have:=uO (Q:=Q) (P:=P) (K:=K) L t a (.int k n) ht;simpa using this
 cases x<;>cases y<;>first|exact .dm .st|exact .dm (DM.un E)|exact absurd ⟨rfl,by simp[nk]⟩ h|(simp only[aM,cf];first|exact hq _ _ _|exact hi _ _ _)
theorem aV4(L:Lk Q P f)(t:Z5)(x y:Z3)(h:¬eB x y)(ht:∀d,P.underlying t=some d->d≠.unsafePointer):SR Q P K f (RV f) (binOp .sub t x y) (binOp .sub t (rV f x) (rV f y)):=by
 have hi:∀(a:Option Addr) (k:IntKind) (n:Int),SR Q P K f (RV f) (binOp .sub t (.pointer a) (.int k n)) (binOp .sub t (.pointer (a.map (rA f))) (.int k n)):=λa k n=>by
  show SR Q P K f (RV f) (movedNumber t (.pointer a) (.int k (-n))) (movedNumber t (.pointer (a.map (rA f))) (.int k (-n)))
  cases a with
  | none=>exact .dm .Mj
  | some a=>have:=uO (Q:=Q) (P:=P) (K:=K) L t a (.int k (-n)) ht;simpa using this
 induction x using vcs<;>induction y using vcs<;>first|exact .dm .st|exact .dm (DM.un E)|exact .dm (DM.behind λa=>DM.behind λb=>.addrSub L)|(simp only[aM,cf];exact hi _ _ _)|exact absurd ⟨rfl,by simp[nk]⟩ h
theorem KS(L:Lk Q P f)(op:BinOp)(t:Z5)(x y:Z3)(h:binOk P op t=true):SR Q P K f (RV f) (binOp op t x y) (binOp op t (rV f x) (rV f y)):=by
 rcases Zd (eB x y) with ha|ha
 ·exact KV op t x y ha
 have hu:(op=.add\/op=.sub)->∀d,P.underlying t=some d->d≠.unsafePointer:=λho d J e=>by
  rcases ho with rfl|rfl<;>(unfold binOk at h;simp[J,e]at h)
 have he:(op=.eql\/op=.neq)->eqOk P 20 t=true:=λho=>by
  rcases ho with rfl|rfl<;>(simp[binOk]at h;exact h.1)
 cases op with
 | add=>exact Uc L t x y ha (hu (.inl E))
 | sub=>exact aV4 L t x y ha (hu (.inr E))
 | rem=>exact aV5 L t x y ha
 | and=>exact Ub L t x y ha
 | eql=>rw[binOp_eql _ _ _ ha,binOp_eql _ _ _ (ze ha)];exact(KQ L t x y (he (.inl E))).aS λb=>.cE (by simp)
 | neq=>rw[binOp_neq _ _ _ ha,binOp_neq _ _ _ (ze ha)];exact(KQ L t x y (he (.inr E))).aS λb=>.cE (by simp)
 | mul=>exact .dm (VX t x y ha)
 | quo=>exact .dm (VW t x y ha)
 | or=>exact .dm (ar8 t x y ha)
 | xor=>exact .dm (VT t x y ha)
 | andNot=>exact .dm (JF t x y ha)
 | shl=>exact .dm (VV t x y ha)
 | shr=>exact .dm (VU t x y ha)
 | lss=>exact .dm (VY L t x y ha)
 | leq=>exact .dm (VZ L t x y ha)
 | gtr=>exact .dm (V0 L t x y ha)
 | geq=>exact .dm (V1 L t x y ha)
theorem kM(L:Lk Q P f)(a:Addr)(fd:Field):SR Q P K f (RA f) (fieldPlace a fd) (fieldPlace (rA f a) fd):=by
 unfold fieldPlace;refine(dx L fd.type).aS λn=>?_;by_cases h:n=0
 ·simp only[Xu h]
  unfold partAt;refine(Hw L a).aS λb=>?_;have:=Hw (Q:=Q) (P:=P) (K:=K) L { block:=a.block,off:=a.off+fd.offset };refine this.aS λc=>?_;refine .ret ?_;simp only[RA]
  split<;>simp[rA]
 ·simp only[Xr h]
  exact .ret (mU _ _).symm
theorem ES(L:Lk Q P f)(s:Z5)(v:Z3)(i:Nat):SR Q P K f (RV f) (Instr.fieldAt s v i) (Instr.fieldAt s (rV f v) i):=by
 unfold Instr.fieldAt;refine(dY L s).aS λd=>?_
 cases d with
 | struct fs=>?_
 | _=>exact .dm .st
 simp only
 cases fs[i]? with
 | none=>exact .dm .st
 | some fd=>exact(kg v).dR λa a' e=>by cases e;exact(kM L a fd).dR λb b' e=>by cases e;exact .cE (by simp)
def rPl(f:Re):Place->Place
 | .val v=>.val (rV f v)
 | .var a=>.var (rA f a)
theorem zy(L:Lk Q P f)(t:Z5)(x:Place):SR Q P K f (RV f) (x.get t) ((rPl f x).get t):=by
 cases x with
 | val v=>exact .cE E
 | var a=>exact lP L t a
theorem ll(L:Lk Q P f):∀(ss:List FieldStep) (t:Z5) (x:Place),SR Q P K f (λr r'=>r'=(r.1,rPl f r.2)) (follow ss t x) (follow ss t (rPl f x))
 | [],t,x=>.ret E
 | s::rest,t,x=>by
  unfold follow;refine(dY L s.struct).aS λd=>?_
  cases d with
  | struct fs=>?_
  | _=>exact .dm .st
  simp only
  cases fs[s.index]? with
  | none=>exact .dm .st
  | some fd=>
   simp only;refine .ite ?_ ?_
   ·refine(zy L t x).mC λv=>(nO v).dR λa a' e=>?_
    cases e
    exact(kM L a fd).dR λb b' e=>by cases e;exact ll L rest _ (.var b)
   ·cases x with
    | var a=>exact(kM L a fd).dR λb b' e=>by cases e;exact ll L rest _ (.var b)
    | val v=>
     cases v<;>simp only[rPl,bP,cf,br,aR,aZ,aM,aW,cq,bM,bK,aU,bq,aO,cg,bl]<;>first|exact .dm .st|skip
     exact(kh L _ _ _).mC λv=>ll L rest _ (.val v)
theorem DM.info{α:Type}{d:Option (Nat × Bool)}{t:Z5}{k:TypeInfo->Sem α}(h:∀x,DM Q d (k x)):DM Q d (typeInfo t >>= k):=by
 unfold typeInfo;simp only[bind_assoc];refine .pg ?_
 cases Q.info? t with
 | none=>exact DM.dR .st _
 | some x=>exact h x
theorem DM.Pn{d:Option (Nat × Bool)}(ts:Array Z5)(t:Z5)(a b:String):DM Q d (Builtin.ssaWrapNilChk_ ts t #[.pointer none,strVal a,strVal b]):=by
 unfold Builtin.ssaWrapNilChk_;refine(show DM Q d (Go.choose _ >>= _) from .choose _ _ _ λn=>?_);show DM Q d (if (n==1)=true then _ else _)
 refine .ite (DM.dR (.rp E) _) ?_
 cases ts[0]? with
 | none=>exact .st
 | some pt=>
  refine .und λx=>?_
  cases x with
  | pointer e=>?_
  | _=>exact .st
  refine .info λi=>?_;simp only
  split
  ·split
   ·split
    ·exact .rp E
    ·exact .un E
   ·exact .st
  ·exact .st
theorem EM(ts:Array Z5)(t:Z5)(p:Z3)(a b:String):SR Q P K f (RV f) (Builtin.ssaWrapNilChk_ ts t #[p,strVal a,strVal b]) (Builtin.ssaWrapNilChk_ ts t #[rV f p,strVal a,strVal b]):=by
 induction p using vcs<;>simp only[bP,cf,br,aR,aZ,aM,aW,cq,bM,bK,aU,bq,aO,cg,bl,XB,XR]<;>first|exact .dm (DM.st (s:= "ssa:wrapnilchk: pointer expected"))|exact .dm (.Pn _ _ _ _)|skip
 rename_i c;exact SR.cE (v:=.pointer (some c)) (v':=.pointer (some (rA f c))) (by simp)
theorem oR(L:Lk Q P f)(xt:Z5)(x:Place)(pr:Bool)(w:Option String):SR Q P K f (RV f) (receiverAt xt x pr w) (receiverAt xt (rPl f x) pr w):=by
 unfold receiverAt;refine(dY L xt).aS λd=>?_
 have hp:∀elem,SR Q P K f (RV f)
   (do let ptr <- x.get xt
       let ptr <-match w with
        | some name=>Builtin.ssaWrapNilChk_ #[xt] xt #[ptr,strVal "",strVal name]
        | none=>pure ptr
       loadVar elem (<-asAddr ptr))
   (do let ptr <- (rPl f x).get xt
       let ptr <-match w with
        | some name=>Builtin.ssaWrapNilChk_ #[xt] xt #[ptr,strVal "",strVal name]
        | none=>pure ptr
       loadVar elem (<-asAddr ptr)):=λelem=>by
  refine(zy L xt x).mC λv=>?_;have tail:∀v,SR Q P K f (RV f) (do loadVar elem (<-asAddr v)) (do loadVar elem (<-asAddr (rV f v))):=λv=>(nO v).dR λa a' e=>by cases e;exact lP L elem a
  cases w with
  | none=>exact tail v
  | some nm=>exact(EM _ _ v _ _).mC λv=>tail v
 cases pr<;>cases d<;>first|exact zy L xt x|exact hp _|skip
 all_goals
  cases x with
  | val v=>exact .dm .st
  | var a=>exact .cE (by simp)
theorem uM(L:Lk Q P f)(t:Z5)(v:Z3)(path:Array FieldStep)(pr:Bool):SR Q P K f (RV f) (receiverVia t v path pr) (receiverVia t (rV f v) path pr):=
 (ll L path.toList t (.val v)).dR λr r' e=>by cases e;exact oR L _ _ _ _
theorem x5(L:Lk Q P f):∀(n:Nat) (t:Z5) (v:Z3) (name:String),SR Q P K f (λr r'=>r'=(r.1,rV f r.2)) (method n t v name) (method n t (rV f v) name)
 | 0,t,v,name=>.dm (.un E)
 | n+1,t,v,name=>by
  unfold method;refine(kk L t).aS λi=>?_
  cases i.methods.find? (λm=>m.name==name) with
  | none=>exact .dm .st
  | some m=>
   simp only;refine(ll L m.path.toList t (.val v)).dR λr r' e=>?_
   cases e
   simp only
   cases m.func with
   | none=>
    refine(zy L _ _).mC λv=>?_
    cases v<;>simp only[bP,cf,br,aR,aZ,aM,aW,cq,bM,bK,aU,bq,aO,cg,bl]<;>first|exact .dm .st|exact .dm (.rp E)|exact x5 L n _ _ _
   | some fp=>
    have⟨g,pr⟩:=fp;exact(oR L _ _ _ _).mC λv=>.ret E
def rBl(f:Re):Except (Option Bool) (Z5 × Option Z3)->Except (Option Bool) (Z5 × Option Z3)
 | .ok (t,v)=>.ok (t,v.map (rV f))
 | .error e=>.error e
theorem gJ(L:Lk Q P f):∀(ss:List FieldStep) (t:Z5) (x:Option Z3),SR Q P K f (λr r'=>r'=rBl f r) (followBlind ss t x) (followBlind ss t (x.map (rV f)))
 | [],t,x=>.ret E
 | s::rest,t,x=>by
  unfold followBlind;refine(dY L s.struct).aS λd=>?_
  cases d with
  | struct fs=>?_
  | _=>exact .dm .st
  simp only
  cases fs[s.index]? with
  | none=>exact .dm .st
  | some fd=>
   simp only
   cases x with
   | none=>
    cases s.deref
    ·exact gJ L rest _ none
    ·exact .ret E
   | some v=>
    cases s.deref<;>induction v using vcs<;>simp only[XB,bP,cf,br,aR,aZ,aM,aW,cq,bM,bK,aU,bq,aO,cg,bl,XR]<;>
     first|exact .dm .st|exact .ret E|exact gJ L rest _ none|exact(kh L _ _ _).mC λv=>gJ L rest _ (some v)
theorem tf(L:Lk Q P f):∀(n:Nat) (t:Z5) (v:Z3) (name:String),SR Q P K f Eq (nilAhead n t v name) (nilAhead n t (rV f v) name)
 | 0,t,v,name=>.db
 | n+1,t,v,name=>by
  unfold nilAhead;refine(kk L t).aS λi=>?_
  cases i.methods.find? (λm=>m.name==name) with
  | none=>exact .dm .st
  | some m=>
   simp only;refine(gJ L m.path.toList t (some v)).dR λr r' e=>?_
   cases e
   cases r with
   | error e=>exact .db
   | ok r=>
    have⟨xt,x⟩:=r;simp only[rBl]
    cases m.func with
    | none=>
     cases x with
     | none=>exact .db
     | some v=>cases v<;>simp only[XB,bP,cf,br,aR,aZ,aM,aW,cq,bM,bK,aU,bq,aO,cg,bl]<;>first|exact .dm .st|exact .db|exact tf L n _ _ _
    | some fp=>
     have⟨g,pr⟩:=fp
     cases pr
     ·refine(dY L xt).aS λd=>?_
      cases d<;>first|exact .db|skip
      cases x with
      | none=>exact .db
      | some v=>induction v using vcs<;>simp only[XB,XR,bP,cf,br,aR,aZ,aM,aW,cq,bM,bK,aU,bq,aO,cg,bl]<;>exact .db
     ·exact .db
inductive RN(Q P:Z4)(K:Kc)(f:Re):Next->Next->Prop
 | value (v:Z3):RN Q P K f (.value v) (.value (rV f v))
 | skip:RN Q P K f .skip .skip
 | enter (g:ϋ) (args:Array Z3) (fn:Func) (c:Code) (h1:Q.funcs[g]?=some fn) (h2:P.funcs[g]?=some fn) (h3:fn.body=some c) (h4:K c):RN Q P K f (.enter g args) (.enter g (args.map (rV f)))
 | round (l g:Nat) (tmps:Array Z3) (a b:Code) (h:K a/\K b):RN Q P K f (.round l g tmps a b) (.round (f l) g (tmps.map (rV f)) a b)
def oH(rs:Array ResultVar):Func:={ name:= "-",origin:= "-",params:=#[],resultTypes:=#[],nfree:=0,ntmps:=0,results:=rs,body:=none,norace:=false,tmpNames:=#[] }
theorem Je(rs:Array ResultVar):Extern.findNext (oH rs)=none:=Eq.trans (b:=Extern.findNext (oH #[])) E (by kernel_rfl)
theorem Jf(rs:Array ResultVar):Extern.find (oH rs)=none:=Eq.trans (b:=Extern.find (oH #[])) E (by kernel_rfl)
structure Fk(Q P:Z4)(K:Kc)(f:Re):Prop where
 lk:Lk Q P f
 size:P.funcs.size=Q.funcs.size
 fn:∀(g:ϋ) (qf:Func),Q.funcs[g]?=some qf->(∃rs,qf=oH rs)\/(∃c,P.funcs[g]?=some qf/\qf.body=some c/\(qf.name == "runtime.NumGoroutine")=false/\K c)\/
  (qf.body=none/\P.funcs[g]?=some qf/\∀args,SR Q P K f (RN Q P K f) (callFunc g args) (callFunc g (args.map (rV f))))
theorem DM.oH{d:Option (Nat × Bool)}{g:ϋ}{args:Array Z3}{rs:Array ResultVar}(h:Q.funcs[g]?=some (oH rs)):DM Q d (callFunc g args):=by
 unfold callFunc;refine .pg ?_;rw[h];have e1:((Par.oH rs).name == "runtime.NumGoroutine")=false:=by show ("-" == "runtime.NumGoroutine")=false;decide
 have e2:(Par.oH rs).body.isNone=true:=rfl;have e3:((Par.oH rs).name.endsWith ".init" && !(Par.oH rs).name.startsWith "(" && !(Par.oH rs).name.startsWith "gosem.")=false:=by show ("-".endsWith ".init" && ! "-".startsWith "(" && ! "-".startsWith "gosem.")=false;kernel_rfl
 simp only[e1,e2,e3,Je,Jf,XO,YC,Yp];exact .mark _ _ _ (.un E)
theorem mO(H:Fk Q P K f)(g:ϋ)(args:Array Z3):SR Q P K f (RN Q P K f) (callFunc g args) (callFunc g (args.map (rV f))):=by
 cases hq:Q.funcs[g]? with
 | none=>
  refine .dm ?_;unfold callFunc;refine .pg ?_;rw[hq];exact .st
 | some qf=>
  rcases H.fn g qf hq with ⟨rs,rfl⟩|⟨c,hp,hb,hn,hk⟩|⟨_,_,h⟩
  ·exact .dm (.oH hq)
  ·unfold callFunc
   refine .program _ _ ?_;simp only[Sem.bind,hq,hp,hn,hb,XO,YC,Option.isNone_some];exact .ret (.enter g args qf c hq hp hb hk)
  ·exact h args
theorem kN(H:Fk Q P K f)(recv:Z3)(name:String)(args:Array Z3):SR Q P K f (RN Q P K f) (callMethod recv name args) (callMethod (rV f recv) name (args.map (rV f))):=by
 cases recv<;>simp only[bP,cf,br,aR,aZ,aM,aW,cq,bM,bK,aU,bq,aO,cg,bl]<;>first|exact .dm .st|exact .dm (DM.rp (e:=.nilDeref) E)|skip
 rename_i t v;unfold callMethod;refine .program _ _ ?_;simp only[Sem.bind];have e:Q.types.size=P.types.size:=by have:=congrArg (λT:Tables=>T.types.size) H.lk.zr;exact this
 rw[e];refine(x5 H.lk _ t v name).dR λr r' e=>?_
 cases e
 simp only;have:=mO H r.1 (#[r.2]++args);simpa using this
def rT(f:Re):Target->Target
 | .fn fn cap=>.fn (rFn f fn) (cap.map (rV f))
 | t=>t
def okT:Target->Bool
 | .fn .. | .nil=>true
 | _=>false
def rD(f:Re)(d:Deferred):Deferred:=⟨rT f d.target,d.args.map (rV f)⟩
theorem uN(v:Z3)(args:Array Z3):SR Q P K f (λd d'=>d'=rD f d/\okT d.target=true) (Deferred.ofValue v args) (Deferred.ofValue (rV f v) (args.map (rV f))):=by
 cases v<;>simp only[bP,cf,br,aR,aZ,aM,aW,cq,bM,bK,aU,bq,aO,cg,bl]<;>first|exact .dm .st|skip
 ·exact .ret ⟨by simp[rD,rT],rfl⟩
 ·exact .ret ⟨by simp[rD,rT],rfl⟩
theorem uP{γ δ:Type}{R':γ->δ->Prop}{l:Nat}{k:Loop->Sem γ}{k':Loop->Sem δ}(h:∀r,(K r.assign/\K r.body)->(∀c,r.pending=some c->K c)->SR Q P K f R' (k r) (k' (rL f r))):SR Q P K f R' (Instr.getLoop l >>= k) (Instr.getLoop (f l) >>= k'):=by
 unfold Instr.getLoop;refine .getObj _ _ _ (λo o' ho=>?_) (DM.dR .st _)
 cases ho with
 | loop r h1 h2=>exact h r h1 h2
 | _=>exact .dm (DM.dR .st _)
theorem Jx(ps:List (Tmp × Z3)):∀tmps:Array Z3,(ps.map λx=>(x.1,rV f x.2)).foldl (λ(tmps:Array Z3) (x:Tmp × Z3)=>tmps.setIfInBounds x.1 x.2) (tmps.map (rV f))=(ps.foldl (λtmps x=>tmps.setIfInBounds x.1 x.2) tmps).map (rV f):=by
 induction ps with
 | nil=>intro t;rfl
 | cons x l ih=>intro t;simp only[Yd,List.foldl_cons];rw[<-ih];simp
theorem KH(l:Nat)(args:Array Z3):SR Q P K f (RN Q P K f) (Instr.yield l args) (Instr.yield (f l) (args.map (rV f))):=by
 unfold Instr.yield;refine uP λr h1 h2=>?_;simp only[ZZ,rL];refine .ite (.dm (DM.dR .st _)) ?_
 have e:(r.params.zip (args.map (rV f))).foldl (λ(tmps:Array Z3) (x:Tmp × Z3)=>tmps.setIfInBounds x.1 x.2) (r.tmps.map (rV f))=((r.params.zip args).foldl (λtmps x=>tmps.setIfInBounds x.1 x.2) r.tmps).map (rV f):=by
  have:=Jx (f:=f) (r.params.zip args).toList r.tmps;rw[<-Zb,<-Zb,<-this];congr 1;simp[Array.toList_zip,List.zip_map_right]
 rw[e];exact .ret (.round _ _ _ _ _ h1)
theorem x6(H:Fk Q P K f)(t:Target)(args:Array Z3)(h:okT t=true):SR Q P K f (RN Q P K f) (invoke t args) (invoke (rT f t) (args.map (rV f))):=by
 cases t with
 | nil=>exact .dm (DM.rp (e:=.nilDeref) E)
 | fn fn cap=>
  cases fn with
  | func g=>
   have:=mO H g (args++cap);rw[ZH]at this;exact this
  | method name=>
   show SR Q P K f (RN Q P K f) (invoke (.fn (.method name) cap) args) (invoke (.fn (.method name) (cap.map (rV f))) (args.map (rV f)))
   unfold invoke;simp only[Yl]
   cases args[0]? with
   | none=>exact .dm .st
   | some recv=>
    have:=kN H recv name (args.extract 1 args.size);simpa using this
  | methodOf ty name=>
   show SR Q P K f (RN Q P K f) (invoke (.fn (.methodOf ty name) cap) args) (invoke (.fn (.methodOf ty name) (cap.map (rV f))) (args.map (rV f)))
   unfold invoke;simp only[Yl]
   cases args[0]? with
   | none=>exact .dm .st
   | some recv=>
    refine(dY H.lk ty).aS λd=>?_;have h1:=kN H recv name (args.extract 1 args.size);have h2:=kN H (.iface ty recv) name (args.extract 1 args.size)
    cases d<;>first|(simpa using h1)|(simpa using h2)
  | via ty path g pr=>
   show SR Q P K f (RN Q P K f) (invoke (.fn (.via ty path g pr) cap) args) (invoke (.fn (.via ty path g pr) (cap.map (rV f))) (args.map (rV f)))
   unfold invoke;simp only[Yl]
   cases args[0]? with
   | none=>exact .dm .st
   | some recv=>
    refine(uM H.lk ty recv path pr).mC λv=>?_;have h1:=mO H g (#[v]++args.extract 1 args.size);simpa using h1
  | yield l=>exact KH l args
 | _=>cases h
theorem pq{γ δ:Type}{R':γ->δ->Prop}{l:Nat}{c:Loop->Bool}{g:Loop->Loop}{k:Loop->Sem γ}{k':Loop->Sem δ}{h:Loop->Sem γ}{h':Loop->Sem δ}(hg:∀r,g (rL f r)=rL f (g r))(ha:∀r,(g r).assign=r.assign/\(g r).body=r.body)
  (hp:∀r,(∀c,r.pending=some c->K c)->∀c,(g r).pending=some c->K c) (e1:∀r,c r=true->h r=.setObj l (.loop (g r)) (k r)) (hc:∀r,c (rL f r)=c r) (e2:∀r,c r=true->h' r=.setObj (f l) (.loop (g r)) (k' r))
  (e3:∀r,c r=false->DM Q none (h r)) (hk:∀r,(∀c,r.pending=some c->K c)->SR Q P K f R' (k r) (k' (rL f r))):SR Q P K f R' (Instr.getLoop l >>= h) (Instr.getLoop (f l) >>= h'):=by
 unfold Instr.getLoop;refine .getSet l _ _ (λo=>∃r,o=.loop r/\c r=true) (λo=>match o with|.loop r=>.loop (g r)|o=>o) (λo=>match o with|.loop r=>.loop (g r)|o=>o) (λo=>match o with|.loop r=>k r|_=>stuck "") (λo=>match o with|.loop r=>k' r|_=>stuck "") (DM.dR .st _) (λ_ _ h=>by have⟨_,e,_⟩:=h;cases e) (λo o' ho hc=>?_) (λo o' ho hc=>?_) (λo o' ho hc=>by obtain⟨r,rfl,_⟩:=hc;exact λ_ _ _ _ _ _ h=>by cases h) (λo o' ho hc=>?_)
 ·cases ho with
  | loop r h1 h2=>
   have:c r=false:=by
    cases hcr:c r with
    | false=>rfl
    | true=>exact absurd ⟨r,rfl,hcr⟩ hc
   exact e3 r this
  | _=>exact DM.dR .st _
 ·obtain⟨r,rfl,Y⟩:=hc
  cases ho with
  | loop r h1 h2=>
   refine⟨e1 r Y,e2 _ ((hc r).trans Y),?_⟩;show OR K f (.loop (g r)) (.loop (g (rL f r)))
   rw[hg];exact .loop _ (by rw[(ha r).1,(ha r).2];exact h1) (hp r h2)
 ·obtain⟨r,rfl,Y⟩:=hc
  cases ho with
  | loop r h1 h2=>exact hk r h2
theorem xe(l:Nat):SR Q P K f Eq (Instr.beginRound l) (Instr.beginRound (f l)):=by
 unfold Instr.beginRound;refine pq (c:=λ_=>true) (g:=λr=>{ r with state:=.busy }) (k:=λr=>_) (k':=λr=>_) (λr=>rfl) (λr=>⟨rfl,rfl⟩) (λr h=>h) (λr _=>rfl) (λr=>rfl) (λr _=>rfl) (λr h=>by cases h) (λr h=>?_);simp only[rL,Sem.bind]
 cases r.state<;>first|exact .db|exact .dm (.rp E)
theorem mM(l:Nat)(j:Option Code)(hj:∀c,j=some c->K c):SR Q P K f (RV f) (Instr.endRound l j) (Instr.endRound (f l) j):=by
 unfold Instr.endRound;refine pq (c:=λ_=>true) (g:=λr=>{ r with state:=if j.isNone then .ready else .done,pending:=j }) (k:=λr=>_) (k':=λr=>_) (λr=>rfl) (λr=>⟨rfl,rfl⟩) (λr h=>hj) (λr _=>rfl) (λr=>rfl) (λr _=>rfl) (λr h=>by cases h) (λr h=>?_);exact .cE (by simp)
theorem EU(l:Nat):SR Q P K f (λc c'=>c=c'/\∀x,c=some x->K x) (Instr.endLoop l) (Instr.endLoop (f l)):=by
 unfold Instr.endLoop;refine pq (c:=λr=>!(r.state == .busy)) (g:=λr=>{ r with state:=.exhausted }) (k:=λr=>Pure.pure r.pending) (k':=λr=>Pure.pure r.pending) (λr=>rfl) (λr=>⟨rfl,rfl⟩) (λr h=>h) (λr h=>?_) (λr=>rfl) (λr h=>?_) (λr h=>?_) (λr h=>?_)
 ·simp only[Yg]at h;simp only[h,XO,YC];rfl
 ·simp only[Yg]at h;simp only[h,XO,YC];rfl
 ·simp only[Y6]at h;simp only[h,Yp];exact DM.dR (.rp E) _
 ·exact .ret ⟨rfl,h⟩
theorem tQ(b:Nat):SR Q P K f (λc c'=>c=[]/\c'=[]) (Instr.takeDeferred b) (Instr.takeDeferred (f b)):=by
 unfold Instr.takeDeferred;refine .getSet b _ _ (λo=>o=.deferred (some [])) (λ_=>.deferred none) (λ_=>.deferred none) (λ_=>Pure.pure []) (λ_=>Pure.pure []) .st (λ_ _ h=>by cases h) (λo o' ho hc=>?_) (λo o' ho hc=>?_) (λo o' ho hc=>λ_ _ _ _ _ _ h=>by cases h) (λo o' ho hc=>.ret ⟨rfl,rfl⟩)
 ·cases ho with
  | aN8=>exact absurd E hc
  | _=>exact .st
 ·subst hc
  cases ho
  exact⟨rfl,rfl,.defn⟩
def rM(f:Re)(d:Deferred):Deferred:=match d.target with
 | .collected r=>{ target:=.collected (f r),args:=#[] }
 | _=>d
theorem zC(fn:ϋ)(tmps:Array Z3)(params:Array Tmp)(a b:Code)(ha:K a/\K b)(Gp:Option Nat) :
  SR Q P K f (λr r'=>r'=(f r.1,r.2.map (rM f))/\(r.2=[]\/∃m,r.2=[{ target:=.collected m,args:=#[] }])) (Instr.enterLoop fn tmps params a b Gp) (Instr.enterLoop fn (tmps.map (rV f)) params a b (Gp.map f)):=by
 unfold Instr.enterLoop
 cases Gp with
 | none=>
  refine .new _ _ _ _ .aN8 (λ_ _ _ _ _ _ h=>by cases h) λr=>?_;exact .new _ _ _ _ (OR.loop { state:=.ready,pending:=none,fn,tmps,params,assign:=a,body:=b,defers:=r } ha (λc h=>by cases h)) (λ_ _ _ _ _ _ h=>by cases h) λl=>.pure _ _ ⟨rfl,.inr ⟨r,rfl⟩⟩
 | some l=>
  simp only[XB];refine uP λr h1 h2=>?_;exact .new _ _ _ _ (OR.loop { state:=.ready,pending:=none,fn,tmps,params,assign:=a,body:=b,defers:=r.defers } ha (λc h=>by cases h)) (λ_ _ _ _ _ _ h=>by cases h) λl=>.pure _ _ ⟨rfl,.inl E⟩
theorem BN{α:Type}{g g':α->Sem Z3}:∀{xs:List α},(∀x∈xs,SR Q P K f (RV f) (g x) (g' x))->SR Q P K f (λr r'=>r'=r.map (rV f)) (xs.mapM g) (xs.mapM g')
 | [],_=>by simp only[List.mapM_nil];exact .ret E
 | x::xs,h=>by
  simp only[List.mapM_cons];exact(h x (by simp)).mC λy=>(BN λz hz=>h z (by simp[hz])).dR λys ys' e=>by cases e;exact .ret E
theorem vT(tmps:Array Z3)(t:Nat):(tmps.map (rV f)).getD t undef=rV f (tmps.getD t undef):=by
 simp only[XN,Yl]
 cases tmps[t]?<;>simp
theorem uL(L:Lk Q P f)(fn:Func)(tmps:Array Z3):SR Q P K f (RV f) (results fn tmps) (results fn (tmps.map (rV f))):=by
 unfold results;rw[Array.mapM_eq_mapM_toList,Array.mapM_eq_mapM_toList,map_eq_pure_bind,map_eq_pure_bind,bind_assoc,bind_assoc];refine SR.dR (R:=λr r'=>r'=r.map (rV f)) (BN λx hx=>?_) λr r' e=>?_
 ·cases x with
  | tmp t=>exact .cE (vT _ _)
  | cell a t=>
   simp only[vT];exact(nO _).dR λa a' e=>by cases e;exact lP L t a
 ·cases e
  refine .cE ?_
  match r with
  | []=>simp
  | [x]=>simp
  | x::y::l=>simp
def flat1:Z3->Bool
 | .bool _|.int .. | .float .. | .complex .. | .string _|.pointer none|.slice none _ _|.map none|.chan none|.nilFunc|.nilIface=>true
 | _=>false
def flatV:Z3->Bool
 | .agg cs=>cs.all flat1
 | .tuple cs=>cs.size==0
 | v=>flat1 v
theorem yW{f:Re}{v:Z3}(h:flat1 v=true):rV f v=v:=by
 induction v using vcs<;>simp[flat1]at h<;>simp
 ·rename_i a l c;cases a<;>simp_all [flat1]
 ·rename_i r;cases r<;>simp_all [flat1]
 ·rename_i r;cases r<;>simp_all [flat1]
theorem sR{f:Re}{v:Z3}(h:flatV v=true):rV f v=v:=by
 cases v<;>first|exact yW h|skip
 ·rename_i cs
  simp only[flatV,Yi]at h;simp only[cg];congr 1;have:cs.map (rV f)=cs.map id:=Zk λx hx=>yW (h x hx);simpa using this
 ·rename_i cs
  simp only[flatV,beq_iff_eq]at h;have:cs=#[]:=Array.eq_empty_of_size_eq_zero h;subst this;simp
def BB(NG:Nat):Z6->Bool
 | .const v=>flatV v
 | .global _=>false
 | _=>true
def mapOk(P:Z4)(t:Z5):Bool:=match P.underlying t with
 | some (.map k _)=>(match P.underlying k with|some (.int _)=>true|_=>false)&&eqOk P 20 k
 | _=>false
def okCallee(NG:Nat)(P:Z4)(c:Call):Bool:=
 match c.callee with
 | .value x=>BB NG x
 | .builtin b=>(match b with
  | .len|.min|.max|.real|.imag|.complex=>true
  | .append=>(match c.argTypes[1]? with
   | some t=>(match P.underlying t with
    | some (.slice _)=>true
    | _=>false)
   | none=>false)
  | _=>false)
 | _=>false
def numC(P:Z4)(s d:Z5):Bool:=(match P.underlying d with|some (.int _)|some (.float _)=>true|_=>false)&&(match P.underlying s with|some (.int _)|some (.float _)=>true|_=>false)
def u8C(P:Z4)(e:Z5):Bool:=match P.underlying e with|some (.int .u8)=>true|_=>false
def strC(NG:Nat)(P:Z4)(s d:Z5):Bool:=match P.underlying s,P.underlying d with
 | some (.slice e),some .string=>u8C P e
 | some .string,some (.slice e)=>u8C P e
 | some (.slice _),some (.slice e)=>u8C P e&&s==d&&Nat.blt 0 NG
 | _,_=>false
def okOp(NG:Nat)(P:Z4):Op->Bool
 | .move x|.assign x|.box _ x|.load _ x|.nilCheck x|.unOp _ _ x|.fieldAddr _ x _|.extract x _=>BB NG x
 | .pick c a b=>BB NG c&&BB NG a&&BB NG b
 | .alloc _=>true
 | .build _ ps|.buildSlice _ _ ps=>ps.all λx=>BB NG x.2
 | .store _ a x|.indexAddr _ a x=>BB NG a&&BB NG x
 | .binOp op t x y _=>BB NG x&&BB NG y&&binOk P op t
 | .convert s d x=>BB NG x&&(numC P s d||strC NG P s d)
 | .makeFunc fn first cap=>(match fn with|.func _=>true|_=>false)&&first.all (BB NG)&&cap.all (BB NG)
 | .call c=>c.args.all (BB NG)&&okCallee NG P c
 | .makeSlice _ a x|.index _ a x=>BB NG a&&BB NG x
 | .slice _ x lo hi mx=>BB NG x&&lo.all (BB NG)&&hi.all (BB NG)&&mx.all (BB NG)
 | .sliceToArrayPointer _ x|.makeInterface _ x|.field _ x _|.panic x=>BB NG x
 | .makeMap _ r=>r.all (BB NG)
 | .lookup t a x _=>BB NG a&&BB NG x&&mapOk P t
 | .mapUpdate t m k x=>BB NG m&&BB NG k&&BB NG x&&mapOk P t
 | _=>false
variable{NG:Nat}
theorem Aa{ρ GD:Z6->Z3}(iY:∀x,BB NG x=true->GD x=rV f (ρ x)){xs:Array Z6}(h:xs.all (BB NG)=true):xs.map GD=(xs.map ρ).map (rV f):=by
 simp only[Yi]at h;rw[Array.map_map];exact Zk λx hx=>iY x (h x hx)
theorem uv{ρ GD:Z6->Z3}(iY:∀x,BB NG x=true->GD x=rV f (ρ x)){x:Option Z6}(h:x.all (BB NG)=true):x.map GD=(x.map ρ).map (rV f):=by
 cases x with
 | none=>rfl
 | some x=>simp only[XB];rw[iY x h]
theorem yu{ρ GD:Z6->Z3}(iY:∀x,BB NG x=true->GD x=rV f (ρ x)){xs:Array (Nat × Z6)}(h:xs.all (λx=>BB NG x.2)=true):xs.map (λx=>(x.1,GD x.2))=(xs.map λx=>(x.1,ρ x.2)).map λx=>(x.1,rV f x.2):=by
 simp only[Yi]at h;rw[Array.map_map];exact Zk λx hx=>by simp[iY x.2 (h x hx)]
theorem BQ(L:Lk Q P f)(src dst:Z5)(x:Z3)(J:∀d,P.underlying dst=some d->∃k,d=.float k)(hs:∀d,P.underlying src=some d->(∃k,d=.int k)\/∃k,d=.float k):SR Q P K f (RV f) (convert src dst x) (convert src dst (rV f x)):=by
 unfold convert;refine(eH L src).dR λs s' ⟨e,h⟩=>?_;subst e;refine(eH L dst).dR λd d' ⟨e,h'⟩=>?_;subst e;obtain⟨k,rfl⟩:=J _ h';rcases hs _ h with ⟨j,rfl⟩|⟨j,rfl⟩<;>induction x using vcs<;>simp only[bP,cf,br,aR,aZ,aM,aW,cq,bM,bK,aU,bq,aO,cg,bl,XR,XB]<;>first|exact .dm .st|exact .dm (.un E)|exact .cE (by simp)|exact(mi _ _ _).rv
theorem zx(L:Lk Q P f)(t:Z5)(l c:Z3):SR Q P K f (RV f) (Instr.makeSlice t l c) (Instr.makeSlice t (rV f l) (rV f c)):=by
 unfold Instr.makeSlice;refine(dY L t).aS λd=>?_
 cases d with
 | slice elem=>?_
 | _=>exact .dm .st
 refine(qa l).aS λlen=>(qa c).aS λcap=>(kk L elem).aS λi=>?_;simp only
 split
 ·refine .dm ?_
  split
  ·exact DM.dR (.rp E) _
  ·split
   ·exact DM.dR (.rp E) _
   ·refine .choose _ _ _ λn=>?_
    simp only[Sem.bind];exact DM.dR (.rp E) _
 ·refine(uS _).aS λ_=>(dx L elem).aS λs=>?_
  have fin:∀z:Array Z3,z.map (rV f)=z->SR Q P K f (RV f)
    (do let a <-newRow elem ((Array.range ((IntKind.i64.wrap cap).toNat*s)).map (z[· % z.size]!));Pure.pure (Value.slice (some a) (IntKind.i64.wrap len).toNat (IntKind.i64.wrap cap).toNat))
    (do let a <-newRow elem ((Array.range ((IntKind.i64.wrap cap).toNat*s)).map (z[· % z.size]!));Pure.pure (Value.slice (some a) (IntKind.i64.wrap len).toNat (IntKind.i64.wrap cap).toNat)):=λz hz=>by
   have:=nN (Q:=Q) (P:=P) (K:=K) (f:=f) elem ((Array.range ((IntKind.i64.wrap cap).toNat*s)).map (z[· % z.size]!));rw[sB hz]at this;exact this.dR λa a' e=>by cases e;exact .cE (by simp)
  by_cases h3:(IntKind.i64.wrap cap).toNat*s=0
  ·simp only[Xu h3]
   exact fin #[] (by simp)
  ·simp only[Xr h3]
   exact(G1 L elem).dR λz z' ⟨e,hz⟩=>by
    subst e;exact fin z.cells (jo hz)
theorem fh(x:Z3)(y:Nat)(c:BoundsCode):SR Q P K f Eq (Instr.sliceBound x y c) (Instr.sliceBound (rV f x) y c):=by
 unfold Instr.sliceBound;refine(lQ x).aS λi=>?_;exact .ite .db (.dm .bp)
theorem gI(s:Bool)(len cap:Nat)(lo hi mx:Option Z3):SR Q P K f Eq (Instr.sliceBounds s len cap lo hi mx) (Instr.sliceBounds s len cap (lo.map (rV f)) (hi.map (rV f)) (mx.map (rV f))):=by
 unfold Instr.sliceBounds
 cases mx with
 | none=>
  simp only[XR,pure_bind,Option.isSome_none]
  cases hi with
  | none=>
   simp only[XR,pure_bind]
   cases lo with
   | none=>exact .db
   | some v=>exact(fh _ _ _).aS λl=>.db
  | some v=>
   refine(fh _ _ _).aS λh=>?_
   cases lo with
   | none=>exact .db
   | some v=>exact(fh _ _ _).aS λl=>.db
 | some v=>
  refine(fh _ _ _).aS λm=>?_
  cases hi with
  | none=>exact .dm (DM.dR .st _)
  | some v=>
   refine(fh _ _ _).aS λh=>?_
   cases lo with
   | none=>exact .db
   | some v=>exact(fh _ _ _).aS λl=>.db
theorem KJ(L:Lk Q P f)(t:Z5)(x:Z3)(lo hi mx:Option Z3):SR Q P K f (RV f) (Instr.slice t x lo hi mx) (Instr.slice t (rV f x) (lo.map (rV f)) (hi.map (rV f)) (mx.map (rV f))):=by
 unfold Instr.slice;refine(dY L t).aS λd=>?_
 cases d<;>induction x using vcs<;>simp only[bP,cf,br,aR,aZ,aM,aW,cq,bM,bK,aU,bq,aO,cg,bl,XR,XB]<;>first|exact .dm .st|exact .dm (DM.dR .st _)|skip
 ·rename_i s
  cases mx with
  | some v=>exact .dm (DM.dR .st _)
  | none=>
   simp only[XR,Option.isSome_none,XO,YC];exact(gI _ _ _ lo hi none).aS λb=>.cE (by simp)
 all_goals try
  have ha:=λx=>nO (Q:=Q) (P:=P) (K:=K) (f:=f) (.pointer x);simp only[aM]at ha
  first|refine(ha none).dR λa a' e=>?_|refine(ha (some _)).dR λa a' e=>?_
  cases e
  refine(dY L _).aS λd=>?_
  cases d with
  | array n el=>
   refine(gI _ _ _ _ _ _).aS λb=>(dx L el).aS λz=>.cE ?_;simp only[aW,XB]
   split
   ·rfl
   ·rw[mU]
  | _=>exact .dm .st
 ·refine(gI _ _ _ _ _ _).aS λb=>(dx L _).aS λz=>.cE ?_
  rename_i a _ _;simp only[aW]
  split
  ·rfl
  ·cases a with
   | none=>rfl
   | some a=>simp only[XB,mU]
theorem EO(L:Lk Q P f)(t:Z5)(x:Z3)(lo hi mx:Option Z3):SR Q P K f (RV f) (Instr.sliceAt t x lo hi mx) (Instr.sliceAt t (rV f x) (lo.map (rV f)) (hi.map (rV f)) (mx.map (rV f))):=by
 unfold Instr.sliceAt;refine(dY L t).aS λd=>?_
 cases d with
 | array n el=>
  refine(kg x).dR λa a' e=>?_
  cases e
  refine(gI _ _ _ _ _ _).aS λb=>(dx L el).aS λz=>.cE ?_;simp only[aW,XB]
  split
  ·rfl
  ·rw[mU]
 | _=>exact KJ L t x lo hi mx
theorem EX(L:Lk Q P f)(t:Z5)(x:Z3):SR Q P K f (RV f) (Instr.arrayAt t x) (Instr.arrayAt t (rV f x)):=by
 unfold Instr.arrayAt;refine(dY L t).aS λd=>?_
 cases d with
 | array n e=>
  cases x<;>simp only[bP,cf,br,aR,aZ,aM,aW,cq,bM,bK,aU,bq,aO,cg,bl]<;>first|exact .dm .st|skip
  exact .ite (.dm (.rp E)) (.cE (by simp))
 | _=>exact .dm .st
theorem KP(L:Lk Q P f)(t:Z5)(x:Z3)(i:Nat):SR Q P K f (RV f) (Instr.field t x i) (Instr.field t (rV f x) i):=by
 unfold Instr.field;refine(dY L t).aS λd=>?_
 cases d with
 | struct fs=>
  simp only
  cases fs[i]? with
  | none=>exact .dm .st
  | some fd=>exact(KT x).dR λa a' e=>by cases e;exact kh L _ _ _
 | _=>exact .dm .st
theorem KM(L:Lk Q P f)(t:Z5)(x i:Z3):SR Q P K f (RV f) (Instr.index t x i) (Instr.index t (rV f x) (rV f i)):=by
 unfold Instr.index;refine(lQ i).aS λi=>(dY L t).aS λd=>?_
 cases d<;>cases x<;>simp only[bP,cf,br,aR,aZ,aM,aW,cq,bM,bK,aU,bq,aO,cg,bl]<;>first|exact .dm .st|skip
 ·split
  ·exact .cE (by simp)
  ·exact .dm .bp
 ·exact .ite ((dx L _).aS λn=>kh L _ _ _) (.dm .bp)
theorem EW(ts:Array Z5)(t:Z5)(args:Array Z3):SR Q P K f (RV f) (Builtin.complex_ ts t args) (Builtin.complex_ ts t (args.map (rV f))):=by
 have⟨l⟩:=args;simp only[YK]
 match l with
 | []=>exact .dm .st
 | [x]=>exact .dm .st
 | [x,y]=>
  cases x<;>first|exact .dm .st|skip
  all_goals cases y<;>first|exact .dm .st|skip
  simp only[Yd,Zq,br];exact .ite (.cE (by simp)) (.dm .st)
 | _::_::_::_=>exact .dm .st
theorem si(L:Lk Q P f)(t:Z5)(x:Z3):SR Q P K f (RV f) (Instr.makeInterface t x) (Instr.makeInterface t (rV f x)):=by
 unfold Instr.makeInterface;refine(dY L t).aS λd=>?_
 cases d<;>first|exact .dm .st|exact .cE (by simp)
theorem NY(x:Z3):DM Q none (Instr.panic x):=by
 unfold Instr.panic
 cases x<;>first|exact .st|exact .halt _ _ E|skip
 have hn:DM Q none (runtimePanic .panicNil:Sem Z3):=by
  unfold runtimePanic;refine .pg ?_;simp only;unfold elemOf underlying;simp only[bind_assoc];refine .pg ?_
  cases Q.underlying Q.rt.panicNilError with
  | none=>exact DM.dR .st _
  | some d=>
   cases d<;>simp only[pure_bind]<;>first|exact DM.dR .st _|skip
   exact .Qu none (Value.agg #[]).cells _ (0,0) (λr=>.panic (.iface Q.rt.panicNilError (.pointer (some ⟨r,0,none⟩)))) λ_=>rfl
 unfold Instr.panicnil;simp only[bind_assoc];refine .sys _ _ _ λr=>?_;simp only[Sem.bind]
 cases r<;>first|exact DM.dR .st _|exact .st|skip
 refine .pg ?_;simp only[pure_bind]
 split
 ·exact .halt _ _ E
 ·exact hn
theorem ER(L:Lk Q P f)(t:Z5)(r:Option Z3):SR Q P K f (RV f) (Instr.makeMap t r) (Instr.makeMap t (r.map (rV f))):=by
 unfold Instr.makeMap
 have nw:SR Q P K f (RV f) (do Pure.pure (Value.map (some (<-newObj (.map #[] 0))))) (do Pure.pure (Value.map (some (<-newObj (.map #[] 0))))):=
  .new _ _ _ _ (by have:=OR.map (K:=K) (f:=f) #[] 0;simpa using this) (λ_ _ _ _ _ _ h=>by cases h) λr=>.cE (by simp)
 cases r with
 | none=>exact nw
 | some v=>
  refine(dY L t).aS λd=>?_
  cases d with
  | map k e=>exact(qa v).aS λ_=>nw
  | _=>exact .dm (DM.dR .st _)
theorem BT(j:IntKind)(a b:Z3):Instr.sameNow (.int j) (rV f a) (rV f b)=Instr.sameNow (.int j) a b:=by
 cases a<;>simp only[bP,cf,br,aR,aZ,aM,aW,cq,bM,bK,aU,bq,aO,cg,bl]<;>first|rfl|skip
 cases b<;>simp only[bP,cf,br,aR,aZ,aM,aW,cq,bM,bK,aU,bq,aO,cg,bl]<;>rfl
def rO(f:Re)(r:Option (Nat × Z3)):Option (Nat × Z3):=r.map λx=>(x.1,rV f x.2)
theorem tF(j:IntKind)(k:Z3):∀(es:List MapEntry) (i:Nat),Instr.findNow (.int j) (rV f k) (es.map (rE f)) i=(Instr.findNow (.int j) k es i).map (rO f)
 | [],i=>rfl
 | e::es,i=>by
  have ih:=tF j k es (i+1);simp only[Yd,Instr.findNow];rw[show (rE f e).key=rV f e.key from rfl,BT]
  cases Instr.sameNow (.int j) k e.key with
  | none=>rfl
  | some b=>cases b with
   | true=>rfl
   | false=>exact ih
def oB(x y:Z3):Prop:=∃j n,x=.int j n/\y=.int j n
theorem zA(L:Lk Q P f){kt:Z5}{j:IntKind}(hj:P.underlying kt=some (.int j))(he:eqOk P 20 kt=true)(x y:Z3):SR Q P K f (λb b'=>b=b'/\(b=true->oB x y)) (Op.equal kt x y) (Op.equal kt (rV f x) (rV f y)):=by
 obtain⟨N,hN⟩:∃N,Op.maxDepth=N+1:=⟨9999,rfl⟩;unfold Op.equal;rw[hN];unfold Op.equalIn;refine(eH L kt).dR λd d' ⟨e,hu⟩=>?_;subst e;rw[hj]at hu
 cases hu
 unfold eqOk at he;rw[hj]at he
 have hi:∀i,P.info? kt=some i->∀u,i.desc≠.named "sync.copyChecker" u:=λi hi u hu=>by
  simp only at he;rw[hi]at he;simp[hu]at he
 have hp:=dm_pp (Q:=Q) L kt hi
 induction x using vcs<;>induction y using vcs<;>simp only[bP,cf,br,aR,aZ,aM,aW,cq,bM,bK,aU,bq,aO,cg,bl,XR,XB]<;>first|exact .dm .st|exact .dm (.un E)|exact .dm (hp _ _)|skip
 ·split
  ·rename_i e
   exact .ret ⟨rfl,λh=>⟨_,_,rfl,by rw[e,eq_of_beq h]⟩⟩
  ·exact .dm .st
 ·rename_i k n a
  rcases n with (_|m)|m<;>first|exact .ret ⟨rfl,λh=>by cases h⟩|exact .dm (.un E)
 ·rename_i a k n
  rcases n with (_|m)|m<;>first|exact .ret ⟨rfl,λh=>by cases h⟩|exact .dm (.un E)
def Kq(k:Z3)(es:List MapEntry)(i:Nat)(r:Option (Nat × Z3)):Prop:=∀n v,r=some (n,v)->i<=n/\∃e,es[n - i]?=some e/\oB k e.key
theorem Kq.cons{k:Z3}{es:List MapEntry}{i:Nat}{r:Option (Nat × Z3)}(h:Kq k es (i+1) r)(e:MapEntry):Kq k (e::es) i r:=λn v Y=>by
 have⟨h1,e',h2,h3⟩:=h n v Y;refine⟨by omega,e',?_,h3⟩;rw[show n - i=(n - (i+1))+1 by omega];exact h2
theorem Kq.here{k:Z3}{es:List MapEntry}{i:Nat}{e:MapEntry}(h:oB k e.key):Kq k (e::es) i (some (i,e.val)):=λn v Y=>by
 cases Y
 exact⟨Xw _,e,by simp,h⟩
theorem oS(L:Lk Q P f){kt:Z5}{j:IntKind}(hj:P.underlying kt=some (.int j))(he:eqOk P 20 kt=true)(k:Z3):∀(es:List MapEntry) (i:Nat),SR Q P K f (λr r'=>r'=rO f r/\Kq k es i r) (Instr.findAsking kt k es i) (Instr.findAsking kt (rV f k) (es.map (rE f)) i)
 | [],i=>.ret ⟨rfl,λ_ _ h=>by cases h⟩
 | e::es,i=>by
  have ih:=oS L hj he k es (i+1);simp only[Yd,Instr.findAsking];refine(zA L hj he k e.key).dR λb b' ⟨hb,hk⟩=>?_;subst hb
  cases b with
  | true=>exact .ret ⟨rfl,.here (hk E)⟩
  | false=>exact ih.imp λr r' ⟨h1,h2⟩=>⟨h1,h2.cons e⟩
theorem aE5(j:IntKind)(k:Z3):∀(es:List MapEntry) (i:Nat) (r:Option (Nat × Z3)),Instr.findNow (.int j) k es i=some r->Kq k es i r
 | [],i,r,h=>λn v Y=>by simp only[Instr.findNow,XS]at h;subst h;cases Y
 | e::es,i,r,h=>by
  simp only[Instr.findNow]at h
  cases hs:Instr.sameNow (.int j) k e.key with
  | none=>rw[hs]at h;cases h
  | some b=>
   rw[hs]at h
   cases b with
   | false=>exact(aE5 j k es (i+1) r h).cons e
   | true=>
    simp only[XS]at h;subst h;refine .here ?_;generalize e.key=y at hs
    cases k<;>first|(simp[Instr.sameNow]at hs;done)|skip
    cases y<;>first|(simp[Instr.sameNow]at hs;done)|skip
    simp only[Instr.sameNow]at hs
    split at hs
    ·rename_i hk
     exact⟨_,_,rfl,by rw[hk,eq_of_beq (YT hs)]⟩
    ·cases hs
theorem uQ(L:Lk Q P f){kt:Z5}{j:IntKind}(hj:P.underlying kt=some (.int j))(he:eqOk P 20 kt=true)(k:Z3)(es:Array MapEntry):SR Q P K f (λr r'=>r'=rO f r/\Kq k es.toList 0 r) (Instr.findKey kt k es.toList) (Instr.findKey kt (rV f k) (es.map (rE f)).toList):=by
 unfold Instr.findKey;refine(eH L kt).dR λd d' ⟨e,hu⟩=>?_;subst e;rw[hj]at hu
 cases hu
 rw[Array.toList_map];simp only[tF]
 cases hf:Instr.findNow (.int j) k es.toList 0 with
 | none=>exact oS L hj he k _ _
 | some r=>exact .ret ⟨rfl,aE5 j k _ _ _ hf⟩
theorem ti(L:Lk Q P f){kt:Z5}{j:IntKind}(hj:P.underlying kt=some (.int j))(b:Bool)(n:Nat)(k:Z3):SR Q P K f Eq (Instr.checkKey b (n+1) kt k) (Instr.checkKey b (n+1) kt (rV f k)):=by
 unfold Instr.checkKey;refine(eH L kt).dR λd d' ⟨e,hu⟩=>?_;subst e;rw[hj]at hu
 cases hu
 cases k<;>simp only[bP,cf,br,aR,aZ,aM,aW,cq,bM,bK,aU,bq,aO,cg,bl]<;>exact .db
theorem Cp(L:Lk Q P f){t:Z5}(h:mapOk P t=true):∃k e j,P.underlying t=some (.map k e)/\P.underlying k=some (.int j)/\eqOk P 20 k=true:=by
 unfold mapOk at h
 cases hu:P.underlying t with
 | none=>rw[hu]at h;cases h
 | some d=>
  rw[hu]at h
  cases d with
  | map k e=>
   simp only[Xs]at h;have⟨h1,h2⟩:=h
   cases hk:P.underlying k with
   | none=>rw[hk]at h1;cases h1
   | some d=>rw[hk]at h1;cases d with
    | int j=>exact⟨k,e,j,rfl,hk,h2⟩
    | _=>cases h1
  | _=>cases h
theorem sr_lookup(L:Lk Q P f)(t:Z5)(x k:Z3)(c:Bool)(h:mapOk P t=true):SR Q P K f (RV f) (Instr.lookup t x k c) (Instr.lookup t (rV f x) (rV f k) c):=by
 have⟨kt,e,j,h1,h2,h3⟩:=Cp L h;obtain⟨N,hN⟩:∃N,10000=N+1:=⟨9999,rfl⟩;unfold Instr.lookup;rw[hN];refine(eH L t).dR λd d' ⟨e',hu⟩=>?_;subst e';rw[h1]at hu
 cases hu
 have rest:∀es:Array MapEntry,SR Q P K f (RV f)
   (do Instr.checkKey es.isEmpty (N + 1) kt k
       let (v,ok) <-match <-Instr.findKey kt k es.toList with
        | some (_,v)=>Pure.pure (v,true)
        | none=>Pure.pure (<-zeroValue e,false)
       Pure.pure (if c then .tuple #[v,.bool ok] else v))
   (do Instr.checkKey (es.map (rE f)).isEmpty (N + 1) kt (rV f k)
       let (v,ok) <-match <-Instr.findKey kt (rV f k) (es.map (rE f)).toList with
        | some (_,v)=>Pure.pure (v,true)
        | none=>Pure.pure (<-zeroValue e,false)
       Pure.pure (if c then .tuple #[v,.bool ok] else v)):=λes=>by
  have e1:(es.map (rE f)).isEmpty=es.isEmpty:=by simp[Array.isEmpty]
  rw[e1];refine(ti L h2 _ N k).aS λ_=>(uQ L h2 h3 k es).dR λr r' ⟨Y,_⟩=>?_;subst Y;have fin:∀(v:Z3) (b:Bool),SR Q P K f (RV f) (Pure.pure (if c then .tuple #[v,.bool b] else v)) (Pure.pure (if c then .tuple #[rV f v,.bool b] else rV f v)):=λv b=>.cE (by cases c<;>simp)
  cases r with
  | none=>exact(GY L e).mC λv=>fin v false
  | some r=>exact fin r.2 true
 cases x<;>simp only[bP,cf,br,aR,aZ,aM,aW,cq,bM,bK,aU,bq,aO,cg,bl]<;>first|exact .dm (DM.dR .st _)|exact .dm .st|skip
 rename_i r
 cases r with
 | none=>
  have h0:=rest #[];rw[show (#[]:Array MapEntry).map (rE f)=#[] from by simp]at h0;exact h0
 | some r=>
  refine .getObj _ _ _ (λo o' ho=>?_) ?_
  ·cases ho with
   | map es n=>exact rest es
   | _=>exact .dm (.halt _ (.stuck _) E)
  ·exact .halt _ (.stuck _) E
theorem Mz{a b:Z3}(h:oB b a):Instr.keyThatStays a b=Pure.pure b:=by
 obtain⟨j,n,rfl,rfl⟩:=h;unfold Instr.keyThatStays;rw[Xu (by simp[Instr.sameBits])]
theorem DO{a b:Z3}(h:oB b a):oB (rV f b) (rV f a):=by
 obtain⟨j,n,rfl,rfl⟩:=h;exact⟨j,n,by simp,by simp⟩
theorem Qz(es:Array MapEntry)(i:Nat)(k v:Z3):(es.modify i λe=>{ e with key:=k,val:=v }).map (rE f)=(es.map (rE f)).modify i λe=>{ e with key:=rV f k,val:=rV f v }:=by
 apply Array.ext_getElem?;intro n;simp only[Yl,Zy]
 split
 ·subst_vars
  cases es[n]?<;>rfl
 ·rfl
def av4(r:Nat)(es:Array MapEntry)(c:Nat)(k x:Z3):Option (Nat × Z3)->Sem Next
 | some (i,_)=>.setObj r (.map (es.modify i λe=>{ e with key:=k,val:=x }) c) (.pure .skip)
 | none=>.setObj r (.map (es.push { key:=k,val:=x,born:=c }) (c+1)) (.pure .skip)
def Mm(kt:Z5)(k:Z3)(es:Array MapEntry):Sem (Option (Nat × Z3)):=do
 Instr.checkKey false 10000 kt k
 Instr.findKey kt k es.toList
def ax4(a b:W'):Prop:=a.drawn<=b.drawn/\a.heap.size<=b.heap.size
theorem IE{α β γ δ:Type}{R:α->β->Prop}{RA:Array MapEntry->γ->δ->Prop}{r:Nat}{G:Obj->Sem α}{G':Obj->Sem β}{A:Array MapEntry->Sem γ}{A':Array MapEntry->Sem δ}(Pd:DM Q (some (r,true)) (G cu))(h1:∀o o',OR K f o o'->(∀ms c,o≠.map ms c)->DM Q none (G o)){B:Array MapEntry->Nat->γ->Sem α}{B':Array MapEntry->Nat->δ->Sem β}
  (hG:∀ms c,G (.map ms c)=(A ms).bind (B ms c)) (hG':∀ms c,G' (.map (ms.map (rE f)) c)=(A' ms).bind (B' ms c)) (hA:∀ms,SR Q P K f (RA ms) (A ms) (A' ms))
  (hB:∀ms c a a',RA ms a a'->∃m n b b',B ms c a=.setObj r (.map m n) (.pure b)/\B' ms c a'=.setObj (f r) (.map (m.map (rE f)) n) (.pure b')/\R b b'):SX Q P K f R (.getObj r G) (.getObj (f r) G'):=by
 intro M N0 W0 F D1 N1 w w' es es' H J hs hT hN
 cases hb:w.heap[r]? with
 | none=>exact .inl ⟨_,_,_,by simp only[Sem.runT,hb];rfl,rfl,H.bg⟩
 | some o=>
  rcases Zd (∃c e z,o=.cells c e z) with ⟨c,e,z,rfl⟩|hn
  ·exact .inl ⟨_,_,_,by simp only[Sem.runT,hb];rfl,rfl,H.bg⟩
  have wY:∀c e z,o≠.cells c e z:=λc e z he=>hn ⟨c,e,z,he⟩;have g0:Sem.runT Q (.getObj r G) w es=(G o).runT Q w (es.push ⟨.obj r,false,o.isChan⟩):=by simp only[Sem.runT,hb]
  rcases H.blk _ _ hb with CY|⟨o',kP,Y⟩
  ·rw[g0,CY]
   exact .inl (H.tH <| Pd.run H (λr' b' e=>by cases e;rw[hb,CY];rfl) _)
  by_cases hm:∃ms c,o=.map ms c
  ·obtain⟨ms,c,rfl⟩:=hm
   cases Y
   have hM:M<=r:=by
    rcases XP r M with bY|bY
    ·exfalso
     rcases F.frz _ bY with hf|⟨c',e',hf⟩
     ·rw[<-H.low _ bY,hb]at hf;cases hf
     ·rw[<-H.low _ bY,hb]at hf;cases hf
    ·exact bY
   have g2:Sem.runT P (.getObj (f r) G') w' es'=(G' (.map (ms.map (rE f)) c)).runT P w' (es'.push ⟨.obj (f r),false,false⟩):=by simp only[Sem.runT,kP];rfl
   have g1:Sem.runT Q (.getObj r G) w es=(G (.map ms c)).runT Q w (es.push ⟨.obj r,false,false⟩):=g0;rw[g2,hG']at J hs ⊢;rw[g1,hG];rw[Sem.runT_bind']at J hs ⊢;rw[Sem.runT_bind']
   have le:ax4 (Result.world ((A' ms).runT P w' (es'.push ⟨.obj (f r),false,false⟩)).1) (Result.world (match (A' ms).runT P w' (es'.push ⟨.obj (f r),false,false⟩) with|(.ok a w1,e1)=>(B' ms c a).runT P w1 e1|(.halt h w1,e1)=>(.halt h w1,e1)).1):=by
    generalize (A' ms).runT P w' (es'.push ⟨.obj (f r),false,false⟩)=x;have⟨y,e1⟩:=x
    cases y with
    | ok a w1=>exact C4 P (B' ms c a) w1 e1
    | halt h w1=>exact⟨Xw _,Xw _⟩
   rcases(hA ms).run F w w' (es.push ⟨.obj r,false,false⟩) (es'.push ⟨.obj (f r),false,false⟩) H (XQ le.1 J) (XQ le.2 hs) hT hN with ⟨h,w1,e1,r1,r2,r3⟩|⟨a,b,w1,dt,e1,new,r1,r2,r3,r4,r5,r6⟩
   ·exact .inl ⟨h,w1,e1,by rw[r1],r2,r3⟩
   rw[r2]at J hs ⊢;rw[r1];have⟨m,n,x,y,k1,k2,k3⟩:=hB ms c a b r3;simp only[k1,k2]at J hs ⊢;have⟨ms1,c1,J8⟩:=r6.maps r ms c hb;obtain⟨Fx,aj1,O7⟩:=(r4.blk _ _ J8).resolve_left (λe=>by cases e)
   cases O7
   have H1:WR K M f W0 { w1 with heap:=w1.heap.setIfInBounds r (.map m n) } { dt with heap:=dt.heap.setIfInBounds (f r) (.map (m.map (rE f)) n) }:=r4.turn F J8 (λe=>by cases e) hM (.map m n) (λ_ _ _ _ _ _ h=>by cases h) E E;have lt1:=(Xz.1 J8).1
   have mv:Mv M f w1 { w1 with heap:=w1.heap.setIfInBounds r (.map m n) } dt { dt with heap:=dt.heap.setIfInBounds (f r) (.map (m.map (rE f)) n) }:=⟨rfl,rfl,rfl,rfl,rfl,Xw _,by simp,by simp,λb bY hn=>by
    simp only;rw[XE (λe=>by have:=(hn r hM lt1 e).1;rw[J8]at this;cases this)],λb h=>by simp only;rw[XE (λe=>by subst e;rw[J8]at h;cases h)];exact h,λb es' c' h=>by
     by_cases e:r=b
     ·subst e;exact⟨m,n,by simp only;rw[X9 lt1]⟩
     ·exact⟨es',c',by simp only;rw[XE e];exact h⟩⟩
   have ow:∀wr,xN M f W0 w1.heap.size dt.heap.size ⟨.obj (f r),wr,false⟩:=λwr=>(r4.vn (M':=M) J8 (λe=>by cases e) hM).elim λl n=>.obj r wr hM l n.1 n.2
   refine .inr ⟨x,y,_,_,_,#[⟨.obj (f r),false,false⟩]++new ++ #[⟨.obj (f r),true,false⟩],by simp only[Sem.runT,J8];rfl,by simp only[Sem.runT,aj1];rw[ZQ,ZQ];simp only[Array.append_assoc];rfl,k3,H1,λe he=>?_,r6.trans mv λi hi=>hN i (by
    simp only[Sem.runT,aj1,Result.world,Zi]at hs
    omega)⟩
   simp only[Zi];rcases YG.1 he with he|he
   ·rcases YG.1 he with he|he
    ·rw[Yz]at he;subst he;exact ow false
    ·exact r5 e he
   ·rw[Yz]at he;subst he;exact ow true
  ·rw[g0]
   exact .inl (H.tH <| (h1 o o' Y λms c e=>hm ⟨ms,c,e⟩).run H (λ_ _ e=>by cases e) _)
theorem sx_mapUpdate(L:Lk Q P f)(t:Z5)(m k x:Z3)(h:mapOk P t=true):SX Q P K f (RN Q P K f) (Instr.mapUpdate t m k x >>= λ_=>Pure.pure Next.skip) (Instr.mapUpdate t (rV f m) (rV f k) (rV f x) >>= λ_=>Pure.pure Next.skip):=by
 have⟨kt,e,j,h1,h2,h3⟩:=Cp L h;have h1q:Q.underlying t=some (.map kt e):=(nL L.zr t).trans h1;obtain⟨N,hN⟩:∃N,10000=N+1:=⟨9999,rfl⟩
 have mid:∀es,SR Q P K f (λr r'=>r'=rO f r/\Kq k es.toList 0 r) (Mm kt k es) (Mm kt (rV f k) (es.map (rE f))):=λes=>by
  unfold Mm;rw[hN];exact(ti L h2 _ N k).aS λ_=>uQ L h2 h3 k es
 have e0:∀(p:Z4) (m k x:Z3) (w:W') (es:Array ϊ),p.underlying t=some (.map kt e)->(Instr.mapUpdate t m k x >>= λ_=>Pure.pure Next.skip).runT p w es=((match m with
  | .map none=>runtimePanic (.plain "assignment to entry in nil map")
  | .map (some r)=>do
   let .map es clock <-getObj r|stuck "MapUpdate: map expected"
   Instr.checkKey false 10000 kt k
   match <-Instr.findKey kt k es.toList with
   | some (i,_)=>do
    let key <-Instr.keyThatStays (((es[i]?).map (·.key)).getD k) k
    setObj r (.map (es.modify i λe=>{ e with key,val:=x }) clock)
   | none=>setObj r (.map (es.push { key:=k,val:=x,born:=clock }) (clock+1))
  | _=>stuck "MapUpdate: map expected" : Sem Unit) >>= λ_=>Pure.pure Next.skip).runT p w es:=λp m k x w es hp=>by
  unfold Instr.mapUpdate underlying;simp only[bind_assoc];show (Sem.program _).runT p w es=_
  simp only[Sem.runT,Sem.bind];rw[hp];rfl
 intro M N0 W0 F D1 N1 w w' es es' H J hs hT hA;rw[e0 P _ _ _ _ _ h1]at J hs ⊢;rw[e0 Q _ _ _ _ _ h1q]
 induction m using vcs<;>simp only[bP,cf,br,aR,aZ,aM,aW,cq,bM,bK,aU,bq,aO,cg,bl,XR,XB]at J hs ⊢<;>first
  | exact(SR.dm (DM.dR .st _)).sx F w w' es es' H J hs hT hA
  | exact(SR.dm (DM.dR (.rp E) _)).sx F w w' es es' H J hs hT hA
  | skip
 rename_i r
 cases r with
 | none=>exact(SR.dm (DM.dR (.rp E) _)).sx F w w' es es' H J hs hT hA
 | some r=>?_
 simp only[XB]at J hs ⊢
 have bk:∀(k x:Z3) (r:Nat) (ms:Array MapEntry) (c:Nat) (a:Option (Nat × Z3)),Kq k ms.toList 0 a->
   ((match a with
   | some (i,_)=>do
    let key <-Instr.keyThatStays (((ms[i]?).map (·.key)).getD k) k
    setObj r (.map (ms.modify i λe=>{ e with key,val:=x }) c)
   | none=>setObj r (.map (ms.push { key:=k,val:=x,born:=c }) (c+1)):Sem Unit) >>= λ_=>Pure.pure Next.skip)=av4 r ms c k x a:=λk x r ms c a ha=>by
  cases a with
  | none=>rfl
  | some y=>
   have⟨_,ent,h4,h5⟩:=ha y.1 y.2 E
   have h6:((ms[y.1]?).map (·.key)).getD k=ent.key:=by
    have:ms[y.1]?=some ent:=by simpa using h4
    rw[this];rfl
   simp only[h6,Mz h5,pure_bind];rfl
 refine IE (RA := λms r r' => r' = rO f r /\ Kq k ms.toList 0 r) (A := Mm kt k) (A' := λms => Mm kt (rV f k) (ms.map (rE f))) (B := λms c a => (match a with
   | some (i,_)=>do
    let key <-Instr.keyThatStays (((ms[i]?).map (·.key)).getD k) k
    setObj r (.map (ms.modify i λe=>{ e with key,val:=x }) c)
   | none=>setObj r (.map (ms.push { key:=k,val:=x,born:=c }) (c+1)):Sem Unit) >>= λ_=>Pure.pure Next.skip) (B':=λms c a=>(match a with
   | some (i,_)=>do
    let key <-Instr.keyThatStays (((((ms.map (rE f)):Array MapEntry)[i]?).map (·.key)).getD (rV f k)) (rV f k)
    setObj (f r) (.map ((ms.map (rE f)).modify i λe=>{ e with key,val:=rV f x }) c)
   | none=>setObj (f r) (.map ((ms.map (rE f)).push { key:=rV f k,val:=rV f x,born:=c }) (c+1)):Sem Unit) >>= λ_=>Pure.pure Next.skip) (.halt _ (.stuck _) E) (λo o' ho hn=>?_) (λms c=>?_) (λms c=>?_) mid (λms c a a' ha=>?_) F w w' es es' H J hs hT hA
 ·cases ho with
  | map ms c=>exact absurd E (hn ms c)
  | _=>exact .halt _ (.stuck _) E
 ·change (Instr.checkKey false 10000 kt k >>= λ_=>Instr.findKey kt k ms.toList >>= _) >>= _=(Instr.checkKey false 10000 kt k >>= λ_=>Instr.findKey kt k ms.toList) >>= _
  simp only[bind_assoc];rfl
 ·change (Instr.checkKey false 10000 kt (rV f k) >>= λ_=>Instr.findKey kt (rV f k) (ms.map (rE f)).toList >>= _) >>= _=(Instr.checkKey false 10000 kt (rV f k) >>= λ_=>Instr.findKey kt (rV f k) (ms.map (rE f)).toList) >>= _
  simp only[bind_assoc];rfl
 ·obtain⟨rfl,hk⟩:=ha
  have kX:Kq (rV f k) (ms.map (rE f)).toList 0 (rO f a):=λn v Y=>by
   cases a with
   | none=>cases Y
   | some y=>
    have⟨q1,ent,q2,q3⟩:=hk y.1 y.2 E;simp only[rO,XB,XS,ZM]at Y;obtain⟨rfl,rfl⟩:=Y;exact⟨q1,rE f ent,by simpa using ⟨ent,by simpa using q2,rfl⟩,DO q3⟩
  rw[bk k x r ms c a hk,bk (rV f k) (rV f x) (f r) (ms.map (rE f)) c (rO f a) kX]
  cases a with
  | none=>exact⟨_,_,_,_,rfl,by rw[Array.map_push];rfl,.skip⟩
  | some y=>exact⟨_,_,_,_,rfl,by rw[Qz];rfl,.skip⟩
theorem dq{s s':Sem Z3}(h:SR Q P K f (RV f) s s'):SR Q P K f (RN Q P K f) (do Pure.pure (.value (<-s))) (do Pure.pure (.value (<-s'))):=h.mC λv=>.ret (.value v)
theorem Wv{v v':Z3}(h:v'=rV f v):RN Q P K f (.value v) (.value v'):=h ▸ .value v
theorem IK(H:Fk Q P K f){ρ GD:Z6->Z3}(iY:∀x,BB NG x=true->GD x=rV f (ρ x))(o:Z8)(ho:okOp NG P o.op=true)(hmu:∀t m k x,o.op≠.mapUpdate t m k x)(hcv:∀s d x,o.op=.convert s d x->numC P s d=true):SR Q P K f (RN Q P K f) (execOp ρ o) (execOp GD o):=by
 have L:=H.lk;unfold execOp
 cases cF:o.op<;>rw[cF]at ho<;>simp only[okOp,Xs,reduceCtorEq]at ho<;>simp only
 case move x=>rw[iY x ho];exact .ret (.value _)
 case assign x=>rw[iY x ho];exact .ret (.value _)
 case pick c a b=>
  have⟨⟨h1,h2⟩,h3⟩:=ho;rw[iY c h1,iY a h2,iY b h3];refine(x8 _).aS λt=>?_
  cases t<;>exact .ret (.value _)
 case alloc t=>exact dq (KU L t)
 case box t x=>rw[iY x ho];exact dq (Ua t _)
 case build t ps=>rw[yu iY ho];exact dq (KR L t _)
 case buildSlice t n ps=>rw[yu iY ho];exact dq (xd L t n _)
 case load t a=>rw[iY a ho];exact dq (II L t _)
 case store t a x=>rw[iY a ho.1,iY x ho.2];exact(EN L t _ _).aS λ_=>.ret .skip
 case nilCheck x=>
  rw[iY x ho];generalize ρ x=v
  induction v using vcs<;>simp only[bP,cf,br,aR,aZ,aM,aW,cq,bM,bK,aU,bq,aO,cg,bl,XR,XB]<;>first|exact .dm (.rp E)|exact .ret (Wv (by simp))|skip
  rename_i fn first cap
  cases fn<;>simp only[rFn]<;>first|exact .ret (Wv (by simp[rFn]))|skip
  rename_i name;simp only[Yl]
  cases first[0]? with
  | none=>exact .ret (Wv (by simp[rFn]))
  | some v=>
   simp only[XB]
   cases v<;>simp only[bP,cf,br,aR,aZ,aM,aW,cq,bM,bK,aU,bq,aO,cg,bl]<;>first|exact .dm (.rp E)|exact .ret (Wv (by simp[rFn]))|skip
   rename_i t w;refine .program _ _ ?_;simp only[Sem.bind];have e:Q.types.size=P.types.size:=by have:=congrArg (λT:Tables=>T.types.size) L.zr;exact this
   rw[e];refine(tf L _ t w name).aS λr=>?_;refine .ite (.dm (DM.dR (.un E) _)) (.ret (Wv (by simp[rFn])))
 case binOp op t x y yt=>
  have⟨⟨h1,h2⟩,h3⟩:=ho;rw[iY x h1,iY y h2];refine dq ((sr_eqGuard L op t x y _ _ 20 λhe=>?_).aS λ_=>KS L op t _ _ h3);rcases he with rfl|rfl<;>(simp[binOk]at h3;exact h3)
 case unOp op t x=>rw[iY x ho];exact dq (KI op _)
 case convert s d x=>
  have⟨h1,_⟩:=ho;have h23:=hcv s d x cF;simp only[numC,Xs]at h23;have⟨h2,h3⟩:=h23;rw[iY x h1]
  have hs:∀e,P.underlying s=some e->(∃k,e=.int k)\/∃k,e=.float k:=λe he=>by
   rw[he]at h3;cases e<;>simp at h3
   ·exact .inl ⟨_,rfl⟩
   ·exact .inr ⟨_,rfl⟩
  cases J:P.underlying d with
  | none=>rw[J]at h2;cases h2
  | some e=>
   rw[J]at h2
   cases e<;>simp at h2
   ·exact dq (EV L s d _ (λe he=>by rw[J]at he;cases he;exact⟨_,rfl⟩) hs)
   ·exact dq (BQ L s d _ (λe he=>by rw[J]at he;cases he;exact⟨_,rfl⟩) hs)
 case makeFunc fn first cap=>
  have⟨⟨h1,h2⟩,h3⟩:=ho;rw[Aa iY h2,Aa iY h3]
  cases fn<;>simp only[XO]at h1
  exact .ret (Wv (by simp[rFn]))
 case fieldAddr s x i=>rw[iY x ho];exact dq (ES L s _ i)
 case indexAddr t x i=>rw[iY x ho.1,iY i ho.2];exact dq (sr_indexAt L t _ _)
 case extract x i=>rw[iY x ho];exact dq (ET _ i)
 case call c=>
  have⟨h1,h2⟩:=ho;unfold resolve;rw[Aa iY h1];unfold okCallee at h2
  cases hc:c.callee with
  | value x=>
   rw[hc]at h2;simp only at h2;simp only;rw[iY x h2];refine(uN _ _).dR λd d' he=>?_;have⟨e,J⟩:=he;subst e;exact x6 H d.target d.args J
  | invoke r nm=>rw[hc]at h2;cases h2
  | builtin b=>
   rw[hc]at h2;simp only[pure_bind,invoke]
   cases b<;>simp only[XO]at h2<;>simp only[builtin]
   case len=>exact dq (aV8 L _ _ _)
   case min=>exact dq (aV6 _ _ _)
   case max=>exact dq (aV7 _ _ _)
   case real=>exact dq (PK _ _ _)
   case imag=>exact dq (PO _ _ _)
   case complex=>exact dq (EW _ _ _)
   case append=>
    refine dq (IL L _ _ _ ?_)
    cases hx:c.argTypes[1]? with
    | none=>rw[hx]at h2;cases h2
    | some t=>
     rw[hx]at h2;simp only at h2
     cases hu:P.underlying t with
     | none=>rw[hu]at h2;cases h2
     | some d=>
      rw[hu]at h2
      cases d<;>simp at h2
      exact⟨t,_,rfl,hu⟩
 case makeSlice t a x=>rw[iY a ho.1,iY x ho.2];exact dq (zx L t _ _)
 case index t a x=>rw[iY a ho.1,iY x ho.2];exact dq (KM L t _ _)
 case slice t x lo hi mx=>
  have⟨⟨⟨h1,h2⟩,h3⟩,h4⟩:=ho;rw[iY x h1,uv iY h2,uv iY h3,uv iY h4];exact dq (EO L t _ _ _ _)
 case sliceToArrayPointer t x=>rw[iY x ho];exact dq (EX L t _)
 case makeInterface t x=>rw[iY x ho];exact dq (si L t _)
 case field t x i=>rw[iY x ho];exact dq (KP L t _ i)
 case panic x=>rw[iY x ho];exact .dm (DM.dR (NY _) _)
 case makeMap t r=>rw[uv iY ho];exact dq (ER L t _)
 case lookup t a x c=>
  have⟨⟨h1,h2⟩,h3⟩:=ho;rw[iY a h1,iY x h2];exact dq (sr_lookup L t _ _ c h3)
 case mapUpdate t m k x=>exact absurd cF (hmu t m k x)
def SY(Q P:Z4)(K:Kc)(M:Nat)(f:Re)(W0 w w':W'){α β:Type}(R:α->β->Prop)(s:Sem α)(s':Sem β):Prop:=∀{D1 N1:Nat} (es es':Array ϊ),
 (Result.world (s'.runT P w' es').1).drawn<=D1->(Result.world (s'.runT P w' es').1).heap.size<=N1->
 (∀i q,w'.drawn+i<D1->w.tape (w.drawn+i) q=w'.tape (w'.drawn+i) q)->(∀i,w'.heap.size+i<N1->f (w.heap.size+i)=w'.heap.size+i)->
 (∃h w1 e1,s.runT Q w es=(.halt h w1,e1)/\ig h=true/\bg w1)\/
 ∃a b w1 dt e1 new,s.runT Q w es=(.ok a w1,e1)/\s'.runT P w' es'=(.ok b dt,es'++new)/\R a b/\WR K M f W0 w1 dt/\(∀e∈new,xN M f W0 w1.heap.size dt.heap.size e)/\Mv M f w w1 w' dt
theorem SX.sy{α β:Type}{R:α->β->Prop}{s:Sem α}{s':Sem β}(h:SX Q P K f R s s'){M N0:Nat}{W0:W'}(F:FR M N0 f W0){w w':W'}(hw:WR K M f W0 w w'):SY Q P K M f W0 w w' R s s':=λes es' h1 h2 h3 h4=>h F w w' es es' hw h1 h2 h3 h4
theorem SY.eq{α β:Type}{R:α->β->Prop}{s s1:Sem α}{s' s1':Sem β}{M:Nat}{W0 w w':W'}(h:SY Q P K M f W0 w w' R s1 s1')(e:∀es,s.runT Q w es=s1.runT Q w es)(e':∀es,s'.runT P w' es=s1'.runT P w' es):SY Q P K M f W0 w w' R s s':=λes es' h1 h2 h3 h4=>by
 rw[e']at h1 h2 ⊢;rw[e];exact h es es' h1 h2 h3 h4
def Hz(NG M:Nat)(f:Re)(w w':W'):Prop:=NG≠0->M=0/\f=id/\w.heap.size=w'.heap.size
def btsB(c:Z3)(s:ByteArray):Sem (ForInStep ByteArray):=do
 let .int .u8 n:=c|stuck "bytesToString: byte expected"
 Pure.pure (.yield (s.push (UInt8.ofNat n.toNat)))
theorem au3:∀(l:List Z3) (s:ByteArray),SR Q P K f Eq (forIn l s btsB) (forIn (l.map (rV f)) s btsB)
 | [],s=>.db
 | c::l,s=>by
  simp only[Yd,List.forIn_cons];refine SR.aS (show SR Q P K f Eq (btsB c s) (btsB (rV f c) s) from ?_) λx=>?_
  ·unfold btsB
   induction c using vcs<;>simp only[bP,cf,br,aR,aZ,aM,aW,cq,bM,bK,aU,bq,aO,cg,bl,XR,XB]<;>first|exact .dm .st|skip
   rename_i k n
   cases k<;>first|exact .dm .st|exact .db
  ·cases x with
   | done b=>exact .db
   | yield b=>exact au3 l b
theorem aZ2(a:Addr)(len cap:Nat):Conv.bytesToString (.slice (some a) len cap)=(do let cs <-loadCells a len;let s <-forIn cs.toList ByteArray.empty btsB;Pure.pure (Value.string s)):=by
 unfold Conv.bytesToString btsB;simp only[Array.forIn_toList];rfl
theorem aW0(x:Z3):SR Q P K f (RV f) (Conv.bytesToString x) (Conv.bytesToString (rV f x)):=by
 induction x using vcs<;>simp only[bP,cf,br,aR,aZ,aM,aW,cq,bM,bK,aU,bq,aO,cg,bl,XR,XB]<;>first|exact .dm .st|skip
 rename_i a l c
 cases a with
 | none=>exact .cE (by simp)
 | some a=>
  simp only[XB,aZ2];refine(p9 a l).dR λx x' e=>?_;subst e;rw[Array.toList_map];exact(au3 _ _).aS λs=>.cE (by simp)
theorem aK8{P:Z4}{e:Z5}(h:u8C P e=true):P.underlying e=some (.int .u8):=by
 unfold u8C at h
 split at h
 ·assumption
 ·cases h
theorem aZ9(L:Lk Q P f){e:Z5}(h:u8C P e=true):SR Q P K f (λd d'=>d=d'/\d=.int .u8) (underlying e) (underlying e):=
 (eH L e).imp λd d' ⟨h1,h2⟩=>⟨h1,by rw[aK8 h]at h2;cases h2;rfl⟩
theorem aL9(L:Lk Q P f)(src dst e:Z5)(x:Z3)(hs:P.underlying src=some (.slice e))(he:u8C P e=true)(J:P.underlying dst=some .string):SR Q P K f (RV f) (convert src dst x) (convert src dst (rV f x)):=by
 unfold convert;refine(eH L src).dR λs s' ⟨e1,h⟩=>?_;subst e1;refine(eH L dst).dR λd d' ⟨e2,h'⟩=>?_;subst e2;rw[hs]at h;cases h
 rw[J]at h';cases h'
 have sl:∀y:Z3,SR Q P K f (RV f) (do match <-underlying e with|.int .u8=>Conv.bytesToString y|.int .i32=>Conv.runesToString y|_=>stuck "Convert: a slice of what to string?") (do match <-underlying e with|.int .u8=>Conv.bytesToString (rV f y)|.int .i32=>Conv.runesToString (rV f y)|_=>stuck "Convert: a slice of what to string?"):=λy=>by
  refine(aZ9 L he).dR λd d' ⟨e1,e2⟩=>?_;subst e1;subst e2;exact aW0 y
 induction x using vcs
 ·have:=sl (.bool ‹_›);rw[bP]at this ⊢;exact this
 ·rw[cf];exact .cE (by simp)
 ·have:=sl (.float ‹_› ‹_›);rw[br]at this ⊢;exact this
 ·rename_i k n m;have:=sl (.complex k n m);rw[aR]at this ⊢;exact this
 ·rw[aZ];exact .cE (by simp)
 ·have:=sl (.pointer none);rw[aM]at this ⊢;exact this
 ·have:=sl (.pointer (some ‹_›));rw[aM]at this ⊢;exact this
 ·rename_i a n m;have:=sl (.slice a n m);rw[aW]at this ⊢;exact this
 ·have:=sl (.map ‹_›);rw[cq]at this ⊢;exact this
 ·have:=sl (.chan ‹_›);rw[bM]at this ⊢;exact this
 ·rename_i a n m;have:=sl (.func a n m);rw[bK]at this ⊢;exact this
 ·have:=sl .nilFunc;rw[aU]at this ⊢;exact this
 ·have:=sl (.iface ‹_› ‹_›);rw[bq]at this ⊢;exact this
 ·have:=sl .nilIface;rw[aO]at this ⊢;exact this
 ·have:=sl (.agg ‹_›);rw[cg]at this ⊢;exact this
 ·have:=sl (.tuple ‹_›);rw[bl]at this ⊢;exact this
def rwB(s:ByteArray)(cap:Nat):Array Z3:=(s.data.map λb=>.int .u8 b.toNat)++Array.replicate (cap - s.size) (.int .u8 0)
def s2b(e:Z5)(s:ByteArray):Sem Z3:=do
 let cap <-choose (.appendCap s.size 0 e)
 .new (.cells (rwB s cap) e ((rwB s cap).size,(rwB s cap).size+1)) λr=>Pure.pure (.slice (some ⟨r,0,none⟩) s.size cap)
theorem aw0(P:Z4)(e:Z5)(s:ByteArray)(w:W')(es:Array ϊ):(Conv.stringToBytes e s).runT P w es=(s2b e s).runT P w es:=by
 have q:∀(cap:Nat) (c:Array Z3) (w:W') (es:Array ϊ),Sem.runT P (do let a <-newRow e c;markStringish a;Pure.pure (Value.slice (some a) s.size cap)) w es=Sem.runT P (.new (.cells c e (c.size,c.size+1)) λr=>Pure.pure (Value.slice (some ⟨r,0,none⟩) s.size cap)) w es:=by
  intro cap c w es;have h1:(w.heap.push (.cells c e (0,0)))[w.heap.size]?=some (.cells c e (0,0)):=by simp
  have h2:World.shape? { w with heap:=w.heap.push (.cells c e (0,0)) } w.heap.size=some (e,c.size):=by unfold World.shape?;simp only[h1]
  have h3:World.freeze { w with heap:=w.heap.push (.cells c e (0,0)) } ⟨w.heap.size,c.size,none⟩ 1={ w with heap:=w.heap.push (.cells c e (c.size,c.size+1)) }:=by
   unfold World.freeze;rw[Xr (by decide)];congr 1;simp only;rw[modify_eq h1];apply Array.ext_getElem?;intro i;by_cases hi:w.heap.size=i
   ·subst hi;simp
   ·rw[XE hi]
    simp only[YE];rw[Xr (λh=>hi h.symm),Xr (λh=>hi h.symm)]
  simp only[newRow,newObj,markStringish,shape,freeze,bind,Sem.bind,pure,Sem.runT];rw[h2];simp only[Sem.bind,Sem.runT,h3]
 unfold Conv.stringToBytes s2b;show Sem.runT P (Sem.bind _ _) w es=Sem.runT P (Sem.bind _ _) w es
 rw[Sem.runT_bind',Sem.runT_bind'];generalize Sem.runT P (choose (.appendCap s.size 0 e)) w es=x;have⟨y,e1⟩:=x
 cases y with
 | ok a w1=>exact q a _ w1 e1
 | halt h w1=>rfl
theorem aL8(e:Z5)(s:ByteArray):SR Q P K f (RV f) (s2b e s) (s2b e s):=by
 unfold s2b;refine .choose _ _ _ λcap=>?_
 have hs:(rwB s cap).map (rV f)=rwB s cap:=by
  unfold rwB;rw[ZH,Array.map_map,Array.map_replicate,cf];congr 1;apply Zk;intro i hi;simp[cf]
 refine .new _ _ _ _ ?_ (λ_ _ _ _ _ _ h h'=>by cases h;cases h';rfl) λr=>.cE (by simp[rA]);have:=OR.cells (K:=K) (f:=f) (rwB s cap) e ((rwB s cap).size,(rwB s cap).size+1) ((rwB s cap).size,(rwB s cap).size+1) λo h1 h2 h3=>⟨h2,h3⟩;rwa [hs]at this
theorem wy{P:Z4}{t:Z5}{d:TypeDesc}(h:P.underlying t=some d){α:Type}(k:TypeDesc->Sem α)(w:W')(es:Array ϊ):Sem.runT P (underlying t >>= k) w es=Sem.runT P (k d) w es:=by
 unfold underlying program;simp only[bind,Sem.bind,Sem.runT,h,pure]
theorem aQ0{NG M N0:Nat}{W0 w w':W'}(F:FR M N0 f W0)(hz:Hz NG M f w w')(iP:NG≠0)(hw:WR K M f W0 w w')(a:Addr)(v:Z3):SY Q P K M f W0 w w' (RN Q P K f) (do markStringish a;Pure.pure (Next.value v)) (do markStringish (rA f a);Pure.pure (Next.value (rV f v))):=by
 obtain⟨rfl,rfl,eQ⟩:=hz iP;intro D1 N1 es es' h1 h2 h3 h4
 have run:∀(P:Z4) (v:Z3) (w:W') (es:Array ϊ) (a:Addr),(∃c e z,w.heap[a.block]?=some (.cells c e z)/\Sem.runT P (do markStringish a;Pure.pure (Next.value v)) w es=(.ok (.value v) { w with heap:=w.heap.setIfInBounds a.block (.cells c e (if z.1==z.2 then (c.size,c.size+1) else (min z.1 c.size,max z.2 (c.size+1)))) },es))\/
   ((∀c e z,w.heap[a.block]?≠some (.cells c e z))/\Sem.runT P (do markStringish a;Pure.pure (Next.value v)) w es=(.ok (.value v) w,es)):=λP v w es a=>by
  by_cases h:∃c e z,w.heap[a.block]?=some (.cells c e z)
  ·obtain⟨c,e,⟨lo,hi⟩,h⟩:=h
   have hs:w.shape? a.block=some (e,c.size):=by unfold World.shape?;rw[h]
   have hf:w.freeze ⟨a.block,c.size,none⟩ 1={ w with heap:=w.heap.setIfInBounds a.block (.cells c e (if lo==hi then (c.size,c.size+1) else (min lo c.size,max hi (c.size+1)))) }:=by
    unfold World.freeze;rw[Xr (by decide)];congr 1;exact modify_eq h _
   refine .inl ⟨c,e,(lo,hi),h,?_⟩;simp only[markStringish,shape,freeze,bind,Sem.bind,pure,Sem.runT];rw[hs];simp only[Sem.bind,Sem.runT,hf]
  ·have hn:∀c e z,w.heap[a.block]?≠some (.cells c e z):=λc e z hc=>h ⟨c,e,z,hc⟩
   have hs:w.shape? a.block=none:=by
    unfold World.shape?
    split
    ·rename_i hc;exact absurd hc (hn _ _ _)
    ·rfl
   refine .inr ⟨hn,?_⟩;simp only[markStringish,shape,freeze,bind,Sem.bind,pure,Sem.runT];rw[hs];simp only[Sem.bind,Sem.runT]
 have fin:∀w1 dt,Sem.runT Q (do markStringish a;Pure.pure (Next.value v)) w es=(.ok (.value v) w1,es)->Sem.runT P (do markStringish (rA id a);Pure.pure (Next.value (rV id v))) w' es'=(.ok (.value (rV id v)) dt,es')->WR K 0 id W0 w1 dt->Mv 0 id w w1 w' dt->(∃h w1 e1,Sem.runT Q (do markStringish a;Pure.pure (Next.value v)) w es=(.halt h w1,e1)/\ig h=true/\bg w1)\/
  ∃x y w1 dt e1 new,Sem.runT Q (do markStringish a;Pure.pure (Next.value v)) w es=(.ok x w1,e1)/\Sem.runT P (do markStringish (rA id a);Pure.pure (Next.value (rV id v))) w' es'=(.ok y dt,es'++new)/\RN Q P K id x y/\WR K 0 id W0 w1 dt/\(∀e∈new,xN 0 id W0 w1.heap.size dt.heap.size e)/\Mv 0 id w w1 w' dt:=λw1 dt k1 k2 k3 k4=>
  .inr ⟨_,_,w1,dt,es,#[],k1,by rw[k2,Array.append_empty],.value v,k3,λe he=>(by simp at he),k4⟩
 have mv:∀o o',(∃c e z,w.heap[a.block]?=some (.cells c e z))\/(w.heap[a.block]?=some cu/\o=cu/\∃c e z,w'.heap[a.block]?=some (.cells c e z))->Mv 0 id w { w with heap:=w.heap.setIfInBounds a.block o } w' { w' with heap:=w'.heap.setIfInBounds a.block o' }:=λo o' hb=>by
  have bH:a.block<w.heap.size:=by rcases hb with ⟨c,e,z,h⟩|⟨h,_⟩<;>exact(Xz.1 h).1
  exact⟨rfl,rfl,rfl,rfl,rfl,Xw _,by simp,by simp,λb bY hn=>by
   simp only;rw[XE (λe=>by
    have q:=hn a.block (XC _) bH e;rcases hb with ⟨c,e,z,h⟩|⟨_,_,c,e',z,h⟩
    ·rw[h]at q;cases q.1
    ·rw[e]at h;exact q.2 _ _ _ h)],λb h=>by
   simp only;by_cases e:a.block=b
   ·subst e
    rcases hb with ⟨c,e,z,h2⟩|⟨h2,rfl,_⟩
    ·rw[h2]at h;cases h
    ·rw[X9 bH]
   ·rw[XE e];exact h,λb es c' h=>⟨es,c',by
   simp only;rw[XE (λe=>by subst e;rcases hb with ⟨c,e,z,h2⟩|⟨h2,_⟩<;>(rw[h2]at h;cases h))];exact h⟩⟩
 have same:{ w with heap:=w.heap.setIfInBounds a.block cu }=w\/w.heap[a.block]?≠some cu:=by
  by_cases h:w.heap[a.block]?=some cu
  ·refine .inl ?_
   have:w.heap.setIfInBounds a.block cu=w.heap:=by
    apply Array.ext_getElem?;intro i;by_cases hi:a.block=i
    ·subst hi;rw[X9 (Xz.1 h).1,h]
    ·rw[XE hi]
   rw[this]
  ·exact .inr h
 rcases run Q v w es a with ⟨c,e,z,q1,q2⟩|⟨q1,q2⟩
 ·obtain⟨o',k1,k2⟩:=(hw.blk _ _ q1).resolve_left (λe=>by cases e)
  have hzz:=hw.zz _ _ _ (XC _) q1 k1 (λe=>by cases e)
  cases k2
  rename_i z' hz';have hzz:=hzz _ _ _ _ _ _ E E;subst hzz;rcases run P (rV id v) w' es' (rA id a) with ⟨c2,e2,z2,p1,p2⟩|⟨p1,p2⟩
  ·have:some (Obj.cells c2 e2 z2)=some (Obj.cells (c.map (rV id)) e z'):=p1.symm.trans k1
   cases this
   refine fin _ _ q2 p2 ?_ (mv _ _ (.inl ⟨_,_,_,q1⟩));refine hw.turn F q1 (λe=>by cases e) (XC _) (o:=.cells c e _) (o':=.cells (c.map (rV id)) e _) ?_ ?_ E E
   ·rw[ZZ]
    exact .cells _ _ _ _ λo _ h1 h2=>⟨h1,h2⟩
   ·intro _ _ _ _ _ _ h h'
    cases h;cases h'
    rw[ZZ]
  ·exact absurd k1 (p1 _ _ _)
 ·rcases run P (rV id v) w' es' (rA id a) with ⟨c2,e2,z2,p1,p2⟩|⟨p1,p2⟩
  ·have bH:=(Xz.1 p1).1
   have J:w.heap[a.block]?=some cu:=by
    have hl:a.block<w.heap.size:=by rw[eQ];exact bH
    have hx:=X4 hl;rcases hw.blk _ _ hx with h|⟨o',k1,k2⟩
    ·rw[hx,h]
    ·exfalso
     have:some o'=some (Obj.cells c2 e2 z2):=k1.symm.trans p1
     cases this
     generalize ho:w.heap[a.block]=o at k2 hx
     cases k2
     exact q1 _ _ _ hx
   have m:=mv cu (.cells c2 e2 (if z2.1==z2.2 then (c2.size,c2.size+1) else (min z2.1 c2.size,max z2.2 (c2.size+1)))) (.inr ⟨J,rfl,_,_,_,p1⟩);rw[same.resolve_right (λh=>h J)]at m;have ne:∀b,w.heap[b]?≠some cu->a.block≠b:=λb h e=>h (e ▸ J);refine fin _ _ q2 p2 ⟨λb o hb=>?_,hw.inj,hw.low,hw.size,hw.dd,λb o o' hM hb bY nd=>?_⟩ m
   ·rcases hw.blk _ _ hb with h|⟨o',k1,k2⟩
    ·exact .inl h
    ·by_cases hod:o=cu
     ·exact .inl hod
     ·refine .inr ⟨o',?_,k2⟩
      simp only;rw[XE (show (rA id a).block≠id b from ne b (by rw[hb];exact λe=>hod (YT e)))];exact k1
   ·simp only at bY
    rw[XE (show (rA id a).block≠id b from ne b (by rw[hb];exact λe=>nd (YT e)))]at bY;exact hw.zz b o o' hM hb bY nd
  ·exact fin _ _ q2 p2 hw (.refl _ _)
theorem DM.pg'{α:Type}{d:Option (Nat × Bool)}{t:Z5}{u:TypeDesc}(h:Q.underlying t=some u){k:TypeDesc->Sem α}(hk:DM Q d (k u)):DM Q d (underlying t >>= k):=by
 unfold underlying;refine .program _ _ ?_;simp only[Sem.bind,h];exact hk
theorem aI9{NG M N0:Nat}{W0 w w':W'}(F:FR M N0 f W0)(H:Fk Q P K f)(hz:Hz NG M f w w')(hw:WR K M f W0 w w'){ρ GD:Z6->Z3}(iY:∀x,BB NG x=true->GD x=rV f (ρ x))(o:Z8)(ho:okOp NG P o.op=true):SY Q P K M f W0 w w' (RN Q P K f) (execOp ρ o) (execOp GD o):=by
 by_cases h:∃t m k x,o.op=.mapUpdate t m k x
 ·have⟨t,m,k,x,cF⟩:=h
  rw[cF]at ho;simp only[okOp,Xs]at ho;have⟨⟨⟨h1,h2⟩,h3⟩,h4⟩:=ho;unfold execOp;simp only[cF];rw[iY m h1,iY k h2,iY x h3];exact SX.sy (sx_mapUpdate H.lk t _ _ _ h4) F hw
 by_cases hc:∃s d x,o.op=.convert s d x/\numC P s d=false
 ·have⟨src,dst,x,cF,hn⟩:=hc
  rw[cF]at ho;simp only[okOp,Xs,X3,hn,XO,false_or]at ho;have⟨h1,h2⟩:=ho;unfold execOp;simp only[cF];rw[iY x h1];unfold strC at h2
  split at h2
  ·rename_i e hs J
   exact SX.sy (SR.sx (dq (aL9 H.lk src dst e _ hs h2 J))) F hw
  ·rename_i e hs J
   have hu:=aK8 h2
   have cv:∀(P:Z4) (s:ByteArray) (w:W') (es:Array ϊ),P.underlying src=some .string->P.underlying dst=some (.slice e)->P.underlying e=some (.int .u8)->Sem.runT P (do Pure.pure (Next.value (<-convert src dst (.string s)))) w es=Sem.runT P (do Pure.pure (Next.value (<-s2b e s))) w es:=λP s w es h1 h2 h3=>by
    have e1:Sem.runT P (convert src dst (.string s)) w es=Sem.runT P (s2b e s) w es:=by
     unfold convert;rw[wy h1,wy h2,wy h3];exact aw0 P e s w es
    show Sem.runT P (Sem.bind _ _) w es=Sem.runT P (Sem.bind _ _) w es
    rw[Sem.runT_bind',Sem.runT_bind',e1]
   have hq:∀{t:Z5} {d:TypeDesc},P.underlying t=some d->Q.underlying t=some d:=λh=>(nL H.lk.zr _).trans h
   have ot:∀y:Z3,(∀s,y≠.string s)->DM Q none (convert src dst y):=λy hy=>by
    unfold convert;refine .pg' (hq hs) (.pg' (hq J) ?_)
    induction y using vcs with
    | h8 a l c=>cases a<;>exact .un E
    | h5 s=>exact absurd E (hy _)
    | _=>exact .un E
   generalize ρ x=y;by_cases hy:∃s,y=.string s
   ·obtain⟨s,rfl⟩:=hy
    rw[aZ];exact SY.eq (SX.sy (SR.sx (dq (aL8 e s))) F hw) (λes=>cv Q s w es (hq hs) (hq J) (hq hu)) (λes=>cv P s w' es hs J hu)
   ·exact SX.sy (SR.sx (SR.dm ((ot y λs e=>hy ⟨s,e⟩).dR _))) F hw
  ·rename_i e0 e hs J
   simp only[Xs,beq_iff_eq,YB]at h2;obtain⟨⟨h2,rfl⟩,SM⟩:=h2;have hu:=aK8 h2;have hq:∀{t:Z5} {d:TypeDesc},P.underlying t=some d->Q.underlying t=some d:=λh=>(nL H.lk.zr _).trans h;rw[hs]at J;cases J
   have cv:∀(P:Z4) (a:Addr) (l c:Nat) (w:W') (es:Array ϊ),P.underlying src=some (.slice e0)->P.underlying e0=some (.int .u8)->Sem.runT P (do Pure.pure (Next.value (<-convert src src (.slice (some a) l c)))) w es=Sem.runT P (do markStringish a;Pure.pure (Next.value (.slice (some a) l c))) w es:=λP a l c w es h1 h3=>by
    have e1:Sem.runT P (convert src src (.slice (some a) l c)) w es=Sem.runT P (do markStringish a;Pure.pure (.slice (some a) l c)) w es:=by
     unfold convert;rw[wy h1,wy h1,wy h3];simp only[beq_self_eq_true]
    show Sem.runT P (Sem.bind _ _) w es=Sem.runT P (Sem.bind _ _) w es
    rw[Sem.runT_bind',e1];show _=Sem.runT P (Sem.bind _ _) w es
    have:Sem.runT P (do markStringish a;Pure.pure (Value.slice (some a) l c)) w es=_:=Sem.runT_bind' P (markStringish a) (λ_=>Pure.pure (Value.slice (some a) l c)) w es;rw[this,Sem.runT_bind'];generalize Sem.runT P (markStringish a) w es=z;obtain⟨z,e1⟩:=z
    cases z<;>rfl
   have cvS:∀(P:Z4) (s:ByteArray) (w:W') (es:Array ϊ),P.underlying src=some (.slice e0)->P.underlying e0=some (.int .u8)->Sem.runT P (do Pure.pure (Next.value (<-convert src src (.string s)))) w es=Sem.runT P (do Pure.pure (Next.value (<-s2b e0 s))) w es:=λP s w es h1 h3=>by
    have e1:Sem.runT P (convert src src (.string s)) w es=Sem.runT P (s2b e0 s) w es:=by
     unfold convert;rw[wy h1,wy h1,wy h3];exact aw0 P e0 s w es
    show Sem.runT P (Sem.bind _ _) w es=Sem.runT P (Sem.bind _ _) w es
    rw[Sem.runT_bind',Sem.runT_bind',e1]
   have ot:∀y:Z3,(∀a l c,y≠.slice (some a) l c)->(∀s,y≠.string s)->DM Q none (convert src src y):=λy hy hy2=>by
    unfold convert;refine .pg' (hq hs) (.pg' (hq hs) ?_)
    induction y using vcs with
    | h8 a l c=>
     cases a with
     | none=>exact .un E
     | some a=>exact absurd E (hy _ _ _)
    | h5 s=>exact absurd E (hy2 _)
    | _=>exact .un E
   generalize ρ x=y;by_cases hy:∃a l c,y=.slice (some a) l c
   ·obtain⟨a,l,c,rfl⟩:=hy
    rw[aW];refine SY.eq (aQ0 F hz (by omega) hw a (.slice (some a) l c)) (λes=>cv Q a l c w es (hq hs) (hq hu)) (λes=>?_);rw[aW];exact cv P (rA f a) l c w' es hs hu
   by_cases hy2:∃s,y=.string s
   ·obtain⟨s,rfl⟩:=hy2
    rw[aZ];exact SY.eq (SX.sy (SR.sx (dq (aL8 e0 s))) F hw) (λes=>cvS Q s w es (hq hs) (hq hu)) (λes=>cvS P s w' es hs hu)
   ·exact SX.sy (SR.sx (SR.dm ((ot y (λa l c e=>hy ⟨a,l,c,e⟩) λs e=>hy2 ⟨s,e⟩).dR _))) F hw
  ·cases h2
 ·exact SX.sy (SR.sx (IK H iY o ho (λt m k x e => h ⟨t, m, k, x, e⟩) λs d x e => by
   cases hn:numC P s d with
   | true=>rfl
   | false=>exact absurd ⟨s,d,x,e,hn⟩ hc)) F hw
def okC(NG:Nat)(P:Z4):Code->Bool
 | .skip|.exit _|.ret=>true
 | .region _ ops _=>ops.all λo=>okOp NG P o.op
 | .seq a b=>okC NG P a&&okC NG P b
 | .cond c a b=>BB NG c&&okC NG P a&&okC NG P b
 | .block _ b|.loop b|.scope b=>okC NG P b
 | .rangeFunc x _ a b=>BB NG x&&okC NG P a&&okC NG P b
 | _=>false
def okI(NG:Nat)(P:Z4):Item->Bool
 | .code c|.inLoop c|.inScope c=>okC NG P c
 | .inBlock _|.inRangeFunc _|.endRangeFunc _|.beginRound=>true
 | .inRegion ops _=>ops.all λo=>okOp NG P o.op
 | _=>false
def rI(f:Re):Item->Item
 | .inRangeFunc l=>.inRangeFunc (f l)
 | .endRangeFunc l=>.endRangeFunc (f l)
 | i=>i
def rF(f:Re)(fr:Frame):Frame:={ fr with tmps:=fr.tmps.map (rV f),todo:=fr.todo.map (rI f),defers:=fr.defers.map (rM f),roundOf:=fr.roundOf.map f }
def lA(d:Deferred):Prop:=∃m,d={ target:=.collected m,args:=#[] }
structure mu(NG:Nat)(Q P:Z4)(fr:Frame):Prop where
 kind:fr.kind=.normal
 mode:fr.mode=.run\/fr.mode=.returning
 todo:∀i∈fr.todo,okI NG P i=true
 defers:∀d∈fr.defers,lA d
 fn:fr.roundOf=none->∃fn wB,Q.funcs[fr.fn]?=some fn/\P.funcs[fr.fn]?=some wB/\wB.results=fn.results
abbrev KO(NG:Nat)(P:Z4):Kc:=λc=>okC NG P c=true
theorem wI(fr:Frame):∀x,BB NG x=true->(rF f fr).eval x=rV f (fr.eval x):=by
 intro x hx
 cases x with
 | tmp t=>exact vT _ _
 | const v=>exact(sR hx).symm
 | global g=>cases hx
 | func g=>simp[Frame.eval,rFn]
theorem l9(fr:Frame)(v:Z3)(h:∀i∈fr.todo,okI NG P i=true):(rF f fr).finish (rV f v)=rF f (fr.finish v):=by
 cases ht:fr.todo with
 | nil=>simp[Frame.finish,rF,ht]
 | cons i k=>
  cases i<;>first|(have:=h _ (by rw[ht];exact XX ..);simp[okI]at this;done)|(simp[Frame.finish,rF,ht,rI];done)|skip
  rename_i ops todo
  cases todo with
  | nil=>simp[Frame.finish,rF,ht,rI]
  | cons j js=>
   simp only[Frame.finish,rF,ht,Yd,rI]
   cases (ops[j]?).bind (·.dst)<;>simp
theorem oo{fr:Frame}(v:Z3)(h:mu NG Q P fr):mu NG Q P (fr.finish v):=by
 have⟨h1,h2,h3,h4,h5⟩:=h
 cases ht:fr.todo with
 | nil=>simp only[Frame.finish,ht];exact⟨h1,h2,h3,h4,h5⟩
 | cons i k=>
  have hk:∀i∈k,okI NG P i=true:=λi hi=>h3 i (by rw[ht];exact Yc _ hi);have hi:=h3 i (by rw[ht];exact XX ..)
  cases i<;>first|(simp[okI]at hi;done)|(simp only[Frame.finish,ht];exact⟨h1,h2,h3,h4,h5⟩)|skip
  ·rename_i ops todo
   cases todo with
   | nil=>simp only[Frame.finish,ht];exact⟨h1,h2,h3,h4,h5⟩
   | cons j js=>
    simp only[Frame.finish,ht];refine⟨h1,h2,?_,h4,h5⟩;intro i jm;rcases Xy.1 jm with rfl|jm
    ·exact hi
    ·exact hk _ jm
  ·simp only[Frame.finish,ht]
   refine⟨h1,h2,?_,h4,h5⟩;intro i jm;rcases Xy.1 jm with rfl|jm
   ·rfl
   ·exact hk _ jm
  ·simp only[Frame.finish,ht]
   exact⟨h1,h2,hk,h4,h5⟩
theorem ru(id:Nat):∀k:List Item,exitTo id (k.map (rI f))=(exitTo id k).map (·.map (rI f))
 | []=>rfl
 | i::k=>by
  have ih:=ru id k
  cases i<;>simp only[Yd,rI,exitTo]<;>first|exact ih|skip
  split
  ·rfl
  ·exact ih
theorem H4(id:Nat):∀{k k':List Item},exitTo id k=some k'->(∀i∈k,okI NG P i=true)->∀i∈k',okI NG P i=true
 | [],k',h,_=>by cases h
 | i::k,k',h,hk=>by
  have ih:exitTo id k=some k'->∀i∈k',okI NG P i=true:=λh=>H4 id h λi hi=>hk i (Yc _ hi)
  cases i<;>simp only[exitTo]at h<;>first|exact ih h|skip
  split at h
  ·cases h;exact λi hi=>hk i (Yc _ hi)
  ·exact ih h
theorem Bu(ops:Array Z8)(tmps:Array Z3)(j:Nat):yielded ops (tmps.map (rV f)) j=yielded ops tmps j:=by
 unfold yielded
 cases (ops[j]?).bind (·.dst) with
 | none=>rfl
 | some d=>
  simp only[Zv,Yl]
  cases tmps[d]? with
  | none=>rfl
  | some v=>cases v<;>simp
structure GR(NG:Nat)(Q P:Z4)(f:Re)(cs cs':List Frame)(fr:Frame)(cI:List Frame)(g g':Z7):Prop where
 g:g={ frame:=fr,callers:=cI++cs,status:=.running,dying:=none }
 g':g'={ frame:=rF f fr,callers:=cI.map (rF f)++cs',status:=.running,dying:=none }
 ok:mu NG Q P fr
 iU:∀c∈cI,mu NG Q P c
 run:∀c∈cI,c.mode=.run
 base:cI=[]->fr.roundOf=none
 eK:∀c,cI.getLast?=some c->c.roundOf=none
 rd:fr.mode=.returning->fr.roundOf=none
def gsW:GStep->W'
 | .go _ w _|.comm _ _ _ _ w _|.spawn _ _ w _|.count _ w _|.timer _ _ w _|.alone _ _ w _|.newcoro _ _ _ w _|.coroswitch _ _ _ w _|.collect _ w _|.watch _ w _|.ended _ w _=>w
theorem cQ(es:Array ϊ)(s:GStep):gsW (s.after es)=gsW s:=by cases s<;>rfl
def OT(cs:List Frame)(g:Z7):Prop:=∃fr cI,g={ frame:=fr,callers:=cI++cs,status:=.running,dying:=none }/\(∃ch,fr.mode=.panicking ch)/\(∀d∈fr.defers,lA d)/\fr.kind=.normal/\∀c∈cI,(∀d∈c.defers,lA d)/\c.kind=.normal
def FI(a b:W'):Prop:=a.drawn<=b.drawn/\a.heap.size<=b.heap.size
theorem FI.refl(a:W'):FI a a:=⟨Xw _,Xw _⟩
theorem FI.trans{a b c:W'}(h:FI a b)(h2:FI b c):FI a c:=⟨XQ h.1 h2.1,XQ h.2 h2.2⟩
theorem K9{α:Type}(p:Z4)(s:Sem α)(w:W'):FI w (Result.world (s.run p w)):=by
 have:=C4 p s w #[];rw[Sem.runT_fst]at this;exact this
theorem NV(P:Z4)(fr:Frame)(cs:List Frame)(dy:Option Dying)(n:Nat)(w:W'):FI w (gsW (early P fr cs dy n w)):=by
 have Y:FI w (Result.world ((choose (.early n)).run P w)):=K9 _ _ _;unfold early;generalize (choose (.early n)).run P w=r at Y;simp only
 repeat' split
 all_goals first|exact .refl _|exact⟨Xw _,by simp[gsW]⟩|exact Y|exact⟨Y.1,by have:=Y.2;simpa [Result.world,gsW] using this⟩
theorem NB(P:Z4)(fr:Frame)(cs:List Frame)(dy:Option Dying)(m:String)(w:W'):FI w (gsW (endFatal P fr cs dy m w)):=by
 unfold endFatal;simp only;generalize hs:Sem.run P _ w=r;have Y:FI w (Result.world r):=hs ▸ K9 _ _ _
 repeat' split
 all_goals exact Y
theorem D5(P:Z4)(fr:Frame)(cs:List Frame)(dy:Option Dying)(s:Sem Next)(w:W'):FI (Result.world (s.runT P w #[]).1) (gsW (stepG.apply P true fr cs dy s w)):=by
 unfold stepG.apply;simp only[Yp];rw[cQ];generalize (s.runT P w #[])=r;obtain⟨r,yX⟩:=r;simp only
 cases r with
 | ok n w2=>
  cases n<;>simp only<;>first|exact .refl _|skip
  all_goals (repeat' split)
  all_goals exact .refl _
 | halt hh w2=>
  cases hh with
  | unsupported u=>cases u<;>(try simp only)<;>first|exact .refl _|exact NV ..
  | _=>(try simp only)<;>first|exact .refl _|exact NB ..
def Out(NG M:Nat)(Q P:Z4)(f:Re)(W0:W')(cs cs':List Frame)(w w':W')(lone comp:GStep):Prop:=
 (∃o w1 es,lone=.ended o w1 es)\/(∃g1 w1 es,lone=.go g1 w1 es/\OT cs g1/\bg w1)\/
  ∃g1 w1 es xB dt es' fr cI,lone=.go g1 w1 es/\comp=.go xB dt es'/\GR NG Q P f cs cs' fr cI g1 xB/\WR (KO NG P) M f W0 w1 dt/\(∀e∈es',xN M f W0 w1.heap.size dt.heap.size e)/\Mv M f w w1 w' dt
def Al(f:Re)(w w':W')(comp:GStep):Prop:=(∀i q,w'.drawn+i<(gsW comp).drawn->w.tape (w.drawn+i) q=w'.tape (w'.drawn+i) q)/\∀i,w'.heap.size+i<(gsW comp).heap.size->f (w.heap.size+i)=w'.heap.size+i
end
section
variable{Q P:Z4}{f:Re}{NG M N0:Nat}{W0:W'}{cs cs':List Frame}
theorem wz(fr:Frame)(v:Z3):(fr.finish v).roundOf=fr.roundOf:=by
 unfold Frame.finish
 split<;>rfl
theorem kD(fr:Frame)(v:Z3):(fr.finish v).mode=fr.mode:=by
 unfold Frame.finish
 split<;>rfl
theorem Dd(F:FR M N0 f W0)(H:Fk Q P (KO NG P) f){fr:Frame}{cI:List Frame}(ok:mu NG Q P fr)(iU:∀c∈cI,mu NG Q P c)(bR:∀c∈cI,c.mode=.run)(base:cI=[]->fr.roundOf=none)(eK:∀c,cI.getLast?=some c->c.roundOf=none)
  (hm:fr.mode=.run) {s s':Sem Next} {w w':W'} (hs:SY Q P (KO NG P) M f W0 w w' (RN Q P (KO NG P) f) s s') (al:Al f w w' (stepG.apply P true (rF f fr) (cI.map (rF f)++cs') none s' w')) :
  Out NG M Q P f W0 cs cs' w w' (stepG.apply Q true fr (cI++cs) none s w) (stepG.apply P true (rF f fr) (cI.map (rF f)++cs') none s' w'):=by
 have le:=D5 P (rF f fr) (cI.map (rF f)++cs') none s' w';have run:=hs #[] #[] le.1 le.2 al.1 al.2;clear al le
 have kind:∀k:List Item,(∀i∈k,okI NG P i=true)->(match k with|.call _ true _ _::_=>CallKind.wrapped|_=>.normal)=.normal:=λk hk=>by
  cases k with
  | nil=>rfl
  | cons i k=>cases i<;>first|rfl|(have:=hk _ (XX ..);simp[okI]at this)
 have kq:(match fr.todo with|.call _ true _ _::_=>CallKind.wrapped|_=>.normal)=.normal:=kind _ ok.todo
 have kp:(match (rF f fr).todo with|.call _ true _ _::_=>CallKind.wrapped|_=>.normal)=.normal:=by
  refine kind _ λi hi=>?_;obtain⟨j,hj,rfl⟩:=X6.1 hi;have:=ok.todo j hj
  cases j<;>exact this
 have hke:(fr.kind == .early)=false:=by rw[ok.kind];rfl
 have aA6:((rF f fr).kind == .early)=false:=hke;rcases run with ⟨h,w1,e1,r,hp,J⟩|⟨n,n',w1,dt,e1,new,r1,r2,r3,r4,r5,r6⟩
 ·unfold stepG.apply
  simp only[Yp,r]
  cases h with
  | panic v=>exact .inr (.inl ⟨_,_,_,rfl,⟨_,cI,rfl,by rcases ok.mode with h|h<;>simp[Frame.raise,h],by simp only[Frame.raise];split<;>exact ok.defers,by simp only[Frame.raise];split<;>exact ok.kind,λc hc=>⟨(iU c hc).defers,(iU c hc).kind⟩⟩,J⟩)
  | stuck m=>exact .inl ⟨_,_,_,rfl⟩
  | unsupported u=>cases u<;>first|exact .inl ⟨_,_,_,rfl⟩|cases hp
  | _=>cases hp
 ·unfold stepG.apply
  simp only[Yp,r1,r2,hke,aA6,kq,kp,XO,YC,Array.empty_append];refine .inr (.inr ?_);have ev:∀e∈seen P (rF f fr).fn new,xN M f W0 w1.heap.size dt.heap.size e:=λe he=>r5 e (Conc.mem_seen he);have hb:∀v,cI=[]->(fr.finish v).roundOf=none:=λv h=>by rw[wz];exact base h
  have bs:∀g0:Frame,∀c,(fr::cI).getLast?=some c->c.roundOf=none:=λg0 c hc=>by
   cases cI with
   | nil=>simp at hc;subst hc;exact base E
   | cons a l=>rw[List.getLast?_cons_cons]at hc;exact eK c hc
  cases r3 with
  | value v=>
   simp only[GStep.after];rw[l9 fr v ok.todo];exact⟨_,_,_,_,_,_,fr.finish v,cI,rfl,rfl,⟨rfl,rfl,oo v ok,iU,bR,hb v,eK,λh=>by rw[kD,hm]at h;cases h⟩,r4,by simpa using ev,r6⟩
  | skip=>
   simp only[GStep.after];have:=l9 (f:=f) fr undef ok.todo;rw[qi]at this;rw[this];exact⟨_,_,_,_,_,_,fr.finish undef,cI,rfl,rfl,⟨rfl,rfl,oo undef ok,iU,bR,hb undef,eK,λh=>by rw[kD,hm]at h;cases h⟩,r4,by simpa using ev,r6⟩
  | enter g args fn c h1 h2 h3 h4=>
   simp only[GStep.after]
   have hE:∀k k',k=CallKind.normal->k'=CallKind.normal->Frame.enter P g (args.map (rV f)) k'=rF f (Frame.enter Q g args k):=λk k' e e'=>by
    subst e;subst e';simp only[Frame.enter,h1,h2,h3,rF,XB,Zv,Zw,ZH,ZZ,Yd,Zq,rI,XR,Array.map_replicate,qi]
   refine⟨_,_,_,_,_,_,_,fr::cI,rfl,rfl,⟨rfl,?_,⟨kq,.inl E,?_,(λd J=>by cases J),(λ_=>⟨fn,fn,h1,h2,rfl⟩)⟩,λc hc=>?_,λc hc=>?_,(λh=>by cases h),bs fr,(λh=>by cases h)⟩,r4,by simpa using ev,r6⟩
   ·exact congrArg (λx=>({ frame:=x,callers:=rF f fr::(cI.map (rF f)++cs'),status:=.running,dying:=none }:Z7)) (hE _ _ kq kp)
   ·intro i hi
    simp only[Frame.enter,h1,h3,Zv,Zw,YS]at hi;subst hi;exact h4
   ·rcases Xy.1 hc with rfl|hc
    ·exact ok
    ·exact iU c hc
   ·rcases Xy.1 hc with rfl|hc
    ·exact hm
    ·exact bR c hc
  | round l g tmps a b h=>
   simp only[GStep.after];refine⟨_,_,_,_,_,_,Frame.round l g tmps a b .normal,fr::cI,rfl,rfl,⟨rfl,?_,⟨rfl,.inl E,?_,(λd J=>by cases J),(λh=>by cases h)⟩,λc hc=>?_,λc hc=>?_,(λh=>by cases h),bs fr,(λh=>by cases h)⟩,r4,by simpa using ev,r6⟩
   ·rfl
   ·intro i hi
    simp only[Frame.round,Xy,XG,Yn]at hi;rcases hi with rfl|rfl|rfl
    ·exact h.1
    ·rfl
    ·exact h.2
   ·rcases Xy.1 hc with rfl|hc
    ·exact ok
    ·exact iU c hc
   ·rcases Xy.1 hc with rfl|hc
    ·exact hm
    ·exact bR c hc
theorem Out.behind{w w' w1 dt:W'}{s s':GStep}(h:Out NG M Q P f W0 cs cs' w1 dt s s')(hm:Mv M f w w1 w' dt)(hN:∀i,w'.heap.size+i<dt.heap.size->f (w.heap.size+i)=w'.heap.size+i):Out NG M Q P f W0 cs cs' w w' s s':=by
 rcases h with h|h|⟨g1,w2,e1,xB,Ws,e1',fr,cI,a1,a2,h1,h2,h3,h4⟩
 ·exact .inl h
 ·exact .inr (.inl h)
 ·exact .inr (.inr ⟨g1,w2,e1,xB,Ws,e1',fr,cI,a1,a2,h1,h2,h3,hm.trans h4 hN⟩)
theorem Out.both{w w' w1 dt:W'}{s s':GStep}{es es':Array ϊ}(h:Out NG M Q P f W0 cs cs' w1 dt s s')(hm:Mv M f w w1 w' dt)(hN:∀i,w'.heap.size+i<dt.heap.size->f (w.heap.size+i)=w'.heap.size+i)(he:∀e∈es',xN M f W0 w1.heap.size dt.heap.size e):Out NG M Q P f W0 cs cs' w w' (s.after es) (s'.after es'):=by
 rcases h with ⟨o,w1,e1,rfl⟩|⟨g1,w1,e1,rfl,h⟩|⟨g1,w2,e1,xB,Ws,e1',fr,cI,rfl,rfl,h1,h2,h3,h4⟩
 ·exact .inl ⟨o,w1,_,rfl⟩
 ·exact .inr (.inl ⟨g1,w1,_,rfl,h⟩)
 ·refine .inr (.inr ⟨g1,w2,_,xB,Ws,_,fr,cI,rfl,rfl,h1,h2,λe h=>?_,hm.trans h4 hN⟩)
  rcases YG.1 h with h|h
  ·exact(he e h).mono h4.le h4.FA
  ·exact h3 e h
theorem Al.after{w w':W'}{s':GStep}{es':Array ϊ}(h:Al f w w' (s'.after es')):Al f w w' s':=by
 unfold Al at h ⊢;rw[cQ]at h;exact h
theorem Al.mv{w w' w1 dt:W'}{s':GStep}(h:Al f w w' s')(hm:Mv M f w w1 w' dt):Al f w1 dt s':=by
 have⟨h1,h2⟩:=h;refine⟨λi q hi=>?_,λi hi=>?_⟩
 ·have:=h1 (dt.drawn - w'.drawn+i) q (by have:=hm.dle;omega)
  have e1:w.drawn+(dt.drawn - w'.drawn+i)=w1.drawn+i:=by have:=hm.dle;have:=hm.d;omega
  have e2:w'.drawn+(dt.drawn - w'.drawn+i)=dt.drawn+i:=by have:=hm.dle;omega
  rw[e1,e2]at this;rw[hm.t,hm.t'];exact this
 ·have:=h2 (dt.heap.size - w'.heap.size+i) (by have:=hm.FA;omega)
  have e1:w.heap.size+(dt.heap.size - w'.heap.size+i)=w1.heap.size+i:=by have:=hm.FA;have:=hm.n;omega
  have e2:w'.heap.size+(dt.heap.size - w'.heap.size+i)=dt.heap.size+i:=by have:=hm.FA;omega
  rw[e1,e2]at this;exact this
theorem pB{fr:Frame}{cI:List Frame}{w w':W'}(ok:mu NG Q P fr)(iU:∀c∈cI,mu NG Q P c)(bR:∀c∈cI,c.mode=.run)(base:cI=[]->fr.roundOf=none)(eK:∀c,cI.getLast?=some c->c.roundOf=none)(rd:fr.mode=.returning->fr.roundOf=none)(hw:WR (KO NG P) M f W0 w w'){fr':Frame}(e:fr'=rF f fr) :
  Out NG M Q P f W0 cs cs' w w' (.go { frame:=fr,callers:=cI++cs,status:=.running,dying:=none } w) (.go { frame:=fr',callers:=cI.map (rF f)++cs',status:=.running,dying:=none } w'):=by
 subst e;exact .inr (.inr ⟨_,_,_,_,_,_,fr,cI,rfl,rfl,⟨rfl,rfl,ok,iU,bR,base,eK,rd⟩,hw,by simp,.refl _ _⟩)
theorem mu.Ky{fr:Frame}(h:mu NG Q P fr)(k:List Item)(hk:∀i∈k,okI NG P i=true):mu NG Q P { fr with todo:=k }:=⟨h.kind,h.mode,hk,h.defers,h.fn⟩
theorem lR(H:Fk Q P (KO NG P) f){fr:Frame}{cI:List Frame}(ok:mu NG Q P fr)(iU:∀c∈cI,mu NG Q P c)(bR:∀c∈cI,c.mode=.run)(eK:∀c,cI.getLast?=some c->c.roundOf=none)(eW:cI≠[]){w w':W'}(hw:WR (KO NG P) M f W0 w w')(v:Z3)(m m':Bool) :
  Out NG M Q P f W0 cs cs' w w' (doReturn Q m fr (cI++cs) none v w) (doReturn P m' (rF f fr) (cI.map (rF f)++cs') none (rV f v) w'):=by
 cases cI with
 | nil=>exact absurd E eW
 | cons c l=>
  have k1:fr.kind=.normal:=ok.kind;have k2:(rF f fr).kind=.normal:=ok.kind;simp only[doReturn,ZT,Yd,k1,k2];have okc:=iU c (XX ..);refine pB (oo v okc) (λx hx=>iU x (Yc _ hx)) (λx hx=>bR x (Yc _ hx)) (λh=>?_) (λx hx=>?_) (λh=>?_) hw (l9 c v okc.todo)
  ·rw[wz];exact eK c (by rw[h];rfl)
  ·cases l with
   | nil=>cases hx
   | cons a l=>exact eK x (by rw[List.getLast?_cons_cons];exact hx)
  ·rw[kD,bR c (XX ..)]at h;cases h
theorem jd(F:FR M N0 f W0){α β:Type}{R:α->β->Prop}{s:Sem α}{s':Sem β}(hs:SR Q P (KO NG P) f R s s'){w w':W'}(hw:WR (KO NG P) M f W0 w w'){comp:GStep}(al:Al f w w' comp)(hb:FI (Result.world (s'.runT P w' #[]).1) (gsW comp)) :
  (∃h w1 e1,s.runT Q w #[]=(.halt h w1,e1)/\ig h=true/\bg w1)\/
  ∃a b w1 dt e1 new,s.runT Q w #[]=(.ok a w1,e1)/\s'.runT P w' #[]=(.ok b dt,new)/\R a b/\WR (KO NG P) M f W0 w1 dt/\(∀(fn:ϋ),∀e∈seen P fn new,xN M f W0 w1.heap.size dt.heap.size e)/\Mv M f w w1 w' dt/\∀i,w'.heap.size+i<dt.heap.size->f (w.heap.size+i)=w'.heap.size+i:=by
 rcases hs.run F w w' #[] #[] hw hb.1 hb.2 al.1 al.2 with h|⟨a,b,w1,dt,e1,new,r1,r2,r3,r4,r5,r6⟩
 ·exact .inl h
 ·exact .inr ⟨a,b,w1,dt,e1,new,r1,by simpa using r2,r3,r4,λfn e he=>r5 e (Conc.mem_seen he),r6,λi hi=>al.2 i (XD hi (by have:=hb.2;rw[r2]at this;exact this))⟩
theorem lr(P:Z4)(m:Bool)(fr:Frame)(l:List Frame)(v:Z3)(w:W'):FI w (gsW (doReturn P m fr l none v w)):=by
 unfold doReturn
 cases l with
 | cons c l=>simp only;split<;>exact .refl _
 | nil=>
  simp only
  repeat' split
  all_goals exact .refl _
theorem uw{p:Z4}{listen:Bool}{fr:Frame}{cs:List Frame}{dy:Option Dying}{w:W'}{o:Z8}(ho:fr.oper?=some o)(J:∀c,o.op≠.defer c):stepG.oper p listen fr cs dy w=stepG.apply p listen fr cs dy (execOp fr.eval o) w:=by
 unfold stepG.oper;simp only[ho]
 split
 ·rename_i h;exact absurd h (J _)
 ·rfl
theorem Hg(fr:Frame):(rF f fr).todo=fr.todo.map (rI f):=rfl
theorem K4(F:FR M N0 f W0)(H:Fk Q P (KO NG P) f){fr:Frame}{cI:List Frame}(ok:mu NG Q P fr)(iU:∀c∈cI,mu NG Q P c)(bR:∀c∈cI,c.mode=.run)(base:cI=[]->fr.roundOf=none)(eK:∀c,cI.getLast?=some c->c.roundOf=none)
  (hm:fr.mode=.run) {w w':W'} (hz:Hz NG M f w w') (hw:WR (KO NG P) M f W0 w w') (m m':Bool) (al:Al f w w' (stepG.exec P m' true (rF f fr) (cI.map (rF f)++cs') none w')) :
  Out NG M Q P f W0 cs cs' w w' (stepG.exec Q m true fr (cI++cs) none w) (stepG.exec P m' true (rF f fr) (cI.map (rF f)++cs') none w'):=by
 have okt:=ok.todo
 have Mu:∀k:List Item,(∀i∈k,okI NG P i=true)->fr.roundOf=none->Out NG M Q P f W0 cs cs' w w' (.go { frame:={ fn:=fr.fn,tmps:=fr.tmps,todo:=k,defers:=fr.defers,mode:=.returning,kind:=fr.kind },callers:=cI++cs,status:=.running,dying:=none } w)
   (.go { frame:={ fn:=(rF f fr).fn,tmps:=(rF f fr).tmps,todo:=k.map (rI f),defers:=(rF f fr).defers,mode:=.returning,kind:=(rF f fr).kind },callers:=cI.map (rF f)++cs',status:=.running,dying:=none } w'):=λk hk Y=>
  pB (fr:={ fn:=fr.fn,tmps:=fr.tmps,todo:=k,defers:=fr.defers,mode:=.returning,kind:=fr.kind }) ⟨ok.kind,.inr E,hk,ok.defers,λ_=>ok.fn Y⟩ iU bR (λ_=>rfl) eK (λ_=>rfl) hw E
 have uk:∀l,fr.roundOf=some l->(rF f fr).roundOf=some (f l):=λl h=>by simp[rF,h]
 have P4:fr.roundOf=none->(rF f fr).roundOf=none:=λh=>by simp[rF,h]
 have nrd:fr.mode=.returning->fr.roundOf=none:=λh=>by rw[hm]at h;cases h
 have to:∀k:List Item,(∀i∈k,okI NG P i=true)->Out NG M Q P f W0 cs cs' w w' (.go { frame:={ fr with todo:=k },callers:=cI++cs,status:=.running,dying:=none } w) (.go { frame:={ rF f fr with todo:=k.map (rI f) },callers:=cI.map (rF f)++cs',status:=.running,dying:=none } w'):=λk hk=>
  pB (ok.Ky k hk) iU bR base eK nrd hw E
 cases ht:fr.todo with
 | nil=>
  have mn:(rF f fr).todo=[]:=by rw[Hg,ht];rfl
  unfold stepG.exec at al ⊢
  cases Y:fr.roundOf with
  | none=>simp only[ht,mn,Y,P4 Y,Yp]at al ⊢;exact Mu [] (λi hi=>by cases hi) Y
  | some l=>
   simp only[ht,mn,Y,uk l Y]at al ⊢;have eW:cI≠[]:=λh=>by have:=base h;rw[Y]at this;cases this
   rcases jd (Q:=Q) F (mM l none (λc h=>by cases h)) hw al (by
    rw[cQ]
    cases hq:(Sem.runT P (Instr.endRound (f l) none) w' #[]).1<;>simp only
    ·exact lr ..
    ·exact .refl _) with ⟨h,w1,e1,r,hp,J⟩|⟨a,b,w1,dt,e1,new,r1,r2,r3,r4,r5,r6,r7⟩
   ·simp only[r];exact .inl ⟨_,_,_,rfl⟩
   ·cases r3
    simp only[r1,r2];exact((Out.both (lR H ok iU bR eK eW r4 a m m') r6 r7 (r5 _)))
 | cons i k=>
  have mn:(rF f fr).todo=rI f i::k.map (rI f):=by rw[Hg,ht];rfl
  have hk:∀i∈k,okI NG P i=true:=λj hj=>okt j (by rw[ht];exact Yc _ hj);have hi:=okt i (by rw[ht];exact XX ..);unfold stepG.exec at al ⊢
  have two:∀x y:Item,okI NG P x=true->okI NG P y=true->∀i∈x::y::k,okI NG P i=true:=λx y hx hy i hi=>by
   rcases Xy.1 hi with rfl|hi
   ·exact hx
   ·rcases Xy.1 hi with rfl|hi
    ·exact hy
    ·exact hk i hi
  have one:∀x:Item,okI NG P x=true->∀i∈x::k,okI NG P i=true:=λx hx i hi=>by
   rcases Xy.1 hi with rfl|hi
   ·exact hx
   ·exact hk i hi
  cases i with
  | inBlock id=>simp only[ht,mn,rI]at al ⊢;exact to k hk
  | inScope c=>simp only[ht,mn,rI]at al ⊢;exact to k hk
  | inLoop c=>simp only[ht,mn,rI]at al ⊢;exact to _ (two (.code c) (.inLoop c) hi hi)
  | call=>cases hi
  | code c=>
   cases c with
   | skip=>simp only[ht,mn,rI]at al ⊢;exact to k hk
   | label l=>cases hi
   | goto l=>cases hi
   | refuse s=>cases hi
   | ret=>
    cases Y:fr.roundOf with
    | none=>simp only[ht,mn,rI,Y,P4 Y,Yp]at al ⊢;exact Mu (.code .ret::k) (one _ E) Y
    | some l=>
     simp only[ht,mn,rI,Y,uk l Y]at al ⊢;have eW:cI≠[]:=λh=>by have:=base h;rw[Y]at this;cases this
     rcases jd (Q:=Q) F (mM l (some .ret) (λc h=>by cases h;rfl)) hw al (by
    rw[cQ]
    cases hq:(Sem.runT P (Instr.endRound (f l) (some .ret)) w' #[]).1<;>simp only
    ·exact lr ..
    ·exact .refl _) with ⟨h,w1,e1,r,hp,J⟩|⟨a,b,w1,dt,e1,new,r1,r2,r3,r4,r5,r6,r7⟩
     ·simp only[r];exact .inl ⟨_,_,_,rfl⟩
     ·cases r3
      simp only[r1,r2];exact((Out.both (lR H ok iU bR eK eW r4 a m m') r6 r7 (r5 _)))
   | seq a b=>
    simp only[ht,mn,rI]at al ⊢;simp only[okI,okC,Xs]at hi;exact to _ (two (.code a) (.code b) hi.1 hi.2)
   | block id b=>simp only[ht,mn,rI]at al ⊢;exact to _ (two (.code b) (.inBlock id) hi E)
   | loop b=>simp only[ht,mn,rI]at al ⊢;exact to _ (two (.code b) (.inLoop b) hi hi)
   | scope b=>simp only[ht,mn,rI]at al ⊢;exact to _ (two (.code b) (.inScope b) hi hi)
   | cond c a b=>
    simp only[okI,okC,Xs]at hi;have he:=wI (f:=f) fr c hi.1.1;simp only[ht,mn,rI]at al ⊢;rw[he]
    cases fr.eval c<;>first|exact .inl ⟨_,_,_,rfl⟩|skip
    rename_i t;simp only[bP]
    cases t
    ·exact to _ (one (.code b) hi.2)
    ·exact to _ (one (.code a) hi.1.2)
   | exit id=>
    cases hx:exitTo id k with
    | none=>
     cases Y:fr.roundOf with
     | none=>simp only[ht,mn,rI,ru,hx,Y,P4 Y,XR,Zs]at al ⊢;exact .inl ⟨_,_,_,rfl⟩
     | some l=>
      simp only[ht,mn,rI,ru,hx,Y,uk l Y,XR,Zs]at al ⊢;have eW:cI≠[]:=λh=>by have:=base h;rw[Y]at this;cases this
      rcases jd (Q:=Q) F (mM l (some (.exit id)) (λc h=>by cases h;rfl)) hw al (by
    rw[cQ]
    cases hq:(Sem.runT P (Instr.endRound (f l) (some (.exit id))) w' #[]).1<;>simp only
    ·exact lr ..
    ·exact .refl _) with ⟨h, w1, e1, r, hp, J⟩ | ⟨a, b, w1, dt, e1, new, r1, r2, r3, r4, r5, r6, r7⟩
      · simp only[r];exact .inl ⟨_,_,_,rfl⟩
      ·cases r3
       simp only[r1,r2];exact((Out.both (lR H ok iU bR eK eW r4 a m m') r6 r7 (r5 _)))
    | some k'=>simp only[ht,mn,rI,ru,hx]at al ⊢;exact to k' (H4 id hx hk)
   | region id ops draw=>
    cases draw with
    | false=>simp only[ht,mn,rI,ZG,Yp]at al ⊢;exact to (.inRegion ops _::k) (one (.inRegion ops _) hi)
    | true=>
     simp only[ht,mn,rI,Y1,XO,YC]at al ⊢;have e:(rF f fr).fn=fr.fn:=rfl;rw[e]at al ⊢
     rcases jd (Q:=Q) F (R:=Eq) (s:=choose (.order fr.fn id)) (s':=choose (.order fr.fn id)) (.choose _ _ _ λn=>.pure _ _ rfl) hw al (by
      rw[Sem.runT_fst]
      cases hq:Sem.run P (choose (.order fr.fn id)) w'<;>simp only<;>exact .refl _) with ⟨h,w1,e1,r,hp,J⟩|⟨a,b,w1,dt,e1,new,r1,r2,r3,r4,r5,r6,r7⟩
     ·have r':=congrArg Prod.fst r
      rw[Sem.runT_fst]at r';simp only[r'];exact .inl ⟨_,_,_,rfl⟩
     ·subst r3
      have r1':=congrArg Prod.fst r1;have So:=congrArg Prod.fst r2;rw[Sem.runT_fst]at r1' So;simp only[r1',So]
      have ef:Q.follows .mixedOrders=P.follows .mixedOrders:=by
       have:=congrArg (λT:Tables=>T.follows .mixedOrders) H.lk.zr;exact this
      rw[ef];exact Out.behind (pB (ok.Ky (.inRegion ops _::k) (one (.inRegion ops _) hi)) iU bR base eK nrd r4 E) r6 r7
   | rangeFunc x ps a b=>
    simp only[okI,okC,Xs]at hi;simp only[ht,mn,rI]at al ⊢
    rcases jd (Q:=Q) F (zC fr.fn fr.tmps ps a b ⟨hi.1.2,hi.2⟩ fr.roundOf) hw al (by
     rw[cQ]
     cases hq:(Sem.runT P (Instr.enterLoop fr.fn (fr.tmps.map (rV f)) ps a b (fr.roundOf.map f)) w' #[]).1<;>simp only[rF,hq]
     ·exact(C4 _ _ _ _).elim λh1 h2=>FI.trans ⟨h1,h2⟩ (D5 ..)
     ·exact .refl _) with ⟨h,w1,e1,r,hp,J⟩|⟨l,l',w1,dt,e1,new,r1,r2,r3,r4,r5,r6,r7⟩
    ·simp only[r];exact .inl ⟨_,_,_,rfl⟩
    ·obtain⟨rfl,J5⟩:=r3
     have So:Sem.runT P (Instr.enterLoop (rF f fr).fn (rF f fr).tmps ps a b (rF f fr).roundOf) w' #[]=_:=r2;simp only[r1,So]at al ⊢
     have okm:∀d∈l.2++fr.defers,lA d:=λd J=>by
      rcases YV.1 J with J|J
      ·rcases J5 with h|⟨m,h⟩<;>rw[h]at J
       · cases J
       · rw[YS]at J;exact⟨m,J⟩
      · exact ok.defers d J
     have ok1:mu NG Q P { fr with todo:=.inRangeFunc l.1::k,defers:=l.2++fr.defers }:=⟨ok.kind,ok.mode,one _ E,okm,ok.fn⟩;have er:rF f { fr with todo:=.inRangeFunc l.1::k,defers:=l.2++fr.defers }={ rF f fr with todo:=.inRangeFunc (f l.1)::k.map (rI f),defers:=l.2.map (rM f)++(rF f fr).defers }:=by simp[rF,rI]
     have he:=wI (f:=f) fr x hi.1.1
     have hs:SR Q P (KO NG P) f (RN Q P (KO NG P) f) (do let d <-resolve fr.eval { callee:=.value x,args:=#[.const (.func (.yield l.1) #[] #[])],argTypes:=#[] } 0;invoke d.target d.args)
       (do let d <-resolve (rF f fr).eval { callee:=.value x,args:=#[.const (.func (.yield (f l.1)) #[] #[])],argTypes:=#[] } 0;invoke d.target d.args):=by
      unfold resolve;have e1:∀(fr:Frame) (v:Z3),(#[Operand.const v]).map fr.eval=#[v]:=λfr v=>by simp[Frame.eval]
      simp only[he,e1];have:=uN (Q:=Q) (P:=P) (K:=KO NG P) (f:=f) (fr.eval x) #[.func (.yield l.1) #[] #[]];refine(show SR Q P (KO NG P) f _ (Deferred.ofValue (fr.eval x) #[.func (.yield l.1) #[] #[]] >>= _) (Deferred.ofValue (rV f (fr.eval x)) #[.func (.yield (f l.1)) #[] #[]] >>= _) from SR.dR (by simpa [rFn] using this) λd d' J=>?_);obtain⟨rfl,J⟩:=J;exact x6 H d.target d.args J
     have RP:=al.after.mv r6;rw[<-er]at RP ⊢;exact((Out.both (Dd F H ok1 iU bR base eK hm (SX.sy (SR.sx hs) F r4) RP) r6 r7 (r5 _)))
  | inRegion ops todo=>
   cases todo with
   | nil=>simp only[ht,mn,rI]at al ⊢;exact to k hk
   | cons j js=>
    simp only[ht,mn,rI]at al ⊢;have ey:(rF f fr).tmps=fr.tmps.map (rV f):=rfl
    have ew:((ops[j]?).map (Region.wanted · (yielded ops (rF f fr).tmps))).getD false=((ops[j]?).map (Region.wanted · (yielded ops fr.tmps))).getD false:=by
     have:yielded ops (rF f fr).tmps=yielded ops fr.tmps:=funext λn=>by rw[ey,Bu]
     rw[this]
    rw[ew]at al ⊢;by_cases WB:((ops[j]?).map (Region.wanted · (yielded ops fr.tmps))).getD false=true
    ·rw[Xu WB]at al ⊢
     rw[Xu WB];cases hj:ops[j]? with
     | none=>rw[hj]at WB;cases WB
     | some o=>
      have o1:fr.oper?=some o:=by simp only[Frame.oper?,ht];exact hj
      have o2:(rF f fr).oper?=some o:=by simp only[Frame.oper?,mn,rI];exact hj
      have cF:okOp NG P o.op=true:=by
       simp only[okI,Yi]at hi;exact hi o (Ym hj)
      have nd:∀c,o.op≠.defer c:=λc h=>by rw[h]at cF;cases cF
      rw[uw o2 nd]at al ⊢;rw[uw o1 nd];exact Dd F H ok iU bR base eK hm (aI9 F H hz hw (wI (f:=f) fr) o cF) al
    ·rw[Xr WB]at al ⊢
     rw[Xr WB];have:=l9 (f:=f) fr undef okt;rw[qi]at this;exact pB (oo undef ok) iU bR (λh=>by rw[wz];exact base h) eK (λh=>by rw[kD,hm]at h;cases h) hw this
  | inRangeFunc l=>
   simp only[ht,mn,rI]at al ⊢;exact .inl ⟨_,_,_,rfl⟩
  | endRangeFunc l=>
   simp only[ht,mn,rI]at al ⊢
   rcases jd (Q:=Q) F (EU l) hw al (by
    rw[cQ]
    cases hq:(Sem.runT P (Instr.endLoop (f l)) w' #[]).1 with
    | ok v w2=>exact .refl _
    | halt hh w2=>cases hh<;>exact .refl _) with ⟨h,w1,e1,r,hp,J⟩|⟨a,b,w1,dt,e1,new,r1,r2,r3,r4,r5,r6,r7⟩
   ·simp only[r]
    cases h with
    | panic v=>exact .inr (.inl ⟨_,_,_,rfl,⟨_,cI,rfl,by simp[Frame.raise,hm],by simp only[Frame.raise];split<;>exact ok.defers,by simp only[Frame.raise];split<;>exact ok.kind,λc hc=>⟨(iU c hc).defers,(iU c hc).kind⟩⟩,J⟩)
    | _=>first|exact .inl ⟨_,_,_,rfl⟩|cases hp
   ·obtain⟨rfl,hj⟩:=r3
    simp only[r1,r2]
    have okj:∀i∈(a.map Item.code).toList++k,okI NG P i=true:=λi hi=>by
     rcases YV.1 hi with hi|hi
     ·cases a with
      | none=>cases hi
      | some c=>
       simp only[XB,Option.toList_some,YS]at hi;subst hi;exact hj c E
     ·exact hk i hi
    have er:rF f { fr with todo:=(a.map Item.code).toList++k }={ rF f fr with todo:=(a.map Item.code).toList++k.map (rI f) }:=by cases a<;>simp[rF,rI]
    exact((Out.both (pB (ok.Ky _ okj) iU bR base eK nrd r4 er.symm) r6 r7 (r5 _)))
  | beginRound=>
   simp only[ht,mn,rI]at al ⊢
   cases Y:fr.roundOf with
   | none=>
    simp only[P4 Y,Zs]at al ⊢;exact Dd F H ok iU bR base eK hm (SX.sy (SR.sx (SR.dm (DM.dR .st _))) F hw) al
   | some l=>
    simp only[uk l Y,Option.elim_some]at al ⊢;exact Dd F H ok iU bR base eK hm (SX.sy (SR.sx ((xe l).aS λ_=>.ret .skip)) F hw) al
  | _=>cases hi
theorem EZ(F:FR M N0 f W0)(H:Fk Q P (KO NG P) f){fr:Frame}{cI:List Frame}(ok:mu NG Q P fr)(iU:∀c∈cI,mu NG Q P c)(bR:∀c∈cI,c.mode=.run)(base:cI=[]->fr.roundOf=none)(eK:∀c,cI.getLast?=some c->c.roundOf=none)
  (hm:fr.mode=.returning) (hrd:fr.roundOf=none) (nf:¬(cI=[]/\fr.defers=[])) {w w':W'} (hw:WR (KO NG P) M f W0 w w') (m m':Bool) (al:Al f w w' (unwind P m' (rF f fr) (cI.map (rF f)++cs') none w')) :
  Out NG M Q P f W0 cs cs' w w' (unwind Q m fr (cI++cs) none w) (unwind P m' (rF f fr) (cI.map (rF f)++cs') none w'):=by
 unfold unwind at al ⊢;cases J:fr.defers with
 | nil=>
  have Bl:(rF f fr).defers=[]:=by simp[rF,J]
  have vO:(rF f fr).mode=.returning:=hm;have eW:cI≠[]:=λh=>nf ⟨h,J⟩;obtain⟨fn,wB,q1,q2,q3⟩:=ok.fn hrd;have q2':P.funcs[(rF f fr).fn]?=some wB:=q2;have q4:∀tmps,results wB tmps=results fn tmps:=λtmps=>by unfold results;rw[q3]
  simp only[J,Bl,hm,vO,q1,q2',q4]at al ⊢
  rcases jd (Q:=Q) F (uL H.lk fn fr.tmps) hw al (by
   rw[cQ]
   cases hq:(Sem.runT P (results fn (rF f fr).tmps) w' #[]).1 with
   | ok v w2=>have QU:(Sem.runT P (results fn (fr.tmps.map (rV f))) w' #[]).1=.ok v w2:=hq;rw[QU];exact lr ..
   | halt hh w2=>have QU:(Sem.runT P (results fn (fr.tmps.map (rV f))) w' #[]).1=.halt hh w2:=hq;rw[QU];cases hh<;>exact .refl _) with ⟨h,w1,e1,r,hp,J⟩|⟨a,b,w1,dt,e1,new,r1,r2,r3,r4,r5,r6,r7⟩
  ·simp only[r]
   cases h<;>exact .inl ⟨_,_,_,rfl⟩
  ·cases r3
   have So:Sem.runT P (results fn (rF f fr).tmps) w' #[]=_:=r2;simp only[r1,So];exact((Out.both (lR H ok iU bR eK eW r4 a m m') r6 r7 (r5 _)))
 | cons d ds=>
  obtain⟨b,rfl⟩:=ok.defers d (by rw[J];exact XX ..);have Bl:(rF f fr).defers={ target:=.collected (f b),args:=#[] }::ds.map (rM f):=by simp[rF,J,rM]
  simp only[J,Bl]at al ⊢
  rcases jd (Q:=Q) F (tQ b) hw al (by
   rw[cQ]
   cases hq:(Sem.runT P (Instr.takeDeferred (f b)) w' #[]).1<;>exact .refl _) with ⟨h,w1,e1,r,hp,J⟩|⟨a,b',w1,dt,e1,new,r1,r2,r3,r4,r5,r6,r7⟩
  ·simp only[r];exact .inl ⟨_,_,_,rfl⟩
  ·obtain⟨rfl,rfl⟩:=r3
   simp only[r1,r2,Yt];exact((Out.both (pB (fr:={ fr with defers:=ds }) ⟨ok.kind,ok.mode,ok.todo,λd h=>ok.defers d (by rw[J];exact Yc _ h),ok.fn⟩ iU bR base eK (λ_=>hrd) r4 E) r6 r7 (r5 _)))
def di(Q:Z4):Frame:={ fn:=Q.funcs.size,tmps:=#[],todo:=[.call { target:=.nil,args:=#[] } false "fmt's door?" #[]],defers:=[],mode:=.run,kind:=.normal }
theorem IA:Extern.next "fmt's door?" = none:=by kernel_rfl
theorem IB : "fmt's door?".startsWith "fmt's door" = true:=by kernel_rfl
theorem Px(Q:Z4):Q.funcs[(di Q).fn]?=none:=by simp[di]
theorem zp(Q:Z4)(m:FrameMode):({ di Q with mode:=m }:Frame).catches Q=true:=by
 unfold Frame.catches;have:Q.funcs[({ di Q with mode:=m }:Frame).fn]?=none:=Px Q;rw[this];exact IB
theorem dH{fr:Frame}{cs:List Frame}{w:W'}:(∀o w1 es,stepG Q true { frame:=fr,callers:=cs,status:=.running,dying:=none } w=.ended o w1 es->∃o w1,step Q (lone fr cs w)=.ended o w1)/\
  (∀gq Ph w1 es,stepG Q true { frame:=fr,callers:=cs,status:=.running,dying:=none } w=.go { frame:=gq,callers:=Ph,status:=.running,dying:=none } w1 es->step Q (lone fr cs w)=.next (lone gq Ph w1)):=by
 refine⟨λo w1 es h=>⟨o,w1,step_lone_ended (by rw[h];rfl)⟩,λgq Ph w1 es h=>step_lone_go (by rw[h];rfl)⟩
def Dm(Q:Z4)(fr:Frame)(cs:List Frame):Prop:=
 (∃cI,cs=cI++[di Q]/\(∃ch,fr.mode=.panicking ch)/\(∀d∈fr.defers,lA d)/\∀c∈cI,∀d∈c.defers,lA d)\/(cs=[]/\∃ch,fr={ di Q with mode:=.panicking ch })\/(cs=[]/\∃v,fr=(di Q).finish v)
theorem Dm.of{g:Z7}(h:OT [di Q] g):∃fr cs,g={ frame:=fr,callers:=cs,status:=.running,dying:=none }/\Dm Q fr cs:=by
 obtain⟨fr,cI,rfl,h1,h2,h3,h4⟩:=h;exact⟨fr,cI++[di Q],rfl,.inl ⟨cI,rfl,h1,h2,λc hc=>(h4 c hc).1⟩⟩
theorem KB{b:Nat}{w:W'}(hw:Par.bg w):(∃h w1 e,(Instr.takeDeferred b).runT Q w #[]=(.halt h w1,e))\/∃w1 e,(Instr.takeDeferred b).runT Q w #[]=(.ok [] w1,e)/\Par.bg w1:=by
 have e : ∀ o, w.heap[b]? = some o -> (∀ c e z, o ≠ .cells c e z) -> (Instr.takeDeferred b).runT Q w #[] = (match o with
   | .deferred (some ds)=>(.ok ds { w with heap:=w.heap.setIfInBounds b (.deferred none) },#[⟨.obj b,false,false⟩,⟨.obj b,true,false⟩])
   | _=>(.halt (.stuck "range over a function: the deferred calls have been taken") w,#[⟨.obj b,false,o.isChan⟩]):Result (List Deferred) × Array ϊ):=λo ho hn=>by
  cases o with
  | cells c e z=>exact absurd E (hn c e z)
  | deferred c=>
   cases c with
   | none=>simp only[Instr.takeDeferred,getObj,setObj,bind,Sem.bind,Sem.runT,ho,stuck,Obj.isChan];rfl
   | some c=>simp only[Instr.takeDeferred,getObj,setObj,bind,Sem.bind,Sem.runT,ho,pure,Obj.isChan];rfl
  | _=>simp only[Instr.takeDeferred,getObj,setObj,bind,Sem.bind,Sem.runT,ho,stuck,Obj.isChan];rfl
 cases hb:w.heap[b]? with
 | none=>exact .inl ⟨_,_,_,by simp only[Instr.takeDeferred,getObj,bind,Sem.bind,Sem.runT,hb];rfl⟩
 | some o=>
  rcases Zd (∃c e z,o=.cells c e z) with ⟨c,e',z,rfl⟩|hn
  ·exact .inl ⟨_,_,_,by simp only[Instr.takeDeferred,getObj,bind,Sem.bind,Sem.runT,hb];rfl⟩
  ·have WQ:∀c e z,o≠.cells c e z:=λc e z h=>hn ⟨c,e,z,h⟩
   rw[e o hb WQ]
   cases o with
   | deferred c=>
    cases c with
    | none=>exact .inl ⟨_,_,_,rfl⟩
    | some ds=>
     obtain rfl:=hw b ds hb;refine .inr ⟨_,_,rfl,λb' Pg h=>?_⟩;simp only at h;by_cases WY:b=b'
     ·subst WY
      rw[X9 (Xz.1 hb).1]at h
      cases h
     ·rw[XE WY]at h
      exact hw b' Pg h
   | _=>exact .inl ⟨_,_,_,rfl⟩
theorem xT(v:Z3)(w:W'):∃o w1,Go.step Q (lone ((di Q).finish v) [] w)=.ended o w1:=by
 have e:∃o w1,stepG Q true { frame:=(di Q).finish v,callers:=[],status:=.running,dying:=none } w=.ended o w1:=⟨_,_,by simp only[stepG,stepG.exec,di,Frame.finish,IA,Zs];rfl⟩;obtain⟨o,w1,e⟩:=e;exact dH.1 _ _ _ e
theorem FG{fr:Frame}{w:W'}{fn:Func}(hm:fr.mode=.returning)(J:fr.defers=[])(hk:fr.kind=.normal)(hf:Q.funcs[fr.fn]?=some fn) :
  (∃o w1,Go.step Q (lone fr [di Q] w)=.ended o w1)\/∃v w1,Go.step Q (lone fr [di Q] w)=.next (lone ((di Q).finish v) [] w1):=by
 have e:stepG Q true { frame:=fr,callers:=[di Q],status:=.running,dying:=none } w=unwind Q true fr [di Q] none w:=by simp[stepG,hm]
 unfold unwind at e;simp only[J,hm,hf]at e
 cases hq:((results fn fr.tmps).runT Q w #[]).1 with
 | ok v w2=>
  simp only[hq,doReturn,hk,GStep.after]at e;exact .inr ⟨v,w2,dH.2 _ _ _ _ e⟩
 | halt hh w2=>
  have:∃o w1 es,stepG Q true { frame:=fr,callers:=[di Q],status:=.running,dying:=none } w=.ended o w1 es:=by
   rw[e,hq]
   cases hh<;>exact⟨_,_,_,rfl⟩
  obtain⟨o,w1,es,h⟩:=this;exact .inl (dH.1 _ _ _ h)
theorem Dm.step{fr:Frame}{cs:List Frame}{w:W'}(h:Dm Q fr cs)(hw:Par.bg w):(∃o w1,Go.step Q (lone fr cs w)=.ended o w1)\/∃gq Ph w1,Go.step Q (lone fr cs w)=.next (lone gq Ph w1)/\Dm Q gq Ph/\Par.bg w1:=by
 rcases h with ⟨cI,rfl,⟨ch,hm⟩,J,Q7⟩|⟨rfl,ch,rfl⟩|⟨rfl,v,rfl⟩
 ·have e:stepG Q true { frame:=fr,callers:=cI++[di Q],status:=.running,dying:=none } w=unwind Q true fr (cI++[di Q]) none w:=by simp[stepG,hm]
  cases AA:fr.defers with
  | cons d ds=>
   obtain⟨b,rfl⟩:=J d (by rw[AA];exact XX ..);unfold unwind at e;simp only[AA]at e;rcases KB (Q:=Q) (b:=b) hw with ⟨h,w1,es,r⟩|⟨w1,es,r,tX⟩
   ·rw[r]at e;exact .inl (dH.1 _ _ _ e)
   ·rw[r]at e
    refine .inr ⟨_,_,_,dH.2 _ _ _ _ e,.inl ⟨cI,rfl,⟨ch,hm⟩,λd h=>?_,Q7⟩,tX⟩;exact J d (by rw[AA];exact Yc _ h)
  | nil=>
   unfold unwind at e;simp only[AA,hm]at e;by_cases hc:fr.catches Q=true
   ·rw[Xu hc]at e;exact .inl (dH.1 _ _ _ e)
   ·rw[Xr hc]at e
    cases cI with
    | nil=>
     simp only[Yt]at e;exact .inr ⟨_,_,_,dH.2 _ _ _ _ e,.inr (.inl ⟨rfl,ch,rfl⟩),hw⟩
    | cons c l=>
     simp only[ZT]at e;refine .inr ⟨_,_,_,dH.2 _ _ _ _ e,.inl ⟨l,rfl,?_,?_,λx hx=>Q7 x (Yc _ hx)⟩,hw⟩
     ·simp only[Frame.raise];split<;>exact⟨_,rfl⟩
     ·simp only[Frame.raise];split<;>exact Q7 c (XX ..)
 ·have e : stepG Q true { frame := { di Q with mode := .panicking ch }, callers := [], status := .running, dying := none } w = .ended (.unsupported (.noEntry "a panic or Goexit out of a method that fmt calls behind a cut's door") (({ di Q with mode := .panicking ch } : Frame).pos Q)) w := by
   have hc:=zp Q (.panicking ch);simp only[stepG,unwind,di]at hc ⊢;exact Xu hc
  exact .inl (dH.1 _ _ _ e)
 ·exact .inl (xT v w)
theorem m5{fr gq:Frame}{cs Ph:List Frame}{w w1:W'}(h:lone fr cs w=lone gq Ph w1):fr=gq/\cs=Ph/\w=w1:=by
 simp only[lone,Machine.mk.injEq,Array.mk.injEq,ZK,Goroutine.mk.injEq]at h;exact⟨h.2.1.1.1,h.2.1.1.2.1,h.1⟩
theorem Dm.never:∀(n:Nat) {fr gq:Frame} {cs:List Frame} {w w1:W'},Dm Q fr cs->Par.bg w->runN Q n (lone fr cs w)=.next (lone gq [di Q] w1)->(∀ch,gq.mode≠.panicking ch)->False:=by
 intro n
 induction n with
 | zero=>
  intro fr gq cs w w1 h hw Y hm;simp only[runN,Stepped.next.injEq]at Y;obtain⟨rfl,rfl,rfl⟩:=m5 Y;rcases h with ⟨cI,h1,⟨ch,h2⟩,_⟩|⟨h1,_⟩|⟨h1,_⟩
  ·exact hm _ h2
  ·cases h1
  ·cases h1
 | succ n ih=>
  intro fr gq cs w w1 h hw Y hm;rcases h.step hw with ⟨o,w2,hs⟩|⟨rZ,cs2,w2,hs,h2,tW⟩
  ·simp only[runN,hs]at Y;cases Y
  ·simp only[runN,hs]at Y
   exact ih h2 tW Y hm
theorem K3(F:FR M N0 f W0)(H:Fk Q P (KO NG P) f){cs cs':List Frame}{fr:Frame}{cI:List Frame}{g g':Z7}(R:GR NG Q P f cs cs' fr cI g g'){w w':W'}(hw:WR (KO NG P) M f W0 w w')(m m':Bool)
  (nf:¬(cI=[]/\fr.mode=.returning/\fr.defers=[])) (hz:Hz NG M f w w') (al:Al f w w' (stepG P m' g' w')):Out NG M Q P f W0 cs cs' w w' (stepG Q m g w) (stepG P m' g' w'):=by
 obtain⟨rfl,rfl,ok,iU,bR,base,eK,rd⟩:=R;rcases ok.mode with hm|hm
 ·have vO:(rF f fr).mode=.run:=hm
  have e1:stepG Q m { frame:=fr,callers:=cI++cs,status:=.running,dying:=none } w=stepG.exec Q m true fr (cI++cs) none w:=by simp[stepG,hm]
  have e2:stepG P m' { frame:=rF f fr,callers:=cI.map (rF f)++cs',status:=.running,dying:=none } w'=stepG.exec P m' true (rF f fr) (cI.map (rF f)++cs') none w':=by simp[stepG,vO]
  rw[e2]at al ⊢;rw[e1];exact K4 F H ok iU bR base eK hm hz hw m m' al
 ·have vO:(rF f fr).mode=.returning:=hm
  have e1:stepG Q m { frame:=fr,callers:=cI++cs,status:=.running,dying:=none } w=unwind Q m fr (cI++cs) none w:=by simp[stepG,hm]
  have e2:stepG P m' { frame:=rF f fr,callers:=cI.map (rF f)++cs',status:=.running,dying:=none } w'=unwind P m' (rF f fr) (cI.map (rF f)++cs') none w':=by simp[stepG,vO]
  rw[e2]at al ⊢;rw[e1];exact EZ F H ok iU bR base eK hm (rd hm) (λ⟨h1,h2⟩=>nf ⟨h1,hm,h2⟩) hw m m' al
structure Lone(Q:Z4)(n:Nat)(m0:Z9)(cB:Frame)(wE:W'):Prop where
 run:runN Q n m0=.next (lone cB [di Q] wE)
 mode:∀ch,cB.mode≠.panicking ch
structure OL(NG M:Nat)(Q P:Z4)(f:Re)(W0:W')(m0:Z9)(cs':List Frame)(j:Nat)(fr:Frame)(cI:List Frame)(w:W')(g':Z7)(w':W'):Prop where
 at_:runN Q j m0=.next (lone fr (cI++[di Q]) w)
 gr:GR NG Q P f [di Q] cs' fr cI { frame:=fr,callers:=cI++[di Q],status:=.running,dying:=none } g'
 wr:WR (KO NG P) M f W0 w w'
theorem nT{j n:Nat}{m0 m mE:Z9}(h:runN Q j m0=.next m)(hn:runN Q n m0=.next mE)(hj:j<n):∃m1,Go.step Q m=.next m1/\runN Q (j+1) m0=.next m1/\runN Q (n - (j+1)) m1=.next mE:=by
 have e1:=runN_add Q j (n - j) m0;rw[show j+(n - j)=n by omega,h,hn]at e1;simp only at e1;obtain⟨k,hk⟩:∃k,n - j=k+1:=⟨n - j - 1,by omega⟩;rw[hk]at e1;simp only[runN]at e1
 cases hs:Go.step Q m with
 | ended o w=>rw[hs]at e1;cases e1
 | next m1=>
  rw[hs]at e1;refine⟨m1,rfl,?_,?_⟩
  ·rw[runN_add,h];simp[runN,hs]
  ·rw[show n - (j+1)=k by omega];exact e1.symm
theorem OL.nf{n j:Nat}{m0:Z9}{cB:Frame}{wE:W'}(L:Lone Q n m0 cB wE){cs':List Frame}{fr:Frame}{cI:List Frame}{w w':W'}{g':Z7}(S:OL NG M Q P f W0 m0 cs' j fr cI w g' w')(bH:j<n):¬(cI=[]/\fr.mode=.returning/\fr.defers=[]):=by
 have⟨m1,hs,O7,Jr⟩:=nT S.at_ L.run bH;rintro ⟨rfl,hm,J⟩;obtain⟨fn,_,q1,_⟩:=S.gr.ok.fn (S.gr.rd hm);simp only[Yt]at hs;rcases FG (w:=w) hm J S.gr.ok.kind q1 with ⟨o,w1,h⟩|⟨v,w1,h⟩
 ·rw[hs]at h;cases h
 ·rw[hs]at h
  cases h
  cases hk:n - (j+1) with
  | zero=>rw[hk]at Jr;simp only[runN,Stepped.next.injEq]at Jr;have:=(m5 Jr).2.1;cases this
  | succ k=>
   obtain⟨o,w2,he⟩:=xT (Q:=Q) v w1;rw[hk]at Jr;simp only[runN,he]at Jr
   cases Jr
theorem OL.next(F:FR M N0 f W0)(H:Fk Q P (KO NG P) f){n j:Nat}{m0:Z9}{cB:Frame}{wE:W'}(L:Lone Q n m0 cB wE){cs':List Frame}{fr:Frame}{cI:List Frame}{w w':W'}{g':Z7}(S:OL NG M Q P f W0 m0 cs' j fr cI w g' w')(hj:j<=n)(m':Bool)(hz:Hz NG M f w w')(al:Al f w w' (stepG P m' g' w')) :
  (j=n/\cI=[]/\fr=cB/\w=wE)\/(j<n/\∃xB dt es' gq nh w1,stepG P m' g' w'=.go xB dt es'/\OL NG M Q P f W0 m0 cs' (j+1) gq nh w1 xB dt/\(∀e∈es',xN M f W0 w1.heap.size dt.heap.size e)/\Mv M f w w1 w' dt):=by
 rcases XP j n with bH|pV
 ·refine .inr ⟨bH,?_⟩
  have⟨m1,hs,O7,Jr⟩:=nT S.at_ L.run bH;have hf:=S.nf L bH;rcases K3 F H S.gr S.wr true m' hf hz al with ⟨o,w1,es,h⟩|⟨g1,w1,es,h,J,tW⟩|⟨g1,w1,es,xB,dt,es',gq,nh,h,h',hg,tX,fq,pU⟩
  ·obtain⟨o,w1,h⟩:=dH.1 _ _ _ h
   rw[hs]at h;cases h
  ·exfalso
   obtain⟨gq,Ph,rfl,hdm⟩:=Dm.of J;have:=dH.2 _ _ _ _ h;rw[hs]at this
   cases this
   exact Dm.never _ hdm tW Jr L.mode
  ·obtain rfl:=hg.g
   have:=dH.2 _ _ _ _ h;rw[hs]at this
   cases this
   exact⟨xB,dt,es',gq,nh,w1,h',⟨O7,hg,tX⟩,fq,pU⟩
 ·have M4:j=n:=by omega
  subst M4;have:=S.at_;rw[L.run]at this;have⟨h1,h2,h3⟩:=m5 (Stepped.next.inj this);refine .inl ⟨rfl,?_,h1.symm,h3.symm⟩
  cases cI with
  | nil=>rfl
  | cons a l=>cases l<;>simp at h2
theorem yv{α σ:Type}{P:σ->Prop}{g:α->σ->Option (ForInStep σ)}(h:∀x s r,P s->g x s=some r->P r.value):∀(l:List α) (s s':σ),P s->forIn l s g=some s'->P s'
 | [],s,s',hs,e=>by
  simp only[List.forIn_nil,Option.pure_def,XS]at e;exact e ▸ hs
 | x::l,s,s',hs,e=>by
  simp only[List.forIn_cons,Option.bind_eq_bind,Yv]at e;have⟨r,h1,h2⟩:=e;have Y:=h x s r hs h1
  cases r with
  | done b=>cases h2;exact Y
  | yield b=>exact yv h l b s' Y h2
def ZF(f:Re)(i:TypeInfo):Prop:=∀v,i.zero=some v->rV f v=v
theorem Iu{info:Z5->Option TypeInfo}(h:∀t i,info t=some i->ZF f i)(fs:Array Field)(i:TypeInfo)(e:Made.reckonStruct info fs=some i):ZF f i:=by
 unfold Made.reckonStruct at e;simp only[Option.bind_eq_bind,Yv,<-Array.forIn_toList]at e;have⟨s,h1,h2⟩:=e;have hP:=yv (P:=λs=>∀z:Array Z3,s.2.2.2.2.2.2.2.1=some z->z.map (rV f)=z) (λx s r hs e=>?_) _ _ _ (λz hz=>by cases hz;simp) h1
 ·split at h2<;>(cases h2;intro v hv;simp only[Ye]at hv;obtain⟨a,ha,rfl⟩:=hv;rw[cg,hP a ha])
 ·cases hx:info x.type with
  | none=>rw[hx]at e;cases e
  | some j=>
   rw[hx]at e;simp only[Zv,Option.bind_none,Option.pure_def]at e
   have key:∀z:Array Z3,(if s.2.1+j.size > Made.mostCells then none else s.2.2.2.2.2.2.2.1.bind λa=>j.zero.bind λb=>some (a++b.cells))=some z->z.map (rV f)=z:=λz hz=>by
    split at hz
    ·cases hz
    ·simp only[Yv]at hz
     obtain⟨a,ha,b,hb,hz⟩:=hz
     cases hz
     rw[ZH,hs a ha,jo (h _ _ hx b hb)]
   split at e
   ·cases e
   split at e
   ·cases e
   split at e
   ·split at e<;>(cases e;exact key)
   ·rw[Yv]at e
    obtain⟨tag,_,e⟩:=e
    split at e<;>(cases e;exact key)
theorem Iv{info:Z5->Option TypeInfo}(h:∀t i,info t=some i->ZF f i)(d:TypeDesc)(i:TypeInfo)(e:Made.reckon info d=some i):ZF f i:=by
 unfold Made.reckon at e
 cases d<;>simp only[Option.bind_eq_bind,Option.pure_def,reduceCtorEq]at e
 case pointer t=>
  simp only[Yv]at e;obtain⟨j,_,e⟩:=e
  (repeat' split at e)<;>first|(cases e;done)|(simp only[Yv]at e;obtain⟨s,_,e⟩:=e;cases e;intro v hv;cases hv;simp)
 case struct fs=>exact Iu h fs i e
 case array n t=>
  simp only[Yv]at e;obtain⟨j,hj,s,_,e⟩:=e
  cases e
  intro v hv;simp only at hv
  split at hv
  ·cases hv
  ·split at hv
   ·cases hv;simp
   ·simp only[Ye]at hv
    obtain⟨z,hz,rfl⟩:=hv;rw[cg];congr 1;apply Array.ext';simp only[Array.toList_map,Array.toList_flatten,Array.toList_replicate,List.map_replicate,List.map_flatten];rw[<-Array.toList_map,jo (h _ _ hj z hz)]
 all_goals
  simp only[Yv]at e
  first
   | (obtain⟨a,_,b,_,c,_,d,_,e⟩:=e;cases e;intro v hv;cases hv;simp;done)
   | (obtain⟨a,_,b,_,e⟩:=e;cases e;intro v hv;cases hv;simp;done)
   | (obtain⟨a,_,e⟩:=e;cases e;intro v hv;cases hv;simp;done)
theorem GG{T:Tables}(h:∀(t:Nat) i,T.types[t]?=some i->ZF f i):∀(n:Nat) (t:Z5) (i:TypeInfo),Made.infoAt T n t=some i->ZF f i
 | 0,t,i,e=>by cases e
 | n+1,t,i,e=>by
  have ih:=GG h n;unfold Made.infoAt at e
  split at e
  ·exact h t i e
  ·simp only[Yv]at e
   obtain⟨d,_,e⟩:=e;exact Iv ih d i e
theorem TN{P:Z4}(h:∀(t:Nat) i,P.types[t]?=some i->ZF f i)(t:Z5)(i:TypeInfo)(v:Z3)(hi:P.info? t=some i)(hv:i.zero=some v):rV f v=v:=by
 have jm:Tables.info? P.toTables t=some i:=hi;unfold Tables.info? at jm
 split at jm
 ·exact h t i jm v hv
 ·exact GG h _ t i jm v hv
def mapG:List Bool->List Func->List Func
 | b::bs,f::fs=>(bif b then f else oH f.results)::mapG bs fs
 | _,_=>[]
theorem uB:∀(bs:List Bool) (fs:List Func) (g:Nat),(mapG bs fs)[g]?=(bs[g]?).bind λb=>(fs[g]?).map λf=>bif b then f else oH f.results
 | [],fs,g=>by simp[mapG]
 | b::bs,[],g=>by cases h:(b::bs)[g]?<;>simp[mapG]
 | b::bs,f::fs,0=>by simp[mapG]
 | b::bs,f::fs,g+1=>by simpa [mapG] using uB bs fs g
def flags:List Bool:=let t:=true;let f:=false;[f,f,f,f,f,t,t,t,f,t,t,t,t,t,t,t,t,t,f,t,f,t,t,t,t,t,t,t,t,t,t,t,f,f,f,t,f,t,t,t,t,t,t,t,t,t,f,f,f,f,t,f,f,f,t,t,t,t,t,t,t,t,t,t,t,t,t,t,t,t,t,t,t,t,f,f,f,f,f,f,f,f,f,f,f,f,f,f,f,f,f,f,t,t,t,t,t,t,f,f,t,t,t,t,t,t,t,t,t,t,t,t,t,t,t,t,t,t,t,t,f,f,f,f,f,t,t,t,t,t,t,t,t,t,t,t,t,t,t,t,t,t,t,t,t,t,t,t,t,t,t,t,t,t,t,t,t,t,t,t,t,t,t,t,t,t,t,t,t,t,t,t,t,t,t,t,t,t,t,t,t,t,t,t,t,t,t,t,t,f,f,f,f,f,f,f,f,f,f,f,f,f,f,f,f,f,f]
end
end Go.Proofs.YthcfokccjljnpaaGreat.Par
namespace Go.Proofs.YthcfokccjljnpaaGreat
open Go.Proofs.Tryz
noncomputable def qP:Z4:={ prog with funcs:=⟨Par.mapG Par.flags prog.funcs.toList⟩,globals:=#[] }
theorem qA{g:Nat}{f:Func}(h:prog.funcs[g]?=some f)(hg:Par.flags[g]?=some true):qP.funcs[g]?=some f:=by
 have h':prog.funcs.toList[g]?=some f:=by simpa using h
 show (⟨Par.mapG Par.flags prog.funcs.toList⟩:Array Func)[g]?=some f
 rw[XY,Par.uB,hg,h'];rfl
end Go.Proofs.YthcfokccjljnpaaGreat
namespace Go.Proofs.YthcfokccjljnpaaGreat.Par
open Go Go.Proofs.Tryz
def UJ(NG:Nat)(P:Z4)(f:Func):Bool:=match f.body with
 | some c=>okC NG P c && !(f.name == "runtime.NumGoroutine")
 | none=>(f.name == "math.Float64bits" || f.name == "math.Float64frombits")||f.name == "math.archTrunc"
def lx(NG:Nat)(P:Z4):List Bool->List Func->Bool
 | b::bs,f::fs=>(!b||UJ NG P f)&&lx NG P bs fs
 | _,_=>true
theorem Ci{NG:Nat}{P:Z4}:∀{bs:List Bool} {fs:List Func},lx NG P bs fs=true->∀(g:Nat) (f:Func),bs[g]?=some true->fs[g]?=some f->UJ NG P f=true
 | [],fs,h,g,f,h1,h2=>by simp at h1
 | b::bs,[],h,g,f,h1,h2=>by simp at h2
 | b::bs,f0::fs,h,0,f,h1,h2=>by
  simp only[ZJ,XS]at h1 h2;subst h1 h2;simp only[lx,Xs,Y1,ZN]at h;exact h.1
 | b::bs,f0::fs,h,g+1,f,h1,h2=>by
  simp only[lx,Xs]at h;exact Ci h.2 g f (by simpa using h1) (by simpa using h2)
theorem as6:lx 0 prog flags prog.funcs.toList=true:=by kernel_rfl
def flatZ:Z3->Bool
 | .tuple cs=>cs.all flatV
 | v=>flatV v
theorem Jy{f:Re}{v:Z3}(h:flatZ v=true):rV f v=v:=by
 cases v<;>first|exact sR h|skip
 rename_i cs;simp only[flatZ,Yi]at h;rw[bl];congr 1;have:cs.map (rV f)=cs.map id:=Zk λx hx=>sR (h x hx);simpa using this
theorem TO:(prog.types.toList.all λi=>match i.zero with|some v=>flatZ v|none=>true)=true:=by kernel_rfl
theorem Ol:Extern.findNext f70=none:=by kernel_rfl
theorem Om:Extern.find f70=some Extern.MathFloatBits.float64bits:=by kernel_rfl
def onlyAt(nm:String)(n:Nat):Nat->List Func->Bool
 | i,f::fs=>(f.body.isSome || !(f.name==nm)||i==n)&&onlyAt nm n (i+1) fs
 | _,[]=>true
theorem yw{nm:String}{n:Nat}:∀{i:Nat} {fs:List Func},onlyAt nm n i fs=true->∀(g:Nat) (f:Func),fs[g]?=some f->(f.body.isSome || !(f.name==nm)||i+g==n)=true
 | i,[],h,g,f,h1=>by simp at h1
 | i,f0::fs,h,0,f,h1=>by
  simp only[ZJ,XS]at h1;subst h1;simp only[onlyAt,Xs]at h;exact h.1
 | i,f0::fs,h,g+1,f,h1=>by
  simp only[onlyAt,Xs]at h;have:=yw h.2 g f (by simpa using h1);rwa [show i+1+g=i+(g+1) by omega]at this
theorem Ok:onlyAt "math.Float64bits" 70 0 prog.funcs.toList=true:=by kernel_rfl
theorem aR7:onlyAt "math.Float64frombits" 132 0 prog.funcs.toList=true:=by kernel_rfl
theorem aR8:Extern.findNext f132=none:=by kernel_rfl
theorem aR9:Extern.find f132=some Extern.MathFloatBits.float64frombits:=by kernel_rfl
theorem aS2:onlyAt "math.archTrunc" 130 0 prog.funcs.toList=true:=by kernel_rfl
theorem aS3:Extern.findNext f130=none:=by kernel_rfl
theorem aS4:Extern.find f130=some (Extern.MathFloor.toIntegral "math.archTrunc" .zero):=by kernel_rfl
theorem lkQ(f:Re):Lk qP prog f:=by
 refine⟨rfl,λt i v hi hv=>TN (P:=prog) (λt i hi v hv=>?_) t i v hi hv⟩;have h:=X0.1 TO i (XA (by simpa using hi:prog.types.toList[t]?=some i));rw[hv]at h;exact Jy h
theorem PQ{K:Kc}{f:Re}(hq:qP.funcs[70]?=some f70)(args:Array Z3):SR qP prog K f (RN qP prog K f) (callFunc 70 args) (callFunc 70 (args.map (rV f))):=by
 have e1:(f70.name == "runtime.NumGoroutine")=false:=by kernel_rfl
 have e2:f70.body.isNone=true:=by kernel_rfl
 unfold callFunc;refine .program _ _ ?_;simp only[Sem.bind,hq,func70,e1,e2,XO,YC,Yp,Ol,Om];refine .room _ E _ _ ?_;simp only[Sem.bind];refine dq ?_;have⟨l⟩:=args;simp only[YK]
 match l with
 | []=>exact .dm .st
 | [x]=>
  cases x<;>simp only[Yd,Zq,bP,cf,br,aR,aZ,aM,aW,cq,bM,bK,aU,bq,aO,cg,bl]<;>first|exact .dm .st|skip
  rename_i k b
  cases k<;>first|exact .dm .st|exact .cE (by simp)
 | _::_::_=>exact .dm .st
theorem aV9{K:Kc}{f:Re}(hq:qP.funcs[132]?=some f132)(args:Array Z3):SR qP prog K f (RN qP prog K f) (callFunc 132 args) (callFunc 132 (args.map (rV f))):=by
 have e1:(f132.name == "runtime.NumGoroutine")=false:=by kernel_rfl
 have e2:f132.body.isNone=true:=by kernel_rfl
 unfold callFunc;refine .program _ _ ?_;simp only[Sem.bind,hq,func132,e1,e2,XO,YC,Yp,aR8,aR9];refine .room _ E _ _ ?_;simp only[Sem.bind];refine dq ?_;have⟨l⟩:=args;simp only[YK]
 match l with
 | []=>exact .dm .st
 | [x]=>
  cases x<;>simp only[Yd,Zq,bP,cf,br,aR,aZ,aM,aW,cq,bM,bK,aU,bq,aO,cg,bl]<;>first|exact .dm .st|skip
  rename_i k b
  cases k<;>first|exact .dm .st|exact .cE (by simp)
 | _::_::_=>exact .dm .st
theorem aW1{K:Kc}{f:Re}(hq:qP.funcs[130]?=some f130)(args:Array Z3):SR qP prog K f (RN qP prog K f) (callFunc 130 args) (callFunc 130 (args.map (rV f))):=by
 have e1:(f130.name == "runtime.NumGoroutine")=false:=by kernel_rfl
 have e2:f130.body.isNone=true:=by kernel_rfl
 unfold callFunc;refine .program _ _ ?_;simp only[Sem.bind,hq,func130,e1,e2,XO,YC,Yp,aS3,aS4];refine .room _ E _ _ ?_;simp only[Sem.bind];refine dq ?_;have⟨l⟩:=args;simp only[YK]
 match l with
 | []=>exact .dm .st
 | [x]=>
  cases x<;>simp only[Yd,Zq,bP,cf,br,aR,aZ,aM,aW,cq,bM,bK,aU,bq,aO,cg,bl]<;>first|exact .dm .st|skip
  rename_i k b
  cases k<;>first|exact .dm .st|skip
  show SR _ _ K f (RV f) (Extern.MathFloor.toIntegral.match_1 (λ_=>Sem Z3) (FloatKind.f64.decode b) _ _) (Extern.MathFloor.toIntegral.match_1 (λ_=>Sem Z3) (FloatKind.f64.decode b) _ _)
  generalize FloatKind.f64.decode b=d
  cases d with
  | nan s t=>
   simp only
   split
   ·exact .cE (by simp)
   ·exact .choose _ _ _ λn=>.cE (by simp)
  | infinity s=>exact .cE (by simp)
  | number s m x=>exact .cE (by simp)
 | _::_::_=>exact .dm .st
theorem fkQ(f:Re):Fk qP prog (KO 0 prog) f:=by
 refine⟨lkQ f,by kernel_rfl,λg qf h=>?_⟩
 have h':(mapG flags prog.funcs.toList)[g]?=some qf:=by
  have:(⟨mapG flags prog.funcs.toList⟩:Array Func)[g]?=some qf:=h;rwa [XY]at this
 rw[uB]at h';obtain⟨b,hb,h'⟩:=Yv.1 h';obtain⟨pf,hf,rfl⟩:=Ye.1 h';have hP:prog.funcs[g]?=some pf:=by simpa using hf
 cases b with
 | false=>exact .inl ⟨_,rfl⟩
 | true=>
  have ok:=Ci as6 g pf hb hf;unfold UJ at ok
  cases hc:pf.body with
  | some c=>
   rw[hc]at ok;simp only[Xs,Yg]at ok;exact .inr (.inl ⟨c,hP,hc,ok.2,ok.1⟩)
  | none=>
   rw[hc]at ok;rcases Bool.or_eq_true_iff.1 ok with ok|ok'
   rcases Bool.or_eq_true_iff.1 ok with ok'|ok'
   ·have gH:=yw Ok g pf hf
    rw[hc,ok']at gH;have hgb:g=70:=by simpa using gH
    subst hgb;rw[func70]at hP
    cases hP
    exact .inr (.inr ⟨hc,func70,λargs=>PQ (qA func70 hb) args⟩)
   ·have gH:=yw aR7 g pf hf
    rw[hc,ok']at gH;have hgb:g=132:=by simpa using gH
    subst hgb;rw[func132]at hP
    cases hP
    exact .inr (.inr ⟨hc,func132,λargs=>aV9 (qA func132 hb) args⟩)
   ·have gH:=yw aS2 g pf hf
    rw[hc,ok']at gH;have hgb:g=130:=by simpa using gH
    subst hgb;rw[func130]at hP
    cases hP
    exact .inr (.inr ⟨hc,func130,λargs=>aW1 (qA func130 hb) args⟩)
end Go.Proofs.YthcfokccjljnpaaGreat.Par
namespace Go.Proofs.YthcfokccjljnpaaGreat
open Go.Proofs.Tryz
theorem qU{t:Z5}{d:TypeDesc}(h:prog.underlying t=some d):qP.underlying t=some d:=(Par.nL (Par.lkQ id).zr t).trans h
end Go.Proofs.YthcfokccjljnpaaGreat
namespace Go.Proofs.YthcfokccjljnpaaGreat.Par
open Go Go.Proofs.Tryz
def AY:List Bool:=let t:=true;let f:=false;[f,f,f,f,f,f,f,f,f,f,f,f,f,f,f,f,f,f,t,t,t,f,f,f,f,f,f,f,f,f,f,f,f,f,f,f,f,f,f,f,f,f,f,f,f,t,t,t,t,t,t,t,t,t,f,f,f,f,f,f,f,f,f,f,f,f,f,f,f,f,f,f,f,f,f,f,f,f,f,f,f,f,f,f,f,f,f,f,f,f,f,f,f,f,f,f,f,t,t,t,f,f,f,f,f,f,f,f,f,f,f,f,f,f,f,f,f,f,f,f,f,f,f,f,f,f,f,f,f,t,f,f,f,f,f,f,f,f,f,f,f,f,f,f,f,f,f,f,f,f,f,t,f,f,f,f,f,f,f,f,f,f,f,f,f,f,f,f,f,f,f,f,f,f,f,f,f,f,f,f,f,f,f,f,f,f,f,f,f,f,f,f,f,f,f,f,f,f,f,f,f,f,f,f,f,f,f]
end Go.Proofs.YthcfokccjljnpaaGreat.Par
namespace Go.Proofs.YthcfokccjljnpaaGreat
open Go.Proofs.Tryz
noncomputable def tG:Z4:={ prog with funcs:=⟨Par.mapG Par.AY prog.funcs.toList⟩,globals:=#[] }
theorem Wx{g:Nat}{f:Func}(h:prog.funcs[g]?=some f)(hg:Par.AY[g]?=some true):tG.funcs[g]?=some f:=by
 have h':prog.funcs.toList[g]?=some f:=by simpa using h
 show (⟨Par.mapG Par.AY prog.funcs.toList⟩:Array Func)[g]?=some f
 rw[XY,Par.uB,hg,h'];rfl
end Go.Proofs.YthcfokccjljnpaaGreat
namespace Go.Proofs.YthcfokccjljnpaaGreat.Par
open Go Go.Proofs.Tryz
def someB:List Bool->List Func->Bool
 | b::bs,f::fs=>(!b||f.body.isSome)&&someB bs fs
 | _,_=>true
theorem V2:∀{bs:List Bool} {fs:List Func},someB bs fs=true->∀(g:Nat) (f:Func),bs[g]?=some true->fs[g]?=some f->f.body.isSome=true
 | [],fs,h,g,f,h1,h2=>by simp at h1
 | b::bs,[],h,g,f,h1,h2=>by simp at h2
 | b::bs,f0::fs,h,0,f,h1,h2=>by
  simp only[ZJ,XS]at h1 h2;subst h1 h2;simp only[someB,Xs,Y1,ZN]at h;exact h.1
 | b::bs,f0::fs,h,g+1,f,h1,h2=>by
  simp only[someB,Xs]at h;exact V2 h.2 g f (by simpa using h1) (by simpa using h2)
theorem aW2:someB AY prog.funcs.toList=true:=by kernel_rfl
theorem aZ5:lx 1 prog AY prog.funcs.toList=true:=by kernel_rfl
theorem lkR(f:Re):Lk tG prog f:=by
 have h:=lkQ f;exact⟨rfl,h.zero⟩
theorem fkR(f:Re):Fk tG prog (KO 1 prog) f:=by
 refine⟨lkR f,by kernel_rfl,λg qf h=>?_⟩
 have h':(mapG AY prog.funcs.toList)[g]?=some qf:=by
  have:(⟨mapG AY prog.funcs.toList⟩:Array Func)[g]?=some qf:=h;rwa [XY]at this
 rw[uB]at h';obtain⟨b,hb,h'⟩:=Yv.1 h';obtain⟨pf,hf,rfl⟩:=Ye.1 h';have hP:prog.funcs[g]?=some pf:=by simpa using hf
 cases b with
 | false=>exact .inl ⟨_,rfl⟩
 | true=>
  have ok:=Ci aZ5 g pf hb hf;have hs:=V2 aW2 g pf hb hf;have⟨c,hc⟩:=YM.1 hs;unfold UJ at ok;rw[hc]at ok;simp only[Xs,Yg]at ok;exact .inr (.inl ⟨c,hP,hc,ok.2,ok.1⟩)
end Go.Proofs.YthcfokccjljnpaaGreat.Par
namespace Go.Proofs.YthcfokccjljnpaaGreat
open Go.Proofs.Tryz
theorem rUu{t:Z5}{d:TypeDesc}(h:prog.underlying t=some d):tG.underlying t=some d:=(Par.nL (Par.lkR id).zr t).trans h
end Go.Proofs.YthcfokccjljnpaaGreat
