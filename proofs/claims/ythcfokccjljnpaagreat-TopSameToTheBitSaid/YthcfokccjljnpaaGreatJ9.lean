/- Contracts over the abstract machine, and the crowd of workers. Conditions: none. -/
import Derived.Test.YthcfokccjljnpaaGreatRows
import Derived.WalkKit
import Derived.ProofKit
import Derived.Leaving
import Derived.Conc.Holds
import Derived.Test.YthcfokccjljnpaaGreatJ7
import Derived.Test.YthcfokccjljnpaaGreatJ8
import Derived.Test.YthcfokccjljnpaaGreatJ3
import Derived.Test.YthcfokccjljnpaaGreatJ6
import Derived.Test.YthcfokccjljnpaaGreatJ1
set_option linter.unusedVariables false
set_option linter.unusedSimpArgs false
set_option linter.unusedSectionVars false
set_option maxRecDepth 100000
namespace Go.Proofs.YthcfokccjljnpaaGreat.Par
open Go Go.Conc Go.ConcN Go.RowKit Go.Conc.Lib Go.ConcR.Gen Go.Proofs.Tryz
open Go.ConcR (KK wgBlock WgAt stA smA rd wr mk Payload DC0)
section
variable[Payload]{L:WgLink}{c:Kx}{Next:Z7->W'->Prop}{i b1 b2:Nat}{F:W'->Prop}{b₀:Frame}{a₀:Act}{ops₀:Array Z8}{i₀:Nat}{rest₀:List Nat}{k₀:List Item}{cs:List Frame}
set_option maxHeartbeats 8000000 in
theorem as9(H:WgLib c.P L)(W:Wl c (two b1 b2) F)(hT:GX c.P true (R0 c (two b1 b2)) (DS c (two b1 b2)) F (AtGo c Next i b1 b2) (G (b₀.at (a₀.put ((ops₀[i₀]?).bind (·.dst)) (.tuple #[])) (.inRegion ops₀ rest₀::k₀)) cs)) :
  GX c.P true (R0 c (two b1 b2)) (DS c (two b1 b2)) F (AtKdS c Next i b1 b2) (G ((base L.add).at ⟨#[.pointer (some ⟨c.Wg,0,none⟩),.int .i64 1,undef,undef,undef,undef,undef,undef,undef,undef,undef,undef,undef,undef,undef,undef,undef,undef,undef,undef,undef,undef,undef,undef,undef,undef,undef,undef,undef,undef,undef,undef,undef,undef,undef,undef,undef,undef,undef,undef,undef,undef,undef,undef,undef,undef,undef,undef,undef,undef,undef,undef,undef,undef,undef,undef,undef,undef,undef,undef,undef,undef,undef,undef,undef,undef,undef,undef,undef,undef,undef,undef,undef,undef,undef,undef,undef,undef,undef,undef,undef,undef,undef,undef,undef,undef,undef,undef,undef,undef,undef,undef,undef,undef,undef,undef,undef,undef,undef,undef,undef,undef,undef,undef,undef,undef,undef,undef,undef,undef,undef,undef,undef,undef,undef,undef,undef],[]⟩ [.code (body_add L)]) (b₀.at a₀ (.inRegion ops₀ (i₀::rest₀)::k₀)::cs)):=by
 lib_facts
 simp only[body_add,addFn,Zw]
 iterate 12 (first
  | refine GX.seq W.toWk ?_
  | refine GX.fin W.toWk ?_
  | (refine GX.region W.toWk ?_;simp only[Ys,XH,XL,Nat.reduceAdd,XK,List.range,List.range.loop])
  | refine GX.skip W.toWk ?_
  | refine GX.iS W.toWk E ?_
  | refine GX.jH W.toWk E ?_
  | (refine GX.unwanted W.toWk E E ?_;walk_nrm)
  | (refine GX.value W.toWk E E (by k_ne) (λ_ _=>by go_simp<;>rfl) (λ_ _=>by simp[go_sem, *]) ?_;walk_nrm;try w_num))
 refine GX.stop W.toWk λw hF=>⟨rfl,_,stepG_mark0 .disable (by simp) E E (by k_ne) E H.f_disable (x_disable_n L) (x_disable_b L) (x_disable_x L) (x_disable_f L),GX.at ?_ hF⟩;clear hF w
 walk_nrm
 iterate 34 (first
  | refine GX.seq W.toWk ?_
  | refine GX.fin W.toWk ?_
  | (refine GX.region W.toWk ?_;simp only[Ys,XH,XL,Nat.reduceAdd,XK,List.range,List.range.loop])
  | refine GX.skip W.toWk ?_
  | refine GX.iS W.toWk E ?_
  | refine GX.jH W.toWk E ?_
  | (refine GX.unwanted W.toWk E E ?_;walk_nrm)
  | (refine GX.call W.toWk E E (by k_ne) E H.f_uAdd (nm_uAdd L) E ?_;walk_nrmf uAddFn)
  | (refine GX.step W.toWk E (λ_ _=>stepG_entry_pure (.bool false) E E (by k_ne) E H.f_inBubble (x_inBubble_n L) (x_inBubble_b L) (x_inBubble_x L) (x_inBubble_f L)) ?_;walk_nrm)
  | (refine GX.defer W.toWk E E (by k_ne) E ?_;walk_nrm)
  | (refine GX.value W.toWk E E (by k_ne) (λ_ _=>by go_simp<;>rfl) (λ_ _=>by simp[go_sem, *]) ?_;walk_nrm;try w_num))
 refine GX.stop W.toWk λw hF=>⟨rfl,λv hv hw=>?_⟩;obtain⟨J',hV⟩:∃J':Int,J'=(v:Int)+1:=⟨_,rfl⟩;obtain⟨S,hS⟩:∃S:Int,S=J'*KK:=⟨_,rfl⟩;have eS:IntKind.u64.wrap ((v:Int)*KK+4294967296)=S:=by rw[IntKind.wrap_u64,hS,hV];simp only[KK];omega
 rw[<-hV,<-hS];refine⟨_,(stepG_add_atomic E E (by k_ne) E H.f_addU64 (x_addU64_n L) (x_addU64_b L) (x_addU64_x L) .u64 (x_addU64_f L) E E hw.cellSt (hw.thaw 0)).trans (by rw[eS];rfl),GX.at ?_ (W.set _ _ _ hF E ⟨_,_,hw.setSt _⟩)⟩;have a1:S / 4294967296=J':=by rw[hS];simp only[KK];omega
 have b1':bits .and .u64 S 2147483648=0:=by rw[hS,hV];have:=st_flag (v+1) 0 (by omega) (by omega);simpa [KK] using this
 have b2':bits .and .u64 S 2147483647=0:=by rw[hS,hV];have:=st_waiters (v+1) 0 (by omega) (by omega);simpa [KK] using this
 have c1:IntKind.i32.wrap J'=J':=by rw[IntKind.wrap_i32];omega
 have c2:IntKind.i32.wrap 1=1:=by decide
 have c3:IntKind.u32.wrap 0=0:=by decide
 have q3:decide (J'<0)=false:=XV (by omega);have q4:decide (0<J')=true:=ZS (by omega)
 have q7:∃q:Bool,(J'==1)=q/\decide (J'=1)=q:=by
  by_cases h:J'=1
  ·exact⟨true,by simp[h],by simp[h]⟩
  ·exact⟨false,by simp[h],by simp[h]⟩
 have⟨q,q1,q2⟩:=q7;clear hF hw hv eS hS hV w
 walk_nrm
 cases q<;>repeat (first
  | refine GX.seq W.toWk ?_
  | refine GX.fin W.toWk ?_
  | (refine GX.region W.toWk ?_;simp only[Ys,XH,XL,Nat.reduceAdd,XK,List.range,List.range.loop])
  | refine GX.skip W.toWk ?_
  | refine GX.iS W.toWk E ?_
  | refine GX.jH W.toWk E ?_
  | (refine GX.unwanted W.toWk E E ?_;walk_nrm)
  | refine GX.ret W.toWk ?_
  | (refine GX.leave1 W.toWk E E H.f_uAdd E ?_;walk_nrm)
  | (refine GX.conv W.toWk E E (by k_ne) E E H.underlying_tPU32 H.underlying_tUP H.room_tU32 (λ_ h=>(W.cell h).2) ?_;walk_nrm)
  | (refine GX.ev W.toWk E (λ_ _=>stepG_markAt .read (by simp) E E (by k_ne) E H.f_raceRead (x_raceRead_n L) (x_raceRead_b L) (x_raceRead_x L) (x_raceRead_f L) (ad:=⟨c.Wg,1,none⟩) (by simp[Act.eval])) (λw _=>.one w (.inl ⟨_,rfl,.inl E⟩)) ?_;walk_nrm)
  | (refine GX.value W.toWk E E (by k_ne) (λ_ _=>by go_simp<;>rfl) (λ_ _=>by simp[go_sem, *]) ?_;walk_nrm;try simp only[a1,b1',b2',c1,c2,c3,q1,q2,q3,q4]))
 all_goals
  refine GX.stop W.toWk λw hF=>⟨rfl,_,stepG_unwind_entry (v:=.tuple #[]) (evs:=#[mk .enable]) E H.f_enable (x_enable_n L) (x_enable_b L) (x_enable_x L) (x_enable_f L) (by simp[Extern.Race.none_]) (by simp[mk]) (by simp[mk]),GX.at ?_ hF⟩;exact GX.leave0 W.toWk E E H.f_add E hT
end
def OU(P:Z4)(gD:Z7)(g:Z7)(w:W'):Prop:=g.status=.running/\GX P true AtRel DC0 (λ_=>True) (λg' _=>g'=gD/\g'.status=.running) g
theorem wkU:Wk AtRel DC0 (λ_=>True):=⟨λ_ _ _ _=>trivial,λ_=>⟨rfl,rfl⟩⟩
def It(L:WgLink)(Wg:Nat)(F:W'->Prop)(b:Frame)(cs:List Frame)(g:Z7)(w:W'):Prop:=
 ∃T:Array Z3,g=G ((base L.wait).at ⟨T,[]⟩ [.code (L7 L),.inLoop (L7 L),.inBlock 0]) (b::cs)/\T.size=84/\T[0]?=some (.pointer (some ⟨Wg,0,none⟩))/\F w
section
variable[Payload]{L:WgLink}{c:Kx}{F:W'->Prop}{b₀:Frame}{a₀:Act}{ops₀:Array Z8}{i₀:Nat}{rest₀:List Nat}{k₀:List Item}{cs:List Frame}
set_option maxHeartbeats 8000000 in
theorem EC(H:WgLib c.P L)(W:Wl c fQ F) :
  GX c.P true (R0 c fQ) (DS c fQ) F (AtKd c (It L c.Wg F (b₀.at a₀ (.inRegion ops₀ (i₀::rest₀)::k₀)) cs)) (G ((base L.wait).at ⟨#[.pointer (some ⟨c.Wg,0,none⟩),undef,undef,undef,undef,undef,undef,undef,undef,undef,undef,undef,undef,undef,undef,undef,undef,undef,undef,undef,undef,undef,undef,undef,undef,undef,undef,undef,undef,undef,undef,undef,undef,undef,undef,undef,undef,undef,undef,undef,undef,undef,undef,undef,undef,undef,undef,undef,undef,undef,undef,undef,undef,undef,undef,undef,undef,undef,undef,undef,undef,undef,undef,undef,undef,undef,undef,undef,undef,undef,undef,undef,undef,undef,undef,undef,undef,undef,undef,undef,undef,undef,undef,undef],[]⟩ [.code (body_wait L)]) (b₀.at a₀ (.inRegion ops₀ (i₀::rest₀)::k₀)::cs)):=by
 lib_facts
 simp only[body_wait,waitFn,Zw];refine GX.seq W.toWk ?_;refine GX.iS W.toWk E ?_;refine GX.region W.toWk ?_;simp only[Ys,XH,XL,Nat.reduceAdd,XK,List.range,List.range.loop];refine GX.stop W.toWk λw hF=>⟨rfl,_,stepG_mark0 .disable (by simp) E E (by k_ne) E H.f_disable (x_disable_n L) (x_disable_b L) (x_disable_x L) (x_disable_f L),GX.at ?_ hF⟩;clear hF w
 walk_nrm
 refine GX.fin W.toWk ?_;refine GX.block W.toWk ?_;refine GX.loop W.toWk ?_;exact GX.stop W.toWk λw hF=>⟨_,rfl,by simp,by simp,hF⟩
set_option maxHeartbeats 16000000 in
theorem ED(H:WgLib c.P L)(W:Wl c fQ F)(g:Z7)(w:W')(h:It L c.Wg F (b₀.at a₀ (.inRegion ops₀ (i₀::rest₀)::k₀)) cs g w) :
  ∃m,GS c fQ (AtW1 c (OU c.P (G (b₀.at (a₀.put ((ops₀[i₀]?).bind (·.dst)) (.tuple #[])) (.inRegion ops₀ rest₀::k₀)) cs)) (It L c.Wg F (b₀.at a₀ (.inRegion ops₀ (i₀::rest₀)::k₀)) cs)) m g w:=by
 lib_facts
 obtain⟨T,rfl,aC3,t0,hF⟩:=h;have U:=wkU;refine GX.at ?_ hF;clear hF w;obtain⟨v0,v1,v2,v3,v4,v5,v6,v7,v8,v9,v10,v11,v12,v13,v14,v15,v16,v17,v18,v19,v20,v21,Pu,v23,Pt,v25,v26,v27,v28,v29,v30,v31,v32,v33,v34,v35,v36,v37,v38,v39,v40,v41,v42,v43,v44,v45,v46,v47,v48,v49,v50,v51,v52,v53,v54,v55,v56,v57,v58,v59,v60,v61,v62,v63,v64,v65,v66,v67,v68,v69,v70,v71,v72,v73,v74,v75,v76,v77,v78,v79,v80,v81,v82,v83,rfl⟩:=array84 T aC3;simp only[XY,ZJ,XS]at t0;subst t0;simp only[L7,body_wait,waitFn,Zw]
 iterate 16 (first
   | refine GX.seq W.toWk ?_
   | refine GX.fin W.toWk ?_
   | (refine GX.region W.toWk ?_;simp only[Ys,XH,XL,Nat.reduceAdd,XK,List.range,List.range.loop])
   | refine GX.skip W.toWk ?_
   | refine GX.block W.toWk ?_
   | refine GX.inBlock W.toWk ?_
   | refine GX.iS W.toWk E ?_
   | refine GX.jH W.toWk E ?_
   | refine GX.ret W.toWk ?_
   | (refine GX.unwanted W.toWk E E ?_;walk_nrm)
   | (refine GX.leave1 W.toWk E E H.f_uLoad E ?_;walk_nrm)
   | (refine GX.leave1 W.toWk E E H.f_uCas E ?_;walk_nrm)
   | (refine GX.call W.toWk E E (by k_ne) E H.f_uLoad (nm_uLoad L) E ?_;walk_nrmf uLoadFn)
   | (refine GX.call W.toWk E E (by k_ne) E H.f_uCas (nm_uCas L) E ?_;walk_nrmf uCasFn)
   | (refine GX.value W.toWk E E (by k_ne) (λ_ _=>by go_simp<;>rfl) (λ_ _=>by simp[go_sem, *]) ?_;walk_nrm))
 refine GX.stop W.toWk λw hF=>⟨rfl,λv hv hw=>?_⟩;rcases Zc v with rfl|hvp
 ·replace hw:WgAt c.ty c.Wg w 0 0:=by simpa using hw
  refine⟨_,stepG_load_atomic (v:=0) E E (by k_ne) E H.f_loadU64 (x_loadU64_n L) (x_loadU64_b L) (x_loadU64_x L) .u64 (x_loadU64_f L) E hw.cellSt,λ_=>GX.at ?_ hF,λh=>absurd E h⟩;clear hw hF w
  walk_nrm
  iterate 31 (first
    | refine GX.seq W.toWk ?_
    | refine GX.fin W.toWk ?_
    | (refine GX.region W.toWk ?_;simp only[Ys,XH,XL,Nat.reduceAdd,XK,List.range,List.range.loop])
    | refine GX.skip W.toWk ?_
    | refine GX.block W.toWk ?_
    | refine GX.inBlock W.toWk ?_
    | refine GX.iS W.toWk E ?_
    | refine GX.jH W.toWk E ?_
    | refine GX.ret W.toWk ?_
    | (refine GX.unwanted W.toWk E E ?_;walk_nrm)
    | (refine GX.leave1 W.toWk E E H.f_uLoad E ?_;walk_nrm)
    | (refine GX.leave1 W.toWk E E H.f_uCas E ?_;walk_nrm)
    | (refine GX.call W.toWk E E (by k_ne) E H.f_uLoad (nm_uLoad L) E ?_;walk_nrmf uLoadFn)
    | (refine GX.call W.toWk E E (by k_ne) E H.f_uCas (nm_uCas L) E ?_;walk_nrmf uCasFn)
    | (refine GX.value W.toWk E E (by k_ne) (λ_ _=>by go_simp<;>rfl) (λ_ _=>by simp[go_sem, *]) ?_;walk_nrm))
  refine GX.stop W.toWk λw hF=>⟨rfl,_,stepG_mark0 .enable (by simp) E E (by k_ne) E H.f_enable (x_enable_n L) (x_enable_b L) (x_enable_x L) (x_enable_f L),GX.at ?_ hF⟩;clear hF w
  walk_nrm
  iterate 4 (first
    | refine GX.seq W.toWk ?_
    | refine GX.fin W.toWk ?_
    | (refine GX.region W.toWk ?_;simp only[Ys,XH,XL,Nat.reduceAdd,XK,List.range,List.range.loop])
    | refine GX.skip W.toWk ?_
    | refine GX.block W.toWk ?_
    | refine GX.inBlock W.toWk ?_
    | refine GX.iS W.toWk E ?_
    | refine GX.jH W.toWk E ?_
    | refine GX.ret W.toWk ?_
    | (refine GX.unwanted W.toWk E E ?_;walk_nrm)
    | (refine GX.leave1 W.toWk E E H.f_uLoad E ?_;walk_nrm)
    | (refine GX.leave1 W.toWk E E H.f_uCas E ?_;walk_nrm)
    | (refine GX.call W.toWk E E (by k_ne) E H.f_uLoad (nm_uLoad L) E ?_;walk_nrmf uLoadFn)
    | (refine GX.call W.toWk E E (by k_ne) E H.f_uCas (nm_uCas L) E ?_;walk_nrmf uCasFn)
    | (refine GX.conv W.toWk E E (by k_ne) E E H.underlying_tWgP H.underlying_tUP H.room_tWg (λ_ h=>(W.cell h).1) ?_;walk_nrm)
    | (refine GX.value W.toWk E E (by k_ne) (λ_ _=>by go_simp<;>rfl) (λ_ _=>by simp[go_sem, *]) ?_;walk_nrm))
  refine GX.stop W.toWk λw hF=>⟨rfl,_,stepG_markAt .acquire (by simp) E E (by k_ne) E H.f_acquire (x_acquire_n L) (x_acquire_b L) (x_acquire_x L) (x_acquire_f L) (by simp[Act.eval,stA]),rfl,?_⟩;clear hF w
  walk_nrm
  iterate 19 (first
    | refine GX.seq U ?_
    | refine GX.fin U ?_
    | (refine GX.region U ?_;simp only[Ys,XH,XL,Nat.reduceAdd,XK,List.range,List.range.loop])
    | refine GX.skip U ?_
    | refine GX.block U ?_
    | refine GX.inBlock U ?_
    | refine GX.iS U E ?_
    | refine GX.jH U E ?_
    | refine GX.ret U ?_
    | (refine GX.unwanted U E E ?_;walk_nrm)
    | (refine GX.leave1 U E E H.f_uLoad E ?_;walk_nrm)
    | (refine GX.leave1 U E E H.f_uCas E ?_;walk_nrm)
    | (refine GX.call U E E (by k_ne) E H.f_uLoad (nm_uLoad L) E ?_;walk_nrmf uLoadFn)
    | (refine GX.call U E E (by k_ne) E H.f_uCas (nm_uCas L) E ?_;walk_nrmf uCasFn)
    | (refine GX.value U E E (by k_ne) (λ_ _=>by go_simp<;>rfl) (λ_ _=>by simp[go_sem, *]) ?_;walk_nrm))
  refine GX.leave0 U E E H.f_wait E ?_;exact GX.stop U λw hF=>⟨rfl,rfl⟩
 ·obtain⟨S,hS⟩:∃S:Int,(v:Int)*KK=S:=⟨_,rfl⟩
  have a1:S / 4294967296=(v:Int):=by rw[<-hS];simp only[KK];omega
  have b1q:bits .and .u64 S 2147483648=0:=by rw[<-hS];have:=st_flag v 0 (by omega) (by omega);simpa [KK] using this
  have b2:bits .and .u64 S 2147483647=0:=by rw[<-hS];have:=st_waiters v 0 (by omega) (by omega);simpa [KK] using this
  have c1:IntKind.i32.wrap (v:Int)=(v:Int):=by rw[IntKind.wrap_i32];omega
  have w1:IntKind.u64.wrap (S+1)=S+1:=by rw[IntKind.wrap_u64,<-hS];simp only[KK];omega
  have q3:decide ((v:Int)<0)=false:=XV (by omega);have q4:decide (0<(v:Int))=true:=ZS (by omega);have q5:((v:Int)==0)=false:=by simp;omega
  have q6:decide ((v:Int)=0)=false:=XV (by omega);rw[hS]at hw;refine⟨_,stepG_load_atomic (v:=S) E E (by k_ne) E H.f_loadU64 (x_loadU64_n L) (x_loadU64_b L) (x_loadU64_x L) .u64 (x_loadU64_f L) E hw.cellSt,λh0=>absurd h0 (by omega),λ_=>GX.at ?_ hF⟩;clear hw hF w
  walk_nrm
  iterate 48 (first
    | refine GX.seq W.toWk ?_
    | refine GX.fin W.toWk ?_
    | (refine GX.region W.toWk ?_;simp only[Ys,XH,XL,Nat.reduceAdd,XK,List.range,List.range.loop])
    | refine GX.skip W.toWk ?_
    | refine GX.block W.toWk ?_
    | refine GX.inBlock W.toWk ?_
    | refine GX.iS W.toWk E ?_
    | refine GX.jH W.toWk E ?_
    | refine GX.ret W.toWk ?_
    | (refine GX.unwanted W.toWk E E ?_;walk_nrm)
    | (refine GX.leave1 W.toWk E E H.f_uLoad E ?_;walk_nrm)
    | (refine GX.leave1 W.toWk E E H.f_uCas E ?_;walk_nrm)
    | (refine GX.call W.toWk E E (by k_ne) E H.f_uLoad (nm_uLoad L) E ?_;walk_nrmf uLoadFn)
    | (refine GX.call W.toWk E E (by k_ne) E H.f_uCas (nm_uCas L) E ?_;walk_nrmf uCasFn)
    | (refine GX.value W.toWk E E (by k_ne) (λ_ _=>by go_simp<;>rfl) (λ_ _=>by simp[go_sem, *]) ?_;walk_nrm;try simp only[a1,b1q,b2,c1,w1,q3,q4,q5,q6]))
  refine GX.stop W.toWk λw hF=>⟨rfl,λv' yJ hw=>⟨λe=>?_,λe=>?_⟩⟩
  ·subst e
   rw[hS]at hw ⊢;refine⟨_,(stepG_cas_hit (v:=S) (n:=S+1) E E (by k_ne) E H.f_casU64 (x_casU64_n L) (x_casU64_b L) (x_casU64_x L) .u64 (x_casU64_f L) E E E hw.cellSt (hw.thaw 0)).trans (by rfl),GX.at ?_ (W.set _ _ _ hF E ⟨_,_,hw.setSt _⟩)⟩;clear hw hF w
   walk_nrm
   iterate 44 (first
     | refine GX.seq W.toWk ?_
     | refine GX.fin W.toWk ?_
     | (refine GX.region W.toWk ?_;simp only[Ys,XH,XL,Nat.reduceAdd,XK,List.range,List.range.loop])
     | refine GX.skip W.toWk ?_
     | refine GX.block W.toWk ?_
     | refine GX.inBlock W.toWk ?_
     | refine GX.iS W.toWk E ?_
     | refine GX.jH W.toWk E ?_
     | refine GX.ret W.toWk ?_
     | (refine GX.unwanted W.toWk E E ?_;walk_nrm)
     | (refine GX.leave1 W.toWk E E H.f_uLoad E ?_;walk_nrm)
     | (refine GX.leave1 W.toWk E E H.f_uCas E ?_;walk_nrm)
     | (refine GX.call W.toWk E E (by k_ne) E H.f_uLoad (nm_uLoad L) E ?_;walk_nrmf uLoadFn)
     | (refine GX.call W.toWk E E (by k_ne) E H.f_uCas (nm_uCas L) E ?_;walk_nrmf uCasFn)
     | (refine GX.conv W.toWk E E (by k_ne) E E H.underlying_tPU32 H.underlying_tUP H.room_tU32 (λ_ h=>(W.cell h).2) ?_;walk_nrm)
     | (refine GX.ev W.toWk E (λ_ _=>stepG_markAt .write (by simp) E E (by k_ne) E H.f_raceWrite (x_raceWrite_n L) (x_raceWrite_b L) (x_raceWrite_x L) (x_raceWrite_f L) (ad:=⟨c.Wg,1,none⟩) (by simp[Act.eval])) (λw _=>.one w (.inl ⟨_,rfl,.inr E⟩)) ?_;walk_nrm)
     | (refine GX.value W.toWk E E (by k_ne) (λ_ _=>by go_simp<;>rfl) (λ_ _=>by simp[go_sem, *]) ?_;walk_nrm))
   refine GX.stop W.toWk λw hF=>⟨rfl,rfl,λ⟨st,hw⟩=>stepG_semacquire_wait E E E H.f_semacquire (x_semacquire_n L) (x_semacquire_b L) (x_semacquire_x L) (x_semacquire_f L) (by simp[Act.eval,smA]) hw.cellSm,λhf=>?_⟩;refine⟨_,(stepG_semacquire (n:=1) E E (by k_ne) E H.f_semacquire (x_semacquire_n L) (x_semacquire_b L) (x_semacquire_x L) (x_semacquire_f L) (by simp[Act.eval,smA]) hf.cellSm (by k_ne) (hf.thaw 1)).trans (by rfl),GX.at ?_ (W.set _ _ _ hF E ⟨_,_,hf.setSm 0⟩)⟩;clear hf hF w
   walk_nrm
   iterate 16 (first
     | refine GX.seq W.toWk ?_
     | refine GX.fin W.toWk ?_
     | (refine GX.region W.toWk ?_;simp only[Ys,XH,XL,Nat.reduceAdd,XK,List.range,List.range.loop])
     | refine GX.skip W.toWk ?_
     | refine GX.block W.toWk ?_
     | refine GX.inBlock W.toWk ?_
     | refine GX.iS W.toWk E ?_
     | refine GX.jH W.toWk E ?_
     | refine GX.ret W.toWk ?_
     | (refine GX.unwanted W.toWk E E ?_;walk_nrm)
     | (refine GX.leave1 W.toWk E E H.f_uLoad E ?_;walk_nrm)
     | (refine GX.leave1 W.toWk E E H.f_uCas E ?_;walk_nrm)
     | (refine GX.call W.toWk E E (by k_ne) E H.f_uLoad (nm_uLoad L) E ?_;walk_nrmf uLoadFn)
     | (refine GX.call W.toWk E E (by k_ne) E H.f_uCas (nm_uCas L) E ?_;walk_nrmf uCasFn)
     | (refine GX.value W.toWk E E (by k_ne) (λ_ _=>by go_simp<;>rfl) (λ_ _=>by simp[go_sem, *]) ?_;walk_nrm))
   refine GX.stop W.toWk λw hF=>⟨rfl,λhw=>⟨_,stepG_load_atomic (v:=0) E E (by k_ne) E H.f_loadU64 (x_loadU64_n L) (x_loadU64_b L) (x_loadU64_x L) .u64 (x_loadU64_f L) E hw.cellSt,GX.at ?_ hF⟩⟩;clear hw hF w
   walk_nrm
   iterate 11 (first
     | refine GX.seq W.toWk ?_
     | refine GX.fin W.toWk ?_
     | (refine GX.region W.toWk ?_;simp only[Ys,XH,XL,Nat.reduceAdd,XK,List.range,List.range.loop])
     | refine GX.skip W.toWk ?_
     | refine GX.block W.toWk ?_
     | refine GX.inBlock W.toWk ?_
     | refine GX.iS W.toWk E ?_
     | refine GX.jH W.toWk E ?_
     | refine GX.ret W.toWk ?_
     | (refine GX.unwanted W.toWk E E ?_;walk_nrm)
     | (refine GX.leave1 W.toWk E E H.f_uLoad E ?_;walk_nrm)
     | (refine GX.leave1 W.toWk E E H.f_uCas E ?_;walk_nrm)
     | (refine GX.call W.toWk E E (by k_ne) E H.f_uLoad (nm_uLoad L) E ?_;walk_nrmf uLoadFn)
     | (refine GX.call W.toWk E E (by k_ne) E H.f_uCas (nm_uCas L) E ?_;walk_nrmf uCasFn)
     | (refine GX.value W.toWk E E (by k_ne) (λ_ _=>by go_simp<;>rfl) (λ_ _=>by simp[go_sem, *]) ?_;walk_nrm))
   refine GX.stop W.toWk λw hF=>⟨rfl,_,stepG_mark0 .enable (by simp) E E (by k_ne) E H.f_enable (x_enable_n L) (x_enable_b L) (x_enable_x L) (x_enable_f L),GX.at ?_ hF⟩;clear hF w
   walk_nrm
   iterate 4 (first
     | refine GX.seq W.toWk ?_
     | refine GX.fin W.toWk ?_
     | (refine GX.region W.toWk ?_;simp only[Ys,XH,XL,Nat.reduceAdd,XK,List.range,List.range.loop])
     | refine GX.skip W.toWk ?_
     | refine GX.block W.toWk ?_
     | refine GX.inBlock W.toWk ?_
     | refine GX.iS W.toWk E ?_
     | refine GX.jH W.toWk E ?_
     | refine GX.ret W.toWk ?_
     | (refine GX.unwanted W.toWk E E ?_;walk_nrm)
     | (refine GX.leave1 W.toWk E E H.f_uLoad E ?_;walk_nrm)
     | (refine GX.leave1 W.toWk E E H.f_uCas E ?_;walk_nrm)
     | (refine GX.call W.toWk E E (by k_ne) E H.f_uLoad (nm_uLoad L) E ?_;walk_nrmf uLoadFn)
     | (refine GX.call W.toWk E E (by k_ne) E H.f_uCas (nm_uCas L) E ?_;walk_nrmf uCasFn)
     | (refine GX.conv W.toWk E E (by k_ne) E E H.underlying_tWgP H.underlying_tUP H.room_tWg (λ_ h=>(W.cell h).1) ?_;walk_nrm)
     | (refine GX.value W.toWk E E (by k_ne) (λ_ _=>by go_simp<;>rfl) (λ_ _=>by simp[go_sem, *]) ?_;walk_nrm))
   refine GX.stop W.toWk λw hF=>⟨rfl,_,stepG_markAt .acquire (by simp) E E (by k_ne) E H.f_acquire (x_acquire_n L) (x_acquire_b L) (x_acquire_x L) (x_acquire_f L) (by simp[Act.eval,stA]),rfl,?_⟩;clear hF w
   walk_nrm
   iterate 9 (first
     | refine GX.seq U ?_
     | refine GX.fin U ?_
     | (refine GX.region U ?_;simp only[Ys,XH,XL,Nat.reduceAdd,XK,List.range,List.range.loop])
     | refine GX.skip U ?_
     | refine GX.block U ?_
     | refine GX.inBlock U ?_
     | refine GX.iS U E ?_
     | refine GX.jH U E ?_
     | refine GX.ret U ?_
     | (refine GX.unwanted U E E ?_;walk_nrm)
     | (refine GX.leave1 U E E H.f_uLoad E ?_;walk_nrm)
     | (refine GX.leave1 U E E H.f_uCas E ?_;walk_nrm)
     | (refine GX.call U E E (by k_ne) E H.f_uLoad (nm_uLoad L) E ?_;walk_nrmf uLoadFn)
     | (refine GX.call U E E (by k_ne) E H.f_uCas (nm_uCas L) E ?_;walk_nrmf uCasFn)
     | (refine GX.value U E E (by k_ne) (λ_ _=>by go_simp<;>rfl) (λ_ _=>by simp[go_sem, *]) ?_;walk_nrm))
   refine GX.leave0 U E E H.f_wait E ?_;exact GX.stop U λw hF=>⟨rfl,rfl⟩
  ·refine⟨_,stepG_cas_miss (v:=(v':Int)*KK) (old:=S) (n:=S+1) E E (by k_ne) E H.f_casU64 (x_casU64_n L) (x_casU64_b L) (x_casU64_x L) .u64 (x_casU64_f L) E E E hw.cellSt (hw.thaw 0) (by rw[<-hS];simp only[KK];omega),GX.at ?_ hF⟩
   clear hw hF w
   walk_nrm
   iterate 8 (first
     | refine GX.seq W.toWk ?_
     | refine GX.fin W.toWk ?_
     | (refine GX.region W.toWk ?_;simp only[Ys,XH,XL,Nat.reduceAdd,XK,List.range,List.range.loop])
     | refine GX.skip W.toWk ?_
     | refine GX.block W.toWk ?_
     | refine GX.inBlock W.toWk ?_
     | refine GX.iS W.toWk E ?_
     | refine GX.jH W.toWk E ?_
     | refine GX.ret W.toWk ?_
     | (refine GX.unwanted W.toWk E E ?_;walk_nrm)
     | (refine GX.leave1 W.toWk E E H.f_uLoad E ?_;walk_nrm)
     | (refine GX.leave1 W.toWk E E H.f_uCas E ?_;walk_nrm)
     | (refine GX.call W.toWk E E (by k_ne) E H.f_uLoad (nm_uLoad L) E ?_;walk_nrmf uLoadFn)
     | (refine GX.call W.toWk E E (by k_ne) E H.f_uCas (nm_uCas L) E ?_;walk_nrmf uCasFn)
     | (refine GX.value W.toWk E E (by k_ne) (λ_ _=>by go_simp<;>rfl) (λ_ _=>by simp[go_sem, *]) ?_;walk_nrm))
   refine GX.inLoop W.toWk ?_;exact GX.stop W.toWk λw hF=>⟨_,rfl,by simp,by simp,hF⟩
end
theorem eF{P:Z4}{main:Bool}{R:W'->W'->Prop}{D:W'->W'->Array ϊ->Prop}{Stop D9:Z7->W'->Prop}(h:∀g w,Stop g w->D9 g w):∀{n:Nat} {g:Z7} {w:W'},Goes P main R D Stop n g w->Goes P main R D D9 n g w
 | 0,_,_,hg=>λcL r=>h _ _ (hg cL r)
 | n+1,g,w,hg=>by
  rcases hg with hs|⟨Y,dU⟩
  ·exact .inl λcL r=>h _ _ (hs cL r)
  ·refine .inr ⟨Y,λcL r=>?_⟩
   have:=dU cL r;revert this
   cases stepG P main g cL<;>first|exact λh=>h|exact λx=>⟨x.1,eF h x.2⟩
section
variable[Payload]{c:Kx}{B B' A A':Z7->W'->Prop}
theorem AtAcq.mono(h:∀g w,B g w->B' g w)(g:Z7)(w:W')(x:AtAcq c B g w):AtAcq c B' g w:=let ⟨a,g',s,y⟩:=x;⟨a,g',s,h _ _ y⟩
theorem AtKe.mono(h:∀g w,B g w->B' g w)(g:Z7)(w:W')(x:AtKe c B g w):AtKe c B' g w:=let ⟨a,g',s,m,y⟩:=x;⟨a,g',s,m,eF (AtAcq.mono h) y⟩
theorem AtW4.mono(h:∀g w,B g w->B' g w)(g:Z7)(w:W')(x:AtW4 c B g w):AtW4 c B' g w:=⟨x.1,λhw=>let ⟨g',s,m,y⟩:=x.2 hw;⟨g',s,m,eF (AtKe.mono h) y⟩⟩
theorem AtW3.mono(h:∀g w,B g w->B' g w)(g:Z7)(w:W')(x:AtW3 c B g w):AtW3 c B' g w:=⟨x.1,x.2.1,x.2.2.1,λhw=>let ⟨g',s,m,y⟩:=x.2.2.2 hw;⟨g',s,m,eF (AtW4.mono h) y⟩⟩
theorem AtW2.mono(h:∀g w,B g w->B' g w)(k:∀g w,A g w->A' g w){vs:Nat}(g:Z7)(w:W')(x:AtW2 c B A vs g w):AtW2 c B' A' vs g w:=
 ⟨x.1,λv hv hw=>⟨λe=>let ⟨g',s,m,y⟩:=(x.2 v hv hw).1 e;⟨g',s,m,eF (AtW3.mono h) y⟩,λe=>let ⟨g',s,m,y⟩:=(x.2 v hv hw).2 e;⟨g',s,m,eF k y⟩⟩⟩
theorem AtW1.mono(h:∀g w,B g w->B' g w)(k:∀g w,A g w->A' g w)(g:Z7)(w:W')(x:AtW1 c B A g w):AtW1 c B' A' g w:=
 ⟨x.1,λv hv hw=>let ⟨g',s,y,z⟩:=x.2 v hv hw;⟨g',s,λe=>let ⟨m,y⟩:=y e;⟨m,eF (AtKe.mono h) y⟩,λe=>let ⟨m,z⟩:=z e;⟨m,eF (AtW2.mono h k) z⟩⟩⟩
theorem AtKd.mono(k:∀g w,A g w->A' g w)(g:Z7)(w:W')(x:AtKd c A g w):AtKd c A' g w:=let ⟨a,g',s,m,y⟩:=x;⟨a,g',s,m,eF k y⟩
end
theorem GX.mono{P:Z4}{main:Bool}{R:W'->W'->Prop}{D:W'->W'->Array ϊ->Prop}{F:W'->Prop}{Stop D9:Z7->W'->Prop}{g:Z7}(h:GX P main R D F Stop g)(k:∀g w,Stop g w->D9 g w):GX P main R D F D9 g:=let ⟨m,h⟩:=h.go;⟨⟨m,λw hw=>eF k (h w hw)⟩⟩
section
variable{P:Z4}{main:Bool}{R:W'->W'->Prop}{D:W'->W'->Array ϊ->Prop}{F F':W'->Prop}{Stop:Z7->W'->Prop}{b:Frame}{a:Act}{k:List Item}{cs:List Frame}{ops:Array Z8}{i:Nat}{rest:List Nat}{op:Op}{d:Option Tmp}{s:Sem Next}
theorem GX.fa(W:Wk R D F)(hO:eO ops i op d)(hx:∀o:Z8,o.op=op->execOp a.eval o=s){v:Z3}{es:Array ϊ}(hk:b.kind≠.early)(Y:∀w,F w->s.run P w=.ok (.value v) w)(he:∀w,F w->s.events P w #[]=es)
  (hq:seen P b.fn es=es) (hD:∀w,F w->D w w es) (h:GX P main R D F Stop (G (b.at (a.put d v) (.inRegion ops rest::k)) cs)):GX P main R D F Stop (G (b.at a (.inRegion ops (i::rest)::k)) cs):=
 (c7.fa (ι:=Unit) (rest:=λ_=>rest) W hO hx hk Y he hq hD h.VB).at ()
theorem GX.lO(W:Wk R D F)(hO:eO ops i op d)(hx:∀o:Z8,o.op=op->execOp a.eval o=s){v:Z3}(hk:b.kind≠.early)(Y:∀w,F w->s.run P w=.ok (.value v) w)(he:∀w,F w->s.events P w #[]=#[])
 (h:GX P main R D F Stop (G (b.at (a.put d v) (.inRegion ops rest::k)) cs)):GX P main R D F Stop (G (b.at a (.inRegion ops (i::rest)::k)) cs):=(c7.lO (ι:=Unit) (rest:=λ_=>rest) W hO hx hk Y he h.VB).at ()
theorem GX.Ly(W:Wk R D F)(hO:eO ops i op d)(hx:∀o:Z8,o.op=op->execOp a.eval o=s){ad:Addr}{v:Z3}(hk:b.kind≠.early)(Y:∀w,F w->s.run P w=.ok .skip (w.setCell ad v))(he:∀w,F w->s.events P w #[]=#[⟨.cell ad,true,false⟩])
  (hq:(P.funcs[b.fn]?).any (·.norace)=false) (hD:∀w,F w->D w (w.setCell ad v) #[⟨.cell ad,true,false⟩]) (Vx:∀w,F w->F' (w.setCell ad v)) (h:GX P main R D F' Stop (G (b.at (a.put d undef) (.inRegion ops rest::k)) cs)):GX P main R D F Stop (G (b.at a (.inRegion ops (i::rest)::k)) cs):=
 (c7.Ly (ι:=Unit) (rest:=λ_=>rest) W hO hx hk Y he hq hD Vx h.VB).at ()
theorem GX.move(W:Wk R D F){x:Z6}{v:Z3}(hO:eO ops i (.move x) d)(hx:a.eval x=v)(hk:b.kind≠.early)(h:GX P main R D F Stop (G (b.at (a.put d v) (.inRegion ops rest::k)) cs)):GX P main R D F Stop (G (b.at a (.inRegion ops (i::rest)::k)) cs):=
 .lO W hO (s:=Pure.pure (.value v)) (λo h=>by unfold execOp;rw[h,<-hx]) hk (λw _=>rfl) (λw _=>rfl) h
theorem xal{a:Act}{t:Z5}(o:Z8)(h:o.op=.alloc t):execOp a.eval o=(do Pure.pure (.value (<-Instr.alloc t true (.tuple #[])))):=by unfold execOp;rw[h]
theorem xbi{a:Act}{op:BinOp}{t y:Z5}{x z:Z6}{v u:Z3}(hx:a.eval x=v)(hz:a.eval z=u)(o:Z8)(h:o.op=.binOp op t x z y):execOp a.eval o=(do Pure.pure (.value (<-(do eqGuard op t x z v u;binOp op t v u)))):=by unfold execOp;rw[h,<-hx,<-hz]
theorem xmf{a:Act}{f:ϋ}{cs:Array Z6}{vs:Array Z3}(hx:cs.map a.eval=vs)(o:Z8)(h:o.op=.makeFunc (.func f) #[] cs):execOp a.eval o=(Pure.pure (.value (.func (.func f) #[] vs))):=by unfold execOp;rw[h];simp only[hx,Array.map_empty];rfl
noncomputable def as2:Code:=Tryz.f8.body.getD .skip
noncomputable def oY:Code:=match as2 with|.seq _ (.seq _ (.seq _ (.seq _ (.seq _ r))))=>r|_=>.skip
noncomputable def Bd:Code:=match oY with|.seq _ r=>r|_=>.skip
noncomputable def oG:Array Z8:=match oY with|.seq (.region _ o _) _=>o|_=>#[]
noncomputable def LR:Array Z8:=match Bd with|.seq (.seq (.region _ o _) _) _=>o|_=>#[]
noncomputable def LD:Code:=match Bd with|.seq (.seq _ (.block _ (.loop l))) _=>l|_=>.skip
noncomputable def RD:Code:=match Bd with|.seq _ r=>r|_=>.skip
noncomputable def LU:Array Z8:=match LD with|.seq (.region _ o _) _=>o|_=>#[]
noncomputable def o7:Array Z8:=match LD with|.seq _ (.seq _ (.seq (.block _ (.seq (.region _ o _) _)) _))=>o|_=>#[]
noncomputable def Cf:Array Z8:=match LD with|.seq _ (.seq _ (.seq (.block _ (.seq _ (.seq (.region _ o _) _))) _))=>o|_=>#[]
noncomputable def vp:Array Z8:=match LD with|.seq _ (.seq _ (.seq (.block _ (.seq _ (.seq _ (.region _ o _)))) _))=>o|_=>#[]
noncomputable def Ce:Array Z8:=match LD with|.seq _ (.seq _ (.seq _ (.region _ o _)))=>o|_=>#[]
noncomputable def qp:Array Z8:=match RD with|.seq (.region _ o _) _=>o|_=>#[]
noncomputable def TD:Code:=match RD with|.seq _ r=>r|_=>.skip
theorem Lg:oY=.seq (.region 8 oG false) Bd:=rfl
theorem Lf:Bd=.seq (.seq (.region 9 LR false) (.block 0 (.loop LD))) RD:=rfl
theorem TH:LD=.seq (.region 10 LU false) (.seq (.cond (.tmp 45) .skip (.exit 0)) (.seq (.block 1 (.seq (.region 11 o7 false) (.seq (.region 12 Cf false) (.region 13 vp false)))) (.region 14 Ce false))):=rfl
theorem at1:RD=.seq (.region 15 qp false) TD:=rfl
theorem oe8:eO oG 0 (.alloc 102) (some 11):=⟨⟨_,rfl,rfl,rfl,rfl⟩⟩
theorem aw5:eO LR 0 (.move (.tmp 1)) (some 42):=⟨⟨_,rfl,rfl,rfl,rfl⟩⟩
theorem aw4:eO LR 1 (.call { callee:=.builtin .len,args:=#[.tmp 42],argTypes:=#[38] }) (some 43):=⟨⟨_,rfl,rfl,rfl,rfl⟩⟩
theorem aw3:eO LR 2 (.move (.const (.int .i64 0))) (some 44):=⟨⟨_,rfl,rfl,rfl,rfl⟩⟩
theorem ag8:eO LU 0 (.binOp .lss 3 (.tmp 44) (.tmp 43) 3) (some 45):=⟨⟨_,rfl,rfl,rfl,rfl⟩⟩
theorem ag7:eO o7 0 (.move (.tmp 44)) (some 46):=⟨⟨_,rfl,rfl,rfl,rfl⟩⟩
theorem ag6:eO o7 1 (.indexAddr 38 (.tmp 42) (.tmp 44)) (some 47):=⟨⟨_,rfl,rfl,rfl,rfl⟩⟩
theorem ag5:eO o7 2 (.load 64 (.tmp 47)) (some 48):=⟨⟨_,rfl,rfl,rfl,rfl⟩⟩
theorem ag4:eO o7 3 (.alloc 3) (some 12):=⟨⟨_,rfl,rfl,rfl,rfl⟩⟩
theorem ag3:eO o7 4 (.alloc 64) (some 13):=⟨⟨_,rfl,rfl,rfl,rfl⟩⟩
theorem ag2:eO o7 5 (.store 3 (.tmp 12) (.tmp 46)) (none):=⟨⟨_,rfl,rfl,rfl,rfl⟩⟩
theorem ag1:eO o7 6 (.store 64 (.tmp 13) (.tmp 48)) (none):=⟨⟨_,rfl,rfl,rfl,rfl⟩⟩
theorem aw7:eO Cf 0 (.call { callee:=.value (.func 32),args:=#[.tmp 11,.const (.int .i64 1)],argTypes:=#[102,3] }) (some 49):=⟨⟨_,rfl,rfl,rfl,rfl⟩⟩
theorem ag0:eO vp 0 (.makeFunc (.func 33) #[] #[.tmp 11,.tmp 6,.tmp 13,.tmp 10,.tmp 12]) (some 50):=⟨⟨_,rfl,rfl,rfl,rfl⟩⟩
theorem af9:eO vp 1 (.go { callee:=.value (.tmp 50),args:=#[],argTypes:=#[] }) (none):=⟨⟨_,rfl,rfl,rfl,rfl⟩⟩
theorem af8:eO Ce 0 (.binOp .add 3 (.tmp 44) (.const (.int .i64 1)) 3) (some 51):=⟨⟨_,rfl,rfl,rfl,rfl⟩⟩
theorem af7:eO Ce 1 (.move (.tmp 51)) (some 44):=⟨⟨_,rfl,rfl,rfl,rfl⟩⟩
theorem aw6:eO qp 0 (.call { callee:=.value (.func 36),args:=#[.tmp 11],argTypes:=#[102] }) (some 52):=⟨⟨_,rfl,rfl,rfl,rfl⟩⟩
theorem au2:List.range oG.size=[0]:=rfl
theorem au1:List.range LR.size=[0,1,2]:=rfl
theorem R9:List.range LU.size=[0]:=rfl
theorem ab1:List.range o7.size=[0,1,2,3,4,5,6]:=rfl
theorem ab0:List.range Cf.size=[0]:=rfl
theorem aa9:List.range vp.size=[0,1]:=rfl
theorem aa8:List.range Ce.size=[0,1]:=rfl
theorem aa7:List.range qp.size=[0]:=rfl
theorem Mr:(prog.funcs[(base 8).fn]?).any (·.norace)=false:=by kernel_rfl
variable{c:Kx}(hP:c.P=prog)
include hP
theorem al3(w:W'):(do Pure.pure (.value (<-Instr.alloc 3 true (.tuple #[]))):Sem Next).run c.P w=.ok (.value (.pointer (some ⟨w.heap.size,0,none⟩))) (w.alloc (.cells #[.int .i64 0] 3))/\(do Pure.pure (.value (<-Instr.alloc 3 true (.tuple #[]))):Sem Next).events c.P w #[]=#[]:=by
 rw[hP];constructor
 ·go_simp
 ·simp[go_sem]
theorem aG5(w:W'):(do Pure.pure (.value (<-Instr.alloc 64 true (.tuple #[]))):Sem Next).run c.P w=.ok (.value (.pointer (some ⟨w.heap.size,0,none⟩))) (w.alloc (.cells #[.slice none 0 0] 64))/\(do Pure.pure (.value (<-Instr.alloc 64 true (.tuple #[]))):Sem Next).events c.P w #[]=#[]:=by
 rw[hP];constructor
 ·go_simp
 ·simp[go_sem]
theorem st3{w:W'}{ad:Addr}{n:Int}(hc:∃u,w.cell? ad=some u/\w.frozen? ad=false):(do Instr.storeAt 3 (.pointer (some ad)) (.int .i64 n);Pure.pure .skip:Sem Next).run c.P w=.ok .skip (w.setCell ad (.int .i64 n))/\(do Instr.storeAt 3 (.pointer (some ad)) (.int .i64 n);Pure.pure .skip:Sem Next).events c.P w #[]=#[⟨.cell ad,true,false⟩]:=by
 have⟨u,h1,h2⟩:=hc;rw[hP];constructor
 ·simp[go_sem,stored,h1,h2]
 ·simp[go_sem,stored,storedEv,h1,h2]
theorem ab6{w:W'}{ad:Addr}{A:Option Addr}{l k:Nat}(hc:∃u,w.cell? ad=some u/\w.frozen? ad=false):(do Instr.storeAt 64 (.pointer (some ad)) (.slice A l k);Pure.pure .skip:Sem Next).run c.P w=.ok .skip (w.setCell ad (.slice A l k))/\(do Instr.storeAt 64 (.pointer (some ad)) (.slice A l k);Pure.pure .skip:Sem Next).events c.P w #[]=#[⟨.cell ad,true,false⟩]:=by
 have⟨u,h1,h2⟩:=hc;rw[hP];constructor
 ·simp[go_sem,stored,h1,h2]
 ·simp[go_sem,stored,storedEv,h1,h2]
  rw[events_store prog w #[] ad (.slice A l k) .plain E,h1];simp[h2]
theorem ah9{ad:Addr}{n cap i:Nat}(hi:i<n)(w:W'):(do Pure.pure (.value (<-Instr.indexAt 38 (.slice (some ad) n cap) (.int .i64 i))):Sem Next).run c.P w=.ok (.value (.pointer (some (ad.add i)))) w/\(do Pure.pure (.value (<-Instr.indexAt 38 (.slice (some ad) n cap) (.int .i64 i))):Sem Next).events c.P w #[]=#[]:=by
 have bH:(i:Int)<(n:Int):=by omega
 have HS:(0:Int)<=(i:Int):=by omega
 rw[hP];constructor
 ·go_simp
 ·simp[go_sem,bH,HS]
theorem ls3(x y:Int)(p q:Z6)(w:W'):(do Pure.pure (.value (<-(do eqGuard .lss 3 p q (.int .i64 x) (.int .i64 y);binOp .lss 3 (.int .i64 x) (.int .i64 y)))):Sem Next).run c.P w=.ok (.value (.bool (decide (x<y)))) w/\(do Pure.pure (.value (<-(do eqGuard .lss 3 p q (.int .i64 x) (.int .i64 y);binOp .lss 3 (.int .i64 x) (.int .i64 y)))):Sem Next).events c.P w #[]=#[]:=by
 rw[hP];constructor
 ·go_simp
 ·simp[go_sem]
theorem ad3(x y:Int)(p q:Z6)(w:W'):(do Pure.pure (.value (<-(do eqGuard .add 3 p q (.int .i64 x) (.int .i64 y);binOp .add 3 (.int .i64 x) (.int .i64 y)))):Sem Next).run c.P w=.ok (.value (.int .i64 (IntKind.i64.wrap (x+y)))) w/\(do Pure.pure (.value (<-(do eqGuard .add 3 p q (.int .i64 x) (.int .i64 y);binOp .add 3 (.int .i64 x) (.int .i64 y)))):Sem Next).events c.P w #[]=#[]:=by
 rw[hP];constructor
 ·go_simp
 ·simp[go_sem]
end
instance av9:Payload:=⟨104⟩
theorem GX.Tx{P:Z4}{main:Bool}{R:W'->W'->Prop}{D:W'->W'->Array ϊ->Prop}{F:W'->Prop}{Stop:Z7->W'->Prop}{b:Frame}{a:Act}{k:List Item}{cs:List Frame}{ops:Array Z8}{i:Nat}{rest:List Nat}{op:Op}{d:Option Tmp}{fn:Func}{f:ϋ}{co:Code}{args:Array Z6}{Wa:Array Z5}{vs:Array Z3}{n:Nat}(W:Wk R D F)(hO:eO ops i op d)(cF:op=.call { callee:=.value (.func f),args,argTypes:=Wa })(hk:b.kind≠.early)(hf:P.funcs[f]?=some fn)(m9:(fn.name == "runtime.NumGoroutine")=false)(hb:fn.body=some co)(hv:args.map a.eval=vs)(hn:fn.ntmps - vs.size=n)
  (h:GX P main R D F Stop (G ((base f).at ⟨vs++Array.replicate n undef,[]⟩ [.code co]) (b.at a (.inRegion ops (i::rest)::k)::cs))):GX P main R D F Stop (G (b.at a (.inRegion ops (i::rest)::k)) cs):=
 .step W E (λw _=>sU hO cF hk hf m9 hb hv hn w) h
structure FD(c:Kx)(W w:W'):Prop where
 live:WgLive c.ty c.Wg w
 old:∀b,c.old b->w.heap[b]?=W.heap[b]?
structure FB(c:Kx)(W:W')(l:List (Nat × Obj))(w:W'):Prop extends FD c W w where
 mine:∀x∈l,w.heap[x.1]?=some x.2/\c.L0<=x.1
section
variable{c:Kx}{W w w':W'}{l:List (Nat × Obj)}{bs:Nat->Prop}
theorem ee{w:W'}{a:Addr}{v:Z3}{b:Nat}(h:b≠a.block):(w.setCell a v).heap[b]?=w.heap[b]?:=(aside_setCell w a v).block b h
theorem Dk(hW:c.Wg<c.L0)(hl:∀x∈l,bs x.1):Wl c bs (FB c W l):=by
 refine { rel:=λw w' h r=>⟨⟨r.live h.live,λb hb=>(r.old b hb).trans (h.old b hb)⟩,λx hx=>⟨(r.bs x.1 (hl x hx)).trans (h.mine x hx).1,(h.mine x hx).2⟩⟩,dz:=λw=>DS.none w,live:=λw h=>h.live,set:=λw a v h ha hlv=>⟨⟨hlv,λb hb=>?_⟩,λx hx=>⟨?_,(h.mine x hx).2⟩⟩ }
 ·rw[ee (by rw[ha];exact hb.2.1)];exact h.old b hb
 ·rw[ee (by rw[ha];have:=(h.mine x hx).2;omega)];exact(h.mine x hx).1
theorem Dj(hW:c.Wg<c.L0):Wl c fQ (FD c W):=by
 refine { rel:=λw w' h r=>⟨r.live h.live,λb hb=>(r.old b hb).trans (h.old b hb)⟩,dz:=λw=>DS.none w,live:=λw h=>h.live,set:=λw a v h ha hlv=>⟨hlv,λb hb=>?_⟩ };rw[ee (by rw[ha];exact hb.2.1)];exact h.old b hb
theorem QF(h:WgLive c.ty c.Wg w):c.Wg<w.heap.size:=by
 have⟨st,sm,hw⟩:=h;have h:=hw.cellSt;unfold World.cell? at h
 cases hb:w.heap[c.Wg]? with
 | none=>simp only[stA,hb]at h;cases h
 | some o=>exact(Xz.1 hb).1
theorem ir{o:Obj}{b:Nat}(h:b<w.heap.size):(w.alloc o).heap[b]?=w.heap[b]?:=by
 show (w.heap.push o)[b]?=_
 rw[YE,Xr (by omega)]
theorem aK5{o:Obj}:(w.alloc o).heap[w.heap.size]?=some o:=by
 show (w.heap.push o)[w.heap.size]?=_
 simp
theorem HI{w w':W'}(h:WgLive c.ty c.Wg w)(e:w'.heap[c.Wg]?=w.heap[c.Wg]?):WgLive c.ty c.Wg w':=let ⟨st,sm,h⟩:=h;⟨st,sm,h.of_block e⟩
theorem Dl(hL:c.L0=c.Wg+1)(h:FB c W l w)(o:Obj):FB c W ((w.heap.size,o)::l) (w.alloc o):=by
 have bH:=QF h.live;refine⟨⟨HI h.live (ir bH),λb hb=>(ir (by have:=hb.1;omega)).trans (h.old b hb)⟩,λx hx=>?_⟩;rcases Xy.1 hx with rfl|hx
 ·exact⟨aK5,by omega⟩
 ·have⟨h1,h2⟩:=h.mine x hx
  exact⟨(ir (Xz.1 h1).1).trans h1,h2⟩
theorem FD.b(h:FD c W w):FB c W [] w:=⟨h,λx hx=>by cases hx⟩
theorem lu{b:Nat}{v:Z3}{e:Z5}(h:w.heap[b]?=some (.cells #[v] e)):w.cell? ⟨b,0,none⟩=some v/\w.frozen? ⟨b,0,none⟩=false:=by
 constructor
 ·simp[World.cell?,h]
 ·simp[World.frozen?,h]
theorem Ht{b:Nat}{v u:Z3}{e:Z5}(h:w.heap[b]?=some (.cells #[v] e)):(w.setCell ⟨b,0,none⟩ u).heap[b]?=some (.cells #[u] e):=by
 rw[setCell_eq_setRow w b 0 _ _ (0,0) _ h,setRow_heap w b _ _ _ _ h];rfl
theorem qq{a:Addr}{v:Z3}(h:FD c W w)(ho:c.old a.block)(hc:W.cell? a=some v):w.cell? a=some v:=by
 unfold World.cell? at hc ⊢;rw[h.old _ ho];exact hc
theorem Ru{a:Addr}(ho:c.old a.block)(hg:¬c.G a.block)(w:W'):DS c bs w w #[⟨.cell a,false,false⟩]:=.one w (.inr (.inl ⟨a,false,rfl,.inr ⟨ho,hg,rfl⟩⟩))
theorem Dz{a:Addr}{v:Z3}(h:bs a.block)(w:W'):DS c bs w (w.setCell a v) #[⟨.cell a,true,false⟩]:=by
 have hA:=aside_setCell w a v;exact⟨hA.tape,hA.os,hA.output,hA.size,λb hb=>hA.block b λe=>hb (e ▸ h),λe he=>by rw[Yz]at he;subst he;exact .inr (.inl ⟨a,true,rfl,.inl h⟩)⟩
structure Ba(c:Kx)(W:W')(bx bs:Nat)(xv:Z3)(qS:Nat->Z3)(A:Option Addr):Prop where
 P:c.P=prog
 Q:c.Q=qP
 NG:c.NG=0
 ty:c.ty=wX.tWg
 L0:c.L0=c.Wg+1
 CL:c.C<c.L0
 CW:c.C≠c.Wg
 ox:c.old bx
 os:c.old bs
 sh:W.cell? ⟨bs,0,none⟩=some (.slice (some ⟨c.C,0,none⟩) c.q c.q)
 xb:W.cell? ⟨bx,0,none⟩=some xv
 el:∀i,i<c.q->∃ad,A=some ad/\c.old (ad.add i).block/\¬c.G (ad.add i).block/\W.cell? (ad.add i)=some (qS i)
 fs:∀i,i<c.q->∃A l k,qS i=.slice A l k
 K:∀i,i<c.q->GB c (c.p+i) xv (qS i) W
 hp:c.n=c.p+c.q
 gx:¬c.G bx
 gs:¬c.G bs
 hG:∀b,c.G b->c.old b
 hn:c.q<2147483648
structure mg(c:Kx)(bx bs cap:Nat)(A:Option Addr)(T:Array Z3)(i:Nat):Prop where
 sz:T.size=85
 t6:T[6]?=some (.pointer (some ⟨bx,0,none⟩))
 t10:T[10]?=some (.pointer (some ⟨bs,0,none⟩))
 t11:T[11]?=some (.pointer (some ⟨c.Wg,0,none⟩))
 t42:T[42]?=some (.slice A c.q cap)
 t43:T[43]?=some (.int .i64 c.q)
 t44:T[44]?=some (.int .i64 i)
structure Gw(bx bs:Nat)(T:Array Z3):Prop where
 sz:T.size=85
 t6:T[6]?=some (.pointer (some ⟨bx,0,none⟩))
 t10:T[10]?=some (.pointer (some ⟨bs,0,none⟩))
def mw(c:Kx)(W:W')(bx bs:Nat)(cs:List Frame)(g:Z7)(w:W'):Prop:=∃T,Gw bx bs T/\It wX c.Wg (FD c W) ((base 8).at ⟨T,[]⟩ [.inRegion qp [0],.code TD]) cs g w
def Ei(c:Kx)(bx bs:Nat)(cs:List Frame)(g:Z7)(w:W'):Prop:=∃T,Gw bx bs T/\OU c.P (G ((base 8).at ⟨T,[]⟩ [.inRegion qp [],.code TD]) cs) g w
end
section
variable{c:Kx}{W:W'}{bx bs cap:Nat}{xv:Z3}{qS:Nat->Z3}{A:Option Addr}{cs:List Frame}
theorem OE(g:Z7)(w:W')(h:mw c W bx bs cs g w):g.status=.running:=by
 obtain⟨_,_,_,rfl,_⟩:=h;rfl
theorem Ou(g:Z7)(w:W')(h:Ei c bx bs cs g w):g.status=.running:=by
 obtain⟨_,_,h⟩:=h;exact h.1
theorem Mt(X:Ba c W bx bs xv qS A):WgLib c.P wX:=by rw[X.P];exact Km
theorem aK4(X:Ba c W bx bs xv qS A)(jf:c.ty=wX.tWg)(g:Z7)(w:W')(h:mw c W bx bs cs g w):∃m,GS c fQ (AtW1 c (Ei c bx bs cs) (mw c W bx bs cs)) m g w:=by
 have⟨T,hT,hA⟩:=h;obtain⟨m,hm⟩:=ED (L:=wX) (b₀:=base 8) (a₀:=⟨T,[]⟩) (ops₀:=qp) (i₀:=0) (rest₀:=[]) (k₀:=[.code TD]) (Mt X) (Dj (by have:=X.L0;omega)) g w hA;refine⟨m,eF (AtW1.mono (λg w h=>⟨_,?_,h⟩) (λg w h=>⟨T,hT,h⟩)) hm⟩;show Gw bx bs ((⟨T,[]⟩:Act).put (some 52) (.tuple #[])).tmps
 exact⟨by simp[Act.put,hT.sz],by simp[Act.put,Xx,hT.t6],by simp[Act.put,Xx,hT.t10]⟩
noncomputable def Q8(T:Array Z3):Frame:=(base 8).at ⟨T,[]⟩ [.code LD,.inLoop LD,.inBlock 0,.code RD]
theorem ac7(v:Z3):#[v]++Array.replicate 83 undef=#[v,undef,undef,undef,undef,undef,undef,undef,undef,undef,undef,undef,undef,undef,undef,undef,undef,undef,undef,undef,undef,undef,undef,undef,undef,undef,undef,undef,undef,undef,undef,undef,undef,undef,undef,undef,undef,undef,undef,undef,undef,undef,undef,undef,undef,undef,undef,undef,undef,undef,undef,undef,undef,undef,undef,undef,undef,undef,undef,undef,undef,undef,undef,undef,undef,undef,undef,undef,undef,undef,undef,undef,undef,undef,undef,undef,undef,undef,undef,undef,undef,undef,undef,undef]:=by
 apply Array.ext';simp only[Array.toList_append,Array.toList_replicate,List.replicate];rfl
theorem Up(v u:Z3):#[v,u]++Array.replicate 115 undef=#[v,u,undef,undef,undef,undef,undef,undef,undef,undef,undef,undef,undef,undef,undef,undef,undef,undef,undef,undef,undef,undef,undef,undef,undef,undef,undef,undef,undef,undef,undef,undef,undef,undef,undef,undef,undef,undef,undef,undef,undef,undef,undef,undef,undef,undef,undef,undef,undef,undef,undef,undef,undef,undef,undef,undef,undef,undef,undef,undef,undef,undef,undef,undef,undef,undef,undef,undef,undef,undef,undef,undef,undef,undef,undef,undef,undef,undef,undef,undef,undef,undef,undef,undef,undef,undef,undef,undef,undef,undef,undef,undef,undef,undef,undef,undef,undef,undef,undef,undef,undef,undef,undef,undef,undef,undef,undef,undef,undef,undef,undef,undef,undef,undef,undef,undef,undef]:=by
 apply Array.ext';simp only[Array.toList_append,Array.toList_replicate,List.replicate];rfl
theorem E8(X:Ba c W bx bs xv qS A){T:Array Z3}(hT:mg c bx bs cap A T c.q):GX c.P true (R0 c fQ) (DS c fQ) (FD c W) (AtKd c (mw c W bx bs cs)) (G (Q8 T) cs):=by
 have WK:=Dj (c:=c) (W:=W) (by have:=X.L0;omega);unfold Q8;rw[TH];refine GX.seq WK.toWk ?_;refine GX.region WK.toWk ?_;rw[R9];refine GX.lO WK.toWk ag8 (xbi (v:=.int .i64 c.q) (u:=.int .i64 c.q) (by simp[Act.eval,Act.put,Xx,hT.t44]) (by simp[Act.eval,Act.put,Xx,hT.t43])) (v:=.bool false) (by decide) (λw _=>?_) (λw _=>(ls3 X.P _ _ _ _ w).2) ?_
 ·have:=(ls3 X.P (c.q:Int) (c.q:Int) (.tmp 44) (.tmp 43) w).1
  rwa [show decide ((c.q:Int)<(c.q:Int))=false from by simp]at this
 refine GX.fin WK.toWk ?_;refine GX.seq WK.toWk ?_;refine GX.jH WK.toWk (by simp[Act.eval,Act.put,Xx,hT.sz]) ?_;refine GX.exit WK.toWk (k':=[.code RD]) E ?_;rw[at1];refine GX.seq WK.toWk ?_;refine GX.region WK.toWk ?_;rw[aa7];have hw:=EC (L:=wX) (F:=FD c W) (b₀:=base 8) (a₀:=⟨T.setIfInBounds 45 (.bool false),[]⟩) (ops₀:=qp) (i₀:=0) (rest₀:=[]) (k₀:=[.code TD]) (cs:=cs) (Mt X) WK;refine GX.Tx WK.toWk (fn:=waitFn wX) (vs:=#[.pointer (some ⟨c.Wg,0,none⟩)]) (n:=83) aw6 E (by decide) (Mt X).f_wait (nm_wait wX) (co:=body_wait wX) E (by simp[Act.eval,Act.put,Xx,hT.t11]) E ?_;rw[ac7];exact GX.mono hw (AtKd.mono λg w h=>⟨_,⟨by simp[hT.sz],by simp[Xx,hT.t6],by simp[Xx,hT.t10]⟩,h⟩)
theorem A6{P:Z4}{main:Bool}{b:Frame}{a:Act}{k:List Item}{cs:List Frame}{ops:Array Z8}{i:Nat}{rest:List Nat}{t:Z5}{d:Tmp}{w:W'}{x:Array Z3}{e:Z5}(hO:eO ops i (.alloc t) (some d))(hk:b.kind≠.early)(h:(do Pure.pure (.value (<-Instr.alloc t true (.tuple #[]))):Sem Next).run P w=.ok (.value (.pointer (some ⟨w.heap.size,0,none⟩))) (w.alloc (.cells x e))/\(do Pure.pure (.value (<-Instr.alloc t true (.tuple #[]))):Sem Next).events P w #[]=#[]) :
  stepG P main (G (b.at a (.inRegion ops (i::rest)::k)) cs) w=.go (G (b.at (a.put (some d) (.pointer (some ⟨w.heap.size,0,none⟩))) (.inRegion ops rest::k)) cs) (w.alloc (.cells x e)) #[]:=by
 have⟨o,h1,h2,h3,h4⟩:=hO.get;have e0:=xal (a:=a) o h2;rw[stepG_value h1 (fF h4 _) hk (by rw[e0];exact h.1),h3];unfold listed;rw[e0,h.2,Conc.seen_none]
theorem go_step{P:Z4}{main:Bool}{b:Frame}{a:Act}{k:List Item}{cs:List Frame}{ops:Array Z8}{i:Nat}{rest:List Nat}{w:W'}{x:Z6}{f:ϋ}{vs:Array Z3}(hO:eO ops i (.go { callee:=.value x,args:=#[],argTypes:=#[] }) none)(hk:b.kind≠.early)(hx:a.eval x=.func (.func f) #[] vs) :
  stepG P main (G (b.at a (.inRegion ops (i::rest)::k)) cs) w=.spawn (G (b.at a (.inRegion ops rest::k)) cs) (born P { target:=.fn (.func f) vs,args:=#[] }) w #[]:=by
 have⟨o,h1,h2,h3,h4⟩:=hO.get;have e0:execOp a.eval o=Pure.pure (.spawn { target:=.fn (.func f) vs,args:=#[] }):=by unfold execOp;rw[h2];simp[resolve,hx,Deferred.ofValue]
 rw[stepG_spawn (d:={ target:=.fn (.func f) vs,args:=#[] }) (w':=w) (f:=.func f) (c:=vs) h1 (fF h4 _) hk (by rw[e0];rfl) E,h3];unfold listed;rw[e0];show GStep.spawn _ _ _ (seen P b.fn #[])=_
 rw[Conc.seen_none];rfl
def rS(c:Kx)(W:W')(bx bs:Nat)(cs:List Frame):Nat->Z7->W'->Prop
 | 0=>AtKd c (mw c W bx bs cs)
 | r+1=>OV c (jM c (AtKd c (mw c W bx bs cs)) r) (c.n - (r+1))
theorem E5(r:Nat)(g:Z7)(w:W'):jM c (AtKd c (mw c W bx bs cs)) r g w↔∃m,GS c fQ (rS c W bx bs cs r) m g w:=by cases r<;>exact Iff.rfl
noncomputable def kR:List Item:=[.inBlock 1,.code (.region 14 Ce false),.inLoop LD,.inBlock 0,.code RD]
structure TG(c:Kx)(bx bs cap:Nat)(A:Option Addr)(T:Array Z3)(i b1 b2:Nat):Prop extends mg c bx bs cap A T i where
 t12:T[12]?=some (.pointer (some ⟨b1,0,none⟩))
 t13:T[13]?=some (.pointer (some ⟨b2,0,none⟩))
theorem TP{i:Nat}(h:i<2147483648):IntKind.i64.wrap ((i:Int)+1)=((i+1:Nat):Int):=by rw[IntKind.wrap_i64];omega
theorem E6(X:Ba c W bx bs xv qS A){r i:Nat}(hi:i+(r+1)=c.q)(ih:∀T,mg c bx bs cap A T (i+1)->GX c.P true (R0 c fQ) (DS c fQ) (FD c W) (rS c W bx bs cs r) (G (Q8 T) cs)){T:Array Z3}(hT:mg c bx bs cap A T i) :
  GX c.P true (R0 c fQ) (DS c fQ) (FD c W) (rS c W bx bs cs r) (G ((base 8).at ⟨T,[]⟩ (.inRegion vp []::kR)) cs):=by
 have WK:=(Dj (c:=c) (W:=W) (by have:=X.L0;omega)).toWk;have hn:=X.hn;refine GX.fin WK ?_;refine GX.inBlock WK ?_;refine GX.region WK ?_;rw[aa8];refine GX.lO WK af8 (xbi (v:=.int .i64 i) (u:=.int .i64 1) (by simp[Act.eval,Act.put,Xx,hT.t44]) E) (v:=.int .i64 ((i+1:Nat):Int)) (by decide) (λw _=>?_) (λw _=>(ad3 X.P _ _ _ _ w).2) ?_
 ·have:=(ad3 X.P (i:Int) 1 (.tmp 44) (.const (.int .i64 1)) w).1
  rwa [TP (by omega)]at this
 refine GX.move WK af7 (v:=.int .i64 ((i+1:Nat):Int)) (by simp[Act.eval,Act.put,Xx,hT.sz]) (by decide) ?_;refine GX.fin WK ?_;refine GX.inLoop WK ?_;refine ih _ ⟨?_,?_,?_,?_,?_,?_,?_⟩<;>first|(simp[Act.put,Xx,hT.t6,hT.t10,hT.t11,hT.t42,hT.t43];done)|simp[Act.put,Xx,hT.sz]
theorem uf{b1 b2:Nat}{o1 o2:Obj}:∀x∈[(b2,o2),(b1,o1)],two b1 b2 x.1:=λx hx=>by
 simp only[Xy,XG,Yn]at hx;rcases hx with rfl|rfl
 ·exact .inr E
 ·exact .inl E
theorem La(X:Ba c W bx bs xv qS A){r i b1 b2:Nat}(hi:i+(r+1)=c.q)(ih:∀T,mg c bx bs cap A T (i+1)->GX c.P true (R0 c fQ) (DS c fQ) (FD c W) (rS c W bx bs cs r) (G (Q8 T) cs)){T:Array Z3}(hT:TG c bx bs cap A T i b1 b2) :
  GX c.P true (R0 c (two b1 b2)) (DS c (two b1 b2)) (FB c W [(b2,.cells #[qS i] 64),(b1,.cells #[.int .i64 i] 3)]) (AtGo c (jM c (AtKd c (mw c W bx bs cs)) r) (c.p+i) b1 b2) (G ((base 8).at ⟨T,[]⟩ (.inRegion Cf [] :: .code (.region 13 vp false)::kR)) cs):=by
 have hL:=X.L0;have WL:=Dk (c:=c) (W:=W) (bs:=two b1 b2) (l:=[(b2,.cells #[qS i] 64),(b1,.cells #[.int .i64 i] 3)]) (by omega) uf;refine GX.fin WL.toWk ?_;refine GX.region WL.toWk ?_;rw[aa9];refine GX.lO WL.toWk ag0 (xmf (vs:=#[.pointer (some ⟨c.Wg,0,none⟩),.pointer (some ⟨bx,0,none⟩),.pointer (some ⟨b2,0,none⟩),.pointer (some ⟨bs,0,none⟩),.pointer (some ⟨b1,0,none⟩)]) (by simp[Act.eval,hT.t6,hT.t10,hT.t11,hT.t12,hT.t13])) (by decide) (λw _=>rfl) (λw _=>rfl) ?_;refine GX.stop WL.toWk λw hF=>?_;obtain⟨m2,l2⟩:=hF.mine _ (XX ..);obtain⟨m1,l1⟩:=hF.mine (b1,.cells #[.int .i64 i] 3) (by simp);refine⟨rfl,_,_,go_step af9 (by decide) (f:=33) (vs:=#[.pointer (some ⟨c.Wg,0,none⟩),.pointer (some ⟨bx,0,none⟩),.pointer (some ⟨b2,0,none⟩),.pointer (some ⟨bs,0,none⟩),.pointer (some ⟨b1,0,none⟩)]) (by simp[Act.eval,Act.put,Xx,hT.sz]),λhp=>?_,?_⟩
 ·have K:=X.K i (by omega)
  have hG:=RB (c:=c) (Z:=λb=>c.old b\/two b1 b2 b) (bx:=bx) (bs:=bs) (b1:=b1) (b2:=b2) (i:=c.p+i) (xv:=xv) (fv:=qS i) (W1:=w) X.P X.ty (λb hb=>.inl hb) (by omega) ⟨qq hF.toFD X.os X.sh,by rw[Yy];exact(lu m1).1,qq hF.toFD X.ox X.xb,(lu m2).1,X.gs,λhg=>by have h1:=(X.hG _ hg).1;have h2:c.L0<=b1:=l1;omega,X.gx,λhg=>by have h1:=(X.hG _ hg).1;have h2:c.L0<=b2:=l2;omega⟩ (.inl X.os) (.inr (.inl E)) (.inl X.ox) (.inr (.inr E)) (Ne.symm X.CW) X.Q X.NG
   ⟨λw' h=>K.lone w' λb hb=>(h b hb).trans (hF.old b hb),K.res⟩
  rw[X.P]at hG ⊢;exact hG.at ⟨λ_ _=>rfl,hF.live,hp⟩
 ·rw[E5]
  refine GX.at (E6 X hi ih (T:=T.setIfInBounds 50 _) ?_) hF.toFD;exact⟨by simp[hT.sz],by simp[Xx,hT.t6],by simp[Xx,hT.t10],by simp[Xx,hT.t11],by simp[Xx,hT.t42],by simp[Xx,hT.t43],by simp[Xx,hT.t44]⟩
theorem IS(X:Ba c W bx bs xv qS A){r i b1 b2:Nat}(hi:i+(r+1)=c.q)(eW:b1≠b2)(ih:∀T,mg c bx bs cap A T (i+1)->GX c.P true (R0 c fQ) (DS c fQ) (FD c W) (rS c W bx bs cs r) (G (Q8 T) cs)){T:Array Z3}(hT:TG c bx bs cap A T i b1 b2)(h46:T[46]?=some (.int .i64 i))(h48:T[48]?=some (qS i)) :
  GX c.P true (R0 c (two b1 b2)) (DS c (two b1 b2)) (FB c W [(b2,.cells #[.slice none 0 0] 64),(b1,.cells #[.int .i64 0] 3)]) (AtKdS c (jM c (AtKd c (mw c W bx bs cs)) r) (c.p+i) b1 b2) (G ((base 8).at ⟨T,[]⟩ (.inRegion o7 [5,6] :: .code (.seq (.region 12 Cf false) (.region 13 vp false))::kR)) cs):=by
 have hL:=X.L0;have WL0:=Dk (c:=c) (W:=W) (bs:=two b1 b2) (l:=[(b2,.cells #[.slice none 0 0] 64),(b1,.cells #[.int .i64 0] 3)]) (by omega) uf;have WL1:=Dk (c:=c) (W:=W) (bs:=two b1 b2) (l:=[(b2,.cells #[.slice none 0 0] 64),(b1,.cells #[.int .i64 i] 3)]) (by omega) uf;have WL:=Dk (c:=c) (W:=W) (bs:=two b1 b2) (l:=[(b2,.cells #[qS i] 64),(b1,.cells #[.int .i64 i] 3)]) (by omega) uf;obtain⟨A',l',k',hf⟩:=X.fs i (by omega)
 have lv:∀{w:W'} {b:Nat} {v:Z3},FD c W w->c.L0<=b->FD c W (w.setCell ⟨b,0,none⟩ v):=λ{w b v} h hb=>⟨HI h.live (ee (by show c.Wg≠b;omega)),λq hq=>by
  rw[ee (by show q≠b;have:=hq.1;omega)];exact h.old q hq⟩
 refine GX.Ly (F':=FB c W [(b2,.cells #[.slice none 0 0] 64),(b1,.cells #[.int .i64 i] 3)]) WL0.toWk ag2 (xst (v:=.pointer (some ⟨b1,0,none⟩)) (u:=.int .i64 i) (by simp[Act.eval,hT.t12]) (by simp[Act.eval,h46])) (ad:=⟨b1,0,none⟩) (v:=.int .i64 i) (by decide) (λw hF=>(st3 X.P ?_).1) (λw hF=>(st3 X.P ?_).2) (by rw[X.P];exact Mr) (λw hF=>Dz (.inl E) w) (λw hF=>?_) ?_
 ·exact⟨_,lu (hF.mine (b1,.cells #[.int .i64 0] 3) (by simp)).1⟩
 ·exact⟨_,lu (hF.mine (b1,.cells #[.int .i64 0] 3) (by simp)).1⟩
 ·obtain⟨m2,l2⟩:=hF.mine (b2,.cells #[.slice none 0 0] 64) (by simp)
  obtain⟨m1,l1⟩:=hF.mine (b1,.cells #[.int .i64 0] 3) (by simp);refine⟨lv hF.toFD l1,λx hx=>?_⟩;simp only[Xy,XG,Yn]at hx;rcases hx with rfl|rfl
  ·exact⟨(ee (by show b2≠b1;exact Ne.symm eW)).trans m2,l2⟩
  ·exact⟨Ht m1,l1⟩
 refine GX.Ly (F':=FB c W [(b2,.cells #[qS i] 64),(b1,.cells #[.int .i64 i] 3)]) WL1.toWk ag1 (xst (v:=.pointer (some ⟨b2,0,none⟩)) (u:=.slice A' l' k') (by simp[Act.eval,Act.put,hT.t13]) (by simp[Act.eval,Act.put,h48,hf])) (ad:=⟨b2,0,none⟩) (v:=.slice A' l' k') (by decide) (λw hF=>(ab6 X.P ?_).1) (λw hF=>(ab6 X.P ?_).2) (by rw[X.P];exact Mr) (λw hF=>Dz (.inr E) w) (λw hF=>?_) ?_
 ·exact⟨_,lu (hF.mine (b2,.cells #[.slice none 0 0] 64) (by simp)).1⟩
 ·exact⟨_,lu (hF.mine (b2,.cells #[.slice none 0 0] 64) (by simp)).1⟩
 ·obtain⟨m2,l2⟩:=hF.mine (b2,.cells #[.slice none 0 0] 64) (by simp)
  obtain⟨m1,l1⟩:=hF.mine (b1,.cells #[.int .i64 i] 3) (by simp);refine⟨lv hF.toFD l2,λx hx=>?_⟩;simp only[Xy,XG,Yn]at hx;rcases hx with rfl|rfl
  ·rw[hf];exact⟨Ht m2,l2⟩
  ·exact⟨(ee (by show b1≠b2;exact eW)).trans m1,l1⟩
 refine GX.fin WL.toWk ?_;refine GX.seq WL.toWk ?_;refine GX.region WL.toWk ?_;rw[ab0];refine GX.Tx WL.toWk (fn:=addFn wX) (vs:=#[.pointer (some ⟨c.Wg,0,none⟩),.int .i64 1]) (n:=115) aw7 E (by decide) (Mt X).f_add (nm_add wX) (co:=body_add wX) E (by simp[Act.eval,Act.put,hT.t11]) E ?_;rw[Up];refine as9 (L:=wX) (c:=c) (Mt X) WL ?_;refine La X hi ih (T:=T.setIfInBounds 49 (.tuple #[])) ⟨⟨?_,?_,?_,?_,?_,?_,?_⟩,?_,?_⟩<;>first|(simp[Xx,hT.t6,hT.t10,hT.t11,hT.t12,hT.t13,hT.t42,hT.t43,hT.t44];done)|simp[Xx,hT.sz]
theorem E7(X:Ba c W bx bs xv qS A){r i:Nat}(hi:i+(r+1)=c.q)(ih:∀T,mg c bx bs cap A T (i+1)->GX c.P true (R0 c fQ) (DS c fQ) (FD c W) (rS c W bx bs cs r) (G (Q8 T) cs)){T:Array Z3}(hT:mg c bx bs cap A T i):GX c.P true (R0 c fQ) (DS c fQ) (FD c W) (rS c W bx bs cs (r+1)) (G (Q8 T) cs):=by
 have hL:=X.L0;have CQ:c.n - (r+1)=c.p+i:=by have:=X.hp;omega
 have WK:=(Dj (c:=c) (W:=W) (by omega)).toWk;obtain⟨ad,rfl,had,hng,Pa⟩:=X.el i (by omega);unfold Q8;rw[TH];refine GX.seq WK ?_;refine GX.region WK ?_;rw[R9];refine GX.lO WK ag8 (xbi (v:=.int .i64 i) (u:=.int .i64 c.q) (by simp[Act.eval,Act.put,Xx,hT.t44]) (by simp[Act.eval,Act.put,Xx,hT.t43])) (v:=.bool true) (by decide) (λw _=>?_) (λw _=>(ls3 X.P _ _ _ _ w).2) ?_
 ·have:=(ls3 X.P (i:Int) (c.q:Int) (.tmp 44) (.tmp 43) w).1
  rwa [show decide ((i:Int)<(c.q:Int))=true from by simp;omega]at this
 refine GX.fin WK ?_;refine GX.seq WK ?_;refine GX.iS WK (by simp[Act.eval,Act.put,Xx,hT.sz]) ?_;refine GX.skip WK ?_;refine GX.seq WK ?_;refine GX.block WK ?_;refine GX.seq WK ?_;refine GX.region WK ?_;rw[ab1];refine GX.move WK ag7 (v:=.int .i64 i) (by simp[Act.eval,Act.put,Xx,hT.t44]) (by decide) ?_;refine GX.lO WK ag6 (xix (v:=.slice (some ad) c.q cap) (u:=.int .i64 i) (by simp[Act.eval,Act.put,Xx,hT.t42]) (by simp[Act.eval,Act.put,Xx,hT.t44])) (by decide) (λw _=>(ah9 X.P (by omega) w).1) (λw _=>(ah9 X.P (by omega) w).2) ?_;refine GX.fa WK ag5 (my (v:=.pointer (some (ad.add i))) (by simp[Act.eval,Act.put,Xx,hT.sz])) (v:=qS i) (es:=#[⟨.cell (ad.add i),false,false⟩]) (by decide) (λw hF=>(Bf X.P (qq hF had Pa)).1) (λw hF=>(Bf X.P (qq hF had Pa)).2) (seen_eq (by rw[X.P];exact Mr) (by simp)) (λw hF=>Ru had hng w) ?_;refine GX.stop WK λw hF=>?_;refine⟨rfl,_,_,_,_,A6 ag4 (by decide) (al3 X.P w),by simp,?_⟩;have hF1:=Dl hL hF.b (.cells #[.int .i64 0] 3);generalize w.heap.size=b1 at hF1;refine GX.at (F:=FB c W [(b1,.cells #[.int .i64 0] 3)]) ?_ hF1;have W1:=(Dk (c:=c) (W:=W) (bs:=two b1 b1) (l:=[(b1,.cells #[.int .i64 0] 3)]) (by omega) (λx hx=>by rw[YS]at hx;subst hx;exact .inl E)).toWk;refine GX.stop W1 λw hF=>?_;refine⟨rfl,_,_,_,_,A6 ag3 (by decide) (aG5 X.P w),by simp,?_⟩;have hF2:=Dl hL hF (.cells #[.slice none 0 0] 64);have bH:b1<w.heap.size:=(Xz.1 (hF.mine _ (XX ..)).1).1;generalize w.heap.size=b2 at hF2 bH;refine GX.at (F:=FB c W [(b2,.cells #[.slice none 0 0] 64),(b1,.cells #[.int .i64 0] 3)]) ?_ hF2;rw[CQ];refine IS X hi (by omega) ih ⟨⟨?_,?_,?_,?_,?_,?_,?_⟩,?_,?_⟩ ?_ ?_<;>first|(simp[Act.put,Xx,hT.t6,hT.t10,hT.t11,hT.t42,hT.t43,hT.t44];done)|simp[Act.put,Xx,hT.sz]
theorem va(X:Ba c W bx bs xv qS A):∀(r i:Nat) (T:Array Z3),i+r=c.q->mg c bx bs cap A T i->GX c.P true (R0 c fQ) (DS c fQ) (FD c W) (rS c W bx bs cs r) (G (Q8 T) cs)
 | 0,i,T,h,hT=>by
  obtain rfl:i=c.q:=by omega
  exact E8 X hT
 | r+1,i,T,h,hT=>E7 X h (λT' hT'=>va X r (i+1) T' (by omega) hT') hT
open Am (D iN iV St Cx Holds tj wK T aH Kept UF vX LZ FAt)
theorem yS{P:Z4}{main:Bool}{R:W'->W'->Prop}{D:W'->W'->Array ϊ->Prop}{Stop:Z7->W'->Prop}{I:W'->Prop}(hR:∀w w',R w w'->I w->I w')(hD:∀w w' es,D w w' es->I w->I w') :
  ∀{n:Nat} {g:Z7} {w:W'},I w->Goes P main R D Stop n g w->Goes P main R D (λg' w'=>Stop g' w'/\I w') n g w
 | 0,_,_,hI,hg=>λcL r=>⟨hg cL r,hR _ _ r hI⟩
 | n+1,g,w,hI,hg=>by
  rcases hg with hs|⟨Y,dU⟩
  ·exact .inl λcL r=>⟨hs cL r,hR _ _ r hI⟩
  ·refine .inr ⟨Y,λcL r=>?_⟩
   have:=dU cL r;have hI1:=hR _ _ r hI;revert this
   cases stepG P main g cL<;>first|exact λh=>h|exact λx=>⟨x.1,yS hR hD (hD _ _ _ x.1 hI1) x.2⟩
theorem jk{w w':W'}{ok ok':Nat->Prop}{d:D}{v:Z3}(h:iN w ok d v)(hs:w.heap.size<=w'.heap.size)(hc:∀(a:Addr) v,ok a.block->w.cell? a=some v->w'.cell? a=some v)(bg:∀b,b<w.heap.size->ok b->ok' b):iN w' ok' d v:=by
 induction h with
 | v x h=>exact .v x h
 | emp sz A cap h=>exact .emp sz A cap h
 | sl sz es b off cap vs hb hk hn ez eQ jO kY Y ih=>
  exact .sl sz es b off cap vs (XD hb hs) (bg b hb hk) hn ez eQ jO (λi e j d h1 h2=>hc _ _ hk (kY i e j d h1 h2)) (λi e j d h1 h2=>ih i e j d h1 h2)
 | pt cs o b off vs hb hk jO kY Y ih=>
  exact .pt cs o b off vs (XD hb hs) (bg b hb hk) jO (λj d h1=>hc _ _ hk (kY j d h1)) (λj d h1=>ih j d h1)
 | fn f cap vs hl Y ih=>exact .fn f cap vs hl λj d v h1 h2=>ih j d v h1 h2
 | vB f cap vs hl Y ih=>exact .vB f cap vs hl λj d v h1 h2=>ih j d v h1 h2
 | agg cs vs hl jO Y ih=>exact .agg cs vs hl jO λj d v h1 h2=>ih j d v h1 h2
 | da cs vs hl Y ih=>exact .da cs vs hl λj d v h1 h2=>ih j d v h1 h2
 | e0 A=>exact .e0 A
 | nan k b h=>exact .nan k b h
def Tm(w:W')(ok:Nat->Prop):List (Nat × D)->Array Z3->Prop
 | [],_=>True
 | x::l,T=>(∃v,T[x.1]?=some v/\iN w ok x.2 v)/\Tm w ok l T
theorem Tm.imp{w w':W'}{ok ok':Nat->Prop}{T:Array Z3}(h:∀d v,iN w ok d v->iN w' ok' d v):∀{l:List (Nat × D)},Tm w ok l T->Tm w' ok' l T
 | [],_=>trivial
 | _::_,⟨⟨v,h1,h2⟩,k⟩=>⟨⟨v,h1,h _ _ h2⟩,k.imp h⟩
theorem Tm.cells{w w':W'}{ok ok':Nat->Prop}{T:Array Z3}{l:List (Nat × D)}(h:Tm w ok l T)(hs:w.heap.size<=w'.heap.size)(hc:∀(a:Addr) v,ok a.block->w.cell? a=some v->w'.cell? a=some v)(bg:∀b,b<w.heap.size->ok b->ok' b):Tm w' ok' l T:=
 h.imp λ_ _ r=>jk r hs hc bg
theorem Tm.put{w:W'}{ok:Nat->Prop}{T:Array Z3}{d:Nat}{v:Z3}:∀{l:List (Nat × D)},(l.all λx=>!(Nat.beq x.1 d))=true->Tm w ok l T->Tm w ok l (T.setIfInBounds d v)
 | [],_,_=>trivial
 | x::l,h,⟨⟨u,h1,h2⟩,k⟩=>by
  simp only[Ze,Xs,Yg]at h;exact⟨⟨u,by rw[XE (Ne.symm (Nat.ne_of_beq_eq_false h.1))];exact h1,h2⟩,k.put h.2⟩
def dT:List (Nat × D)->Nat->T
 | [],_=>.dead
 | x::l,k=>bif Nat.beq k x.1 then .d x.2 else dT l k
def MH(n:Nat)(l:List (Nat × D)):St:=⟨n,dT l,λ_=>.no⟩
def wm(w:W')(ok:Nat->Prop):Cx:=⟨w,ok,λ_=>False,λ_=>none,λ_=>none,none⟩
theorem N4{w:W'}{ok:Nat->Prop}{blk:Nat->Option Nat}{val:Nat->Z3}{s:Nat->aH}{T:Array Z3}(k:Nat):∀{l:List (Nat × D)},Tm w ok l T->iV w ok blk val s (dT l k) (T.getD k undef)
 | [],_=>trivial
 | x::l,⟨⟨v,h1,h2⟩,h⟩=>by
  unfold dT
  cases hb:Nat.beq k x.1 with
  | false=>exact N4 k h
  | true=>
   have e:=Xq hb;subst e;have:T.getD x.1 undef=v:=by rw[XN,h1];rfl
   rw[this];exact h2
theorem vM{w:W'}{ok:Nat->Prop}{n:Nat}{l:List (Nat × D)}{T:Array Z3}(h:Tm w ok l T)(hn:T.size=n):Holds (wm w ok) (MH n l) ⟨T,[]⟩ w:=by
 refine⟨λ_=>none,λ_=>undef,⟨rfl,rfl,rfl,Xw _,λ_ _ _=>rfl⟩,Kept.nil E E,hn,λs b h=>by simp at h,λs s' b h=>by simp at h,(λk b h=>by cases h),λs=>rfl,λt=>?_⟩;exact N4 t (h.imp λd v r=>iN.ok r λb hb hk=>⟨.inl hk,λs h=>by cases h⟩)
def ae4(st:St):List (Nat × D)->Prop
 | []=>True
 | x::l=>(Nat.blt x.1 st.n=true/\UF st.s (st.t x.1) x.2)/\ae4 st l
theorem qI{w w':W'}{ok:Nat->Prop}{st:St}{a:Act}(h:Holds (wm w ok) st a w'):∀{l:List (Nat × D)},ae4 st l->Tm w' (λb=>ok b\/w.heap.size<=b) l a.tmps
 | [],_=>trivial
 | x::l,⟨⟨h1,h2⟩,k⟩=>by
  refine⟨?_,qI h k⟩;obtain⟨blk,val,hh⟩:=h;have hx:x.1<a.tmps.size:=by rw[hh.size];exact Nat.le_of_ble_eq_true h1
  have:=iN.as' (ok':=λb=>ok b\/w.heap.size<=b) (hh.tmp x.1) hh.site h2 (λb hb=>hb.1) (λk b hb=>(hh.new k b hb).1.elim .inr λh=>h.elim);rw[XN,X4 hx]at this;exact⟨_,X4 hx,this⟩
def Fj:Next->Prop
 | .value _|.skip|.enter _ _=>True
 | _=>False
def ND(s:Sem Next):Prop:=∀(P:Z4) (w:W') (n:Next) (w':W'),s.run P w=.ok n w'->Fj n
theorem ah1(s:Sem Z3):ND (do Pure.pure (.value (<-s))):=λP w d w' h=>by
 rw[Sem.run_bind]at h
 cases hs:s.run P w<;>rw[hs]at h<;>simp at h
 rw[<-h.1];trivial
theorem aw9(s:Sem Unit):ND (do s;Pure.pure .skip):=λP w d w' h=>by
 rw[Sem.run_bind]at h
 cases hs:s.run P w<;>rw[hs]at h<;>simp at h
 rw[<-h.1];trivial
theorem z8{n:Next}(h:Fj n):ND (Pure.pure n):=λP w d w' e=>by
 rw[Sem.run_pure]at e
 cases e
 exact h
theorem uz{α:Type}{s:Sem α}{f:α->Sem Next}(h:∀x,ND (f x)):ND (s >>= f):=λP w d w' e=>by
 rw[Sem.run_bind]at e
 cases hs:s.run P w with
 | ok x w1=>rw[hs]at e;exact h x P w1 d w' e
 | halt x w1=>rw[hs]at e;simp at e
def ndB(P:Z4)(o:Z8):Bool:=
 match o.op with
 | .defer _|.go _|.send _ _|.recv _ _ _|.select _ _=>false
 | .call c=>(match c.callee with
  | .value (.func f)=>(match P.funcs[f]? with
   | some fn=>fn.body.isSome && !(fn.name == "runtime.NumGoroutine")
   | none=>false)
  | .builtin .len=>true
  | _=>false)
 | _=>true
theorem uy{P:Z4}{o:Z8}{a:Act}{w w':W'}{n:Next}(h:ndB P o=true)(e:(execOp a.eval o).run P w=.ok n w'):Fj n:=by
 unfold execOp at e;unfold ndB at h
 cases ho:o.op<;>simp only[ho]at e h<;>first
  | exact ah1 _ P w n w' e
  | exact aw9 _ P w n w' e
  | (cases h;done)
  | (simp at e;rw[<-e.1];trivial)
  | skip
 ·refine uz (λx=>?_) P w n w' e
  exact z8 (n:=.value _) trivial
 ·rename_i x
  revert e;generalize a.eval x=v;intro e
  split at e<;>first|(simp[go_sem]at e;done)|(simp at e;rw[<-e.1];trivial)|skip
  split at e<;>first|(simp[go_sem]at e;done)|(simp at e;rw[<-e.1];trivial)|skip
  refine uz (λp=>uz λq=>?_) P w n w' e
  split
  ·refine uz λx=>?_
   exact z8 (n:=.value _) trivial
  ·exact z8 (n:=.value _) trivial
 ·rename_i c
  cases hc:c.callee with
  | builtin b=>
   rw[hc]at h
   cases b<;>first|(cases h;done)|skip
   simp only[resolve,hc,pure_bind,invoke,builtin]at e;exact ah1 _ P w n w' e
  | invoke r n=>rw[hc]at h;cases h
  | value x=>
   rw[hc]at h
   cases x with
   | func f=>
    simp only at h
    cases hf:P.funcs[f]? with
    | none=>rw[hf]at h;cases h
    | some fn=>
     rw[hf]at h;simp only[Xs,Yg]at h;simp only[resolve,hc,Act.eval,Deferred.ofValue,Sem.run_bind,Sem.run_pure,Result.andThen_ok,invoke,callFunc]at e;rw[show program.run P w=.ok P w from rfl]at e;simp only[Result.andThen_ok,hf]at e;rw[Xr (by rw[h.2];simp),Xr (by intro hn;rw[Zz]at hn;rw[hn]at h;cases h.1)]at e;simp at e;rw[<-e.1];trivial
   | _=>cases h
theorem gy{P:Z4}{o:Z8}(h:ndB P o=true):∀c,o.op≠.defer c:=λc e=>by
 unfold ndB at h;rw[e]at h
 cases h
theorem De{P:Z4}{ops:Array Z8}{m:Nat}{Z:Exit->Act->W'->Prop}:∀{l:List Z8} {a:Act} {w:W'},l.all (ndB P)=true->a.defers=[]->wpListIn Fence.wide m P ops Z l a w->wpListIn Fence.wide m P ops (λe a' w'=>Z e a' w'/\(e=.normal->a'.defers=[])) l a w
 | [],a,w,_,J,h=>⟨h,λ_=>J⟩
 | o::l,a,w,hl,J,h=>by
  simp only[Ze,Xs]at hl;unfold wpListIn at h ⊢
  split
  ·rename_i hw
   rw[Xu hw]at h;have⟨h1,h2⟩:=h;refine⟨h1,?_⟩;rw[Oper.semAt_eq _ _ _ (gy hl.1)]at h2 ⊢;have hp:∀(v:Z3) w',wpListIn Fence.wide m P ops Z l (a.put o.dst v) w'->wpListIn Fence.wide m P ops (λe a' w'=>Z e a' w'/\(e=.normal->a'.defers=[])) l (a.put o.dst v) w':=λv w' h=>De hl.2 (by cases o.dst<;>exact J) h;have hn:=λn w'=>uy (P:=P) (o:=o) (a:=a) (w:=w) (w':=w') (n:=n) hl.1;generalize (execOp a.eval o).run P w=r at *;unfold Oper.uponIn at h2 ⊢
   split at h2
   ·exact hp _ _ h2
   ·exact hp _ _ h2
   ·exact(hn _ _ E).elim
   ·refine⟨h2.1,h2.2.mono λe w' he=>?_⟩
    cases e with
    | returned v=>exact hp _ _ he
    | panicked c=>exact⟨he,λe=>by cases e⟩
    | outgrown=>obtain⟨a',JZ,he⟩:=he;exact⟨a',JZ,he,λe=>by cases e⟩
   ·exact⟨h2.1,h2.2.mono λv w' he=>hp _ _ he⟩
   ·refine⟨h2.1,h2.2.mono λe w' he=>?_⟩
    cases e with
    | returned v=>exact hp _ _ he
    | panicked c=>exact⟨he,λe=>by cases e⟩
    | outgrown=>obtain⟨a',JZ,he⟩:=he;exact⟨a',JZ,he,λe=>by cases e⟩
   ·exact⟨h2,λe=>by cases e⟩
   ·exact h2.elim
  ·rename_i hw
   rw[Xr hw]at h;exact⟨h.1,De hl.2 (by cases o.dst<;>exact J) h.2⟩
def SW(Q:Z4)(b:Frame)(cs:List Frame)(w0:Cx)(Post:Frame->W'->Prop)(items:List Item)(st:St):Prop:=
 ∀a w,a.defers=[]->Holds w0 st a w->∃fr w',Steps Q (lone (b.at a items) cs w) (lone fr cs w')/\Post fr w'
variable{Q:Z4}{b:Frame}{w0:Cx}{Post:Frame->W'->Prop}{k:List Item}{st:St}{x y:Code}
theorem qd(h:SW Q b cs w0 Post (.code x :: .code y::k) st):SW Q b cs w0 Post (.code (.seq x y)::k) st:=λa w J hH=>
 let ⟨fr,w',hs,hp⟩:=h a w J hH;⟨fr,w',IQ.trans hs,hp⟩
theorem wj(h:SW Q b cs w0 Post k st):SW Q b cs w0 Post (.code .skip::k) st:=λa w J hH=>
 let ⟨fr,w',hs,hp⟩:=h a w J hH;⟨fr,w',(Steps.one (step_lone_go (by simp[stepG,stepG.exec,Frame.at,GStep.bare]))).trans hs,hp⟩
theorem Eh{ops:Array Z8}(h:SW Q b cs w0 Post k st):SW Q b cs w0 Post (.inRegion ops []::k) st:=λa w J hH=>
 let ⟨fr,w',hs,hp⟩:=h a w J hH;⟨fr,w',(Steps.one (step_lone_go (by simp[stepG,stepG.exec,Frame.at,GStep.bare]))).trans hs,hp⟩
theorem aQ1(h:∀a w,a.defers=[]->Holds w0 st a w->Post (b.at a k) w):SW Q b cs w0 Post k st:=λa w J hH=>⟨_,_,.refl _ _,h a w J hH⟩
theorem aV3(h:∀a w,a.defers=[]->Holds w0 st a w->Post { b.at a (.code .ret::k) with mode:=.returning } w):SW Q b cs w0 Post (.code .ret::k) st:=λa w J hH=>
 ⟨_,_,.one (step_lone_go (by simp[stepG,stepG.exec,Frame.at,GStep.bare])),h a w J hH⟩
theorem wb{c:Z6}{v:Bool}(hc:st.ev c=Am.T.bool v)(ht:v=true->SW Q b cs w0 Post (.code x::k) st)(hf:v=false->SW Q b cs w0 Post (.code y::k) st):SW Q b cs w0 Post (.code (.cond c x y)::k) st:=λa w J hH=>by
 have hv:a.eval c=.bool v:=by obtain⟨blk,val,hh⟩:=hH;exact hh.bool hc
 have h':(b.at a (.code (.cond c x y)::k)).eval c=.bool v:=by rw[Frame.eval_at];exact hv
 have hs:Steps Q (lone (b.at a (.code (.cond c x y)::k)) cs w) (lone (b.at a (.code (if v then x else y)::k)) cs w):=.one (step_lone_go (by
  simp only[Frame.at]at h'
  simp[stepG,stepG.exec,Frame.at,GStep.bare,h']))
 cases v with
 | true=>have⟨fr,w',h1,h2⟩:=ht E a w J hH;exact⟨fr,w',hs.trans h1,h2⟩
 | false=>have⟨fr,w',h1,h2⟩:=hf E a w J hH;exact⟨fr,w',hs.trans h1,h2⟩
theorem aJ0{l:List Z8}{id:Nat}(n:Nat)(Js:w0.uk=none)(hb:b.roundOf=none)(h:(vX l n st.n&&decide (n<=l.length))=true)(o9:l.all (ndB Q)=true)
  (hW:wK Q w0 st l n (l.take n) 0 (λ_=>.dead) st (λst'=>tj Q w0 l (l.drop n) (λe st'=>e=.normal/\SW Q b cs w0 Post k st') st')):SW Q b cs w0 Post (.code (.region id l.toArray false)::k) st:=by
 intro a w J hH;simp only[Xs,XW]at h;obtain⟨h,hn⟩:=h;have J4:(l.take n).length=n:=by simp;omega
 have HP:∀k,k<(l.take n).length->(l.take n)[k]?=l[0+k]?:=λk hk=>by rw[J4]at hk;simp[hk]
 obtain⟨xs,_,hO,hK⟩:=Am.qe h (l.take n) 0 _ _ (by omega) HP hW;have hF:FAt w0 Fence.wide:=⟨.inl E,Js.symm⟩
 have hT:∀a w,Holds w0 (Am.dX st l n xs (Am.gd n)) a w->wpListIn Fence.wide 1 Q l.toArray (Am.Post w0 (λe st'=>e=.normal/\SW Q b cs w0 Post k st')) (l.drop n) a w:=λa w hH=>
  hK Fence.wide 1 hF a w (hH.EB (Am.vo h (l.take n) 0 st (by omega) HP (by rw[Am.fg (λp _=>by simp[Am.gd])];exact⟨rfl,rfl,λ_=>.inl E⟩)))
 have hl:=Am.G6 (m:=1) hF h hn (λk o hk ho=>hO k o (XC _) hk ho) hT n 0 E (XC _) a w (by rw[Am.fg (λp _=>by simp[Am.gd])];exact hH);have hl:=De (l:=l) o9 J (by simpa using hl);rw[<-wpOpsIn_eq_wpListIn (ops:=l.toArray) l 0 (by simp),<-List.range_eq_range',show l.length=l.toArray.size by simp]at hl;have⟨e,a',w',⟨⟨st',⟨he,hs⟩,oO⟩,Bl⟩,h1,_⟩:=Bv hl hb k cs;have⟨fr,JZ,h2,hp⟩:=hs a' w' (Bl he) oO;exact⟨fr,JZ,qg.trans ((h1 he).trans h2),hp⟩
theorem wv{l:List Z8}{id:Nat}(n:Nat)(hW:wK Q w0 st l n (l.take n) 0 (λ_=>.dead) st (λst'=>tj Q w0 l (l.drop n) (λe st'=>e=.normal/\SW Q b cs w0 Post k st') st'))(Js:w0.uk=none:=by rfl)(hb:b.roundOf=none:=by rfl)(h:(vX l n st.n&&decide (n<=l.length))=true:=by kernel_rfl)(o9:l.all (ndB Q)=true:=by kernel_rfl):SW Q b cs w0 Post (.code (.region id l.toArray false)::k) st:=aJ0 n Js hb h o9 hW
theorem ba3{st':St}{ops:Array Z8}{i:Nat}{rest:List Nat}{o:Z8}(Js:w0.uk=none)(hk:b.kind=.normal)(hb:b.roundOf=none)(ho:ops[i]?=some o)(hg:o.guard=none)(o9:ndB Q o=true)(dU:LZ Q w0 st o st')
  (h:SW Q b cs w0 Post (.inRegion ops rest::k) st'):SW Q b cs w0 Post (.inRegion ops (i::rest)::k) st:=by
 intro a w J hH;have hn:=λn w'=>uy (P:=Q) (o:=o) (a:=a) (w:=w) (w':=w') (n:=n) o9;have hw:Region.wanted o (yielded ops a.tmps)=true:=by simp[Region.wanted,hg]
 have h1:=dU a w hH Fence.wide 1 ⟨.inl E,Js.symm⟩
 have aj5:o.wpIn Fence.wide 1 Q a w (λa' w'=>Holds w0 st' a' w'/\a'.defers=[]) (λ_ _ _=>False):=by
  have⟨h0,h2⟩:=h1;refine⟨h0,?_⟩;rw[Oper.semAt_eq _ _ _ (gy o9)]at h2 ⊢;have hp:∀v,(a.put o.dst v).defers=[]:=λv=>by cases o.dst<;>exact J
  generalize (execOp a.eval o).run Q w=r at *;unfold Oper.uponIn at h2 ⊢
  split at h2
  ·exact⟨h2,hp _⟩
  ·exact⟨h2,hp _⟩
  ·exact(hn _ _ E).elim
  ·refine⟨h2.1,h2.2.mono λe w' he=>?_⟩
   cases e with
   | returned v=>exact⟨he,hp _⟩
   | panicked c=>exact he
   | outgrown=>exact he
  ·exact(hn _ _ E).elim
  ·exact(hn _ _ E).elim
  ·exact h2
  ·exact h2.elim
 obtain⟨a',w',⟨oO,Bl⟩,hs⟩:=vr (cs:=cs) (k:=k) ho hw hk hb (λd w' e=>hn _ _ e) (λr x w' e=>hn _ _ e) (λl f t x y w' e=>hn _ _ e) (gy o9) aj5;have⟨fr,JZ,h2,hp⟩:=h a' w' Bl oO;exact⟨fr,JZ,hs.trans h2,hp⟩
theorem sW{ops:Array Z8}{i d:Nat}{rest:List Nat}{op:Op}{ty:Z5}{pos:String}{after:Array Edge}{x:T}(ho:ops[i]?=some ⟨some d,op,ty,pos,after,none⟩)(hq:Am.QOp Q w0 st.n st.s st.ev ⟨some d,op,ty,pos,after,none⟩ x)(h:SW Q b cs w0 Post (.inRegion ops rest::k) (st.put (some d) x))
  (J:Nat.blt d st.n=true:=by rfl) (o9:ndB Q ⟨some d,op,ty,pos,after,none⟩=true:=by kernel_rfl) (Js:w0.uk=none:=by rfl) (hk:b.kind=.normal:=by rfl) (hb:b.roundOf=none:=by rfl):SW Q b cs w0 Post (.inRegion ops (i::rest)::k) st:=
 ba3 Js hk hb ho E o9 (Am.cp E λops rest R h=>Am.aN J hq h) h
variable{P:Z4}{Shun:Loc->Prop}{B:Nat}{gs:Array Z7}{a g g':Z7}{w w':W'}{sl:Option (Nat × Nat)}{t:Z'}{q:Nat->Nat}
theorem Cz(h0:gs[0]?=some a)(bR:a.status=.running)(hL:Leavers P t gs q)(hP:Past Shun B t) :
  (∃d sl',stepT P (crowd gs w sl)=runT P (crowd gs (w.at d) sl') 0)\/
  ∃d sl' W5 q' ops,stepT P (crowd gs w sl)=(.next (crowd W5 (w.at d) sl'),ops)/\W5.size=gs.size/\W5[0]?=some a/\Leavers P (t++ops) W5 q'/\Past Shun B (t++ops)/\(∀op∈ops,op.g<gs.size/\op.act.touch?=none)/\sumTo gs.size q'<sumTo gs.size q:=by
 have haw:∀g∈gs,awake g:=λg hg=>by
  obtain⟨i,hi,rfl⟩:=Array.mem_iff_getElem.1 hg;rcases Zc i with rfl|vL
  ·have:gs[0]=a:=by simpa [X4 hi] using h0
   rw[this];exact awake_of (.inl bR)
  ·exact awake_of ((hL.old i _ vL (X4 hi)).status.elim .inl λx=>.inr (.inr x))
 obtain⟨i,g,d,sl',hi,hg,dU⟩:=crowd_pick (P:=P) (w:=w) (sl:=sl) haw ⟨0,a,h0,bR⟩;rcases Zc i with rfl|vL
 ·exact .inl ⟨d,sl',dU⟩
 have hq:=hL.old i g vL hi;have bH:i<gs.size:=(Xz.1 hi).1
 cases hqi:q i with
 | zero=>rw[hqi]at hq;rw[hq.1]at hg;cases hg
 | succ k=>
  rw[hqi]at hq;rcases hq with ⟨hf,_⟩|⟨_,g2,es,HR,At,QU⟩
  ·rw[hf]at hg;cases hg
  have CG:=runT_crowd_go (P:=P) (sl:=sl') (i:=i) hi (by rw[show (i==0)=false by simp;omega];exact At (w.at d))
  have aH6:sumTo gs.size (upd q i k)+(k+1)=sumTo gs.size q+k:=by
   have:=sumTo_upd q k id bH;simpa [hqi] using this
  refine .inr ⟨d,sl',_,upd q i k,_,dU.trans CG,by simp,?_,⟨λj x hj hx=>?_,λj hj=>?_⟩,hP.mute (by omega) HR,λop cF=>?_,by omega⟩
  ·rw[XE (by omega),Yl,h0]
   simp[woken_run bR]
  ·by_cases e:i=j
   ·subst e
    rw[X9 (by simpa using bH)]at hx;obtain rfl:=YT hx;rw[upd_same,Deaf_own];exact QU
   ·rw[XE e,Yl]at hx
    obtain⟨y,hy,rfl⟩:=Ye.1 hx;have hqj:=hL.old j y hj hy;rw[woken_quitsD hqj,upd_ne q k (Ne.symm e),Deaf_other _ e _ ConcR.g_of_ofEvents];exact hqj
  ·rw[Deaf_other _ (g':=i) (by simp at hj;omega) _ ConcR.g_of_ofEvents]
   exact hL.above j (by simpa using hj)
  ·rw[ofEvents_eq]at cF
   obtain⟨e,he,rfl⟩:=Array.mem_map.1 cF;exact⟨bH,touch_mute (HR e he)⟩
theorem Fp(h0:gs[0]?=some a)(hL:Leavers P t gs q)(hs:stepG P true a w=.go g' w' #[]) :
  ∃W5,runT P (crowd gs w sl) 0=(.next (crowd W5 w' sl),#[])/\W5.size=gs.size/\W5[0]?=some g'/\Leavers P t W5 q:=by
 have CG:=runT_crowd_go (P:=P) (sl:=sl) (i:=0) h0 (show stepG P (0==0) a w=_ from hs);have bH:0<gs.size:=(Xz.1 h0).1;rw[show MemOp.ofEvents 0 a.frame.fn a.frame.place #[]=#[] by rw[ofEvents_eq];simp]at CG;refine⟨_,CG,by simp,by simp[bH],λj x hj hx=>?_,λj hj=>hL.above j (by simpa using hj)⟩;rw[XE (by omega),Yl]at hx;obtain⟨y,hy,rfl⟩:=Ye.1 hx;have hq:=hL.old j y hj hy;rw[woken_quitsD hq];exact hq
theorem zi{s L:Nat}{g2:Nat->Z7}{w2:Nat->W'}:∀(M:Nat) {gs:Array Z7} {w:W'} {sl:Option (Nat × Nat)} {t:Z'} {q:Nat->Nat},sumTo gs.size q<=M->gs[0]?=some a->a.status=.running->Leavers P t gs q->Past Shun B t->gs.size=s->Gd s Shun t L->(∀d,stepG P true a (w.at d)=.go (g2 d) (w2 d) #[])->
  ∃d N W5 sl' t' q',runNT P N (crowd gs w sl) t=(.next (crowd W5 (w2 d) sl'),t')/\W5.size=gs.size/\W5[0]?=some (g2 d)/\Leavers P t' W5 q'/\Past Shun B t'/\Gd s Shun t' L:=by
 intro M
 induction M with
 | zero=>
  intro gs w sl t q hM h0 bR hL hP eQ Og hs;rcases Cz (w:=w) (sl:=sl) h0 bR hL hP with ⟨d,sl',dU⟩|⟨_,_,_,_,_,_,_,_,_,_,_,bH⟩
  ·have⟨W5,k1,k2,k3,k4⟩:=Fp (sl:=sl') h0 hL (hs d)
   exact⟨d,1,W5,sl',t,q,by simp only[runNT,dU,k1];simp,k2,k3,k4,hP,Og⟩
  ·omega
 | succ M ih=>
  intro gs w sl t q hM h0 bR hL hP eQ Og hs;rcases Cz (w:=w) (sl:=sl) h0 bR hL hP with ⟨d,sl',dU⟩|⟨d,sl',W5,q',ops,dU,k1,k2,k3,k4,k5,k6⟩
  ·have⟨W5,k1,k2,k3,k4⟩:=Fp (sl:=sl') h0 hL (hs d)
   exact⟨d,1,W5,sl',t,q,by simp only[runNT,dU,k1];simp,k2,k3,k4,hP,Og⟩
  ·obtain⟨d2,N,gs2,sl2,t2,q2,r1,r2,r⟩:=ih (w:=w.at d) (sl:=sl') (by rw[k1];omega) k2 bR k3 k4 (k1.trans eQ) (Og.app (Xw _) λop cF=>⟨by rw[<-eQ];exact(k5 op cF).1,.inl (k5 op cF).2⟩) λd2=>hs d2
   exact⟨d2,N+1,gs2,sl2,t2,q2,by simp only[runNT,dU];exact r1,r2.trans k1,r⟩
theorem aP7{s L:Nat}{D:W'->W'->Array ϊ->Prop}{Stop:Z7->W'->Prop}(hD:∀w w' es,D w w' es->es=#[]):∀(M n:Nat) {gs:Array Z7} {a:Z7} {w:W'} {sl:Option (Nat × Nat)} {t:Z'} {q:Nat->Nat},n+sumTo gs.size q<=M->gs[0]?=some a->Leavers P t gs q->Past Shun B t->gs.size=s->Gd s Shun t L->Goes P true AtRel D Stop n a w->
  ∃N W5 a' w' sl' t' q',runNT P N (crowd gs w sl) t=(.next (crowd W5 w' sl'),t')/\W5.size=gs.size/\W5[0]?=some a'/\Stop a' w'/\Leavers P t' W5 q'/\Past Shun B t'/\Gd s Shun t' L:=by
 intro M
 induction M with
 | zero=>
  intro n gs a w sl t q hM h0 hL hP eQ Og hG;obtain rfl:n=0:=by omega
  exact⟨0,gs,a,w,sl,t,q,rfl,rfl,h0,hG w (atRel_refl w),hL,hP,Og⟩
 | succ M ih=>
  intro n gs a w sl t q hM h0 hL hP eQ Og hG
  cases n with
  | zero=>exact⟨0,gs,a,w,sl,t,q,rfl,rfl,h0,hG w (atRel_refl w),hL,hP,Og⟩
  | succ n=>
   rcases hG with cC|⟨bR,cN⟩
   ·exact⟨0,gs,a,w,sl,t,q,rfl,rfl,h0,cC w (atRel_refl w),hL,hP,Og⟩
   rcases Cz (w:=w) (sl:=sl) h0 bR hL hP with ⟨d,sl',dU⟩|⟨d,sl',W5,q',ops,dU,k1,k2,k3,k4,k5,k6⟩
   ·have hs:=cN (w.at d) ⟨d,rfl⟩
    cases hgo:stepG P true a (w.at d) with
    | go a' w' es=>
     rw[hgo,goes_go]at hs;have⟨J,hG'⟩:=hs;obtain rfl:=hD _ _ _ J;have⟨W5,k1,k2,k3,k4⟩:=Fp (sl:=sl') h0 hL hgo;obtain⟨N,gs2,a2,w2,sl2,t2,q2,r1,r2,r⟩:=ih n (sl:=sl') (by rw[k2];omega) k3 k4 hP (k2.trans eQ) Og hG';exact⟨N+1,gs2,a2,w2,sl2,t2,q2,by simp only[runNT,dU,k1];simpa using r1,r2.trans k2,r⟩
    | _=>rw[hgo]at hs;exact hs.elim
   ·obtain⟨N,gs2,a2,w2,sl2,t2,q2,r1,r2,r⟩:=ih (n+1) (w:=w.at d) (sl:=sl') (by rw[k1];omega) k2 k3 k4 (k1.trans eQ) (Og.app (Xw _) λop cF=>⟨by rw[<-eQ];exact(k5 op cF).1,.inl (k5 op cF).2⟩) (Goes.rely atRel_trans (.inr ⟨bR,cN⟩) ⟨d,rfl⟩)
    exact⟨N+1,gs2,a2,w2,sl2,t2,q2,by simp only[runNT,dU];exact r1,r2.trans k1,r⟩
theorem gC{P:Z4}{a b:Nat}{m m1:Z9}{t t1:Z'}{r:Stepped × Z'}(h:runNT P a m t=(.next m1,t1))(h':runNT P b m1 t1=r):runNT P (a+b) m t=r:=by rw[runNT_add,h];exact h'
def JW(P:Z4)(m0:Z9)(p:Nat)(Shun:Loc->Prop)(fr:Frame)(cs:List Frame)(w:W'):Prop:=∃n gs sl t q B,runNT P n m0 #[]=(.next (crowd gs w sl),t)/\gs.size=p+1/\gs[0]?=some (G fr cs)/\Leavers P t gs q/\Past Shun (max B w.heap.size) t/\Gd (p+1) Shun t w.heap.size
structure Sg(M:Nat)(w wE w':W'):Prop where
 cell:∀(a:Addr) v,wE.cell? a=some v->w'.cell? a=some v
 heap:∀(b:Nat) o,M<=b->wE.heap[b]?=some o->o≠cu->w'.heap[b]?=some o
 size:wE.heap.size=w'.heap.size
 tape:w'.tape=w.tape
 os:w'.os=w.os
 output:w'.output=w.output
 low:∀b,b<M->w'.heap[b]?=w.heap[b]?
end
section
open Am (D)
variable{P Q:Z4}{NG M p:Nat}{m0:Z9}{Shun:Loc->Prop}{X:Nat->Prop}{fr fr' r8:Frame}{cs cs':List Frame}{w w' wE W0:W'}{r:Option Code}{Post:Frame->W'->Prop}
theorem aK0{sl:Option (Nat × Nat)}:JW P (crowd #[G fr cs] w sl) 0 (λ_=>False) fr cs w:=
 ⟨0,_,sl,#[],λ_=>0,0,rfl,rfl,rfl,leavers_one P _,past_nil.mono (XC _),aY4⟩
theorem JS.sg{gs:Array Z7}{sl:Option (Nat × Nat)}(O:JS P NG M W0 wE (crowd gs w sl) w'):Sg M w wE w':=
 ⟨λa v h=>by have:=O.wr.cell h;rwa [vf,show rA id a=a from rfl]at this,λb o hb h J=>O.heap (w0:=w) hb h J,O.size,O.tape,O.os,O.output,λb hb=>O.low b (.inl hb)⟩
theorem aP0(h:JW P m0 p Shun fr cs w)(hs:∀d,stepG P true (G fr cs) (w.at d)=.go (G fr' cs') (w.at d) #[]):∃d,JW P m0 p Shun fr' cs' (w.at d):=by
 obtain⟨n,gs,sl,t,q,B,h1,yK,h2,h3,h4,h5⟩:=h;obtain⟨d,N,W5,sl',t',q',k1,k2,k3,k4,k5,k6⟩:=zi (g2:=λ_=>G fr' cs') (w2:=λd=>w.at d) _ (Xw _) h2 E h3 h4 yK h5 hs;exact⟨d,_,W5,sl',t',q',B,gC h1 k1,k2.trans yK,k3,k4,k5,k6⟩
theorem D2{g:Z7}{m:Nat}(h:∃n gs sl t q B,runNT P n m0 #[]=(.next (crowd gs w sl),t)/\gs.size=p+1/\gs[0]?=some g/\Leavers P t gs q/\Past Shun (max B w.heap.size) t/\Gd (p+1) Shun t w.heap.size)(hG:Goes P true AtRel DC0 (λg' _=>g'=G fr' cs') m g w):∃d,JW P m0 p Shun fr' cs' (w.at d):=by
 obtain⟨n,gs,sl,t,q,B,h1,yK,h2,h3,h4,h5⟩:=h;have hk:=yS (I:=λw'=>∃d,w'=w.at d) (λa b Y ⟨d,e⟩=>by obtain⟨d',rfl⟩:=Y;exact⟨d',by rw[e];rfl⟩) (λa b es J hi=>by rw[J.1];exact hi) ⟨w.drawn,rfl⟩ hG;obtain⟨N,W5,a',w',sl',t',q',k1,k2,k3,⟨k4,d,k5⟩,k6,k7,k8⟩:=aP7 (Shun:=Shun) (B:=max B w.heap.size) (D:=DC0) (λw w' es J=>J.2) _ m (Xw _) h2 h3 h4 yK h5 hk;subst k4;subst k5;exact⟨d,_,W5,sl',t',q',B,gC h1 k1,k2.trans yK,k3,k6,k7,k8⟩
theorem Ox{m:Nat}(h:JW P m0 p Shun fr cs w)(hG:Goes P true AtRel DC0 (λg' _=>g'=G fr' cs') m (G fr cs) w):∃d,JW P m0 p Shun fr' cs' (w.at d):=D2 h hG
theorem aP1(H:Fk Q P (KO NG P) id)(hNM:NG≠0->M=0)(h:JW P m0 p Shun fr cs w)(hM:M<=w.heap.size)(hX:∀b,X b->b<w.heap.size)(hS:∀l,Shun l->(∃a,l=.cell a/\X a.block)\/∃b,l=.obj b/\X b)(ep:∀c∈cs,c.mode=.run)(ok:mu NG Q P r8)(jD:r8.roundOf=none)(u':Ex r cs (cy r8 cs) (cy fr cs))
  (hl:∀tp,∃cB wE,Steps Q (lone r8 [di Q] (lw (KO NG P) M X tp w)) (lone cB [di Q] wE)/\Post cB wE) (hP:∀cB wE,Post cB wE->(∀ch,cB.mode≠.panicking ch)/\(r≠none->cB.mode=.run->cB.todo=[.code (.exit 0)])) :
  ∃cB wE w' T,Post cB wE/\JW P m0 p Shun { cB with todo:=T } cs w'/\(r=none->T=cB.todo)/\(∀rc,r=some rc->cB.mode=.run->T=[.code rc])/\Sg M w wE w'/\mu NG Q P cB/\∀b,aP5 M (lw (KO NG P) M X (λ_ _=>0) w) w b->w'.heap[b]?=w.heap[b]?:=by
 obtain⟨n,wZ,sl,t,q,B,h1,yK,h2,h3,h4,h5⟩:=h
 obtain⟨cB,wE,N,gs,w',sl',q',t',T,k1,k2,k3,k4,k5,k6,k7,k8,k9,k10,k11⟩:=G7 (M:=M) (r:=r) (cs':=cs) (Shun:=Shun) (B:=B) (X:=X) (Post:=Post) (EY:=sl) H hNM hM hX hS ep h2 h3 h4 (by rw[yK];exact h5) ok jD u' λtp=>by
  have⟨cB,wE,⟨N,hs⟩,hp⟩:=hl tp;exact⟨N,cB,wE,⟨hs,(hP _ _ hp).1⟩,(hP _ _ hp).2,hp⟩
 exact⟨cB,wE,w',T,k1,⟨_,gs,sl',t',q',B,gC h1 k2,k3.trans yK,k4,k5,k6,by rw[<-yK];exact k11⟩,k7,k8,k9.sg,k10,λb hb=>k9.low b (hb.imp id λh=>⟨by rw[nW,<-nW (tp:=λ_ _=>0)];exact h.1,h.2⟩)⟩
open Am (iN)
def aG8(d:D):Prop:=∃n,d=.v (.int .i64 n)
def Wo(es:List (List D)):Prop:=∀x∈es,∀d∈x,aG8 d
theorem P7{K:Kc}{M:Nat}{f:Re}{W0 w w':W'}(H:WR K M f W0 w w'){ok S:Nat->Prop}{es:List (List D)}{v:Z3}(oL:Wo es)(hS:∀b o,w.heap[b]?=some o->o≠cu->S (f b))(h:iN w ok (.sl 2 es) v):iN w' S (.sl 2 es) (rV f v):=by
 generalize J:D.sl 2 es=d at h
 cases h with
 | emp sz A cap h=>
  cases J
  rw[aW];exact .emp _ _ _ h
 | sl sz es' b off cap vs hb bg hn ez eQ hs hc Y=>
  cases J
  rw[aW]
  cases es with
  | nil=>exact .emp _ _ _ ez
  | cons e l=>
   have he:e.length=2:=eQ 0 e E;obtain⟨d0,Pd⟩:∃d0,e[0]?=some d0:=⟨e[0],by rw[Xp]⟩;have⟨cc,ce,cz,q1,_⟩:=cellsOf? (hc 0 e 0 d0 E Pd);have hl:Obj.cells cc ce cz≠cu:=λe=>by cases e
   obtain⟨o',kP,_⟩:=(H.blk _ _ q1).resolve_left hl
   have iv:∀i x j d,(e::l)[i]?=some x->x[j]?=some d->rV f (vs i j)=vs i j/\iN w' S d (vs i j):=λi x j d h1 h2=>by
    obtain⟨n,rfl⟩:=oL x (XA h1) d (XA h2);have:=Am.iN.c8 (Y i x j _ h1 h2);rw[this];exact⟨by simp,.v _ E⟩
   refine .sl 2 (e::l) (f b) off cap vs (Xz.1 kP).1 (hS b _ q1 hl) hn ez eQ hs (λi x j d h1 h2=>?_) (λi x j d h1 h2=>(iv i x j d h1 h2).2);have:=H.cell (hc i x j d h1 h2);rw[(iv i x j d h1 h2).1]at this;exact this
 | _=>cases J
theorem yi{w:W'}{ok:Nat->Prop}{es:List (List D)}{v:Z3}{sz:Nat}(h:iN w ok (.sl sz es) v):∃A l k,v=.slice A l k:=by
 cases h<;>exact⟨_,_,_,rfl⟩
variable{t:Z'}{c:Kx}{O Lw:Nat->Nat}{B:Nat}
theorem bd4(hP:Past c.S B t)(hG:Gd (c.p+1) c.S t c.Wg):CT c.Sh (nG c O) (Ec c O Lw) t c.p:=by
 refine⟨λi op x hi hx hs=>?_,λk k1 kp l ⟨h,_⟩=>by omega,λk k1 kp l ⟨h,_⟩=>by omega,λl hn _ i a ha e=>(hG.kn i a ha).resolve_right λ⟨h,_⟩=>hn (.inr (e ▸ h)),λl hn _ i a ha e _=>(hG.kn i a ha).resolve_right λ⟨h,_⟩=>hn (.inr (e ▸ h)),hP.clean,λi op hi=>Nat.le_of_lt_succ (hG.gs op (Ym hi))⟩;rcases hs with ⟨a,e,hb⟩|hs
 ·have:=hG.seen op (Ym hi) x hx
  rw[e]at this;have h2:a.block<c.Wg:=this;omega
 ·exact hG.quiet i op x hi hx hs
theorem aR6{p:Nat}{S:Loc->Prop}{L:Nat}(hP:Past S B t)(hG:Gd (p+1) S t L):aP6 p S t:=
 ⟨λi op x hi _ _ hx=>hG.kn i x (by rw[touchAt_of hi];exact hx),λi g hg h0 _ hc=>hP.over i g hg h0 hc⟩
noncomputable def kx(Wg C q p:Nat)(S:Loc->Prop)(G:Nat->Prop)(nJ:Nat->List (List D))(m0:Z9)(t0:Z'):Kx where
 P:=prog
 Q:=qP
 NG:=0
 ty:=wX.tWg
 Wg:=Wg
 C:=C
 n:=p+q
 L0:=Wg+1
 m0:=m0
 t0:=t0
 p:=p
 q:=q
 S:=S
 G:=G
 post:=λi v w=>iN w (λ_=>True) (.sl 2 (nJ (i - p))) v
 res:=λi S v w=>iN w S (.sl 2 (nJ (i - p))) v
end
section
open Am (D iN)
variable{Wg C n p:Nat}{Sh:Loc->Prop}{Gb:Nat->Prop}{nJ:Nat->List (List D)}{m0:Z9}{t0:Z'}
theorem QI(i:Nat)(S S':Nat->Prop)(v:Z3)(w w':W')(h:(kx Wg C n p Sh Gb nJ m0 t0).res i S v w)(hk:∀b,b<w.heap.size->S b->w'.heap[b]?=w.heap[b]?)(hs:w.heap.size<=w'.heap.size)(hS:∀b,b<w.heap.size->S b->S' b):(kx Wg C n p Sh Gb nJ m0 t0).res i S' v w':=
 Am.iN.cr (show iN w S (.sl 2 (nJ (i - p))) v from h) hs (λb o hb ho=>(hk b (Xz.1 ho).1 hb).trans ho) hS
structure uI(Gb:Nat->Prop)(w:W')(C n bx bs cap:Nat)(A:Option Addr)(T:Array Z3)(xv:Z3)(qS:Nat->Z3)(nJ:Nat->List (List D)):Prop where
 sz:T.size=85
 t1:T[1]?=some (.slice A n cap)
 t6:T[6]?=some (.pointer (some ⟨bx,0,none⟩))
 t10:T[10]?=some (.pointer (some ⟨bs,0,none⟩))
 hC:C<w.heap.size
 hG:∀b,Gb b->b<w.heap.size/\b≠C
 hx:(bx<w.heap.size/\bx≠C)/\¬Gb bx
 hs:(bs<w.heap.size/\bs≠C)/\¬Gb bs
 pay:∃cs:Array Z3,w.heap[C]?=some (.cells cs 104)/\cs.size=n
 sh:w.cell? ⟨bs,0,none⟩=some (.slice (some ⟨C,0,none⟩) n n)
 xb:w.cell? ⟨bx,0,none⟩=some xv
 el:∀i,i<n->∃ad,A=some ad/\((ad.add i).block<w.heap.size/\(ad.add i).block≠C)/\¬Gb (ad.add i).block/\w.cell? (ad.add i)=some (qS i)
 fs:∀i,i<n->∃A l k,qS i=.slice A l k
 rows:∀i,Wo (nJ i)
 lone:∀i,i<n->∀(w1:W'),w.heap.size<=w1.heap.size->(∀(a:Addr) v,a.block<w.heap.size->a.block≠C->¬Gb a.block->w.cell? a=some v->w1.cell? a=some v)->
  ∃N cB wE v,Lone qP N (lone (Pf xv (qS i)) [di qP] w1) cB wE/\cB.mode=.returning/\cB.defers=[]/\(∃fn,qP.funcs[cB.fn]?=some fn/\(results fn cB.tmps).run qP wE=.ok v wE)/\iN wE (λ_=>True) (.sl 2 (nJ i)) v
 hn:n<2147483648
theorem Po{c:Kx}{w:W'}{M s d:Nat}{tp:Nat->Question->Nat}{a:Addr}{v:Z3}(ho:c.old a.block)(hg:¬c.G a.block)(hb:a.block<s)(h:w.cell? a=some v):(c.wk w M s d tp).cell? a=some v:=by
 have⟨x,e,z,h1,h2,h3⟩:=cellsOf? h;have hw:=wk_heap (c:=c) (w:=w) (M:=M) (d:=d) (tp:=tp) a.block hb;rw[Xu ⟨ho,hg⟩,h1]at hw;unfold World.cell?;simp only[hw];simp[h2,h3]
theorem Xk{a:Act}{w:W'}{A:Option Addr}{n cap:Nat}{x:Z6}(hx:a.eval x=.slice A n cap)(o:Z8)(h:o.op=.call { callee:=.builtin .len,args:=#[x],argTypes:=#[38] }) :
  (execOp a.eval o).run prog w=.ok (.value (.int .i64 n)) w/\(execOp a.eval o).events prog w #[]=#[]:=by
 have hm:(#[x]:Array Z6).map a.eval=#[.slice A n cap]:=by simp only[YK,Yd,Zq,hx]
 unfold execOp;simp only[h,resolve,hm,pure_bind,invoke,builtin];clear hx hm;constructor
 ·simp[go_sem,Builtin.len_,goInt]
 ·simp[go_sem,Builtin.len_,goInt]
end
section
open Am (D iN)
variable{w:W'}{C n p bx bs cap:Nat}{Sh:Loc->Prop}{Gb:Nat->Prop}{A:Option Addr}{T:Array Z3}{xv:Z3}{qS:Nat->Z3}{nJ:Nat->List (List D)}{cs:List Frame}{t:Z'}{sl:Option (Nat × Nat)}
theorem xY(S:uI Gb w C n bx bs cap A T xv qS nJ)(m0:Z9)(t0:Z')(w1:W')(hk:∀b,b<w.heap.size->w1.heap[b]?=w.heap[b]?):Ba (kx w.heap.size C n p Sh Gb nJ m0 t0) w1 bx bs xv qS A:=by
 have hc:∀{a:Addr} {v:Z3},a.block<w.heap.size->w.cell? a=some v->w1.cell? a=some v:=λ{a v} ha h=>by
  unfold World.cell? at h ⊢;rw[hk _ ha];exact h
 have ol:∀{b:Nat},b<w.heap.size/\b≠C->(kx w.heap.size C n p Sh Gb nJ m0 t0).old b:=λ{b} h=>⟨Nat.lt_succ_of_lt h.1,by show b≠w.heap.size;omega,h.2⟩;have hC:=S.hC;refine⟨rfl,rfl,rfl,rfl,rfl,Nat.lt_succ_of_lt S.hC,by show C≠w.heap.size;omega,ol S.hx.1,ol S.hs.1,hc S.hs.1.1 S.sh,hc S.hx.1.1 S.xb,λi hi=>?_,S.fs,λi hi=>⟨λw2 h2 M s d tp hM hs=>?_,λS' v w' h=>yi h⟩,rfl,S.hx.2,S.hs.2,λb hb=>ol (S.hG b hb),S.hn⟩
 ·have⟨ad,h1,h2,h4,h3⟩:=S.el i hi
  exact⟨ad,h1,ol h2,h4,hc h2.1 h3⟩
 ·have hL:w.heap.size+1<=M:=hM
  obtain⟨N,cB,wE,v,k1,k2,k3,k4,k5⟩:=S.lone i hi ((kx w.heap.size C n p Sh Gb nJ m0 t0).wk w2 M s d tp) (by rw[nI];omega) λa v ha Eu hag hv=>by
   refine Po (ol ⟨ha,Eu⟩) hag (by omega) ?_;have:=hc ha hv;unfold World.cell? at this ⊢;rw[h2 _ (ol ⟨ha,Eu⟩)];exact this
  refine⟨N,cB,wE,v,k1,k2,k3,k4,?_⟩;show iN wE (λ_=>True) (.sl 2 (nJ (p+i - p))) v
  rw[Yy];exact k5
theorem EL(S:uI Gb w C n bx bs cap A T xv qS nJ)(m0:Z9)(t0:Z')(w1:W')(hk:∀b,b<w.heap.size->w1.heap[b]?=w.heap[b]?)(hl:WgLive wX.tWg w.heap.size w1) :
  GX prog true (R0 (kx w.heap.size C n p Sh Gb nJ m0 t0) fQ) (DS (kx w.heap.size C n p Sh Gb nJ m0 t0) fQ) (FD (kx w.heap.size C n p Sh Gb nJ m0 t0) w1) (rS (kx w.heap.size C n p Sh Gb nJ m0 t0) w1 bx bs cs n) (G ((base 8).at ⟨T.setIfInBounds 11 (.pointer (some ⟨w.heap.size,0,none⟩)),[]⟩ [.inRegion oG [],.code Bd]) cs):=by
 have X:=xY (Sh:=Sh) (p:=p) S m0 t0 w1 hk;have WK:=(Dj (c:=kx w.heap.size C n p Sh Gb nJ m0 t0) (W:=w1) (YF _)).toWk;have R:=va (cs:=cs) (cap:=cap) X n 0;generalize hc:kx w.heap.size C n p Sh Gb nJ m0 t0=c at *;have e1:c.P=prog:=by rw[<-hc];rfl
 have e2:c.q=n:=by rw[<-hc];rfl
 have e3:c.Wg=w.heap.size:=by rw[<-hc];rfl
 rw[e1]at R;refine GX.fin WK ?_;rw[Lf];refine GX.seq WK ?_;refine GX.seq WK ?_;refine GX.region WK ?_;rw[au1];refine GX.move WK aw5 (v:=.slice A n cap) (by simp[Act.eval,Xx,S.t1]) (by decide) ?_;have⟨o,h1,h2,h3,h4⟩:=aw4.get;have hx:((⟨T.setIfInBounds 11 (.pointer (some ⟨w.heap.size,0,none⟩)),[]⟩:Act).put (some 42) (.slice A n cap)).eval (.tmp 42)=.slice A n cap:=by simp[Act.eval,Act.put,Xx,S.sz]
 refine GX.value WK h1 (fF h4 _) (by decide) (v:=.int .i64 n) (λw _=>(Xk hx o h2).1) (λw _=>(Xk hx o h2).2) ?_;rw[h3];refine GX.move WK aw3 (v:=.int .i64 0) E (by decide) ?_;refine GX.fin WK ?_;refine GX.block WK ?_;refine GX.loop WK ?_;refine R _ (by omega) ⟨?_,?_,?_,?_,?_,?_,?_⟩<;>first|(simp[Act.put,Xx,S.t6,S.t10,e2,e3];done)|simp[Act.put,Xx,S.sz,e2,e3]
theorem as8(w:W'):(do Pure.pure (.value (<-Instr.alloc 102 true (.tuple #[]))):Sem Next).run prog w=.ok (.value (.pointer (some ⟨w.heap.size,0,none⟩))) (w.alloc (.cells #[.int .u64 0,.int .u32 0] 102))/\(do Pure.pure (.value (<-Instr.alloc 102 true (.tuple #[]))):Sem Next).events prog w #[]=#[]:=by
 constructor
 ·go_simp
 ·simp[go_sem]
theorem IG{s L B:Nat}{gs:Array Z7}{q:Nat->Nat}(T:Array Z3)(cs:List Frame)(w:W')(sl:Option (Nat × Nat))(t:Z')(h0:gs[0]?=some (G ((base 8).at ⟨T,[]⟩ [.code oY]) cs))(hL:Leavers prog t gs q)(hP:Past Sh B t)(eQ:gs.size=s)(hG:Gd s Sh t L) :
  ∃d N W5 sl' t' q',runNT prog N (crowd gs w sl) t=(.next (crowd W5 ((w.at d).alloc (.cells #[.int .u64 0,.int .u32 0] 102)) sl'),t')/\W5.size=s/\W5[0]?=some (G ((base 8).at ⟨T.setIfInBounds 11 (.pointer (some ⟨w.heap.size,0,none⟩)),[]⟩ [.inRegion oG [],.code Bd]) cs)/\Leavers prog t' W5 q'/\Past Sh B t'/\Gd s Sh t' L:=by
 rw[Lg]at h0;obtain⟨d1,N1,gs1,s1,t1,q1,r1,z1,a1,l1,p1,e1⟩:=zi (w:=w) (sl:=sl) (g2:=λ_=>G ((base 8).at ⟨T,[]⟩ [.code (.region 8 oG false),.code Bd]) cs) (w2:=λd=>w.at d) _ (Xw _) h0 E hL hP eQ hG λd=>stepG_seq
 obtain⟨d2,N2,gs2,s2,t2,q2,r2,z2,a2,l2,p2,e2⟩:=zi (w:=w.at d1) (sl:=s1) (g2:=λ_=>G ((base 8).at ⟨T,[]⟩ [.inRegion oG [0],.code Bd]) cs) (w2:=λd=>w.at d) _ (Xw _) a1 E l1 p1 (z1.trans eQ) e1 λd=>by
  have:=stepG_region (P:=prog) (main:=true) (b:=base 8) (a:=⟨T,[]⟩) (k:=[.code Bd]) (cs:=cs) (w:=w.at d) (id:=8) (ops:=oG);rw[au2]at this;exact this
 obtain⟨d3,N3,gs3,s3,t3,q3,r3,z3,a3,l3,p3,e3⟩:=zi (w:=w.at d2) (sl:=s2) (g2:=λ_=>G ((base 8).at ⟨T.setIfInBounds 11 (.pointer (some ⟨w.heap.size,0,none⟩)),[]⟩ [.inRegion oG [],.code Bd]) cs) (w2:=λd=>(w.at d).alloc (.cells #[.int .u64 0,.int .u32 0] 102)) _ (Xw _) a2 E l2 p2 (z2.trans (z1.trans eQ)) e2 λd=>A6 oe8 (by decide) (as8 (w.at d));exact⟨d3,_,gs3,s3,t3,q3,gC r1 (gC r2 r3),z3.trans (z2.trans (z1.trans eQ)),a3,l3,p3,e3⟩
theorem aS9{D:Nat->ConcN.WD}:∀{p:Nat},(∀i,i<p->(D i).stage=1)->Vc p D=0
 | 0,_=>rfl
 | p+1,h=>by
  have h1:=aS9 (D:=D) (p:=p) λi hi=>h i (by omega);have h2:ConcN.cnt (D p)=0:=by simp[ConcN.cnt,h p (by omega)]
  simp only[Vc,sumTo]at h1 ⊢;omega
theorem DC{B:Nat}{gs:Array Z7}{q:Nat->Nat}(S:uI Gb w C n bx bs cap A T xv qS nJ)(hS:∀l,Sh l->∃a,l=.cell a/\Gb a.block)(cs:List Frame)(sl:Option (Nat × Nat))(h0:gs[0]?=some (G ((base 8).at ⟨T,[]⟩ [.code oY]) cs))(hL:Leavers prog t gs q)(hP:Past Sh B t)(Q5:gs.size=p+1)(Og:Gd (p+1) Sh t w.heap.size)(iK:p+n<2147483648) :
  ∃N m0 t',runNT prog N (crowd gs w sl) t=(.next m0,t')/\(m0.world.tape=w.tape/\m0.world.os=w.os/\m0.world.output=w.output/\∀b,b<w.heap.size->m0.world.heap[b]?=w.heap[b]?)/\A9 (kx w.heap.size C n p Sh Gb nJ m0 t') (Ei (kx w.heap.size C n p Sh Gb nJ m0 t') bx bs cs):=by
 obtain⟨d,N,W5,sl',t,q,bR,Q5,h0,hL,hP,Og⟩:=IG T cs w sl t h0 hL hP Q5 Og;refine⟨N,_,t,bR,⟨rfl,rfl,rfl,λb hb=>ir hb⟩,?_⟩;generalize tX:(w.at d).alloc (.cells #[.int .u64 0,.int .u32 0] 102)=w1;have hk:∀b,b<w.heap.size->w1.heap[b]?=w.heap[b]?:=λb hb=>by rw[<-tX];exact ir hb
 have eQ:w1.heap.size=w.heap.size+1:=by
  rw[<-tX];show (w.heap.push _).size=_
  simp
 have iQ:WgAt wX.tWg w.heap.size w1 0 0:=by
  unfold WgAt wgBlock;rw[<-tX];have:=heap_alloc_new (w.at d) (.cells #[.int .u64 0,.int .u32 0] 102);exact this
 generalize iR:G ((base 8).at ⟨T.setIfInBounds 11 (.pointer (some ⟨w.heap.size,0,none⟩)),[]⟩ [.inRegion oG [],.code Bd]) cs=g0 at h0;generalize hm0:crowd W5 w1 sl'=m0;have X:=xY (Sh:=Sh) (p:=p) S m0 t w1 hk;have hG:=(EL (cs:=cs) (Sh:=Sh) (p:=p) S m0 t w1 hk ⟨_,_,iQ⟩).at (w:=w1) ⟨⟨_,_,iQ⟩,λ_ _=>rfl⟩;rw[iR]at hG;have FW:PayAt C n w1:=let ⟨x,h1,h2⟩:=S.pay;⟨x,(hk _ S.hC).trans h1,h2⟩;have hC:=S.hC;have geo:Geo (kx w.heap.size C n p Sh Gb nJ m0 t):=⟨YF _,Nat.lt_succ_of_lt S.hC,by show C≠w.heap.size;omega,iK,rfl,hS,X.hG⟩;generalize hD:(λi=>(⟨1,q (i+1),Deaf t (i+1)⟩:ConcN.WD))=D;have hD1:∀i,(D i).stage=1:=λi=>by rw[<-hD]
 have hV:Vc p D=0:=aS9 λi _=>hD1 i
 obtain⟨tag,f0,ep,eI⟩:∃tag f0,CS (kx w.heap.size C n p Sh Gb nJ m0 t) (Ei (kx w.heap.size C n p Sh Gb nJ m0 t) bx bs cs) (mw (kx w.heap.size C n p Sh Gb nJ m0 t) w1 bx bs cs) tag p f0 0 fQ g0 w1/\ConcN.Mode p D tag 0 0:=by
  have hm:∀tag,isOpen tag->pend tag=0->(∀vs,tag≠.w2 vs)->ConcN.Mode p D tag 0 0:=λtag h1 h2 h3=>by
   have:=ConcN.Mode.opn (j:=p) (D:=D) (tag:=tag) h1 (λi hi=>by rw[hD1 i];simp) (λvs h=>absurd h (h3 vs));have e:(((Vc p D+pend tag:Nat):Int)*KK)=0:=by rw[h2,hV];simp
   rwa [e]at this
  have⟨m,vO⟩:=hG
  cases n with
  | zero=>exact⟨.kd,m,.kd (c:=kx w.heap.size C 0 p Sh Gb nJ m0 t) vO,hm _ trivial E (λ_ h=>by cases h)⟩
  | succ r=>
   refine⟨.sp r 7,m,?_,hm _ trivial E (λ_ h=>by cases h)⟩;have:=CS.RP (c:=kx w.heap.size C (r+1) p Sh Gb nJ m0 t) (bB:=Ei (kx w.heap.size C (r+1) p Sh Gb nJ m0 t) bx bs cs) (AnchW:=mw (kx w.heap.size C (r+1) p Sh Gb nJ m0 t) w1 bx bs cs) (r:=r) (by show r<p+(r+1);omega) vO;rwa [show (kx w.heap.size C (r+1) p Sh Gb nJ m0 t).n - (r+1)=p from Nat.add_sub_cancel ..]at this
 refine crowd_runs (AnchW:=mw (kx w.heap.size C n p Sh Gb nJ m0 t) w1 bx bs cs) (λi S S' v w w'=>QI i S S' v w w') (λf _=>fkQ f) E (λi v M f W0 wE w' S' h1 h2 h3=>P7 h2 (S.rows (i - p)) h3 h1) geo OE Ou (λg w h=>aK4 X E g w h) _ 0
  ⟨W5,w1,sl',p,D,λ_=>0,tag,f0,0,fQ,g0,0,0,λ_=>0,λ_=>w.heap.size+1,λ_=>undef,hm0.symm,rfl,?_,rfl⟩
 have e0:m0.world=w1:=by rw[<-hm0];rfl
 refine⟨Q5,h0,ep,λi hi=>?_,bd4 (c:=kx w.heap.size C n p Sh Gb nJ m0 t) hP Og,λk hk e=>?_,λi op _ hi=>Nat.le_of_lt_succ (Og.gs op (Ym hi)),Xw _,hP.hears,λi hi=>(by rw[<-hD];rfl),λi (hp:p<=i) hi=>(by omega),λi (hp:p<=i) hi=>(by omega),FW,iQ,eI,λop cF x hx=>?_,λop cF x hx hk hg=>?_,λi _=>hD1 i,Xw _,aR6 hP Og,λk=>Xw _,λk hk=>Xw _,by rw[eQ];exact Xw _,λb hb=>hb.elim,λk hk=>rfl,?_,λb hb=>?_⟩
 ·have jm:i+1<W5.size:=by omega
  have hx:=hL.old (i+1) _ (by omega) (X4 jm);refine⟨_,X4 jm,?_⟩;rw[<-hD];exact .late (by show 1<=6;decide) (.quit hx)
 ·have:k<t.size:=lt_of_act? e
  have h2:t.size<=k:=hk;omega
 ·exact Loc.low_mono (by omega) (Og.seen op cF x hx)
 ·have:=Og.gs op cF
  have h2:p<op.g:=hg;omega
 ·show w1.tape=m0.world.tape/\w1.os=m0.world.os/\w1.output=m0.world.output
  rw[e0];exact⟨rfl,rfl,rfl⟩
 ·show _=m0.world.heap[b]?
  rw[e0]
open Am (St Cx Holds dG tj T)
def Grw(wl wE:W'):Prop:=wl.heap.size<=wE.heap.size/\∀b,b<wl.heap.size->wE.heap[b]?=wl.heap[b]?
def D8(n:Nat)(b:Frame)(ok:Nat->Prop)(wl:W')(l:List (Nat × D))(fr:Frame)(wE:W'):Prop:=Grw wl wE/\∃T todo,fr={ b.at ⟨T,[]⟩ todo with mode:=.returning }/\T.size=n/\Tm wE (λb=>ok b\/wl.heap.size<=b) l T
def xn(n:Nat)(b:Frame)(ok:Nat->Prop)(wl:W')(k:List Item)(l:List (Nat × D))(fr:Frame)(wE:W'):Prop:=Grw wl wE/\∃T,fr=b.at ⟨T,[]⟩ k/\T.size=n/\Tm wE (λb=>ok b\/wl.heap.size<=b) l T
theorem Df{c:Cx}{st:St}{a:Act}{w:W'}(h:Holds c st a w):a.tmps.size=st.n/\c.w.heap.size<=w.heap.size:=let ⟨_,_,h⟩:=h;⟨h.size,h.ext.size⟩
theorem RR{wl:W'}{ok:Nat->Prop}{st:St}{a:Act}{w:W'}(h:Holds (wm wl ok) st a w):Grw wl w:=let ⟨_,_,h⟩:=h;⟨h.ext.size,λb hb=>h.ext.block b hb λq=>q.elim⟩
end
section
open Am (D St Cx Holds dG tj T)
variable{Q:Z4}{b:Frame}{cs:List Frame}{ok:Nat->Prop}{wl:W'}{k:List Item}{st:St}{n:Nat}{l:List (Nat × D)}{c:Code}
theorem Q3(hn:st.n=n)(h:ae4 st l):SW Q b cs (wm wl ok) (D8 n b ok wl l) (.code .ret::k) st:=
 aV3 λa w J hH=>⟨RR hH,a.tmps,_,by cases a;cases J;rfl,(Df hH).1.trans hn,qI hH h⟩
theorem vW(hn:st.n=n)(h:ae4 st l):SW Q b cs (wm wl ok) (xn n b ok wl k l) k st:=
 aQ1 λa w J hH=>⟨RR hH,a.tmps,by cases a;cases J;rfl,(Df hH).1.trans hn,qI hH h⟩
theorem yr:∀(ms:List Nat) (w:W') (fr:Frame),fr.mode≠.run->fr.defers=ms.map (λb=>{ target:=.collected b,args:=#[] })->ms.Nodup->(∀b∈ms,w.heap[b]?=some (.deferred (some [])))->Steps Q (lone fr cs w) (lone { fr with defers:=[] } cs (Am.shut ms w))
 | [],w,fr,_,J,_,_=>by
  have:{ fr with defers:=[] }=fr:=by cases fr;cases J;rfl
  rw[this];exact .refl _ _
 | m::ms,w,fr,Y,J,hn,hb=>by
  have⟨h1,h2⟩:=List.nodup_cons.1 hn;have s1:=step_collected (P:=Q) (cs:=cs) Y J E (run_takeDeferred (hb m (by simp)));have:=yr ms (w.putObj m (.deferred none)) { fr with defers:=[]++ms.map (λb=>{ target:=.collected b,args:=#[] }) } Y E h2 (λc hc=>Am.pE h1 hc (hb c (by simp[hc])));exact .head s1 this
theorem at9(hb:b.roundOf=none)(h:dG Q (wm wl ok) c (λe st'=>e=.ret/\st'.n=n/\ae4 st' l) st):SW Q b cs (wm wl ok) (D8 n b ok wl l) [.code c] st:=by
 intro a w J hH;have⟨e,a',w',⟨st',⟨he,hn,hO⟩,oO⟩,_,h2⟩:=Ix (h Fence.wide 1 ⟨.inl E,rfl⟩ a w hH) hb [] cs;have⟨todo,hs⟩:=h2 he;have⟨ms,m1,m2,m3,hS⟩:=oO.shut E;have hp:=yr (Q:=Q) (cs:=cs) ms w' { b.at a' todo with mode:=.returning } (by simp) m1 m2 m3;exact⟨_,_,hs.trans hp,RR hS,a'.tmps,todo,rfl,(Df hS).1.trans hn,qI hS hO⟩
variable{w0:Cx}{Post:Frame->W'->Prop}{ops:Array Z8}{id i:Nat}{rest:List Nat}{a:Act}{w w':W'}{o:Z8}{v:Z3}
theorem aL5{l:List Nat}(hl:List.range ops.size=l)(h:SW Q b cs w0 Post (.inRegion ops l::k) st):SW Q b cs w0 Post (.code (.region id ops false)::k) st:=λa w J hH=>
 let ⟨fr,w',hs,hp⟩:=h a w J hH;⟨fr,w',(by subst hl;exact qg.trans hs),hp⟩
theorem aJ5:Steps Q (lone (b.at a (.inRegion ops []::k)) cs w) (lone (b.at a k) cs w):=.one (step_lone_go (by simp[stepG,stepG.exec,Frame.at,GStep.bare]))
theorem V8:Steps Q (lone (b.at a (.code .skip::k)) cs w) (lone (b.at a k) cs w):=.one (step_lone_go (by simp[stepG,stepG.exec,Frame.at,GStep.bare]))
theorem G0(hk:b.kind=.normal)(hb:b.roundOf=none)(ho:ops[i]?=some o)(hg:o.guard=none)(o9:ndB Q o=true)(Y:(execOp a.eval o).run Q w=.ok (.value v) w') :
  Steps Q (lone (b.at a (.inRegion ops (i::rest)::k)) cs w) (lone (b.at (a.put o.dst v) (.inRegion ops rest::k)) cs w'):=by
 have hn:=λn w'=>uy (P:=Q) (o:=o) (a:=a) (w:=w) (w':=w') (n:=n) o9
 obtain⟨a1,w1,⟨rfl,rfl⟩,hs⟩:=vr (m:=1) (K:=λa1 w1=>a1=a.put o.dst v/\w1=w') (cs:=cs) (k:=k) (rest:=rest) ho (by simp[Region.wanted,hg]) hk hb (λd w' e=>hn _ _ e) (λr x w' e=>hn _ _ e) (λl f t x y w' e=>hn _ _ e) (gy o9)
  ⟨λ_ _=>trivial,by rw[Oper.semAt_eq _ _ _ (gy o9),Y];exact⟨rfl,rfl⟩⟩
 exact hs
theorem aJ1(hk:b.kind=.normal)(hb:b.roundOf=none)(ho:ops[i]?=some o)(hg:o.guard=none)(o9:ndB Q o=true)(Y:(execOp a.eval o).run Q w=.ok .skip w') :
  Steps Q (lone (b.at a (.inRegion ops (i::rest)::k)) cs w) (lone (b.at (a.put o.dst undef) (.inRegion ops rest::k)) cs w'):=by
 have hn:=λn w'=>uy (P:=Q) (o:=o) (a:=a) (w:=w) (w':=w') (n:=n) o9
 obtain⟨a1,w1,⟨rfl,rfl⟩,hs⟩:=vr (m:=1) (K:=λa1 w1=>a1=a.put o.dst undef/\w1=w') (cs:=cs) (k:=k) (rest:=rest) ho (by simp[Region.wanted,hg]) hk hb (λd w' e=>hn _ _ e) (λr x w' e=>hn _ _ e) (λl f t x y w' e=>hn _ _ e) (gy o9)
  ⟨λ_ _=>trivial,by rw[Oper.semAt_eq _ _ _ (gy o9),Y];exact⟨rfl,rfl⟩⟩
 exact hs
theorem be8{l:List Z8}{j:Nat}{idx:List Nat}(Js:w0.uk=none)(hb:b.roundOf=none)(az1:ops=l.toArray)(hi:idx=List.range' j (l.drop j).length)(o9:(l.drop j).all (ndB Q)=true)(hA:tj Q w0 l (l.drop j) (λe st'=>e=.normal/\SW Q b cs w0 Post k st') st):SW Q b cs w0 Post (.inRegion ops idx::k) st:=by
 intro a w J hH;have hl:=De (l:=l.drop j) o9 J (hA Fence.wide 1 ⟨.inl E,Js.symm⟩ a w hH);rw[<-wpOpsIn_eq_wpListIn (ops:=l.toArray) (l.drop j) j (λi=>by simp),<-hi,<-az1]at hl;have⟨e,a',w',⟨⟨st',⟨he,hs⟩,oO⟩,Bl⟩,h1,_⟩:=Bv hl hb k cs;have⟨fr,JZ,h2,hp⟩:=hs a' w' (Bl he) oO;exact⟨fr,JZ,(h1 he).trans h2,hp⟩
end
section
open Am (D St Cx Holds dG tj T)
variable{P Q:Z4}{NG M p:Nat}{m0:Z9}{Shun:Loc->Prop}{X:Nat->Prop}{b fr:Frame}{cs:List Frame}{w:W'}{r:Option Code}{T:Array Z3}{items k:List Item}{l l':List (Nat × D)}{n:Nat}
theorem S7{Post:W'->Frame->W'->Prop}(H:Fk Q P (KO NG P) id)(hNM:NG≠0->M=0)(h:JW P m0 p Shun fr cs w)(hM:M<=w.heap.size)(hX:∀b,X b->b<w.heap.size)(hS:∀l,Shun l->∃a,l=.cell a/\X a.block)(ep:∀c∈cs,c.mode=.run)
  (ok:mu NG Q P (b.at ⟨T,[]⟩ items)) (u':Ex r cs (cy (b.at ⟨T,[]⟩ items) cs) (cy fr cs)) (hT:Tm w (λb=>¬X b) l T) (hn:T.size=n)
  (Er:∀wl,wl.heap.size=w.heap.size->SW Q b [di Q] (wm wl (λb=>¬X b)) (Post wl) items (MH n l)) (hP:∀wl cB wE,Post wl cB wE->(∀ch,cB.mode≠.panicking ch)/\(r≠none->cB.mode=.run->cB.todo=[.code (.exit 0)])) :
  ∃wl cB wE w' Tk,wl.heap.size=w.heap.size/\Post wl cB wE/\JW P m0 p Shun { cB with todo:=Tk } cs w'/\(r=none->Tk=cB.todo)/\(∀rc,r=some rc->cB.mode=.run->Tk=[.code rc])/\Sg M w wE w'/\mu NG Q P cB/\(∀b,aP5 M (lw (KO NG P) M X (λ_ _=>0) w) w b->w'.heap[b]?=w.heap[b]?)/\∃tp,wl=lw (KO NG P) M X tp w:=by
 obtain⟨cB,wE,w',Tk,⟨wl,h1,h2,hwl⟩,p1,p2,p3,p4,p5,p6⟩:=aP1 (M:=M) (X:=X) (r:=r) (r8:=b.at ⟨T,[]⟩ items) (Post:=λfr wE=>∃wl,wl.heap.size=w.heap.size/\Post wl fr wE/\∃tp,wl=lw (KO NG P) M X tp w) H hNM h hM hX (λl hl=>.inl (hS l hl)) ep ok E u' (λtp=>by
  have hw:(lw (KO NG P) M X tp w).heap.size=w.heap.size:=qy;obtain⟨fr,w1,hs,hp⟩:=Er (lw (KO NG P) M X tp w) hw ⟨T,[]⟩ _ E (vM (hT.cells (YX hw.symm) (λa v ha hc=>HE ha hc) λ_ _ h=>h) hn)
  exact⟨fr,w1,hs,_,hw,hp,tp,rfl⟩) (λcB wE ⟨wl,_,hp,_⟩=>hP wl cB wE hp)
 exact⟨wl,cB,wE,w',Tk,h1,h2,p1,p2,p3,p4,p5,p6,hwl⟩
theorem Wc{Post:W'->Frame->W'->Prop}(H:Fk Q P (KO NG P) id)(hNM:NG≠0->M=0)(h:JW P m0 p Shun fr cs w)(hM:M<=w.heap.size)(hX:∀b,X b->b<w.heap.size)(hS:∀l,Shun l->∃a,l=.cell a/\X a.block)(ep:∀c∈cs,c.mode=.run)
  (ok:mu NG Q P (b.at ⟨T,[]⟩ items)) (u':Ex r cs (cy (b.at ⟨T,[]⟩ items) cs) (cy fr cs)) (hT:Tm w (λb=>¬X b) l T) (hn:T.size=n)
  (Er:∀wl,wl.heap.size=w.heap.size->SW Q b [di Q] (wm wl (λb=>¬X b)) (Post wl) items (MH n l)) (hP:∀wl cB wE,Post wl cB wE->(∀ch,cB.mode≠.panicking ch)/\(r≠none->cB.mode=.run->cB.todo=[.code (.exit 0)])) :
  ∃wl cB wE w' Tk,wl.heap.size=w.heap.size/\Post wl cB wE/\JW P m0 p Shun { cB with todo:=Tk } cs w'/\(r=none->Tk=cB.todo)/\(∀rc,r=some rc->cB.mode=.run->Tk=[.code rc])/\Sg M w wE w'/\mu NG Q P cB:=
 let ⟨wl,cB,wE,w',Tk,h1,h2,h3,h4,h5,h6,h7,_⟩:=S7 (X:=X) H hNM h hM hX hS ep ok u' hT hn Er hP
 ⟨wl,cB,wE,w',Tk,h1,h2,h3,h4,h5,h6,h7⟩
theorem Sg.tm{wE w':W'}{ok ok':Nat->Prop}(S:Sg M w wE w')(h:Tm wE ok l T)(bg:∀b,b<wE.heap.size->ok b->ok' b):Tm w' ok' l T:=h.cells (YX S.size) (λa v _ hc=>S.cell a v hc) bg
theorem DY(H:Fk Q P (KO NG P) id)(hNM:NG≠0->M=0)(h:JW P m0 p Shun fr cs w)(hM:M<=w.heap.size)(hX:∀b,X b->b<w.heap.size)(hS:∀l,Shun l->∃a,l=.cell a/\X a.block)(ep:∀c∈cs,c.mode=.run)(ok:mu NG Q P (b.at ⟨T,[]⟩ items))(u':Ex r cs (cy (b.at ⟨T,[]⟩ items) cs) (cy fr cs))(hT:Tm w (λb=>¬X b) l T)(hn:T.size=n)
  (Er:∀wl,SW Q b [di Q] (wm wl (λb=>¬X b)) (D8 n b (λb=>¬X b) wl l') items (MH n l)):∃T' todo w' wE,JW P m0 p Shun { b.at ⟨T',[]⟩ todo with mode:=.returning } cs w'/\T'.size=n/\Tm w' (λb=>¬X b) l' T'/\Sg M w wE w'/\w.heap.size<=w'.heap.size:=by
 obtain⟨wl,cB,wE,w',Tk,h1,⟨⟨h2,_⟩,T',todo,rfl,h3,h4⟩,h5,_,_,h6,_⟩:=Wc (Post:=λwl=>D8 n b (λb=>¬X b) wl l') H hNM h hM hX hS ep ok u' hT hn (λwl _=>Er wl) (λwl cB wE ⟨_,T',todo,e,_⟩=>⟨λch=>(by rw[e];simp),λ_ hm=>(by rw[e]at hm;cases hm)⟩);exact⟨T',Tk,w',wE,h5,h3,h6.tm h4 λb hb h=>h.elim id λh hx=>by have:=hX b hx;omega,h6,by have:=h6.size;omega⟩
theorem Ka(H:Fk Q P (KO NG P) id)(hNM:NG≠0->M=0)(h:JW P m0 p Shun fr cs w)(hM:M<=w.heap.size)(hX:∀b,X b->b<w.heap.size)(hS:∀l,Shun l->∃a,l=.cell a/\X a.block)(ep:∀c∈cs,c.mode=.run)(ok:mu NG Q P (b.at ⟨T,[]⟩ items))(u':Ex r cs (cy (b.at ⟨T,[]⟩ items) cs) (cy fr cs))(hT:Tm w (λb=>¬X b) l T)(hn:T.size=n)(hk:r≠none->k=[.code (.exit 0)])
  (Er:∀wl,SW Q b [di Q] (wm wl (λb=>¬X b)) (xn n b (λb=>¬X b) wl k l') items (MH n l)):∃T' Tk w' wE,JW P m0 p Shun (b.at ⟨T',[]⟩ Tk) cs w'/\(r=none->Tk=k)/\(∀rc,r=some rc->Tk=[.code rc])/\T'.size=n/\Tm w' (λb=>¬X b) l' T'/\Sg M w wE w'/\w.heap.size<=w'.heap.size:=by
 obtain⟨wl,cB,wE,w',Tk,h1,⟨⟨h2,_⟩,T',rfl,h3,h4⟩,h5,h7,h8,h6,_⟩:=Wc (Post:=λwl=>xn n b (λb=>¬X b) wl k l') H hNM h hM hX hS ep ok u' hT hn (λwl _=>Er wl) (λwl cB wE ⟨_,T',e,_⟩=>⟨λch=>(by rw[e];simp[Frame.at]),λY hm=>(by rw[e];exact hk Y)⟩);exact⟨T',Tk,w',wE,h5,h7,λrc Y=>h8 rc Y E,h3,h6.tm h4 λb hb h=>h.elim id λh hx=>by have:=hX b hx;omega,h6,by have:=h6.size;omega⟩
open Classical in
theorem aO8{NG:Nat}{P:Z4}{X:Nat->Prop}{w wE w' wl:W'}{tp:Nat->Question->Nat}(J:∀b,aP5 0 (lw (KO NG P) 0 X (λ_ _=>0) w) w b->w'.heap[b]?=w.heap[b]?)(S:Sg 0 w wE w')(hl:wl=lw (KO NG P) 0 X tp w)(hk:Grw wl wE)(hX:∀b,¬X b):Below w.heap.size w w':=by
 have eQ:wl.heap.size=w.heap.size:=by rw[hl];exact qy
 refine⟨S.os,S.tape,S.output,by have:=S.size;have:=hk.1;omega,λb hb=>?_⟩;have h1:=X4 hb;generalize ho:w.heap[b]=o at h1
 have h2:∀tp,(lw (KO NG P) 0 X tp w).heap[b]?=some (if OR (KO NG P) id o o then o else cu):=λtp=>by
  rw[nW,h1,XB];unfold mskO;rw[Xr (hX b),Xr (by omega)]
 by_cases Pd:(if OR (KO NG P) id o o then o else cu)=cu
 ·refine J b (.inr ⟨by rw[h2,Pd],λk e z hc=>?_⟩)
  rw[h1]at hc
  cases hc
  rw[Xu (LP _ k e z)]at Pd
  cases Pd
 ·have hor:OR (KO NG P) id o o:=Classical.byContradiction λh=>Pd (Xr h)
  have h3:=hk.2 b (by omega);rw[hl,h2,Xu hor]at h3;rw[h1];rw[Xu hor]at Pd;exact S.heap b o (XC _) h3 Pd
theorem aP2(H:Fk Q P (KO NG P) id)(h:JW P m0 p (λ_=>False) fr cs w)(ep:∀c∈cs,c.mode=.run)(ok:mu NG Q P (b.at ⟨T,[]⟩ items))(u':Ex r cs (cy (b.at ⟨T,[]⟩ items) cs) (cy fr cs))(hT:Tm w (λ_=>¬False) l T)(hn:T.size=n)
  (Er:∀wl,SW Q b [di Q] (wm wl (λ_=>¬False)) (D8 n b (λ_=>¬False) wl l') items (MH n l)):∃T' todo w',JW P m0 p (λ_=>False) { b.at ⟨T',[]⟩ todo with mode:=.returning } cs w'/\T'.size=n/\Tm w' (λ_=>¬False) l' T'/\Below w.heap.size w w':=by
 obtain⟨wl,cB,wE,w',Tk,h1,⟨hg,T',todo,rfl,h3,h4⟩,h5,_,_,h6,_,CN,tp,hwl⟩:=S7 (M:=0) (X:=λ_=>False) (Post:=λwl=>D8 n b (λ_=>¬False) wl l') H (λ_=>rfl) h (XC _) (λ_ h=>h.elim) (λ_ h=>h.elim) ep ok u' hT hn (λwl _=>Er wl) (λwl cB wE ⟨_,T',todo,e,_⟩=>⟨λch=>(by rw[e];simp),λ_ hm=>(by rw[e]at hm;cases hm)⟩);exact⟨T',Tk,w',h5,h3,h6.tm h4 λ_ _ _=>id,aO8 CN h6 hwl hg λ_ h=>h⟩
theorem aS5(H:Fk Q P (KO NG P) id)(h:JW P m0 p (λ_=>False) fr cs w)(ep:∀c∈cs,c.mode=.run)(ok:mu NG Q P (b.at ⟨T,[]⟩ items))(u':Ex r cs (cy (b.at ⟨T,[]⟩ items) cs) (cy fr cs))(hT:Tm w (λ_=>¬False) l T)(hn:T.size=n)(hk:r≠none->k=[.code (.exit 0)])
  (Er:∀wl,SW Q b [di Q] (wm wl (λ_=>¬False)) (xn n b (λ_=>¬False) wl k l') items (MH n l)):∃T' Tk w',JW P m0 p (λ_=>False) (b.at ⟨T',[]⟩ Tk) cs w'/\(r=none->Tk=k)/\(∀rc,r=some rc->Tk=[.code rc])/\T'.size=n/\Tm w' (λ_=>¬False) l' T'/\Below w.heap.size w w':=by
 obtain⟨wl,cB,wE,w',Tk,h1,⟨hg,T',rfl,h3,h4⟩,h5,h7,h8,h6,_,CN,tp,hwl⟩:=S7 (M:=0) (X:=λ_=>False) (Post:=λwl=>xn n b (λ_=>¬False) wl k l') H (λ_=>rfl) h (XC _) (λ_ h=>h.elim) (λ_ h=>h.elim) ep ok u' hT hn (λwl _=>Er wl) (λwl cB wE ⟨_,T',e,_⟩=>⟨λch=>(by rw[e];simp[Frame.at]),λY hm=>(by rw[e];exact hk Y)⟩);exact⟨T',Tk,w',h5,h7,λrc Y=>h8 rc Y E,h3,h6.tm h4 λ_ _ _=>id,aO8 CN h6 hwl hg λ_ h=>h⟩
noncomputable def DR:Code:=Tryz.f8.body.getD .skip
theorem Oh:Tryz.f8.body=some DR:=by kernel_rfl
noncomputable def aJ3:Code:=match DR with|.seq a (.seq b (.seq c (.seq d (.seq e _))))=>.seq a (.seq b (.seq c (.seq d (.seq e .skip))))|_=>.skip
end
end Go.Proofs.YthcfokccjljnpaaGreat.Par
namespace Go.Proofs.YthcfokccjljnpaaGreat.Am.M
open Go.Proofs.Tryz Go
section
open Par (SW qd wj wb wv aL5 G0 aJ1 Df ndB aJ5 V8 Q3 D8 MH wm aJ3)
abbrev bE:Frame:=Go.Conc.base 8
theorem TA:Ey qP 104 24=true:=by kernel_rfl
theorem Xb:eC qP 92 (.slice none 0 0):=by unfold eC;kernel_rfl
structure aZ6(t:tv)(dl:List (List Int))(ok:Nat->Prop)(wl wE:W')(T:Array Z3)(A:Option Addr)(cap bx C bs:Nat)(xv:Z3):Prop where
 sz:T.size=85
 t1:T[1]?=some (.slice A dl.length cap)
 t6:T[6]?=some (.pointer (some ⟨bx,0,none⟩))
 t10:T[10]?=some (.pointer (some ⟨bs,0,none⟩))
 hC:wl.heap.size<=C/\C<bs/\bs<wE.heap.size
 hx:bx<C
 hxo:ok bx\/wl.heap.size<=bx
 pay:∃cs:Array Z3,wE.heap[C]?=some (.cells cs 104)/\cs.size=dl.length
 sh:wE.cell? ⟨bs,0,none⟩=some (.slice (some ⟨C,0,none⟩) dl.length dl.length)
 xb:wE.cell? ⟨bx,0,none⟩=some xv
 xr:iN wE (λb=>b<C/\(ok b\/wl.heap.size<=b)) (.pt (My t) 0) xv
 el:∀(i:Nat) x,dl[i]?=some x->∃ad v,A=some ad/\(ad.add i).block<C/\(ok (ad.add i).block\/wl.heap.size<=(ad.add i).block)/\wE.cell? (ad.add i)=some v/\iN wE (λb=>b<C/\(ok b\/wl.heap.size<=b)) (.sl 1 (x.map iC)) v
def ar4(t:tv)(dl:List (List Int))(ok:Nat->Prop)(wl:W')(fr:Frame)(wE:W'):Prop:=∃T A cap bx C bs xv,fr=bE.at ⟨T,[]⟩ [.code (.exit 0)]/\aZ6 t dl ok wl wE T A cap bx C bs xv
noncomputable def o6:Array Z8:=match Par.DR with|.seq _ (.seq _ (.seq _ (.seq _ (.seq (.region _ o _) _))))=>o|_=>#[]
theorem o7a:Par.eO o6 0 (.move (.tmp 1)) (some 39):=⟨⟨_,rfl,rfl,rfl,rfl⟩⟩
theorem o7b:Par.eO o6 1 (.call { callee:=.builtin .len,args:=#[.tmp 39],argTypes:=#[38] }) (some 40):=⟨⟨_,rfl,rfl,rfl,rfl⟩⟩
theorem o7c:Par.eO o6 2 (.makeSlice 92 (.tmp 40) (.tmp 40)) (some 41):=⟨⟨_,rfl,rfl,rfl,rfl⟩⟩
theorem o7d:Par.eO o6 3 (.alloc 92) (some 10):=⟨⟨_,rfl,rfl,rfl,rfl⟩⟩
theorem o7e:Par.eO o6 4 (.store 92 (.tmp 10) (.tmp 41)) none:=⟨⟨_,rfl,rfl,rfl,rfl⟩⟩
theorem aa5:List.range o6.size=[0,1,2,3,4]:=rfl
theorem nd7:∀(i:Nat) o,o6[i]?=some o->ndB qP o=true:=λi o h=>(Yi.1 (show o6.all (ndB qP)=true by kernel_rfl)) o (Ym h)
theorem Qj{t:tv}{dl:List (List Int)}{wl:W'}{ok:Nat->Prop}{st:St}{cs:List Frame}(hn:st.n=85)(h1:st.t 1=.d (.sl 1 (dl.map lC)))(h6:st.t 6=.ref 6 0)(hs6:st.s 6=.box [.pt (My t) 0])(Nc:dl.length<=1000) :
  SW qP bE cs (wm wl ok) (ar4 t dl ok wl) (.code (.region 7 o6 false) :: .code .skip::[.code (.exit 0)]) st:=by
 refine aL5 aa5 λa w J hH=>?_;have⟨eQ,pV⟩:=Df hH;obtain⟨blk,val,hh⟩:=hH;have bH:∀k,k<85->k<a.tmps.size:=λk hk=>by omega
 have q1:=hh.tmp 1;rw[h1]at q1;obtain⟨A,cap,e1,ez,Ax,_,_,hA⟩:=kO (show iN w _ (.sl 1 (dl.map lC)) _ from q1);have q6:=hh.tmp 6;rw[h6]at q6;have⟨_,bx,b1,e6⟩:=q6;have q7:=hh.site 6;rw[hs6]at q7;have⟨bx',e,aK,b2,hbx,WC,_,jE⟩:=q7;rw[b1]at b2;cases b2
 obtain⟨xv,En,UX⟩:=jE 0 _ E;rw[Xo]at e1 ez;have g1:a.tmps[1]?=some (.slice A dl.length cap):=by rw[<-e1,XN,X4 (bH 1 (by decide))];rfl
 have g6:a.tmps[6]?=some (.pointer (some ⟨bx,0,none⟩)):=by rw[<-e6,XN,X4 (bH 6 (by decide))];rfl
 have hbl:bx<w.heap.size:=bI hbx;have⟨i7,hi7,tZ⟩:=gj Ug;have⟨i8,hi8,S2⟩:=rJ TA;rw[hi7]at hi8;cases hi8
 have ev:∀(T:Array Z3) (k:Nat) v,T[k]?=some v->(⟨T,[]⟩:Act).eval (.tmp k)=v:=λT k v h=>by
  show T.getD k undef=v
  rw[XN,h];rfl
 have se:∀(T:Array Z3) (k:Nat) v,k<T.size->(T.setIfInBounds k v)[k]?=some v:=λT k v h=>X9 h;have sn:∀(T:Array Z3) (k j:Nat) v,k≠j->(T.setIfInBounds k v)[j]?=T[j]?:=λT k j v h=>XE h;have hT0:a.tmps.size=85:=eQ.trans hn;have ea:a=⟨a.tmps,[]⟩:=by cases a;cases J;rfl
 rw[ea];have⟨oa,a1,a2,a3,a4⟩:=o7a.get;have⟨ob,b1',b2',b3,b4⟩:=o7b.get;have⟨oc,c1,c2,c3,c4⟩:=o7c.get;have⟨od,d1,d2,d3,d4⟩:=o7d.get;have⟨oe,e1',e2,e3,e4⟩:=o7e.get;generalize a.tmps=T0 at *;have s1:=G0 (Q:=qP) (b:=bE) (cs:=cs) (k:=[.code .skip,.code (.exit 0)]) (a:=⟨T0,[]⟩) (rest:=[1,2,3,4]) (w:=w) (w':=w) (v:=.slice A dl.length cap) E E a1 a4 (nd7 _ _ a1) (by unfold execOp;rw[a2];simp[ev _ _ _ g1]);rw[a3]at s1;have z1:(T0.setIfInBounds 39 (.slice A dl.length cap)).size=85:=by simp[hT0]
 have k1:=se T0 39 (.slice A dl.length cap) (by omega);have p1:=(sn T0 39 1 (.slice A dl.length cap) (by decide)).trans g1;have p6:=(sn T0 39 6 (.slice A dl.length cap) (by decide)).trans g6;change Steps _ _ (lone (bE.at ⟨T0.setIfInBounds 39 (.slice A dl.length cap),[]⟩ _) _ _) at s1;generalize T0.setIfInBounds 39 (.slice A dl.length cap)=T1 at *
 have s2:=G0 (Q:=qP) (b:=bE) (cs:=cs) (k:=[.code .skip,.code (.exit 0)]) (a:=⟨T1,[]⟩) (rest:=[2,3,4]) (w:=w) (w':=w) (v:=.int .i64 dl.length) E E b1' b4 (nd7 _ _ b1') (by
  have⟨u,hu⟩:=pI tC
  exact ff b2' (by rw[ev _ _ _ k1];simp[Builtin.len_,run_underlying hu,goInt]))
 rw[b3]at s2;have z2:(T1.setIfInBounds 40 (.int .i64 dl.length)).size=85:=by simp[z1]
 have k2:=se T1 40 (.int .i64 dl.length) (by omega);have p1:=(sn T1 40 1 (.int .i64 dl.length) (by decide)).trans p1;have p6:=(sn T1 40 6 (.int .i64 dl.length) (by decide)).trans p6;change Steps _ _ (lone (bE.at ⟨T1.setIfInBounds 40 (.int .i64 dl.length),[]⟩ _) _ _) at s2;generalize T1.setIfInBounds 40 (.int .i64 dl.length)=T2 at *;have J5:=run_make (P:=qP) w 92 104 i7 (.slice none 0 0) (cJ Ug) hi7 (la Xj hi7) .i64 .i64 (dl.length:Int) (dl.length:Int) (by omega) (by omega) (by rw[S2];omega) (by omega);simp only[ZO,tZ,YA]at J5;have s3:=G0 (Q:=qP) (b:=bE) (cs:=cs) (k:=[.code .skip,.code (.exit 0)]) (a:=⟨T2,[]⟩) (rest:=[3,4]) (w:=w) (w':=w.alloc (.cells (madeCells (Value.slice none 0 0).cells dl.length) 104)) (v:=.slice (some ⟨w.heap.size,0,none⟩) dl.length dl.length) E E c1 c4 (nd7 _ _ c1) (by unfold execOp;rw[c2];simp[ev _ _ _ k2,J5]);rw[c3]at s3;have z3:(T2.setIfInBounds 41 (.slice (some ⟨w.heap.size,0,none⟩) dl.length dl.length)).size=85:=by simp[z2]
 have k3:=se T2 41 (.slice (some ⟨w.heap.size,0,none⟩) dl.length dl.length) (by omega);have p1:=(sn T2 41 1 (.slice (some ⟨w.heap.size,0,none⟩) dl.length dl.length) (by decide)).trans p1;have p6:=(sn T2 41 6 (.slice (some ⟨w.heap.size,0,none⟩) dl.length dl.length) (by decide)).trans p6;change Steps _ _ (lone (bE.at ⟨T2.setIfInBounds 41 (.slice (some ⟨w.heap.size,0,none⟩) dl.length dl.length),[]⟩ _) _ _) at s3;generalize T2.setIfInBounds 41 (.slice (some ⟨w.heap.size,0,none⟩) dl.length dl.length)=T3 at *;have hC:=fj w (.cells (madeCells (Value.slice none 0 0).cells dl.length) 104);have tX:(w.alloc (.cells (madeCells (Value.slice none 0 0).cells dl.length) 104)).heap.size=w.heap.size+1:=by simp
 have hk1:∀b,b<w.heap.size->(w.alloc (.cells (madeCells (Value.slice none 0 0).cells dl.length) 104)).heap[b]?=w.heap[b]?:=λb hb=>Par.ir hb;have ay6:(madeCells (Value.slice none 0 0).cells dl.length).size=dl.length:=by simp[madeCells]
 generalize w.alloc (.cells (madeCells (Value.slice none 0 0).cells dl.length) 104)=w1 at *;have s4:=G0 (Q:=qP) (b:=bE) (cs:=cs) (k:=[.code .skip,.code (.exit 0)]) (a:=⟨T3,[]⟩) (rest:=[4]) (w:=w1) (w':=w1.alloc (.cells #[.slice none 0 0] 92)) (v:=.pointer (some ⟨w1.heap.size,0,none⟩)) E E d1 d4 (nd7 _ _ d1) (by unfold execOp;rw[d2];simp[Instr.alloc,iE Xb,newVar,newRow];rfl);rw[d3]at s4;have z4:(T3.setIfInBounds 10 (.pointer (some ⟨w1.heap.size,0,none⟩))).size=85:=by simp[z3]
 have k4:=se T3 10 (.pointer (some ⟨w1.heap.size,0,none⟩)) (by omega);have k3:=(sn T3 10 41 (.pointer (some ⟨w1.heap.size,0,none⟩)) (by decide)).trans k3;have p1:=(sn T3 10 1 (.pointer (some ⟨w1.heap.size,0,none⟩)) (by decide)).trans p1;have p6:=(sn T3 10 6 (.pointer (some ⟨w1.heap.size,0,none⟩)) (by decide)).trans p6;change Steps _ _ (lone (bE.at ⟨T3.setIfInBounds 10 (.pointer (some ⟨w1.heap.size,0,none⟩)),[]⟩ _) _ _) at s4;generalize T3.setIfInBounds 10 (.pointer (some ⟨w1.heap.size,0,none⟩))=T4 at *;have hB:=fj w1 (.cells #[.slice none 0 0] 92);have tW:(w1.alloc (.cells #[.slice none 0 0] 92)).heap.size=w1.heap.size+1:=by simp
 have O8:∀b,b<w1.heap.size->(w1.alloc (.cells #[.slice none 0 0] 92)).heap[b]?=w1.heap[b]?:=λb hb=>Par.ir hb;generalize w1.alloc (.cells #[.slice none 0 0] 92)=w2 at *;have dU:=iF (P:=qP) (v:=.slice (some ⟨w.heap.size,0,none⟩) dl.length dl.length) (o:=0) ab2 E hB (Xw _) (λu hu=>by simp[Value.cells]at hu;subst hu;rfl);have s5:=aJ1 (Q:=qP) (b:=bE) (cs:=cs) (k:=[.code .skip,.code (.exit 0)]) (a:=⟨T4,[]⟩) (rest:=[]) (w:=w2) (w':=w2.setRow w1.heap.size ((#[Value.slice none 0 0]:Array Z3).toList.take 0++(Value.slice (some ⟨w.heap.size,0,none⟩) dl.length dl.length).cells.toList++(#[Value.slice none 0 0]:Array Z3).toList.drop (0+1)).toArray) E E e1' e4 (nd7 _ _ e1') (by unfold execOp;rw[e2];simp only[ev _ _ _ k4,ev _ _ _ k3];rw[Sem.run_bind,dU];rfl);rw[e3]at s5;have hw3:=setRow_size (w:=w2) (b:=w1.heap.size) (cs:=((#[Value.slice none 0 0]:Array Z3).toList.take 0++(Value.slice (some ⟨w.heap.size,0,none⟩) dl.length dl.length).cells.toList++(#[Value.slice none 0 0]:Array Z3).toList.drop (0+1)).toArray);have Es:=iD (cs:=((#[Value.slice none 0 0]:Array Z3).toList.take 0++(Value.slice (some ⟨w.heap.size,0,none⟩) dl.length dl.length).cells.toList++(#[Value.slice none 0 0]:Array Z3).toList.drop (0+1)).toArray) hB;have hk3:=λb' (h:b'≠w1.heap.size)=>cT (w:=w2) (b:=w1.heap.size) (b':=b') (cs:=((#[Value.slice none 0 0]:Array Z3).toList.take 0++(Value.slice (some ⟨w.heap.size,0,none⟩) dl.length dl.length).cells.toList++(#[Value.slice none 0 0]:Array Z3).toList.drop (0+1)).toArray) h;generalize w2.setRow w1.heap.size _=w3 at *;have cr:∀b,b<w.heap.size->w3.heap[b]?=w.heap[b]?:=λb hb=>(hk3 b (by omega)).trans ((O8 b (by omega)).trans (hk1 b hb))
 have kc:∀(ad:Addr) v,w.cell? ad=some v->w3.cell? ad=some v:=λad v h=>by
  have hl:=Ia h;unfold World.cell? at h ⊢;rw[cr _ hl];exact h
 have kr:∀{d:D} {v:Z3},iN w (fN (wm wl ok) blk) d v->iN w3 (λb=>b<w.heap.size/\(ok b\/wl.heap.size<=b)) d v:=λ{d v} h=>Par.jk (iN.ok h (ok':=λb=>b<w.heap.size/\(ok b\/wl.heap.size<=b)) λb hb hk=>⟨hb,hk.1⟩) (by omega) (λad v _ h=>kc ad v h) λb _ hk=>hk
 have s6:Steps qP (lone (bE.at ⟨T4,[]⟩ [.inRegion o6 [],.code .skip,.code (.exit 0)]) cs w3) (lone (bE.at ⟨T4,[]⟩ [.code (.exit 0)]) cs w3):=
  aJ5.trans V8
 refine⟨_,w3,s1.trans (s2.trans (s3.trans (s4.trans (s5.trans s6)))),T4,A,cap,bx,w.heap.size,w1.heap.size,xv,rfl,z4,p1,p6,k4,⟨pV,by omega,by omega⟩,hbl,(hh.new 6 bx b1).1.symm.imp_left (λh=>h.elim),⟨_,(hk3 _ (by omega)).trans ((O8 _ (by omega)).trans hC),ay6⟩,?_,?_,kr UX,λi x hx=>?_⟩
 ·rw[cell_of_block Es];rfl
 ·exact kc _ _ (by rw[cell_of_block hbx];exact En)
 ·have hm:(dl.map lC)[i]?=some (lC x):=by rw[XF,hx];rfl
  rcases hA with h|⟨b,off,vs,rfl,hb,hbo,hc,Y⟩
  ·rw[h]at hm;cases hm
  ·have yO:=hc i _ 0 _ hm E
   refine⟨⟨b,off,none⟩,vs i 0,rfl,by rw[ei];exact hb,by rw[ei];exact hbo.1,kc _ _ ?_,kr (Y i _ 0 _ hm E)⟩;rw[ei];simpa using yO
theorem aY8(t:tv)(dl:List (List Int))(h:tn t)(J:(rm t.ne dl).2≠0)(wl:W')(ok:Nat->Prop):SW qP bE [Par.di qP] (wm wl ok) (D8 85 bE ok wl [(4,.sl 1 []),(5,.v (.int .i64 ((rm t.ne dl).2)))]) [.code aJ3,.code (.exit 0)] (MH 85 [(0,.agg (q8 t)),(1,.sl 1 (dl.map lC))]):=by
 have cH:(wm wl ok).uk=none:=rfl;have wY:=h.n1;have Bi:=h.n2;refine qd (wv 3 (V (aP E H') (V (aG (x:=.d (.sl _ _)) E) (V (aG (x:=.d (.v _)) E) (aw (ai ?_))))));refine⟨rfl,?_⟩;refine qd (wv 5 (V (ax kJ E E E) (V (ak JD (.cons E .nil) E (zX t h)) (V (aq (x:=.d (.da _)) E) (V (au E E) (V (au E E) (aw (bL Kg E E E (ay lg E E E' E E (by decide) E (aN E (aG (x:=.d (.v _)) E) (ai ?_)))))))))));refine⟨rfl,?_⟩;refine qd (qd (wv 2 (V (aq (x:=.d (.v _)) E) (V (bS E E) (aw (ai ?_))))));refine⟨rfl,?_⟩;refine wb E (λbV=>?_) (λbV=>?_)
 ·simp at bV
 ·(try simp only[nb,Xv]at bV);refine wj (qd (qd (wv 11 (V (aQ lg E E E) (V (bZ E) (V (af oh E) (V (aj mF E E) (V (aq (x:=.d (.sl _ _)) E) (V (ak VM (.cons E (.cons E .nil)) E (nD t.ne dl)) (V (aq (x:=.d (.da _)) E) (V (au E E) (V (au E E) (V (aG (x:=.d (.v _)) E) (V (aG (x:=.d (.v _)) E) (aw (ai ?_))))))))))))))));refine⟨rfl,?_⟩;refine qd (wv 2 (V (aq (x:=.d (.v _)) E) (V (bS E E) (aw (ai ?_)))));refine⟨rfl,?_⟩;refine wb E (λeU=>?_) (λeU=>?_)
  ·(try simp only[nb,Xv]at eU);refine qd (wv 3 (V (aq (x:=.d (.v _)) E) (V (aG (x:=.d (.sl _ _)) E) (V (aG (x:=.d (.v _)) E) (aw (ai ?_))))));refine⟨rfl,?_⟩;exact Q3 E ⟨⟨rfl,I'⟩,⟨rfl,I'⟩,trivial⟩
  ·(try simp only[nb,Xv]at eU);exact absurd eU J
theorem aY7(t:tv)(dl:List (List Int))(h:tn t)(J:(rm t.ne dl).2=0)(Nc:dl.length<=1000)(wl:W')(ok:Nat->Prop):SW qP bE [Par.di qP] (wm wl ok) (ar4 t dl ok wl) [.code aJ3,.code (.exit 0)] (MH 85 [(0,.agg (q8 t)),(1,.sl 1 (dl.map lC))]):=by
 have cH:(wm wl ok).uk=none:=rfl;have wY:=h.n1;have Bi:=h.n2;refine qd (wv 3 (V (aP E H') (V (aG (x:=.d (.sl _ _)) E) (V (aG (x:=.d (.v _)) E) (aw (ai ?_))))));refine⟨rfl,?_⟩;refine qd (wv 5 (V (ax kJ E E E) (V (ak JD (.cons E .nil) E (zX t h)) (V (aq (x:=.d (.da _)) E) (V (au E E) (V (au E E) (aw (bL Kg E E E (ay lg E E E' E E (by decide) E (aN E (aG (x:=.d (.v _)) E) (ai ?_)))))))))));refine⟨rfl,?_⟩;refine qd (qd (wv 2 (V (aq (x:=.d (.v _)) E) (V (bS E E) (aw (ai ?_))))));refine⟨rfl,?_⟩;refine wb E (λbV=>?_) (λbV=>?_)
 ·simp at bV
 ·(try simp only[nb,Xv]at bV);refine wj (qd (qd (wv 11 (V (aQ lg E E E) (V (bZ E) (V (af oh E) (V (aj mF E E) (V (aq (x:=.d (.sl _ _)) E) (V (ak VM (.cons E (.cons E .nil)) E (nD t.ne dl)) (V (aq (x:=.d (.da _)) E) (V (au E E) (V (au E E) (V (aG (x:=.d (.v _)) E) (V (aG (x:=.d (.v _)) E) (aw (ai ?_))))))))))))))));refine⟨rfl,?_⟩;refine qd (wv 2 (V (aq (x:=.d (.v _)) E) (V (bS E E) (aw (ai ?_)))));refine⟨rfl,?_⟩;refine wb E (λeU=>?_) (λeU=>?_)
  ·(try simp only[nb,Xv]at eU);exact absurd J eU
  ·(try simp only[nb,Xv]at eU);refine wj (qd ?_);exact Qj E E E E Nc
open Par (ae4 TD)
def pS(l:List (List (Int × Int)))(j:Nat):Int × Int:=l.foldl (λs x=>(s.1+(x.getD j (0,0)).1,s.2+(x.getD j (0,0)).2)) (0,0)
theorem Hn(l:List (List (Int × Int)))(x:List (Int × Int))(j:Nat):pS (l++[x]) j=((pS l j).1+(x.getD j (0,0)).1,(pS l j).2+(x.getD j (0,0)).2):=by unfold pS;rw[List.foldl_append];rfl
def smD(l:List (List (Int × Int)))(n:Nat):List (Int × Int):=(List.range n).map (pS l)
theorem PU(l:List (List (Int × Int)))(n:Nat):(smD l n).length=n:=by unfold smD;rw[Xo,Yx]
def Ev(l:List (List (Int × Int)))(n i k:Nat):List (List D):=(List.range n).map λj=>wq (pS (l.take (if j<k then i+1 else i)) j)
theorem AS(l:List (List (Int × Int)))(n i k:Nat):(Ev l n i k).length=n:=by unfold Ev;rw[Xo,Yx]
theorem VG{l:List (List (Int × Int))}{n i k:Nat}(h:k<n):(Ev l n i k)[k]?=some (wq (pS (l.take i) k)):=by
 unfold Ev;rw[XF,Y4 h];simp
theorem Rq{l:List (List (Int × Int))}{n i k:Nat}{s x:Int × Int}(h:k<n)(hs:pS (l.take (i+1)) k=s):(Ev l n i k).set k (wq s)=Ev l n i (k+1):=by
 subst hs;apply List.ext_getElem?;intro j;rw[List.getElem?_set,AS];unfold Ev;rw[XF,XF];by_cases hj:k=j
 ·subst hj
  rw[Xu E,Xu h,Y4 h];simp
 ·rw[Xr hj]
  rcases XP j n with hn|hn
  ·rw[Y4 hn]
   simp only[XB];by_cases h1:j<k
   ·rw[Xu h1,Xu (by omega)]
   ·rw[Xr h1,Xr (by omega)]
  ·rw[List.getElem?_eq_none (by rw[Yx];omega)];rfl
theorem NF(l:List (List (Int × Int)))(n:Nat):Ev l n 0 0=List.replicate n (wq (0,0)):=by
 rw[List.eq_replicate_iff];refine⟨AS _ _ _ _,λb hb=>?_⟩;unfold Ev at hb;obtain⟨j,_,rfl⟩:=X6.1 hb;rw[Xr (by omega)];rfl
theorem NH{l:List (List (Int × Int))}{n i:Nat}:Ev l n i n=Ev l n (i+1) 0:=by
 unfold Ev;refine Y5 λj hj=>?_;have:=YJ.1 hj;rw[Xu this,Xr (by omega)]
theorem Rr(l:List (List (Int × Int)))(n:Nat):Ev l n l.length 0=(smD l n).map wq:=by
 unfold Ev smD;rw[List.map_map];refine Y5 λj hj=>?_;rw[Xr (by omega),YL];rfl
theorem Sr{l:List (List (Int × Int))}{B:Int}(hB:0<=B){j:Nat}:∀{i:Nat},(∀x∈l,-B<=(x.getD j (0,0)).1/\(x.getD j (0,0)).1<=B/\-B<=(x.getD j (0,0)).2/\(x.getD j (0,0)).2<=B)->-(B*i)<=(pS (l.take i) j).1/\(pS (l.take i) j).1<=B*i/\-(B*i)<=(pS (l.take i) j).2/\(pS (l.take i) j).2<=B*i
 | 0,_=>by simp[pS]
 | i+1,h=>by
  have ih:=Sr hB (i:=i) h;have e:B*((i+1:Nat):Int)=B*i+B:=by rw[Int.natCast_succ,ZX,Int.mul_one]
  rcases XP i l.length with hl|hl
  ·rw[Yh hl,Hn,e]
   have:=h _ (ZU hl);simp only;omega
  ·rw[Yo (by omega)]
   rw[Yo hl]at ih;omega
def al6(s:List (Int × Int)):List D:=[.sl 2 (s.map wq)]
set_option maxHeartbeats 4000000 in
theorem tailD(t:tv)(h:tn t)(xj:List (List (Int × Int)))(U3:xj.length<=100)(hs2:∀x∈xj,x.length=xG t)(hs3:∀x∈xj,∀j,-10000000<=(x.getD j (0,0)).1/\(x.getD j (0,0)).1<=10000000/\-10000000<=(x.getD j (0,0)).2/\(x.getD j (0,0)).2<=10000000)(wl:W')(ok:Nat->Prop):dG qP (wm wl ok) TD (λe st=>e=.ret/\st.n=85/\ae4 st [(4,.sl 1 (((smD xj (xG t)).map UE).map Hr)),(5,.v (.int .i64 0))]) (MH 85 [(6,.pt [.pt (My t) 0] 0),(10,.pt [.sl 1 (xj.map al6)] 0)]):=by
 have cH:(wm wl ok).uk=none:=rfl;have bQ:∀b,(wm wl ok).mine b->(wm wl ok).ok b:=λb hb=>hb.elim;have⟨hg,_,_⟩:=gW h.gr;have yO:=dg hg;have hcn:((xG t:Nat):Int)=t.g.co*t.g.ro:=by unfold xG;omega
 have kY:=Tw h;refine ae (ca 5 mixed (by kernel_rfl) ?_);refine V (aj lg E E) (V (bZ E) (V (af qZ E) (V (ax (ds:=[_,_,_,_,_]) oE E E E) (V (ak F4 (.cons E .nil) E ((by have q:=jG t.g hg;rw[<-hcn]at q;exact q))) (aw ?_)))));refine za (m:=xG t) uX jW Tz E E E E (by (try simp only[Xo]);omega) (by (try simp only[Xo]);omega) E E ?_;refine aN E (aG (x:=.rs _) E) (ai ?_);change dG _ _ _ _ _;refine ae (ae (ca 3 mixed (by kernel_rfl) ?_));refine V (aj ab2 E E) (V (cd ai0 E (by exact aV _ _)) (V (aq (x:=.d (.v _)) E) (aw (ai ?_))));change dG _ _ _ _ _;refine bm (t:=59) E (λaA0=>?_);(try simp only[Xo]at aA0);refine az (bG [16,17,18,61,62,63,64,65,66,67,68,69,70,71,72,73,74,75,76,77,78,79,80,81,82] [58] (α:=Nat) (λi=>[(61,T.i (i:Int))]) (λi=>[(58,.row 108 2 (Ev xj (xG t) i 0))]) (λi=>i<=xj.length) (λi=>xj.length - i) 0 (XC _) ?_ ?_)
 ·exact le_head (ms:=[58]) (by repeat (exact Out.refl _)) ⟨(by rfl),trivial⟩ ⟨(by (show aH.row _ _ _=aH.row _ _ _;(rw[NF];rfl))),trivial⟩ E E E E
 ·intro i hi;refine ae (ca 1 mixed (by kernel_rfl) ?_);refine V (cM E E) (aw (ai ?_));change dG _ _ _ _ _;refine ae (ao E (λl7=>?_) (λl7=>?_))
  ·(try simp only[nb,Xv]at l7);have rY:i<xj.length:=by omega
   obtain⟨x,hx⟩:∃x,xj[i]?=some x:=⟨_,Xp rY⟩;have CC:=hs2 x (XA hx);refine wO ?_;change dG _ _ _ _ _;refine ae (az (ae (ca 3 mixed (by kernel_rfl) ?_)));refine V (aJ Ug E E (by omega) (cm (by omega) hx)) (V (aj ab5 E E) (V (aG (x:=.d (.sl _ _)) E) (aw (ai ?_))));change dG _ _ _ _ _;refine ae (ca 3 mixed (by kernel_rfl) ?_);refine V (aq (x:=.d (.sl _ _)) E) (V (cd MD E (by exact aV _ _)) (V (aq (x:=.d (.v _)) E) (aw (ai ?_))));change dG _ _ _ _ _;refine bm (t:=65) E (λaz9=>?_);(try simp only[Xo]at az9);refine az (bG [17,18,67,68,69,70,71,72,73,74,75,76,77,78,79,80,81] [58] (α:=Nat) (λk=>[(67,T.i (k:Int))]) (λk=>[(58,.row 108 2 (Ev xj (xG t) i k))]) (λk=>k<=xG t) (λk=>xG t - k) 0 (XC _) ?_ ?_)
   ·exact le_head (ms:=[58]) (by repeat (exact Out.refl _)) ⟨(by rfl),trivial⟩ ⟨(by rfl),trivial⟩ E E E E
   ·intro k hk;refine ae (ca 1 mixed (by kernel_rfl) ?_);refine V (cM E E) (aw (ai ?_));change dG _ _ _ _ _;refine ae (ao E (λVr=>?_) (λVr=>?_))
    ·(try simp only[nb,Xv]at Vr);have bH:k<xG t:=by omega
     have Eo:∃e,x[k]?=some e:=⟨_,Xp (by omega)⟩;obtain⟨e,Eo⟩:=Eo;have hxg:x.getD k (0,0)=e:=by rw[X1,Eo];rfl
     have J8:=hs3 x (XA hx) k;rw[hxg]at J8;have WI:=Sr (l:=xj) (B:=10000000) (by decide) (j:=k) (i:=i) (λy hy=>hs3 y hy k);have iK:pS (xj.take (i+1)) k=((pS (xj.take i) k).1+e.1,(pS (xj.take i) k).2+e.2):=by rw[iB hx,Hn,hxg]
     have FT:=Rq (x:=e) bH iK;have hea:=VG (l:=xj) (n:=xG t) (i:=i) bH;have Pa:=AS xj (xG t) i k;refine wO ?_;change dG _ _ _ _ _;refine ae (az (ae (ca 3 mixed (by kernel_rfl) ?_)));refine V (aq (x:=.d (.v _)) E) (V (aJ uX E E (by omega) (cm (by omega) Eo)) (V (ax (ds:=[_,_]) fW E E E) (aw (bL jW E E E (aN E (aG (x:=.d (.v _)) E) (ay fW E E H' E E (by decide) E (ai ?_)))))));change dG _ _ _ _ _;refine ca 9 mixed (by kernel_rfl) ?_;refine V (aq (x:=.rs _) E) (V (aq (x:=.d (.v _)) E) (V (aq (x:=.rs _) E) (V (aq (x:=.d (.v _)) E) (V (gL uX E E E (by omega) (by omega)) (V (B6 fW E E E hea) (V (aX (ds:=[_,_]) fW E E E E) (V (ak an2 (.cons E (.cons E .nil)) E (H2 _ _ _ _ (by omega) (by omega) (by omega) (by omega))) (V (gL uX E E E (by omega) (by omega)) (aw (jL fW E E H' E E (i:=k) (j:=0) E hea (by decide) FT (ai ?_)))))))))));change dG _ _ _ _ _;refine ca 2 mixed (by kernel_rfl) ?_;refine V (lE E E (lL.mk (by omega) (by omega))) (V (aq (x:=.d (.v _)) E) (aw (ai ?_)));refine⟨k+1,by omega,by omega,?_⟩;exact le_head (ms:=[58]) (by repeat (first|exact Out.head E E|(refine Out.put ?_ E)|(refine Out.site ?_ E))) ⟨(by rfl),trivial⟩ ⟨(by rfl),trivial⟩ E E E E
    ·(try simp only[nb,Xv]at Vr);have vP:k=xG t:=by omega
     subst vP;have Jt:=NH (l:=xj) (n:=xG t) (i:=i);refine bJ ?_;change dG _ _ _ _ _;refine ca 2 mixed (by kernel_rfl) ?_;refine V (lE E E (lL.mk (by omega) (by omega))) (V (aq (x:=.d (.v _)) E) (aw (ai ?_)));refine⟨i+1,by omega,by omega,?_⟩;exact le_head (ms:=[58]) (by repeat (first|exact Out.head E E|(refine Out.put ?_ E)|(refine Out.sN ?_ E E E))) ⟨(by rfl),trivial⟩ ⟨(by (show aH.row _ _ _=aH.row _ _ _;(rw[Jt];done))),trivial⟩ E E E E
  ·(try simp only[nb,Xv]at l7);have n7:i=xj.length:=by omega
   subst n7;rw[Rr];refine bJ ?_;change dG _ _ _ _ _;refine ae (dG.le (FH (es:=(smD xj (xG t)).map wq) 58 14 (by show aH.row _ _ _=_;rfl) E E E bQ) ?_);refine ca 4 mixed (by kernel_rfl) ?_;refine V (aq (x:=.d (.sl _ _)) E) (V (ak an1 (.cons E .nil) E (qu (smD xj (xG t)) (by rw[PU];omega))) (V (aG (x:=.d (.sl _ _)) E) (V (aG (x:=.d (.v _)) E) (aw (ai ?_)))));change dG _ _ _ _ _;refine ah ?_;exact⟨rfl,rfl,⟨⟨rfl,I'⟩,⟨rfl,I'⟩,trivial⟩⟩
theorem H0{n:Int}:∀{l ks:List Int},(frR n ks l).1=0->wU n ks->(frR n ks l).2=ks++l/\wU n (ks++l)
 | [],ks,_,h=>by rw[ZL];exact⟨rfl,h⟩
 | x::l,ks,h,hk=>by
  unfold frR at h ⊢;by_cases h1:¬dP 0 x (n - 1)=true
  ·rw[Xu h1]at h;cases h
  ·rw[Xr h1]at h ⊢
   by_cases h2:x∈ks
   ·rw[Xu h2]at h;cases h
   ·rw[Xr h2]at h ⊢
    have h3:=cY.1 (XU.1 h1);have:=H0 h (Ag hk h3 h2);rwa [Yr,List.singleton_append]at this
theorem NZ{n:Int}:∀{dl:List (List Int)} {ks:List Int} {b:Int},(dlT n ks b dl).1=0->wU n ks->(dlT n ks b dl).2.1=ks++dl.flatten/\wU n (ks++dl.flatten)
 | [],ks,b,_,h=>by rw[List.flatten_nil,ZL];exact⟨rfl,h⟩
 | l::dl,ks,b,h,hk=>by
  unfold dlT at h ⊢;by_cases h1:(frR n ks l).1≠0
  ·rw[Xu h1]at h;exact absurd h h1
  ·rw[Xr h1]at h ⊢
   have⟨e,O8⟩:=H0 (XU.1 h1) hk;rw[e]at h ⊢;have:=NZ h O8;rwa [Yr,<-ZP]at this
theorem SA{n:Int}{dl:List (List Int)}(h:(rm n dl).2=0):wU n dl.flatten/\dl.length<=16/\n<=dl.flatten.length:=by
 unfold rm at h
 split at h
 ·cases h
 split at h
 ·cases h
 split at h
 ·rename_i h3;exact absurd h h3
 split at h
 ·cases h
 rename_i h1 h2 h3 h4;obtain⟨e,hk⟩:=NZ (XU.1 h3) (⟨List.nodup_nil,λx hx=>by cases hx⟩:wU n []);rw[Yt]at e hk;rw[e]at h4;exact⟨hk,by omega,by omega⟩
theorem QA{n:Nat}{x:Int}:x∈gY n↔0<=x/\x<n:=by
 refine⟨Iq,λh=>?_⟩;unfold gY;exact X6.2 ⟨x.toNat,YJ.2 (by omega),by omega⟩
theorem Jd(n:Nat):(gY n).Nodup:=by
 unfold gY;rw[List.Nodup,List.pairwise_map];exact List.nodup_range.imp λh q=>h (by omega)
theorem JH{n:Int}{dl:List (List Int)}(hn:0<=n)(h:(rm n dl).2=0):dl.flatten.Perm (gY n.toNat):=by
 have⟨hk,_,hl⟩:=SA h;refine(List.perm_ext_iff_of_nodup hk.1 (Jd _)).2 λx=>?_;rw[QA];constructor
 ·intro hx;have:=hk.2 x hx;omega
 ·intro hx
  refine Decidable.by_contra λhc=>?_;have:=FJ (Ag hk (by omega) hc) hn;rw[XI,List.length_singleton]at this;omega
theorem Kr(t:tv)(c:Int)(x y:Int × Int)(s:(Int × Int) × Int):EE t c [] (EE t c [] s x) y=EE t c [] (EE t c [] s y) x:=by
 rw[nK,nK,nK,nK];by_cases q1:dP 0 (su t.ar (gZ t.g c) x) 60=true<;>by_cases q2:dP 0 (su t.ar (gZ t.g c) y) 60=true<;>simp[q1,q2]<;>omega
theorem Ks(t:tv)(c:Int){l m:List (Int × Int)}(h:l.Perm m):lN t c [] l=lN t c [] m:=h.foldl_eq' (λx _ y _ s=>Kr t c x y s) _
theorem zm(t:tv)(c:Int):∀(l:List (Int × Int)) (s:(Int × Int) × Int),l.foldl (EE t c []) s=((s.1.1+(lN t c [] l).1.1,s.1.2+(lN t c [] l).1.2),s.2+(lN t c [] l).2)
 | [],s=>by
  show s=((s.1.1+0,s.1.2+0),s.2+0)
  simp
 | y::l,s=>by
  have e:lN t c [] (y::l)=l.foldl (EE t c []) (EE t c [] ((0,0),0) y):=rfl;rw[e,zm t c l];show l.foldl (EE t c []) (EE t c [] s y)=_
  rw[zm t c l,nK,nK];by_cases q:dP 0 (su t.ar (gZ t.g c) y) 60=true
  ·rw[Xu q,Xu q]
   simp only[ZM];omega
  ·rw[Xr q,Xr q]
   simp only[ZM];omega
theorem Pr(t:tv)(c:Int)(l m:List (Int × Int)):lN t c [] (l++m)=(((lN t c [] l).1.1+(lN t c [] m).1.1,(lN t c [] l).1.2+(lN t c [] m).1.2),(lN t c [] l).2+(lN t c [] m).2):=by
 have e:lN t c [] (l++m)=m.foldl (EE t c []) (lN t c [] l):=by unfold lN;rw[List.foldl_append]
 rw[e,zm]
theorem Qk(l m:List Int)(n:Nat):mW (l++m) n=mW l n++mW m n:=by unfold mW;rw[List.flatMap_append]
def we(t:tv)(dl:List (List Int)):List (List (Int × Int)):=dl.map λfs=>GC t fs []
theorem Pp(t:tv)(fs:List Int):(GC t fs []).length=xG t:=pY _ _ _ _
theorem Kp(t:tv)(fs:List Int)(j:Nat):(GC t fs []).getD j (0,0)=if j<xG t then (lN t (j:Int) [] (mW fs t.ne.toNat)).1 else (0,0):=by
 rw[X1];unfold GC uK;rw[XF]
 split
 ·rename_i h;rw[Y4 h];rfl
 ·rename_i h;rw[List.getElem?_eq_none (by rw[Yx];omega)];rfl
theorem Ho(t:tv){j:Nat}(hj:j<xG t):∀(dl:List (List Int)) (s:Int × Int),(we t dl).foldl (λs x=>(s.1+(x.getD j (0,0)).1,s.2+(x.getD j (0,0)).2)) s=(s.1+(lN t (j:Int) [] (mW dl.flatten t.ne.toNat)).1.1,s.2+(lN t (j:Int) [] (mW dl.flatten t.ne.toNat)).1.2)
 | [],s=>by
  show s=(s.1+0,s.2+0)
  simp
 | fs::dl,s=>by
  have e:we t (fs::dl)=GC t fs []::we t dl:=rfl;rw[e,List.foldl_cons,Ho t hj dl,ZP,Qk,Pr,Kp,Xu hj];simp only[ZM];omega
theorem aW6{t:tv}{dl:List (List Int)}(h:tn t)(J:(rm t.ne dl).2=0):(smD (we t dl) (xG t)).map UE=imL t (evI t) []:=by
 have hn:=h.n1;unfold imL GC uK smD evI;congr 1;refine Y5 λj hj=>?_;have bH:=YJ.1 hj;have hp:(mW dl.flatten t.ne.toNat).Perm (mW (gY t.ne.toNat) t.ne.toNat):=List.Perm.flatMap_right _ (JH (by omega) J);unfold pS;rw[Ho t bH,Ks t _ hp];simp
theorem aW4{t:tv}{dl:List (List Int)}(h:tn t)(hl:∀x∈dl,x.length<=20):(∀x∈we t dl,x.length=xG t)/\∀x∈we t dl,∀j,-10000000<=(x.getD j (0,0)).1/\(x.getD j (0,0)).1<=10000000/\-10000000<=(x.getD j (0,0)).2/\(x.getD j (0,0)).2<=10000000:=by
 have Bi:=h.n2;refine⟨λx hx=>?_,λx hx j=>?_⟩
 ·obtain⟨fs,_,rfl⟩:=X6.1 hx
  exact Pp t fs
 ·obtain⟨fs,hfs,rfl⟩:=X6.1 hx
  rw[Kp]
  split
  ·have hb:=EF h (c:=(j:Int)) (dd:=[]) (l:=mW fs t.ne.toNat) _ (Xw _)
   rw[YL,zS]at hb;have h1:=hl fs hfs;have h2:fs.length*t.ne.toNat<=20*16:=Nat.mul_le_mul h1 (by omega);have h3:((fs.length*t.ne.toNat:Nat):Int)<=320:=by omega
   have h4:(0:Int)<=((fs.length*t.ne.toNat:Nat):Int):=Int.natCast_nonneg _;generalize ((fs.length*t.ne.toNat:Nat):Int)=q at *;omega
  ·simp
theorem aN5{dl:List (List Int)}(h:Lv dl=true):dl.length<=18/\∀x∈dl,x.length<=20:=by
 unfold Lv at h;rw[Xs,XW,X0]at h;exact⟨h.1,λx hx=>by have:=h.2 x hx;simpa using this⟩
theorem aW5(t:tv)(fs:List Int):Par.Wo ((GC t fs []).map wq):=by
 intro x hx d J;obtain⟨y,_,rfl⟩:=X6.1 hx;simp only[wq,Xy,XG,Yn]at J;rcases J with rfl|rfl<;>exact⟨_,rfl⟩
theorem aV1{t:tv}(h:tn t)(c:Int){l:List (Int × Int)}(hl:l.length<=1600):(-6600000<=(lN t c [] l).1.1/\(lN t c [] l).1.1<=6600000)/\-6600000<=(lN t c [] l).1.2/\(lN t c [] l).1.2<=6600000:=by
 have hb:=EF h (c:=c) (dd:=[]) (l:=l) l.length (Xw _);rw[YL]at hb;omega
theorem aY9{x:Int × Int}(h1 : -10000000<=x.1/\x.1<=10000000)(h2 : -10000000<=x.2/\x.2<=10000000):MI (UE x)=0/\vZ (UE x)=x:=by
 obtain⟨a1,a2,a3⟩:=aS8 (a:=x.1) (by omega);obtain⟨b1,b2,b3⟩:=aS8 (a:=x.2) (by omega);refine⟨?_,?_⟩
 ·unfold MI UE
  simp only;rw[a1,b1,a3,b3,XV (by omega),XV (by omega)];rfl
 ·unfold vZ UE
  simp only;rw[a2,b2]
theorem Lo  : PC qP 16 [] (.v (.bool (true))):=by
 refine aY (qA func16 E) E ntmps16 results16 λw0 bQ cH iK=>ae (xa 1 (V aA (rs (xa 9 (V (ak an4 .nil E (LY)) (V (ak aE6 (.cons E (.cons E .nil)) E ((by have h:=Iz Fu 0 Hu LX;rw[ak8,al5]at h;exact h))) (V (aq (x:=.d (.da _)) E) (V (au E E) (V (au E E) (V (au E E) (V aA (V aA (V aA (rs (xa 11 (V aF (V (fG E E) (V aF (aE E E (λhG=>aF) (aE E E (λhG=>(ak an3 (.cons E (.cons E .nil)) E (u4 4629137466983448576 13849694754071117824 4629137466983448576 13849694754071117824))) (aT E E E E E E ?_)))))))))))))))))))));refine V aF (aE E E (λhG=>aF) (aE E E (λhG=>(fG E E)) (aT E E E E E E ?_)));refine V aA (xc (ah ?_));refine⟨_,cS,?_⟩;simp[retD,sbB]
theorem Ac(dl:List (List Int)):PC qP 17 [.sl 1 (dl.map lC)] (.v (.bool (Lv dl))):=by
 refine av (qA func17 E) E ntmps17 results17 λw0=>ae (xa 1 (V aA (rs (ae (xa 3 (V (aq (x:=.d (.sl _ _)) E) (V (cd tC E (by exact aV _ _)) (V (gM E E) (xc (bm (t:=4) E (λhl4=>?_)))))))))));(try simp only[Xo]at hl4);refine ao E (λbW=>?_) (λbW=>?_)
 ·(try simp only[nb,Xv]at bW);have hz:Lv dl=false:=by unfold Lv;rw[XV (by omega)];rfl
  refine ae (xa 1 (V aA (xc (ah ?_))));refine⟨_,cS,?_⟩;rw[hz];rfl
 ·(try simp only[nb,Xv]at bW);have eE:Lv dl=dl.all λl=>decide (l.length<=20):=by unfold Lv;rw[ZS (by omega)];rfl
  refine wO ?_;change dG _ _ _ _ _;refine ae (ae (xa 1 (V aA (xc (az ?_)))));refine bG [2,3,7,8,9,10,11,12,13,14,15,16,17,18] [] (α:=Nat) (λk=>[(3,T.i (k:Int))]) (λk=>[]) (λk=>k<=dl.length/\((dl.take k).all λl=>decide (l.length<=20))=true) (λk=>dl.length - k) 0 ⟨XC _,by simp⟩ ?_ ?_
  ·exact xh (ms:=[]) (by repeat (exact Out.refl _)) ⟨(by rfl),trivial⟩ trivial
  ·intro k ⟨hk,hf⟩;refine ae (ae (xa 4 (V aF (V (aq (x:=.d (.sl _ _)) E) (V (cd tC E (by exact aV _ _)) (V (cM E E) (xc (bm (t:=8) E (λMW=>?_)))))))));(try simp only[Xo]at MW);refine ao E (λeJ=>?_) (λeJ=>?_)
   ·(try simp only[nb,Xv]at eJ);have bH:k<dl.length:=by omega
    obtain⟨x,hx⟩:∃x,dl[k]?=some x:=⟨_,Xp bH⟩;refine wO ?_;change dG _ _ _ _ _;refine ae (az (ae (xa 6 (V (aq (x:=.d (.sl _ _)) E) (V aF (V (aJ uW E E (by omega) (cm (by omega) hx)) (V (aj pn E E) (V (cd iX E (by exact aV _ _)) (V (gM E E) (xc (bm (t:=16) E (λAy=>?_))))))))))));(try simp only[Xo]at Ay);refine ao E (λwx=>?_) (λwx=>?_)
    ·(try simp only[nb,Xv]at wx)
     have hz:Lv dl=false:=by
      rw[eE];exact List.all_eq_false.2 ⟨x,XA hx,by rw[XW];omega⟩
     refine ae (xa 1 (V aA (xc (ah ?_))));refine⟨_,cS,?_⟩;rw[hz];rfl
    ·(try simp only[nb,Xv]at wx);have Jt:((dl.take (k+1)).all λl=>decide (l.length<=20))=true:=by rw[iB hx,List.all_append,hf];simp;omega
     refine wO ?_;change dG _ _ _ _ _;refine xa 3 (V aF ?_);refine V (lE E E xi) (V aA (rn ?_));refine⟨k+1,⟨by omega,Jt⟩,by omega,?_⟩;exact xh (ms:=[]) (by repeat (first|exact Out.head E E|(refine Out.put ?_ E))) ⟨(by rfl),trivial⟩ trivial
   ·(try simp only[nb,Xv]at eJ);have hz:Lv dl=true:=by rw[eE,<-YL (l:=dl),<-show k=dl.length from by omega];exact hf
    refine bJ ?_;change dG _ _ _ _ _;refine ae (xa 1 (V aA (xc (ah ?_))));refine⟨_,cS,?_⟩;rw[hz];rfl
theorem aT4{t:tv}(h:tn t):(pwR (imL t (evI t) [])).2=0/\(pwR (imL t (evI t) [])).1.length=xG t:=by
 have kY:=Tw h;have fq:=(bd5 h).2
 have e:imL t (evI t) []=(List.range (xG t)).map λc:Nat=>UE (lN t (c:Int) [] (NC t)).1:=by
  unfold imL GC uK;rw[List.map_map];rfl
 have hz:∀c:Nat,MI (UE (lN t (c:Int) [] (NC t)).1)=0:=λc=>by
  have:=aV1 h (c:Int) fq;exact(aY9 (by omega) (by omega)).1
 have hp:∀l:List Nat,peS (l.map λc:Nat=>UE (lN t (c:Int) [] (NC t)).1)=0:=by
  intro l
  induction l with
  | nil=>rfl
  | cons c l ih=>
   rw[Yd];unfold peS;rw[Xr (λq=>q (hz c))];exact ih
 unfold pwR;rw[e,Xr (by rw[Xo,Yx];omega),Xr (λq=>q (hp _))];exact⟨rfl,by rw[Xo,Xo,Yx]⟩
end
end Go.Proofs.YthcfokccjljnpaaGreat.Am.M
namespace Go.Proofs.YthcfokccjljnpaaGreat.Par
open Go Go.Conc Go.ConcN Go.RowKit Go.Conc.Lib Go.ConcR.Gen Go.Proofs.Tryz
open Go.ConcR (KK wgBlock WgAt stA smA rd wr mk Payload DC0)
section
open Am (D iN)
open Am.M (tv My iC wq rm tn GC aZ6 SA aW5 aK7)
theorem Vz:Fk qP prog (KO 0 prog) id:=fkQ id
theorem nz{M:Nat}(h:(0:Nat)≠0):M=0:=absurd E h
theorem Gj:spin oY aJ3=DR:=by kernel_rfl
theorem G2:spine aJ3:=by show spine (.seq _ (.seq _ (.seq _ (.seq _ (.seq _ .skip)))));exact trivial
theorem Hx:okC 0 prog aJ3=true:=by kernel_rfl
theorem af4:okC 0 prog TD=true:=by kernel_rfl
theorem af5:okI 0 prog (.inRegion qp [])=true:=by kernel_rfl
theorem pC{f:Nat}{T:Array Z3}{items:List Item}(hf:∃fn wB,qP.funcs[f]?=some fn/\prog.funcs[f]?=some wB/\wB.results=fn.results)(h:∀i∈items,okI 0 prog i=true):mu 0 qP prog ((base f).at ⟨T,[]⟩ items):=
 ⟨rfl,.inl E,h,(λd J=>by cases J),λ_=>hf⟩
theorem L9{g:Nat}{f:Func}(h:prog.funcs[g]?=some f)(hg:flags[g]?=some false):qP.funcs[g]?=some (oH f.results):=by
 have h':prog.funcs.toList[g]?=some f:=by simpa using h
 show (⟨mapG flags prog.funcs.toList⟩:Array Func)[g]?=some _
 rw[XY,uB,hg,h'];rfl
theorem fnE:∃fn wB,qP.funcs[8]?=some fn/\prog.funcs[8]?=some wB/\wB.results=fn.results:=⟨_,_,L9 func8 E,func8,rfl⟩
theorem ah3:(Tryz.f8.name == "runtime.NumGoroutine")=false:=by kernel_rfl
theorem ntD:Tryz.f8.ntmps=85:=by kernel_rfl
theorem Sg.below{M M0:Nat}{w wE w':W'}(S:Sg M w wE w')(h:w.heap.size<=w'.heap.size)(hM:M0<=M):Below M0 w w':=⟨S.os,S.tape,S.output,h,λk hk=>S.low k (by omega)⟩
theorem Tm.low{w w':W'}{ok ok':Nat->Prop}{l:List (Nat × D)}{T:Array Z3}(h:Tm w ok l T)(hs:w.heap.size<=w'.heap.size)(hk:∀b,b<w.heap.size->w'.heap[b]?=w.heap[b]?)(bg:∀b,b<w.heap.size->ok' b):Tm w' ok' l T:=by
 refine(h.imp (λd v r=>Am.iN.ok r (ok':=λb=>b<w.heap.size) λb hb _=>hb)).cells hs (λa v ha hc=>?_) λb hb _=>bg b hb;unfold World.cell? at hc ⊢;rw[hk _ ha];exact hc
variable{m0:Z9}{w wl wE wc:W'}{T:Array Z3}{t:tv}{dl:List (List Int)}{A:Option Addr}{cap bx C bs M:Nat}{xv:Z3}{lf:Frame}
theorem By{fs:List Int}{fv:Z3}(h:tn t)(hf:∀x∈fs,0<=x/\x<t.ne)(hl:fs.length<=100){w1:W'}{ok:Nat->Prop}(hx:iN w1 ok (.pt (My t) 0) xv)(hv:iN w1 ok (.sl 1 (fs.map iC)) fv) :
  ∃N cB wE v,Lone qP N (lone (Pf xv fv) [di qP] w1) cB wE/\cB.mode=.returning/\cB.defers=[]/\(∃fn,qP.funcs[cB.fn]?=some fn/\(results fn cB.tmps).run qP wE=.ok v wE)/\iN wE (λ_=>True) (.sl 2 ((GC t fs []).map wq)) v:=by
 obtain⟨e,w',fr,⟨v,rfl,_,Y⟩,⟨N,hs⟩,WX,hm,J,_,sL⟩:=aK7 t fs [] h hf hl w1 ok [xv,fv,.slice none 0 0] ⟨hx,hv,.emp _ _ _ (XC _),trivial⟩ [di qP]
 have e1:Frame.enter qP 35 [xv,fv,.slice none 0 0].toArray .normal=Pf xv fv:=by
  rw[enter_at _ (qA func35 E) DQ,ntV];rfl
 rw[e1]at hs;exact⟨N,fr,w',v,⟨hs,λch=>by rw[hm];simp⟩,hm,J,sL,Am.iN.ok Y λ_ _ _=>trivial⟩
def ak6(A:Option Addr)(w:W')(i:Nat):Z3:=match A with|some ad=>(w.cell? (ad.add i)).getD undef|none=>undef
def Pq(t:tv)(dl:List (List Int))(i:Nat):List (List D):=(GC t (dl.getD i []) []).map wq
theorem Nq{X:Nat->Prop}(h:tn t)(J:(rm t.ne dl).2=0)(hl:∀x∈dl,x.length<=20)(hXl:∀b,X b->b<wl.heap.size)(G:aZ6 t dl (λb=>¬X b) wl wE T A cap bx C bs xv)(S:Sg M wc wE w)(hM:M<=C):uI X w C dl.length bx bs cap A T xv (ak6 A w) (Pq t dl):=by
 have⟨hk,Ay,_⟩:=SA J;have hC:=G.hC;have hx:=G.hx;have hs:=S.size;have nX:∀{b},(¬X b\/wl.heap.size<=b)->¬X b:=λ{b} h hx=>h.elim (λh=>h hx) λh=>by have:=hXl _ hx;omega
 have el:∀i,i<dl.length->∃ad v,A=some ad/\(ad.add i).block<C/\¬X (ad.add i).block/\w.cell? (ad.add i)=some v/\iN wE (λb=>b<C/\(¬X b\/wl.heap.size<=b)) (.sl 1 ((dl.getD i []).map iC)) v/\ak6 A w i=v/\dl.getD i []∈dl:=λi hi=>by
  obtain⟨ad,v,rfl,h1,h1o,h2,h3⟩:=G.el i dl[i] (Xp hi);have e:dl.getD i []=dl[i]:=by rw[X1,Xp hi];rfl
  refine⟨ad,v,rfl,h1,nX h1o,S.cell _ _ h2,by rw[e];exact h3,?_,by rw[e];exact ZU hi⟩;show (w.cell? (ad.add i)).getD undef=v
  rw[S.cell _ _ h2];rfl
 refine⟨G.sz,G.t1,G.t6,G.t10,by omega,λb hb=>by have:=hXl b hb;exact⟨by omega,by omega⟩,⟨⟨by omega,by omega⟩,nX G.hxo⟩,⟨⟨by omega,by omega⟩,λhb=>by have:=hXl _ hb;omega⟩,?_,S.cell _ _ G.sh,S.cell _ _ G.xb,λi hi=>?_,λi hi=>?_,λi=>aW5 t _,λi hi w1 tX bW=>?_,by omega⟩
 ·have⟨cs,h1,h2⟩:=G.pay
  exact⟨cs,S.heap _ _ hM h1 (λe=>by cases e),h2⟩
 ·obtain⟨ad,v,rfl,h1,h1o,h2,_,h3,_⟩:=el i hi
  exact⟨ad,rfl,⟨by omega,by omega⟩,h1o,by rw[h3];exact h2⟩
 ·obtain⟨ad,v,rfl,h1,_,h2,Y,h3,_⟩:=el i hi
  rw[h3];exact yi Y
 ·obtain⟨ad,v,rfl,h1,_,h2,Y,h3,hm⟩:=el i hi
  rw[h3];have jE:∀(a:Addr) v,(a.block<C/\(¬X a.block\/wl.heap.size<=a.block))->wE.cell? a=some v->w1.cell? a=some v:=λa v ha hv=>bW a v (by omega) (by omega) (nX ha.2) (S.cell _ _ hv);refine By (ok:=λ_=>True) h (λx hx=>?_) (by have:=hl _ hm;omega) (jk G.xr (by omega) jE λ_ _ _=>trivial) (jk Y (by omega) jE λ_ _ _=>trivial);have:=hk.2 x (List.mem_flatten.2 ⟨_,hm,hx⟩);omega
open Am.M (q8 lC Hr UE ckT S6 xG we smD al6 bE ar4 aY8 aY7 tailD aW4)
theorem Ft{α:Type}{x d:α}{j:Nat}(h:[x][j]?=some d):j=0/\d=x:=by
 cases j with
 | zero=>cases h;exact⟨rfl,rfl⟩
 | succ j=>simp at h
end
section
open Am (iN)
open Am.M (tv q8 My lC Hr UE ckT S6 rm tn xG we smD al6 bE ar4 aZ6 aY8 aY7 tailD SA aW4)
variable{m0:Z9}{w wl wE wc:W'}{T:Array Z3}{t:tv}{dl:List (List Int)}{A:Option Addr}{cap bx C bs M p:Nat}{xv:Z3}{lf:Frame}{Sh:Loc->Prop}{X:Nat->Prop}
theorem F9(h:tn t)(J:(rm t.ne dl).2=0)(hl:∀x∈dl,x.length<=20)(hXl:∀b,X b->b<wl.heap.size)(hSX:∀l,Sh l->∃a,l=.cell a/\X a.block)(hp:p<=1000)(G:aZ6 t dl (λb=>¬X b) wl wE T A cap bx C bs xv)(S:Sg M wc wE w)(hM:M<=C)(ep:lf.mode=.run)(h1:JW prog m0 p Sh ((base 8).at ⟨T,[]⟩ [.code oY]) [lf] w) :
  ∃Wg T' td w',JW prog m0 (p+dl.length) (λl=>ShN Wg l\/Sh l) { bE.at ⟨T',[]⟩ td with mode:=.returning } [lf] w'/\w.heap.size<=Wg/\Wg<w'.heap.size/\Tm w' (λb=>¬(b=Wg\/X b)) [(4,.sl 1 (((smD (we t dl) (xG t)).map UE).map Hr)),(5,.v (.int .i64 0))] T'/\Below M w w':=by
 have hC:=G.hC;have hx:=G.hx;have hs:=S.size;have nX:∀{b},(¬X b\/wl.heap.size<=b)->¬X b:=λ{b} h hx=>h.elim (λh=>h hx) λh=>by have:=hXl _ hx;omega
 have⟨_,Ay,_⟩:=SA J;have St:=Nq h J hl hXl G S hM;obtain⟨n,wZ,sl,tr0,q,B0,r1,rs,r2,r3,r4,r5⟩:=h1;obtain⟨N,m1,t1,k1,⟨k2,k3,k4,k5⟩,n',gs,g,w',sl',t',q',B,Ss,val,j1,j2,j3,j4,j5,j6,jg,j7,j8,j9,j10,j11,j12,j13,j14⟩:=DC (p:=p) St hSX [lf] sl r2 r3 r4 rs r5 (by omega);have⟨T2,S3,hg,hG⟩:=j4;have⟨m,hm⟩:=hG.at (w:=w') trivial;have US:∀b,b<w.heap.size->b≠C->w'.heap[b]?=w.heap[b]?:=λb hb hc=>(j13 b ⟨Nat.lt_succ_of_lt hb,by show b≠w.heap.size;omega,hc⟩).trans (k5 b hb);have xx:w.heap.size+1<=w'.heap.size:=j14;obtain⟨d,hN⟩:=D2 (P:=prog) (m0:=m0) (p:=p+dl.length) (Shun:=λl=>ShN w.heap.size l\/Sh l) (w:=w') (fr':=(base 8).at ⟨T2,[]⟩ [.inRegion qp [],.code TD]) (cs':=[lf]) ⟨_,gs,sl',t',q',B,gC r1 (gC k1 j1),j2,j3,j5,j6.mono (Nat.le_max_left ..),jg⟩ (eF (λg' w h=>h.1) hm)
 have jE:∀(a:Addr) v,(a.block<C/\(¬X a.block\/wl.heap.size<=a.block))->wE.cell? a=some v->w'.cell? a=some v:=λa v ⟨ha,_⟩ hv=>by
  have:=S.cell _ _ hv;unfold World.cell? at this ⊢;rw[US _ (by omega) (by omega)];exact this
 have Nh:∀(a:Addr) v,a.block<w.heap.size->a.block≠C->w.cell? a=some v->w'.cell? a=some v:=λa v ha hc hv=>by
  unfold World.cell? at hv ⊢;rw[US _ ha hc];exact hv
 have g6:iN (w'.at d) (λb=>¬(b=w.heap.size\/X b)) (.pt [.pt (My t) 0] 0) (.pointer (some ⟨bx,0,none⟩)):=by
  refine .pt [.pt (My t) 0] 0 bx 0 (λ_=>xv) (by show bx<w'.heap.size;omega) (λh=>h.elim (λh=>by omega) (nX G.hxo)) (λj d hj=>?_) (λj d hj=>?_) (λj d hj=>?_)
  all_goals (obtain⟨rfl,rfl⟩:=Ft hj)
  ·rfl
  ·exact Nh _ _ (by show bx<_;omega) (by show bx≠C;omega) (S.cell _ _ G.xb)
  ·exact jk G.xr (by show wE.heap.size<=w'.heap.size;omega) jE λb hb hk h=>h.elim (λh=>by omega) (nX hk.2)
 have g10:iN (w'.at d) (λb=>¬(b=w.heap.size\/X b)) (.pt [.sl 1 ((we t dl).map al6)] 0) (.pointer (some ⟨bs,0,none⟩)):=by
  have e:(.slice (some ⟨C,0,none⟩) dl.length dl.length:Z3)=.slice (some ⟨C,0,none⟩) ((we t dl).map al6).length dl.length:=by rw[Xo];unfold we;rw[Xo]
  refine .pt [.sl 1 ((we t dl).map al6)] 0 bs 0 (λ_=>.slice (some ⟨C,0,none⟩) dl.length dl.length) (by show bs<w'.heap.size;omega) (λh=>h.elim (λh=>by omega) λh=>by have:=hXl _ h;omega) (λj d hj=>?_) (λj d hj=>?_) (λj d hj=>?_)
  all_goals (obtain⟨rfl,rfl⟩:=Ft hj)
  ·rfl
  ·exact Nh _ _ (by show bs<_;omega) (by show bs≠C;omega) (S.cell _ _ G.sh)
  ·rw[e]
   have at_:∀(i:Nat) x,((we t dl).map al6)[i]?=some x->i<dl.length/\x=[.sl 2 (Pq t dl i)]:=λi x hx=>by
    unfold we at hx;rw[XF,XF]at hx
    cases hi:dl[i]? with
    | none=>rw[hi]at hx;cases hx
    | some fs=>
     rw[hi]at hx;cases hx
     refine⟨(Xt.1 hi).1,?_⟩;unfold al6 Pq;rw[X1,hi];rfl
   refine .sl 1 _ C 0 dl.length (λi _=>val (p+i)) (by show C<w'.heap.size;omega) (λh=>h.elim (λh=>by omega) λh=>by have:=hXl _ h;omega) (by rw[Xo];unfold we;rw[Xo];exact Xw _) (by simp only[maxLen];omega) (λi x hx=>?_) (λi x j d hx hj=>?_) (λi x j d hx hj=>?_) (λi x j d hx hj=>?_)
   ·rw[(at_ i x hx).2];rfl
   all_goals (obtain⟨hi,rfl⟩:=at_ i x hx)
   all_goals (obtain⟨rfl,rfl⟩:=Ft hj)
   ·rfl
   ·have:=(j8 (p+i) (Nat.le_add_right ..) (by show p+i<p+dl.length;omega)).1
    have h2:w'.cell? ⟨C,p+i - p,none⟩=some (val (p+i)):=this;rw[Yy]at h2;show w'.cell? ⟨C,0+i*1+0,none⟩=_
    rw[show 0+i*1+0=i by omega];exact h2
   ·have:iN w' (Ss (p+i)) (.sl 2 (Pq t dl (p+i - p))) (val (p+i)):=(j8 (p+i) (Nat.le_add_right ..) (by show p+i<p+dl.length;omega)).2
    rw[Yy]at this;refine jk this (Xw _) (λ_ _ _ h=>h) λb hb hk h=>?_;rcases j9 (p+i) b hk with h2|h2
    ·exact h.elim (λh=>h2.1.2.1 h) (λh=>h2.2 h)
    ·have h3:w.heap.size+1<=b:=h2
     exact h.elim (λh=>by omega) λh=>by have:=hXl _ h;omega
 have⟨q2,q3⟩:=aW4 h hl
 obtain ⟨T', td, w2, wE2, a1, a2, a3, a4, a5⟩ := DY (M := M) (X := λb => b = w.heap.size \/ X b) (b := bE) (r := none) (n := 85) (l := [(6, .pt [.pt (My t) 0] 0), (10, .pt [.sl 1 ((we t dl).map al6)] 0)]) (l' := [(4, .sl 1 (((smD (we t dl) (xG t)).map UE).map Hr)), (5, .v (.int .i64 0))]) Vz nz hN (by show M <= w'.heap.size; omega) (λb hb => by
   show b<w'.heap.size
   rcases hb with h|h
   ·omega
   ·have:=hXl _ h;omega) (λl hl=>hl.elim (λ⟨a,e,hb⟩=>⟨a,e,.inl hb⟩) λh=>let ⟨a,e,hb⟩:=hSX l h;⟨a,e,.inr hb⟩) (λc hc=>by simp at hc;rw[hc];exact ep) (pC fnE λi hi=>by
  simp only[Xy,XG,Yn]at hi;rcases hi with rfl|rfl
  ·exact af5
  ·exact af4) (.same E E) ⟨⟨_,S3.t6,g6⟩,⟨_,S3.t10,g10⟩,trivial⟩ S3.sz (λwl=>Eh (at9 E (tailD t h (we t dl) (by unfold we;rw[Xo];omega) q2 q3 wl _)))
 refine⟨w.heap.size,T',td,w2,a1,Xw _,by have:(w'.at d).heap.size=w'.heap.size:=rfl;omega,a3,?_⟩;have hb:Below M w (w'.at d):=⟨(j11.trans k3:w'.os=w.os),(j10.trans k2:w'.tape=w.tape),(j12.trans k4:w'.output=w.output),by show w.heap.size<=w'.heap.size;omega,λk hk=>US k (by omega) (by omega)⟩;exact hb.trans (a4.below a5 (Xw _))
theorem AR{f:Nat}{rc c:Code}{cs:List Frame}{T:Array Z3}(hs:spine c):Ex (some rc) cs (cy ((base f).at ⟨T,[]⟩ [.code c,.code (.exit 0)]) cs) (cy ((base f).at ⟨T,[]⟩ [.code (spin rc c)]) cs):=
 .top rc c ((base f).at ⟨T,[]⟩ []) E hs E E E
theorem ux:okC 0 prog (.exit 0)=true:=rfl
theorem rB{c d:Code}{i:Item}(hi:i∈[Item.code c,.code d])(h:okC 0 prog c=true)(h':okC 0 prog d=true):okI 0 prog i=true:=by
 simp only[Xy,XG,Yn]at hi;rcases hi with rfl|rfl
 ·exact h
 ·exact h'
def qX(t:tv)(dl:List (List Int)):List (Nat × Nat) × Int:=
 if (rm t.ne dl).2≠0 then ([],(rm t.ne dl).2) else ((smD (we t dl) (xG t)).map UE,0)
def ai3(m0:Z9)(p:Nat)(X:Nat->Prop)(lf:Frame)(w:W')(t:tv)(dl:List (List Int)):Prop:=
 ∃(p':Nat) (Sh':Loc->Prop) (X':Nat->Prop) (T':Array Z3) (td:List Item) (w':W'),JW prog m0 p' Sh' { bE.at ⟨T',[]⟩ td with mode:=.returning } [lf] w'/\p'<=p+dl.length/\(∀b,X' b->b<w'.heap.size)/\(∀l,Sh' l->∃a,l=.cell a/\X' a.block)/\(∀b,b<w.heap.size->X' b->X b)/\
  Tm w' (λb=>¬X' b) [(4,.sl 1 ((qX t dl).1.map Hr)),(5,.v (.int .i64 (qX t dl).2))] T'/\Below w.heap.size w w'
theorem aN9{m0:Z9}{w:W'}{t:tv}{dl:List (List Int)}{p:Nat}{lf:Frame}{Sh:Loc->Prop}{X:Nat->Prop}{T:Array Z3}(hc:(ckT t).2=0)(Vf:dl.length<=1000)(hl:∀x∈dl,x.length<=20)(hX:∀b,X b->b<w.heap.size)(hSX:∀l,Sh l->∃a,l=.cell a/\X a.block)(hp:p<=1000)(ep:lf.mode=.run)
  (hA:JW prog m0 p Sh ((base 8).at ⟨T,[]⟩ [.code DR]) [lf] w) (hT:Tm w (λb=>¬X b) [(0,.agg (q8 t)),(1,.sl 1 (dl.map lC))] T) (hn:T.size=85):ai3 m0 p X lf w t dl:=by
 have vR:∀c∈[lf],c.mode=.run:=λc hc=>by simp at hc;rw[hc];exact ep
 rw[<-Gj]at hA
 have early:∀e:Int,qX t dl=([],e)->(∀wl ok,SW qP bE [di qP] (wm wl ok) (D8 85 bE ok wl [(4,.sl 1 []),(5,.v (.int .i64 e))]) [.code aJ3,.code (.exit 0)] (MH 85 [(0,.agg (q8 t)),(1,.sl 1 (dl.map lC))]))->ai3 m0 p X lf w t dl:=by
  intro e he Er;obtain⟨T',td,w',wE,f1,f2,f3,f4,f5⟩:=DY (M:=w.heap.size) (X:=X) (r:=some oY) (b:=bE) (n:=85) Vz nz hA (Xw _) hX hSX vR (pC fnE λi hi=>rB hi Hx ux) (AR G2) hT hn λwl=>Er wl _;exact⟨p,Sh,X,T',td,w',f1,Nat.le_add_right ..,λb hb=>XD (hX b hb) f5,hSX,λb _ h=>h,by rw[he];exact f3,f4.below f5 (Xw _)⟩
 have h:=S6 hc;by_cases J:(rm t.ne dl).2≠0
 ·exact early _ (by unfold qX;rw[Xu J]) λwl ok=>aY8 t dl h J wl ok
 have Pd:=XU.1 J;obtain⟨wl,cB,wE,w4,Tk4,g1,⟨T4,A,cap,bx,C,bs,xv,rfl,G4⟩,g3,_,g5,g6,_⟩:=Wc (M:=w.heap.size) (X:=X) (r:=some oY) (b:=bE) (n:=85) (Post:=ar4 t dl (λb=>¬X b)) Vz nz hA (Xw _) hX hSX vR (pC fnE λi hi=>rB hi Hx ux) (AR G2) hT hn (λwl _=>aY7 t dl h Pd Vf wl _) (λwl cB wE ⟨T,A,cap,bx,C,bs,xv,e,_⟩=>⟨λch=>(by rw[e];simp[Frame.at]),λ_ _=>by rw[e];rfl⟩);have hw4:w.heap.size<=w4.heap.size:=by have:=g6.size;have:=G4.hC;omega
 have hB4:=g6.below hw4 (Xw w.heap.size)
 have g3':JW prog m0 p Sh ((base 8).at ⟨T4,[]⟩ [.code oY]) [lf] w4:=by
  have:=g5 _ E E;subst this;exact g3
 obtain⟨Wg,T',td,w',k1,k2,k3,k4,k5⟩:=F9 h Pd hl (λb hb=>by have:=hX b hb;omega) hSX hp G4 g6 (by have:=G4.hC;omega) ep g3';have hB:=hB4.trans k5;refine⟨_,_,λb=>b=Wg\/X b,T',td,w',k1,Xw _,λb hb=>?_,λl hl=>hl.elim (λ⟨a,e,hb⟩=>⟨a,e,.inl hb⟩) λh=>let ⟨a,e,hb⟩:=hSX l h;⟨a,e,.inr hb⟩,λb hb h=>h.elim (λh=>by omega) id,?_,hB⟩
 ·rcases hb with h|h
  ·omega
  ·have:=hX b h
   have:=hB.size;omega
 ·unfold qX
  rw[Xr J];exact k4
open Am (D St Cx Holds tj wK vX wu FAt)
theorem He{P:Z4}{ops:Array Z8}{m:Nat}{Z:Exit->Act->W'->Prop}(o9:∀(i:Nat) o,ops[i]?=some o->ndB P o=true):∀{l:List Nat} {a:Act} {w:W'},a.defers=[]->wpOpsIn Fence.wide m P ops Z l a w->wpOpsIn Fence.wide m P ops (λe a' w'=>Z e a' w'/\(e=.normal->a'.defers=[])) l a w
 | [],a,w,J,h=>⟨h,λ_=>J⟩
 | i::l,a,w,J,h=>by
  unfold wpOpsIn at h ⊢
  cases ho:ops[i]? with
  | none=>rw[ho]at h;exact He o9 J h
  | some o=>
   rw[ho]at h;have hl:=o9 i o ho;simp only at h ⊢
   split
   ·rename_i hw
    rw[Xu hw]at h;have⟨h1,h2⟩:=h;refine⟨h1,?_⟩;rw[Oper.semAt_eq _ _ _ (gy hl)]at h2 ⊢;have hp:∀(v:Z3) w',wpOpsIn Fence.wide m P ops Z l (a.put o.dst v) w'->wpOpsIn Fence.wide m P ops (λe a' w'=>Z e a' w'/\(e=.normal->a'.defers=[])) l (a.put o.dst v) w':=λv w' h=>He o9 (by cases o.dst<;>exact J) h;have hn:=λn w'=>uy (P:=P) (o:=o) (a:=a) (w:=w) (w':=w') (n:=n) hl;generalize (execOp a.eval o).run P w=r at *;unfold Oper.uponIn at h2 ⊢
    split at h2
    ·exact hp _ _ h2
    ·exact hp _ _ h2
    ·exact(hn _ _ E).elim
    ·refine⟨h2.1,h2.2.mono λe w' he=>?_⟩
     cases e with
     | returned v=>exact hp _ _ he
     | panicked c=>exact⟨he,λe=>by cases e⟩
     | outgrown=>obtain⟨a',JZ,he⟩:=he;exact⟨a',JZ,he,λe=>by cases e⟩
    ·exact⟨h2.1,h2.2.mono λv w' he=>hp _ _ he⟩
    ·refine⟨h2.1,h2.2.mono λe w' he=>?_⟩
     cases e with
     | returned v=>exact hp _ _ he
     | panicked c=>exact⟨he,λe=>by cases e⟩
     | outgrown=>obtain⟨a',JZ,he⟩:=he;exact⟨a',JZ,he,λe=>by cases e⟩
    ·exact⟨h2,λe=>by cases e⟩
    ·exact h2.elim
   ·rename_i hw
    rw[Xr hw]at h;exact⟨h.1,He o9 (by cases o.dst<;>exact J) h.2⟩
end
section
open Am (D St Cx Holds tj wK vX wu FAt)
variable{Q:Z4}{b:Frame}{cs:List Frame}{w0:Cx}{Post:Frame->W'->Prop}{k:List Item}{st:St}{ops:Array Z8}{id:Nat}{a:Act}{w:W'}
theorem I6(hm:Q.follows .mixedOrders=true):∃t,Steps Q (lone (b.at a (.code (.region id ops true)::k)) cs w) (lone (b.at a (.inRegion ops (Region.schedule true ops t)::k)) cs { w with drawn:=w.drawn+1 }):=by
 have hc:(choose (.order b.fn id)).run Q w=.ok ((Question.order b.fn id).cut (w.tape w.drawn (Question.order b.fn id))) { w with drawn:=w.drawn+1 }:=by
  simp only[choose,Sem.run];rw[Xr (by simp[Question.forced])]
 refine⟨(Question.order b.fn id).cut (w.tape w.drawn (Question.order b.fn id)),.one (step_lone_go ?_)⟩;have e:∀t,Region.schedule true ops t=Region.schedule (Q.follows .mixedOrders) ops t:=λt=>by rw[hm]
 rw[e];simp only[stepG,stepG.exec,Frame.at,GStep.bare,Y1,XO,YC,hc]
theorem al4{l:List Z8}(n:Nat)(hm:Q.follows .mixedOrders=true)(Js:w0.uk=none)(hb:b.roundOf=none)(h:(vX l n st.n&&decide (n<=l.length)&&wu l n)=true)(o9:l.all (ndB Q)=true)
  (hW:wK Q w0 st l n (l.take n) 0 (λ_=>.dead) st (λst'=>tj Q w0 l (l.drop n) (λe st'=>e=.normal/\SW Q b cs w0 Post k st') st')):SW Q b cs w0 Post (.code (.region id l.toArray true)::k) st:=by
 intro a w J hH;simp only[Xs,XW]at h;obtain⟨⟨h,hn⟩,hB⟩:=h;have J4:(l.take n).length=n:=by simp;omega
 have HP:∀k,k<(l.take n).length->(l.take n)[k]?=l[0+k]?:=λk hk=>by rw[J4]at hk;simp[hk]
 obtain⟨xs,_,hO,hK⟩:=Am.qe h (l.take n) 0 _ _ (by omega) HP hW;have hF:FAt w0 Fence.wide:=⟨.inl E,Js.symm⟩
 have hT:∀a w,Holds w0 (Am.dX st l n xs (Am.gd n)) a w->wpListIn Fence.wide 1 Q l.toArray (Am.Post w0 (λe st'=>e=.normal/\SW Q b cs w0 Post k st')) (l.drop n) a w:=λa w hH=>
  hK Fence.wide 1 hF a w (hH.EB (Am.vo h (l.take n) 0 st (by omega) HP (by rw[Am.fg (λp _=>by simp[Am.gd])];exact⟨rfl,rfl,λ_=>.inl E⟩)))
 have FN:HeadInv .any l.toArray n (Array.replicate l.toArray.size false):=
  ⟨by simp,λj oj _ hl=>(by rw[getD_replicate_false]at hl;cases hl),λt _ ht=>getD_in (by simpa using ht) (getD_replicate_false _ _)⟩
 have aR5:=Am.Ip (m:=1) hF h hn hB (λk o hk ho=>hO k o (XC _) hk ho) hT n _ a { w with drawn:=w.drawn+1 } FN Am.lI (by rw[Am.fg (λp _=>getD_replicate_false _ _)];exact hH.drew);rw[show n+(l.length - n)=l.toArray.size by simp;omega]at aR5;have⟨t,Jq⟩:=I6 (Q:=Q) (b:=b) (cs:=cs) (k:=k) (ops:=l.toArray) (id:=id) (a:=a) (w:=w) hm;have ho:=wpAnyIn_sound l.toArray.size t _ a _ aR5;have ho:=He (λi o ho=>X0.1 o9 o (by simpa using XA (by simpa using ho:l[i]?=some o))) J ho;have⟨e,a',w',⟨⟨st',⟨he,hs⟩,oO⟩,Bl⟩,h1,_⟩:=Bv ho hb k cs;have⟨fr,JZ,h2,hp⟩:=hs a' w' (Bl he) oO;refine⟨fr,JZ,Jq.trans (Steps.trans ?_ h2),hp⟩;have e0:Region.schedule true l.toArray t=Region.linearise .any l.toArray t:=by simp[Region.schedule]
 rw[e0];exact h1 he
theorem aT3{l:List Z8}(n:Nat)(hm:Q.follows .mixedOrders=true)(hW:wK Q w0 st l n (l.take n) 0 (λ_=>.dead) st (λst'=>tj Q w0 l (l.drop n) (λe st'=>e=.normal/\SW Q b cs w0 Post k st') st'))(Js:w0.uk=none:=by rfl)(hb:b.roundOf=none:=by rfl)(h:(vX l n st.n&&decide (n<=l.length)&&wu l n)=true:=by kernel_rfl)(o9:l.all (ndB Q)=true:=by kernel_rfl):SW Q b cs w0 Post (.code (.region id l.toArray true)::k) st:=al4 n hm Js hb h o9 hW
theorem UG{m:Nat}(hs:ops.size=m)(hm:Q.follows .mixedOrders=true)(h:∀t,SW Q b cs w0 Post (.inRegion ops (lin ops m t (Array.replicate m false))::k) st):SW Q b cs w0 Post (.code (.region id ops true)::k) st:=by
 subst hs;intro a w J hH;have⟨t,hs⟩:=I6 (Q:=Q) (b:=b) (cs:=cs) (k:=k) (ops:=ops) (id:=id) (a:=a) (w:=w) hm;have⟨fr,w',h1,hp⟩:=h t a { w with drawn:=w.drawn+1 } J hH.drew;rw[QG]at hs;exact⟨fr,w',hs.trans h1,hp⟩
theorem iW{n:Nat}{l:Array Bool}{t:Nat}(i:Nat)(h:∀t,SW Q b cs w0 Post (.inRegion ops (i::lin ops n t (l.setIfInBounds i true))::k) st)(Y:P9 ops l=[i]:=by kernel_rfl):SW Q b cs w0 Post (.inRegion ops (lin ops (n+1) t l)::k) st:=by
 unfold lin;rw[Y,show t % [i].length=0 from Nat.mod_one t];exact h _
theorem tR{n:Nat}{l:Array Bool}{t:Nat}(i j:Nat)(h:∀t,SW Q b cs w0 Post (.inRegion ops (i::lin ops n t (l.setIfInBounds i true))::k) st)(h':∀t,SW Q b cs w0 Post (.inRegion ops (j::lin ops n t (l.setIfInBounds j true))::k) st)(Y:P9 ops l=[i,j]:=by kernel_rfl):SW Q b cs w0 Post (.inRegion ops (lin ops (n+1) t l)::k) st:=by
 unfold lin;rw[Y];rcases(show t % [i,j].length=0\/t % [i,j].length=1 by have:t % [i,j].length<2:=Zp _ (Nat.zero_lt_succ _);omega) with e|e
 ·rw[e];exact h _
 ·rw[e];exact h' _
theorem ba4{s':St}(hl:Am.Le w0 st s')(h:SW Q b cs w0 Post k s'):SW Q b cs w0 Post k st:=λa w J hH=>h a w J (hl a w hH)
variable{ok:Nat->Prop}{wl:W'}{n:Nat}{l:List (Nat × D)}{α:Type}
theorem vV{K:α->List Item}{x:α}(hn:st.n=n)(h:ae4 st l):SW Q b cs (wm wl ok) (λfr w=>∃x,xn n b ok wl (K x) l fr w) (K x) st:=λa w J hH=>
 let ⟨fr,w',hs,hp⟩:=vW (Q:=Q) (b:=b) (cs:=cs) (k:=K x) hn h a w J hH
 ⟨fr,w',hs,x,hp⟩
noncomputable def aG4:Code:=Tryz.f4.body.getD .skip
noncomputable def PG:Code:=match aG4 with|.seq a (.seq b (.seq c _))=>.seq a (.seq b (.seq c .skip))|_=>.skip
noncomputable def Fg:Code:=match aG4 with|.seq _ (.seq _ (.seq _ r))=>r|_=>.skip
noncomputable def Pz:Code:=match Fg with|.seq a (.seq b (.seq c _))=>.seq a (.seq b (.seq c .skip))|_=>.skip
noncomputable def Ii:Code:=match Fg with|.seq _ (.seq _ (.seq _ r))=>r|_=>.skip
noncomputable def Ko:Code:=match Ii with|.seq _ (.seq _ (.seq _ r))=>r|_=>.skip
noncomputable def yB:Array Z8:=match Ko with|.seq (.region _ o _) _=>o|_=>#[]
noncomputable def Dw:Code:=match Ko with|.seq _ r=>r|_=>.skip
noncomputable def yd:Array Z8:=match Dw with|.seq (.region _ o _) _=>o|_=>#[]
noncomputable def Kh:Code:=match Dw with|.seq _ r=>r|_=>.skip
theorem aO6:Tryz.f4.body=some aG4:=by kernel_rfl
theorem aq8:spin Fg PG=aG4:=by kernel_rfl
theorem V9:spin Ii Pz=Fg:=by kernel_rfl
theorem ba2:yB.size=11:=by kernel_rfl
theorem ba1:yd.size=10:=by kernel_rfl
theorem aL7:Ko=.seq (.region 13 yB true) Dw:=rfl
theorem aL6:Dw=.seq (.region 14 yd true) Kh:=rfl
def L13:Array Bool:=#[true,true,true,true,true,true,false,false,false,false,false]
def L14:Array Bool:=#[true,true,true,true,true,false,false,false,false,false]
noncomputable def ac2(τ:Nat):List Item:=[.inRegion yB (5::lin yB 5 τ L13),.code Dw]
noncomputable def aJ7(τ:Nat):List Item:=[.inRegion yd (4::lin yd 5 τ L14),.code Kh]
end
end Go.Proofs.YthcfokccjljnpaaGreat.Par
namespace Go.Proofs.YthcfokccjljnpaaGreat.Am.M
open Go.Proofs.Tryz Go
section
open Par (SW qd wj Eh wb wv aT3 sW UG iW tR ba4 vV Q3 vW D8 xn MH wm ae4 lin PG Fg Pz Ii Ko yB Dw yd Kh L13 L14 ac2 aJ7)
abbrev bT:Frame:=Go.Conc.base 4
def Hq(d1 d2:List (List Int))(told:Int):List D:=[.sl 1 (d1.map lC),.sl 1 (d2.map lC),.v (.int .i64 told)]
theorem Gn{s:Nat->aH}{t:T}{x y:D}(h:t=.d y)(e:y=x):UF s t x:=by subst h;subst e;exact .d _
def Gk(t:tv):tv:=⟨t.ar,t.ne,t.bf.map R.nrB,t.g⟩
def aR1(t:tv)(d1 d2:List (List Int)):Prop:=aN2 t=true/\(ckT t).2=0/\Lv d1=true/\Lv d2=true
theorem tsA(t:tv)(d1 d2:List (List Int))(told:Int)(hq:¬aR1 t d1 d2)(wl:W')(ok:Nat->Prop):SW qP bT [Par.di qP] (wm wl ok) (D8 212 bT ok wl [(4,.v (.bool true))]) [.code PG,.code (.exit 0)] (MH 212 [(0,.agg (q8 t)),(1,.agg (Hq d1 d2 told))]):=by
 have cH:(wm wl ok).uk=none:=rfl;have bQ:∀b,(wm wl ok).mine b->(wm wl ok).ok b:=λb hb=>hb.elim;refine qd (wv 3 (V (aP E H') (V (aP E H') (V (aG (x:=.d (.v _)) E) (aw (ai ?_))))));refine⟨rfl,?_⟩;refine qd (qd (wv 2 (V (ak be0 .nil E (Lo)) (V (bX E) (aw (ai ?_))))));refine⟨rfl,?_⟩;refine wb E (λbW=>?_) (λbW=>?_)
 ·simp at bW
 ·(try simp only[nb,Xv]at bW);refine wj (qd (qd (wv 20 (V (ax kJ E E E) (V (ak en6 (.cons E .nil) E (HK _)) (V (bX E) (V (aq (x:=.d (.v _)) E) (aE E E (λhG=>(ax kJ E E E)) (aE E E (λhG=>(ak aF4 (.cons E .nil) E (E3 _))) (aE E E (λhG=>(bS E E)) (aT E E E E E E ?_)))))))))));refine V (aq (x:=.d (.v _)) E) (aE E E (λhG=>(af Dn E)) (aE E E (λhG=>(aj Ed E E)) (aE E E (λhG=>(ak aS0 (.cons E .nil) E (Ac _))) (aE E E (λhG=>(bX E)) (aT E E E E E E ?_)))));refine V (aq (x:=.d (.v _)) E) (aE E E (λhG=>(af Hp E)) (aE E E (λhG=>(aj Ed E E)) (aE E E (λhG=>(ak aS0 (.cons E .nil) E (Ac _))) (aE E E (λhG=>(bX E)) (aT E E E E E E ?_)))));refine aw (ai ?_);refine⟨rfl,?_⟩;refine wb E (λdB=>?_) (λdB=>?_)
  ·(try simp only[nb,Xv]at dB);refine qd (wv 1 (V (aG (x:=.d (.v _)) E) (aw (ai ?_))));refine⟨rfl,?_⟩;exact Q3 E ⟨⟨rfl,I'⟩,trivial⟩
  ·refine absurd ?_ hq;unfold aR1;simp at dB;have⟨⟨⟨a1,a2⟩,a3⟩,a4⟩:=dB;exact⟨a1,a2,a3,a4⟩
theorem tsB(t:tv)(d1 d2:List (List Int))(told:Int)(h:aR1 t d1 d2)(wl:W')(ok:Nat->Prop):SW qP bT [Par.di qP] (wm wl ok) (xn 212 bT ok wl [.code (.exit 0)] [(2,.pt (q8 t) 0),(3,.pt (Hq d1 d2 told) 0)]) [.code PG,.code (.exit 0)] (MH 212 [(0,.agg (q8 t)),(1,.agg (Hq d1 d2 told))]):=by
 have cH:(wm wl ok).uk=none:=rfl;have bQ:∀b,(wm wl ok).mine b->(wm wl ok).ok b:=λb hb=>hb.elim;have⟨q1,q2,q3,q4⟩:=h;refine qd (wv 3 (V (aP E H') (V (aP E H') (V (aG (x:=.d (.v _)) E) (aw (ai ?_))))));refine⟨rfl,?_⟩;refine qd (qd (wv 2 (V (ak be0 .nil E (Lo)) (V (bX E) (aw (ai ?_))))));refine⟨rfl,?_⟩;refine wb E (λbW=>?_) (λbW=>?_)
 ·simp at bW
 ·(try simp only[nb,Xv]at bW);refine wj (qd (qd (wv 20 (V (ax kJ E E E) (V (ak en6 (.cons E .nil) E (HK _)) (V (bX E) (V (aq (x:=.d (.v _)) E) (aE E E (λhG=>(ax kJ E E E)) (aE E E (λhG=>(ak aF4 (.cons E .nil) E (E3 _))) (aE E E (λhG=>(bS E E)) (aT E E E E E E ?_)))))))))));refine V (aq (x:=.d (.v _)) E) (aE E E (λhG=>(af Dn E)) (aE E E (λhG=>(aj Ed E E)) (aE E E (λhG=>(ak aS0 (.cons E .nil) E (Ac _))) (aE E E (λhG=>(bX E)) (aT E E E E E E ?_)))));refine V (aq (x:=.d (.v _)) E) (aE E E (λhG=>(af Hp E)) (aE E E (λhG=>(aj Ed E E)) (aE E E (λhG=>(ak aS0 (.cons E .nil) E (Ac _))) (aE E E (λhG=>(bX E)) (aT E E E E E E ?_)))));refine aw (ai ?_);refine⟨rfl,?_⟩;refine wb E (λdB=>?_) (λdB=>?_)
  ·simp[q1,q2,q3,q4]at dB
  ·(try simp only[nb,Xv]at dB);refine wj (wj ?_);exact vW E ⟨⟨rfl,I'⟩,⟨rfl,I'⟩,trivial⟩
end
end Go.Proofs.YthcfokccjljnpaaGreat.Am.M
namespace Go.Proofs.YthcfokccjljnpaaGreat.Am.M.R
open Go.Proofs.Tryz Go
section
open Par (SW qd wj Eh wb wv aT3 sW UG iW tR ba4 vV Q3 vW D8 xn MH wm ae4 lin PG Fg Pz Ii Ko yB Dw yd Kh L13 L14 ac2 aJ7)
theorem tsC(t:tv)(d1 d2:List (List Int))(told:Int)(h:tn t)(hz:dP (-1000000000) told 1000000000=false)(wl:W')(ok:Nat->Prop):SW tG bT [Par.di tG] (wm wl ok) (D8 212 bT ok wl [(4,.v (.bool true))]) [.code Pz,.code (.exit 0)] (MH 212 [(2,.pt (q8 t) 0),(3,.pt (Hq d1 d2 told) 0)]):=by
 have cH:(wm wl ok).uk=none:=rfl;have bQ:∀b,(wm wl ok).mine b->(wm wl ok).ok b:=λb hb=>hb.elim;have hm:=lX (a:=t.ne) (b:=t.ne) (A:=16) (B:=16) (by have:=h.n1;omega) h.n2 (by have:=h.n1;omega) h.n2;have hnl:=h.nl;have hbl:t.bf.length<=20000:=by omega
 refine qd (aT3 12 mixed (V (af J0 E) (V (aj mF E E) (V (af iz E) (V (ax (ds:=[_,_]) BD E E E) (V (ak aF0 (.cons E .nil) E (D3 t.ne t.bf (by omega))) ?_))))));refine V (bz (cs:=[_,_,_]) aQ5 aj9 E (.cons E E' (.cons E H' .nil)) ⟨⟨rfl,by decide⟩,⟨rfl,by decide⟩,trivial⟩ E) (V (ak bd9 (.cons E .nil) E ((by have q:=DW told t.ne t.bf h.n1 h.n2 h.nl h.wh;unfold ffS at q;rw[hz]at q;simp only[Yb,XJ]at q;exact q))) (V (aq (x:=.d (.da _)) E) (V (au E E) (V (au E E) (V (aG (x:=.d (.v _)) E) (V (aG (x:=.d (.v _)) E) (aw (ai ?_))))))));refine⟨rfl,?_⟩;refine qd (qd (wv 2 (V (aq (x:=.d (.v _)) E) (V (bS E E) (aw (ai ?_))))));refine⟨rfl,?_⟩;refine wb E (λwx=>?_) (λwx=>?_)
 ·(try simp only[nb,Xv]at wx);refine qd (wv 7 (V (aq (x:=.d (.v _)) E) (V (fG E E) (V (aq (x:=.d (.v _)) E) (aE E E (λhG=>(aq (x:=.d (.v _)) E)) (aE E E (λhG=>(aM1 E E)) (aT E E E E E E ?_)))))));refine V (aG (x:=.d (.v _)) E) (aw (ai ?_));refine⟨rfl,?_⟩;exact Q3 E ⟨⟨rfl,Gn E (by simp[zn])⟩,trivial⟩
 ·simp at wx
theorem tsD(t:tv)(d1 d2:List (List Int))(told:Int)(h:tn t)(hz:dP (-1000000000) told 1000000000=true)(wl:W')(ok:Nat->Prop):SW tG bT [Par.di tG] (wm wl ok) (xn 212 bT ok wl [.code (.exit 0)] [(2,.pt (q8 t) 0),(3,.pt (Hq d1 d2 told) 0),(7,.pt [.v (.int .i64 told),.v (.int .i64 t.ne),.sl 1 ((t.bf.map nrB).map fC)] 0),(8,.v (.int .i64 0))]) [.code Pz,.code (.exit 0)] (MH 212 [(2,.pt (q8 t) 0),(3,.pt (Hq d1 d2 told) 0)]):=by
 have cH:(wm wl ok).uk=none:=rfl;have bQ:∀b,(wm wl ok).mine b->(wm wl ok).ok b:=λb hb=>hb.elim;have hm:=lX (a:=t.ne) (b:=t.ne) (A:=16) (B:=16) (by have:=h.n1;omega) h.n2 (by have:=h.n1;omega) h.n2;have hnl:=h.nl;have hbl:t.bf.length<=20000:=by omega
 have⟨eA,eM⟩:=cY.1 hz;refine qd (aT3 12 mixed (V (af J0 E) (V (aj mF E E) (V (af iz E) (V (ax (ds:=[_,_]) BD E E E) (V (ak aF0 (.cons E .nil) E (D3 t.ne t.bf (by omega))) ?_))))));refine V (bz (cs:=[_,_,_]) aQ5 aj9 E (.cons E E' (.cons E H' .nil)) ⟨⟨rfl,by decide⟩,⟨rfl,by decide⟩,trivial⟩ E) (V (ak bd9 (.cons E .nil) E ((by have q:=DW told t.ne t.bf h.n1 h.n2 h.nl h.wh;unfold ffS at q;rw[hz]at q;simp only[Yb,XJ]at q;exact q))) (V (aq (x:=.d (.da _)) E) (V (au E E) (V (au E E) (V (aG (x:=.d (.v _)) E) (V (aG (x:=.d (.v _)) E) (aw (ai ?_))))))));refine⟨rfl,?_⟩;refine qd (qd (wv 2 (V (aq (x:=.d (.v _)) E) (V (bS E E) (aw (ai ?_))))));refine⟨rfl,?_⟩;refine wb E (λwx=>?_) (λwx=>?_)
 ·simp at wx
 ·(try simp only[nb,Xv]at wx);refine wj (qd (wv 5 (V (aq (x:=.d (.v _)) E) (V (ak bg5 (.cons E .nil) E (Rs told t.ne t.bf eA eM h.n1 h.n2 h.nl h.wh)) (V (aq (x:=.d (.da _)) E) (V (au E E) (V (au E E) (aw (dF aj9 E aI5 E E H' E E (aN E (aG (x:=.d (.v _)) E) (ai ?_)))))))))));refine⟨rfl,?_⟩;refine wj ?_;exact vW E ⟨⟨rfl,I'⟩,⟨rfl,I'⟩,⟨rfl,I'⟩,⟨rfl,I'⟩,trivial⟩
end
end Go.Proofs.YthcfokccjljnpaaGreat.Am.M.R
namespace Go.Proofs.YthcfokccjljnpaaGreat.Am.M
open Go.Proofs.Tryz Go
section
open Par (SW qd wj Eh wb wv aT3 sW UG iW tR ba4 vV Q3 vW D8 xn MH wm ae4 lin PG Fg Pz Ii Ko yB Dw yd Kh L13 L14 ac2 aJ7)
theorem tsE(t:tv)(d1 d2:List (List Int))(told:Int)(Vf:t.ar.el.length<=1000)(SN:t.bf.length<=10000)(wl:W')(ok:Nat->Prop):SW qP bT [Par.di qP] (wm wl ok) (xn 212 bT ok wl [.code Ko] [(2,.pt (q8 t) 0),(3,.pt (Hq d1 d2 told) 0),(9,.pt (q8 (Gk t)) 0)]) [.code Ii] (MH 212 [(2,.pt (q8 t) 0),(3,.pt (Hq d1 d2 told) 0),(7,.pt [.v (.int .i64 told),.v (.int .i64 t.ne),.sl 1 ((t.bf.map R.nrB).map fC)] 0),(8,.v (.int .i64 0))]):=by
 have cH:(wm wl ok).uk=none:=rfl;have bQ:∀b,(wm wl ok).mine b->(wm wl ok).ok b:=λb hb=>hb.elim;refine qd (qd (wv 9 (V (aq (x:=.d (.v _)) E) (V (bS E E) (V (aq (x:=.d (.v _)) E) (aE E E (λhG=>(af Hi E)) (aE E E (λhG=>(aj mF E E)) (aE E E (λhG=>(af J0 E)) (aE E E (λhG=>(aj mF E E)) (aE E E (λhG=>(bS E E)) (aT E E E E E E ?_)))))))))));refine aw (ai ?_);refine⟨rfl,?_⟩;refine wb E (λCZ=>?_) (λCZ=>?_)
 ·simp at CZ
 ·(try simp only[nb,Xv]at CZ);refine wj (qd (wv 2 (V (ax kJ E E E) (V (ak en9 (.cons E .nil) E (wA t Vf SN)) (aw (bL Pk E E E (ay kJ E E H' E E (by decide) E (ai ?_))))))));refine⟨rfl,?_⟩;refine qd (wv 3 (V (af Az E) (V (ax (ds:=[_,_]) BD E E E) (V (aC iz E) (aw (ay BD E E H' E E (by exact Nat.le_of_ble_eq_true E) E (ai ?_)))))));refine⟨rfl,?_⟩;refine ba4 (nZ 9 9 0 (cs:=q8 (Gk t)) E E E E bQ) ?_;exact vW E ⟨⟨rfl,I'⟩,⟨rfl,I'⟩,⟨rfl,I'⟩,trivial⟩
theorem tsF(t:tv)(d1 d2:List (List Int))(told:Int)(Vf:t.ar.el.length<=1000)(SN:t.bf.length<=10000)(hf1:d1.length<=10000)(hf2:∀x∈d1,x.length<=10000)(wl:W')(ok:Nat->Prop):SW qP bT [Par.di qP] (wm wl ok) (λfr w=>∃τ:Nat,xn 212 bT ok wl (ac2 τ) [(2,.pt (q8 t) 0),(3,.pt (Hq d1 d2 told) 0),(9,.pt (q8 (Gk t)) 0),(88,.agg (q8 t)),(91,.sl 1 (d1.map lC))] fr w) [.code Ko] (MH 212 [(2,.pt (q8 t) 0),(3,.pt (Hq d1 d2 told) 0),(9,.pt (q8 (Gk t)) 0)]):=by
 rw[Par.aL7];refine qd (UG Par.ba2 mixed (λτ=>?_));refine tR 0 2 (λτ=>?_) (λτ=>?_)
 ·refine sW E (ax kJ E E E) ?_
  refine tR 1 2 (λτ=>?_) (λτ=>?_)
  ·refine sW E ((ak en9 (.cons E .nil) E (wA t Vf SN))) ?_
   refine iW 2 (λτ=>(sW E (af Dn E) (iW 3 (λτ=>(sW E (aj Ed E E) (iW 4 (λτ=>(sW E ((ak aF5 (.cons E .nil) E (DF d1 hf1 hf2))) (iW 5 (λτ=>?_))))))))));exact vV (K:=ac2) E ⟨⟨rfl,I'⟩,⟨rfl,I'⟩,⟨rfl,I'⟩,⟨rfl,I'⟩,⟨rfl,I'⟩,trivial⟩
  ·refine sW E (af Dn E) ?_
   refine tR 1 3 (λτ=>?_) (λτ=>?_)
   ·refine sW E ((ak en9 (.cons E .nil) E (wA t Vf SN))) ?_
    refine iW 3 (λτ=>(sW E (aj Ed E E) (iW 4 (λτ=>(sW E ((ak aF5 (.cons E .nil) E (DF d1 hf1 hf2))) (iW 5 (λτ=>?_)))))));exact vV (K:=ac2) E ⟨⟨rfl,I'⟩,⟨rfl,I'⟩,⟨rfl,I'⟩,⟨rfl,I'⟩,⟨rfl,I'⟩,trivial⟩
   ·refine sW E (aj Ed E E) ?_
    refine iW 1 (λτ=>(sW E ((ak en9 (.cons E .nil) E (wA t Vf SN))) (iW 4 (λτ=>(sW E ((ak aF5 (.cons E .nil) E (DF d1 hf1 hf2))) (iW 5 (λτ=>?_)))))));exact vV (K:=ac2) E ⟨⟨rfl,I'⟩,⟨rfl,I'⟩,⟨rfl,I'⟩,⟨rfl,I'⟩,⟨rfl,I'⟩,trivial⟩
 ·refine sW E (af Dn E) ?_
  refine tR 0 3 (λτ=>?_) (λτ=>?_)
  ·refine sW E (ax kJ E E E) ?_
   refine tR 1 3 (λτ=>?_) (λτ=>?_)
   ·refine sW E ((ak en9 (.cons E .nil) E (wA t Vf SN))) ?_
    refine iW 3 (λτ=>(sW E (aj Ed E E) (iW 4 (λτ=>(sW E ((ak aF5 (.cons E .nil) E (DF d1 hf1 hf2))) (iW 5 (λτ=>?_)))))));exact vV (K:=ac2) E ⟨⟨rfl,I'⟩,⟨rfl,I'⟩,⟨rfl,I'⟩,⟨rfl,I'⟩,⟨rfl,I'⟩,trivial⟩
   ·refine sW E (aj Ed E E) ?_
    refine iW 1 (λτ=>(sW E ((ak en9 (.cons E .nil) E (wA t Vf SN))) (iW 4 (λτ=>(sW E ((ak aF5 (.cons E .nil) E (DF d1 hf1 hf2))) (iW 5 (λτ=>?_)))))));exact vV (K:=ac2) E ⟨⟨rfl,I'⟩,⟨rfl,I'⟩,⟨rfl,I'⟩,⟨rfl,I'⟩,⟨rfl,I'⟩,trivial⟩
  ·refine sW E (aj Ed E E) ?_
   refine iW 0 (λτ=>(sW E (ax kJ E E E) (iW 1 (λτ=>(sW E ((ak en9 (.cons E .nil) E (wA t Vf SN))) (iW 4 (λτ=>(sW E ((ak aF5 (.cons E .nil) E (DF d1 hf1 hf2))) (iW 5 (λτ=>?_))))))))));exact vV (K:=ac2) E ⟨⟨rfl,I'⟩,⟨rfl,I'⟩,⟨rfl,I'⟩,⟨rfl,I'⟩,⟨rfl,I'⟩,trivial⟩
theorem tsG(t:tv)(d1 d2:List (List Int))(told:Int)(im1:List (Nat × Nat))(e1:Int)(wl:W')(ok:Nat->Prop)(τ:Nat):SW qP bT [Par.di qP] (wm wl ok) (xn 212 bT ok wl [.code Dw] [(2,.pt (q8 t) 0),(3,.pt (Hq d1 d2 told) 0),(9,.pt (q8 (Gk t)) 0),(10,.sl 1 (im1.map Hr)),(11,.v (.int .i64 e1))]) [.inRegion yB (lin yB 5 τ L13),.code Dw] (MH 212 [(2,.pt (q8 t) 0),(3,.pt (Hq d1 d2 told) 0),(9,.pt (q8 (Gk t)) 0),(92,.da [.sl 1 (im1.map Hr),.v (.int .i64 e1)])]):=by
 refine iW 6 (λτ=>(sW E (aq (x:=.d (.da _)) E) (tR 7 8 (λτ=>?_) (λτ=>?_))))
 ·refine sW E (au E E) ?_
  refine tR 8 9 (λτ=>?_) (λτ=>?_)
  ·refine sW E (au E E) ?_
   refine iW 9 (λτ=>(sW E (aG (x:=.d (.sl _ _)) E) (iW 10 (λτ=>(sW E (aG (x:=.d (.v _)) E) (Eh ?_))))));exact vW E ⟨⟨rfl,I'⟩,⟨rfl,I'⟩,⟨rfl,I'⟩,⟨rfl,I'⟩,⟨rfl,I'⟩,trivial⟩
  ·refine sW E (aG (x:=.d (.sl _ _)) E) ?_
   refine iW 8 (λτ=>(sW E (au E E) (iW 10 (λτ=>(sW E (aG (x:=.d (.v _)) E) (Eh ?_))))));exact vW E ⟨⟨rfl,I'⟩,⟨rfl,I'⟩,⟨rfl,I'⟩,⟨rfl,I'⟩,⟨rfl,I'⟩,trivial⟩
 ·refine sW E (au E E) ?_
  refine iW 7 (λτ=>(sW E (au E E) (iW 9 (λτ=>(sW E (aG (x:=.d (.sl _ _)) E) (iW 10 (λτ=>(sW E (aG (x:=.d (.v _)) E) (Eh ?_)))))))));exact vW E ⟨⟨rfl,I'⟩,⟨rfl,I'⟩,⟨rfl,I'⟩,⟨rfl,I'⟩,⟨rfl,I'⟩,trivial⟩
theorem tsH(t:tv)(d1 d2:List (List Int))(told:Int)(im1:List (Nat × Nat))(e1:Int)(hf1:d2.length<=10000)(hf2:∀x∈d2,x.length<=10000)(wl:W')(ok:Nat->Prop):SW qP bT [Par.di qP] (wm wl ok) (λfr w=>∃τ:Nat,xn 212 bT ok wl (aJ7 τ) [(2,.pt (q8 t) 0),(3,.pt (Hq d1 d2 told) 0),(9,.pt (q8 (Gk t)) 0),(10,.sl 1 (im1.map Hr)),(11,.v (.int .i64 e1)),(96,.agg (q8 (Gk t))),(99,.sl 1 (d2.map lC))] fr w) [.code Dw] (MH 212 [(2,.pt (q8 t) 0),(3,.pt (Hq d1 d2 told) 0),(9,.pt (q8 (Gk t)) 0),(10,.sl 1 (im1.map Hr)),(11,.v (.int .i64 e1))]):=by
 rw[Par.aL6];refine qd (UG Par.ba1 mixed (λτ=>?_));refine tR 0 1 (λτ=>?_) (λτ=>?_)
 ·refine sW E (ax kJ E E E) ?_
  refine iW 1 (λτ=>(sW E (af Hp E) (iW 2 (λτ=>(sW E (aj Ed E E) (iW 3 (λτ=>(sW E ((ak aF5 (.cons E .nil) E (DF d2 hf1 hf2))) (iW 4 (λτ=>?_))))))))));exact vV (K:=aJ7) E ⟨⟨rfl,I'⟩,⟨rfl,I'⟩,⟨rfl,I'⟩,⟨rfl,I'⟩,⟨rfl,I'⟩,⟨rfl,I'⟩,⟨rfl,I'⟩,trivial⟩
 ·refine sW E (af Hp E) ?_
  refine tR 0 2 (λτ=>?_) (λτ=>?_)
  ·refine sW E (ax kJ E E E) ?_
   refine iW 2 (λτ=>(sW E (aj Ed E E) (iW 3 (λτ=>(sW E ((ak aF5 (.cons E .nil) E (DF d2 hf1 hf2))) (iW 4 (λτ=>?_)))))));exact vV (K:=aJ7) E ⟨⟨rfl,I'⟩,⟨rfl,I'⟩,⟨rfl,I'⟩,⟨rfl,I'⟩,⟨rfl,I'⟩,⟨rfl,I'⟩,⟨rfl,I'⟩,trivial⟩
  ·refine sW E (aj Ed E E) ?_
   refine tR 0 3 (λτ=>?_) (λτ=>?_)
   ·refine sW E (ax kJ E E E) ?_
    refine iW 3 (λτ=>(sW E ((ak aF5 (.cons E .nil) E (DF d2 hf1 hf2))) (iW 4 (λτ=>?_))));exact vV (K:=aJ7) E ⟨⟨rfl,I'⟩,⟨rfl,I'⟩,⟨rfl,I'⟩,⟨rfl,I'⟩,⟨rfl,I'⟩,⟨rfl,I'⟩,⟨rfl,I'⟩,trivial⟩
   ·refine sW E ((ak aF5 (.cons E .nil) E (DF d2 hf1 hf2))) ?_
    refine iW 0 (λτ=>(sW E (ax kJ E E E) (iW 4 (λτ=>?_))));exact vV (K:=aJ7) E ⟨⟨rfl,I'⟩,⟨rfl,I'⟩,⟨rfl,I'⟩,⟨rfl,I'⟩,⟨rfl,I'⟩,⟨rfl,I'⟩,⟨rfl,I'⟩,trivial⟩
theorem tsI(t:tv)(d1 d2:List (List Int))(told:Int)(im1:List (Nat × Nat))(e1:Int)(im2:List (Nat × Nat))(e2:Int)(wl:W')(ok:Nat->Prop)(τ:Nat):SW qP bT [Par.di qP] (wm wl ok) (xn 212 bT ok wl [.code Kh] [(2,.pt (q8 t) 0),(3,.pt (Hq d1 d2 told) 0),(10,.sl 1 (im1.map Hr)),(11,.v (.int .i64 e1)),(12,.sl 1 (im2.map Hr)),(13,.v (.int .i64 e2))]) [.inRegion yd (lin yd 5 τ L14),.code Kh] (MH 212 [(2,.pt (q8 t) 0),(3,.pt (Hq d1 d2 told) 0),(9,.pt (q8 (Gk t)) 0),(10,.sl 1 (im1.map Hr)),(11,.v (.int .i64 e1)),(100,.da [.sl 1 (im2.map Hr),.v (.int .i64 e2)])]):=by
 refine iW 5 (λτ=>(sW E (aq (x:=.d (.da _)) E) (tR 6 7 (λτ=>?_) (λτ=>?_))))
 ·refine sW E (au E E) ?_
  refine tR 7 8 (λτ=>?_) (λτ=>?_)
  ·refine sW E (au E E) ?_
   refine iW 8 (λτ=>(sW E (aG (x:=.d (.sl _ _)) E) (iW 9 (λτ=>(sW E (aG (x:=.d (.v _)) E) (Eh ?_))))));exact vW E ⟨⟨rfl,I'⟩,⟨rfl,I'⟩,⟨rfl,I'⟩,⟨rfl,I'⟩,⟨rfl,I'⟩,⟨rfl,I'⟩,trivial⟩
  ·refine sW E (aG (x:=.d (.sl _ _)) E) ?_
   refine iW 7 (λτ=>(sW E (au E E) (iW 9 (λτ=>(sW E (aG (x:=.d (.v _)) E) (Eh ?_))))));exact vW E ⟨⟨rfl,I'⟩,⟨rfl,I'⟩,⟨rfl,I'⟩,⟨rfl,I'⟩,⟨rfl,I'⟩,⟨rfl,I'⟩,trivial⟩
 ·refine sW E (au E E) ?_
  refine iW 6 (λτ=>(sW E (au E E) (iW 8 (λτ=>(sW E (aG (x:=.d (.sl _ _)) E) (iW 9 (λτ=>(sW E (aG (x:=.d (.v _)) E) (Eh ?_)))))))));exact vW E ⟨⟨rfl,I'⟩,⟨rfl,I'⟩,⟨rfl,I'⟩,⟨rfl,I'⟩,⟨rfl,I'⟩,⟨rfl,I'⟩,trivial⟩
theorem ba7{t:tv}(h:tn t):(pz t.g (pwR (imL t (evI t) [])).1).2=0:=by
 have⟨h1,h2⟩:=aT4 h;have⟨hg,_,_⟩:=gW h.gr;have yO:=dg hg;have hcn:((xG t:Nat):Int)=t.g.co*t.g.ro:=by unfold xG;omega
 have aR5:(pwR (imL t (evI t) [])).1.any pwB=false:=by
  rw[List.any_eq_false];intro n hn;unfold pwR at hn h1
  split at hn
  ·simp at hn
  ·split at hn
   ·simp at hn
   ·rename_i hp
    obtain⟨z,hz,rfl⟩:=X6.1 hn;have⟨⟨a1,a2⟩,a3,a4⟩:=aT0 (aM2 (XU.1 hp) z hz);have b1:=O0 a1 a2;have b2:=O0 a3 a4;unfold pwB sqZ;simp[dP];omega
 have h0:Ja t.g (pwR (imL t (evI t) [])).1=0:=by
  unfold Ja;rw[Xr (λq=>q h.gr),Xr (by rw[h2,hcn];exact λq=>q E),aR5];rfl
 unfold pz;rw[Xr (λq=>q h0)]
set_option maxHeartbeats 4000000 in
theorem tsJ(t:tv)(d1 d2:List (List Int))(told:Int)(h:tn t)(im1:List (Nat × Nat))(e1:Int)(im2:List (Nat × Nat))(e2:Int)(hE1:e1=(rm t.ne d1).2)(hE2:e2=(rm t.ne d2).2)(hR1:e1≠0->im1=[])(hR2:e2≠0->im2=[])(hS1:e1=0->im1=imL t (evI t) [])(hS2:e2=0->im2=imL t (evI t) [])(wl:W')(ok:Nat->Prop):dG qP (wm wl ok) Kh (λe st=>e=.ret/\st.n=212/\ae4 st [(4,.v (.bool true))]) (MH 212 [(2,.pt (q8 t) 0),(3,.pt (Hq d1 d2 told) 0),(10,.sl 1 (im1.map Hr)),(11,.v (.int .i64 e1)),(12,.sl 1 (im2.map Hr)),(13,.v (.int .i64 e2))]):=by
 have cH:(wm wl ok).uk=none:=rfl;have bQ:∀b,(wm wl ok).mine b->(wm wl ok).ok b:=λb hb=>hb.elim;have⟨hg,_,_⟩:=gW h.gr;have hcn:((xG t:Nat):Int)=t.g.co*t.g.ro:=by have:=dg hg;unfold xG;omega
 have Pa:=h.el;have hwn:∀d,rm (t.ar.el.length:Int) d=rm t.ne d:=λd=>by rw[Pa]
 have⟨hp1,hp2⟩:=aT4 h;have hp3:=ba7 h;have rY:=QN t (evI t) [];have kY:=Tw h;refine ae (ca 5 mixed (by kernel_rfl) ?_);refine V (af fc E) (V (af du E) (V (aj jP E E) (V (cd kA E (by exact aV _ _)) (V (aG (x:=.d (.v _)) E) (aw (ai ?_))))));change dG _ _ _ _ _;refine bm (t:=105) E (λbd2=>?_);(try simp only[Xo]at bd2);refine ae (ae (ca 9 mixed (by kernel_rfl) ?_));refine V (aq (x:=.d (.v _)) E) (V (af Dn E) (V (aj Ed E E) (V (ak aF3 (.cons E (.cons E .nil)) E (zL t.ar.el.length d1)) (V (aq (x:=.d (.da _)) E) (V (au E E) (V (au E E) (V (aG (x:=.d (.v _)) E) (V (aG (x:=.d (.v _)) E) (aw (ai ?_))))))))));change dG _ _ _ _ _;refine ae (ca 2 mixed (by kernel_rfl) ?_);refine V (aq (x:=.d (.v _)) E) (V (bS E E) (aw (ai ?_)));change dG _ _ _ _ _;refine ao E (λac5=>?_) (λac5=>?_)
 ·(try simp only[nb,Xv]at ac5);rw[hwn]at ac5;have Y:=hR1 (by rw[hE1];exact ac5);subst Y;refine ae (ca 9 mixed (by kernel_rfl) ?_);refine V (aq (x:=.d (.v _)) E) (V (aq (x:=.d (.v _)) E) (V (fG E E) (V (aq (x:=.d (.v _)) E) (aE E E (λhG=>(aq (x:=.d (.sl _ _)) E)) (aE E E (λhG=>(cd yF E (by exact aV _ _))) (aE E E (λhG=>(fG E E)) (aT E E E E E E ?_)))))));refine V (aG (x:=.d (.v _)) E) (aw (ai ?_));change dG _ _ _ _ _;refine ah ?_;exact⟨rfl,rfl,⟨rfl,Gn E (by simp[hE1,hwn])⟩,trivial⟩
 ·(try simp only[nb,Xv]at ac5);rw[hwn]at ac5;have Y:=hS1 (by rw[hE1];exact ac5);subst Y;refine wO ?_;change dG _ _ _ _ _;refine ae (ae (ca 9 mixed (by kernel_rfl) ?_));refine V (aq (x:=.d (.v _)) E) (V (af Hp E) (V (aj Ed E E) (V (ak aF3 (.cons E (.cons E .nil)) E (zL t.ar.el.length d2)) (V (aq (x:=.d (.da _)) E) (V (au E E) (V (au E E) (V (aG (x:=.d (.v _)) E) (V (aG (x:=.d (.v _)) E) (aw (ai ?_))))))))));change dG _ _ _ _ _;refine ae (ca 2 mixed (by kernel_rfl) ?_);refine V (aq (x:=.d (.v _)) E) (V (bS E E) (aw (ai ?_)));change dG _ _ _ _ _;refine ao E (λNi=>?_) (λNi=>?_)
  ·(try simp only[nb,Xv]at Ni);rw[hwn]at Ni;have Y:=hR2 (by rw[hE2];exact Ni);subst Y;refine ae (ca 9 mixed (by kernel_rfl) ?_);refine V (aq (x:=.d (.v _)) E) (V (aq (x:=.d (.v _)) E) (V (fG E E) (V (aq (x:=.d (.v _)) E) (aE E E (λhG=>(aq (x:=.d (.sl _ _)) E)) (aE E E (λhG=>(cd yF E (by exact aV _ _))) (aE E E (λhG=>(fG E E)) (aT E E E E E E ?_)))))));refine V (aG (x:=.d (.v _)) E) (aw (ai ?_));change dG _ _ _ _ _;refine ah ?_;exact⟨rfl,rfl,⟨rfl,Gn E (by simp[hE2,hwn])⟩,trivial⟩
  ·(try simp only[nb,Xv]at Ni);rw[hwn]at Ni;have Y:=hS2 (by rw[hE2];exact Ni);subst Y;have he1:e1=0:=by rw[hE1];exact ac5
   have he2:e2=0:=by rw[hE2];exact Ni
   refine wO ?_;change dG _ _ _ _ _;refine ae (ca 7 mixed (by kernel_rfl) ?_);refine V (aq (x:=.d (.sl _ _)) E) (V (ak bd8 (.cons E .nil) E (WJ _)) (V (aq (x:=.d (.da _)) E) (V (au E E) (V (au E E) (V (aG (x:=.d (.sl _ _)) E) (V (aG (x:=.d (.v _)) E) (aw (ai ?_))))))));change dG _ _ _ _ _;refine ae (ca 7 mixed (by kernel_rfl) ?_);refine V (aq (x:=.d (.sl _ _)) E) (V (ak bd8 (.cons E .nil) E (WJ _)) (V (aq (x:=.d (.da _)) E) (V (au E E) (V (au E E) (V (aG (x:=.d (.sl _ _)) E) (V (aG (x:=.d (.v _)) E) (aw (ai ?_))))))));change dG _ _ _ _ _;refine ae (ca 10 mixed (by kernel_rfl) ?_);refine V (af fy E) (V (ax (ds:=[_,_,_,_,_]) mI E E E) (V (aq (x:=.d (.sl _ _)) E) (V (ak aE8 (.cons E .nil) E (DG _ (by omega))) (V (ak aE9 (.cons E (.cons E .nil)) E (Qo _ _)) (V (aq (x:=.d (.da _)) E) (V (au E E) (V (au E E) (V (aG (x:=.d (.sl _ _)) E) (V (aG (x:=.d (.v _)) E) (aw (ai ?_)))))))))));change dG _ _ _ _ _;refine ae (ca 10 mixed (by kernel_rfl) ?_);refine V (af fy E) (V (ax (ds:=[_,_,_,_,_]) mI E E E) (V (aq (x:=.d (.sl _ _)) E) (V (ak aE8 (.cons E .nil) E (DG _ (by omega))) (V (ak aE9 (.cons E (.cons E .nil)) E (Qo _ _)) (V (aq (x:=.d (.da _)) E) (V (au E E) (V (au E E) (V (aG (x:=.d (.sl _ _)) E) (V (aG (x:=.d (.v _)) E) (aw (ai ?_)))))))))));change dG _ _ _ _ _;refine ae (ca 46 mixed (by kernel_rfl) ?_);refine V (aq (x:=.d (.v _)) E) (V (fG E E) (V (aq (x:=.d (.v _)) E) (aE E E (λhG=>(aq (x:=.d (.v _)) E)) (aE E E (λhG=>(fG E E)) (aT E E E E E E ?_)))));refine V (aq (x:=.d (.v _)) E) (aE E E (λhG=>(aq (x:=.d (.sl _ _)) E)) (aE E E (λhG=>(aq (x:=.d (.sl _ _)) E)) (aE E E (λhG=>(ak aF1 (.cons E (.cons E .nil)) E (E2 _ _))) (aT E E E E E E ?_))));refine V (aq (x:=.d (.v _)) E) (aE E E (λhG=>(aq (x:=.d (.v _)) E)) (aE E E (λhG=>(fG E E)) (aT E E E E E E ?_)));refine V (aq (x:=.d (.v _)) E) (aE E E (λhG=>(aq (x:=.d (.v _)) E)) (aE E E (λhG=>(fG E E)) (aT E E E E E E ?_)));refine V (aq (x:=.d (.v _)) E) (aE E E (λhG=>(aq (x:=.d (.sl _ _)) E)) (aE E E (λhG=>(aq (x:=.d (.sl _ _)) E)) (aE E E (λhG=>(ak aE7 (.cons E (.cons E .nil)) E (QL _ _))) (aT E E E E E E ?_))));refine V (aq (x:=.d (.v _)) E) (aE E E (λhG=>(aq (x:=.d (.sl _ _)) E)) (aE E E (λhG=>(cd iX E (by exact aV _ _))) (aE E E (λhG=>(af fy E)) (aE E E (λhG=>(ax (ds:=[_,_,_,_,_]) mI E E E)) (aE E E (λhG=>(ak VN (.cons E .nil) E (ve t.g hg))) (aE E E (λhG=>(fG E E)) (aT E E E E E E ?_)))))));refine V (aq (x:=.d (.v _)) E) (aE E E (λhG=>(aq (x:=.d (.v _)) E)) (aE E E (λhG=>(fG E E)) (aT E E E E E E ?_)));refine V (aq (x:=.d (.v _)) E) (aE E E (λhG=>(aq (x:=.d (.v _)) E)) (aE E E (λhG=>(fG E E)) (aT E E E E E E ?_)));refine V (aq (x:=.d (.v _)) E) (aE E E (λhG=>(aq (x:=.d (.sl _ _)) E)) (aE E E (λhG=>(aq (x:=.d (.sl _ _)) E)) (aE E E (λhG=>(ak aE7 (.cons E (.cons E .nil)) E (QL _ _))) (aT E E E E E E ?_))));refine V (aG (x:=.d (.v _)) E) (aw (ai ?_));change dG _ _ _ _ _;refine ah ?_;exact⟨rfl,rfl,⟨rfl,Gn E (by simp[he1,he2,hp1,hp2,hp3,hcn])⟩,trivial⟩
open Par (qX)
theorem aQ3:∀a∈List.range 64,∀b∈List.range 64,sE (FloatKind.f32.nearest (max (-2047) (((64*a+b:Nat):Int) - 2048)))=0:=by decide +kernel
theorem ba5{v:Int}(h1 : -2047<=v)(h2:v<=2047):sE (FloatKind.f32.nearest v)=0:=by
 have h:=aQ3 ((v+2048).toNat / 64) (YJ.2 (by omega)) ((v+2048).toNat % 64) (YJ.2 (by omega));rw[Nat.div_add_mod]at h;rwa [show max (-2047) ((((v+2048).toNat:Nat):Int) - 2048)=v by omega]at h
theorem OC:∀{l:List Nat} {i:Nat},(∀b∈l,sE b=0)->(ssE i l).2=0
 | [],_,_=>rfl
 | b::l,i,h=>by
  unfold ssE;rw[Xr (λq=>q (h b (by simp)))];exact OC λc hc=>h c (by simp[hc])
theorem aU8{t:tv}(hc:(ckT t).2=0):(ckT (Gk t)).2=0:=by
 have h:=S6 hc
 have hm:(AX t.ne (t.bf.map R.nrB)).2=0:=by
  unfold AX;rw[Xu (by simp[dP];exact⟨h.n1,h.n2⟩),Xr (by rw[Xo,h.nl];exact λq=>q E)];refine OC λb hb=>?_;obtain⟨x,hx,rfl⟩:=X6.1 hb;exact ba5 (h.wh x hx).lo (h.wh x hx).hi
 have h1:(AX t.ne t.bf).2=0:=by
  unfold ckT at hc;rw[Xr (λq=>q h.ck)]at hc;by_cases q:(AX t.ne t.bf).2=0
  ·exact q
  ·rw[Xu q]at hc;exact hc
 have e:ckT (Gk t)=ckT t:=by
  unfold ckT Gk;simp only[hm,h1]
 rw[e];exact hc
theorem aZ3{t:tv}(h:ud t.bf)(y:Int × Int):jQ (Gk t) y=jQ t y:=by
 show (Bo (t.bf.map R.nrB) (y.1*t.ne+y.2).toNat).map vI=(Bo t.bf (y.1*t.ne+y.2).toNat).map vI
 unfold Bo;rw[<-List.map_take,<-List.map_drop,List.map_map];refine Y5 λx hx=>?_;have sK:=h x (List.mem_of_mem_take (List.mem_of_mem_drop hx));exact(TQ sK.lo sK.hi).v
theorem be4{t:tv}(h:ud t.bf):imL (Gk t) (evI (Gk t)) []=imL t (evI t) []:=by
 have e:∀c,EE (Gk t) c []=EE t c []:=λc=>by
  funext s y;unfold EE;rw[aZ3 h];rfl
 unfold imL GC uK;congr 1;refine Y5 λc _=>?_;unfold lN;rw[e];rfl
theorem ad6{t:tv}(hc:(ckT t).2=0)(dl:List (List Int)):(qX t dl).2=(rm t.ne dl).2/\((qX t dl).2≠0->(qX t dl).1=[])/\((qX t dl).2=0->(qX t dl).1=imL t (evI t) []):=by
 unfold qX;by_cases J:(rm t.ne dl).2=0
 ·rw[Xr (λq=>q J)]
  exact⟨J.symm,λq=>absurd E q,λ_=>aW6 (S6 hc) J⟩
 ·rw[Xu J]
  exact⟨rfl,λ_=>rfl,λq=>absurd q J⟩
end
end Go.Proofs.YthcfokccjljnpaaGreat.Am.M
namespace Go.Proofs.YthcfokccjljnpaaGreat.Par
open Go Go.Conc Go.ConcN Go.RowKit Go.Conc.Lib Go.ConcR.Gen Go.Proofs.Tryz
open Go.ConcR (KK wgBlock WgAt stA smA rd wr mk Payload DC0)
section
open Am (D iN)
open Am.M (tv q8 lC Hr ckT S6 rm imL evI bT Hq Gk aR1 aX8 aN5 dP aU8 be4 ad6)
theorem aR0{g:Nat}{f:Func}(h:prog.funcs[g]?=some f)(hg:AY[g]?=some false):tG.funcs[g]?=some (oH f.results):=by
 have h':prog.funcs.toList[g]?=some f:=by simpa using h
 show (⟨mapG AY prog.funcs.toList⟩:Array Func)[g]?=some _
 rw[XY,uB,hg,h'];rfl
theorem fnT:∃fn wB,qP.funcs[4]?=some fn/\prog.funcs[4]?=some wB/\wB.results=fn.results:=⟨_,_,L9 func4 E,func4,rfl⟩
theorem bf5:∃fn wB,tG.funcs[4]?=some fn/\prog.funcs[4]?=some wB/\wB.results=fn.results:=⟨_,_,aR0 func4 E,func4,rfl⟩
theorem aQ8{T:Array Z3}{items:List Item}(h:∀i∈items,okI 1 prog i=true):mu 1 tG prog ((base 4).at ⟨T,[]⟩ items):=
 ⟨rfl,.inl E,h,(λd J=>by cases J),λ_=>bf5⟩
theorem Vq:spine PG:=by show spine (.seq _ (.seq _ (.seq _ .skip)));exact trivial
theorem UH:spine Pz:=by show spine (.seq _ (.seq _ (.seq _ .skip)));exact trivial
theorem aU2:okC 0 prog PG=true:=by kernel_rfl
theorem bc4:okC 1 prog Pz=true:=by kernel_rfl
theorem aX2:okI 0 prog (.code Ii)=true:=by kernel_rfl
theorem aX1:okI 0 prog (.code Ko)=true:=by kernel_rfl
theorem aM8:okI 0 prog (.code Dw)=true:=by kernel_rfl
theorem aM7:okI 0 prog (.code Kh)=true:=by kernel_rfl
theorem aX4(l:List Nat):okI 0 prog (.inRegion yB l)=true:=show (yB.all λo=>okOp 0 prog o.op)=true by kernel_rfl
theorem aX3(l:List Nat):okI 0 prog (.inRegion yd l)=true:=show (yd.all λo=>okOp 0 prog o.op)=true by kernel_rfl
theorem bb9:eO yB 5 (.call { callee:=.value (.func 8),args:=#[.tmp 88,.tmp 91],argTypes:=#[37,38] }) (some 92):=⟨⟨_,rfl,rfl,rfl,rfl⟩⟩
theorem bb8:eO yd 4 (.call { callee:=.value (.func 8),args:=#[.tmp 96,.tmp 99],argTypes:=#[37,38] }) (some 100):=⟨⟨_,rfl,rfl,rfl,rfl⟩⟩
theorem aA1{i j:Item}(h:okI 0 prog j=true)(hi:i∈[j]):okI 0 prog i=true:=by
 simp only[Xy,XG,Yn]at hi;subst hi;exact h
theorem aT1{i j k:Item}(h:okI 0 prog j=true)(h':okI 0 prog k=true)(hi:i∈[j,k]):okI 0 prog i=true:=by
 simp only[Xy,XG,Yn]at hi;rcases hi with rfl|rfl
 ·exact h
 ·exact h'
variable{m0:Z9}{Sh:Loc->Prop}{X:Nat->Prop}{w W:W'}{T:Array Z3}{todo k:List Item}{p:Nat}{l:List (Nat × D)}
theorem HN(h:JW prog m0 p Sh { bT.at ⟨T,[]⟩ todo with mode:=.returning } [] w)(hT:T[4]?=some (.bool true))(hB:Below W.heap.size W w) :
  ∃N last o w' t',runNT prog (N+1) m0 #[]=(.ended o w',t')/\runN prog N m0=.next last/\step prog last=.ended o w'/\Conc.Good prog (λv w'=>v=.bool true/\Below W.heap.size W w') last o w' t':=by
 obtain⟨n,gs,sl,t,q,B,h1,_,h2,h3,h4,_⟩:=h;have e4:T.getD 4 undef=.bool true:=by rw[XN,hT];rfl
 obtain⟨N,last,o,w',t',k1,k2,k3,k4⟩:=beside_ends (Shun:=Sh) (B:=max B w.heap.size) (D:=DC0) (Post:=λv w'=>v=.bool true/\Below W.heap.size W w') (n:=0) (sl:=sl) (λw w' es J e he=>by rw[J.2]at he;simp at he) h2 h3 h4 (λw1 Y=>by
  obtain⟨d,rfl⟩:=Y;refine⟨rfl,.bool true,#[],?_,(λe he=>by simp at he),rfl,⟨hB.os,hB.tape,hB.output,hB.size,hB.block⟩⟩
  simp[G,stepG,unwind,doReturn,results,Frame.at,base,func4,Tryz.f4,seen,GStep.after,e4,hT])
 refine⟨n+N,last,o,w',t',?_,?_,k3,k4⟩
 ·rw[YZ,runNT_add,h1];exact k1
 ·rw[runN_add,<-runNT_fst prog _ _ #[],h1];exact k2
theorem aG7{Q P:Z4}{M n:Nat}{b:Frame}{cs:List Frame}{items:List Item}{l':List (Nat × D)}{K:Nat->List Item}(H:Fk Q P (KO 0 P) id)(h:JW P m0 p Sh (b.at ⟨T,[]⟩ items) cs w)(hM:M<=w.heap.size)(hX:∀b,X b->b<w.heap.size)(hS:∀l,Sh l->∃a,l=.cell a/\X a.block)(ep:∀c∈cs,c.mode=.run)(ok:mu 0 Q P (b.at ⟨T,[]⟩ items))(hT:Tm w (λb=>¬X b) l T)(hn:T.size=n)
  (Er:∀wl,SW Q b [di Q] (wm wl (λb=>¬X b)) (λfr w=>∃τ,xn n b (λb=>¬X b) wl (K τ) l' fr w) items (MH n l)):∃T' τ w' wE,JW P m0 p Sh (b.at ⟨T',[]⟩ (K τ)) cs w'/\T'.size=n/\Tm w' (λb=>¬X b) l' T'/\Sg M w wE w'/\w.heap.size<=w'.heap.size:=by
 obtain⟨wl,cB,wE,w',Tk,h1,⟨τ,⟨h2,_⟩,T',rfl,h3,h4⟩,h5,h7,h8,h6,_⟩:=Wc (r:=none) (Post:=λwl fr w=>∃τ,xn n b (λb=>¬X b) wl (K τ) l' fr w) H nz h hM hX hS ep ok (.same E E) hT hn (λwl _=>Er wl) (λwl cB wE ⟨τ,_,T',e,_⟩=>⟨λch=>(by rw[e];simp[Frame.at]),λY=>absurd E Y⟩);have e:=h7 E;subst e;exact⟨T',τ,w',wE,h5,h3,h6.tm h4 λb hb h=>h.elim id λh hx=>by have:=hX b hx;omega,h6,by have:=h6.size;omega⟩
theorem LC{t:tv}{dl:List (List Int)}{ops:Array Z8}{i x y d:Nat}{rest:List Nat}(ho:eO ops i (.call { callee:=.value (.func 8),args:=#[.tmp x,.tmp y],argTypes:=#[37,38] }) (some d))(hc:(ckT t).2=0)(J:d<212)(hl:(l.all λq=>!(Nat.beq q.1 d))=true)(Vf:dl.length<=1000)(SN:∀x∈dl,x.length<=20)(hp:p<=1000)
  (h:JW prog m0 p Sh (bT.at ⟨T,[]⟩ (.inRegion ops (i::rest)::k)) [] w) (hX:∀b,X b->b<w.heap.size) (hSX:∀l,Sh l->∃a,l=.cell a/\X a.block) (hn:T.size=212) (hT:Tm w (λb=>¬X b) l T) (hx:Tm w (λb=>¬X b) [(x,.agg (q8 t)),(y,.sl 1 (dl.map lC))] T) :
  ∃(p':Nat) (Sh':Loc->Prop) (X':Nat->Prop) (T':Array Z3) (w':W'),JW prog m0 p' Sh' (bT.at ⟨T',[]⟩ (.inRegion ops rest::k)) [] w'/\p'<=p+dl.length/\(∀b,X' b->b<w'.heap.size)/\(∀l,Sh' l->∃a,l=.cell a/\X' a.block)/\T'.size=212/\
   Tm w' (λb=>¬X' b) l T'/\Tm w' (λb=>¬X' b) [(d,.da [.sl 1 ((qX t dl).1.map Hr),.v (.int .i64 (qX t dl).2)])] T'/\Below w.heap.size w w':=by
 have⟨⟨vx,c3,c4⟩,⟨vy,c5,c6⟩,_⟩:=hx
 obtain⟨d0,hD⟩:=aP0 (fr':=(base 8).at ⟨#[vx,vy]++Array.replicate 83 undef,[]⟩ [.code DR]) (cs':=[bT.at ⟨T,[]⟩ (.inRegion ops (i::rest)::k)]) h λd=>sU ho E (by decide) func8 ah3 Oh (by
  simp only[YK,Yd,Zq,Act.eval,XN,c3,c5];rfl) (by rw[ntD];rfl) (w.at d)
 have two:(#[vx,vy]++Array.replicate 83 undef)[0]?=some vx/\(#[vx,vy]++Array.replicate 83 undef)[1]?=some vy/\(#[vx,vy]++Array.replicate 83 undef).size=85:=by
  refine⟨?_,?_,?_⟩
  ·rw[Array.getElem?_append_left (by simp)];rfl
  ·rw[Array.getElem?_append_left (by simp)];rfl
  ·simp
 obtain⟨p',Sh',X',T',td,w',r1,r2,r3,r4,r5,r6,r7⟩:=aN9 (t:=t) (dl:=dl) hc Vf SN (w:=w.at d0) hX hSX hp E hD ((show Tm w (λb=>¬X b) [(0,.agg (q8 t)),(1,.sl 1 (dl.map lC))] _ from ⟨⟨vx,two.1,c4⟩,⟨vy,two.2.1,c6⟩,trivial⟩).cells (Xw _) (λ_ _ _ h=>h) λ_ _ h=>h) two.2.2;have⟨⟨v4,q1,q2⟩,⟨v5,q3,q4⟩,_⟩:=r6;have g4:T'.getD 4 undef=v4:=by rw[XN,q1];rfl
 have g5:T'.getD 5 undef=v5:=by rw[XN,q3];rfl
 have⟨o4,a1,a2,a3,a4⟩:=ho.get
 obtain⟨d1,hA⟩:=Ox (fr':=bT.at ⟨T.setIfInBounds d (.tuple #[v4,v5]),[]⟩ (.inRegion ops rest::k)) (cs':=[]) (m:=1) r1 (Goes.step E λw1 Y=>goes_leave2 (t:=4) (u:=5) E E func8 E ⟨⟨rfl,rfl⟩,λw2 Jr=>by
  rw[g4,g5,a1];show G (bT.at ((⟨T,[]⟩:Act).put o4.dst _) _) _=_
  rw[a3];rfl⟩)
 have hB:Below w.heap.size w w':=⟨r7.os,r7.tape,r7.output,r7.size,r7.block⟩
 have S3:Tm w' (λb=>¬X' b) l T:=hT.cells hB.size (λa v _ hc=>by
  have bH:a.block<w.heap.size:=let ⟨_,_,_,h,_⟩:=cellsOf? hc;(Xz.1 h).1;unfold World.cell? at hc ⊢
  rw[hB.block _ bH];exact hc) λb hb hk hx=>hk (r5 b hb hx)
 refine⟨p',Sh',X',_,w'.at d1,hA,r2,r3,r4,by simp[hn],?_,⟨⟨.tuple #[v4,v5],X9 (by omega),?_⟩,trivial⟩,⟨hB.os,hB.tape,hB.output,hB.size,hB.block⟩⟩
 ·exact(S3.put hl).cells (Xw _) (λ_ _ _ h=>h) λ_ _ h=>h
 ·refine Am.iN.da _ [v4,v5] E λj d v J hv=>?_
  match j,J,hv with
  | 0,J,hv=>cases J;cases hv;exact q2.cr (Xw _) (λ_ _ _ h=>h) λ_ _ h=>h
  | 1,J,hv=>cases J;cases hv;exact q4.cr (Xw _) (λ_ _ _ h=>h) λ_ _ h=>h
  | j+2,J,hv=>simp at J
theorem Tm.app{w:W'}{ok:Nat->Prop}{T:Array Z3}:∀{l m:List (Nat × D)},Tm w ok l T->Tm w ok m T->Tm w ok (l++m) T
 | [],_,_,h=>h
 | _::_,_,h,h'=>⟨h.1,Tm.app h.2 h'⟩
variable{t:tv}{d1 d2:List (List Int)}{told:Int}{vt vd:Z3}
theorem PE(hvt:iN W (λ_=>True) (.agg (q8 t)) vt)(hvd:iN W (λ_=>True) (.agg (Hq d1 d2 told)) vd){sl:Option (Nat × Nat)}:∃N last o w' t',runNT prog (N+1) (crowd #[G (Frame.enter prog 4 #[vt,vd] .normal) []] W sl) #[]=(.ended o w',t')/\runN prog N (crowd #[G (Frame.enter prog 4 #[vt,vd] .normal) []] W sl)=.next last/\step prog last=.ended o w'/\
  Conc.Good prog (λv w'=>v=.bool true/\Below W.heap.size W w') last o w' t':=by
 have e0:Frame.enter prog 4 #[vt,vd] .normal=bT.at ⟨#[vt,vd]++Array.replicate 210 undef,[]⟩ [.code (spin Fg PG)]:=by
  rw[enter_at _ func4 aO6,aq8];rfl
 have h0:=aK0 (P:=prog) (fr:=Frame.enter prog 4 #[vt,vd] .normal) (cs:=[]) (w:=W) (sl:=sl);generalize hm0:crowd #[G (Frame.enter prog 4 #[vt,vd] .normal) []] W sl=m0 at *;rw[e0]at h0
 have two:(#[vt,vd]++Array.replicate 210 undef)[0]?=some vt/\(#[vt,vd]++Array.replicate 210 undef)[1]?=some vd/\(#[vt,vd]++Array.replicate 210 undef).size=212:=by
  refine⟨?_,?_,?_⟩
  ·rw[Array.getElem?_append_left (by simp)];rfl
  ·rw[Array.getElem?_append_left (by simp)];rfl
  ·simp
 have T0:Tm W (λb=>¬False) [(0,.agg (q8 t)),(1,.agg (Hq d1 d2 told))] (#[vt,vd]++Array.replicate 210 undef):=⟨⟨vt,two.1,hvt.cr (Xw _) (λ_ _ _ h=>h) λ_ _ _=>id⟩,⟨vd,two.2.1,hvd.cr (Xw _) (λ_ _ _ h=>h) λ_ _ _=>id⟩,trivial⟩;have nX:∀(w:W') (b:Nat),False->b<w.heap.size:=λ_ _ h=>h.elim;have nS:∀l:Loc,False->∃a,l=.cell a/\False:=λ_ h=>h.elim;have nC:∀c∈([]:List Frame),c.mode=.run:=λc hc=>by cases hc
 by_cases hq:aR1 t d1 d2
 case neg=>
  obtain⟨T',td,w',wE,a1,a2,⟨⟨v,a3,a4⟩,_⟩,a5,a6⟩:=DY (M:=W.heap.size) (X:=λ_=>False) (r:=some Fg) (b:=bT) (n:=212) (l':=[(4,.v (.bool true))]) Vz nz h0 (Xw _) (nX _) nS nC (pC fnT λi hi=>rB hi aU2 ux) (AR Vq) T0 two.2.2 λwl=>Am.M.tsA t d1 d2 told hq wl _;have hv:=Am.iN.c8 a4;subst hv;exact HN a1 a3 (a5.below a6 (Xw _))
 have hq0:=hq;have⟨q1,q2,q3,q4⟩:=hq0;have h:=S6 q2;have⟨Vf,SN⟩:=aX8 q1;have⟨hf1,hf2⟩:=aN5 q3;have⟨O9,WW⟩:=aN5 q4;obtain⟨T1,Tk,w1,wE1,a1,_,a2,a3,a4,a5,a6⟩:=Ka (M:=W.heap.size) (X:=λ_=>False) (r:=some Fg) (b:=bT) (n:=212) (k:=[.code (.exit 0)]) (l':=[(2,.pt (q8 t) 0),(3,.pt (Hq d1 d2 told) 0)]) Vz nz h0 (Xw _) (nX _) nS nC (pC fnT λi hi=>rB hi aU2 ux) (AR Vq) T0 two.2.2 (λ_=>rfl) λwl=>Am.M.tsB t d1 d2 told hq wl _;rw[a2 _ E,<-V9]at a1;have hB1:Below W.heap.size W w1:=a5.below a6 (Xw _)
 have ok2:mu 1 tG prog (bT.at ⟨T1,[]⟩ [.code Pz,.code (.exit 0)]):=aQ8 λi hi=>by
  simp only[Xy,XG,Yn]at hi;rcases hi with rfl|rfl
  ·exact bc4
  ·exact rfl
 by_cases hz:dP (-1000000000) told 1000000000=true
 case neg=>
  obtain⟨T',td,w',b1,b2,⟨⟨v,b3,b4⟩,_⟩,b5⟩:=aP2 (r:=some Ii) (b:=bT) (n:=212) (l':=[(4,.v (.bool true))]) (fkR id) a1 nC ok2 (AR UH) a4 a3 λwl=>Am.M.R.tsC t d1 d2 told h (by simpa using hz) wl _;have hv:=Am.iN.c8 b4;subst hv;exact HN b1 b3 (hB1.trans (b5.mono hB1.size))
 obtain⟨T2,Tk2,w2,b1,_,b2,b3,b4,b5⟩:=aS5 (r:=some Ii) (b:=bT) (n:=212) (k:=[.code (.exit 0)]) (l':=[(2,.pt (q8 t) 0),(3,.pt (Hq d1 d2 told) 0),(7,.pt [.v (.int .i64 told),.v (.int .i64 t.ne),.sl 1 ((t.bf.map Am.M.R.nrB).map Am.M.fC)] 0),(8,.v (.int .i64 0))]) (fkR id) a1 nC ok2 (AR UH) a4 a3 (λ_=>rfl) λwl=>Am.M.R.tsD t d1 d2 told h hz wl _;rw[b2 _ E]at b1;have S5:Below W.heap.size W w2:=hB1.trans (b5.mono hB1.size);obtain⟨T3,Tk3,w3,wE3,c1,c2,_,c3,c4,c5,c6⟩:=Ka (M:=W.heap.size) (X:=λ_=>False) (r:=none) (b:=bT) (n:=212) (k:=[.code Ko]) (l':=[(2,.pt (q8 t) 0),(3,.pt (Hq d1 d2 told) 0),(9,.pt (q8 (Gk t)) 0)]) Vz nz b1 S5.size (nX _) nS nC (pC fnT λi hi=>aA1 aX2 hi) (.same E E) b4 b3 (λh=>absurd E h) λwl=>Am.M.tsE t d1 d2 told (by omega) (by omega) wl _;rw[c2 E]at c1;have hB3:Below W.heap.size W w3:=S5.trans (c5.below c6 (Xw _));obtain⟨T4,τ,w4,wE4,e1,e2,e3,e4,e5⟩:=aG7 (M:=W.heap.size) (X:=λ_=>False) (b:=bT) (n:=212) (K:=ac2) (l':=[(2,.pt (q8 t) 0),(3,.pt (Hq d1 d2 told) 0),(9,.pt (q8 (Gk t)) 0),(88,.agg (q8 t)),(91,.sl 1 (d1.map lC))]) Vz c1 hB3.size (nX _) nS nC (pC fnT λi hi=>aA1 aX1 hi) c4 c3 λwl=>Am.M.tsF t d1 d2 told (by omega) (by omega) (by omega) (λx hx=>by have:=hf2 x hx;omega) wl _;have hB4:Below W.heap.size W w4:=hB3.trans (e4.below e5 (Xw _));have⟨x2,x3,x9,x88,x91,_⟩:=e3;obtain⟨p5,Sh5,X5,T5,w5,g1,g2,g3,g4,g5,g6,g7,g8⟩:=LC (l:=[(2,.pt (q8 t) 0),(3,.pt (Hq d1 d2 told) 0),(9,.pt (q8 (Gk t)) 0)]) bb9 q2 (by decide) E (by omega) hf2 (by omega) e1 (nX _) nS e2 ⟨x2,x3,x9,trivial⟩ ⟨x88,x91,trivial⟩;have hB5:Below W.heap.size W w5:=hB4.trans (g8.mono hB4.size);obtain⟨T6,Tk6,w6,wE6,i1,i2,_,i3,i4,i5,i6⟩:=Ka (M:=W.heap.size) (X:=X5) (r:=none) (b:=bT) (n:=212) (k:=[.code Dw]) (l':=[(2,.pt (q8 t) 0),(3,.pt (Hq d1 d2 told) 0),(9,.pt (q8 (Gk t)) 0),(10,.sl 1 ((qX t d1).1.map Hr)),(11,.v (.int .i64 (qX t d1).2))]) Vz nz g1 hB5.size g3 g4 nC (pC fnT λi hi=>aT1 (aX4 _) aM8 hi) (.same E E) (g6.app g7) g5 (λh=>absurd E h) λwl=>Am.M.tsG t d1 d2 told (qX t d1).1 (qX t d1).2 wl _ τ;rw[i2 E]at i1;have hB6:Below W.heap.size W w6:=hB5.trans (i5.below i6 (Xw _));have g3':∀b,X5 b->b<w6.heap.size:=λb hb=>XD (g3 b hb) i6;obtain⟨T7,τ',w7,wE7,j1,j2,j3,j4,j5⟩:=aG7 (M:=W.heap.size) (X:=X5) (b:=bT) (n:=212) (K:=aJ7) (l':=[(2,.pt (q8 t) 0),(3,.pt (Hq d1 d2 told) 0),(9,.pt (q8 (Gk t)) 0),(10,.sl 1 ((qX t d1).1.map Hr)),(11,.v (.int .i64 (qX t d1).2)),(96,.agg (q8 (Gk t))),(99,.sl 1 (d2.map lC))]) Vz i1 hB6.size g3' g4 nC (pC fnT λi hi=>aA1 aM8 hi) i4 i3 λwl=>Am.M.tsH t d1 d2 told (qX t d1).1 (qX t d1).2 (by omega) (λx hx=>by have:=WW x hx;omega) wl _;have hB7:Below W.heap.size W w7:=hB6.trans (j4.below j5 (Xw _));have⟨y2,y3,y9,y10,y11,y96,y99,_⟩:=j3;have bf4:∀b,X5 b->b<w7.heap.size:=λb hb=>XD (g3' b hb) j5;obtain⟨p8,Sh8,X8,T8,w8,k1,k2,k3,k4,k5,k6,k7,k8⟩:=LC (l:=[(2,.pt (q8 t) 0),(3,.pt (Hq d1 d2 told) 0),(9,.pt (q8 (Gk t)) 0),(10,.sl 1 ((qX t d1).1.map Hr)),(11,.v (.int .i64 (qX t d1).2))]) bb8 (aU8 q2) (by decide) E (by omega) WW (by omega) j1 bf4 g4 j2 ⟨y2,y3,y9,y10,y11,trivial⟩ ⟨y96,y99,trivial⟩;have hB8:Below W.heap.size W w8:=hB7.trans (k8.mono hB7.size);obtain⟨T9,Tk9,w9,wE9,l1,l2,_,l3,l4,l5,l6⟩:=Ka (M:=W.heap.size) (X:=X8) (r:=none) (b:=bT) (n:=212) (k:=[.code Kh]) (l':=[(2,.pt (q8 t) 0),(3,.pt (Hq d1 d2 told) 0),(10,.sl 1 ((qX t d1).1.map Hr)),(11,.v (.int .i64 (qX t d1).2)),(12,.sl 1 ((qX (Gk t) d2).1.map Hr)),(13,.v (.int .i64 (qX (Gk t) d2).2))]) Vz nz k1 hB8.size k3 k4 nC (pC fnT λi hi=>aT1 (aX3 _) aM7 hi) (.same E E) (k6.app k7) k5 (λh=>absurd E h) λwl=>Am.M.tsI t d1 d2 told (qX t d1).1 (qX t d1).2 (qX (Gk t) d2).1 (qX (Gk t) d2).2 wl _ τ';rw[l2 E]at l1;have hB9:Below W.heap.size W w9:=hB8.trans (l5.below l6 (Xw _));have⟨z1,z2,z3⟩:=ad6 q2 d1;have⟨z4,z5,z6⟩:=ad6 (aU8 q2) d2;rw[be4 h.wh]at z6;obtain⟨T',td,w',wE,r1,r2,⟨⟨v,r3,r4⟩,_⟩,r5,r6⟩:=DY (M:=W.heap.size) (X:=X8) (r:=none) (b:=bT) (n:=212) (l':=[(4,.v (.bool true))]) Vz nz l1 hB9.size (λb hb=>XD (k3 b hb) l6) k4 nC (pC fnT λi hi=>aA1 aM7 hi) (.same E E) l4 l3 λwl=>at9 E (Am.M.tsJ t d1 d2 told h (qX t d1).1 (qX t d1).2 (qX (Gk t) d2).1 (qX (Gk t) d2).2 z1 z4 z2 z5 z3 z6 wl _);have hv:=Am.iN.c8 r4;subst hv;exact HN r1 r3 (hB9.trans (r5.below r6 (Xw _)))
end
end Go.Proofs.YthcfokccjljnpaaGreat.Par
namespace Go.Proofs.YthcfokccjljnpaaGreat
open Go.Proofs.Tryz Go Go.ChangeShapes Go.WideShapes Go.ChangeAt Go.RowKit
theorem cW{a b:Bool}(h:a=true)(k:b=true):(a&&b)=true:=by rw[h,k];rfl
theorem Jk{P:Z4}{f:ϋ}{fn:Func}{s:ChangeSpec}{c:OpenClaim}(h0:(c.wf (OpenSpec.ofChange s))=true)(h1:(laidOutB P)=true)(h2:(mapsRowed P)=true)(h3:(fn.params.all (P.readableRec ·))=true)(h4:(namedTie P c.named s.vars)=true)(h5:((c.stops==[]))=true)(h6:((P.stops==[]))=true)(h7:((c.knobs==[]))=true)(h8:((P.stopKnobs==[]))=true)(h9:((c.inPlace==P.inPlace f))=true)(h10:((c.unfollowed==P.unfollowed f))=true)(h11:((c.recurses==P.recurses f))=true)(h12:((c.named==P.varsNamed f))=true)(h13:((c.maps==(fn.params.toList++s.plain.varTypes P).any (P.mapsRec ·)))=true)(h14:((c.ifaces==(fn.params.toList++s.plain.varTypes P).any (P.ifacesRec ·)))=true)(h15:((c.mapsOut==P.mapsAmong fn.resultTypes.toList))=true)(h16:((c.loops==(fn.params.toList++s.plain.varTypes P).any (P.loopsFrom ·)))=true)(h17:((c.wideKeys==(fn.params.toList++s.plain.varTypes P++fn.resultTypes.toList).any (P.wideKeysFrom ·)))=true)(h18:(s.vars.all (P.varReadable ·))=true)(h19:(fn.resultTypes.all (λt=>P.readableRec t&&decide (t<P.types.size)))=true)(h20:((c.ifacesOut==fn.resultTypes.toList.any (P.ifacesRec ·)))=true)(h21:((c.loopsOut==fn.resultTypes.toList.any (P.loopsFrom ·)))=true)(h22:((c.plainKeys==P.plainKeys))=true)(h23:(c.shortTexts.isNone)=true)(h24:(P.stopsHeard)=true)(h25:(P.mayEnter)=true)(h26:((c.lifted==P.liftsFinal))=true)(h27:((P.make==some c.make))=true)(h28:c.kinds=[])(J:c.domain.isEmpty=true)(h29:((c.pinned==c.pinnedBy))=true)(h30:((c.veiled==(fn.params.toList++s.plain.varTypes P++fn.resultTypes.toList).any (P.veiledRec ·)))=true)(h31:(c.veiledFits P fn.params.toList (fn.params.toList++s.plain.varTypes P++fn.resultTypes.toList))=true):joinedFacts P f fn s c=true:=(cW (cW (cW (cW (cW (cW (cW (cW (cW (cW (cW (cW (cW (cW (cW (cW (cW (cW (cW (cW (cW (cW (cW (cW (cW (cW (cW (cW (cW (cW (cW h0 h1) h2) h3) h4) h5) h6) h7) h8) h9) h10) h11) h12) h13) h14) h15) h16) h17) h18) h19) h20) h21) h22) h23) h24) h25) h26) h27) (by rw[h28,Xu J];rfl)) h29) h30) h31)
theorem ax8:(laidOutB Tryz.pinned.checked.prog)=true:=by kernel_rfl
theorem ax7:(mapsRowed Tryz.pinned.checked.prog)=true:=by kernel_rfl
theorem ax6:((Tryz.pinned.checked.prog.stops==[]))=true:=by kernel_rfl
theorem ax5:((Tryz.pinned.checked.prog.stopKnobs==[]))=true:=by kernel_rfl
theorem ah8:(Tryz.pinned.checked.prog.stopsHeard)=true:=by kernel_rfl
theorem ah7:(Tryz.pinned.checked.prog.mayEnter)=true:=by kernel_rfl
theorem xw:Tryz.pinned.checked.prog.liftsFinal=Rows.focusDealtRow.lifted:=by kernel_rfl
theorem QJ:Tryz.pinned.checked.prog.make=some Rows.focusDealtRow.make:=by kernel_rfl
theorem An:Tryz.pinned.checked.prog.plainKeys=Rows.focusDealtRow.plainKeys:=by kernel_rfl
end Go.Proofs.YthcfokccjljnpaaGreat
