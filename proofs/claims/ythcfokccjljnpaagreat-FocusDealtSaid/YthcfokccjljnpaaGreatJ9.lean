/- Contracts over the abstract machine, and the crowd of workers. Conditions: none. -/
import Derived.Test.YthcfokccjljnpaaGreatJ8
set_option linter.unusedVariables false
set_option linter.unusedSimpArgs false
set_option linter.unusedSectionVars false
set_option maxRecDepth 100000
namespace Go.Proofs.YthcfokccjljnpaaGreat.Par
section
open Go Go.Conc Go.ConcN Go.RowKit Go.Conc.Lib Go.ConcR.Gen
open Go.ConcR (KK wgBlock WgAt stA smA rd wr mk Payload)
variable[Payload]{L:WgLink}{c:Kx}{Next:Goroutine->World->Prop}{i b1 b2:Nat}{F:World->Prop}{b₀:Frame}{a₀:Act}{ops₀:Array Oper}{i₀:Nat}{rest₀:List Nat}{k₀:List Item}{cs:List Frame}
set_option maxHeartbeats 8000000 in
theorem as9 (H : WgLib c.P L) (W : Wl c (two b1 b2) F) (hT : GX c.P true (R0 c (two b1 b2)) (DS c (two b1 b2)) F (AtGo c Next i b1 b2) (G (b₀.at (a₀.put ((ops₀[i₀]?).bind (·.dst)) (.tuple #[])) (.inRegion ops₀ rest₀ :: k₀)) cs)) :
  GX c.P true (R0 c (two b1 b2)) (DS c (two b1 b2)) F (AtKdS c Next i b1 b2) (G ((base L.add).at ⟨#[.pointer (some ⟨c.Wg,0,none⟩),.int .i64 1,undef,undef,undef,undef,undef,undef,undef,undef,undef,undef,undef,undef,undef,undef,undef,undef,undef,undef,undef,undef,undef,undef,undef,undef,undef,undef,undef,undef,undef,undef,undef,undef,undef,undef,undef,undef,undef,undef,undef,undef,undef,undef,undef,undef,undef,undef,undef,undef,undef,undef,undef,undef,undef,undef,undef,undef,undef,undef,undef,undef,undef,undef,undef,undef,undef,undef,undef,undef,undef,undef,undef,undef,undef,undef,undef,undef,undef,undef,undef,undef,undef,undef,undef,undef,undef,undef,undef,undef,undef,undef,undef,undef,undef,undef,undef,undef,undef,undef,undef,undef,undef,undef,undef,undef,undef,undef,undef,undef,undef,undef,undef,undef,undef,undef,undef],[]⟩ [.code (body_add L)]) (b₀.at a₀ (.inRegion ops₀ (i₀::rest₀)::k₀)::cs)):=by
 lib_facts
 simp only[body_add,addFn,Zw]
 iterate 12 (first
  | refine GX.seq W.toWk ?_
  | refine GX.fin W.toWk ?_
  | (refine GX.region W.toWk ?_;simp only[Ys,XH,XL,Nat.reduceAdd,XK,List.range,List.range.loop])
  | refine GX.skip W.toWk ?_
  | refine GX.iS W.toWk rfl ?_
  | refine GX.jH W.toWk rfl ?_
  | (refine GX.unwanted W.toWk rfl rfl ?_;walk_nrm)
  | (refine GX.value W.toWk rfl rfl (by k_ne) (λ_ _=>by go_simp<;>rfl) (λ_ _=>by simp[go_sem, *]) ?_;walk_nrm;try w_num))
 refine GX.stop W.toWk λw hF=>⟨rfl,_,stepG_mark0 .disable (by simp) rfl rfl (by k_ne) rfl H.f_disable (x_disable_n L) (x_disable_b L) (x_disable_x L) (x_disable_f L),GX.at ?_ hF⟩
 clear hF w
 walk_nrm
 iterate 34 (first
  | refine GX.seq W.toWk ?_
  | refine GX.fin W.toWk ?_
  | (refine GX.region W.toWk ?_;simp only[Ys,XH,XL,Nat.reduceAdd,XK,List.range,List.range.loop])
  | refine GX.skip W.toWk ?_
  | refine GX.iS W.toWk rfl ?_
  | refine GX.jH W.toWk rfl ?_
  | (refine GX.unwanted W.toWk rfl rfl ?_;walk_nrm)
  | (refine GX.call W.toWk rfl rfl (by k_ne) rfl H.f_uAdd (nm_uAdd L) rfl ?_;walk_nrmf uAddFn)
  | (refine GX.step W.toWk rfl (λ_ _=>stepG_entry_pure (.bool false) rfl rfl (by k_ne) rfl H.f_inBubble (x_inBubble_n L) (x_inBubble_b L) (x_inBubble_x L) (x_inBubble_f L)) ?_;walk_nrm)
  | (refine GX.defer W.toWk rfl rfl (by k_ne) rfl ?_;walk_nrm)
  | (refine GX.value W.toWk rfl rfl (by k_ne) (λ_ _=>by go_simp<;>rfl) (λ_ _=>by simp[go_sem, *]) ?_;walk_nrm;try w_num))
 refine GX.stop W.toWk λw hF=>⟨rfl,λv hv hw=>?_⟩
 obtain⟨V,hV⟩:∃V:Int,V=(v:Int)+1:=⟨_,rfl⟩
 obtain⟨S,hS⟩:∃S:Int,S=V*KK:=⟨_,rfl⟩
 have eS:IntKind.u64.wrap ((v:Int)*KK+4294967296)=S:=by rw[IntKind.wrap_u64,hS,hV];simp only[KK];omega
 rw[<-hV,<-hS];refine⟨_,(stepG_add_atomic rfl rfl (by k_ne) rfl H.f_addU64 (x_addU64_n L) (x_addU64_b L) (x_addU64_x L) .u64 (x_addU64_f L) rfl rfl hw.cellSt (hw.thaw 0)).trans (by rw[eS];rfl),GX.at ?_ (W.set _ _ _ hF rfl ⟨_,_,hw.setSt _⟩)⟩;have a1:S / 4294967296=V:=by rw[hS];simp only[KK];omega
 have b1':bits .and .u64 S 2147483648=0:=by rw[hS,hV];have:=st_flag (v+1) 0 (by omega) (by omega);simpa [KK] using this
 have b2':bits .and .u64 S 2147483647=0:=by rw[hS,hV];have:=st_waiters (v+1) 0 (by omega) (by omega);simpa [KK] using this
 have c1:IntKind.i32.wrap V=V:=by rw[IntKind.wrap_i32];omega
 have c2:IntKind.i32.wrap 1=1:=by decide
 have c3:IntKind.u32.wrap 0=0:=by decide
 have q3:decide (V<0)=false:=XV (by omega);have q4:decide (0<V)=true:=X5 (by omega)
 have q7:∃q:Bool,(V==1)=q∧decide (V=1)=q:=by
  by_cases h:V=1
  ·exact⟨true,by simp[h],by simp[h]⟩
  ·exact⟨false,by simp[h],by simp[h]⟩
 obtain⟨q,q1,q2⟩:=q7;clear hF hw hv eS hS hV w
 walk_nrm
 cases q<;>repeat (first
  | refine GX.seq W.toWk ?_
  | refine GX.fin W.toWk ?_
  | (refine GX.region W.toWk ?_;simp only[Ys,XH,XL,Nat.reduceAdd,XK,List.range,List.range.loop])
  | refine GX.skip W.toWk ?_
  | refine GX.iS W.toWk rfl ?_
  | refine GX.jH W.toWk rfl ?_
  | (refine GX.unwanted W.toWk rfl rfl ?_;walk_nrm)
  | refine GX.ret W.toWk ?_
  | (refine GX.leave1 W.toWk rfl rfl H.f_uAdd rfl ?_;walk_nrm)
  | (refine GX.conv W.toWk rfl rfl (by k_ne) rfl rfl H.underlying_tPU32 H.underlying_tUP H.room_tU32 (λ_ h=>(W.cell h).2) ?_;walk_nrm)
  | (refine GX.ev W.toWk rfl (λ_ _=>stepG_markAt .read (by simp) rfl rfl (by k_ne) rfl H.f_raceRead (x_raceRead_n L) (x_raceRead_b L) (x_raceRead_x L) (x_raceRead_f L) (ad:=⟨c.Wg,1,none⟩) (by simp[Act.eval])) (λw _=>.one w (.inl ⟨_,rfl,.inl rfl⟩)) ?_;walk_nrm)
  | (refine GX.value W.toWk rfl rfl (by k_ne) (λ_ _=>by go_simp<;>rfl) (λ_ _=>by simp[go_sem, *]) ?_;walk_nrm;try simp only[a1,b1',b2',c1,c2,c3,q1,q2,q3,q4]))
 all_goals
  refine GX.stop W.toWk λw hF=>⟨rfl,_,stepG_unwind_entry (v:=.tuple #[]) (evs:=#[mk .enable]) rfl H.f_enable (x_enable_n L) (x_enable_b L) (x_enable_x L) (x_enable_f L) (by simp[Extern.Race.none_]) (by simp[mk]) (by simp[mk]),GX.at ?_ hF⟩
  exact GX.leave0 W.toWk rfl rfl H.f_add rfl hT
end
section
open Go Go.Conc Go.ConcN Go.RowKit Go.Conc.Lib Go.ConcR.Gen
open Go.ConcR (KK wgBlock WgAt stA smA rd wr mk Payload DC0)
def OU(P:Program)(gD:Goroutine)(g:Goroutine)(w:World):Prop:=g.status=.running∧GX P true AtRel DC0 (λ_=>True) (λg' _=>g'=gD∧g'.status=.running) g
theorem wkU:Wk AtRel DC0 (λ_=>True):=⟨λ_ _ _ _=>trivial,λ_=>⟨rfl,rfl⟩⟩
def It(L:WgLink)(Wg:Nat)(F:World->Prop)(b:Frame)(cs:List Frame)(g:Goroutine)(w:World):Prop:=
 ∃T:Array Value,g=G ((base L.wait).at ⟨T,[]⟩ [.code (L7 L),.inLoop (L7 L),.inBlock 0]) (b::cs)∧T.size=84∧T[0]?=some (.pointer (some ⟨Wg,0,none⟩))∧F w
variable[Payload]{L:WgLink}{c:Kx}{F:World->Prop}{b₀:Frame}{a₀:Act}{ops₀:Array Oper}{i₀:Nat}{rest₀:List Nat}{k₀:List Item}{cs:List Frame}
set_option maxHeartbeats 8000000 in
theorem EC (H : WgLib c.P L) (W : Wl c fQ F) :
  GX c.P true (R0 c fQ) (DS c fQ) F (AtKd c (It L c.Wg F (b₀.at a₀ (.inRegion ops₀ (i₀::rest₀)::k₀)) cs)) (G ((base L.wait).at ⟨#[.pointer (some ⟨c.Wg,0,none⟩),undef,undef,undef,undef,undef,undef,undef,undef,undef,undef,undef,undef,undef,undef,undef,undef,undef,undef,undef,undef,undef,undef,undef,undef,undef,undef,undef,undef,undef,undef,undef,undef,undef,undef,undef,undef,undef,undef,undef,undef,undef,undef,undef,undef,undef,undef,undef,undef,undef,undef,undef,undef,undef,undef,undef,undef,undef,undef,undef,undef,undef,undef,undef,undef,undef,undef,undef,undef,undef,undef,undef,undef,undef,undef,undef,undef,undef,undef,undef,undef,undef,undef,undef],[]⟩ [.code (body_wait L)]) (b₀.at a₀ (.inRegion ops₀ (i₀::rest₀)::k₀)::cs)):=by
 lib_facts
 simp only[body_wait,waitFn,Zw];refine GX.seq W.toWk ?_;refine GX.iS W.toWk rfl ?_;refine GX.region W.toWk ?_;simp only[Ys,XH,XL,Nat.reduceAdd,XK,List.range,List.range.loop];refine GX.stop W.toWk λw hF=>⟨rfl,_,stepG_mark0 .disable (by simp) rfl rfl (by k_ne) rfl H.f_disable (x_disable_n L) (x_disable_b L) (x_disable_x L) (x_disable_f L),GX.at ?_ hF⟩
 clear hF w
 walk_nrm
 refine GX.fin W.toWk ?_;refine GX.block W.toWk ?_;refine GX.loop W.toWk ?_;exact GX.stop W.toWk λw hF=>⟨_,rfl,by simp,by simp,hF⟩
set_option maxHeartbeats 16000000 in
theorem ED(H:WgLib c.P L)(W:Wl c fQ F)(g:Goroutine)(w:World)(h:It L c.Wg F (b₀.at a₀ (.inRegion ops₀ (i₀::rest₀)::k₀)) cs g w) :
  ∃m,GS c fQ (AtW1 c (OU c.P (G (b₀.at (a₀.put ((ops₀[i₀]?).bind (·.dst)) (.tuple #[])) (.inRegion ops₀ rest₀::k₀)) cs)) (It L c.Wg F (b₀.at a₀ (.inRegion ops₀ (i₀::rest₀)::k₀)) cs)) m g w:=by
 lib_facts
 obtain⟨T,rfl,aC3,t0,hF⟩:=h;have U:=wkU;refine GX.at ?_ hF;clear hF w;obtain⟨v0,v1,v2,v3,v4,v5,v6,v7,v8,v9,v10,v11,v12,v13,v14,v15,v16,v17,v18,v19,v20,v21,Pu,v23,Pt,v25,v26,v27,v28,v29,v30,v31,v32,v33,v34,v35,v36,v37,v38,v39,v40,v41,v42,v43,v44,v45,v46,v47,v48,v49,v50,v51,v52,v53,v54,v55,v56,v57,v58,v59,v60,v61,v62,v63,v64,v65,v66,v67,v68,v69,v70,v71,v72,v73,v74,v75,v76,v77,v78,v79,v80,v81,v82,v83,rfl⟩:=array84 T aC3;simp only[X8,ZJ,XS]at t0;subst t0;simp only[L7,body_wait,waitFn,Zw]
 iterate 16 (first
   | refine GX.seq W.toWk ?_
   | refine GX.fin W.toWk ?_
   | (refine GX.region W.toWk ?_;simp only[Ys,XH,XL,Nat.reduceAdd,XK,List.range,List.range.loop])
   | refine GX.skip W.toWk ?_
   | refine GX.block W.toWk ?_
   | refine GX.inBlock W.toWk ?_
   | refine GX.iS W.toWk rfl ?_
   | refine GX.jH W.toWk rfl ?_
   | refine GX.ret W.toWk ?_
   | (refine GX.unwanted W.toWk rfl rfl ?_;walk_nrm)
   | (refine GX.leave1 W.toWk rfl rfl H.f_uLoad rfl ?_;walk_nrm)
   | (refine GX.leave1 W.toWk rfl rfl H.f_uCas rfl ?_;walk_nrm)
   | (refine GX.call W.toWk rfl rfl (by k_ne) rfl H.f_uLoad (nm_uLoad L) rfl ?_;walk_nrmf uLoadFn)
   | (refine GX.call W.toWk rfl rfl (by k_ne) rfl H.f_uCas (nm_uCas L) rfl ?_;walk_nrmf uCasFn)
   | (refine GX.value W.toWk rfl rfl (by k_ne) (λ_ _=>by go_simp<;>rfl) (λ_ _=>by simp[go_sem, *]) ?_;walk_nrm))
 refine GX.stop W.toWk λw hF=>⟨rfl,λv hv hw=>?_⟩
 rcases Zc v with rfl|hvp
 ·replace hw:WgAt c.ty c.Wg w 0 0:=by simpa using hw
  refine⟨_,stepG_load_atomic (v:=0) rfl rfl (by k_ne) rfl H.f_loadU64 (x_loadU64_n L) (x_loadU64_b L) (x_loadU64_x L) .u64 (x_loadU64_f L) rfl hw.cellSt,λ_=>GX.at ?_ hF,λh=>absurd rfl h⟩;clear hw hF w
  walk_nrm
  iterate 31 (first
    | refine GX.seq W.toWk ?_
    | refine GX.fin W.toWk ?_
    | (refine GX.region W.toWk ?_;simp only[Ys,XH,XL,Nat.reduceAdd,XK,List.range,List.range.loop])
    | refine GX.skip W.toWk ?_
    | refine GX.block W.toWk ?_
    | refine GX.inBlock W.toWk ?_
    | refine GX.iS W.toWk rfl ?_
    | refine GX.jH W.toWk rfl ?_
    | refine GX.ret W.toWk ?_
    | (refine GX.unwanted W.toWk rfl rfl ?_;walk_nrm)
    | (refine GX.leave1 W.toWk rfl rfl H.f_uLoad rfl ?_;walk_nrm)
    | (refine GX.leave1 W.toWk rfl rfl H.f_uCas rfl ?_;walk_nrm)
    | (refine GX.call W.toWk rfl rfl (by k_ne) rfl H.f_uLoad (nm_uLoad L) rfl ?_;walk_nrmf uLoadFn)
    | (refine GX.call W.toWk rfl rfl (by k_ne) rfl H.f_uCas (nm_uCas L) rfl ?_;walk_nrmf uCasFn)
    | (refine GX.value W.toWk rfl rfl (by k_ne) (λ_ _=>by go_simp<;>rfl) (λ_ _=>by simp[go_sem, *]) ?_;walk_nrm))
  refine GX.stop W.toWk λw hF=>⟨rfl,_,stepG_mark0 .enable (by simp) rfl rfl (by k_ne) rfl H.f_enable (x_enable_n L) (x_enable_b L) (x_enable_x L) (x_enable_f L),GX.at ?_ hF⟩
  clear hF w
  walk_nrm
  iterate 4 (first
    | refine GX.seq W.toWk ?_
    | refine GX.fin W.toWk ?_
    | (refine GX.region W.toWk ?_;simp only[Ys,XH,XL,Nat.reduceAdd,XK,List.range,List.range.loop])
    | refine GX.skip W.toWk ?_
    | refine GX.block W.toWk ?_
    | refine GX.inBlock W.toWk ?_
    | refine GX.iS W.toWk rfl ?_
    | refine GX.jH W.toWk rfl ?_
    | refine GX.ret W.toWk ?_
    | (refine GX.unwanted W.toWk rfl rfl ?_;walk_nrm)
    | (refine GX.leave1 W.toWk rfl rfl H.f_uLoad rfl ?_;walk_nrm)
    | (refine GX.leave1 W.toWk rfl rfl H.f_uCas rfl ?_;walk_nrm)
    | (refine GX.call W.toWk rfl rfl (by k_ne) rfl H.f_uLoad (nm_uLoad L) rfl ?_;walk_nrmf uLoadFn)
    | (refine GX.call W.toWk rfl rfl (by k_ne) rfl H.f_uCas (nm_uCas L) rfl ?_;walk_nrmf uCasFn)
    | (refine GX.conv W.toWk rfl rfl (by k_ne) rfl rfl H.underlying_tWgP H.underlying_tUP H.room_tWg (λ_ h=>(W.cell h).1) ?_;walk_nrm)
    | (refine GX.value W.toWk rfl rfl (by k_ne) (λ_ _=>by go_simp<;>rfl) (λ_ _=>by simp[go_sem, *]) ?_;walk_nrm))
  refine GX.stop W.toWk λw hF=>⟨rfl,_,stepG_markAt .acquire (by simp) rfl rfl (by k_ne) rfl H.f_acquire (x_acquire_n L) (x_acquire_b L) (x_acquire_x L) (x_acquire_f L) (by simp[Act.eval,stA]),rfl,?_⟩
  clear hF w
  walk_nrm
  iterate 19 (first
    | refine GX.seq U ?_
    | refine GX.fin U ?_
    | (refine GX.region U ?_;simp only[Ys,XH,XL,Nat.reduceAdd,XK,List.range,List.range.loop])
    | refine GX.skip U ?_
    | refine GX.block U ?_
    | refine GX.inBlock U ?_
    | refine GX.iS U rfl ?_
    | refine GX.jH U rfl ?_
    | refine GX.ret U ?_
    | (refine GX.unwanted U rfl rfl ?_;walk_nrm)
    | (refine GX.leave1 U rfl rfl H.f_uLoad rfl ?_;walk_nrm)
    | (refine GX.leave1 U rfl rfl H.f_uCas rfl ?_;walk_nrm)
    | (refine GX.call U rfl rfl (by k_ne) rfl H.f_uLoad (nm_uLoad L) rfl ?_;walk_nrmf uLoadFn)
    | (refine GX.call U rfl rfl (by k_ne) rfl H.f_uCas (nm_uCas L) rfl ?_;walk_nrmf uCasFn)
    | (refine GX.value U rfl rfl (by k_ne) (λ_ _=>by go_simp<;>rfl) (λ_ _=>by simp[go_sem, *]) ?_;walk_nrm))
  refine GX.leave0 U rfl rfl H.f_wait rfl ?_;exact GX.stop U λw hF=>⟨rfl,rfl⟩
 ·obtain⟨S,hS⟩:∃S:Int,(v:Int)*KK=S:=⟨_,rfl⟩
  have a1:S / 4294967296=(v:Int):=by rw[<-hS];simp only[KK];omega
  have b1q:bits .and .u64 S 2147483648=0:=by rw[<-hS];have:=st_flag v 0 (by omega) (by omega);simpa [KK] using this
  have b2:bits .and .u64 S 2147483647=0:=by rw[<-hS];have:=st_waiters v 0 (by omega) (by omega);simpa [KK] using this
  have c1:IntKind.i32.wrap (v:Int)=(v:Int):=by rw[IntKind.wrap_i32];omega
  have w1:IntKind.u64.wrap (S+1)=S+1:=by rw[IntKind.wrap_u64,<-hS];simp only[KK];omega
  have q3:decide ((v:Int)<0)=false:=XV (by omega);have q4:decide (0<(v:Int))=true:=X5 (by omega);have q5:((v:Int)==0)=false:=by simp;omega
  have q6:decide ((v:Int)=0)=false:=XV (by omega);rw[hS]at hw;refine⟨_,stepG_load_atomic (v:=S) rfl rfl (by k_ne) rfl H.f_loadU64 (x_loadU64_n L) (x_loadU64_b L) (x_loadU64_x L) .u64 (x_loadU64_f L) rfl hw.cellSt,λh0=>absurd h0 (by omega),λ_=>GX.at ?_ hF⟩;clear hw hF w
  walk_nrm
  iterate 48 (first
    | refine GX.seq W.toWk ?_
    | refine GX.fin W.toWk ?_
    | (refine GX.region W.toWk ?_;simp only[Ys,XH,XL,Nat.reduceAdd,XK,List.range,List.range.loop])
    | refine GX.skip W.toWk ?_
    | refine GX.block W.toWk ?_
    | refine GX.inBlock W.toWk ?_
    | refine GX.iS W.toWk rfl ?_
    | refine GX.jH W.toWk rfl ?_
    | refine GX.ret W.toWk ?_
    | (refine GX.unwanted W.toWk rfl rfl ?_;walk_nrm)
    | (refine GX.leave1 W.toWk rfl rfl H.f_uLoad rfl ?_;walk_nrm)
    | (refine GX.leave1 W.toWk rfl rfl H.f_uCas rfl ?_;walk_nrm)
    | (refine GX.call W.toWk rfl rfl (by k_ne) rfl H.f_uLoad (nm_uLoad L) rfl ?_;walk_nrmf uLoadFn)
    | (refine GX.call W.toWk rfl rfl (by k_ne) rfl H.f_uCas (nm_uCas L) rfl ?_;walk_nrmf uCasFn)
    | (refine GX.value W.toWk rfl rfl (by k_ne) (λ_ _=>by go_simp<;>rfl) (λ_ _=>by simp[go_sem, *]) ?_;walk_nrm;try simp only[a1,b1q,b2,c1,w1,q3,q4,q5,q6]))
  refine GX.stop W.toWk λw hF=>⟨rfl,λv' yJ hw=>⟨λe=>?_,λe=>?_⟩⟩
  ·subst e
   rw[hS]at hw ⊢;refine⟨_,(stepG_cas_hit (v:=S) (n:=S+1) rfl rfl (by k_ne) rfl H.f_casU64 (x_casU64_n L) (x_casU64_b L) (x_casU64_x L) .u64 (x_casU64_f L) rfl rfl rfl hw.cellSt (hw.thaw 0)).trans (by rfl),GX.at ?_ (W.set _ _ _ hF rfl ⟨_,_,hw.setSt _⟩)⟩;clear hw hF w
   walk_nrm
   iterate 44 (first
     | refine GX.seq W.toWk ?_
     | refine GX.fin W.toWk ?_
     | (refine GX.region W.toWk ?_;simp only[Ys,XH,XL,Nat.reduceAdd,XK,List.range,List.range.loop])
     | refine GX.skip W.toWk ?_
     | refine GX.block W.toWk ?_
     | refine GX.inBlock W.toWk ?_
     | refine GX.iS W.toWk rfl ?_
     | refine GX.jH W.toWk rfl ?_
     | refine GX.ret W.toWk ?_
     | (refine GX.unwanted W.toWk rfl rfl ?_;walk_nrm)
     | (refine GX.leave1 W.toWk rfl rfl H.f_uLoad rfl ?_;walk_nrm)
     | (refine GX.leave1 W.toWk rfl rfl H.f_uCas rfl ?_;walk_nrm)
     | (refine GX.call W.toWk rfl rfl (by k_ne) rfl H.f_uLoad (nm_uLoad L) rfl ?_;walk_nrmf uLoadFn)
     | (refine GX.call W.toWk rfl rfl (by k_ne) rfl H.f_uCas (nm_uCas L) rfl ?_;walk_nrmf uCasFn)
     | (refine GX.conv W.toWk rfl rfl (by k_ne) rfl rfl H.underlying_tPU32 H.underlying_tUP H.room_tU32 (λ_ h=>(W.cell h).2) ?_;walk_nrm)
     | (refine GX.ev W.toWk rfl (λ_ _=>stepG_markAt .write (by simp) rfl rfl (by k_ne) rfl H.f_raceWrite (x_raceWrite_n L) (x_raceWrite_b L) (x_raceWrite_x L) (x_raceWrite_f L) (ad:=⟨c.Wg,1,none⟩) (by simp[Act.eval])) (λw _=>.one w (.inl ⟨_,rfl,.inr rfl⟩)) ?_;walk_nrm)
     | (refine GX.value W.toWk rfl rfl (by k_ne) (λ_ _=>by go_simp<;>rfl) (λ_ _=>by simp[go_sem, *]) ?_;walk_nrm))
   refine GX.stop W.toWk λw hF=>⟨rfl,rfl,λ⟨st,hw⟩=>stepG_semacquire_wait rfl rfl rfl H.f_semacquire (x_semacquire_n L) (x_semacquire_b L) (x_semacquire_x L) (x_semacquire_f L) (by simp[Act.eval,smA]) hw.cellSm,λhf=>?_⟩
   refine⟨_,(stepG_semacquire (n:=1) rfl rfl (by k_ne) rfl H.f_semacquire (x_semacquire_n L) (x_semacquire_b L) (x_semacquire_x L) (x_semacquire_f L) (by simp[Act.eval,smA]) hf.cellSm (by k_ne) (hf.thaw 1)).trans (by rfl),GX.at ?_ (W.set _ _ _ hF rfl ⟨_,_,hf.setSm 0⟩)⟩;clear hf hF w
   walk_nrm
   iterate 16 (first
     | refine GX.seq W.toWk ?_
     | refine GX.fin W.toWk ?_
     | (refine GX.region W.toWk ?_;simp only[Ys,XH,XL,Nat.reduceAdd,XK,List.range,List.range.loop])
     | refine GX.skip W.toWk ?_
     | refine GX.block W.toWk ?_
     | refine GX.inBlock W.toWk ?_
     | refine GX.iS W.toWk rfl ?_
     | refine GX.jH W.toWk rfl ?_
     | refine GX.ret W.toWk ?_
     | (refine GX.unwanted W.toWk rfl rfl ?_;walk_nrm)
     | (refine GX.leave1 W.toWk rfl rfl H.f_uLoad rfl ?_;walk_nrm)
     | (refine GX.leave1 W.toWk rfl rfl H.f_uCas rfl ?_;walk_nrm)
     | (refine GX.call W.toWk rfl rfl (by k_ne) rfl H.f_uLoad (nm_uLoad L) rfl ?_;walk_nrmf uLoadFn)
     | (refine GX.call W.toWk rfl rfl (by k_ne) rfl H.f_uCas (nm_uCas L) rfl ?_;walk_nrmf uCasFn)
     | (refine GX.value W.toWk rfl rfl (by k_ne) (λ_ _=>by go_simp<;>rfl) (λ_ _=>by simp[go_sem, *]) ?_;walk_nrm))
   refine GX.stop W.toWk λw hF=>⟨rfl,λhw=>⟨_,stepG_load_atomic (v:=0) rfl rfl (by k_ne) rfl H.f_loadU64 (x_loadU64_n L) (x_loadU64_b L) (x_loadU64_x L) .u64 (x_loadU64_f L) rfl hw.cellSt,GX.at ?_ hF⟩⟩
   clear hw hF w
   walk_nrm
   iterate 11 (first
     | refine GX.seq W.toWk ?_
     | refine GX.fin W.toWk ?_
     | (refine GX.region W.toWk ?_;simp only[Ys,XH,XL,Nat.reduceAdd,XK,List.range,List.range.loop])
     | refine GX.skip W.toWk ?_
     | refine GX.block W.toWk ?_
     | refine GX.inBlock W.toWk ?_
     | refine GX.iS W.toWk rfl ?_
     | refine GX.jH W.toWk rfl ?_
     | refine GX.ret W.toWk ?_
     | (refine GX.unwanted W.toWk rfl rfl ?_;walk_nrm)
     | (refine GX.leave1 W.toWk rfl rfl H.f_uLoad rfl ?_;walk_nrm)
     | (refine GX.leave1 W.toWk rfl rfl H.f_uCas rfl ?_;walk_nrm)
     | (refine GX.call W.toWk rfl rfl (by k_ne) rfl H.f_uLoad (nm_uLoad L) rfl ?_;walk_nrmf uLoadFn)
     | (refine GX.call W.toWk rfl rfl (by k_ne) rfl H.f_uCas (nm_uCas L) rfl ?_;walk_nrmf uCasFn)
     | (refine GX.value W.toWk rfl rfl (by k_ne) (λ_ _=>by go_simp<;>rfl) (λ_ _=>by simp[go_sem, *]) ?_;walk_nrm))
   refine GX.stop W.toWk λw hF=>⟨rfl,_,stepG_mark0 .enable (by simp) rfl rfl (by k_ne) rfl H.f_enable (x_enable_n L) (x_enable_b L) (x_enable_x L) (x_enable_f L),GX.at ?_ hF⟩
   clear hF w
   walk_nrm
   iterate 4 (first
     | refine GX.seq W.toWk ?_
     | refine GX.fin W.toWk ?_
     | (refine GX.region W.toWk ?_;simp only[Ys,XH,XL,Nat.reduceAdd,XK,List.range,List.range.loop])
     | refine GX.skip W.toWk ?_
     | refine GX.block W.toWk ?_
     | refine GX.inBlock W.toWk ?_
     | refine GX.iS W.toWk rfl ?_
     | refine GX.jH W.toWk rfl ?_
     | refine GX.ret W.toWk ?_
     | (refine GX.unwanted W.toWk rfl rfl ?_;walk_nrm)
     | (refine GX.leave1 W.toWk rfl rfl H.f_uLoad rfl ?_;walk_nrm)
     | (refine GX.leave1 W.toWk rfl rfl H.f_uCas rfl ?_;walk_nrm)
     | (refine GX.call W.toWk rfl rfl (by k_ne) rfl H.f_uLoad (nm_uLoad L) rfl ?_;walk_nrmf uLoadFn)
     | (refine GX.call W.toWk rfl rfl (by k_ne) rfl H.f_uCas (nm_uCas L) rfl ?_;walk_nrmf uCasFn)
     | (refine GX.conv W.toWk rfl rfl (by k_ne) rfl rfl H.underlying_tWgP H.underlying_tUP H.room_tWg (λ_ h=>(W.cell h).1) ?_;walk_nrm)
     | (refine GX.value W.toWk rfl rfl (by k_ne) (λ_ _=>by go_simp<;>rfl) (λ_ _=>by simp[go_sem, *]) ?_;walk_nrm))
   refine GX.stop W.toWk λw hF=>⟨rfl,_,stepG_markAt .acquire (by simp) rfl rfl (by k_ne) rfl H.f_acquire (x_acquire_n L) (x_acquire_b L) (x_acquire_x L) (x_acquire_f L) (by simp[Act.eval,stA]),rfl,?_⟩
   clear hF w
   walk_nrm
   iterate 9 (first
     | refine GX.seq U ?_
     | refine GX.fin U ?_
     | (refine GX.region U ?_;simp only[Ys,XH,XL,Nat.reduceAdd,XK,List.range,List.range.loop])
     | refine GX.skip U ?_
     | refine GX.block U ?_
     | refine GX.inBlock U ?_
     | refine GX.iS U rfl ?_
     | refine GX.jH U rfl ?_
     | refine GX.ret U ?_
     | (refine GX.unwanted U rfl rfl ?_;walk_nrm)
     | (refine GX.leave1 U rfl rfl H.f_uLoad rfl ?_;walk_nrm)
     | (refine GX.leave1 U rfl rfl H.f_uCas rfl ?_;walk_nrm)
     | (refine GX.call U rfl rfl (by k_ne) rfl H.f_uLoad (nm_uLoad L) rfl ?_;walk_nrmf uLoadFn)
     | (refine GX.call U rfl rfl (by k_ne) rfl H.f_uCas (nm_uCas L) rfl ?_;walk_nrmf uCasFn)
     | (refine GX.value U rfl rfl (by k_ne) (λ_ _=>by go_simp<;>rfl) (λ_ _=>by simp[go_sem, *]) ?_;walk_nrm))
   refine GX.leave0 U rfl rfl H.f_wait rfl ?_;exact GX.stop U λw hF=>⟨rfl,rfl⟩
  ·refine⟨_,stepG_cas_miss (v:=(v':Int)*KK) (old:=S) (n:=S+1) rfl rfl (by k_ne) rfl H.f_casU64 (x_casU64_n L) (x_casU64_b L) (x_casU64_x L) .u64 (x_casU64_f L) rfl rfl rfl hw.cellSt (hw.thaw 0) (by rw[<-hS];simp only[KK];omega),GX.at ?_ hF⟩
   clear hw hF w
   walk_nrm
   iterate 8 (first
     | refine GX.seq W.toWk ?_
     | refine GX.fin W.toWk ?_
     | (refine GX.region W.toWk ?_;simp only[Ys,XH,XL,Nat.reduceAdd,XK,List.range,List.range.loop])
     | refine GX.skip W.toWk ?_
     | refine GX.block W.toWk ?_
     | refine GX.inBlock W.toWk ?_
     | refine GX.iS W.toWk rfl ?_
     | refine GX.jH W.toWk rfl ?_
     | refine GX.ret W.toWk ?_
     | (refine GX.unwanted W.toWk rfl rfl ?_;walk_nrm)
     | (refine GX.leave1 W.toWk rfl rfl H.f_uLoad rfl ?_;walk_nrm)
     | (refine GX.leave1 W.toWk rfl rfl H.f_uCas rfl ?_;walk_nrm)
     | (refine GX.call W.toWk rfl rfl (by k_ne) rfl H.f_uLoad (nm_uLoad L) rfl ?_;walk_nrmf uLoadFn)
     | (refine GX.call W.toWk rfl rfl (by k_ne) rfl H.f_uCas (nm_uCas L) rfl ?_;walk_nrmf uCasFn)
     | (refine GX.value W.toWk rfl rfl (by k_ne) (λ_ _=>by go_simp<;>rfl) (λ_ _=>by simp[go_sem, *]) ?_;walk_nrm))
   refine GX.inLoop W.toWk ?_;exact GX.stop W.toWk λw hF=>⟨_,rfl,by simp,by simp,hF⟩
end
end Go.Proofs.YthcfokccjljnpaaGreat.Par
