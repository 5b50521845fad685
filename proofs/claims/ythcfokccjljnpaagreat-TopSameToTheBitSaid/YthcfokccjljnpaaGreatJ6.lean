/- Contracts over the abstract machine, and the crowd of workers. Conditions: none. -/
import Derived.Test.YthcfokccjljnpaaGreatJ5
import Derived.Test.YthcfokccjljnpaaGreatJ3
import Derived.Test.YthcfokccjljnpaaGreatJ4
set_option linter.unusedVariables false
set_option linter.unusedSimpArgs false
set_option linter.unusedSectionVars false
set_option maxRecDepth 100000
namespace Go.Proofs.YthcfokccjljnpaaGreat.Am.M
open Go.Proofs.Tryz Go
def Fu:tv:=⟨af2.ar,1,exB,⟨0,400,1,1,50⟩⟩
theorem LY  : PC qP 26 [] (.agg (q8 Fu)):=by
 refine aY (qA func26 E) E ntmps26 results26 λw0 bQ cH iK=>ae (xa 0 (aw (bL Pk E E E (ai (xq (xa 0 (aw ?_)))))));refine za xf Kj Ty E E E E (by (try simp only[Xo]);omega) (by (try simp only[Xo]);omega) E E ?_;refine aN E (Lu (u:=[.v (.int .i64 1)]) (v:=[]) ae1 Pm E (by exact .one E E (by exact .one E E .nil)) (by exact⟨⟨rfl,by decide⟩,⟨rfl,by decide⟩,trivial⟩) (by rfl)) (bL Pm E E E (Io (HL (k:=1) (ts:=[_,_]) E E) ?_));refine A2 BD E E E E E E E (ai (xq (kE 4 2 [2,3] mixed (by kernel_rfl) (V (aC fU E) (V (fO (x:=.rs _) oF E E E) (V (aC fU E) (V (fO (x:=.rs _) oF E E E) (aw ?_))))))));refine UQ (gL xf E E E (by omega) (by (simp;done))) ?_ ?_
 ·refine gu E E E (JL (aC fU E)) ?_
  refine gu E E E (JL (fO (x:=.rs _) oF E E E)) ?_;exact wC
 refine vE (Gf xV E E E' E E (i:=2) (j:=0) E E (by decide) E) ?_ ?_
 ·refine gu E E E (JL (aC fU E)) ?_
  refine gu E E E (JL (fO (x:=.rs _) oF E E E)) ?_;exact wC
 refine qC ?_;refine aN E (gL xf E E E (by omega) (by (simp;done))) (jL xV E E E' E E (i:=3) (j:=0) E E (by decide) E (ai (xq (dG.le (tB 1 2 1 E E E E bQ) ?_))));refine dG.le (HM 1 (Qy 1 exB) E E (by intro j d h;match j,h with|0,h=>cases h;rfl|1,h=>cases h;rfl)) ?_;refine xa 6 (V (ak aD6 .nil E (af1)) (V (Lp Rk po E E E) (V (aX (ds:=[_,_]) BD E E E E) ?_)));refine V (bz (cs:=[_,_]) LG r9 E (.cons E E' (.cons E E' .nil)) ⟨⟨rfl,by decide⟩,⟨rfl,by decide⟩,trivial⟩ E) ?_;refine V (bz (cs:=[_,_,_,_,_]) ae0 Xd E (.cons E H' (.cons E E' (.cons E E' (.cons E E' .nil)))) ⟨⟨rfl,by decide⟩,⟨rfl,by decide⟩,⟨rfl,by decide⟩,⟨rfl,by decide⟩,trivial⟩ E) ?_;refine V (bz ad9 Pk E (.cons E H' (.cons E H' (.cons E H' .nil))) ⟨⟨rfl,by decide⟩,⟨rfl,by decide⟩,⟨rfl,by decide⟩,trivial⟩ E) (aw (ay kJ E E H' E E (by decide) E (ai ?_)));change dG _ _ _ _ _;refine ah ?_;refine⟨_,(.cons (.dn E E kJ E) .nil),?_⟩;rfl
def sbB(a b c d:Nat):Bool:=bif decide ((a:Int)=(c:Int)) then decide ((b:Int)=(d:Int)) else false
theorem u4(a b c d:Nat):PC qP 29 [.v (.complex .f64 a b),.v (.complex .f64 c d)] (.v (.bool (sbB a b c d))):=by
 refine av (qA func29 E) E ntmps29 results29 λw0=>ae (xa 1 (V aA (rs (xa 17 (V aF (V (Fa E) (V (zP (e:=Extern.MathFloatBits.float64bits) (qA func70 E) (by kernel_rfl) (by kernel_rfl) (by kernel_rfl) (by kernel_rfl) E E (λw=>rfl) E) (V aF (V (Fa E) (V (zP (e:=Extern.MathFloatBits.float64bits) (qA func70 E) (by kernel_rfl) (by kernel_rfl) (by kernel_rfl) (by kernel_rfl) E E (λw=>rfl) E) (V (fG E E) (V aF (aE E E (λhG=>aF) (aE E E (λhG=>(Fc E)) (aE E E (λhG=>(zP (e:=Extern.MathFloatBits.float64bits) (qA func70 E) (by kernel_rfl) (by kernel_rfl) (by kernel_rfl) (by kernel_rfl) E E (λw=>rfl) E)) (aE E E (λhG=>aF) (aE E E (λhG=>(Fc E)) (aE E E (λhG=>(zP (e:=Extern.MathFloatBits.float64bits) (qA func70 E) (by kernel_rfl) (by kernel_rfl) (by kernel_rfl) (by kernel_rfl) E E (λw=>rfl) E)) (aE E E (λhG=>(fG E E)) (aT E E E E E E ?_))))))))))))))))))));refine V aA (xc (ah ?_));refine⟨_,cS,?_⟩;rfl
theorem QL(l m:List Int):PC qP 24 [.sl 1 (l.map iC),.sl 1 (m.map iC)] (.v (.bool (decide (l=m)))):=by
 refine av (qA func24 E) E ntmps24 results24 λw0=>ae (xa 1 (V aA (rs (ae (xa 5 (V (aq (x:=.d (.sl _ _)) E) (V (cd iX E (by exact aV _ _)) (V (aq (x:=.d (.sl _ _)) E) (V (cd iX E (by exact aV _ _)) (V (bS E E) (xc (bm (t:=6) E (λMY=>?_)))))))))))));(try simp only[Xo]at MY);refine bm (t:=8) E (λMW=>?_);(try simp only[Xo]at MW);refine ao E (λbW=>?_) (λbW=>?_)
 ·(try simp only[nb,Xv]at bW);have hz:decide (l=m)=false:=XV (λe=>by rw[e]at bW;omega);refine ae (xa 1 (V aA (xc (ah ?_))));refine⟨_,cS,?_⟩;rw[hz];rfl
 ·(try simp only[nb,Xv]at bW);have WU:l.length=m.length:=by omega
  refine wO ?_;change dG _ _ _ _ _;refine ae (ae (xa 1 (V aA (xc (az (bG [4,5,11,12,13,14,15,16,17,18,19,20,21,22,23,24,25] [] (α:=Nat) (λk=>[(5,T.i (k:Int))]) (λk=>[]) (λk=>k<=l.length/\l.take k=m.take k) (λk=>l.length - k) 0 ⟨XC _,rfl⟩ ?_ ?_))))))
  ·exact xh (ms:=[]) (by repeat (exact Out.refl _)) ⟨(by rfl),trivial⟩ trivial
  ·intro k ⟨hk,hf⟩;refine ae (ae (xa 4 (V aF (V (aq (x:=.d (.sl _ _)) E) (V (cd iX E (by exact aV _ _)) (V (cM E E) (xc (bm (t:=12) E (λMZ=>?_)))))))));(try simp only[Xo]at MZ);refine ao E (λeJ=>?_) (λeJ=>?_)
   ·(try simp only[nb,Xv]at eJ);have bH:k<l.length:=by omega
    obtain⟨x,hx⟩:∃x,l[k]?=some x:=⟨_,Xp bH⟩;obtain⟨y,hy⟩:∃y,m[k]?=some y:=⟨_,Xp (by omega)⟩;refine wO ?_;change dG _ _ _ _ _;refine ae (az (ae (xa 9 (V (aq (x:=.d (.sl _ _)) E) (V aF (V (aJ gK E E (by omega) (cm (k:=k) (by omega) hx)) (V (aj mF E E) (V (aq (x:=.d (.sl _ _)) E) (V aF (V (aJ gK E E (by omega) (cm (k:=k) (by omega) hy)) (V (aj mF E E) (V (bS E E) (xc (ao E (λwx=>?_) (λwx=>?_)))))))))))))))
    ·(try simp only[nb,Xv]at wx);have hz:decide (l=m)=false:=XV (λe=>by rw[e,hy]at hx;have:=YT hx;omega);refine ae (xa 1 (V aA (xc (ah ?_))));refine⟨_,cS,?_⟩;rw[hz];rfl
    ·(try simp only[nb,Xv]at wx);have WA:x=y:=by omega
     have Jt:l.take (k+1)=m.take (k+1):=by rw[Yh bH,Yh (by omega),hf,(Xt.1 hx).2,(Xt.1 hy).2,WA]
     refine wO ?_;change dG _ _ _ _ _;refine xa 3 (V aF ?_);refine V (lE E E xi) (V aA (rn ?_));refine⟨k+1,⟨by omega,Jt⟩,by omega,?_⟩;exact xh (ms:=[]) (by repeat (first|exact Out.head E E|(refine Out.put ?_ E))) ⟨(by rfl),trivial⟩ trivial
   ·(try simp only[nb,Xv]at eJ);have hz:decide (l=m)=true:=ZS (by rw[<-Yo (l:=l) (i:=k) (by omega),hf,Yo (by omega)]);refine bJ ?_;change dG _ _ _ _ _;refine ae (xa 1 (V aA (xc (ah ?_))));refine⟨_,cS,?_⟩;rw[hz];rfl
theorem ak8:vlI Fu 0=((30,-20),1):=by decide +kernel
theorem al5:cz 30 (-20)=.v (.complex .f64 4629137466983448576 13849694754071117824):=by
 have h1:FloatKind.f64.nearest 30=4629137466983448576:=by decide +kernel
 have h2:FloatKind.f64.nearest (-20)=13849694754071117824:=by decide +kernel
 unfold cz;rw[h1,h2]
theorem VC:ud exB:=by
 have h3:(0::0::30 :: -20::List.replicate 60 0:List Int).map FloatKind.f32.nearest=exB:=by decide +kernel
 have h4:∀n∈(0::0::30 :: -20::List.replicate 60 0:List Int),-2047<=n/\n<=2047:=by decide +kernel
 intro b hb;rw[<-h3]at hb;obtain⟨n,hn,rfl⟩:=X6.1 hb;have hw:=TQ (h4 n hn).1 (h4 n hn).2;rw[hw.v];exact hw
theorem Hu:tn Fu:=⟨by decide +kernel,by decide,by decide,by decide +kernel,VC,by decide,by decide +kernel,by decide,by decide,by decide +kernel,by decide +kernel⟩
theorem LX:Bn Fu.g 0=0:=by decide +kernel
theorem ve(g:iZ)(hg:kG g):PC qP 14 [.agg (qO g)] (.v (.int .i64 (g.co*g.ro))):=by
 have yO:=dg hg;have⟨x1,x2,z1,z2,c1,c2,r1,r2,s1,s2⟩:=hg;refine av (qA func14 E) E ntmps14 results14 λw0=>ae (xa 2 (V (aP E H') (V aA (rs (xa 6 (V (af fA E) (V (aj mF E E) (V (af l8 E) (V (aj mF E E) ?_)))))))));refine V (cZ E E xi) (V aA (xc (ah ?_)));refine⟨_,cS,?_⟩;rfl
theorem Hb(g:iZ)(c:Int)(hg:kG g)(h1:0<=c)(h2:c<=10000):PC qP 96 [.agg (qO g),.v (.int .i64 (c))] (.agg (wq (gZ g c))):=by
 have tZ:=GZ hg h1 h2;have⟨x1,x2,z1,z2,c1,c2,r1,r2,s1,s2⟩:=hg;have⟨m1,m2⟩:=mG h1 c1;have⟨d1,d2⟩:=mH h1 c1;have⟨⟨a1,a2⟩,a3,a4⟩:=tZ;refine av (qA func96 E) E ntmps96 results96 λw0=>ae (xa 1 (V (aP E H') (aw (bL r9 E E E (ai (xq (xa 23 (V (af gT E) (V (af gU E) (V (aj mF E E) (V aF (V (af fA E) (V (aj mF E E) (V (yo E E (by omega)) (V (af oi E) (V (aj mF E E) ?_))))))))))))))));refine V (cZ E E xi) ?_;refine V (lE E E xi) (V (af gT E) (V (af dQ E) (V (aj mF E E) (V aF (V (af fA E) (V (aj mF E E) ?_))))));refine V (B5 E E (by omega) xi) (V (af oi E) (V (aj mF E E) ?_));refine V (cZ E E xi) ?_;refine V (lE E E xi) ?_;refine V (bz (cs:=[_,_]) LG r9 E (.cons E E' (.cons E E' .nil)) ⟨⟨rfl,by decide⟩,⟨rfl,by decide⟩,trivial⟩ E) (aw (ay fM E E H' E E (by decide) E (ai ?_)));change dG _ _ _ _ _;refine ah ?_;refine⟨_,(.cons (.dn E E fM E) .nil),?_⟩;rfl
theorem zK(g:iZ):PC qP 95 [.agg (qO g)] (.v (.int .i64 (pW g))):=by
 refine aY (qA func95 E) E ntmps95 results95 λw0 bQ cH iK=>ae (xa 2 (V (aP E H') (V aA (rs (ae (xa 30 (V (af gT E) (V (af gU E) (V (aj mF E E) (V (ak nA (.cons E (.cons E (.cons E .nil))) E (cX _ _ _)) (V (bX E) (V aF (aE E E (λhG=>(af gT E)) (aE E E (λhG=>(af dQ E)) (aE E E (λhG=>(aj mF E E)) (aE E E (λhG=>(ak nA (.cons E (.cons E (.cons E .nil))) E (cX _ _ _))) (aE E E (λhG=>(bX E)) (aT E E E E E E ?_))))))))))))))))));refine V aF (aE E E (λhG=>(af fA E)) (aE E E (λhG=>(aj mF E E)) (aE E E (λhG=>(ak nA (.cons E (.cons E (.cons E .nil))) E (cX _ _ _))) (aE E E (λhG=>(bX E)) (aT E E E E E E ?_)))));refine V aF (aE E E (λhG=>(af l8 E)) (aE E E (λhG=>(aj mF E E)) (aE E E (λhG=>(ak nA (.cons E (.cons E (.cons E .nil))) E (cX _ _ _))) (aE E E (λhG=>(bX E)) (aT E E E E E E ?_)))));refine V aF (aE E E (λhG=>(af oi E)) (aE E E (λhG=>(aj mF E E)) (aE E E (λhG=>(ak nA (.cons E (.cons E (.cons E .nil))) E (cX _ _ _))) (aE E E (λhG=>(bX E)) (aT E E E E E E ?_)))));refine xc (ao E (λbW=>?_) (λbW=>?_))
 ·(try simp only[nb,Xv]at bW)
  have hb:qQ g=false:=by
   cases q:qQ g with
   | false=>rfl
   | true=>unfold qQ at q;simp_all
  have hz:pW g=2:=by unfold pW;rw[hb];rfl
  refine ae (xa 1 (V aA (xc (ah ?_))));refine⟨_,cS,?_⟩;rw[hz];rfl
 ·(try simp only[nb,Xv]at bW);have hb:qQ g=true:=by unfold qQ;simp_all
  have hg:=AH hb;have yO:=dg hg;have hz:pW g=c9 (decide (100000<(gZ g (g.co*g.ro - 1)).1)||decide (100000<(gZ g (g.co*g.ro - 1)).2)) 8:=by unfold pW;rw[Xu hb]
  refine wO ?_;change dG _ _ _ _ _;refine ae (kE 5 1 [0,1,2,3,4] mixed (by kernel_rfl) ?_);refine V (ax (ds:=[_,_,_,_,_]) mI E E E) (V (ax (ds:=[_,_,_,_,_]) mI E E E) (V (ak VN (.cons E .nil) E (ve _ (by assumption))) ?_));refine V (dk E E xi) (V (ak am2 (.cons E (.cons E .nil)) E (Hb _ _ (by assumption) (by omega) (by omega))) (aw (aa6 (aF6 r9 E E) ?_ ?_)))
  ·refine gu E E E (JL (ax (ds:=[_,_,_,_,_]) mI E E E)) ?_
   refine gu E E E (JL (ax (ds:=[_,_,_,_,_]) mI E E E)) ?_;refine gu E E E (JL (ak VN (.cons E .nil) E (ve _ (by assumption)))) ?_
   first|refine gu E E E (JL (dk E E xi)) ?_
   refine gu E E E (JL (ak am2 (.cons E (.cons E .nil)) E (Hb _ _ (by assumption) (by omega) (by omega)))) ?_;exact wC
  refine qC ?_;refine ay fM E E H' E E (by decide) E (ai (xq (ae (xa 8 (V (aC gU E) (V (aQ mF E E E) (V (gM E E) (V aF (aE E E (λhG=>(aC dQ E)) (aE E E (λhG=>(aQ mF E E E)) (aE E E (λhG=>(gM E E)) (aT E E E E E E ?_))))))))))));refine xc (ao E (λeJ=>?_) (λeJ=>?_))
  ·(try simp only[nb,Xv]at eJ);rw[show c9 (decide (100000<(gZ g (g.co*g.ro - 1)).1)||decide (100000<(gZ g (g.co*g.ro - 1)).2)) 8=8 from by unfold c9;rw[Xu (by simpa using eJ)]]at hz;refine ae (xa 1 (V aA (xc (ah ?_))));refine⟨_,cS,?_⟩;rw[hz];rfl
  ·(try simp only[nb,Xv]at eJ);rw[show c9 (decide (100000<(gZ g (g.co*g.ro - 1)).1)||decide (100000<(gZ g (g.co*g.ro - 1)).2)) 8=0 from by unfold c9;rw[Xr (by simp;omega)]]at hz;refine wO ?_;change dG _ _ _ _ _;refine ae (xa 1 (V aA (xc (ah ?_))));refine⟨_,cS,?_⟩;rw[hz];rfl
theorem DG(l:List Int)(hl:l.length<=10000):PC qP 23 [.sl 1 (l.map iC)] (.sl 1 (l.map iC)):=by
 refine av (qA func23 E) E ntmps23 results23 λw0=>ae (xa 1 (V (aG (x:=.d (.sl _ _)) E) (rs (xa 0 (aw (Gr gK Br E E ?_))))));refine aN E (aq (x:=.d (.sl _ _)) E) ?_;refine eX gK Br by3 E (by decide) E E E E (by (try simp only[Xo,XI,XH,XL]);omega) (by (try simp only[Xo,XI,XH,XL]);omega) E E ?_;refine aN E (aG (x:=.rs _) E) (ai ?_);change dG _ _ _ _ _;refine ah ?_;refine⟨_,(.cons (.tmp (by exact .rs E)) .nil),?_⟩;rfl
theorem Vs(l:List Int)(n:Int):PC qP 43 [.sl 1 (l.map iC),.v (.int .i64 (n))] (.v (.bool (decide (n∈l)))):=by
 refine av (qA func43 E) E ntmps43 results43 λw0=>ae (xa 1 (V aA (rs (ae (xa 1 (V aA (xc (az ?_))))))));refine bG [4,5,6,7,8,9,10,11,12,13,14,15,16,17] [] (α:=Nat) (λk=>[(5,T.i (k:Int))]) (λk=>[]) (λk=>k<=l.length/\n∉l.take k) (λk=>l.length - k) 0 ⟨XC _,by simp⟩ ?_ ?_
 ·exact xh (ms:=[]) (by repeat (exact Out.refl _)) ⟨(by rfl),trivial⟩ trivial
 ·intro k ⟨hk,hf⟩;refine ae (ae (xa 4 (V aF (V (aq (x:=.d (.sl _ _)) E) (V (cd iX E (by exact aV _ _)) (V (cM E E) (xc (bm (t:=7) E (λhl7=>?_)))))))));(try simp only[Xo]at hl7);refine ao E (λbV=>?_) (λbV=>?_)
  ·(try simp only[nb,Xv]at bV);have bH:k<l.length:=by omega
   obtain⟨x,hx⟩:∃x,l[k]?=some x:=⟨_,Xp bH⟩;refine wO ?_;change dG _ _ _ _ _;refine ae (az (ae (xa 6 (V (aq (x:=.d (.sl _ _)) E) (V aF (V (aJ gK E E (by omega) (cm (by omega) hx)) (V (aj mF E E) (V aF (V (fG E E) (xc (ao E (λeJ=>?_) (λeJ=>?_))))))))))))
   ·(try simp only[nb,Xv]at eJ);have hz:decide (n∈l)=true:=ZS (by rw[<-eJ];exact XA hx);refine ae (xa 1 (V aA (xc (ah ?_))));refine⟨_,cS,?_⟩;rw[hz];rfl
   ·(try simp only[nb,Xv]at eJ)
    have Bi:n∉l.take (k+1):=by
     rw[iB hx];intro q;rcases YV.1 q with q|q
     ·exact hf q
     ·rw[YS]at q;exact eJ q.symm
    refine wO ?_;change dG _ _ _ _ _;refine xa 3 (V aF ?_);refine V (lE E E xi) (V aA (rn ?_));refine⟨k+1,⟨by omega,Bi⟩,by omega,?_⟩;exact xh (ms:=[]) (by repeat (first|exact Out.head E E|(refine Out.put ?_ E))) ⟨(by rfl),trivial⟩ trivial
  ·(try simp only[nb,Xv]at bV)
   have hz : decide (n ∈ l) = false := XV (by
     have:k=l.length:=by omega
     rw[this,YL]at hf;exact hf)
   refine bJ ?_;change dG _ _ _ _ _;refine ae (xa 1 (V aA (xc (ah ?_))));refine⟨_,cS,?_⟩;rw[hz];rfl
theorem DF(l:List (List Int))(hl:l.length<=10000)(hm:∀x∈l,x.length<=10000):PC qP 10 [.sl 1 (l.map lC)] (.sl 1 (l.map lC)):=by
 refine aY (qA func10 E) E ntmps10 results10 λw0 bQ cH iK=>ae (xa 1 (V (aG (x:=.d (.sl _ _)) E) (rs (xa 1 (V (fP) (rn ?_))))));change dG _ _ _ _ _;refine dG.le (sI (k:=3) (e:=64) (sz:=1) E E) ?_;refine ae (ae (xa 1 (V aA (xc (az (bG [3,4,5,6,7,8,9,10,11,12,13,14,15,16,17,18] [3] (α:=Nat) (λk=>[(4,T.i (k:Int)),(3,.rs 3)]) (λk=>[(3,.row 64 1 ((l.take k).map lC))]) (λk=>k<=l.length) (λk=>l.length - k) 0 (XC _) ?_ ?_))))))
 ·exact xh (ms:=[3]) (by repeat (exact Out.refl _)) ⟨(by rfl),(by rfl),trivial⟩ ⟨(by rfl),trivial⟩
 ·intro k hk;have J4:(l.take k).length<=k:=by rw[Ya];omega
  refine ae (ae (xa 4 (V aF (V (aq (x:=.d (.sl _ _)) E) (V (cd tC E (by exact aV _ _)) (V (cM E E) (xc (bm (t:=6) E (λMY=>?_)))))))));(try simp only[Xo]at MY);refine ao E (λdB=>?_) (λdB=>?_)
  ·(try simp only[nb,Xv]at dB);have bH:k<l.length:=by omega
   obtain⟨x,hx⟩:∃x,l[k]?=some x:=⟨_,Xp bH⟩;have CC:=hm x (XA hx);have tY:(l.take (k+1)).map lC=(l.take k).map lC++[lC x]:=by rw[iB hx,Yw];rfl
   refine wO ?_;change dG _ _ _ _ _;refine ae (az (xa 7 (V (aq (x:=.rs _) E) (V (aq (x:=.d (.sl _ _)) E) (V aF (V (aJ uW E E (by omega) (cm (by omega) hx)) (V (aj pn E E) (V (ak aE8 (.cons E .nil) E (DG x (by omega))) (V (bu uW TM E E (by decide) (.cons E E' .nil) ⟨rfl,rfl,trivial⟩ E (by decide) E) (aw ?_))))))))));refine eX uW TM aG1 E (by decide) E E E E (by (try simp only[Xo,XI,XH,XL]);omega) (by (try simp only[Xo,XI,XH,XL]);omega) E E ?_;refine aN E (aG (x:=.rs _) E) (ai ?_);change dG _ _ _ _ _;refine xa 3 (V aF ?_);refine V (lE E E xi) (V aA (rn ?_));refine⟨k+1,by omega,by omega,?_⟩;exact xh (ms:=[3]) (by repeat (first|exact Out.head E E|(refine Out.put ?_ E)|(refine Out.site ?_ E)|(refine Out.dE ?_ E))) ⟨(by rfl),(by rfl),trivial⟩ ⟨(by ((show aH.row _ 1 _=aH.row _ 1 _;rw[tY];rfl))),trivial⟩
  ·(try simp only[nb,Xv]at dB);have vP:k=l.length:=by omega
   subst vP;rw[YL];refine bJ ?_;change dG _ _ _ _ _;refine ae (xa 2 (V (aq (x:=.rs _) E) (V (aG (x:=.rs _) E) (xc (ah ?_)))));refine⟨_,(.cons (.tmp (by exact .rs E)) .nil),?_⟩;rfl
def Lv(dl:List (List Int)):Bool:=decide (dl.length<=18)&&dl.all λl=>decide (l.length<=20)
theorem sF:∀{n:Nat} {l:List Int},l.Nodup->(∀x∈l,0<=x/\x<(n:Int))->l.length<=n
 | 0,[],_,_=>Xw _
 | 0,x::l,_,h=>by have:=h x (XX ..);omega
 | n+1,l,J,h=>by
  by_cases q:(n:Int)∈l
  ·have h1 : (l.erase (n : Int)).length <= n := sF (J.erase _) (λx hx => by
    have h2:=(J.mem_erase_iff).1 hx;have h3:=h x h2.2;have h4:=h2.1
    omega)
   rw[List.length_erase_of_mem q]at h1;omega
  ·have h1 : l.length <= n := sF J (λx hx => by
    have h3:=h x hx;have h4:x≠(n:Int):=λe=>q (e ▸ hx)
    omega)
   omega
def wU(n:Int)(ks:List Int):Prop:=ks.Nodup/\∀x∈ks,0<=x/\x<=n - 1
theorem Ag{n:Int}{ks:List Int}{x:Int}(h:wU n ks)(h1:0<=x/\x<=n - 1)(h2:x∉ks):wU n (ks++[x]):=by
 refine⟨List.nodup_append.2 ⟨h.1,by simp,λa ha b hb=>?_⟩,λy hy=>?_⟩
 ·rw[YS]at hb;subst hb;exact λe=>h2 (e ▸ ha)
 ·rcases YV.1 hy with q|q
  ·exact h.2 y q
  ·rw[YS]at q;subst q;exact h1
theorem FJ{n:Int}{ks:List Int}(h:wU n ks)(h1:0<=n):(ks.length:Int)<=n:=by
 have:=sF (n:=n.toNat) h.1 (λx hx=>by have:=h.2 x hx;omega);omega
theorem zL(n:Int)(dl:List (List Int)):PC qP 12 [.v (.int .i64 (n)),.sl 1 (dl.map lC)] (.da [.v (.int .i64 ((rm n dl).1)),.v (.int .i64 ((rm n dl).2))]):=by
 refine aY (qA func12 E) E ntmps12 results12 λw0 bQ cH iK=>ae (xa 2 (V aA (V aA (rs (ae (xa 3 (V aF (V (ak nA (.cons E (.cons E (.cons E .nil))) E (cX _ _ _)) (V (bX E) (xc (ao E (λbW=>?_) (λbW=>?_))))))))))))
 ·(try simp only[nb,Xv]at bW);have hz:rm n dl=(0,2):=by unfold rm;rw[Xu (by rw[bW];decide)]
  refine ae (xa 2 (V aA (V aA (xc (ah ?_)))));refine⟨_,gz,?_⟩;rw[hz];rfl
 ·(try simp only[nb,Xv]at bW);have hn:1<=n/\n<=16:=cY.1 bW;refine wO ?_;change dG _ _ _ _ _;refine ae (ae (xa 3 (V (aq (x:=.d (.sl _ _)) E) (V (cd tC E (by exact aV _ _)) (V (gM E E) (xc (bm (t:=13) E (λaA5=>?_))))))));(try simp only[Xo]at aA5);refine ao E (λdB=>?_) (λdB=>?_)
  ·(try simp only[nb,Xv]at dB);have hz:rm n dl=(0,8):=by unfold rm;rw[Xr (λq=>q bW),Xu (by omega)]
   refine ae (xa 2 (V aA (V aA (xc (ah ?_)))));refine⟨_,gz,?_⟩;rw[hz];rfl
  ·(try simp only[nb,Xv]at dB);have eE:rm n dl=if (dlT n [] 0 dl).1≠0 then (0,(dlT n [] 0 dl).1) else if ((dlT n [] 0 dl).2.1.length:Int)<n then (0,14) else ((dlT n [] 0 dl).2.2,0):=by unfold rm;rw[Xr (λq=>q bW),Xr (by omega)]
   refine wO ?_;change dG _ _ _ _ _;refine ae (xa 1 (V (fP) (rn ?_)));change dG _ _ _ _ _;refine dG.le (sI (k:=6) (e:=3) (sz:=1) E E) ?_;refine ae (xa 1 (V aA (rs (ae (xa 1 (V aA (xc (az ?_))))))));refine bG [4,5,6,7,8,9,16,17,18,19,20,21,22,23,24,25,26,27,28,29,30,31,32,33,34,35,36,37,38,39,40,41,42,43,44,45,46,47,48,49,50,51,52,53,54,55,56,57,58,59,60,61,62,63,64,65,66,67,68] [6] (α:=Nat × List Int × Int) (λx=>[(8,T.i (x.1:Int)),(7,.d (.v (.int .i64 (x.2.2)))),(6,.rs 6)]) (λx=>[(6,.row 3 1 (x.2.1.map iC))]) (λx=>x.1<=dl.length/\dlT n [] 0 dl=dlT n x.2.1 x.2.2 (dl.drop x.1)/\(0<=x.2.2/\x.2.2<=(x.1:Int))/\wU n x.2.1) (λx=>dl.length - x.1) (0,[],0) ⟨XC _,rfl,⟨by decide,by decide⟩,List.nodup_nil,by simp⟩ ?_ ?_
   ·exact xh (ms:=[6]) (by repeat (exact Out.refl _)) ⟨(by rfl),(by rfl),(by rfl),trivial⟩ ⟨(by rfl),trivial⟩
   ·intro x ⟨hk,hh,⟨J8,Rc⟩,bg⟩;refine ae (ae (xa 4 (V aF (V (aq (x:=.d (.sl _ _)) E) (V (cd tC E (by exact aV _ _)) (V (cM E E) (xc (bm (t:=17) E (λVd=>?_)))))))));(try simp only[Xo]at Vd);refine ao E (λoM=>?_) (λoM=>?_)
    ·(try simp only[nb,Xv]at oM);have bH:x.1<dl.length:=by omega
     obtain⟨l,hx⟩:∃l,dl[x.1]?=some l:=⟨_,Xp bH⟩;rw[aN7 hx]at hh;refine wO ?_;change dG _ _ _ _ _;refine ae (az (ae (ae (xa 1 (V aA (xc (az (bG [4,5,6,9,22,23,24,25,26,27,28,29,30,31,32,33,34,35,36,37,38,39,40,41,42,43,44,45,46,47,48,49,50,51,52,53,54,55,56,57,58,59,60] [6] (α:=Nat × List Int) (λz=>[(9,T.i (z.1:Int)),(6,.rs 6)]) (λz=>[(6,.row 3 1 (z.2.map iC))]) (λz=>z.1<=l.length/\frR n x.2.1 l=frR n z.2 (l.drop z.1)/\wU n z.2) (λz=>l.length - z.1) (0,x.2.1) ⟨XC _,rfl,bg⟩ ?_ ?_))))))))
     ·exact xh (ms:=[6]) (by repeat (exact Out.refl _)) ⟨(by rfl),(by rfl),trivial⟩ ⟨(by rfl),trivial⟩
     ·intro z ⟨hj,hg,QX⟩;refine ae (ae (xa 7 (V aF (V (aq (x:=.d (.sl _ _)) E) (V aF (V (aJ uW E E (by omega) (cm (by omega) hx)) (V (aj pn E E) (V (cd iX E (by exact aV _ _)) (V (cM E E) (xc (bm (t:=26) E (λaA2=>?_))))))))))));(try simp only[Xo]at aA2);refine ao E (λxy=>?_) (λxy=>?_)
      ·(try simp only[nb,Xv]at xy);have hlu:z.1<l.length:=by omega
       obtain⟨u,hy⟩:∃u,l[z.1]?=some u:=⟨_,Xp hlu⟩;rw[Nt hy]at hg;refine wO ?_;change dG _ _ _ _ _;refine ae (az (ae (ae (xa 11 (V (aq (x:=.d (.sl _ _)) E) (V aF (V (aJ uW E E (by omega) (cm (by omega) hx)) (V (aj pn E E) (V aF (V (aJ gK E E (by omega) (cm (by omega) hy)) (V (aj mF E E) (V aF ?_))))))))))));refine V (dk E E xi) (V (ak nA (.cons E (.cons E (.cons E .nil))) E (cX _ _ _)) (V (bX E) (xc (ao E (λoN=>?_) (λoN=>?_)))))
       ·(try simp only[nb,Xv]at oN);rw[Xu (by rw[oN];decide)]at hg;have hz:rm n dl=(0,6):=by rw[eE,hh,hg];rfl
        refine ae (xa 2 (V aA (V aA (xc (ah ?_)))));refine⟨_,gz,?_⟩;rw[hz];rfl
       ·(try simp only[nb,Xv]at oN);have hub:=cY.1 oN;rw[Xr (λq=>q oN)]at hg;refine wO ?_;change dG _ _ _ _ _;refine ae (ae (xa 9 (V (aq (x:=.rs _) E) (V (aq (x:=.d (.sl _ _)) E) (V aF (V (aJ uW E E (by omega) (cm (by omega) hx)) (V (aj pn E E) (V aF (V (aJ gK E E (by omega) (cm (by omega) hy)) (V (aj mF E E) (V (Qi aE0 (.cons (by exact .rs E) (.cons I' .nil)) E (Vs _ _) (by exact .v _)) (xc (ao E (λJv=>?_) (λJv=>?_))))))))))))))
        ·(try simp only[nb,Xv]at Jv);rw[Xu Jv]at hg;have hz:rm n dl=(0,24):=by rw[eE,hh,hg];rfl
         refine ae (xa 2 (V aA (V aA (xc (ah ?_)))));refine⟨_,gz,?_⟩;rw[hz];rfl
        ·(try simp only[nb,Xv]at Jv);rw[Xr Jv]at hg;have az4:=Ag QX hub Jv;have hkl:=FJ QX (by omega);have tY:(z.2++[u]).map iC=z.2.map iC++[[.v (.int .i64 u)]]:=by rw[Yw];rfl
         refine wO ?_;change dG _ _ _ _ _;refine xa 9 (V (aq (x:=.rs _) E) (V (aq (x:=.d (.sl _ _)) E) (V aF (V (aJ uW E E (by omega) (cm (by omega) hx)) (V (aj pn E E) (V aF (V (aJ gK E E (by omega) (cm (by omega) hy)) (V (aj mF E E) (V (bu gK Br E E (by decide) (.cons E E' .nil) ⟨rfl,rfl,trivial⟩ E (by decide) E) (aw ?_))))))))));refine eX gK Br by3 E (by decide) E E E E (by (try simp only[Xo,XI,XH,XL]);omega) (by (try simp only[Xo,XI,XH,XL]);omega) E E ?_;refine aN E (aG (x:=.rs _) E) (ai ?_);change dG _ _ _ _ _;refine xa 3 (V aF ?_);refine V (lE E E xi) (V aA (rn ?_));refine⟨(z.1+1,z.2++[u]),⟨by show z.1+1<=_;omega,hg,az4⟩,by show l.length - (z.1+1)<_;omega,?_⟩;exact xh (ms:=[6]) (by repeat (first|exact Out.head E E|(refine Out.put ?_ E)|(refine Out.site ?_ E)|(refine Out.dE ?_ E))) ⟨(by rfl),(by rfl),trivial⟩ ⟨(by ((show aH.row 3 1 _=aH.row 3 1 _;rw[tY];rfl))),trivial⟩
      ·(try simp only[nb,Xv]at xy);have hzn:z.1=l.length:=by omega
       rw[hzn,ZI,show frR n z.2 []=(0,z.2) from rfl]at hg;rw[hg,Xr (show ¬((0:Int),z.2).1≠0 from λq=>q E)]at hh;refine bJ ?_;change dG _ _ _ _ _;refine ae (xa 6 (V (aq (x:=.d (.sl _ _)) E) (V aF (V (aJ uW E E (by omega) (cm (by omega) hx)) (V (aj pn E E) (V (cd iX E (by exact aV _ _)) (V (gM E E) (xc (bm (t:=64) E (λQ0=>?_))))))))));(try simp only[Xo]at Q0);refine ao E (λl7=>?_) (λl7=>?_)
       ·(try simp only[nb,Xv]at l7);rw[Xu (by omega)]at hh;refine xa 3 (V aF ?_);refine V (lE E E xi) (V aA (rn ?_));change dG _ _ _ _ _;refine xa 3 (V aF ?_);refine V (lE E E xi) (V aA (rn ?_));refine⟨(x.1+1,z.2,x.2.2+1),⟨by show x.1+1<=_;omega,hh,⟨by show 0<=x.2.2+1;omega,by show x.2.2+1<=((x.1+1:Nat):Int);omega⟩,QX⟩,by show dl.length - (x.1+1)<_;omega,?_⟩;exact xh (ms:=[6]) (by repeat (first|exact Out.head E E|(refine Out.put ?_ E)|(refine Out.sN ?_ E E E))) ⟨(by rfl),(by rfl),(by rfl),trivial⟩ ⟨(by rfl),trivial⟩
       ·(try simp only[nb,Xv]at l7);rw[Xr (by omega)]at hh;refine wO ?_;change dG _ _ _ _ _;refine xa 3 (V aF ?_);refine V (lE E E xi) (V aA (rn ?_));refine⟨(x.1+1,z.2,x.2.2),⟨by show x.1+1<=_;omega,hh,⟨by show 0<=x.2.2;omega,by show x.2.2<=((x.1+1:Nat):Int);omega⟩,QX⟩,by show dl.length - (x.1+1)<_;omega,?_⟩;exact xh (ms:=[6]) (by repeat (first|exact Out.head E E|(refine Out.put ?_ E)|(refine Out.sN ?_ E E E))) ⟨(by rfl),(by rfl),(by rfl),trivial⟩ ⟨(by rfl),trivial⟩
    ·(try simp only[nb,Xv]at oM);have vP:x.1=dl.length:=by omega
     rw[vP,ZI,show dlT n x.2.1 x.2.2 []=(0,(x.2.1,x.2.2)) from rfl]at hh;rw[hh,Xr (show ¬((0:Int),(x.2.1,x.2.2)).1≠0 from λq=>q E)]at eE;have hkl:=FJ bg (by omega);refine bJ ?_;change dG _ _ _ _ _;refine ae (ae (xa 4 (V (aq (x:=.rs _) E) (V (Ln iX E E) (V aF (V (bS E E) (rn ?_)))))));change dG _ _ _ _ _
     skip
     (try simp only[Xo]at aI2);refine ao E (λNi=>?_) (λNi=>?_)
     ·(try simp only[nb,Xv]at Ni)
      try simp only[Xo]at Ni
      have hz:rm n dl=(0,14):=by rw[eE,Xu (show (((0:Int),(x.2.1,x.2.2)).2.1.length:Int)<n from by show (x.2.1.length:Int)<n;omega)]
      refine ae (xa 2 (V aA (V aA (xc (ah ?_)))));refine⟨_,gz,?_⟩;rw[hz];rfl
     ·(try simp only[nb,Xv]at Ni)
      try simp only[Xo]at Ni
      have hz:rm n dl=(x.2.2,0):=by rw[eE,Xr (show ¬(((0:Int),(x.2.1,x.2.2)).2.1.length:Int)<n from by show ¬(x.2.1.length:Int)<n;omega)]
      refine wO ?_;change dG _ _ _ _ _;refine ae (xa 3 (V aF (V aA (V aA (xc (ah ?_))))));refine⟨_,gz,?_⟩;rw[hz];rfl
def smB(g:iZ):Bool:=if dP 1 g.co 40=true/\dP 1 g.ro 40=true then decide (g.co*g.ro<=12) else true
theorem ai1{s:Bool}{N:Nat}(k:Nat):(-(k:Int)<=fi s N/\fi s N<=(k:Int))↔N<=k:=by unfold fi;cases s<;>simp<;>omega
theorem Sd{s:Bool}{M:Nat}(K:Nat)(hM:¬K<=M):decide (fi false K<=fi s M)=false/\decide (fi s M<=fi true K)=false:=by
 refine⟨XV ?_,XV ?_⟩<;>(unfold fi;cases s<;>simp<;>omega)
theorem UT{a:Int}(h:a.natAbs<=1000000000000000000):IntKind.i64.min<=a/\a<=IntKind.i64.max:=by
 show (-9223372036854775808:Int)<=a/\a<=9223372036854775807
 omega
theorem Ar{k:FloatKind}{b:Nat}{s:Bool}{M:Nat}(h:jh k.format b s M)(hM:M / QQ<=1000000000000000000):floatToIntVal k b .i64=some (fi s (M / QQ)):=by
 unfold floatToIntVal;have h1:(k.decode b).toInt .zero=some (fi s (M / QQ)):=IC h;rw[h1];exact Xu (UT (by rw[uY];exact hM))
theorem Ck{f:Ieee.Format}{p L I:Nat}(h:Fm f p L I)(hL:L<=KK){b:Nat}{s:Bool}{m:Nat}{e:Int}{M:Nat}(Y:f.read b=.number s m e)(hM:m*2 ^ (e+KK).toNat=M):ordB .neq (f.order (wd f (fi s (M / QQ))) b) = !decide (M % QQ=0):=by
 have:=DU h hL Y hM;unfold ordB;rw[bne,this]
def OX(b:Nat):Bool:=
 match Ieee.double.read b with
 | .number _ m e=>decide (m*2 ^ (e+KK).toNat % QQ=0)
 | _=>false
theorem Qb:Ieee.double.read 4846369599423283200=.number false 5000000000000000 1:=by decide +kernel
theorem Qa:Ieee.double.read 14069741636278059008=.number true 5000000000000000 1:=by decide +kernel
theorem L5:jh Ieee.double 4846369599423283200 false (10000000000000000*QQ):=⟨_,_,Qb,by omega,by
 rw[show ((1:Int)+KK).toNat=KK+1 by omega,ZC];have e:2 ^ KK=QQ:=rfl
 rw[e];generalize QQ=q;omega⟩
theorem L3:jh Ieee.double 14069741636278059008 true (10000000000000000*QQ):=⟨_,_,Qa,by omega,by
 rw[show ((1:Int)+KK).toNat=KK+1 by omega,ZC];have e:2 ^ KK=QQ:=rfl
 rw[e];generalize QQ=q;omega⟩
theorem V3:ordB .neq (FloatKind.f64.format.order 0 0)=false:=by decide +kernel
theorem FL  : PC qP 165 [.nan .f64] (.v (.bool (false))):=by
 refine av (qA func165 E) E ntmps165 results165 λw0=>ae (xa 1 (V aA (rs (ae (xa 9 (V (aq (x:=.d (.nan _)) E) (V (aq (x:=.d (.nan _)) E) (V (Lq (by decide) E E E) (V aF (aE E E (λhG=>(aq (x:=.d (.nan _)) E)) (aE E E (λhG=>(aq (x:=.d (.nan _)) E)) (aE E E (λhG=>(Qf E E E)) (aE E E (λhG=>(zO (by decide) E E E)) (aT E E E E E E ?_))))))))))))));refine xc (ao E (λbW=>?_) (λbW=>?_))
 ·(try simp only[nb,Xv]at bW);refine ae (xa 1 (V aA (xc (ah ?_))));refine⟨_,cS,?_⟩;rfl
 ·rw[show ordB .neq none=true from rfl]at bW;simp[jJ]at bW
theorem qE(b:Nat)(h:floatBits .sub .f64 b b=none):PC qP 165 [.v (.float .f64 b)] (.v (.bool (false))):=by
 refine av (qA func165 E) E ntmps165 results165 λw0=>ae (xa 1 (V aA (rs (ae (xa 9 (V aF (V aF (V (e9 (by decide) E E E) (V aF (aE E E (λhG=>aF) (aE E E (λhG=>aF) (aE E E (λhG=>(Lr (by decide) E E h)) (aE E E (λhG=>(zO (by decide) E E E)) (aT E E E E E E ?_))))))))))))));refine xc (ao E (λbW=>?_) (λbW=>?_))
 ·(try simp only[nb,Xv]at bW);refine ae (xa 1 (V aA (xc (ah ?_))));refine⟨_,cS,?_⟩;rfl
 ·rw[show ordB .neq none=true from rfl]at bW;simp[jJ]at bW
theorem Aq(b:Nat)(c1 c2 c3:Bool)(n:Int)(hs:floatBits .sub .f64 b b=some 0)(h0:ordB .neq (FloatKind.f64.format.order b b)=false)(h1:ordB .geq (FloatKind.f64.format.order b 14069741636278059008)=c1)(h2:ordB .leq (FloatKind.f64.format.order b 4846369599423283200)=c2)(h3:(c1&&c2)=true->floatToIntVal .f64 b .i64=some n/\ordB .eql (FloatKind.f64.format.order (FloatKind.f64.nearest n) b)=c3):PC qP 165 [.v (.float .f64 b)] (.v (.bool (if (c1&&c2)=true then c3 else true))):=by
 refine av (qA func165 E) E ntmps165 results165 λw0=>ae (xa 1 (V aA (rs (ae (xa 9 (V aF (V aF (V (e9 (by decide) E E h0) (V aF (aE E E (λhG=>aF) (aE E E (λhG=>aF) (aE E E (λhG=>(Ff (by decide) E E hs)) (aE E E (λhG=>(e9 (by decide) E E V3)) (aT E E E E E E ?_))))))))))))));refine xc (ao E (λbW=>?_) (λbW=>?_))
 ·cases bW
 ·(try simp only[nb,Xv]at bW);refine wO ?_;change dG _ _ _ _ _;refine ae (ae (xa 7 (V aF (V (e9 (by decide) E E h1) (V aF (aE E E (λhG=>aF) (aE E E (λhG=>(e9 (by decide) E E h2)) (aT E E E E E E ?_))))))));refine V (bX E) (xc (ao E (λdB=>?_) (λdB=>?_)))
  ·(try simp only[nb,Xv]at dB);have hq:¬(c1&&c2)=true:=by rcases dB with q|q<;>simp[q]
   rw[Xr hq];refine ae (xa 1 (V aA (xc (ah ?_))));refine⟨_,cS,?_⟩;rfl
  ·(try simp only[nb,Xv]at dB);have hq:(c1&&c2)=true:=by simpa using dB
   have⟨hi,hb⟩:=h3 hq;rw[Xu hq];refine wO ?_;change dG _ _ _ _ _;refine ae (xa 6 (V aF (V (iH sQ vU E hi) (V (lW vU sQ E) (V aF (V (e9 (by decide) E E hb) (V aA (xc (ah ?_)))))))));refine⟨_,cS,?_⟩;rfl
theorem Se{s:Bool}{M:Nat}(K:Nat):(decide (fi true K<=fi s M)&&decide (fi s M<=fi false K))=decide (M<=K):=by
 rw[<-Bool.decide_and];refine YY.2 ?_;unfold fi
 cases s<;>simp<;>omega
theorem Jl(b:Nat):PC qP 165 [.v (.float .f64 b)] (.v (.bool (OX b))):=by
 cases Y:Ieee.double.read b with
 | nan s t=>
  have e:OX b=false:=by unfold OX;rw[Y]
  rw[e];exact qE b (show Ieee.double.sub b b=none by unfold Ieee.Format.sub;rw[Y];rfl)
 | infinity s=>
  have e:OX b=false:=by unfold OX;rw[Y]
  rw[e];exact qE b (GW Y)
 | number s m e=>
  obtain⟨M,hM⟩:∃M,m*2 ^ (e+KK).toNat=M:=⟨_,rfl⟩;have hn:=vv fmD LD Y;rw[hM]at hn;have e:OX b=decide (M % QQ=0):=by unfold OX;rw[Y];simp only[hM]
  rw[e];have h:=Aq b _ _ (decide (M % QQ=0)) (fi s (M / QQ)) (zt hn) (zZ hn) (Fw hn L3) (Fv hn L5) (λq=>?_)
  ·rw[Se]at h
   by_cases h1:M<=10000000000000000*QQ
   ·rw[Xu (ZS h1)]at h;exact h
   ·rw[Xr (by rw[XV h1];decide)]at h
    have:M % QQ=0:=y5 fmD Y hM (by
     have:=sX;have e:2 ^ (52+1)*QQ<=10000000000000000*QQ:=X7 _ (by decide)
     omega)
    rw[ZS this];exact h
  ·rw[Se,XW]at q
   have h2:M / QQ<=10000000000000000:=Nat.div_le_of_le_mul (by rw[YW];exact q);refine⟨Ar (k:=.f64) hn (by omega),DU fmD LD Y hM⟩
theorem L8:jh Ieee.single 1157619712 false (2047*QQ):=by
 have h:=Fy H3 LS (a:=2047) (by decide);rw[show wd Ieee.single 2047=1157619712 by decide +kernel,show decide ((2047:Int)<0)=false from rfl,show (2047:Int).natAbs=2047 from rfl]at h;exact h
theorem Jc:jh Ieee.single 3305103360 true (2047*QQ):=by
 have h:=Fy H3 LS (a:=-2047) (by decide);rw[show wd Ieee.single (-2047)=3305103360 by decide +kernel,show decide ((-2047:Int)<0)=true from rfl,show (-2047:Int).natAbs=2047 from rfl]at h;exact h
def ssE:Nat->List Nat->Int × Int
 | _,[]=>(0,0)
 | i,b::r=>if sE b≠0 then ((i:Int),sE b) else ssE (i+1) r
theorem KG{l:List Nat}{k:Nat}{x:Nat}(hx:l[k]?=some x):ssE k (l.drop k)=if sE x≠0 then ((k:Int),sE x) else ssE (k+1) (l.drop (k+1)):=by
 obtain⟨bH,rfl⟩:=Xt.1 hx;rw[Yf bH];rfl
theorem KF:∀{l:List Nat} {i:Nat},(ssE i l).2=0->∀b∈l,sE b=0
 | [],_,_,p,hp=>by cases hp
 | q::l,i,h,p,hp=>by
  unfold ssE at h;by_cases h1:sE q≠0
  ·rw[Xu h1]at h;exact absurd h h1
  ·rw[Xr h1]at h
   rcases Xy.1 hp with rfl|hp
   ·exact XU.1 h1
   ·exact KF h p hp
def AX(ne:Int)(l:List Nat):Int × Int:=if dP 1 ne 16=true then (if (l.length:Int)≠ne*ne*64 then (0,10) else ssE 0 l) else (0,2)
def ckT(t:tv):Int × Int:=
 if (dJ t.ar).2≠0 then dJ t.ar
 else if (AX t.ne t.bf).2≠0 then (0,(AX t.ne t.bf).2)
 else if (t.ar.el.length:Int)≠t.ne then (0,13)
 else if pW t.g≠0 then (0,pW t.g)
 else (0,c9 (!dP 1 t.g.fz (t.ar.ou.t - 1) || !dP 1 (gZ t.g (t.g.co*t.g.ro - 1)).2 (t.ar.ou.t - 1)) 22)
theorem Rn{b:Nat}{s:Bool}{m:Nat}{e:Int}(Y:Ieee.single.read b=.number s m e)(h0:P1 (m*2 ^ (e+KK).toNat)=0):Wm b (fi s (m*2 ^ (e+KK).toNat / QQ)):=by
 obtain⟨M,hM⟩:∃M,m*2 ^ (e+KK).toNat=M:=⟨_,rfl⟩;have hn:=vv H3 LS Y;rw[hM]at hn h0 ⊢;unfold P1 at h0;by_cases h1:16777216*QQ<=M
 ·rw[Xu h1]at h0;cases h0
 rw[Xr h1]at h0;by_cases h2:M % QQ≠0
 ·rw[Xu h2]at h0;cases h0
 rw[Xr h2]at h0;by_cases h3:2047*QQ<M
 ·rw[Xu h3]at h0;cases h0
 have hq:M / QQ<=2047:=Nat.div_le_of_le_mul (by rw[YW];omega);obtain⟨h4,h5⟩:=Sd (s:=s) _ h1;have⟨h6,h7⟩:=(ai1 (s:=s) 2047).2 hq;refine⟨h6,h7,zZ hn,zt hn,(Fw hn L6).trans h4,(Fv hn L4).trans h5,Ar (k:=.f32) hn (by omega),?_⟩;have:=Ck H3 LS Y hM;rw[ZS (XU.1 h2)]at this;exact this
theorem Um{b:Nat}(h:sE b=0):Wm b (vI b):=by
 unfold sE at h
 cases Y:Ieee.single.read b with
 | nan s t=>rw[Y]at h;cases h
 | infinity s=>rw[Y]at h;cases h
 | number s m e=>
  rw[Y]at h;have:=Rn Y h;rw[this.v];exact this
theorem V5{ne:Int}{l:List Nat}(h:(AX ne l).2=0):1<=ne/\ne<=16/\(l.length:Int)=ne*ne*64/\ud l:=by
 unfold AX at h;by_cases h1:dP 1 ne 16=true
 ·rw[Xu h1]at h
  by_cases h2:(l.length:Int)≠ne*ne*64
  ·rw[Xu h2]at h;cases h
  ·rw[Xr h2]at h
   have⟨a,b⟩:=cY.1 h1;exact⟨a,b,XU.1 h2,λx hx=>Um (KF h x hx)⟩
 ·rw[Xr h1]at h;cases h
theorem S6{t:tv}(h:(ckT t).2=0):tn t:=by
 unfold ckT at h;by_cases h1:(dJ t.ar).2≠0
 ·rw[Xu h1]at h;exact absurd h h1
 rw[Xr h1]at h;by_cases h2:(AX t.ne t.bf).2≠0
 ·rw[Xu h2]at h;exact absurd h h2
 rw[Xr h2]at h;by_cases h3:(t.ar.el.length:Int)≠t.ne
 ·rw[Xu h3]at h;cases h
 rw[Xr h3]at h;by_cases h4:pW t.g≠0
 ·rw[Xu h4]at h;exact absurd h h4
 rw[Xr h4]at h;simp only at h;rw[fL (by decide),YR,Y6,Y6]at h;have⟨a1,a2,a3,a4⟩:=V5 (XU.1 h2);have⟨b1,b2⟩:=cY.1 h.1;have⟨b3,b4⟩:=cY.1 h.2;exact⟨XU.1 h1,a1,a2,a3,a4,XU.1 h3,XU.1 h4,b1,b2,b3,b4⟩
theorem ax3{M Q:Nat}(hQ:0<Q)(h:16777216*Q<=M):2047*Q<M:=by omega
theorem UN{b:Nat}{s:Bool}{t:Nat}(h:Ieee.single.read b=.nan s t):(FloatKind.f32.decode b).isNaN=true:=by
 have e:FloatKind.f32.decode b=Ieee.single.read b:=rfl;rw[e,h];rfl
theorem E4(b:Nat)(h:(FloatKind.f32.decode b).isNaN=true):PC qP 150 [fd b] (.v (.int .i64 (25))):=by
 refine av (qA func150 E) E ntmps150 results150 λw0=>ae (xa 1 (V aA (rs (ae (xa 4 (V aF (V (I2 ik sQ (by decide) E h) (V (ak Th (.cons E .nil) E (FL)) (V (bX E) (xc (ao E (λbW=>?_) (λbW=>?_))))))))))))
 ·(try simp only[nb,Xv]at bW);refine ae (xa 1 (V aA (xc (ah ?_))));refine⟨_,cS,?_⟩;rfl
 ·simp at bW
theorem u9(b b':Nat)(w c1 c2:Bool)(hc:floatToFloatBits .f32 b .f64=some b')(hw:OX b'=w)(h1:ordB .lss (FloatKind.f32.format.order b 3305103360)=c1)(h2:ordB .gtr (FloatKind.f32.format.order b 1157619712)=c2):PC qP 150 [fd b] (.v (.int .i64 (if w=true then (if (c1||c2)=true then 2 else 0) else 25))):=by
 refine av (qA func150 E) E ntmps150 results150 λw0=>ae (xa 1 (V aA (rs (ae (xa 4 (V aF (V (Ls ik sQ E hc) (V (ak Th (.cons E .nil) E ((by have h:=Jl b';rw[hw]at h;exact h))) (V (bX E) (xc (ao E (λbW=>?_) (λbW=>?_))))))))))))
 ·(try simp only[nb,Xv]at bW);rw[Xr (by rw[bW];decide)];refine ae (xa 1 (V aA (xc (ah ?_))));refine⟨_,cS,?_⟩;rfl
 ·(try simp only[nb,Xv]at bW);rw[Xu bW];refine wO ?_;change dG _ _ _ _ _;refine ae (ae (xa 6 (V aF (V (e9 (by decide) E E h1) (V aF (aE E E (λhG=>aF) (aE E E (λhG=>(e9 (by decide) E E h2)) (aT E E E E E E ?_))))))));refine xc (ao E (λdB=>?_) (λdB=>?_))
  ·(try simp only[nb,Xv]at dB);rw[Xu (show (c1||c2)=true by simpa using dB)];refine ae (xa 1 (V aA (xc (ah ?_))));refine⟨_,cS,?_⟩;rfl
  ·(try simp only[nb,Xv]at dB);rw[Xr (show ¬(c1||c2)=true by simpa using dB)];refine wO ?_;change dG _ _ _ _ _;refine ae (xa 1 (V aA (xc (ah ?_))));refine⟨_,cS,?_⟩;rfl
theorem ae8{s:Bool}{M:Nat}(K:Nat):(decide (fi s M<fi true K)||decide (fi false K<fi s M))=decide (K<M):=by
 rw[<-Bool.decide_or];refine YY.2 ?_;unfold fi
 cases s<;>simp<;>omega
theorem xm(b:Nat):PC qP 150 [fd b] (.v (.int .i64 (sE b))):=by
 cases Y:Ieee.single.read b with
 | nan s t=>
  have e:sE b=25:=by unfold sE;rw[Y]
  rw[e];exact E4 b (UN Y)
 | infinity s=>
  have e:sE b=25:=by unfold sE;rw[Y]
  rw[e];have⟨b',h1,h2⟩:=Kl Y;exact u9 b b' false _ _ h1 (by unfold OX;rw[h2]) E E
 | number s m e=>
  obtain⟨M,hM⟩:∃M,m*2 ^ (e+KK).toNat=M:=⟨_,rfl⟩;have hn:=vv H3 LS Y;rw[hM]at hn;have e1:sE b=P1 M:=by unfold sE;rw[Y];simp only[hM]
  rw[e1];have⟨b',h1,m',e',h2,h3⟩:=Kk Y;have h:=u9 b b' (decide (M % QQ=0)) _ _ h1 (by unfold OX;rw[h2];simp only[h3,hM]) (UK hn Jc) (UL hn L8);rw[ae8]at h
  have e2:(if decide (M % QQ=0)=true then (if decide (2047*QQ<M)=true then (2:Int) else 0) else 25)=P1 M:=by
   unfold P1;by_cases h4:M % QQ=0
   ·rw[Xu (ZS h4),Xr (c:=M % QQ≠0) (λq=>q h4)]
    by_cases h5:16777216*QQ<=M
    ·have h6 : decide (2047 * QQ < M) = true := by
      revert h5;have hq:=sX;generalize QQ=q at hq ⊢;exact λh5=>ZS (ax3 hq h5)
     rw[Xu h5,Xu (show decide (2047*QQ<M)=true from h6)]
    ·rw[Xr h5]
     by_cases h6:2047*QQ<M
     ·rw[Xu (ZS h6),Xu h6]
     ·rw[Xr (by rw[XV h6];decide),Xr h6]
   ·have h5:¬16777216*QQ<=M:=λq=>h4 (y5 H3 Y hM (XQ (X7 QQ (show 2 ^ (23+1)<=16777216 by decide)) q))
    rw[Xr (by rw[XV h4];decide),Xr h5,Xu (c:=M % QQ≠0) h4]
  rw[e2]at h;exact h
theorem BV(l:List Nat):PC qP 128 [.sl 1 (l.map fC)] (.da [.v (.int .i64 ((ssE 0 l).1)),.v (.int .i64 ((ssE 0 l).2))]):=by
 refine av (qA func128 E) E ntmps128 results128 λw0=>ae (xa 2 (V aA (V aA (rs (ae (xa 1 (V aA (xc (az (bG [2,3,4,5,6,7,8,9,10,11,12,13,14,15,16,17,18,19,20] [] (α:=Nat) (λk=>[(4,T.i (k:Int))]) (λk=>[]) (λk=>k<=l.length/\ssE 0 l=ssE k (l.drop k)) (λk=>l.length - k) 0 ⟨XC _,rfl⟩ ?_ ?_))))))))))
 ·exact xh (ms:=[]) (by repeat (exact Out.refl _)) ⟨(by rfl),trivial⟩ trivial
 ·intro k ⟨hk,hf⟩;refine ae (ae (xa 4 (V aF (V (aq (x:=.d (.sl _ _)) E) (V (cd qD E (by exact aV _ _)) (V (cM E E) (xc (bm (t:=7) E (λhl7=>?_)))))))));(try simp only[Xo]at hl7);refine ao E (λbV=>?_) (λbV=>?_)
  ·(try simp only[nb,Xv]at bV);have bH:k<l.length:=by omega
   obtain⟨x,hx⟩:∃x,l[k]?=some x:=⟨_,Xp bH⟩;have J:=KG hx;refine wO ?_;change dG _ _ _ _ _;refine ae (az (ae (xa 6 (V (aq (x:=.d (.sl _ _)) E) (V aF (V (aJ xf E E (by omega) (cm (by omega) hx)) (V (aj xV E E) (V (ak ap0 (.cons E .nil) E (xm _)) (V aA (rs (xa 2 (V aF (V (bS E E) (xc (ao E (λeU=>?_) (λeU=>?_))))))))))))))))
   ·(try simp only[nb,Xv]at eU);have hb:sE x≠0:=eU;have hz:ssE 0 l=((k:Int),sE x):=by rw[hf,J,Xu hb]
    rw[hz];refine ae (xa 4 (V aF (V aF (V aA (V aA (xc (ah ?_)))))));refine⟨_,gz,?_⟩;rfl
   ·(try simp only[nb,Xv]at eU);have hb:sE x=0:=eU;refine wO ?_;change dG _ _ _ _ _;refine xa 3 (V aF ?_);refine V (lE E E xi) (V aA (rn ?_));refine⟨k+1,⟨by omega,by rw[hf,J,Xr (by rw[hb];simp)]⟩,by omega,?_⟩;exact xh (ms:=[]) (by repeat (first|exact Out.head E E|(refine Out.put ?_ E))) ⟨(by rfl),trivial⟩ trivial
  ·(try simp only[nb,Xv]at bV);have Vh:ssE 0 l=(0,0):=by rw[hf,Yu (by omega)];rfl
   rw[Vh];refine bJ ?_;change dG _ _ _ _ _;refine ae (xa 2 (V aA (V aA (xc (ah ?_)))));refine⟨_,gz,?_⟩;rfl
theorem tS(ne:Int)(l:List Nat):PC qP 94 [.agg [.v (.int .i64 (ne)),.sl 1 (l.map fC)]] (.da [.v (.int .i64 ((AX ne l).1)),.v (.int .i64 ((AX ne l).2))]):=by
 have hu:AX ne l=if dP 1 ne 16=true then (if (l.length:Int)≠ne*ne*64 then (0,10) else ssE 0 l) else (0,2):=rfl
 refine av (qA func94 E) E ntmps94 results94 λw0=>ae (xa 3 (V (aP E H') (V aA (V aA (rs (ae (xa 4 (V (af fB E) (V (aj mF E E) (V (ak nA (.cons E (.cons E (.cons E .nil))) E (cX _ _ _)) (V (bX E) (xc (ao E (λbW=>?_) (λbW=>?_))))))))))))))
 ·(try simp only[nb,Xv]at bW);rw[Xr (by simpa using bW)]at hu;rw[hu];refine ae (xa 2 (V aA (V aA (xc (ah ?_)))));refine⟨_,gz,?_⟩;rfl
 ·(try simp only[nb,Xv]at bW);have O7:dP 1 ne 16=true:=by simpa using bW
  rw[Xu O7]at hu;have⟨wY,Bi⟩:=cY.1 O7;have hm:=lX (a:=ne) (b:=ne) (A:=16) (B:=16) (by omega) (by omega) (by omega) (by omega);refine wO ?_;change dG _ _ _ _ _;refine ae (ae (xa 10 (V (af fU E) (V (aj oF E E) (V (cd qD E (by exact aV _ _)) (V (af fB E) (V (aj mF E E) (V (af fB E) (V (aj mF E E) ?_)))))))));refine V (cZ E E xi) ?_;refine V (cZ E E xi) (V (bS E E) (xc (bm (t:=9) E (λhl9=>?_))));(try simp only[Xo]at hl9);refine ao E (λdB=>?_) (λdB=>?_)
  ·(try simp only[nb,Xv]at dB);rw[Xu (by simpa using dB)]at hu;rw[hu];refine ae (xa 2 (V aA (V aA (xc (ah ?_)))));refine⟨_,gz,?_⟩;rfl
  ·(try simp only[nb,Xv]at dB);rw[Xr (by simpa using dB)]at hu;rw[hu];refine wO ?_;change dG _ _ _ _ _;refine ae (xa 7 (V (af fU E) (V (aj oF E E) (V (ak aq1 (.cons E .nil) E (BV l)) (V (au E E) (V (au E E) (V aA (V aA (xc (ah ?_))))))))));refine⟨_,gz,?_⟩;rfl
def Oe(g:iZ)(th:Int):Bool:=!dP 1 g.fz (th - 1) || !dP 1 (gZ g (g.co*g.ro - 1)).2 (th - 1)
theorem Od{g:iZ}(hg:kG g){th:Int}:Oe g th=true↔(g.fz<1\/th - 1<(gZ g (g.co*g.ro - 1)).2):=by
 unfold Oe;rw[G3 hg];have h1:=hg.r1;have h2:=hg.s1;have h3:=X2 (show 0<=g.ro - 1 by omega) (show 0<=g.st by omega);simp only[dP,X3,Yg,Bool.and_eq_false_iff,YP];omega
theorem zJ(t:tv):PC qP 41 [.agg (q8 t)] (.da [.v (.int .i64 ((ckT t).1)),.v (.int .i64 ((ckT t).2))]):=by
 have hu:ckT t=if (dJ t.ar).2≠0 then dJ t.ar
  else if (AX t.ne t.bf).2≠0 then (0,(AX t.ne t.bf).2)
  else if (t.ar.el.length:Int)≠t.ne then (0,13)
  else if pW t.g≠0 then (0,pW t.g)
  else (0,c9 (!dP 1 t.g.fz (t.ar.ou.t - 1) || !dP 1 (gZ t.g (t.g.co*t.g.ro - 1)).2 (t.ar.ou.t - 1)) 22):=rfl
 refine aY (qA func41 E) E ntmps41 results41 λw0 bQ cH iK=>ae (xa 3 (V (aP E H') (V aA (V aA (rs (ae (xa 8 (V (af fc E) (V (ax (ds:=[_,_,_,_,_,_,_,_,_,_,_]) po E E E) (V (ak aD0 (.cons E .nil) E (B3 t.ar)) (V (aq (x:=.d (.da _)) E) (V (au E E) (V (au E E) (V aA (V aA (rs (xa 2 (V aF (V (bS E E) (xc (ao E (λbV=>?_) (λbV=>?_))))))))))))))))))))))
 ·(try simp only[nb,Xv]at bV);have h1:(dJ t.ar).2≠0:=bV;rw[Xu h1]at hu;rw[hu];refine ae (xa 4 (V aF (V aF (V aA (V aA (xc (ah ?_)))))));refine⟨_,gz,?_⟩;rfl
 ·(try simp only[nb,Xv]at bV);have h1:¬(dJ t.ar).2≠0:=λq=>q bV;rw[Xr h1]at hu;refine wO ?_;change dG _ _ _ _ _;refine ae (ae (xa 8 (V (af iz E) (V (ax (ds:=[_,_]) BD E E E) (V (ak aC9 (.cons E .nil) E (tS t.ne t.bf)) (V (aq (x:=.d (.da _)) E) (V (au E E) (V (au E E) (V aA (V aA (rs (xa 2 (V aF (V (bS E E) (xc (ao E (λeU=>?_) (λeU=>?_)))))))))))))))))
  ·(try simp only[nb,Xv]at eU);have h2:(AX t.ne t.bf).2≠0:=eU;rw[Xu h2]at hu;rw[hu];refine ae (xa 3 (V aF (V aA (V aA (xc (ah ?_))))));refine⟨_,gz,?_⟩;rfl
  ·(try simp only[nb,Xv]at eU);have h2:¬(AX t.ne t.bf).2≠0:=λq=>q eU;rw[Xr h2]at hu;refine wO ?_;change dG _ _ _ _ _;refine ae (ae (xa 8 (V (af iz E) (V (af fB E) (V (aj mF E E) (V (af fc E) (V (af du E) (V (aj jP E E) (V (cd kA E (by exact aV _ _)) (V (bS E E) (xc (bm (t:=33) E (λU9=>?_)))))))))))));(try simp only[Xo]at U9);refine ao E (λmo=>?_) (λmo=>?_)
   ·(try simp only[nb,Xv]at mo);have h3:(t.ar.el.length:Int)≠t.ne:=by omega
    rw[Xu h3]at hu;rw[hu];refine ae (xa 2 (V aA (V aA (xc (ah ?_)))));refine⟨_,gz,?_⟩;rfl
   ·(try simp only[nb,Xv]at mo);have h3:¬(t.ar.el.length:Int)≠t.ne:=by omega
    rw[Xr h3]at hu;refine wO ?_;change dG _ _ _ _ _;refine ae (ae (xa 4 (V (af fy E) (V (ax (ds:=[_,_,_,_,_]) mI E E E) (V (ak aC8 (.cons E .nil) E (zK t.g)) (V aA (rs (xa 2 (V aF (V (bS E E) (xc (ao E (λlF=>?_) (λlF=>?_)))))))))))))
    ·(try simp only[nb,Xv]at lF);have h4:pW t.g≠0:=lF;rw[Xu h4]at hu;rw[hu];refine ae (xa 3 (V aF (V aA (V aA (xc (ah ?_))))));refine⟨_,gz,?_⟩;rfl
    ·(try simp only[nb,Xv]at lF);have h4:¬pW t.g≠0:=λq=>q lF;rw[Xr h4]at hu;have⟨Et,_⟩:=iL (XU.1 h1);have ht1:=Et.ou.t1;have ht2:=Et.ou.t2;have⟨hg,O9,WW⟩:=gW (XU.1 h4);have yO:=dg hg;have hz:ckT t=(0,c9 (Oe t.g t.ar.ou.t) 22):=hu;refine wO ?_;change dG _ _ _ _ _;refine ae (ae (xa 21 (V (af fy E) (V (af gT E) (V (af dQ E) (V (aj mF E E) (V (cM E E) (V aF (aE E E (λhG=>(af fy E)) (aE E E (λhG=>(ax (ds:=[_,_,_,_,_]) mI E E E)) (aE E E (λhG=>(af fy E)) (aE E E (λhG=>(ax (ds:=[_,_,_,_,_]) mI E E E)) (aE E E (λhG=>(ak VN (.cons E .nil) E (ve _ (by assumption)))) ?_)))))))))))));refine aE E E (λhG=>(dk E E (lL.mk (by (have iR:=T.cP (a:=_) hG.1;(try simp only[nb,Xv]at iR);omega)) (by (have iR:=T.cP (a:=_) hG.1;(try simp only[nb,Xv]at iR);omega))))) (aE E E (λhG=>(ak am2 (.cons E (.cons E .nil)) E (Hb _ _ (by assumption) (by omega) (by omega)))) (aE E E (λhG=>(zN F1 mF E E)) (aE E E (λhG=>(af fc E)) (aE E E (λhG=>(af iA E)) (aE E E (λhG=>(af fD E)) (aE E E (λhG=>(aj mF E E)) ?_))))));refine aE E E (λhG=>(dk E E (lL.mk (by (have iR:=T.cP (a:=_) hG.1;(try simp only[nb,Xv]at iR);omega)) (by (have iR:=T.cP (a:=_) hG.1;(try simp only[nb,Xv]at iR);omega))))) (aE E E (λhG=>(gM E E)) (aT E E E E E E ?_));refine xc (ao E (λC0=>?_) (λC0=>?_))
     ·(try simp only[nb,Xv]at C0);rw[(Od hg).2 C0]at hz;refine ae (xa 2 (V aA (V aA (xc (ah ?_)))));refine⟨_,gz,?_⟩;rw[hz];rfl
     ·(try simp only[nb,Xv]at C0)
      have hb:Oe t.g t.ar.ou.t=false:=by
       cases q:Oe t.g t.ar.ou.t with
       | false=>rfl
       | true=>have:=(Od hg).1 q;omega
      rw[hb]at hz;refine wO ?_;change dG _ _ _ _ _;refine ae (xa 2 (V aA (V aA (xc (ah ?_)))));refine⟨_,gz,?_⟩;rw[hz];rfl
theorem E3(t:tv):PC qP 11 [.agg (q8 t)] (.v (.int .i64 ((ckT t).2))):=by
 refine av (qA func11 E) E ntmps11 results11 λw0=>ae (xa 2 (V (aP E H') (V aA (rs (xa 7 (V (ax kJ E E E) (V (ak aE1 (.cons E .nil) E (zJ _)) (V (aq (x:=.d (.da _)) E) (V (au E E) (V (au E E) (V aA (V aA (rs (xa 2 (V aF (V aA (xc (ah ?_))))))))))))))))));refine⟨_,cS,?_⟩;rfl
theorem xK(ne:Int)(l:List Nat)(hl:l.length<=10000):PC qP 19 [.agg [.v (.int .i64 (ne)),.sl 1 (l.map fC)]] (.agg (Qy ne l)):=by
 refine av (qA func19 E) E ntmps19 results19 λw0=>ae (xa 1 (V (aP E H') (aw (bL Pm E E E (ai (xq (xa 7 (V (af fB E) (V (aj mF E E) (V (B7 xf Kj) (V (af fU E) (V (aj oF E E) ?_))))))))))));refine V (yq xf Kj Ty E (by decide) E E E (by (try simp only[Xo]);omega) (by (try simp only[Xo]);omega)) ?_;refine V (bz (cs:=[_,_]) ae1 Pm E (.cons E E' (.cons E E' .nil)) ⟨⟨rfl,by decide⟩,⟨rfl,by decide⟩,trivial⟩ E) (aw (ay BD E E H' E E (by decide) E (ai ?_)));change dG _ _ _ _ _;refine ah ?_;refine⟨_,(.cons (.dn E E BD E) .nil),?_⟩;rfl
theorem wA(t:tv)(h1:t.ar.el.length<=1000)(h2:t.bf.length<=10000):PC qP 9 [.agg (q8 t)] (.agg (q8 t)):=by
 refine av (qA func9 E) E ntmps9 results9 λw0=>ae (xa 1 (V (aP E H') (aw (bL Pk E E E (ai (xq (xa 9 (V (af fc E) (V (ax (ds:=[_,_,_,_,_,_,_,_,_,_,_]) po E E E) (V (ak aE2 (.cons E .nil) E (JI t.ar h1)) (V (af iz E) (V (ax (ds:=[_,_]) BD E E E) (V (ak aF0 (.cons E .nil) E (xK t.ne t.bf h2)) (V (af fy E) (V (ax (ds:=[_,_,_,_,_]) mI E E E) ?_)))))))))))))));refine V (bz ad9 Pk E (.cons E H' (.cons E H' (.cons E H' .nil))) ⟨⟨rfl,by decide⟩,⟨rfl,by decide⟩,⟨rfl,by decide⟩,trivial⟩ E) (aw (ay kJ E E H' E E (by decide) E (ai ?_)));change dG _ _ _ _ _;refine ah ?_;refine⟨_,(.cons (.dn E E kJ E) .nil),?_⟩;rfl
def IN(g:iZ):Bool:=if (!dP 1 g.co 40 || !dP 1 g.ro 40)=true then true else decide (g.co*g.ro<=12)
def aN2(t:tv):Bool:=(decide (t.ar.el.length<=2)||(decide (16<t.ar.el.length)&&decide (t.ar.el.length<=18)))&&decide (t.bf.length<=260)&&IN t.g
theorem aX8{t:tv}(h:aN2 t=true):t.ar.el.length<=18/\t.bf.length<=260:=by
 unfold aN2 at h;simp only[Xs,X3,XW]at h;omega
theorem KY(g:iZ):PC qP 30 [.agg (qO g)] (.v (.bool (IN g))):=by
 refine av (qA func30 E) E ntmps30 results30 λw0=>ae (xa 2 (V (aP E H') (V aA (rs (ae (xa 10 (V (af fA E) (V (aj mF E E) (V (ak nA (.cons E (.cons E (.cons E .nil))) E (cX _ _ _)) (V (bX E) (V aF (aE E E (λhG=>(af l8 E)) (aE E E (λhG=>(aj mF E E)) (aE E E (λhG=>(ak nA (.cons E (.cons E (.cons E .nil))) E (cX _ _ _))) (aE E E (λhG=>(bX E)) (aT E E E E E E ?_))))))))))))))));refine xc (ao E (λbW=>?_) (λbW=>?_))
 ·(try simp only[nb,Xv]at bW);have hz:IN g=true:=by unfold IN;rw[Xu (by rcases bW with q|q<;>simp[q])]
  refine ae (xa 1 (V aA (xc (ah ?_))));refine⟨_,cS,?_⟩;rw[hz];rfl
 ·(try simp only[nb,Xv]at bW);have⟨q1,q2⟩:=bW;have hz:IN g=decide (g.co*g.ro<=12):=by unfold IN;rw[Xr (by rw[q1,q2];decide)]
  have⟨a1,a2⟩:=cY.1 q1;have⟨a3,a4⟩:=cY.1 q2;have hm:=lX (a:=g.co) (b:=g.ro) (A:=40) (B:=40) (by omega) (by omega) (by omega) (by omega);refine wO ?_;change dG _ _ _ _ _;refine ae (xa 7 (V (af fA E) (V (aj mF E E) (V (af l8 E) (V (aj mF E E) ?_)))));refine V (cZ E E xi) (V (iG E E) (V aA (xc (ah ?_))));refine⟨_,cS,?_⟩;rw[hz];rfl
theorem HK(t:tv):PC qP 6 [.agg (q8 t)] (.v (.bool (aN2 t))):=by
 refine av (qA func6 E) E ntmps6 results6 λw0=>ae (xa 2 (V (aP E H') (V aA (rs (xa 32 (V (af fc E) (V (af du E) (V (aj jP E E) (V (cd kA E (by exact aV _ _)) (V (iG E E) (V aF (aE E E (λhG=>(af fc E)) (aE E E (λhG=>(af du E)) (aE E E (λhG=>(aj jP E E)) (aE E E (λhG=>(cd kA E (by exact aV _ _))) (aE E E (λhG=>(gM E E)) (aE E E (λhG=>aF) (aE E E (λhG=>(af fc E)) (aE E E (λhG=>(af du E)) (aE E E (λhG=>(aj jP E E)) (aE E E (λhG=>(cd kA E (by exact aV _ _))) (aE E E (λhG=>(iG E E)) (vb E E E E E E E E ?_)))))))))))))))))))))));refine aT E E E E E E ?_;refine V aF (aE E E (λhG=>(af iz E)) (aE E E (λhG=>(af fU E)) (aE E E (λhG=>(aj oF E E)) (aE E E (λhG=>(cd qD E (by exact aV _ _))) (aE E E (λhG=>(iG E E)) (aT E E E E E E ?_))))));refine V aF (aE E E (λhG=>(af fy E)) (aE E E (λhG=>(ax (ds:=[_,_,_,_,_]) mI E E E)) (aE E E (λhG=>(ak aE4 (.cons E .nil) E (KY _))) (aT E E E E E E ?_))));refine V aA (xc (bm (t:=5) E (λQ1=>?_)));(try simp only[Xo]at Q1);refine ah ?_;refine⟨_,cS,?_⟩;have e1:decide (t.ar.el.length<=2)=decide ((t.ar.el.length:Int)<=2):=YY.2 (by omega);have e2:decide (16<t.ar.el.length)=decide (16<(t.ar.el.length:Int)):=YY.2 (by omega);have e3:decide (t.ar.el.length<=18)=decide ((t.ar.el.length:Int)<=18):=YY.2 (by omega);have e4:decide (t.bf.length<=260)=decide ((t.bf.length:Int)<=260):=YY.2 (by omega);unfold aN2;rw[e1,e2,e3,e4];simp only[gX,jJ];rfl
theorem nK(t:tv)(c:Int)(s:(Int × Int) × Int)(y:Int × Int):EE t c [] s y=if dP 0 (su t.ar (gZ t.g c) y) 60=true then ((s.1.1+Bc (jQ t y) (su t.ar (gZ t.g c) y).toNat,s.1.2+Bg (jQ t y) (su t.ar (gZ t.g c) y).toNat),s.2+1) else s:=Xr (show ¬(xz [] y.1||xz [] y.2)=true from Bool.false_ne_true)
def be5(t:tv)(l:List (Int × Int)):Prop:=(∀y∈l,(0<=y.1/\y.1<t.ne)/\0<=y.2/\y.2<t.ne)/\l.length<=1600
theorem bd5{t:tv}(h:tn t):be5 t (NC t):=by
 have⟨WZ,ha2⟩:=A5 h;have h1:=h.n1;have h2:=h.n2;refine⟨λy hy=>?_,?_⟩
 ·have⟨q1,q2,q3⟩:=Lz hy
  exact⟨WZ _ q1,q2,by omega⟩
 ·unfold NC
  rw[zS];have:=Nat.mul_le_mul ha2 (show t.ne.toNat<=16 by omega);omega
def cvD(z:Nat × Nat):D:=.v (.complex .f64 z.1 z.2)
def UE(x:Int × Int):Nat × Nat:=(FloatKind.f64.nearest x.1,FloatKind.f64.nearest x.2)
theorem V4{g:iZ}{c:Int}(h1:0<=c)(h2:c<=g.co*g.ro - 1):Bn g c=0:=by
 unfold Bn;rw[fL (by decide),Y6];exact cY.2 ⟨h1,h2⟩
def Hr(z:Nat × Nat):List D:=[cvD z]
def uK(t:tv)(fs dd:List Int)(k:Nat):List (Int × Int):=(List.range k).map λc:Nat=>(lN t (c:Int) dd (mW fs t.ne.toNat)).1
theorem Iy(t:tv)(fs dd:List Int)(k:Nat):uK t fs dd (k+1)=uK t fs dd k++[(lN t (k:Int) dd (mW fs t.ne.toNat)).1]:=by unfold uK;rw[ZA,Yw];rfl
theorem pY(t:tv)(fs dd:List Int)(k:Nat):(uK t fs dd k).length=k:=by unfold uK;rw[Xo,Yx]
def xG(t:tv):Nat:=(t.g.co*t.g.ro).toNat
def GC(t:tv)(fs dd:List Int):List (Int × Int):=uK t fs dd (xG t)
theorem aK7(t:tv)(fs dd:List Int)(h:tn t)(hf:∀x∈fs,0<=x/\x<t.ne)(CV:fs.length<=100):PC qP 35 [.pt (My t) 0,.sl 1 (fs.map iC),.sl 1 (dd.map iC)] (.sl 2 ((GC t fs dd).map wq)):=by
 have⟨hg,_,_⟩:=gW h.gr;have yO:=dg hg;have hcn:((xG t:Nat):Int)=t.g.co*t.g.ro:=by unfold xG;omega
 refine aY (qA func35 E) E ntmps35 results35 λw0 bQ cH iK=>ae (xa 1 (V (aG (x:=.d (.sl _ _)) E) (rs (xa 1 (V (fP) (rn ?_))))));change dG _ _ _ _ _;refine dG.le (sI (k:=7) (e:=108) (sz:=2) E E) ?_;refine ae (ae (xa 6 (V (aq (x:=.d (.pt _ _)) E) (V (bZ E) (V (af qZ E) (V (ax (ds:=[_,_,_,_,_]) oE E E E) (V (ak F4 (.cons E .nil) E (jG t.g hg)) (V aF (xc (az (bG [7,8,9,10,16,17,18,19,20,21,22,23,24,25,26,27,28,29,30,31] [7] (α:=Nat) (λk=>[(16,T.i (k:Int)),(7,.rs 7)]) (λk=>[(7,.row 108 2 ((uK t fs dd k).map wq))]) (λk=>k<=xG t) (λk=>xG t - k) 0 (XC _) ?_ ?_)))))))))))
 ·exact xh (ms:=[7]) (by repeat (exact Out.refl _)) ⟨(by rfl),(by rfl),trivial⟩ ⟨(by rfl),trivial⟩
 ·intro k hk;have WE:=pY t fs dd k;refine ae (xa 1 (V (cM E E) (rs (ao E (λdB=>?_) (λdB=>?_)))))
  ·(try simp only[nb,Xv]at dB);have bH:k<xG t:=by omega
   have AE:Bn t.g (k:Int)=0:=V4 (by omega) (by omega);have tY:(uK t fs dd (k+1)).map wq=(uK t fs dd k).map wq++[wq (lN t (k:Int) dd (mW fs t.ne.toNat)).1]:=by rw[Iy,Yw];rfl
   refine wO ?_;change dG _ _ _ _ _;refine ae (az (ae (xa 2 (V aF (V aA (rs (xa 8 (V (aq (x:=.d (.pt _ _)) E) (V aF (V (aq (x:=.d (.sl _ _)) E) (V (aq (x:=.d (.sl _ _)) E) (V (ak am8 (.cons E (.cons E (.cons E (.cons E .nil)))) E (GL t k fs dd h AE hf CV)) (V (aq (x:=.d (.da _)) E) (V (au E E) (V (au E E) (aw (dF jW E fW E E H' E E (aN E aA (ai ?_)))))))))))))))))));change dG _ _ _ _ _;refine xa 3 (V (aq (x:=.rs _) E) (V (ax (ds:=[_,_]) fW E E E) (V (bu uX jW E E (by decide) (.cons E H' .nil) ⟨rfl,rfl,trivial⟩ E (by decide) E) (aw ?_))));refine eX uX jW Tz E (by decide) E E E E (by (try simp only[Xo,XI,XH,XL]);omega) (by (try simp only[Xo,XI,XH,XL]);omega) E E ?_;refine aN E (aG (x:=.rs _) E) (ai ?_);change dG _ _ _ _ _;refine xa 2 ?_;refine V (lE E E xi) (V aF (rn ?_));refine⟨k+1,by omega,by omega,?_⟩;exact xh (ms:=[7]) (by repeat (first|exact Out.head E E|(refine Out.put ?_ E)|(refine Out.site ?_ E)|(refine Out.dE ?_ E))) ⟨(by rfl),(by rfl),trivial⟩ ⟨(by ((show aH.row _ _ _=aH.row _ _ _;(rw[tY];rfl)))),trivial⟩
  ·(try simp only[nb,Xv]at dB);have vP:k=xG t:=by omega
   subst vP;refine bJ ?_;change dG _ _ _ _ _;refine ae (xa 2 (V (aq (x:=.rs _) E) (V (aG (x:=.rs _) E) (xc (ah ?_)))));refine⟨_,(.cons (.tmp (by exact .rs E)) .nil),?_⟩;rfl
theorem qu(l:List (Int × Int))(hl:l.length<=10000):PC qP 39 [.sl 2 (l.map wq)] (.sl 1 ((l.map UE).map Hr)):=by
 refine aY (qA func39 E) E ntmps39 results39 λw0 bQ cH iK=>ae (xa 1 (V (aG (x:=.d (.sl _ _)) E) (rs (xa 1 (V (fP) (rn ?_))))));change dG _ _ _ _ _;refine dG.le (sI (k:=3) (e:=71) (sz:=1) E E) ?_;refine ae (ae (xa 3 (V (aq (x:=.d (.sl _ _)) E) (V (cd MD E (by exact aV _ _)) (V aF (xc (bm (t:=6) E (λMY=>?_))))))));(try simp only[Xo]at MY);refine az (bG [3,5,8,9,10,11,12,13,14,15,16,17] [3] (α:=Nat) (λk=>[(8,T.i (k:Int)),(3,.rs 3)]) (λk=>[(3,.row 71 1 (((l.take k).map UE).map Hr))]) (λk=>k<=l.length) (λk=>l.length - k) 0 (XC _) ?_ ?_)
 ·exact xh (ms:=[3]) (by repeat (exact Out.refl _)) ⟨(by rfl),(by rfl),trivial⟩ ⟨(by rfl),trivial⟩
 ·intro k hk;have J4:(l.take k).length<=k:=by rw[Ya];omega
  refine ae (xa 1 (V (cM E E) (rs (ao E (λdB=>?_) (λdB=>?_)))))
  ·(try simp only[nb,Xv]at dB);have bH:k<l.length:=by omega
   obtain⟨x,hx⟩:∃x,l[k]?=some x:=⟨_,Xp bH⟩;have tY:((l.take (k+1)).map UE).map Hr=((l.take k).map UE).map Hr++[Hr (UE x)]:=by rw[iB hx,Yw,Yw];rfl
   refine wO ?_;change dG _ _ _ _ _;refine ae (az (ae (xa 2 (V (aJ uX E E (by omega) (cm (by omega) hx)) (V (ax (ds:=[_,_]) fW E E E) (aw (dF jW E fW E E H' E E (ai ?_))))))));change dG _ _ _ _ _;refine xa 4 (V (aq (x:=.rs _) E) (V (ax (ds:=[_,_]) fW E E E) (V (ak am7 (.cons E .nil) E (yU x.1 x.2)) (V (bu PW Xc E E (by decide) (.cons E E' .nil) ⟨rfl,rfl,trivial⟩ E (by decide) E) (aw ?_)))));refine eX PW Xc aG0 E (by decide) E E E E (by (try simp only[Xo,XI,XH,XL]);omega) (by (try simp only[Xo,XI,XH,XL]);omega) E E ?_;refine aN E (aG (x:=.rs _) E) (ai ?_);change dG _ _ _ _ _;refine xa 2 ?_;refine V (lE E E xi) (V aF (rn ?_));refine⟨k+1,by omega,by omega,?_⟩;exact xh (ms:=[3]) (by repeat (first|exact Out.head E E|(refine Out.put ?_ E)|(refine Out.site ?_ E)|(refine Out.dE ?_ E))) ⟨(by rfl),(by rfl),trivial⟩ ⟨(by ((show aH.row _ _ _=aH.row _ _ _;(rw[tY];rfl)))),trivial⟩
  ·(try simp only[nb,Xv]at dB);have vP:k=l.length:=by omega
   subst vP;rw[YL];refine bJ ?_;change dG _ _ _ _ _;refine ae (xa 2 (V (aq (x:=.rs _) E) (V (aG (x:=.rs _) E) (xc (ah ?_)))));refine⟨_,(.cons (.tmp (by exact .rs E)) .nil),?_⟩;rfl
theorem Tw{t:tv}(h:tn t):xG t<=1600:=by
 have⟨hg,_,_⟩:=gW h.gr;have:=dg hg;unfold xG;omega
def imL(t:tv)(fs dd:List Int):List (Nat × Nat):=(GC t fs dd).map UE
theorem QN(t:tv)(fs dd:List Int):(imL t fs dd).length=xG t:=by unfold imL GC;rw[Xo,pY]
def evI(t:tv):List Int:=gY t.ne.toNat
theorem Ul(x y:Nat × Nat):sbB x.1 x.2 y.1 y.2=decide (x=y):=by
 have⟨a,b⟩:=x;obtain⟨c,d⟩:=y;unfold sbB;by_cases h1:a=c
 ·by_cases h2:b=d
  ·simp[h1,h2]
  ·have:¬(b:Int)=d:=by omega
   simp[h1,h2,this]
 ·have:¬(a:Int)=c:=by omega
  simp[h1,this]
theorem E2(l m:List (Nat × Nat)):PC qP 15 [.sl 1 (l.map Hr),.sl 1 (m.map Hr)] (.v (.bool (decide (l=m)))):=by
 refine av (qA func15 E) E ntmps15 results15 λw0=>ae (xa 1 (V aA (rs (ae (xa 5 (V (aq (x:=.d (.sl _ _)) E) (V (cd yF E (by exact aV _ _)) (V (aq (x:=.d (.sl _ _)) E) (V (cd yF E (by exact aV _ _)) (V (bS E E) (xc (bm (t:=6) E (λMY=>?_)))))))))))));(try simp only[Xo]at MY);refine bm (t:=8) E (λMW=>?_);(try simp only[Xo]at MW);refine ao E (λbW=>?_) (λbW=>?_)
 ·(try simp only[nb,Xv]at bW);have hz:decide (l=m)=false:=XV (λe=>by rw[e]at bW;omega);refine ae (xa 1 (V aA (xc (ah ?_))));refine⟨_,cS,?_⟩;rw[hz];rfl
 ·(try simp only[nb,Xv]at bW);have WU:l.length=m.length:=by omega
  refine wO ?_;change dG _ _ _ _ _;refine ae (ae (xa 1 (V aA (xc (az (bG [4,5,11,12,13,14,15,16,17,18,19,20,21,22,23,24,25,26] [] (α:=Nat) (λk=>[(5,T.i (k:Int))]) (λk=>[]) (λk=>k<=l.length/\l.take k=m.take k) (λk=>l.length - k) 0 ⟨XC _,rfl⟩ ?_ ?_))))))
  ·exact xh (ms:=[]) (by repeat (exact Out.refl _)) ⟨(by rfl),trivial⟩ trivial
  ·intro k ⟨hk,hf⟩;refine ae (ae (xa 4 (V aF (V (aq (x:=.d (.sl _ _)) E) (V (cd yF E (by exact aV _ _)) (V (cM E E) (xc (bm (t:=12) E (λMZ=>?_)))))))));(try simp only[Xo]at MZ);refine ao E (λeJ=>?_) (λeJ=>?_)
   ·(try simp only[nb,Xv]at eJ);have bH:k<l.length:=by omega
    obtain⟨x,hx⟩:∃x,l[k]?=some x:=⟨_,Xp bH⟩;obtain⟨y,hy⟩:∃y,m[k]?=some y:=⟨_,Xp (by omega)⟩;have WA:=Ul x y;refine wO ?_;change dG _ _ _ _ _;refine ae (az (ae (xa 10 (V (aq (x:=.d (.sl _ _)) E) (V aF (V (aJ PW E E (by omega) (cm (k:=k) (by omega) hx)) (V (aj ab3 E E) (V (aq (x:=.d (.sl _ _)) E) (V aF (V (aJ PW E E (by omega) (cm (k:=k) (by omega) hy)) (V (aj ab3 E E) (V (ak an3 (.cons E (.cons E .nil)) E (u4 x.1 x.2 y.1 y.2)) (V (bX E) (xc (ao E (λwx=>?_) (λwx=>?_))))))))))))))))
    ·(try simp only[nb,Xv]at wx);have hz:decide (l=m)=false:=XV (λe=>by rw[e,hy]at hx;have:=YT hx;subst this;rw[wx]at WA;simp at WA);refine ae (xa 1 (V aA (xc (ah ?_))));refine⟨_,cS,?_⟩;rw[hz];rfl
    ·(try simp only[nb,Xv]at wx);rw[wx]at WA;have Eo:x=y:=Y3 WA.symm;have Jt:l.take (k+1)=m.take (k+1):=by rw[iB hx,iB hy,hf,Eo]
     refine wO ?_;change dG _ _ _ _ _;refine xa 3 (V aF ?_);refine V (lE E E xi) (V aA (rn ?_));refine⟨k+1,⟨by omega,Jt⟩,by omega,?_⟩;exact xh (ms:=[]) (by repeat (first|exact Out.head E E|(refine Out.put ?_ E))) ⟨(by rfl),trivial⟩ trivial
   ·(try simp only[nb,Xv]at eJ);have hz:decide (l=m)=true:=ZS (by rw[<-Yo (l:=l) (i:=k) (by omega),hf,Yo (by omega)]);refine bJ ?_;change dG _ _ _ _ _;refine ae (xa 1 (V aA (xc (ah ?_))));refine⟨_,cS,?_⟩;rw[hz];rfl
def bg7:Ieee.Datum->Ieee.Datum
 | .number _ m e=>.number false m e
 | .infinity _=>.infinity false
 | .nan _ t=>.nan false t
theorem Wp(b:Nat):Ieee.double.read (b % 2 ^ 63)=bg7 (Ieee.double.read b):=by
 have e1:Ieee.double.signWeight=2 ^ 63:=rfl;have h1:b % 2 ^ 63 % 2 ^ 63=b % 2 ^ 63:=Nat.mod_mod _ _;have h2:b % 2 ^ 63 / 2 ^ 63 % 2=0:=by rw[Zu (Zp _ (by decide))]
 unfold Ieee.Format.read;simp only[e1,h1,h2];by_cases c1:b % 2 ^ 63<Ieee.double.binade
 ·rw[Xu c1,Xu c1];rfl
 ·rw[Xr c1,Xr c1]
  by_cases c2:b % 2 ^ 63<Ieee.double.infRung
  ·rw[Xu c2,Xu c2];rfl
  ·rw[Xr c2,Xr c2]
   by_cases c3:b % 2 ^ 63=Ieee.double.infRung
   ·rw[Xu c3,Xu c3];rfl
   ·rw[Xr c3,Xr c3];rfl
theorem aE3{b:Nat}{s:Bool}{M:Nat}(h:jh Ieee.double b s M):jh Ieee.double (b % 2 ^ 63) false M:=by
 have⟨m,e,h1,h2,h3⟩:=h;exact⟨m,e,by rw[Wp,h1];rfl,h2,h3⟩
def aJ8(b:Nat):Bool:=ordB .gtr (FloatKind.f64.format.order (b % 2 ^ 63) 9218868437227405311)
def MX:Nat:=9007199254740991*2 ^ (971+KK)
theorem aD5:jh Ieee.double 9218868437227405311 false MX:=⟨9007199254740991,971,by decide +kernel,by omega,by
 rw[show ((971:Int)+KK).toNat=971+KK by omega];rfl⟩
theorem aX6{b:Nat}{s:Bool}{m:Nat}{e:Int}{M:Nat}(Y:Ieee.double.read b=.number s m e)(hM:m*2 ^ (e+KK).toNat=M):M<=MX:=by
 have⟨h1,h2,h3⟩:=qh fmD Y
 have h4:m<=9007199254740991:=by
  have:(2:Nat) ^ (52+1)=9007199254740992:=by decide
  omega
 rw[<-hM];unfold MX;exact Nat.mul_le_mul h4 (ZR (by omega) (by omega))
theorem aR3{b:Nat}{s:Bool}{m:Nat}{e:Int}{M:Nat}(Y:Ieee.double.read b=.number s m e)(hM:m*2 ^ (e+KK).toNat=M):aJ8 b=false:=by
 have hn:=vv fmD LD Y;rw[hM]at hn;have h:=UL (aE3 hn) aD5;have hle:=aX6 Y hM;unfold aJ8;refine h.trans (XV ?_);unfold fi;rw[Xr (by decide),Xr (by decide)];omega
theorem aR4{b:Nat}{s:Bool}(Y:Ieee.double.read b=.infinity s):aJ8 b=true:=by
 have h:Ieee.double.order (b % 2 ^ 63) 9218868437227405311=some .gt:=by
  unfold Ieee.Format.order;rw[Wp,Y];have⟨m,e,h1,_,_⟩:=aD5;rw[h1];rfl
 have e:FloatKind.f64.format.order (b % 2 ^ 63) 9218868437227405311=Ieee.double.order (b % 2 ^ 63) 9218868437227405311:=rfl;unfold aJ8;rw[e,h];rfl
def ak9(b:Nat):Nat:=Ieee.double.write ((Ieee.double.read b).integral .zero)
theorem aV2{b:Nat}{s:Bool}{m:Nat}{e:Int}{M:Nat}(Y:Ieee.double.read b=.number s m e)(hM:m*2 ^ (e+KK).toNat=M):ak9 b=Ieee.double.nearest s (M / QQ) 0:=by
 have pV:=(qh fmD Y).2.1;have hLD:=LD;unfold ak9;rw[Y];unfold Ieee.Datum.integral;simp only[aF9];show Ieee.double.nearest s _ 0=_
 congr 1;rw[Y9,<-hM];unfold QQ;by_cases he:0<=e
 ·have e1:(-e).toNat=0:=by omega
  have e2:(e+KK).toNat=e.toNat+KK:=by omega
  rw[e1,e2,Zg,Nat.div_one,YN,<-YU,Nat.mul_div_cancel _ (Yj _)]
 ·have e1:e.toNat=0:=by omega
  obtain⟨u,hu⟩:∃u:Nat,u=(e+KK).toNat:=⟨_,rfl⟩;obtain⟨v,hv⟩:∃v:Nat,v=(-e).toNat:=⟨_,rfl⟩;have e2:KK=u+v:=by omega
  rw[e1,Zg,YA,<-hu,<-hv,e2,YN,YW m,Nat.mul_div_mul_left _ _ (Yj _)]
theorem aH9{f:Ieee.Format}{p L I:Nat}(h:Fm f p L I)(hL:L<=KK){b:Nat}{s:Bool}{m:Nat}{e:Int}{M:Nat}(Y:f.read b=.number s m e)(hM:m*2 ^ (e+KK).toNat=M) :
  jh f (f.nearest s (M / QQ) 0) s (M / QQ*QQ):=by
 have⟨h1,h2,h3⟩:=qh h Y;have QV:=h.pl;have hli:=h.li;by_cases he:0<=e
 ·have e2:(e+KK).toNat=e.toNat+KK:=by omega
  have hq:M / QQ=m*2 ^ e.toNat:=by
   rw[<-hM,e2,YN,<-YU];exact Nat.mul_div_cancel _ sX
  have:=vw h s e.toNat 0 h1 hL (by omega) (λ_=>by omega) (λh0=>by have:=pF h0 h1;omega);rw[show ((0:Int)+KK).toNat=KK by omega,<-hq]at this;exact this
 ·have bH : M / QQ < 2 ^ (p + 1) := by
   refine Nat.lt_of_le_of_lt ?_ h1;refine Nat.div_le_of_le_mul ?_;rw[<-hM,YW QQ];exact Nat.mul_le_mul_left _ (ZR (by omega) (by omega))
  have:=vw h s 0 0 bH hL (by omega) (λ_=>by omega) (λh0=>by have:=pF h0 bH;omega);rw[Zg,YA,show ((0:Int)+KK).toNat=KK by omega]at this;exact this
def aI0(b:Nat):Bool:=if (FloatKind.f64.decode b).isNaN=true then true else ordB .neq (FloatKind.f64.format.order (ak9 b) b)
theorem aP9{b:Nat}{s:Bool}{m:Nat}{e:Int}{M:Nat}(Y:Ieee.double.read b=.number s m e)(hM:m*2 ^ (e+KK).toNat=M):aI0 b = !decide (M % QQ=0):=by
 have hn:=vv fmD LD Y;rw[hM]at hn;have hw:=aH9 fmD LD Y hM
 have h1:(FloatKind.f64.decode b).isNaN=false:=by
  show (Ieee.double.read b).isNaN=false
  rw[Y];rfl
 unfold aI0;rw[Xr (by rw[h1];decide),aV2 Y hM];have h2:FloatKind.f64.format.order (Ieee.double.nearest s (M / QQ) 0) b=some (compare (fi s (M / QQ*QQ)) (fi s M)):=jl hw hn;rw[h2];have J:=Nat.div_add_mod M QQ;rw[YW]at J;have h3:=(xF (fi s (M / QQ*QQ)) (fi s M)).1;unfold ordB;show (some (compare _ _) != some .eq)=_
 rw[bne,h3];congr 1;refine YY.2 ?_;rw[ac4];omega
theorem aZ7(b:Nat):OX b = !(aI0 b||aJ8 b):=by
 cases Y:Ieee.double.read b with
 | nan s t=>
  have h1:(FloatKind.f64.decode b).isNaN=true:=by
   show (Ieee.double.read b).isNaN=true
   rw[Y];rfl
  unfold OX aI0;rw[Y,Xu h1];rfl
 | infinity s=>
  rw[aR4 Y];unfold OX;rw[Y,Bool.or_true];rfl
 | number s m e=>
  obtain⟨M,hM⟩:∃M,m*2 ^ (e+KK).toNat=M:=⟨_,rfl⟩;rw[aP9 Y hM,aR3 Y hM];unfold OX;rw[Y];simp only[hM];simp
def bgB(b:Nat):Bool:=ordB .gtr (FloatKind.f64.format.order (b % 2 ^ 63) 4711630319722168320)
def vD(b:Nat):Int:=
 match Ieee.double.read b with
 | .number s m e=>fi s (m*2 ^ (e+KK).toNat / QQ)
 | _=>0
theorem aX7:jh Ieee.double 4711630319722168320 false (10000000*QQ):=by
 have h:=Fy fmD LD (a:=10000000) (by decide);rw[show wd Ieee.double 10000000=4711630319722168320 by decide +kernel,show decide ((10000000:Int)<0)=false from rfl,show (10000000:Int).natAbs=10000000 from rfl]at h;exact h
theorem aO7{b:Nat}{s:Bool}{M:Nat}(hn:jh Ieee.double b s M):bgB b=decide (10000000*QQ<M):=by
 unfold bgB;refine(UL (aE3 hn) aX7).trans (YY.2 ?_);unfold fi;rw[Xr (by decide),Xr (by decide)];exact Int.ofNat_lt
theorem aU9{b:Nat}(h:OX b=true):∃s m e,Ieee.double.read b=.number s m e/\m*2 ^ (e+KK).toNat % QQ=0:=by
 unfold OX at h
 cases Y:Ieee.double.read b with
 | nan s t=>rw[Y]at h;cases h
 | infinity s=>rw[Y]at h;cases h
 | number s m e=>rw[Y]at h;exact⟨s,m,e,rfl,Y3 h⟩
theorem be3{M:Nat}(h:¬10000000*QQ<M):M / QQ<=10000000:=Nat.div_le_of_le_mul (by rw[YW QQ];exact Nat.le_of_not_lt h)
theorem as3{b:Nat}(h:OX b=true)(hb:bgB b=false):(-10000000<=vD b/\vD b<=10000000)/\floatToIntVal .f64 b .i64=some (vD b):=by
 have⟨s,m,e,Y,_⟩:=aU9 h;obtain⟨M,hM⟩:∃M,m*2 ^ (e+KK).toNat=M:=⟨_,rfl⟩;have hn:=vv fmD LD Y;rw[hM]at hn;rw[aO7 hn,YP]at hb;have h1:M / QQ<=10000000:=be3 hb;have hv:vD b=fi s (M / QQ):=by unfold vD;rw[Y];simp only[hM]
 rw[hv];exact⟨(ai1 (s:=s) 10000000).2 h1,Ar (k:=.f64) hn (by omega)⟩
theorem aS8{a:Int}(h:a.natAbs<2 ^ 53):OX (FloatKind.f64.nearest a)=true/\vD (FloatKind.f64.nearest a)=a/\bgB (FloatKind.f64.nearest a)=decide (10000000<a.natAbs):=by
 have e:FloatKind.f64.nearest a=wd Ieee.double a:=rfl;have hn:jh Ieee.double (FloatKind.f64.nearest a) (decide (a<0)) (a.natAbs*QQ):=Fy fmD LD h;have⟨m,x,h1,h2,h3⟩:=hn;refine⟨?_,?_,?_⟩
 ·unfold OX
  rw[h1];simp only[h3];exact ZS (Nat.mul_mod_left _ _)
 ·unfold vD
  rw[h1];simp only[h3];rw[Nat.mul_div_cancel _ sX];unfold fi;by_cases ha:a<0
  ·rw[ZS ha,Xu E];omega
  ·rw[XV ha,Xr (by simp)];omega
 ·rw[aO7 ⟨m,x,h1,h2,h3⟩]
  exact YY.2 ⟨λq=>Nat.lt_of_mul_lt_mul_right q,λq=>Zr q sX⟩
theorem aK3(b:Nat):bits .andNot .u64 (b:Int) 9223372036854775808=((b % 2 ^ 63:Nat):Int):=by
 unfold bits;have e1:(~~~BitVec.ofInt 64 9223372036854775808:BitVec 64)=BitVec.ofNat 64 (2 ^ 63 - 1):=by decide
 have e2:BitVec.ofInt 64 (b:Int)=BitVec.ofNat 64 b:=by
  apply BitVec.eq_of_toNat_eq;simp[BitVec.toNat_ofInt]
 show IntKind.u64.wrap ((BitVec.ofInt 64 (b:Int) &&& ~~~BitVec.ofInt 64 9223372036854775808:BitVec 64).toNat)=_
 rw[e1,e2,BitVec.toNat_and,BitVec.toNat_ofNat,BitVec.toNat_ofNat,Zt (show 2 ^ 63 - 1<2 ^ 64 by decide),Nat.and_two_pow_sub_one_eq_mod];have e3:b % 2 ^ 64 % 2 ^ 63=b % 2 ^ 63:=Nat.mod_mod_of_dvd _ (by decide);rw[e3];have h:=Zp b (show 2 ^ 63 > 0 by decide);generalize b % 2 ^ 63=c at h ⊢;have e4:IntKind.u64.bits=64:=rfl;have e5:IntKind.u64.signed=false:=rfl;unfold IntKind.wrap;simp[e4,e5];omega
theorem aJ6{b:Nat}{s:Bool}{t:Nat}(Y:Ieee.double.read b=.nan s t):(FloatKind.f64.decode (FloatKind.f64.encode (.nan s (FloatKind.f64.format.quiet t)))).isNaN=true:=by
 have h0:FloatKind.f64.format.quiet t=t ||| 2 ^ 51:=rfl;have pV:2 ^ 51<=t ||| 2 ^ 51:=Nat.right_le_or;obtain⟨q,hq⟩:∃q,q=(t ||| 2 ^ 51) % 2 ^ 52:=⟨_,rfl⟩
 have hq1:0<q:=by
  rw[hq]
  have:((t ||| 2 ^ 51) % 2 ^ 52).testBit 51=true:=by
   rw[Nat.testBit_mod_two_pow,Nat.testBit_or,Nat.testBit_two_pow_self];simp
  refine Nat.pos_of_ne_zero λh=>?_;rw[h]at this;simp at this
 have hq2:q<2 ^ 52:=by rw[hq];exact Zp _ (by decide)
 have e:FloatKind.f64.encode (.nan s (FloatKind.f64.format.quiet t))=(if s=true then 2 ^ 63 else 0)+0x7ff0000000000000+q:=by
  rw[h0,hq];have e3:Ieee.double.infRung=0x7ff0000000000000:=by decide +kernel
  have e4:Ieee.double.binade=2 ^ 52:=rfl;have e5:Ieee.double.signWeight=2 ^ 63:=rfl;show Ieee.double.word s (Ieee.double.infRung+(t ||| 2 ^ 51) % Ieee.double.binade)=_
  unfold Ieee.Format.word;rw[e3,e4,e5]
  cases s<;>simp<;>omega
 rw[e];show (Ieee.double.read _).isNaN=true
 have:=Sz (if s=true then 1 else 0) (q - 1) (by cases s<;>decide) (by omega);rw[show (if s=true then 1 else 0)*2 ^ 63+0x7ff0000000000000+1+(q - 1)=(if s=true then 2 ^ 63 else 0)+0x7ff0000000000000+q by cases s<;>simp<;>omega]at this;exact this
def ba0(q:Question)(b:Nat):Ieee.Datum->Sem Z3
 | .nan s t=>if FloatKind.f64.format.quiet t=t then pure (.float .f64 b) else choose q >>= λk=>pure (.float .f64 (if k==1 then b else FloatKind.f64.encode (.nan s (FloatKind.f64.format.quiet t))))
 | .infinity s=>pure (.float .f64 (FloatKind.f64.encode (.infinity s)))
 | .number s m x=>pure (.float .f64 (FloatKind.f64.encode ((Ieee.Datum.number s m x).integral .zero)))
theorem aL3:∃q:Question,q.forced=false/\∀b:Nat,Extern.MathFloor.toIntegral "math.archTrunc" .zero #[.float .f64 b]=ba0 q b (FloatKind.f64.decode b):=by
 refine⟨?q,?h1,λb=>?h2⟩
 case h2=>
  show Extern.MathFloor.toIntegral.match_1 _ (FloatKind.f64.decode b) _ _=_
  generalize FloatKind.f64.decode b=d
  cases d with
  | nan s t=>rfl
  | infinity s=>rfl
  | number s m x=>rfl
 case h1=>rfl
theorem aL1{P:Z4}{b:Nat}(h:(FloatKind.f64.decode b).isNaN=false)(w:W'):(Extern.MathFloor.toIntegral "math.archTrunc" .zero #[.float .f64 b]).run P w=.ok (.float .f64 (ak9 b)) w:=by
 have⟨q,_,hq⟩:=aL3;have e:ak9 b=FloatKind.f64.encode ((FloatKind.f64.decode b).integral .zero):=rfl;rw[e,hq];generalize FloatKind.f64.decode b=d at h ⊢
 cases d with
 | nan s t=>cases h
 | infinity s=>rfl
 | number s m x=>rfl
theorem aL2{P:Z4}{b:Nat}(h:(FloatKind.f64.decode b).isNaN=true)(w:W'):∃c w',(Extern.MathFloor.toIntegral "math.archTrunc" .zero #[.float .f64 b]).run P w=.ok (.float .f64 c) w'/\Ext w w'/\(FloatKind.f64.decode c).isNaN=true:=by
 have⟨q,hf,htr⟩:=aL3;have hq0:∀s t,FloatKind.f64.decode b=.nan s t->(FloatKind.f64.decode (FloatKind.f64.encode (.nan s (FloatKind.f64.format.quiet t)))).isNaN=true:=λs t Y=>aJ6 (show Ieee.double.read b=.nan s t from Y);have hb:=h;rw[htr];generalize FloatKind.f64.decode b=d at h hq0 ⊢
 cases d with
 | infinity s=>cases h
 | number s m x=>cases h
 | nan s t=>
  unfold ba0;simp only;by_cases hq:FloatKind.f64.format.quiet t=t
  ·refine⟨b,w,?_,Ext.refl w,hb⟩
   rw[Xu hq];rfl
  ·rw[Xr hq]
   by_cases hk:q.cut (w.tape w.drawn q)=1
   ·exact⟨b,w.drew,by simp[hf,hk],(Ext.refl w).drew,hb⟩
   ·exact⟨FloatKind.f64.encode (.nan s (FloatKind.f64.format.quiet t)),w.drew,by simp[hf,hk],(Ext.refl w).drew,hq0 s t E⟩
def trD(b:Nat):D:=if (FloatKind.f64.decode b).isNaN=true then .nan .f64 else .v (.float .f64 (ak9 b))
section
variable{P:Z4}{w0:Cx}{n:Nat}{s:Nat->aH}{ev:Z6->T}{dst:Option Tmp}{ty:Z5}{pos:String}{after:Array Edge}{g:Option (Nat × Bool)}
theorem aQ4{t t':Z5}{x y:Z6}{b:Nat}(hx:ev x=.d (trD b))(hy:ev y=.d (.v (.float .f64 b))):QOp P w0 n s ev ⟨dst,.binOp .neq t x y t',ty,pos,after,g⟩ (T.bool (aI0 b)):=by
 unfold trD at hx;unfold aI0;by_cases h:(FloatKind.f64.decode b).isNaN=true
 ·rw[Xu h]at hx ⊢
  exact zO (by decide) hx hy E
 ·rw[Xr h]at hx ⊢
  exact e9 (by decide) hx hy E
theorem aP3(b:Nat):PC qP 103 [.v (.float .f64 (b))] (.v (.float .f64 (b % 2 ^ 63))):=by
 refine av (qA func103 E) E ntmps103 results103 λw0=>ae (xa 1 (V aA (rs (xa 5 (V aF (V (zP (e:=Extern.MathFloatBits.float64bits) (qA func70 E) (by kernel_rfl) (by kernel_rfl) (by kernel_rfl) (by kernel_rfl) E E (λw=>rfl) E) (V (aJ2 E E (aK3 b)) (V (zP (e:=Extern.MathFloatBits.float64frombits) (qA func132 E) (by kernel_rfl) (by kernel_rfl) (by kernel_rfl) (by kernel_rfl) E E (λw=>rfl) E) (V aA (xc (ah ?_)))))))))));refine⟨_,cS,?_⟩;rfl
theorem aR2(b:Nat):PC qP 101 [.v (.float .f64 (b)),.v (.int .i64 (0))] (.v (.bool (aJ8 b))):=by
 refine av (qA func101 E) E ntmps101 results101 λw0=>ae (xa 1 (V aA (rs (ae (xa 2 (V aF (V (fG E E) (xc (ao E (λbW=>?_) (λbW=>?_))))))))))
 ·(try simp only[nb,Xv]at bW);refine xa 3 (V aF (V (ak aN6 (.cons E .nil) E (aP3 _)) (V aA (rs (xa 3 (V aF (V (e9 (by decide) E E E) (V aA (xc (ah ?_))))))))));refine⟨_,cS,?_⟩;rfl
 ·simp at bW
theorem aK9(b:Nat)(h:(FloatKind.f64.decode b).isNaN=false):PC qP 100 [.v (.float .f64 (b))] (.v (.float .f64 (ak9 b))):=by
 refine av (qA func100 E) E ntmps100 results100 λw0=>ae (xa 1 (V aA (rs (ao E (λhc0=>?_) (λhc0=>?_)))))
 ·(try simp only[nb,Xv]at hc0);refine ae (xa 3 (V aF (V (zP (e:=Extern.MathFloor.toIntegral "math.archTrunc" .zero) (qA func130 E) (by kernel_rfl) (by kernel_rfl) (by kernel_rfl) (by kernel_rfl) E E (λw=>aL1 h w) E) (V aA (xc (ah ?_))))));refine⟨_,cS,?_⟩;rfl
 ·cases hc0
theorem aL0(b:Nat)(h:(FloatKind.f64.decode b).isNaN=true):PC qP 100 [.v (.float .f64 (b))] (.nan .f64):=by
 refine av (qA func100 E) E ntmps100 results100 λw0=>ae (xa 1 (V aA (rs (ao E (λhc0=>?_) (λhc0=>?_)))))
 ·(try simp only[nb,Xv]at hc0);refine ae (xa 3 (V aF (V (aW9 (e:=Extern.MathFloor.toIntegral "math.archTrunc" .zero) (qA func130 E) (by kernel_rfl) (by kernel_rfl) (by kernel_rfl) (by kernel_rfl) E E (λw=>aL2 h w)) (V (aG (x:=.d (.nan _)) E) (xc (ah ?_))))));refine⟨_,cS,?_⟩;rfl
 ·cases hc0
theorem aP8(b:Nat):PC qP 100 [.v (.float .f64 b)] (trD b):=by
 unfold trD;by_cases h:(FloatKind.f64.decode b).isNaN=true
 ·rw[Xu h];exact aL0 b h
 ·rw[Xr h];exact aK9 b (by simpa using h)
def pN(z:Nat × Nat)(i:Nat):Nat:=if i=0 then z.1 else z.2
theorem ba8{z:Nat × Nat}{i:Nat}(h:i<2):([.v (.float .f64 z.1),.v (.float .f64 z.2)]:List D)[((i:Nat):Int).toNat]?=some (.v (.float .f64 (pN z i))):=by rcases two i h with rfl|rfl<;>rfl
def MI(z:Nat × Nat):Int:=if (OX z.1&&OX z.2)=true then c9 (bgB z.1||bgB z.2) 2 else 25
theorem aQ6{z:Nat × Nat}{i:Nat}(hi:i<2)(h:OX (pN z i)=false):MI z=25:=by
 unfold MI;rcases two i hi with rfl|rfl
 ·rw[show OX z.1=false from h,Xr (by simp)]
 ·rw[show OX z.2=false from h,Xr (by simp)]
theorem aJ4(z:Nat × Nat):PC qP 54 [cvD z] (.v (.int .i64 (MI z))):=by
 refine aY (qA func54 E) E ntmps54 results54 λw0 bQ cH iK=>ae (xa 1 (V aA (rs (xa 5 (V aF (V (Fa E) (V aF (V (Fc E) ?_))))))));refine V (qk (cs:=[_,_]) aH5 aS6 E (.cons E E' (.cons E E' .nil)) ⟨⟨rfl,by decide⟩,⟨rfl,by decide⟩,trivial⟩ E) (aw (dF aS6 E aT2 E E H' E E (ai (xq (ae (xa 2 (V (ax (ds:=[_,_]) aT2 E E E) (V aF (xc (az ?_))))))))));refine bG [2,5,12,13,14,15,16,17,18,19,20,21,22,23] [] (α:=Nat) (λj=>[(12,T.i (j:Int))]) (λj=>[]) (λj=>j<=2/\∀i,i<j->OX (pN z i)=true) (λj=>2 - j) 0 ⟨by decide,λi h=>absurd h (by omega)⟩ ?_ ?_
 ·exact xh (ms:=[]) (by repeat (exact Out.refl _)) ⟨(by rfl),trivial⟩ trivial
 ·intro j ⟨hj,kQ⟩;refine ae (xa 1 (V (cM E E) (rs (ao E (λdB=>?_) (λdB=>?_)))))
  ·(try simp only[nb,Xv]at dB);have hj2:j<2:=by omega
   have hwi:=aZ7 (pN z j);refine wO ?_;change dG _ _ _ _ _;refine ae (az (ae (xa 2 (V (Fb aH5 aL4 E E (by omega) (by omega) (ba8 hj2)) (V aA (rs (xa 8 (V aF (V (ak be2 (.cons E .nil) E (aP8 (pN z j))) (V aF (V (aQ4 E E) (V aF (aE E E (λhG=>aF) (aE E E (λhG=>(ak be1 (.cons E (.cons E .nil)) E (aR2 (pN z j)))) (aT E E E E E E ?_)))))))))))))));refine xc (ao E (λeU=>?_) (λeU=>?_))
   ·(try simp only[nb,Xv]at eU);have hz:MI z=25:=aQ6 hj2 (by rw[hwi];rcases eU with q|q<;>simp[q]);refine ae (xa 1 (V aA (xc (ah ?_))));refine⟨_,cS,?_⟩;rw[hz];(try simp only[jJ]);rfl
   ·(try simp only[nb,Xv]at eU);have WB:OX (pN z j)=true:=by rw[hwi,eU.1,eU.2];rfl
    refine wO ?_;change dG _ _ _ _ _;refine xa 2 ?_;refine V (lE E E xi) (V aF (rn ?_))
    refine⟨j+1,⟨by omega,λi hi=>by
    by_cases q:i=j
    ·subst q;exact WB
    ·exact kQ i (by omega)⟩,by omega,?_⟩
    exact xh (ms:=[]) (by repeat (first|exact Out.head E E|(refine Out.put ?_ E))) ⟨(by rfl),trivial⟩ trivial
  ·(try simp only[nb,Xv]at dB);have hj2:j=2:=by omega
   have h0:=kQ 0 (by omega);have h1:=kQ 1 (by omega);have hz:MI z=c9 (bgB z.1||bgB z.2) 2:=by unfold MI;rw[Xu (by rw[show OX z.1=true from h0,show OX z.2=true from h1];rfl)]
   refine bJ ?_;change dG _ _ _ _ _;refine ae (xa 12 (V (cj aH5 E E (by omega) (by omega)) (V (aj aL4 E E) (V (ak aN6 (.cons E .nil) E (aP3 _)) (V (e9 (by decide) E E E) (V aF ?_))))));refine aE E E (λhG=>(cj aH5 E E (by (have iR:=T.cP (a:=_) hG.1;(try simp only[nb,Xv]at iR);omega)) (by (have iR:=T.cP (a:=_) hG.1;(try simp only[nb,Xv]at iR);omega)))) (aE E E (λhG=>(aj aL4 E E)) (aE E E (λhG=>(ak aN6 (.cons E .nil) E (aP3 _))) (aE E E (λhG=>(e9 (by decide) E E E)) (aT E E E E E E ?_))));refine V (ak yZ (.cons E (.cons E .nil)) E (n9 _ _)) (V aA (xc (ah ?_)));refine⟨_,cS,?_⟩;rw[hz];(try simp only[jJ]);rfl
theorem aT5{z:Nat × Nat}(h:MI z=0):(OX z.1=true/\OX z.2=true)/\bgB z.1=false/\bgB z.2=false:=by
 unfold MI at h;by_cases h1:(OX z.1&&OX z.2)=true
 ·rw[Xu h1,fL (by decide),YR]at h
  rw[Xs]at h1;exact⟨h1,h⟩
 ·rw[Xr h1]at h;cases h
def vZ(z:Nat × Nat):Int × Int:=(vD z.1,vD z.2)
theorem aQ2(z:Nat × Nat)(eE:MI z=0):PC qP 55 [cvD z] (.agg (wq (vZ z))):=by
 obtain⟨⟨w1,w2⟩,b1,b2⟩:=aT5 eE;have⟨⟨v1,v2⟩,v3⟩:=as3 w1 b1;have⟨⟨v4,v5⟩,v6⟩:=as3 w2 b2;refine av (qA func55 E) E ntmps55 results55 λw0=>ae (xa 0 (aw (bL jW E E E (ai (xq (xa 7 (V aF (V (Fa E) (V (iH sQ vU E v3) (V aF (V (Fc E) (V (iH sQ vU E v6) ?_))))))))))));refine V (bz (cs:=[_,_]) Sp jW E (.cons E E' (.cons E E' .nil)) ⟨⟨rfl,by decide⟩,⟨rfl,by decide⟩,trivial⟩ E) (aw (ay fW E E H' E E (by decide) E (ai ?_)));change dG _ _ _ _ _;refine ah ?_;refine⟨_,(.cons (.dn E E fW E) .nil),?_⟩;rfl
def hdN(l:List (List (Nat × Nat))):Nat:=(l.getD 0 []).length
def peS:List (Nat × Nat)->Int
 | []=>0
 | z::r=>if MI z≠0 then MI z else peS r
theorem aX0{c:List (Nat × Nat)}{i:Nat}{z:Nat × Nat}(h:c[i]?=some z):peS (c.drop i)=if MI z≠0 then MI z else peS (c.drop (i+1)):=by
 obtain⟨bH,rfl⟩:=Xt.1 h;rw[Yf bH];rfl
theorem aM2:∀{c:List (Nat × Nat)},peS c=0->∀z∈c,MI z=0
 | [],_,z,h=>by cases h
 | y::c,h,z,hz=>by
  unfold peS at h;by_cases h1:MI y≠0
  ·rw[Xu h1]at h;exact absurd h h1
  ·rw[Xr h1]at h
   rcases Xy.1 hz with rfl|hz
   ·exact XU.1 h1
   ·exact aM2 h z hz
theorem aT0{z:Nat × Nat}(h:MI z=0):(-10000000<=(vZ z).1/\(vZ z).1<=10000000)/\-10000000<=(vZ z).2/\(vZ z).2<=10000000:=by
 obtain⟨⟨w1,w2⟩,b1,b2⟩:=aT5 h;exact⟨(as3 w1 b1).1,(as3 w2 b2).1⟩
def sqZ(z:Nat × Nat):Int:=(vZ z).1*(vZ z).1+(vZ z).2*(vZ z).2
def pwR(x:List (Nat × Nat)):List Int × Int:=if 1600<x.length then ([],8) else if peS x≠0 then ([],peS x) else (x.map sqZ,0)
theorem Xi(a:Int):0<=a*a:=by
 rcases Int.le_total 0 a with h|h
 ·exact X2 h h
 ·exact Int.mul_nonneg_of_nonpos_of_nonpos h h
theorem O0{a:Int}(h1 : -10000000<=a)(h2:a<=10000000):0<=a*a/\a*a<=100000000000000:=by
 have h:=lX (a:=a) (b:=a) (A:=10000000) (B:=10000000) (by omega) (by omega) (by omega) (by omega);exact⟨Xi a,by omega⟩
theorem aJ9(a b:Int)(h1 : -10000000<=a/\a<=10000000)(h2 : -10000000<=b/\b<=10000000):PC qP 56 [.agg [.v (.int .i64 (a)),.v (.int .i64 (b))]] (.v (.int .i64 (a*a+b*b))):=by
 have⟨m1,m2⟩:=O0 h1.1 h1.2;have⟨m3,m4⟩:=O0 h2.1 h2.2;refine av (qA func56 E) E ntmps56 results56 λw0=>ae (xa 2 (V (aP E H') (V aA (rs (xa 12 (V (af rj E) (V (aj mF E E) (V (af rj E) (V (aj mF E E) ?_)))))))));refine V (cZ E E xi) (V (af ri E) (V (aj mF E E) (V (af ri E) (V (aj mF E E) ?_))));refine V (cZ E E xi) ?_;refine V (lE E E xi) (V aA (xc (ah ?_)));refine⟨_,cS,?_⟩;rfl
theorem WJ(x:List (Nat × Nat)):PC qP 21 [.sl 1 (x.map Hr)] (.da [.sl 1 ((pwR x).1.map iC),.v (.int .i64 ((pwR x).2))]):=by
 have hu:pwR x=if 1600<x.length then ([],8) else if peS x≠0 then ([],peS x) else (x.map sqZ,0):=rfl
 refine aY (qA func21 E) E ntmps21 results21 λw0 bQ cH iK=>ae (xa 2 (V (aG (x:=.d (.sl _ _)) E) (V aA (rs (ae (xa 3 (V (aq (x:=.d (.sl _ _)) E) (V (cd yF E (by exact aV _ _)) (V (gM E E) (xc (bm (t:=8) E (λMW=>?_))))))))))));(try simp only[Xo]at MW);refine ao E (λbW=>?_) (λbW=>?_)
 ·(try simp only[nb,Xv]at bW);rw[Xu (by omega)]at hu;refine ae (xa 2 (V (aG (x:=.d (.sl _ _)) E) (V aA (xc (ah ?_)))));refine⟨_,gz,?_⟩;rw[hu];rfl
 ·(try simp only[nb,Xv]at bW);rw[Xr (by omega)]at hu;refine wO ?_;change dG _ _ _ _ _;refine ae (xa 1 (V (fP) (rn ?_)));change dG _ _ _ _ _;refine dG.le (sI (k:=4) (e:=3) (sz:=1) E E) ?_;refine ae (ae (xa 3 (V (aq (x:=.d (.sl _ _)) E) (V (cd yF E (by exact aV _ _)) (V aF (xc (bm (t:=11) E (λVe=>?_))))))));(try simp only[Xo]at Ve);refine az (bG [2,3,4,6,7,13,14,15,16,17,18,19,20,21,22,23,24,25,26,27,28] [4] (α:=Nat) (λi=>[(13,T.i (i:Int)),(4,.rs 4)]) (λi=>[(4,.row 3 1 (((x.take i).map sqZ).map iC))]) (λi=>i<=x.length/\peS x=peS (x.drop i)) (λi=>x.length - i) 0 ⟨XC _,rfl⟩ ?_ ?_)
  ·exact xh (ms:=[4]) (by repeat (exact Out.refl _)) ⟨(by rfl),(by rfl),trivial⟩ ⟨(by rfl),trivial⟩
  ·intro i ⟨hi,hf⟩;have J4:(x.take i).length<=i:=by rw[Ya];omega
   refine ae (xa 1 (V (cM E E) (rs (ao E (λeU=>?_) (λeU=>?_)))))
   ·(try simp only[nb,Xv]at eU);have bH:i<x.length:=by omega
    obtain⟨z,hz⟩:∃z,x[i]?=some z:=⟨_,Xp bH⟩;have WI:=aX0 hz;rw[WI]at hf;refine wO ?_;change dG _ _ _ _ _;refine ae (az (ae (xa 3 (V (aJ PW E E (by omega) (cm (by omega) hz)) (V (aj ab3 E E) (V aA (rs (ae (xa 3 (V aF (V (ak bg0 (.cons E .nil) E (aJ4 z)) (V aA (rs (xa 2 (V aF (V (bS E E) (xc (ao E (λoM=>?_) (λoM=>?_)))))))))))))))))))
    ·(try simp only[nb,Xv]at oM);rw[Xu oM]at hf;have hpx:pwR x=([],MI z):=by rw[hu,hf,Xu oM]
     refine ae (xa 3 (V aF (V (aG (x:=.d (.sl _ _)) E) (V aA (xc (ah ?_))))));refine⟨_,gz,?_⟩;rw[hpx];rfl
    ·(try simp only[nb,Xv]at oM);have eE:MI z=0:=oM;rw[Xr (c:=MI z≠0) (λq=>q eE)]at hf;have hvz:=aT0 eE;have⟨aY1,aY0⟩:=hvz;have⟨m1,m2⟩:=O0 aY1.1 aY1.2;have⟨m3,m4⟩:=O0 aY0.1 aY0.2;have tY:((x.take (i+1)).map sqZ).map iC=((x.take i).map sqZ).map iC++[iC (sqZ z)]:=by rw[iB hz,Yw,Yw];rfl
     refine wO ?_;change dG _ _ _ _ _;refine xa 5 (V (aq (x:=.rs _) E) (V aF (V (ak bf9 (.cons E .nil) E (aQ2 z eE)) (V (ak bf8 (.cons E .nil) E (aJ9 _ _ aY1 aY0)) (V (bu gK Br E E (by decide) (.cons E E' .nil) ⟨rfl,rfl,trivial⟩ E (by decide) E) (aw ?_))))));refine eX gK Br by3 E (by decide) E E E E (by (try simp only[Xo,XI,XH,XL]);omega) (by (try simp only[Xo,XI,XH,XL]);omega) E E ?_;refine aN E (aG (x:=.rs _) E) (ai ?_);change dG _ _ _ _ _;refine xa 2 ?_;refine V (lE E E xi) (V aF (rn ?_));refine⟨i+1,⟨by omega,hf⟩,by omega,?_⟩;exact xh (ms:=[4]) (by repeat (first|exact Out.head E E|(refine Out.put ?_ E)|(refine Out.site ?_ E)|(refine Out.dE ?_ E))) ⟨(by rfl),(by rfl),trivial⟩ ⟨(by ((show aH.row _ _ _=aH.row _ _ _;(rw[tY];rfl)))),trivial⟩
   ·(try simp only[nb,Xv]at eU);have hiL:i=x.length:=by omega
    have hp0:peS x=0:=by rw[hf,Yu (by omega)];rfl
    rw[Xr (c:=peS x≠0) (λq=>q hp0)]at hu;subst hiL;rw[YL];refine bJ ?_;change dG _ _ _ _ _;refine ae (xa 3 (V (aq (x:=.rs _) E) (V (aG (x:=.rs _) E) (V aA (xc (ah ?_))))));refine⟨_,(.cons (.tmp (by exact .rs E)) cS),?_⟩;rw[hu];rfl
end
end Go.Proofs.YthcfokccjljnpaaGreat.Am.M
namespace Go.Proofs.YthcfokccjljnpaaGreat.Am.M.R
open Go Go.Proofs.Tryz
theorem mixed:tG.follows .mixedOrders:=by kernel_rfl
theorem xa{w0:Cx}{st:St}{l:List Z8}{id:Nat}{draw:Bool}{R:Exit->St->Prop}(n:Nat)(hW:wK tG w0 st l n (l.take n) 0 (λ_=>.dead) st (λst'=>tj tG w0 l (l.drop n) R st'))(h:(vX l n st.n&&decide (n<=l.length)&&(!draw||wu l n))=true:=by kernel_rfl):dG tG w0 (.region id l.toArray draw) R st:=ca n mixed h hW
theorem mF:szB tG 3 false 1:=by kernel_rfl
theorem vU:vH tG 3 .i64:=by kernel_rfl
theorem sz5:szB tG 5 false 1:=by kernel_rfl
theorem by5:Ey tG 5 1:=by kernel_rfl
theorem zr5:eC tG 5 (.int .u8 0):=by unfold eC;kernel_rfl
theorem I7:vH tG 5 .u8:=by kernel_rfl
theorem xC:isStr tG 9:=by kernel_rfl
theorem aN3:vH tG 21 .i32:=by kernel_rfl
theorem oF:szB tG 29 false 1:=by kernel_rfl
theorem xf:slB tG 29 120 1:=by kernel_rfl
theorem qD:tV tG 29:=by kernel_rfl
theorem BD:szB tG 31 true 2:=by kernel_rfl
theorem Pm:eC tG 31 (.agg #[.int .i64 0,.slice none 0 0]):=by unfold eC;kernel_rfl
theorem fB:fldB tG 31 0 0:=by kernel_rfl
theorem fU:fldB tG 31 1 1:=by kernel_rfl
theorem ae1:uu tG 31 [(0,1),(1,1)]:=by kernel_rfl
theorem iz:fldB tG 37 1 11:=by kernel_rfl
theorem TY:szB tG 43 false 1:=by kernel_rfl
theorem EA:eC tG 43 (.int .i64 0):=by unfold eC;kernel_rfl
theorem J0:fldB tG 56 2 2:=by kernel_rfl
theorem aI5:szB tG 61 true 3:=by kernel_rfl
theorem aj9:eC tG 61 (.agg #[.int .i64 0,.int .i64 0,.slice none 0 0]):=by unfold eC;kernel_rfl
theorem Hi:fldB tG 61 0 0:=by kernel_rfl
theorem Az:fldB tG 61 1 1:=by kernel_rfl
theorem aQ5:uu tG 61 [(0,1),(1,2)]:=by kernel_rfl
theorem at3:szB tG 118 false 1:=by kernel_rfl
theorem xD:slB tG 118 5 1:=by kernel_rfl
theorem RL:tV tG 118:=by kernel_rfl
theorem xV:szB tG 120 false 1:=by kernel_rfl
theorem Ty:Ey tG 120 4:=by kernel_rfl
theorem Kj:eC tG 120 (.float .f32 0):=by unfold eC;kernel_rfl
theorem ik:fltB tG 120 .f32:=by kernel_rfl
theorem am4:vH tG 127 .i16:=by kernel_rfl
theorem NQ:cA tG 129:=by kernel_rfl
theorem Tn:cA tG 151:=by kernel_rfl
theorem bd9:cA tG 18:=by kernel_rfl
theorem aF0:cA tG 19:=by kernel_rfl
theorem bg5:cA tG 20:=by kernel_rfl
theorem an0:cA tG 45:=by kernel_rfl
theorem bg4:cA tG 46:=by kernel_rfl
theorem aY6:cA tG 47:=by kernel_rfl
theorem bd7:cA tG 48:=by kernel_rfl
theorem bg3:cA tG 49:=by kernel_rfl
theorem NK:cA tG 50:=by kernel_rfl
theorem bg2:cA tG 51:=by kernel_rfl
theorem aY5:cA tG 52:=by kernel_rfl
theorem bg1:cA tG 53:=by kernel_rfl
theorem am1:cA tG 97:=by kernel_rfl
theorem bf7:cA tG 98:=by kernel_rfl
theorem bf6:cA tG 99:=by kernel_rfl
theorem ld(n lo hi:Int):PC tG 50 [.v (.int .i64 (n)),.v (.int .i64 (lo)),.v (.int .i64 (hi))] (.v (.bool (dP lo n hi))):=by
 refine av (Wx func50 E) E ntmps50 results50 λw0=>ae (xa 1 (V aA (rs (xa 9 (V aF (V aF (V (iG E E) (V aF (aE E E (λhG=>aF) (aE E E (λhG=>aF) (aE E E (λhG=>(iG E E)) (aT E E E E E E ?_))))))))))));refine V aA (xc (ah ?_));refine⟨_,cS,?_⟩;simp only[gX];rfl
theorem BA(n m:Int)(h1:0<=m)(h2:m<=1000000000000):PC tG 45 [.v (.int .i64 (n)),.v (.int .i64 (m))] (.v (.bool (dP (-m) n m))):=by
 refine av (Wx func45 E) E ntmps45 results45 λw0=>ae (xa 1 (V aA (rs (xa 6 (V aF (V aF ?_))))));refine V (tw E xi) (V aF (V (ak NK (.cons E (.cons E (.cons E .nil))) E (ld _ _ _)) (V aA (xc (ah ?_)))));refine⟨_,cS,?_⟩;rfl
theorem zo(b:Nat)(n:Int)(h:Wm b n):PC tG 151 [fd b] (.v (.int .i64 (0))):=by
 have h1:=h.lo;have h2:=h.hi;have Y:dP (-2047) n 2047=true:=by simp[dP];omega
 refine av (Wx func151 E) E ntmps151 results151 λw0=>ae (xa 1 (V aA (rs (az (ae (xa 10 (V aF (V aF (V (e9 (by decide) E E h.self) (V aF (aE E E (λhG=>aF) (aE E E (λhG=>aF) (aE E E (λhG=>(Ff (by decide) E E h.sub)) (aE E E (λhG=>(e9 (by decide) E E Bw)) (aT E E E E E E ?_)))))))))))))));refine V aA (xc (ao E (λbW=>?_) (λbW=>?_)))
 ·cases bW
 ·(try simp only[nb,Xv]at bW);refine ae (xa 7 (V aF (V (e9 (by decide) E E h.ge) (V aF (aE E E (λhG=>aF) (aE E E (λhG=>(e9 (by decide) E E h.le)) (aT E E E E E E ?_)))))));refine V aA (xc (ao E (λdB=>?_) (λdB=>?_)))
  ·cases dB
  ·(try simp only[nb,Xv]at dB);refine ae (xa 6 (V aF (V (iH ik vU E h.int) (V (lW vU ik E) (V aF (V (e9 (by decide) E E h.back) (V aA (xc (ao E (λeU=>?_) (λeU=>?_))))))))))
   ·cases eU
   ·(try simp only[nb,Xv]at eU);refine ae (xa 5 (V aF (V (iH ik vU E h.int) (V (ak an0 (.cons E (.cons E .nil)) E (BA _ _ (by omega) (by omega))) (V (bX E) (V aA (xc (ao E (λmo=>?_) (λmo=>?_)))))))))
    ·rw[show dP (-2047) n 2047=true from Y]at mo
     cases mo
    ·(try simp only[nb,Xv]at mo);refine wO ?_;change dG _ _ _ _ _;refine ae (xa 1 (V aA (xc (ah ?_))));refine⟨_,cS,?_⟩;rfl
theorem oP(l:List Nat)(hb:ud l):PC tG 129 [.sl 1 (l.map fC)] (.da [.v (.int .i64 (0)),.v (.int .i64 (0))]):=by
 refine av (Wx func129 E) E ntmps129 results129 λw0=>ae (xa 2 (V aA (V aA (rs (ae (xa 3 (V (aq (x:=.d (.sl _ _)) E) (V (cd qD E (by exact aV _ _)) (V aF (xc (bm (t:=7) E (λhl7=>?_))))))))))));(try simp only[Xo]at hl7);refine az (bG [2,3,4,5,6,9,10,11,12,13,14,15,16,17,18,19,20] [] (α:=Nat) (λk=>[(9,T.i (k:Int))]) (λk=>[]) (λk=>k<=l.length) (λk=>l.length - k) 0 (XC _) ?_ ?_)
 ·exact xh (ms:=[]) (by repeat (exact Out.refl _)) ⟨(by rfl),trivial⟩ trivial
 ·intro k hk;refine ae (xa 1 (V (cM E E) (rs (ao E (λbV=>?_) (λbV=>?_)))))
  ·(try simp only[nb,Xv]at bV);have bH:k<l.length:=by omega
   obtain⟨x,hx⟩:∃x,l[k]?=some x:=⟨_,Xp bH⟩;have hx1:=hb x (XA hx);refine wO ?_;change dG _ _ _ _ _;refine ae (az (ae (xa 5 (V aF (V (aJ xf E E (by omega) (cm (by omega) hx)) (V (aj xV E E) (V aA (V aA (rs (xa 3 (V aF (V (ak Tn (.cons E .nil) E (zo _ _ (by assumption))) (V aA (rs (xa 2 (V aF (V (bS E E) (xc (ao E (λeU=>?_) (λeU=>?_))))))))))))))))))))
   ·simp at eU
   ·(try simp only[nb,Xv]at eU);refine wO ?_;change dG _ _ _ _ _;refine xa 2 ?_;refine V (lE E E xi) (V aF (rn ?_));refine⟨k+1,by omega,by omega,?_⟩;exact xh (ms:=[]) (by repeat (first|exact Out.head E E|(refine Out.put ?_ E))) ⟨(by rfl),trivial⟩ trivial
  ·(try simp only[nb,Xv]at bV);refine bJ ?_;change dG _ _ _ _ _;refine ae (xa 2 (V aA (V aA (xc (ah ?_)))));refine⟨_,gz,?_⟩;rfl
theorem xM(ne:Int)(l:List Nat)(h1:1<=ne)(h2:ne<=16)(hl:(l.length:Int)=ne*ne*64)(hb:ud l):PC tG 97 [.agg [.v (.int .i64 (ne)),.sl 1 (l.map fC)]] (.da [.v (.int .i64 (0)),.v (.int .i64 (0))]):=by
 have hm:=lX (a:=ne) (b:=ne) (A:=16) (B:=16) (by omega) (by omega) (by omega) (by omega);refine av (Wx func97 E) E ntmps97 results97 λw0=>ae (xa 3 (V (aP E H') (V aA (V aA (rs (az (ae (xa 5 (V (af fB E) (V (aj mF E E) (V (ak NK (.cons E (.cons E (.cons E .nil))) E (ld _ _ _)) (V (bX E) (V aA (xc (ao E (λbW=>?_) (λbW=>?_))))))))))))))))
 ·simp[dP]at bW;omega
 ·(try simp only[nb,Xv]at bW);refine ae (xa 11 (V (af fU E) (V (aj oF E E) (V (cd qD E (by exact aV _ _)) (V (af fB E) (V (aj mF E E) (V (af fB E) (V (aj mF E E) ?_))))))));refine V (cZ E E xi) ?_;refine V (cZ E E xi) (V (bS E E) (V aA (xc (bm (t:=11) E (λVe=>?_)))));(try simp only[Xo]at Ve);refine ao E (λdB=>?_) (λdB=>?_)
  ·rw[XW]at dB;exact absurd hl dB
  ·(try simp only[nb,Xv]at dB);refine wO ?_;change dG _ _ _ _ _;refine ae (xa 7 (V (af fU E) (V (aj oF E E) (V (ak NQ (.cons E .nil) E (oP l hb)) (V (au E E) (V (au E E) (V aA (V aA (xc (ah ?_))))))))));refine⟨_,gz,?_⟩;rfl
theorem Qq(ne:Int)(l:List Nat)(h1:1<=ne)(h2:ne<=16)(hl:(l.length:Int)=ne*ne*64)(hb:ud l):PC tG 46 [.agg [.v (.int .i64 (ne)),.sl 1 (l.map fC)]] (.v (.int .i64 (0))):=by
 refine av (Wx func46 E) E ntmps46 results46 λw0=>ae (xa 2 (V (aP E H') (V aA (rs (xa 7 (V (ax (ds:=[_,_]) BD E E E) (V (ak am1 (.cons E .nil) E (xM ne l h1 h2 hl hb)) (V (aq (x:=.d (.da _)) E) (V (au E E) (V (au E E) (V aA (V aA (rs (xa 2 (V aF (V aA (xc (ah ?_))))))))))))))))));refine⟨_,cS,?_⟩;rfl
theorem D3(ne:Int)(l:List Nat)(hl:l.length<=100000):PC tG 19 [.agg [.v (.int .i64 (ne)),.sl 1 (l.map fC)]] (.agg (Qy ne l)):=by
 refine av (Wx func19 E) E ntmps19 results19 λw0=>ae (xa 1 (V (aP E H') (aw (bL Pm E E E (ai (xq (xa 7 (V (af fB E) (V (aj mF E E) (V (B7 xf Kj) (V (af fU E) (V (aj oF E E) ?_))))))))))));refine V (yq xf Kj Ty E (by decide) E E E (by (try simp only[Xo]);omega) (by (try simp only[Xo]);omega)) ?_;refine V (bz (cs:=[_,_]) ae1 Pm E (.cons E E' (.cons E E' .nil)) ⟨⟨rfl,by decide⟩,⟨rfl,by decide⟩,trivial⟩ E) (aw (ay BD E E H' E E (by decide) E (ai ?_)));change dG _ _ _ _ _;refine ah ?_;refine⟨_,(.cons (.dn E E BD E) .nil),?_⟩;rfl
theorem ac6(n:Int)(h:0<=n/\n<=1000):PC tG 51 [.v (.int .i64 (n))] (.v (.int .i64 (8+2*n*n*64+2))):=by
 have hm:=lX (a:=n) (b:=n) (A:=1000) (B:=1000) (by omega) (by omega) (by omega) (by omega);have hm2:2*n*n=2*(n*n):=Int.mul_assoc _ _ _;refine av (Wx func51 E) E ntmps51 results51 λw0=>ae (xa 1 (V aA (rs (xa 8 (V aF ?_)))));refine V (cZ E E xi) (V aF ?_);refine V (cZ E E xi) ?_;refine V (cZ E E xi) ?_;refine V (lE E E xi) ?_;refine V (lE E E xi) (V aA (xc (ah ?_)));refine⟨_,cS,?_⟩;rfl
theorem aF2(l:List UInt8)(hl:l.length<=1000000):PC tG 48 [.v (.string (zn l))] (.v (.int .i64 (chS l))):=by
 have eQ:=tL l;refine av (Wx func48 E) E ntmps48 results48 λw0=>ae (xa 1 (V aA (rs (xa 1 (V aA (rs (ae (xa 3 (V aF (V (vY xC E) (V aF (xc (az (bG [3,4,7,8,9,10,11,12,13,14,15,16,17,18,19] [] (α:=Nat) (λk=>[(7,T.i (k:Int)),(3,T.i (chS (l.take k)))]) (λk=>[]) (λk=>k<=l.length) (λk=>l.length - k) 0 (XC _) ?_ ?_))))))))))))))
 ·exact xh (ms:=[]) (by repeat (exact Out.refl _)) ⟨(by rfl),(by rfl),trivial⟩ trivial
 ·intro k hk;refine ae (xa 1 (V (cM E E) (rs (ao E (λdB=>?_) (λdB=>?_)))))
  ·(try simp only[nb,Xv]at dB);have bH:k<l.length:=by omega
   obtain⟨b,hb⟩:∃b,l[k]?=some b:=⟨_,Xp bH⟩;have hbl:=b.toNat_lt;have yO:=aO4 (l.take k);have hb5:IntKind.i64.wrap (b.toNat:Int)=b.toNat:=ak0 (by omega) (by omega);have Jp:chS (l.take (k+1))=(257*chS (l.take k)+b.toNat+1).tmod 65521:=by rw[iB hb,aO3];unfold chN;rw[Int.tmod_eq_emod_of_nonneg (by omega)]
   refine wO ?_;change dG _ _ _ _ _;refine ae (az (ae (xa 2 (V aF (V aA (rn ?_))))));change dG _ _ _ _ _;refine xa 10 (V aF ?_);refine V (cZ E E xi) (V aF (V aF (V (BH xC E E (by omega) (al8 hb)) (V (ur I7 vU E hb5) ?_))));refine V (lE E E xi) ?_;refine V (lE E E xi) (V (yo E E (by omega)) (V aA (rn ?_)));change dG _ _ _ _ _;refine xa 2 ?_;refine V (lE E E xi) (V aF (rn ?_));refine⟨k+1,by omega,by omega,?_⟩;exact xh (ms:=[]) (by repeat (first|exact Out.head E E|(refine Out.put ?_ E))) ⟨(by rfl),(by (exact congrArg T.i Jp.symm)),trivial⟩ trivial
  ·(try simp only[nb,Xv]at dB);have O8:k=l.length:=by omega
   subst O8;rw[YL];refine bJ ?_;change dG _ _ _ _ _;refine ae (xa 2 (V aF (V aA (xc (ah ?_)))));refine⟨_,cS,?_⟩;rfl
theorem P0(l:List UInt8)(hl:l.length<=4):PC tG 52 [.v (.string (zn l))] (.v (.int .i64 (MM l))):=by
 refine av (Wx func52 E) E ntmps52 results52 λw0=>ae (xa 1 (V aA (rs (xa 1 (V aA (rs (ae (xa 4 (V aF (V (aw2 xC xD I7 (by rw[tL];omega) E) ?_))))))))));rw[ad7];refine V (cd RL E (by exact aV _ _)) (V aF (xc (bm (t:=7) E (λhl7=>?_))));(try simp only[Xo]at hl7);refine az (bG [3,5,9,10,11,12,13,14,15,16,17,18] [] (α:=Nat) (λk=>[(9,T.i (k:Int)),(3,T.i (MM (l.take k)))]) (λk=>[]) (λk=>k<=l.length) (λk=>l.length - k) 0 (XC _) ?_ ?_)
 ·exact xh (ms:=[]) (by repeat (exact Out.refl _)) ⟨(by rfl),(by rfl),trivial⟩ trivial
 ·intro k hk;refine ae (xa 1 (V (cM E E) (rs (ao E (λdB=>?_) (λdB=>?_)))))
  ·(try simp only[nb,Xv]at dB);have bH:k<l.length:=by omega
   obtain⟨b,hx⟩:∃b,l[k]?=some b:=⟨_,Xp bH⟩;have hbl:=b.toNat_lt;have yO:=aV0 (l.take k) (by rw[Ya];omega);have hb5:IntKind.i64.wrap (b.toNat:Int)=b.toNat:=ak0 (by omega) (by omega);have Jp:MM (l.take (k+1))=MM (l.take k)*256+b.toNat:=by rw[iB hx,aK6]
   refine wO ?_;change dG _ _ _ _ _;refine ae (az (ae (xa 3 (V (aJ xD E E (by omega) (cm (by omega) hx)) (V (aj sz5 E E) (V aA (rn ?_)))))));change dG _ _ _ _ _;refine xa 6 (V aF (V (aW8 E E (aM0 yO.1 (by omega))) (V aF (V (ur I7 vU E hb5) (V (ba6 E E (aQ7 yO.1 (by omega))) (V aA (rn ?_)))))));change dG _ _ _ _ _;refine xa 2 ?_;refine V (lE E E xi) (V aF (rn ?_));refine⟨k+1,by omega,by omega,?_⟩;exact xh (ms:=[]) (by repeat (first|exact Out.head E E|(refine Out.put ?_ E))) ⟨(by rfl),(by (exact congrArg T.i Jp.symm)),trivial⟩ trivial
  ·(try simp only[nb,Xv]at dB);have O8:k=l.length:=by omega
   subst O8;rw[YL];refine bJ ?_;change dG _ _ _ _ _;refine ae (xa 2 (V aF (V aA (xc (ah ?_)))));refine⟨_,cS,?_⟩;rfl
theorem bd0(a b:List UInt8)(h:b <+: a):PC tG 98 [.v (.string (zn a)),.v (.string (zn b))] (.v (.bool (true))):=by
 have hle:(zn b).size<=(zn a).size:=by rw[tL,tL];exact h.length_le
 have hxt:(zn a).extract 0 (zn b).size=zn b:=by rw[Lc,tL,Z1,<-List.prefix_iff_eq_take.1 h]
 refine av (Wx func98 E) E ntmps98 results98 λw0=>ae (xa 1 (V aA (rs (xa 14 (V aF (V (vY xC E) (V aF (V (vY xC E) (V (Hj E E) (V aF (aE E E (λhG=>aF) (aE E E (λhG=>aF) (aE E E (λhG=>(vY xC E)) (aE E E (λhG=>(BG xC E E E (XC _) hle)) (aE E E (λhG=>aF) (aE E E (λhG=>(aM1 E E)) (aT E E E E E E ?_)))))))))))))))));refine V aA (xc (ah ?_));refine⟨_,cS,?_⟩;simp[retD,hxt,hle]
theorem bc9(a b:List UInt8)(h:b <+: a):PC tG 49 [.v (.string (zn a)),.v (.string (zn b))] (.v (.bool (true))):=by
 refine av (Wx func49 E) E ntmps49 results49 λw0=>ae (xa 1 (V aA (rs (xa 4 (V aF (V aF (V (ak bf7 (.cons E (.cons E .nil)) E (bd0 _ _ (by assumption))) (V aA (xc (ah ?_))))))))));refine⟨_,cS,?_⟩;rfl
theorem Gi(es:List UInt8)(n:Int)(k:Nat)(hk:k<=4)(hl:es.length<=1000000):TF tG 47 [.rs 0,.d (.v (.int .i64 (n))),.d (.v (.int .i64 ((k:Int))))] [.row 5 1 (es.map bC)] (.rs 0) [.row 5 1 ((es++Gm n k k).map bC)]:=by
 have h00:es++Gm n k 0=es:=ZL es;have Vh:(k:Int) - 1=(k:Int) - 1 - ((0:Nat):Int):=by omega
 refine Fo (Wx func47 E) E ntmps47 (rs:=[.tmp 6]) results47 (by simp) λw0=>ae (dG.le (aU3 23 21 0 E E E) ?_);refine xa 1 (V (aG (x:=.d (.sl _ _)) E) (rs (ae (xa 3 (V aF ?_)))));refine V (dk E E xi) (V aA (xc (az (bG [0,7,10,11,12,13,14,15,16,17,18,19,20,21] [21] (α:=Nat) (λj=>[(7,T.i ((k:Int) - 1 - (j:Int))),(0,.rs 21)]) (λj=>[(21,.row 5 1 ((es++Gm n k j).map bC))]) (λj=>j<=k) (λj=>k - j) 0 (XC _) ?_ ?_))))
 ·exact xh (ms:=[21]) (by repeat (exact Out.refl _)) ⟨(by (exact congrArg T.i Vh)),(by rfl),trivial⟩ ⟨(by (show aH.row _ _ _=aH.row _ _ _;rw[h00])),trivial⟩
 ·intro j hj;refine ae (ae (xa 2 (V aF (V (Hj E E) (xc (ao E (λbV=>?_) (λbV=>?_)))))))
  ·(try simp only[nb,Xv]at bV);have bH:j<k:=by omega
   have hbl:=wo n k j
   have hsh:min (8*((k:Int) - 1 - (j:Int))).toNat IntKind.i64.bits=8*(k - 1 - j):=by
    have:IntKind.i64.bits=64:=rfl;omega
   have Jt:(es++Gm n k j).map bC++[bC (byI (n.fdiv (2 ^ (8*(k - 1 - j)))))]=(es++Gm n k (j+1)).map bC:=by rw[aO9,<-Yr,Yw (l₂:=[_])];rfl
   have hk1:(k:Int) - 1 - (j:Int) - 1=(k:Int) - 1 - ((j+1:Nat):Int):=by omega
   refine wO ?_;change dG _ _ _ _ _;refine ae (az (xa 7 (V (aq (x:=.rs _) E) (V aF (V aF ?_)))));refine V (cZ E E xi) ?_;refine V (Uw E E ⟨by omega,congrArg (λq=>n.fdiv (2 ^ q)) hsh⟩) (V (ur vU I7 E (aU7 _)) (V (bu xD zr5 E E (by decide) (.cons E E' .nil) ⟨rfl,rfl,trivial⟩ E (by decide) E) (aw ?_)));refine eX xD zr5 by5 E (by decide) E E E E (by (try simp only[Xo,XI,XH,XL]);omega) (by (try simp only[Xo,XI,XH,XL]);omega) E E ?_;refine aN E (aG (x:=.rs _) E) (ai ?_);change dG _ _ _ _ _;refine xa 3 (V aF ?_);refine V (dk E E xi) (V aA (rn ?_));refine⟨j+1,by omega,by omega,?_⟩;exact xh (ms:=[21]) (by repeat (first|exact Out.head E E|(refine Out.put ?_ E)|(refine Out.site ?_ E)|(refine Out.dE ?_ E))) ⟨(by (exact congrArg T.i hk1)),(by rfl),trivial⟩ ⟨(by (show aH.row _ _ _=aH.row _ _ _;rw[<-Jt];rfl)),trivial⟩
  ·(try simp only[nb,Xv]at bV);have fE:j=k:=by omega
   subst fE;refine bJ ?_;change dG _ _ _ _ _;refine ae (dG.le (aU3 21 23 0 E E E) ?_);refine xa 2 (V (aq (x:=.rs _) E) (V (aG (x:=.rs _) E) (xc (ah ?_))));exact F3 (.inl E) [23] (.tmp E) (by repeat (first|exact trivial|refine⟨rfl,?_⟩)) E
def hd4(ne:Int):List UInt8:=[67,80,1,byI ne]
def smB(l:List Nat)(j:Nat):List UInt8:=(l.take j).flatMap λx=>Gm (vI x) 2 2
def I3(told ne:Int)(l:List Nat)(j:Nat):List UInt8:=hd4 ne++Gm told 4 4++smB l j
def Sx(told ne:Int)(l:List Nat):List UInt8:=I3 told ne l l.length++Gm (chS (I3 told ne l l.length)) 2 2
theorem Hd{l:List Nat}{j x:Nat}(h:l[j]?=some x):smB l (j+1)=smB l j++Gm (vI x) 2 2:=by
 unfold smB;rw[iB h,List.flatMap_append];simp
theorem Ju(l:List Nat):∀j,j<=l.length->(smB l j).length=2*j
 | 0,_=>rfl
 | j+1,h=>by
  rw[Hd (Xp (show j<l.length by omega)),XI,Ju l j (by omega),wo];omega
theorem aN4{told ne:Int}{l:List Nat}{j x:Nat}(h:l[j]?=some x):I3 told ne l j++Gm (vI x) 2 2=I3 told ne l (j+1):=by
 unfold I3;rw[Hd h,Yr]
theorem JN{told ne:Int}{l:List Nat}{j:Nat}(h:j<=l.length):(I3 told ne l j).length=8+2*j:=by
 unfold I3;rw[XI,XI,Ju l j h,wo];rfl
theorem Sf{told ne:Int}{l:List Nat}:(Sx told ne l).length=8+2*l.length+2:=by
 unfold Sx;rw[XI,JN (Xw _),wo]
def ffS(told ne:Int)(l:List Nat):List UInt8:=bif dP (-1000000000) told 1000000000 then Sx told ne l else []
theorem DW(told ne:Int)(l:List Nat)(h1:1<=ne)(h2:ne<=16)(hl:(l.length:Int)=ne*ne*64)(hb:ud l):PC tG 18 [.agg [.v (.int .i64 (told)),.v (.int .i64 (ne)),.sl 1 (l.map fC)]] (.da [.v (.string (zn (ffS told ne l))),.v (.int .i64 ((bif dP (-1000000000) told 1000000000 then 0 else 2)))]):=by
 have hm:=lX (a:=ne) (b:=ne) (A:=16) (B:=16) (by omega) (by omega) (by omega) (by omega);have hl9:l.length<=20000:=by omega
 refine aY (Wx func18 E) E ntmps18 results18 λw0 bQ cH iK=>ae (xa 0 (aw (D6 E H' E E E ?_)));refine aN E aA (aN E aA (ai (xq (ae (xa 4 (V (aC Hi E) (V (aQ mF E E E) (V (ak an0 (.cons E (.cons E .nil)) E (BA _ _ (by omega) (by omega))) (V (bX E) (xc (ao E (λbW=>?_) (λbW=>?_))))))))))))
 ·(try simp only[nb,Xv]at bW);have hz:dP (-1000000000) told 1000000000=false:=by simpa using bW
  refine ae (xa 2 (V aA (V aA (xc (ah ?_)))));refine⟨_,gz,?_⟩;unfold ffS;rw[hz];rfl
 ·(try simp only[nb,Xv]at bW);have hz:dP (-1000000000) told 1000000000=true:=by simpa using bW
  refine wO ?_;change dG _ _ _ _ _;refine ae (ae (xa 4 (V (aC Az E) (V (aX (ds:=[_,_]) BD E E E E) (V (ak bg4 (.cons E .nil) E (Qq _ _ (by assumption) (by assumption) (by assumption) (by assumption))) (V aA (rs (xa 2 (V aF (V (bS E E) (xc (ao E (λeJ=>?_) (λeJ=>?_)))))))))))))
  ·simp at eJ
  ·(try simp only[nb,Xv]at eJ);refine wO ?_;change dG _ _ _ _ _;refine ae (xa 0 (aw (aK2 (k:=1) xD I7 zr5 E E E E E E E E E (by intro h;cases h) ?_)))
   refine aN E (aC Az E) (aN E (aC fB E) (aN E (aQ mF E E E) (aN E (ur vU I7 E (aU7 ne)) (aN E (bu xD zr5 E E (by decide) (.cons E E' (.cons E E' .nil)) ⟨rfl,rfl,rfl,rfl,trivial⟩ E (by decide) E) (TR xD zr5 by5 E (by decide) E E E E (by simp) (by simp) (by simp) (by simp) E E ?_)))));refine aN E (aG (x:=.rs _) E) (ai (xq (xa 3 (V (aq (x:=.rs _) E) (V (aC Hi E) (V (aQ mF E E E) (aw ?_)))))));refine Gu [25] [25] aY6 (Gi (hd4 ne) told 4 (by decide) (by unfold hd4;simp)) (.cons E (.cons E (.cons E .nil))) E E E (by repeat (first|exact trivial|refine⟨rfl,?_⟩)) (by repeat (exact trivial)) E ?_;refine aN E (aG (x:=.rs _) E) (ai (xq (ae (xa 5 (V (aC Az E) (V (aC fU E) (V (aQ oF E E E) (V (cd qD E (by exact aV _ _)) (V aF (xc (bm (t:=32) E (λVa=>?_))))))))))));(try simp only[Xo]at Va);refine az (bG [5,7,34,35,36,37,38,39,40,41,42,25,29] [25] (α:=Nat) (λj=>[(34,T.i (j:Int)),(5,.rs 25)]) (λj=>[(25,.row 5 1 ((I3 told ne l j).map bC))]) (λj=>j<=l.length) (λj=>l.length - j) 0 (XC _) ?_ ?_)
   ·exact xh (ms:=[25]) (by repeat (exact Out.refl _)) ⟨(by rfl),(by rfl),trivial⟩ ⟨(by rfl),trivial⟩
   ·intro j hj;refine ae (xa 1 (V (cM E E) (rs (ao E (λCZ=>?_) (λCZ=>?_)))))
    ·(try simp only[nb,Xv]at CZ);have bH:j<l.length:=by omega
     obtain⟨x,hx⟩:∃x,l[j]?=some x:=⟨_,Xp bH⟩;have hw:=hb x (XA hx);have QV:=JN (told:=told) (ne:=ne) (show j<=l.length by omega);have Jp:=aN4 (told:=told) (ne:=ne) hx;refine wO ?_;change dG _ _ _ _ _;refine ae (az (ae (xa 3 (V (aJ xf E E (by omega) (cm (by omega) hx)) (V (aj xV E E) (V aA (rn ?_)))))));change dG _ _ _ _ _;refine xa 3 (V (aq (x:=.rs _) E) (V aF (V (iH ik vU E hw.int) (aw ?_))));refine Gu [25] [25] aY6 (Gi (I3 told ne l j) (vI x) 2 (by decide) (by omega)) (.cons E (.cons E (.cons E .nil))) E E E (by repeat (first|exact trivial|refine⟨rfl,?_⟩)) (by repeat (exact trivial)) E ?_;refine aN E (aG (x:=.rs _) E) (ai ?_);change dG _ _ _ _ _;refine xa 2 ?_;refine V (lE E E xi) (V aF (rn ?_));refine⟨j+1,by omega,by omega,?_⟩;exact xh (ms:=[25]) (by repeat (first|exact Out.head E E|(refine Out.put ?_ E)|(refine Out.called ?_ E E))) ⟨(by rfl),(by rfl),trivial⟩ ⟨(by (exact congrArg (λq=>aH.row 5 1 (List.map bC q)) Jp)),trivial⟩
    ·(try simp only[nb,Xv]at CZ);have mB:j=l.length:=by omega
     subst mB;have QV:=JN (told:=told) (ne:=ne) (Xw l.length);refine bJ ?_;change dG _ _ _ _ _;refine ae (xa 4 (V (aq (x:=.rs _) E) (V (aq (x:=.rs _) E) (V (aw1 (l:=I3 told ne l l.length) xD I7 xC E E (by intro h;rw[h,XL]at QV;omega)) (V (ak bd7 (.cons E .nil) E (aF2 (I3 told ne l l.length) (by omega))) (aw ?_))))));refine Gu [25] [25] aY6 (Gi (I3 told ne l l.length) (chS (I3 told ne l l.length)) 2 (by decide) (by omega)) (.cons E (.cons E (.cons E .nil))) E E E (by repeat (first|exact trivial|refine⟨rfl,?_⟩)) (by repeat (exact trivial)) E ?_;refine aN E (aw1 (l:=Sx told ne l) xD I7 xC E E (by intro h;have q:=Sf (told:=told) (ne:=ne) (l:=l);rw[h,XL]at q;omega)) (aN E aA (aN E aA (ai ?_)));change dG _ _ _ _ _;refine ah ?_;refine⟨_,gz,?_⟩;unfold ffS;rw[hz];rfl
def Oq(l:List UInt8)(i:Nat):List UInt8:=(l.take (2*i+2)).drop (2*i)
def IM(l:List UInt8)(i:Nat):List (List UInt8):=(List.range i).map (Oq l)
def bd6(b:List UInt8):List D:=[.sl 1 (b.map bC)]
theorem IF(l:List UInt8)(i:Nat):IM l (i+1)=IM l i++[Oq l i]:=by unfold IM;rw[ZA,Yw];rfl
theorem ad8{l:List UInt8}{i:Nat}:∀{m:Nat},i<=m->IM l i <+: IM l m
 | 0, h => by
   have:i=0:=by omega
   subst this;exact Zn
 | m+1,h=>by
  by_cases e:i=m+1
  ·subst e;exact Zn
  ·rw[IF];exact(ad8 (show i<=m by omega)).trans (Y7 _ _)
theorem aO5(l:List UInt8)(i:Nat):((l.map bC).take (2*i+2)).drop (2*i)=(Oq l i).map bC:=by unfold Oq;rw[List.map_drop,List.map_take]
theorem aS1{l:List UInt8}{m k:Nat}{y:List UInt8}(h:(IM l m)[k]?=some y):k<m/\y=Oq l k:=by
 unfold IM at h;rw[XF]at h;by_cases hk:k<m
 ·rw[Y4 hk]at h;cases h;exact⟨hk,rfl⟩
 ·rw[List.getElem?_eq_none (by rw[Yx];omega)]at h;cases h
theorem aW3{l:List Nat}{i x:Nat}(h:l[i]?=some x):Oq (smB l l.length) i=Gm (vI x) 2 2:=by
 have hi:=(Xt.1 h).1
 have e:∀m,i<m->m<=l.length->∃r,smB l m=smB l i++Gm (vI x) 2 2++r:=by
  intro m
  induction m with
  | zero=>intro q;omega
  | succ m ih=>
   intro q1 q2;by_cases q:i=m
   ·subst q;exact⟨[],by rw[Hd h,ZL]⟩
   ·obtain⟨r,Y⟩:=ih (by omega) (by omega)
    rw[Hd (Xp (show m<l.length by omega)),Y];exact⟨_,Yr _ _ _⟩
 obtain⟨r,Y⟩:=e l.length hi (Xw _);have h1:=Ju l i (by omega);have h2:=wo (vI x) 2 2;unfold Oq;rw[Y,List.take_append_of_le_length (by rw[XI];omega),Yo (by rw[XI];omega),List.drop_append_of_le_length (by omega),Yu (by omega),Yt]
def nrB(x:Nat):Nat:=FloatKind.f32.nearest (vI x)
def nrL(l:List Nat)(k:Nat):List (List D):=((l.take k).map nrB).map fC
theorem aN0{l:List Nat}{k x:Nat}(h:l[k]?=some x):nrL l (k+1)=nrL l k++[fC (nrB x)]:=by unfold nrL;rw[iB h,Yw,Yw];rfl
theorem aQ9{l:List Nat}{k:Nat}(h:k<=l.length):(nrL l k).length=k:=by unfold nrL;rw[Xo,Xo,Ya];omega
theorem aN1(l:List Nat)(k:Nat):∀x∈nrL l k,∀d∈x,D.Flat d:=by
 intro x hx d J;unfold nrL at hx;obtain⟨b,_,rfl⟩:=X6.1 hx;simp only[fC,YS]at J;subst J;exact .v _
theorem aO2(l:List UInt8)(m:Nat)(h1:l.length=2*m)(h2:m<=100000):PI tG 99 [] [.pt [.sl 1 (l.map bC)] 0,.pt [.v (.int .i64 (2))] 0] (bd6) (IM l m) true:=by
 refine sC (Wx func99 E) E ntmps99 E E λV' c l0 hJ hy AD qL=>?_;refine cG ?_;apply dC hJ
 ·intro c1 bQ cH;refine xa 1 (V aA (rn ?_));exact⟨rfl,rfl⟩
 change iw _ _ _ _ _ _ _;refine fo ?_;refine lD [4,5,6,7,8,9,10,11,12,13,14,15,16,17,18,19,20,21,22,23,24,25,26,27,28,29,30] [] (β:=Nat) (λi=>[(4,T.i ((2*i:Nat):Int))]) (λi=>[]) (λi=>(true,IM l i)) (λi=>i<=m) (λi=>m - i) 0 (XC _) E (λc1=>?_) ?_
 ·exact xh (ms:=[]) (by repeat (exact Out.refl _)) ⟨(by rfl),trivial⟩ trivial
 ·intro i hi;refine cG ?_;refine cG ?_;apply dC hJ
  ·intro c1 bQ cH;refine xa 4 (V aF (V (aj at3 E E) (V (cd RL E (by exact aV _ _)) (V (cM E E) (rn ?_)))));exact⟨rfl,rfl⟩
  change iw _ _ _ _ _ _ _;refine Ap (t:=7) E (λhl7=>?_);(try simp only[Xo]at hl7);refine gR E (λbW=>?_) (λbW=>?_)
  ·(try simp only[nb,Xv]at bW);have bH:i<m:=by omega
   have Au:IM l i++[Oq l i] <+: IM l m:=by rw[<-IF];exact ad8 bH
   have hmn:min (2:Int) ((List.drop (2*i) (List.take (l.map bC).length l)).length:Int)=2:=by rw[Xo,YL,ZW];omega
   have QV:((2*i:Nat):Int)+2=((2*i+2:Nat):Int):=by omega
   refine gQ ?_;change iw _ _ _ _ _ _ _;refine cG ?_;refine fo ?_;refine cG ?_;apply dC hJ
   ·intro c1 bQ cH;refine xa 7 (V (aj mF E E) (V (aj at3 E E) (V aF (V (Qd xD E E E (by rw[Xo];omega) (Xw _) (by exact Jh _ _ _ _)) (V (cd RL E (by exact aV _ _)) (V (tx E E) (V aA (rn ?_))))))));exact⟨rfl,rfl⟩
   change iw _ _ _ _ _ _ _;refine Ap (t:=16) E (λAy=>?_);(try simp only[Xo]at Ay);refine cG ?_;rw[hmn];refine vG ?_;refine en hJ E (λc1 _ _ _ h=>by exact aN E ((aq (x:=.d (.fn _ _)) E)) h) ?_;refine en hJ E (λc1 _ _ _ h=>by exact aN E ((aj at3 E E)) h) ?_;refine en hJ E (λc1 _ _ _ h=>by exact aN E (aF) h) ?_;refine en hJ E (λc1 _ _ _ h=>by exact aN E (aF) h) ?_;refine en hJ E (λc1 _ _ _ h=>by exact aN E (aF) h) ?_;refine en hJ E (λc1 _ _ _ h=>by exact aN E ((lE E E xi)) h) ?_;refine en hJ E (λc1 _ _ _ h=>by exact aN E (aF) h) ?_;refine en hJ E (λc1 _ _ _ h=>by exact aN E (aF) h) ?_;refine en hJ E (λc1 _ _ _ h=>by exact aN E ((lE E E xi)) h) ?_;rw[QV];refine en hJ E (λc1 _ _ _ h=>by exact aN E ((IZ (lo:=2*i) (hi:=2*i+2) (es':=(Oq l i).map bC) xD E E E E (by omega) (by rw[Xo];omega) (aO5 l i))) h) ?_;refine pJ (x:=(Oq l i)) hy AD E (.cons E .nil) Au E (λyb=>?_);refine en hJ E (λc1 _ _ _ h=>by exact aN E ((bX E)) h) ?_;refine qF ?_;change iw _ _ _ _ _ _ _;refine gR E (λeJ=>?_) (λeJ=>?_)
   ·(try simp only[nb,Xv]at eJ);have HO:yb=false:=by cases yb<;>first|rfl|(exfalso;simp_all;done)
    refine Ao ?_;exact⟨.inl E,λh=>by rw[HO]at h;cases h⟩
   ·(try simp only[nb,Xv]at eJ);have HO:yb=true:=by cases yb<;>first|rfl|(exfalso;simp_all;done)
    refine gQ ?_;change iw _ _ _ _ _ _ _;apply dC hJ
    ·intro c1 bQ cH;refine xa 4 (V aF (V (aj mF E E) ?_));refine V (lE E E xi) (V aA (rn ?_));exact⟨rfl,rfl⟩
    refine⟨i+1,by omega,by omega,by rw[HO,IF],λc1=>?_⟩;exact xh (ms:=[]) (by repeat (first|exact Out.head E E|(refine Out.put ?_ E))) ⟨(by rfl),trivial⟩ trivial
  ·(try simp only[nb,Xv]at bW);have qK:i=m:=by omega
   refine m6 ?_;exact⟨.inr E,λ_=>by rw[qK]⟩
theorem aO1(l:List UInt8):PC tG 53 [.sl 1 (l.map bC),.v (.int .i64 (2))] (.fn (.func 99) [.pt [.sl 1 (l.map bC)] 0,.pt [.v (.int .i64 (2))] 0]):=by
 refine av (Wx func53 E) E ntmps53 results53 λw0=>ae (xa 3 (V (aP E E') (V (aP E E') (V (aG (x:=.d (.v .nilFunc)) E) (rs (ae (xa 2 (V (aj mF E E) (V (cM E E) (xc (ao E (λbW=>?_) (λbW=>?_))))))))))))
 ·cases bW
 ·(try simp only[nb,Xv]at bW);refine wO ?_;change dG _ _ _ _ _;refine ae (xa 2 (V (jw (.cons E (.cons E .nil))) (V (aG (x:=.d (.fn _ _)) E) (xc (ah ?_)))));refine⟨_,cS,?_⟩;rfl
theorem Rs(told ne:Int)(l:List Nat)(ht1 : -1000000000<=told)(ht2:told<=1000000000)(h1:1<=ne)(h2:ne<=16)(hl:(l.length:Int)=ne*ne*64)(hb:ud l):PC tG 20 [.v (.string (zn (Sx told ne l)))] (.da [.agg [.v (.int .i64 (told)),.v (.int .i64 (ne)),.sl 1 ((l.map nrB).map fC)],.v (.int .i64 (0))]):=by
 have hm:=lX (a:=ne) (b:=ne) (A:=16) (B:=16) (by omega) (by omega) (by omega) (by omega);have hl9:l.length<=20000:=by omega
 have eQ:((zn (Sx told ne l)).size:Int)=8+2*l.length+2:=by rw[tL,Sf];omega
 have bg9:(zn (Sx told ne l)).size=8+2*l.length+2:=by rw[tL,Sf]
 have QV:=JN (told:=told) (ne:=ne) (Xw l.length);have hpx:[67,80] <+: Sx told ne l:=⟨_,rfl⟩;have hT3:(Sx told ne l)[3]?=some (byI ne):=rfl;have S3:(Sx told ne l)[2]?=some 1:=rfl;have eW:IntKind.i64.wrap ((byI ne).toNat:Int)=ne:=by rw[xE,show ne % 256=ne by omega];exact ak0 (by omega) (by omega)
 have hm2:2*ne*ne=2*(ne*ne):=Int.mul_assoc _ _ _;have hs2:((zn (Sx told ne l)).size:Int) - 2=((8+2*l.length:Nat):Int):=by omega
 have hx1:(zn (Sx told ne l)).extract 0 (8+2*l.length)=zn (I3 told ne l l.length):=by
  rw[Lc,Z1];unfold Sx;rw[List.take_append_of_le_length (by omega),Yo (by omega)]
 have hx2:(zn (Sx told ne l)).extract (8+2*l.length) (zn (Sx told ne l)).size=zn (Gm (chS (I3 told ne l l.length)) 2 2):=by
  rw[Lc,tL,YL];unfold Sx;rw[List.drop_append_of_le_length (by omega),Yu (by omega),Yt]
 have hx3:(zn (I3 told ne l l.length)).extract 4 8=zn (Gm told 4 4):=by
  rw[Lc];have e4:=wo told 4 4;have e0:(hd4 ne).length=4:=rfl;unfold I3;rw[List.take_append_of_le_length (by rw[XI];omega),Yo (by rw[XI];omega),List.drop_append_of_le_length (by omega),Yu (by omega),Yt]
 have hx4:(zn (I3 told ne l l.length)).extract 8 (zn (I3 told ne l l.length)).size=zn (smB l l.length):=by
  rw[Lc,tL,YL];have e4:=wo told 4 4;have e0:(hd4 ne).length=4:=rfl;unfold I3;rw[List.drop_append_of_le_length (by rw[XI];omega),Yu (by rw[XI];omega),Yt]
 have yO:=aO4 (I3 told ne l l.length);have hwc:MM (Gm (chS (I3 told ne l l.length)) 2 2)=chS (I3 told ne l l.length):=by rw[aS7];omega
 have hw4:IntKind.i32.wrap (MM (Gm told 4 4))=told:=by rw[aZ8];exact be6 ht1 ht2
 have hsl:=Ju l l.length (Xw _);have hb4:=wo told 4 4;have Rc:=wo (chS (I3 told ne l l.length)) 2 2;refine aY (Wx func20 E) E ntmps20 results20 λw0 bQ cH iK=>ae (xa 0 (aw (bL aj9 E E E (bL EA E E E (ai (xq (ae (xa 8 (V aF (V (vY xC E) (V (cM E E) (V aF (aE E E (λhG=>aF) (aE E E (λhG=>(ak bg3 (.cons E (.cons E .nil)) E (bc9 (Sx told ne l) [67,80] hpx))) (aE E E (λhG=>(bX E)) (aT E E E E E E ?_))))))))))))))));refine xc (ao E (λbW=>?_) (λbW=>?_))
 ·simp at bW;omega
 ·(try simp only[nb,Xv]at bW);refine wO ?_;change dG _ _ _ _ _;refine ae (xa 4 (V aF (V (BH xC E E (by omega) (al8 (i:=3) hT3)) (V (ur I7 vU E eW) (V aA (rs (az (ae (xa 4 (V aF (V (BH xC E E (by omega) (al8 (i:=2) S3)) (V (bS E E) (V aA (xc (ao E (λeJ=>?_) (λeJ=>?_))))))))))))))))
  ·simp at eJ
  ·(try simp only[nb,Xv]at eJ);refine ae (xa 4 (V aF (V (ak NK (.cons E (.cons E (.cons E .nil))) E (ld _ _ _)) (V (bX E) (V aA (xc (ao E (λwx=>?_) (λwx=>?_))))))))
   ·simp[dP]at wx;omega
   ·(try simp only[nb,Xv]at wx);refine ae (xa 6 (V aF (V (vY xC E) (V aF (V (ak bg2 (.cons E .nil) E (ac6 _ (by omega))) (V (bS E E) (V aA (xc (ao E (λoM=>?_) (λoM=>?_))))))))))
    ·rw[XW]at oM;omega
    ·(try simp only[nb,Xv]at oM);refine wO ?_;change dG _ _ _ _ _;refine ae (xa 12 (V aF (V aF (V (vY xC E) ?_))));refine V (dk E E xi) ?_;rw[hs2];refine V (BG xC E E E (by omega) (by omega)) (V aF (V aF (V (vY xC E) ?_)));refine V (dk E E xi) ?_;rw[hs2];refine V (BG xC E E E (by omega) (Xw _)) (V aA (V aA (rn ?_)));change dG _ _ _ _ _;rw[hx1,hx2];refine ae (ae (xa 5 (V aF (V (ak bd7 (.cons E .nil) E (aF2 (I3 told ne l l.length) (by omega))) (V aF (V (ak aY5 (.cons E .nil) E (P0 (Gm (chS (I3 told ne l l.length)) 2 2) (by omega))) (V (bS E E) (xc (ao E (λxy=>?_) (λxy=>?_))))))))))
     ·rw[XW]at xy;exact absurd hwc.symm xy
     ·(try simp only[nb,Xv]at xy);refine wO ?_;change dG _ _ _ _ _;refine ae (xa 8 (V aF (V (BG (lo:=4) (hi:=8) xC E E E (by decide) (by rw[tL];omega)) ?_)));rw[hx3];refine V (ak aY5 (.cons E .nil) E (P0 (Gm told 4 4) (by omega))) (V (ur vU aN3 E hw4) (V (ur aN3 vU E (ak0 (by omega) (by omega))) (V aF ?_)));refine V (bz (cs:=[_,_]) ae1 Pm E (.cons E E' .nil) ⟨⟨rfl,by decide⟩,trivial⟩ E) ?_;refine V (bz (cs:=[_,_,_]) aQ5 aj9 E (.cons E E' (.cons E H' .nil)) ⟨⟨rfl,by decide⟩,⟨rfl,by decide⟩,trivial⟩ E) (aw (bL aj9 E E E (ay aI5 E E H' E E (by decide) E (ai (xq (ae (xa 4 (V (aC Hi E) (V (aQ mF E E E) (V (ak an0 (.cons E (.cons E .nil)) E (BA _ _ (by omega) (by omega))) (V (bX E) (xc (ao E (λaY3=>?_) (λaY3=>?_))))))))))))))
      ·simp[dP]at aY3;omega
      ·(try simp only[nb,Xv]at aY3);refine wO ?_;change dG _ _ _ _ _;refine ae (ae (xa 4 (V aF (V (BG (lo:=8) xC E E E (by rw[tL];omega) (Xw _)) ?_))));rw[hx4];refine V (aw2 xC xD I7 (by rw[tL];omega) E) ?_;rw[ad7];refine V (ak bg1 (.cons E (.cons E .nil)) E (aO1 (smB l l.length))) (xc (az (dG.le (QH 7 88 2 120 1 E E E) ?_)));refine nE (α:=List UInt8) (β:=Nat) (n:=92) (enc:=bd6) (items:=IM (smB l l.length) l.length) 1000 [(2,.ref 2 0),(3,.ref 3 0),(7,.ref 7 0),(71,.d (.fn (.func 99) [.pt [.sl 1 ((smB l l.length).map bC)] 0,.pt [.v (.int .i64 (2))] 0]))] (λx=>[(2,.box [.v (.int .i64 (0)),.v (.int .i64 (0)),.v (.slice none 0 0)]),(3,.box [.v (.int .i64 (0))]),(7,.cn [.d (.v (.int .i64 (told))),.d (.v (.int .i64 (ne))),.rs 88]),(88,.row 120 1 (nrL l x))]) (λk x=>x=k) (λe x=>False) 0 cH ?_ (.inr ⟨rfl,rfl⟩) bf6 (aO2 (smB l l.length) l.length hsl (by omega)) E (λ_=>rfl) E (λx=>qV (gS (og (by repeat first|exact trivial|refine⟨.v _,?_⟩)) (gS (og (by repeat first|exact trivial|refine⟨.v _,?_⟩)) (gS (C7 (by repeat (first|exact HY|refine C6 (by first|exact D.Flat.v _|trivial) ?_))) (gS (aN1 _ _) uE))))) (λ_=>rfl) E (λh=>by cases h) ?_ ?_ ?_
       ·exact Ld (λk=>k) _ _ E ⟨(by first|rfl),(by first|rfl),(by first|rfl),(by first|rfl),trivial⟩ ⟨(by first|rfl),(by first|rfl),(by first|rfl),(by first|rfl),trivial⟩ E (λk b h=>by rw[iK k]at h;cases h)
       ·intro w1 tX k x y hI hy;subst hI;obtain⟨bH,rfl⟩:=aS1 hy;obtain⟨v,hv⟩:∃v,l[x]?=some v:=⟨_,Xp bH⟩;rw[aW3 hv];have hw:=hb v (XA hv);have ML:=hw.lo;have hv3:=hw.hi;have hv2:=wo (vI v) 2 2;have hwv:IntKind.i16.wrap (MM (Gm (vI v) 2 2))=vI v:=by rw[aS7];exact be7 ML hv3
        have hsl:=aQ9 (show x<=l.length by omega);have U3:=aN0 hv;refine xa 1 (V (aG (x:=.d (.sl _ _)) E) (rn ?_));refine⟨rfl,λw2 tW=>?_⟩;refine az (ae (xa 6 (V (aq (x:=.d (.sl _ _)) E) (V (aW7 (l:=Gm (vI v) 2 2) xD I7 xC E (by intro h;rw[h,XL]at hv2;omega)) (V (ak aY5 (.cons E .nil) E (P0 (Gm (vI v) 2 2) (by omega))) (V (ur vU am4 E hwv) (V (ur am4 vU E (ak0 (by omega) (by omega))) (V aA (rs (ae (xa 3 (V aF (V (ak an0 (.cons E (.cons E .nil)) E (BA _ _ (by omega) (by omega))) (V (bX E) (xc (ao E (λaY2=>?_) (λaY2=>?_)))))))))))))))))
        ·simp[dP]at aY2;omega
        ·(try simp only[nb,Xv]at aY2);refine wO ?_;change dG _ _ _ _ _;refine xa 6 (V (aC Az E) (V (aC fU E) (V (fO (x:=.rs _) oF E E E) (V aF (V (lW vU ik E) (V (bu xf Kj E E (by decide) (.cons E E' .nil) ⟨rfl,rfl,trivial⟩ E (by decide) E) (aw ?_)))))));refine eX xf Kj Ty E (by decide) E E E E (by (try simp only[Xo,XI,XH,XL]);omega) (by (try simp only[Xo,XI,XH,XL]);omega) E E ?_;refine aN E (aC Az E) (aN E (aC fU E) (tK (z:=.rs _) oF E E E E (by exact Nat.le_of_ble_eq_true E) E (ai (.inl ⟨rfl,x+1,rfl,?_⟩))));exact jA [] _ tW E ⟨(by rfl),(by rfl),(by rfl),(by (show aH.row _ _ _=aH.row _ _ _;rw[U3];rfl)),trivial⟩ E
       ·intro x hI;have W4:x=l.length:=by rw[hI];unfold IM;rw[Xo,Yx]
        subst W4;have hnl:nrL l l.length=(l.map nrB).map fC:=by unfold nrL;rw[YL]
        change dG _ _ _ _ _;refine ae (dG.le (tB 7 88 2 E E E E bQ) ?_);refine dG.le (HM 7 [.v (.int .i64 (told)),.v (.int .i64 (ne)),.sl 1 (nrL l l.length)] E E (by intro j d h;match j,h with|0,h=>cases h;rfl|1,h=>cases h;rfl|2,h=>cases h;rfl)) ?_;refine xa 1 (V (aX (ds:=[_,_,_]) aI5 E E E E) (aw (ay aI5 E E H' E E (by decide) E (ay TY E E E' E E (by decide) E (ai ?_)))));change dG _ _ _ _ _;refine ah ?_;refine⟨_,(.cons (.dn E E aI5 E) (.cons (.cell1 E E TY) .nil)),?_⟩;rw[<-hnl];rfl
       ·exact λe x h=>h.elim
end Go.Proofs.YthcfokccjljnpaaGreat.Am.M.R
