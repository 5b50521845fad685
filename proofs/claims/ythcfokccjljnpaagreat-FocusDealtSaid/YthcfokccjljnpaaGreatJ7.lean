/- Contracts over the abstract machine, and the crowd of workers. Conditions: none. -/
import Derived.Test.YthcfokccjljnpaaGreatJ6
import Derived.Test.YthcfokccjljnpaaGreatJ4
set_option linter.unusedVariables false
set_option linter.unusedSimpArgs false
set_option linter.unusedSectionVars false
set_option maxRecDepth 100000
namespace Go.Proofs.YthcfokccjljnpaaGreat.Am.M
section
open Go
theorem Mi:mpB qP 153 4=true:=by kernel_rfl
def aH(n:Int):List Int->List Int->Int × List Int
 | ks,[]=>(0,ks)
 | ks,x::l=>if ¬dP 0 x (n - 1)=true then (6,ks) else if x∈ks then (24,ks) else aH n (ks++[x]) l
theorem Nt{n:Int}{ks l:List Int}{k:Nat}{x:Int}(h:l[k]?=some x):aH n ks (l.drop k)=if ¬dP 0 x (n - 1)=true then (6,ks) else if x∈ks then (24,ks) else aH n (ks++[x]) (l.drop (k+1)):=by
 obtain⟨bH,rfl⟩:=Xt.1 h;rw[Yf bH];rfl
def lC(l:List Int):List D:=[.sl 1 (l.map iC)]
def My(n:Int):List Int->Int->List (List Int)->Int × (List Int × Int)
 | ks,b,[]=>(0,(ks,b))
 | ks,b,l::dl=>if (aH n ks l).1≠0 then ((aH n ks l).1,(ks,b)) else My n (aH n ks l).2 (if 0<l.length then b+1 else b) dl
theorem N2{n:Int}{ks:List Int}{b:Int}{dl:List (List Int)}{k:Nat}{l:List Int}(h:dl[k]?=some l):My n ks b (dl.drop k)=if (aH n ks l).1≠0 then ((aH n ks l).1,(ks,b)) else My n (aH n ks l).2 (if 0<l.length then b+1 else b) (dl.drop (k+1)):=by
 obtain⟨bH,rfl⟩:=Xt.1 h;rw[Yf bH];rfl
def dealR(n:Int)(dl:List (List Int)):Int × Int:=
 if ¬dP 1 n 16=true then (0,2) else if 16<dl.length then (0,8)
 else if (My n [] 0 dl).1≠0 then (0,(My n [] 0 dl).1) else if ((My n [] 0 dl).2.1.length:Int)<n then (0,14) else ((My n [] 0 dl).2.2,0)
theorem AO(n:Int)(l ks:List Int)(h1 : -1000000≤n)(h2:n≤1000000):TF qP 69 [.d (.v (.int .i64 (n))),.d (.sl 1 (l.map iC)),.mp 0] [.mp (uA ks) ks.length] (.d (.v (.int .i64 ((aH n ks l).1)))) [.mp (uA (aH n ks l).2) (aH n ks l).2.length]:=by
 refine Fo (qA Tryz.func69 rfl) rfl Tryz.ntmps69 (rs:=[.tmp 6]) Tryz.results69 (by simp) λw0=>?_;refine ae (xa 1 (aa aA (rs (ae (xa 3 (aa (aq (x:=.d (.sl _ _)) rfl) (aa (cd iX rfl (by exact aV _ _)) (aa aF (xc (bm (t:=9) rfl (λhl9=>?_)))))))))))
 (try simp only[Xo]at hl9)
 refine az ?_;refine bG [6,8,11,12,13,14,15,16,17,18,19,20,21,22,23,24,25,26,27] [28] (α:=Nat) (λk=>[(11,T.i (k:Int))]) (λk=>[(28,.mp (uA (ks++l.take k)) (ks++l.take k).length)]) (λk=>k≤l.length∧aH n ks l=aH n (ks++l.take k) (l.drop k)) (λk=>l.length - k) 0 ⟨XC _,by simp⟩ ?_ ?_
 ·exact xh (ms:=[28]) (by repeat (exact Out.refl _)) ⟨(by rfl),trivial⟩ ⟨(by ((show Site.mp _ _=Site.mp _ _;(simp;done)))),trivial⟩
 ·
  intro k ⟨hk,hh⟩;refine ae (xa 1 (aa (cM rfl rfl) (rs (ao rfl (λbV=>?_) (λbV=>?_)))))
  ·
   (try simp only[nb,Xv]at bV)
   have bH:k<l.length:=by omega
   obtain⟨x,hx⟩:∃x,l[k]?=some x:=⟨_,Xp bH⟩
   rw[Nt hx]at hh;have Jp:ks++l.take (k+1)=ks++l.take k++[x]:=by rw[Yh bH,(Xt.1 hx).2,Yr]
   refine wO ?_;change Awp _ _ _ _ _;refine ae (az (ae (xa 3 (aa (aJ gK rfl rfl (by omega) (cm (by omega) hx)) (aa (aj bo rfl rfl) (aa aA (rs (az (ae (xa 6 (aa aF (aa aF ?_))))))))))));refine aa (dk rfl rfl xi) (aa (ak pO (.cons rfl (.cons rfl (.cons rfl .nil))) rfl (dA _ _ _)) (aa (bX rfl) (aa aA (xc (ao rfl (λeJ=>?_) (λeJ=>?_))))))
   ·
    (try simp only[nb,Xv]at eJ)
    have hz:aH n ks l=(6,ks++l.take k):=by rw[hh,Xu (by rw[eJ];decide)]
    refine ae (xa 1 (aa aA (xc (ah ?_))));rw[hz];exact F3 (.inl rfl) [28] (.tmp rfl) (by repeat (first|exact trivial|refine⟨(by rfl),?_⟩)) rfl
   ·
    (try simp only[nb,Xv]at eJ)
    rw[Xr (λq=>q eJ)]at hh;refine ae (xa 4 (aa (aq (x:=.own _ _ _ _) rfl) (aa aF (aa (I1 Mi zr4 rfl rfl rfl) (aa aA (xc (ao rfl (λl6=>?_) (λl6=>?_))))))))
    ·
     (try simp only[nb,Xv]at l6)
     have hz:aH n ks l=(24,ks++l.take k):=by rw[hh,Xu l6]
     refine ae (xa 1 (aa aA (xc (ah ?_))));rw[hz];exact F3 (.inl rfl) [28] (.tmp rfl) (by repeat (first|exact trivial|refine⟨(by rfl),?_⟩)) rfl
    ·
     (try simp only[nb,Xv]at l6)
     rw[Xr l6]at hh;refine wO ?_;change Awp _ _ _ _ _;refine xa 2 (aa (aq (x:=.own _ _ _ _) rfl) (aa aF (aw (wT Mi rfl rfl rfl rfl l6 ?_))));refine ai ?_;change Awp _ _ _ _ _;refine xa 2 ?_;refine aa (bC rfl rfl xi) (aa aF (rn ?_));refine⟨k+1,⟨by omega,by rw[hh,Jp]⟩,by omega,?_⟩;exact xh (ms:=[28]) (by repeat (first|exact Out.head rfl rfl|(refine Out.put ?_ rfl)|(refine Out.site ?_ rfl))) ⟨(by rfl),trivial⟩ ⟨(by ((show Site.mp _ _=Site.mp _ _;(rw[Jp];done)))),trivial⟩
  ·
   (try simp only[nb,Xv]at bV)
   have vP:k=l.length:=by omega
   have hz:aH n ks l=(0,ks++l.take k):=by rw[hh,vP,ZI];rfl
   refine bJ ?_;change Awp _ _ _ _ _;refine ae (xa 1 (aa aA (xc (ah ?_))));rw[hz];exact F3 (.inl rfl) [28] (.tmp rfl) (by repeat (first|exact trivial|refine⟨(by rfl),?_⟩)) rfl
theorem nD(n:Int)(dl:List (List Int)):PC qP 28 [.v (.int .i64 (n)),.sl 1 (dl.map lC)] (.da [.v (.int .i64 ((dealR n dl).1)),.v (.int .i64 ((dealR n dl).2))]):=by
 refine aY (qA Tryz.func28 rfl) rfl Tryz.ntmps28 (rs:=[.tmp 4,.tmp 5]) Tryz.results28 (by simp) λw0 bQ cH iK=>?_;refine ae (xa 2 (aa aA (aa aA (rs (az (ae (xa 4 (aa aF (aa (ak pO (.cons rfl (.cons rfl (.cons rfl .nil))) rfl (dA _ _ _)) (aa (bX rfl) (aa aA (xc (ao rfl (λbW=>?_) (λbW=>?_))))))))))))))
 ·
  (try simp only[nb,Xv]at bW)
  have hz:dealR n dl=(0,2):=by unfold dealR;rw[Xu (by rw[bW];decide)]
  refine ae (xa 2 (aa aA (aa aA (xc (ah ?_)))));refine⟨_,gz,?_⟩;rw[hz];rfl
 ·
  (try simp only[nb,Xv]at bW)
  have hn:1≤n∧n≤16:=cY.1 bW;refine ae (xa 4 (aa (aq (x:=.d (.sl _ _)) rfl) (aa (cd tC rfl (by exact aV _ _)) (aa (gM rfl rfl) (aa aA (xc (bm (t:=16) rfl (λAy=>?_))))))))
  (try simp only[Xo]at Ay)
  refine ao rfl (λdB=>?_) (λdB=>?_)
  ·
   (try simp only[nb,Xv]at dB)
   have hz:dealR n dl=(0,8):=by unfold dealR;rw[Xr (λq=>q bW),Xu (by omega)]
   refine ae (xa 2 (aa aA (aa aA (xc (ah ?_)))));refine⟨_,gz,?_⟩;rw[hz];rfl
  ·
   (try simp only[nb,Xv]at dB)
   have eE:dealR n dl=if (My n [] 0 dl).1≠0 then (0,(My n [] 0 dl).1) else if ((My n [] 0 dl).2.1.length:Int)<n then (0,14) else ((My n [] 0 dl).2.2,0):=by unfold dealR;rw[Xr (λq=>q bW),Xr (by omega)]
   refine wO ?_;change Awp _ _ _ _ _;refine ae (xa 0 (aw (A3 rfl rfl ?_)));refine aN rfl (aG (x:=.own _ _ _ _) rfl) (ai (xq (xa 1 (aa aA (rs (ae (xa 3 (aa (aq (x:=.d (.sl _ _)) rfl) (aa (cd tC rfl (by exact aV _ _)) (aa aF (xc (bm (t:=20) rfl (λaA3=>?_)))))))))))))
   (try simp only[Xo]at aA3)
   refine az ?_;refine bG [4,5,7,9,10,22,23,24,25,26,27,28,29,30,31,32,33,34,35,36,37,38] [19] (α:=Nat × List Int × Int) (λx=>[(22,T.i (x.1:Int)),(7,.d (.v (.int .i64 (x.2.2))))]) (λx=>[(19,.mp (uA x.2.1) x.2.1.length)]) (λx=>x.1≤dl.length∧My n [] 0 dl=My n x.2.1 x.2.2 (dl.drop x.1)∧0≤x.2.2∧x.2.2≤(x.1:Int)) (λx=>dl.length - x.1) (0,[],0) ⟨XC _,rfl,by decide,by decide⟩ ?_ ?_
   ·exact xh (ms:=[19]) (by repeat (exact Out.refl _)) ⟨(by rfl),(by rfl),trivial⟩ ⟨(by rfl),trivial⟩
   ·
    intro x ⟨hk,hh,J8,Rc⟩;refine ae (xa 1 (aa (cM rfl rfl) (rs (ao rfl (λoM=>?_) (λoM=>?_)))))
    ·
     (try simp only[nb,Xv]at oM)
     have bH:x.1<dl.length:=by omega
     obtain⟨l,hx⟩:∃l,dl[x.1]?=some l:=⟨_,Xp bH⟩
     rw[N2 hx]at hh;refine wO ?_;change Awp _ _ _ _ _;refine ae (az (ae (xa 3 (aa (aJ uW rfl rfl (by omega) (cm (by omega) hx)) (aa (aj pn rfl rfl) (aa (aG (x:=.d (.sl _ _)) rfl) (rs (ae (xa 3 (aa aF (aa (aq (x:=.d (.sl _ _)) rfl) (aa (aq (x:=.own _ _ _ _) rfl) (aw ?_)))))))))))));refine Gu [19] [] aD4 (AO n l x.2.1 (by omega) (by omega)) (.cons rfl (.cons rfl (.cons rfl .nil))) rfl rfl rfl (by repeat (first|exact trivial|refine⟨rfl,?_⟩)) (by repeat (exact trivial)) rfl ?_;refine aN rfl aA (ai (xq (xa 2 (aa aF (aa (bS rfl rfl) (xc (ao rfl (λxy=>?_) (λxy=>?_))))))))
     ·
      (try simp only[nb,Xv]at xy)
      have hz:dealR n dl=(0,(aH n x.2.1 l).1):=by rw[eE,hh,Xu xy,Xu xy]
      refine ae (xa 3 (aa aF (aa aA (aa aA (xc (ah ?_))))));refine⟨_,gz,?_⟩;rw[hz];rfl
     ·
      (try simp only[nb,Xv]at xy)
      rw[Xr (λq=>q xy)]at hh;refine wO ?_;change Awp _ _ _ _ _;refine ae (xa 3 (aa (aq (x:=.d (.sl _ _)) rfl) (aa (cd iX rfl (by exact aV _ _)) (aa (gM rfl rfl) (xc (bm (t:=33) rfl (λU9=>?_)))))))
      (try simp only[Xo]at U9)
      refine ao rfl (λoN=>?_) (λoN=>?_)
      ·
       (try simp only[nb,Xv]at oN)
       rw[Xu (by omega)]at hh;refine xa 3 (aa aF ?_);refine aa (bC rfl rfl xi) (aa aA (rn ?_));change Awp _ _ _ _ _;refine xa 2 ?_;refine aa (bC rfl rfl xi) (aa aF (rn ?_));refine⟨(x.1+1,(aH n x.2.1 l).2,x.2.2+1),⟨by show x.1+1≤_;omega,hh,by show 0≤x.2.2+1;omega,by show x.2.2+1≤((x.1+1:Nat):Int);omega⟩,by show dl.length - (x.1+1)<_;omega,?_⟩;exact xh (ms:=[19]) (by repeat (first|exact Out.head rfl rfl|(refine Out.put ?_ rfl)|(refine Out.called ?_ rfl rfl))) ⟨(by rfl),(by rfl),trivial⟩ ⟨(by rfl),trivial⟩
      ·
       (try simp only[nb,Xv]at oN)
       rw[Xr (by omega)]at hh;refine wO ?_;change Awp _ _ _ _ _;refine xa 2 ?_;refine aa (bC rfl rfl xi) (aa aF (rn ?_));refine⟨(x.1+1,(aH n x.2.1 l).2,x.2.2),⟨by show x.1+1≤_;omega,hh,by show 0≤x.2.2;omega,by show x.2.2≤((x.1+1:Nat):Int);omega⟩,by show dl.length - (x.1+1)<_;omega,?_⟩;exact xh (ms:=[19]) (by repeat (first|exact Out.head rfl rfl|(refine Out.put ?_ rfl)|(refine Out.called ?_ rfl rfl))) ⟨(by rfl),(by rfl),trivial⟩ ⟨(by rfl),trivial⟩
    ·
     (try simp only[nb,Xv]at oM)
     have vP:x.1=dl.length:=by omega
     rw[vP,ZI,show My n x.2.1 x.2.2 []=(0,(x.2.1,x.2.2)) from rfl]at hh;rw[hh,Xr (show ¬((0:Int),(x.2.1,x.2.2)).1≠0 from λq=>q rfl)]at eE;refine bJ ?_;change Awp _ _ _ _ _;refine ae (ae (xa 4 (aa (aq (x:=.own _ _ _ _) rfl) (aa (Lm Mi rfl rfl rfl) (aa aF (aa (cM rfl rfl) (xc (ao rfl (λqM=>?_) (λqM=>?_)))))))))
     ·
      (try simp only[nb,Xv]at qM)
      have hz:dealR n dl=(0,14):=by rw[eE,Xu (show (((0:Int),(x.2.1,x.2.2)).2.1.length:Int)<n from qM)]
      refine ae (xa 2 (aa aA (aa aA (xc (ah ?_)))));refine⟨_,gz,?_⟩;rw[hz];rfl
     ·
      (try simp only[nb,Xv]at qM)
      have hz:dealR n dl=(x.2.2,0):=by rw[eE,Xr (show ¬(((0:Int),(x.2.1,x.2.2)).2.1.length:Int)<n from by show ¬(x.2.1.length:Int)<n;omega)]
      refine wO ?_;change Awp _ _ _ _ _;refine ae (xa 3 (aa aF (aa aA (aa aA (xc (ah ?_))))));refine⟨_,gz,?_⟩;rw[hz];rfl
def Sx(n:Int):Bool:=!dP 0 n 1000000000000000
def NA(g:iZ)(pw:List Int):List D:=qO g++[.sl 1 (pw.map iC)]
def Ja(g:iZ)(pw:List Int):Int:=if pW g≠0 then pW g else if (pw.length:Int)≠g.co*g.ro then 10 else c9 (pw.any Sx) 2
def z6:List D:=[.v (.int .i64 0),.v (.int .i64 0),.v (.int .i64 0),.v (.int .i64 0),.v (.int .i64 0),.v (.slice none 0 0)]
def L1(g:iZ)(pw:List Int):List D:=if pW g≠0 then z6 else if (pw.length:Int)≠g.co*g.ro then z6 else NA g pw
theorem zY(n:Int):PC qP 106 [.v (.int .i64 (n))] (.v (.bool (Sx n))):=by
 refine av (qA Tryz.func106 rfl) rfl Tryz.ntmps106 (rs:=[.tmp 2]) Tryz.results106 (by simp) λw0=>?_;refine ae (xa 1 (aa aA (rs (xa 4 (aa aF (aa (ak pO (.cons rfl (.cons rfl (.cons rfl .nil))) rfl (dA _ _ _)) (aa (bX rfl) (aa aA (xc (ah ?_))))))))));refine⟨_,cS,?_⟩;rfl
theorem Cg(g:iZ)(pw:List Int):PC qP 57 [.agg (qO g),.sl 1 (pw.map iC)] (.da [.agg (L1 g pw),.v (.int .i64 (Ja g pw))]):=by
 refine aY (qA Tryz.func57 rfl) rfl Tryz.ntmps57 (rs:=[.cell 4 131,.tmp 5]) Tryz.results57 (by simp) λw0 bQ cH iK=>?_;refine ae (xa 1 (aa (aP rfl (by exact .inr ⟨_,rfl⟩)) (aw (aD xO rfl rfl rfl (aN rfl aA (ai (xq (ae (xa 3 (aa (ax (ds:=[_,_,_,_,_]) mI rfl rfl rfl) (aa (ak NT (.cons rfl .nil) rfl (ma _)) (aa aA (rs (xa 2 (aa aF (aa (bS rfl rfl) (xc (ao rfl (λbV=>?_) (λbV=>?_)))))))))))))))))))
 ·
  (try simp only[nb,Xv]at bV)
  have eA:Ja g pw=pW g:=by unfold Ja;rw[Xu bV]
  have eM:L1 g pw=z6:=by unfold L1;rw[Xu bV]
  refine ae (xa 2 (aa (bz (cs:=[_,_,_,_,_,_]) LI xO rfl .nil trivial rfl) (aa aF (aw (ay mh rfl rfl (by exact .inr ⟨_,rfl⟩) rfl rfl (by decide) rfl (aN rfl aA (ai ?_)))))));change Awp _ _ _ _ _;refine ah ?_;refine⟨_,(.cons (.dn rfl rfl mh rfl) cS),?_⟩;rw[eA,eM];rfl
 ·
  (try simp only[nb,Xv]at bV)
  have iR:pW g=0:=bV;obtain⟨hg,_,_⟩:=gW iR;have yO:=dg hg;refine wO ?_;change Awp _ _ _ _ _;refine ae (xa 4 (aa (ax (ds:=[_,_,_,_,_]) mI rfl rfl rfl) ?_));refine aa (bz (cs:=[_,_,_,_,_]) LF Bq rfl (.cons rfl (by exact .inr ⟨_,rfl⟩) .nil) ⟨⟨rfl,by decide⟩,trivial⟩ rfl) (aa (aq (x:=.d (.sl _ _)) rfl) ?_);refine aa (bz (cs:=[_,_,_,_,_,_]) LI xO rfl (.cons rfl (by exact .inr ⟨_,rfl⟩) (.cons rfl (by exact .inl rfl) .nil)) ⟨⟨rfl,by decide⟩,⟨rfl,by decide⟩,trivial⟩ rfl) (aw (dF xO rfl mh rfl rfl (by exact .inr ⟨_,rfl⟩) rfl rfl (ai (xq (ae (xa 6 (aa (aq (x:=.d (.sl _ _)) rfl) (aa (cd iX rfl (by exact aV _ _)) (aa (af lG rfl) (aa (ax (ds:=[_,_,_,_,_]) oE rfl rfl rfl) (aa (ak F4 (.cons rfl .nil) rfl (jG _ (by assumption))) (aa (bS rfl rfl) (xc (bm (t:=18) rfl (λVb=>?_)))))))))))))))
  (try simp only[Xo]at Vb)
  refine ao rfl (λeU=>?_) (λeU=>?_)
  ·
   (try simp only[nb,Xv]at eU)
   have eA:Ja g pw=10:=by unfold Ja;rw[Xr (λq=>q iR),Xu (by simpa using eU)]
   have eM:L1 g pw=z6:=by unfold L1;rw[Xr (λq=>q iR),Xu (by simpa using eU)]
   refine ae (xa 1 (aa (bz (cs:=[_,_,_,_,_,_]) LI xO rfl .nil trivial rfl) (aw (ay mh rfl rfl (by exact .inr ⟨_,rfl⟩) rfl rfl (by decide) rfl (aN rfl aA (ai ?_))))));change Awp _ _ _ _ _;refine ah ?_;refine⟨_,(.cons (.dn rfl rfl mh rfl) cS),?_⟩;rw[eA,eM];rfl
  ·
   (try simp only[nb,Xv]at eU)
   have eA:Ja g pw=c9 (pw.any Sx) 2:=by unfold Ja;rw[Xr (λq=>q iR),Xr (by simpa using eU)]
   have eM:L1 g pw=NA g pw:=by unfold L1;rw[Xr (λq=>q iR),Xr (by simpa using eU)]
   refine wO ?_;change Awp _ _ _ _ _;refine ae (iN 6 [none,none,none,none,some 4,none] mixed (by kernel_rfl) ?_);refine dG rfl (ax (ds:=[_,_,_,_,_,_]) mh rfl rfl rfl) ?_;refine dG rfl (aq (x:=.d (.sl _ _)) rfl) ?_;refine dG rfl (ak ar3 (.cons rfl (.cons rfl .nil)) rfl (xL Sx 106 [] ar2 pw (λa _=>zY a))) ?_;refine dG rfl (ak yZ (.cons rfl (.cons rfl .nil)) rfl (n9 _ _)) ?_;refine tv (k:=4) rfl rfl (by rfl) (qx mh rfl rfl (by exact .inr ⟨_,rfl⟩) rfl rfl (by decide) rfl) ?_;refine dG rfl aA ?_;refine qd (ai ?_);change Awp _ _ _ _ _;refine ah ?_;refine⟨_,(.cons (.dn rfl rfl mh rfl) cS),?_⟩;rw[eA,eM];rfl
structure OS(g:iZ)(pw:List Int):Prop where
 gr:kG g
 len:(pw.length:Int)=g.co*g.ro
 pw:∀p∈pw,0≤p∧p≤1000000000000000
theorem af6{g:iZ}{pw:List Int}(h:Ja g pw=0):OS g pw∧L1 g pw=NA g pw:=by
 unfold Ja at h
 by_cases h1:pW g≠0
 ·rw[Xu h1]at h;exact absurd h h1
 rw[Xr h1]at h
 by_cases h2:(pw.length:Int)≠g.co*g.ro
 ·rw[Xu h2]at h;cases h
 rw[Xr h2,fL (by decide)]at h;refine⟨⟨(gW (XU.1 h1)).1,XU.1 h2,λp hp=>?_⟩,?_⟩
 ·have:=List.any_eq_false.1 h p hp
  unfold Sx at this;simp[dP]at this;omega
 ·unfold L1
  rw[Xr h1,Xr h2]
theorem Oz(g:iZ)(pw:List Int)(c:Int):PC qP 107 [.agg (NA g pw),.v (.int .i64 (c))] (.fn (.func 135) [.pt [.v (.int .i64 (c))] 0,.pt (NA g pw) 0]):=by
 refine av (qA Tryz.func107 rfl) rfl Tryz.ntmps107 (rs:=[.tmp 4]) Tryz.results107 (by simp) λw0=>?_;refine ae (xa 3 (aa (aP rfl (by exact .inr ⟨_,rfl⟩)) (aa (aP rfl (by exact .inl rfl)) (aa (aG (x:=.d (.v .nilFunc)) rfl) (rs (xa 2 (aa (jw (.cons rfl (.cons rfl .nil))) (aa (aG (x:=.d (.fn _ _)) rfl) (xc (ah ?_))))))))));refine⟨_,cS,?_⟩;rfl
def Ik(g:iZ)(c r:Int)(j:Nat):List Int:=((List.range j).map λq:Nat=>r*g.co+(max 0 (c.tmod g.co - 1)+(q:Int))).filter λn=>decide (n≠c)
def Pj(g:iZ)(c:Int):Nat:=(min (g.co - 1) (c.tmod g.co+1) - max 0 (c.tmod g.co - 1)+1).toNat
def Il(g:iZ)(c:Int):Nat:=(min (g.ro - 1) (c.tdiv g.co+1) - max 0 (c.tdiv g.co - 1)+1).toNat
def Gq(g:iZ)(c:Int)(i:Nat):List Int:=(List.range i).flatMap λp:Nat=>Ik g c (max 0 (c.tdiv g.co - 1)+(p:Int)) (Pj g c)
theorem rP{g:iZ}{c r:Int}{j:Nat}:Ik g c r (j+1)=Ik g c r j++(if decide (r*g.co+(max 0 (c.tmod g.co - 1)+(j:Int))≠c)=true then [r*g.co+(max 0 (c.tmod g.co - 1)+(j:Int))] else []):=by
 unfold Ik;rw[ZA,Yw,List.filter_append];congr 1
 by_cases h:decide (r*g.co+(max 0 (c.tmod g.co - 1)+(j:Int))≠c)=true
 ·rw[Xu h,List.map_singleton];simp at h;simp[h]
 ·rw[Xr h,List.map_singleton];simp at h;simp[h]
theorem wR{g:iZ}{c:Int}{i:Nat}:Gq g c (i+1)=Gq g c i++Ik g c (max 0 (c.tdiv g.co - 1)+(i:Int)) (Pj g c):=by unfold Gq;rw[ZA,List.flatMap_append];simp
theorem Ij{g:iZ}{c r:Int}{j:Nat}:∀{n:Nat},j≤n->Ik g c r j <+: Ik g c r n
 | 0, h => by
   have:j=0:=by omega
   subst this;exact Zn
 | n+1,h=>by
  by_cases e:j=n+1
  ·subst e;exact Zn
  ·rw[rP];exact(Ij (show j≤n by omega)).trans (Y7 _ _)
theorem Im{g:iZ}{c:Int}{i:Nat}:∀{m:Nat},i≤m->Gq g c i <+: Gq g c m
 | 0, h => by
   have:i=0:=by omega
   subst this;exact Zn
 | m+1,h=>by
  by_cases e:i=m+1
  ·subst e;exact Zn
  ·rw[wR];exact(Im (show i≤m by omega)).trans (Y7 _ _)
theorem Wd {g : iZ} {c : Int} {i j : Nat} (hi : i < Il g c) (hj : j < Pj g c) (hb : decide ((max 0 (c.tdiv g.co - 1) + (i : Int)) * g.co + (max 0 (c.tmod g.co - 1) + (j : Int)) ≠ c) = true) :
  Gq g c i++Ik g c (max 0 (c.tdiv g.co - 1)+(i:Int)) j++[(max 0 (c.tdiv g.co - 1)+(i:Int))*g.co+(max 0 (c.tmod g.co - 1)+(j:Int))] <+: Gq g c (Il g c):=by
 have e:Ik g c (max 0 (c.tdiv g.co - 1)+(i:Int)) (j+1)=Ik g c (max 0 (c.tdiv g.co - 1)+(i:Int)) j++[(max 0 (c.tdiv g.co - 1)+(i:Int))*g.co+(max 0 (c.tmod g.co - 1)+(j:Int))]:=by rw[rP,Xu hb]
 rw[Yr,<-e];obtain⟨t,ht⟩:=Ij (g:=g) (c:=c) (r:=max 0 (c.tdiv g.co - 1)+(i:Int)) (show j+1≤Pj g c by omega);refine List.IsPrefix.trans ?_ (Im (show i+1≤Il g c by omega));rw[wR,<-ht,<-Yr];exact Y7 _ _
def am0(n:Int):List D:=[.v (.int .i64 n)]
theorem We{g:iZ}(hg:kG g){c:Int}(h1:0≤c){i:Nat}(hi:(max 0 (c.tdiv g.co - 1)+(i:Int))≤g.ro - 1):0≤(max 0 (c.tdiv g.co - 1)+(i:Int))*g.co∧(max 0 (c.tdiv g.co - 1)+(i:Int))*g.co≤1600:=by
 have c1:=hg.c1;have c2:=hg.c2;have r2:=hg.r2;have h:=lX (a:=max 0 (c.tdiv g.co - 1)+(i:Int)) (b:=g.co) (A:=40) (B:=40) (by omega) (by omega) (by omega) (by omega);have:=X2 (show 0≤max 0 (c.tdiv g.co - 1)+(i:Int) by omega) (show 0≤g.co by omega);omega
theorem OA(g:iZ)(pw:List Int)(ce:Int)(h:OS g pw)(h1:0≤ce)(h2:ce≤10000):PI qP 135 [] [.pt [.v (.int .i64 (ce))] 0,.pt (NA g pw) 0] (am0) (Gq g ce (Il g ce)) true:=by
 have hg:=h.gr;have hgg:=hg;obtain⟨x1,x2,z1,z2,c1,c2,r1,r2,s1,s2⟩:=hgg;obtain⟨m1,m2⟩:=mG h1 c1;obtain⟨d1,d2⟩:=mH h1 c1;have hM:Il g ce=(min (g.ro - 1) (ce.tdiv g.co+1) - max 0 (ce.tdiv g.co - 1)+1).toNat:=rfl;have hN:Pj g ce=(min (g.co - 1) (ce.tmod g.co+1) - max 0 (ce.tmod g.co - 1)+1).toNat:=rfl;refine sC (qA Tryz.func135 rfl) rfl Tryz.ntmps135 rfl rfl λJ c l0 hJ hy AD qL=>?_;refine cG ?_;apply dC hJ
 ·
  intro c1 bQ cH;refine xa 14 (aa (aj bo rfl rfl) (aa (af lG rfl) (aa (af fT rfl) (aa (af fA rfl) (aa (aj bo rfl rfl) (aa (yo rfl rfl (by omega)) (aa (aj bo rfl rfl) (aa (af lG rfl) (aa (af fT rfl) (aa (af fA rfl) (aa (aj bo rfl rfl) ?_)))))))))));refine aa (B5 rfl rfl (by omega) xi) (aa aA (aa aA (rn ?_)));exact⟨rfl,rfl⟩
 change iw _ _ _ _ _ _ _;refine cG ?_;apply dC hJ
 ·
  intro c1 bQ cH;refine xa 4 (aa aF ?_);refine aa (dk rfl rfl xi) (aa (vg rfl rfl) (aa aA (rn ?_)));exact⟨rfl,rfl⟩
 change iw _ _ _ _ _ _ _;refine fo ?_;refine lD [6,7,8,24,25,26,27,28,29,30,31,32,33,34,35,36,37,38,39,40,41,42,43,44,45,46,47,48,49,50,51,52,53,54,55,56,57,58,59,60,61,62,63,64,65,66,67] [] (β:=Nat) (λi=>[(6,T.i (max 0 (ce.tdiv g.co - 1)+(i:Int)))]) (λi=>[]) (λi=>(true,Gq g ce i)) (λi=>i≤Il g ce) (λi=>Il g ce - i) 0 (XC _) rfl (λc1=>?_) ?_
 ·exact xh (ms:=[]) (by repeat (exact Out.refl _)) ⟨(by (show T.i _=T.i _;congr 1;omega)),trivial⟩ trivial
 ·
  intro i hi;refine cG ?_;refine cG ?_;apply dC hJ
  ·
   intro c1 bQ cH;refine xa 10 (aa aF (aa (af lG rfl) (aa (af fT rfl) (aa (af l8 rfl) (aa (aj bo rfl rfl) ?_)))));refine aa (dk rfl rfl xi) (aa aF ?_);refine aa (bC rfl rfl xi) (aa (tx rfl rfl) (aa (iG rfl rfl) (rn ?_)));exact⟨rfl,rfl⟩
  change iw _ _ _ _ _ _ _;refine gR rfl (λbV=>?_) (λbV=>?_)
  ·
   (try simp only[nb,Xv]at bV)
   have bH:i<Il g ce:=by omega
   obtain⟨hp1,hp2⟩:=We hg h1 (i:=i) (by omega);refine gQ ?_;change iw _ _ _ _ _ _ _;refine cG ?_;refine fo ?_;refine cG ?_;apply dC hJ
   ·
    intro c1 bQ cH;refine xa 4 (aa aF ?_);refine aa (dk rfl rfl xi) (aa (vg rfl rfl) (aa aA (rn ?_)));exact⟨rfl,rfl⟩
   change iw _ _ _ _ _ _ _;refine fo ?_;refine lD [7,8,39,40,41,42,43,44,45,46,47,48,49,50,51,52,53,54,55,56,57,58,59,60,61,62,63,64,65,66,67] [] (β:=Nat) (λj=>[(7,T.i (max 0 (ce.tmod g.co - 1)+(j:Int)))]) (λj=>[]) (λj=>(true,Gq g ce i++Ik g ce (max 0 (ce.tdiv g.co - 1)+(i:Int)) j)) (λj=>j≤Pj g ce) (λj=>Pj g ce - j) 0 (XC _) (by show (true,_++Ik g ce _ 0)=(true,_);simp[Ik]) (λc1=>?_) ?_
   ·exact xh (ms:=[]) (by repeat (exact Out.refl _)) ⟨(by (show T.i _=T.i _;congr 1;omega)),trivial⟩ trivial
   ·
    intro j hj;refine cG ?_;refine cG ?_;apply dC hJ
    ·
     intro c1 bQ cH;refine xa 10 (aa aF (aa (af lG rfl) (aa (af fT rfl) (aa (af fA rfl) (aa (aj bo rfl rfl) ?_)))));refine aa (dk rfl rfl xi) (aa aF ?_);refine aa (bC rfl rfl xi) (aa (tx rfl rfl) (aa (iG rfl rfl) (rn ?_)));exact⟨rfl,rfl⟩
    change iw _ _ _ _ _ _ _;refine gR rfl (λeU=>?_) (λeU=>?_)
    ·
     (try simp only[nb,Xv]at eU)
     have hlj:j<Pj g ce:=by omega
     refine gQ ?_;change iw _ _ _ _ _ _ _;refine cG ?_;refine fo ?_;refine cG ?_;apply dC hJ
     ·
      intro c1 bQ cH;refine xa 9 (aa aF (aa (af lG rfl) (aa (af fT rfl) (aa (af fA rfl) (aa (aj bo rfl rfl) ?_)))));refine aa (cZ rfl rfl xi) (aa aF ?_);refine aa (bC rfl rfl xi) (aa aA (rn ?_));exact⟨rfl,rfl⟩
     change iw _ _ _ _ _ _ _;refine cG ?_;refine vG ?_;refine en hJ rfl (λc1 _ _ _ h=>by exact aN rfl (aF) h) ?_;refine en hJ rfl (λc1 _ _ _ h=>by exact aN rfl ((aj bo rfl rfl)) h) ?_;refine en hJ rfl (λc1 _ _ _ h=>by exact aN rfl ((bS rfl rfl)) h) ?_;refine en hJ rfl (λc1 _ _ _ h=>by exact aN rfl (aF) h) ?_
     rcases Bool.eq_false_or_eq_true (decide ((max 0 (ce.tdiv g.co - 1)+(i:Int))*g.co+(max 0 (ce.tmod g.co - 1)+(j:Int))≠ce)) with hb|hb
     ·
      refine FM hJ rfl (congrArg T.bool hb) rfl (by intro d hd;cases hd;exact(by decide:(63:Nat)<68)) (λc1=>((aq (x:=.d (.fn _ _)) rfl))) ?_;refine FM hJ rfl (congrArg T.bool hb) rfl (by intro d hd;cases hd;exact(by decide:(64:Nat)<68)) (λc1=>(aF)) ?_;refine Cy (x:=(max 0 (ce.tdiv g.co - 1)+(i:Int))*g.co+(max 0 (ce.tmod g.co - 1)+(j:Int))) rfl (congrArg T.bool hb) rfl hy AD rfl (.cons rfl .nil) (Wd bH hlj hb) rfl (λyb=>?_);refine FM hJ rfl (congrArg T.bool hb) rfl (by intro d hd;cases hd;exact(by decide:(66:Nat)<68)) (λc1=>((bX rfl))) ?_;refine en hJ rfl (λc1 _ _ _ h=>by exact aN rfl ((Ux rfl rfl rfl)) h) ?_;refine qF ?_;change iw _ _ _ _ _ _ _;refine gR rfl (λoM=>?_) (λoM=>?_)
      ·
       (try simp only[nb,Xv]at oM)
       have HO:yb=false:=by cases yb<;>first|rfl|(exfalso;simp_all;done)
       refine Ao ?_;exact⟨.inl rfl,λh=>by rw[HO]at h;cases h⟩
      ·
       (try simp only[nb,Xv]at oM)
       have HO:yb=true:=by cases yb<;>first|rfl|(exfalso;simp_all;done)
       refine gQ ?_;change iw _ _ _ _ _ _ _;apply dC hJ
       ·
        intro c1 bQ cH;refine xa 3 (aa aF ?_);refine aa (bC rfl rfl xi) (aa aA (rn ?_));exact⟨rfl,rfl⟩
       refine⟨j+1,by omega,by omega,by rw[HO,rP,Xu hb,Yr],λc1=>?_⟩;exact xh (ms:=[]) (by repeat (first|exact Out.head rfl rfl|(refine Out.put ?_ rfl))) ⟨(by (show T.i _=T.i _;congr 1;omega)),trivial⟩ trivial
     ·
      refine n5 (g:=false) (b:=true) rfl rfl (congrArg T.bool hb) rfl rfl (by intro d hd;cases hd;exact(by decide:(63:Nat)<68)) ?_;refine n5 (g:=false) (b:=true) rfl rfl (congrArg T.bool hb) rfl rfl (by intro d hd;cases hd;exact(by decide:(64:Nat)<68)) ?_;refine n5 (g:=false) (b:=true) rfl rfl (congrArg T.bool hb) rfl rfl (by intro d hd;cases hd;exact(by decide:(65:Nat)<68)) ?_;refine n5 (g:=false) (b:=true) rfl rfl (congrArg T.bool hb) rfl rfl (by intro d hd;cases hd;exact(by decide:(66:Nat)<68)) ?_;refine en hJ rfl (λc1 _ _ _ h=>by exact aN rfl (Qe (congrArg T.bool hb) rfl) h) ?_;refine qF ?_;change iw _ _ _ _ _ _ _;refine gR rfl (λoM=>?_) (λoM=>?_)
      ·
       exfalso;(try simp only[nb,Xv]at oM);simp_all
      ·
       (try simp only[nb,Xv]at oM)
       refine gQ ?_;change iw _ _ _ _ _ _ _;apply dC hJ
       ·
        intro c1 bQ cH;refine xa 3 (aa aF ?_);refine aa (bC rfl rfl xi) (aa aA (rn ?_));exact⟨rfl,rfl⟩
       refine⟨j+1,by omega,by omega,by rw[rP,Xr (by rw[hb];decide),ZL],λc1=>?_⟩;exact xh (ms:=[]) (by repeat (first|exact Out.head rfl rfl|(refine Out.put ?_ rfl))) ⟨(by (show T.i _=T.i _;congr 1;omega)),trivial⟩ trivial
    ·
     (try simp only[nb,Xv]at eU)
     have M4:j=Pj g ce:=by omega
     refine m6 ?_;change iw _ _ _ _ _ _ _;apply dC hJ
     ·
      intro c1 bQ cH;refine xa 3 (aa aF ?_);refine aa (bC rfl rfl xi) (aa aA (rn ?_));exact⟨rfl,rfl⟩
     refine⟨i+1,by omega,by omega,by rw[M4,wR],λc1=>?_⟩;exact xh (ms:=[]) (by repeat (first|exact Out.head rfl rfl|(refine Out.put ?_ rfl)|(refine Out.sN ?_ rfl rfl rfl))) ⟨(by (show T.i _=T.i _;congr 1;omega)),trivial⟩ trivial
  ·
   (try simp only[nb,Xv]at bV)
   have qK:i=Il g ce:=by omega
   refine m6 ?_;exact⟨.inr rfl,λ_=>by rw[qK]⟩
theorem Wf{g:iZ}(hg:kG g){c:Int}(h1:0≤c){n:Int}(h:n∈Gq g c (Il g c)):0≤n∧n<g.co*g.ro:=by
 have c1:=hg.c1;have r1:=hg.r1;unfold Gq at h;obtain⟨p,hp,h⟩:=List.mem_flatMap.1 h;unfold Ik at h;obtain⟨h,_⟩:=List.mem_filter.1 h;obtain⟨q,hq,rfl⟩:=X6.1 h;have hp:=YJ.1 hp;have hq:=YJ.1 hq;have hM:Il g c=(min (g.ro - 1) (c.tdiv g.co+1) - max 0 (c.tdiv g.co - 1)+1).toNat:=rfl;have hN:Pj g c=(min (g.co - 1) (c.tmod g.co+1) - max 0 (c.tmod g.co - 1)+1).toNat:=rfl;generalize hr:max 0 (c.tdiv g.co - 1)+(p:Int)=r at *;have e1:0≤r∧r≤g.ro - 1:=by omega
 have e2:=X2 e1.1 (show 0≤g.co by omega);have e3:=Y8 e1.2 (show 0≤g.co by omega);rw[Int.sub_mul,Int.one_mul,Int.mul_comm g.ro g.co]at e3;omega
theorem iB{α:Type}{l:List α}{k:Nat}{y:α}(h:l[k]?=some y):l.take (k+1)=l.take k++[y]:=by
 obtain⟨bH,rfl⟩:=Xt.1 h;rw[Yh bH]
theorem RO{α:Type}{p:α->Bool}{l:List α}{y:α}(h:l.any p=false)(hy:p y=false):(l++[y]).any p=false:=by rw[List.any_append,h];simp[hy]
def OY(pw:List Int)(n:Int):Int:=pw.getD n.toNat 0
def Ww(pw:List Int)(c n:Int):Bool:=decide (OY pw c<OY pw n)||(decide (n<c)&&decide (OY pw n=OY pw c))
def Qn(g:iZ)(pw:List Int)(c:Int):Bool:=!(Gq g c (Il g c)).any (Ww pw c)&&decide (0<OY pw c)
theorem Lx{pw:List Int}{n:Int}(h1:0≤n)(h2:n<(pw.length:Int)):pw[n.toNat]?=some (OY pw n):=by
 unfold OY;rw[X1,Xp (by omega)];rfl
theorem ME(g:iZ)(pw:List Int)(c:Int)(h:OS g pw)(h1:0≤c)(h2:c<(pw.length:Int)):PC qP 59 [.agg (NA g pw),.v (.int .i64 (c))] (.v (.bool (Qn g pw c))):=by
 have hg:=h.gr;have yO:=dg hg;have hlen:=h.len;have Bm:=Lx h1 h2;refine aY (qA Tryz.func59 rfl) rfl Tryz.ntmps59 (rs:=[.cell 4 4]) Tryz.results59 (by simp) λw0 bQ cH iK=>?_;refine ae (xa 2 (aa (aP rfl (by exact .inr ⟨_,rfl⟩)) (aa (aP rfl (by exact .inl rfl)) (aw (aD zr4 rfl rfl rfl (ai (xq (xa 5 (aa (af rh rfl) (aa (aj pn rfl rfl) (aa (aj bo rfl rfl) (aa (aJ gK rfl rfl (by omega) (cm (k:=c.toNat) (by omega) Bm)) (aa (aj bo rfl rfl) (aw (aD Br rfl rfl rfl (ay bo rfl rfl (by exact .inl rfl) rfl rfl (by decide) rfl (ai (xq (ae (xa 3 (aa (ax (ds:=[_,_,_,_,_,_]) mh rfl rfl rfl) (aa (aj bo rfl rfl) (aa (ak ar1 (.cons rfl (.cons rfl .nil)) rfl (Oz _ _ _)) (xc (az (Awp.le (nZ 5 5 0 (cs:=iC (OY pw c)) rfl rfl rfl rfl bQ) ?_))))))))))))))))))))))))));refine nE (α:=Int) (β:=Nat) (n:=39) (enc:=am0) (items:=Gq g c (Il g c)) 1000 [(2,.d (.pt (NA g pw) 0)),(3,.d (.pt [.v (.int .i64 (c))] 0)),(4,.ref 4 0),(5,.d (.pt [.v (.int .i64 (OY pw c))] 0)),(14,.d (.fn (.func 135) [.pt [.v (.int .i64 (c))] 0,.pt (NA g pw) 0]))] (λx=>[(4,.box [.v (.bool (false))])]) (λk x=>x=k∧((Gq g c (Il g c)).take k).any (Ww pw c)=false) (λe x=>e=Exit.ret∧Qn g pw c=false) 0 cH ?_ (.inr ⟨rfl,rfl⟩) ap9 (OA g pw c h h1 (by omega)) rfl (λ_=>rfl) rfl (λx=>qV (gS (og (by repeat first|exact trivial|refine⟨.v _,?_⟩)) uE)) (λ_=>rfl) ⟨rfl,rfl⟩ (λh=>by cases h) ?_ ?_ ?_
 ·exact vD (λk=>k) _ _ rfl ⟨rfl,rfl,rfl,rfl,rfl,trivial⟩ ⟨rfl,trivial⟩ rfl (λk b h=>by rw[iK k]at h;cases h)
 ·
  intro w1 tX k x y hI hy;obtain⟨rfl,hf⟩:=hI;obtain⟨hy1,hy2⟩:=Wf hg h1 (XA hy);have hya:=Lx (pw:=pw) hy1 (by omega);refine xa 1 (aa aA (rn ?_));refine⟨rfl,λw2 tW=>?_⟩;refine az (ae (xa 21 (aa (af rh rfl) (aa (aj pn rfl rfl) (aa aF (aa (aJ gK rfl rfl (by omega) (cm (k:=y.toNat) (by omega) hya)) (aa (aj bo rfl rfl) (aa (aj bo rfl rfl) (aa (gM rfl rfl) (aa aF (aE rfl rfl (λhG=>aF) (aE rfl rfl (λhG=>(aj bo rfl rfl)) (aE rfl rfl (λhG=>(cM rfl rfl)) (aE rfl rfl (λhG=>aF) (aE rfl rfl (λhG=>(af rh rfl)) (aE rfl rfl (λhG=>(aj pn rfl rfl)) (aE rfl rfl (λhG=>aF) ?_)))))))))))))))));refine aE rfl rfl (λhG=>(aJ gK rfl rfl (by (have iR:=T.cP (a:=_) hG.1;(try simp only[nb,Xv]at iR);have O9:=T.cP (a:=_) hG.2.1;(try simp only[nb,Xv]at O9);omega)) (cm (k:=y.toNat) (by (have iR:=T.cP (a:=_) hG.1;(try simp only[nb,Xv]at iR);have O9:=T.cP (a:=_) hG.2.1;(try simp only[nb,Xv]at O9);omega)) hya))) (aE rfl rfl (λhG=>(aj bo rfl rfl)) (aE rfl rfl (λhG=>(aj bo rfl rfl)) (aE rfl rfl (λhG=>(fG rfl rfl)) (vb rfl rfl rfl rfl rfl rfl rfl rfl ?_))));refine aT rfl rfl rfl rfl rfl rfl ?_;refine xc (ao rfl (λeJ=>?_) (λeJ=>?_))
  ·
   (try simp only[nb,Xv]at eJ)
   have hb:Ww pw c y=true:=by unfold Ww;(simp;omega)
   have Aw:Qn g pw c=false:=by unfold Qn;rw[List.any_eq_true.2 ⟨y,XA hy,hb⟩];rfl
   refine ae (xa 0 (aw (ay sz4 rfl rfl (by exact .inl rfl) rfl rfl (by decide) rfl (ai ?_))));change Awp _ _ _ _ _;refine ah (.inr ⟨rfl,x,⟨rfl,Aw⟩,?_⟩);exact jA [] _ tW rfl ⟨(by rfl),trivial⟩ rfl
  ·
   (try simp only[nb,Xv]at eJ)
   have hb:Ww pw c y=false:=by unfold Ww;(simp;omega)
   refine wO ?_;refine .inl ⟨rfl,x+1,⟨rfl,by rw[iB hy];exact RO hf hb⟩,?_⟩;exact jA [] _ tW rfl ⟨(by rfl),trivial⟩ rfl
 ·
  intro x hI;obtain⟨W4,hf⟩:=hI;rw[YL]at hf;have hz:Qn g pw c=decide (0<OY pw c):=by unfold Qn;rw[hf];rfl
  change Awp _ _ _ _ _;refine ae (xa 2 (aa (aj bo rfl rfl) (aa (gM rfl rfl) (aw (ay sz4 rfl rfl (by exact .inl rfl) rfl rfl (by decide) rfl (ai ?_))))));change Awp _ _ _ _ _;refine ah ?_;refine⟨_,(.cons (.cell1 rfl rfl sz4) .nil),?_⟩;rw[hz];rfl
 ·
  rintro e x (⟨rfl,hX⟩)
  ·
   refine⟨_,(.cons (.cell1 rfl rfl sz4) .nil),?_⟩;rw[hX];rfl
def sT(p:Int->Bool)(n:Nat):List Int:=(gY n).filter p
theorem y1{p:Int->Bool}{k:Nat}:sT p (k+1)=sT p k++(if p (k:Int)=true then [(k:Int)] else []):=by
 unfold sT;rw[zd,List.filter_append];congr 1
 by_cases h:p (k:Int)=true
 ·rw[Xu h];simp[h]
 ·rw[Xr h];simp[h]
theorem N9{p:Int->Bool}{k:Nat}:(sT p k).length≤k:=by
 have:=List.length_filter_le p (gY k);unfold sT;rw[rQ]at this;exact this
theorem N8(g:iZ)(pw:List Int)(p:Int->Bool)(fn:FuncId)(cap:List D)(Vm:cA qP fn=true)(hl:pw.length≤1600)(hp:∀n:Nat,n<pw.length->PC qP fn (cap++[.v (.int .i64 ((n:Int)))]) (.v (.bool (p n)))):PC qP 58 [.agg (NA g pw),.vB (.func fn) cap] (.sl 1 ((sT p pw.length).map iC)):=by
 refine aY (qA Tryz.func58 rfl) rfl Tryz.ntmps58 (rs:=[.tmp 4]) Tryz.results58 (by simp) λw0 bQ cH iK=>?_;refine ae (xa 2 (aa (aP rfl (by exact .inr ⟨_,rfl⟩)) (aa (aG (x:=.d (.sl _ _)) rfl) (rs (xa 1 (aa (fP) (rn ?_)))))));change Awp _ _ _ _ _;refine Awp.le (sI (k:=5) (e:=3) (sz:=1) rfl rfl) ?_;refine ae (ae (xa 4 (aa (af rh rfl) (aa (aj pn rfl rfl) (aa (cd iX rfl (by exact aV _ _)) (aa aF (xc (bm (t:=8) rfl (λMW=>?_)))))))))
 (try simp only[Xo]at MW)
 refine az (bG [5,6,10,11,12,13,14,15,16,17,18,19,20] [5] (α:=Nat) (λk=>[(10,T.i (k:Int)),(5,.rs 5)]) (λk=>[(5,.row 3 1 ((sT p k).map iC))]) (λk=>k≤pw.length) (λk=>pw.length - k) 0 (XC _) ?_ ?_)
 ·exact xh (ms:=[5]) (by repeat (exact Out.refl _)) ⟨(by rfl),(by rfl),trivial⟩ ⟨(by rfl),trivial⟩
 ·
  intro k hk;have hal:=N9 (p:=p) (k:=k);refine ae (xa 1 (aa (cM rfl rfl) (rs (ao rfl (λdB=>?_) (λdB=>?_)))))
  ·
   (try simp only[nb,Xv]at dB)
   have bH:k<pw.length:=by omega
   refine wO ?_;change Awp _ _ _ _ _;refine ae (az (ae (xa 2 (aa aF (aa aA (rs (xa 3 (aa (aq (x:=.d (.vB _ _)) rfl) (aa aF (aa (Qh Vm rfl (.cons rfl .nil) ((hp k bH))) (xc (ao rfl (λeU=>?_) (λeU=>?_)))))))))))))
   ·
    (try simp only[nb,Xv]at eU)
    have tY:(sT p (k+1)).map iC=(sT p k).map iC++[[.v (.int .i64 (k:Int))]]:=by rw[y1,Xu eU,Yw];rfl
    refine xa 3 (aa (aq (x:=.rs _) rfl) (aa aF (aa (bu gK Br rfl rfl (by decide) (.cons rfl (by exact .inl rfl) .nil) ⟨rfl,rfl,trivial⟩ rfl (by decide) rfl) (aw ?_))));refine eX gK Br by3 rfl (by decide) rfl rfl rfl rfl (by (try simp only[Xo,XI,XH,XL]);omega) (by (try simp only[Xo,XI,XH,XL]);omega) rfl rfl ?_;refine aN rfl (aG (x:=.rs _) rfl) (ai ?_);change Awp _ _ _ _ _;refine xa 2 ?_;refine aa (bC rfl rfl xi) (aa aF (rn ?_));refine⟨k+1,by omega,by omega,?_⟩;exact xh (ms:=[5]) (by repeat (first|exact Out.head rfl rfl|(refine Out.put ?_ rfl)|(refine Out.site ?_ rfl)|(refine Out.dE ?_ rfl))) ⟨(by rfl),(by rfl),trivial⟩ ⟨(by ((show Site.row 3 1 _=Site.row 3 1 _;(rw[tY];rfl)))),trivial⟩
   ·
    (try simp only[nb,Xv]at eU)
    have tY:(sT p (k+1)).map iC=(sT p k).map iC:=by rw[y1,Xr (by rw[eU];decide),ZL]
    refine wO ?_;change Awp _ _ _ _ _;refine xa 2 ?_;refine aa (bC rfl rfl xi) (aa aF (rn ?_));refine⟨k+1,by omega,by omega,?_⟩;exact xh (ms:=[5]) (by repeat (first|exact Out.head rfl rfl|(refine Out.put ?_ rfl))) ⟨(by rfl),(by rfl),trivial⟩ ⟨(by ((show Site.row 3 1 _=Site.row 3 1 _;(rw[tY];done)))),trivial⟩
  ·
   (try simp only[nb,Xv]at dB)
   have vP:k=pw.length:=by omega
   subst vP;refine bJ ?_;change Awp _ _ _ _ _;refine ae (xa 2 (aa (aq (x:=.rs _) rfl) (aa (aG (x:=.rs _) rfl) (xc (ah ?_)))));refine⟨_,(.cons (.tmp (by exact .rs rfl)) .nil),?_⟩;rfl
theorem Qt(g:iZ)(pw:List Int):(L1 g pw).length=6:=by
 unfold L1
 split
 ·rfl
 ·split<;>rfl
def pz(g:iZ)(pw:List Int):List Int × Int:=if Ja g pw≠0 then ([],Ja g pw) else (sT (Qn g pw) pw.length,0)
theorem Qo(g:iZ)(pw:List Int):PC qP 22 [.agg (qO g),.sl 1 (pw.map iC)] (.da [.sl 1 ((pz g pw).1.map iC),.v (.int .i64 ((pz g pw).2))]):=by
 refine aY (qA Tryz.func22 rfl) rfl Tryz.ntmps22 (rs:=[.tmp 4,.tmp 5]) Tryz.results22 (by simp) λw0 bQ cH iK=>?_;refine ae (xa 3 (aa (aP rfl (by exact .inr ⟨_,rfl⟩)) (aa (aG (x:=.d (.sl _ _)) rfl) (aa aA (rs (xa 6 (aa (ax (ds:=[_,_,_,_,_]) mI rfl rfl rfl) (aa (aq (x:=.d (.sl _ _)) rfl) (aa (ak aD9 (.cons rfl (.cons rfl .nil)) rfl (Cg _ _)) (aa (aq (x:=.d (.da _)) rfl) (aa (au rfl rfl) (aa (au rfl rfl) (aw (dF xO rfl mh rfl rfl (by exact .inr ⟨_,rfl⟩) (Qt g pw) rfl (aN rfl aA (ai (xq (ae (xa 2 (aa aF (aa (bS rfl rfl) (xc (ao rfl (λbV=>?_) (λbV=>?_))))))))))))))))))))))))
 ·
  (try simp only[nb,Xv]at bV)
  have hz:pz g pw=([],Ja g pw):=by unfold pz;rw[Xu bV]
  refine ae (xa 3 (aa aF (aa (aG (x:=.d (.sl _ _)) rfl) (aa aA (xc (ah ?_))))));refine⟨_,gz,?_⟩;rw[hz];rfl
 ·
  (try simp only[nb,Xv]at bV)
  have h0:Ja g pw=0:=by simpa using bV
  obtain⟨hfk,Vj⟩:=af6 h0;have yO:=dg hfk.gr;have hlen:=hfk.len;have hz:pz g pw=(sT (Qn g pw) pw.length,0):=by unfold pz;rw[Xr (λq=>q h0)]
  rw[Vj];refine wO ?_;change Awp _ _ _ _ _;refine ae (xa 6 (aa (ax (ds:=[_,_,_,_,_,_]) mh rfl rfl rfl) (aa (ax (ds:=[_,_,_,_,_,_]) mh rfl rfl rfl) (aa (I0 (.cons rfl .nil)) (aa (ak aD8 (.cons rfl (.cons rfl .nil)) rfl (N8 g pw (Qn g pw) 59 [.agg (NA g pw)] aD7 (by omega) (λn hn=>ME g pw n hfk (by omega) (by omega)))) (aa (aG (x:=.d (.sl _ _)) rfl) (aa aA (xc (ah ?_)))))))));refine⟨_,gz,?_⟩;rw[hz];rfl
def MN(r:Int × Int)(n:Int):Int × Int:=(min r.1 n,max r.2 n)
theorem al6(a:rX)(t p:Int × Int):(0≤(Ka a t p).1∧(Ka a t p).1≤40000000000)∧0≤(Ka a t p).2∧(Ka a t p).2≤40000000000:=by
 obtain⟨a1,a2,a3,a4⟩:=HG a.ou (jI a p.1) t;obtain⟨b1,b2,b3,b4⟩:=HG a.ba (jI a p.2) t;unfold Ka;simp only;omega
def neI(t:Tsk)(c:Int)(y:Int × Int):Int × Int:=(IU ((Ka t.ar (gZ t.g c) y).1 - t.ar.ts.1) t.ar.ts.2,IU ((Ka t.ar (gZ t.g c) y).2 - t.ar.ts.1) t.ar.ts.2)
def ml(t:Tsk)(c:Int)(y:Int × Int):Int × Int:=(max 0 (neI t c y).1,min 60 (neI t c y).2)
def O5(t:Tsk)(c:Int)(y:Int × Int):Bool:=decide ([(ml t c y).1,(ml t c y).2]=[(neI t c y).1,(neI t c y).2])
theorem MM(a b n:Int):PC qP 67 [.agg [.v (.int .i64 (a)),.v (.int .i64 (b))],.v (.int .i64 (n))] (.agg [.v (.int .i64 ((MN (a,b) n).1)),.v (.int .i64 ((MN (a,b) n).2))]):=by
 refine av (qA Tryz.func67 rfl) rfl Tryz.ntmps67 (rs:=[.cell 4 76]) Tryz.results67 (by simp) λw0=>?_;refine ae (xa 1 (aa (aP rfl (by exact .inr ⟨_,rfl⟩)) (aw (aD gv rfl rfl rfl (ai (xq (xa 9 (aa (af eu rfl) (aa (aj bo rfl rfl) (aa aF (aa (tx rfl rfl) (aa (af fw rfl) (aa (aj bo rfl rfl) (aa aF (aa (vg rfl rfl) ?_)))))))))))))));refine aa (bz (cs:=[_,_]) qm gv rfl (.cons rfl (by exact .inl rfl) (.cons rfl (by exact .inl rfl) .nil)) ⟨⟨rfl,by decide⟩,⟨rfl,by decide⟩,trivial⟩ rfl) (aw (ay dM rfl rfl (by exact .inr ⟨_,rfl⟩) rfl rfl (by decide) rfl (ai ?_)));change Awp _ _ _ _ _;refine ah ?_;refine⟨_,(.cons (.dn rfl rfl dM rfl) .nil),?_⟩;rfl
theorem Jb(t:Tsk)(c:Int)(pr:Int × Int)(h:TskOk t)(hc:Bn t.g c=0)(hp:(0≤pr.1∧pr.1<t.ne)∧0≤pr.2∧pr.2<t.ne):PC qP 65 [.pt (tkC t) 0,.v (.int .i64 (c)),.agg (shC pr)] (.da [.agg [.v (.int .i64 ((ml t c pr).1)),.v (.int .i64 ((ml t c pr).2))],.v (.bool (O5 t c pr))]):=by
 obtain⟨hg,_,_⟩:=gW h.gr;obtain⟨c1,c2⟩:=Gb hc;have yO:=dg hg;obtain⟨Et,_⟩:=iL h.ck;have ho:=Hs h hc hp;have he:Rs t.ar (gZ t.g c) pr=(Ka t.ar (gZ t.g c) pr,0):=by unfold Rs;rw[Xr (λq=>q ho)]
 obtain⟨⟨e1,e2⟩,e3,e4⟩:=al6 t.ar (gZ t.g c) pr;refine aY (qA Tryz.func65 rfl) rfl Tryz.ntmps65 (rs:=[.cell 6 76,.tmp 7]) Tryz.results65 (by simp) λw0 bQ cH iK=>?_;refine ae (xa 1 (aa (aP rfl (by exact .inr ⟨_,rfl⟩)) (aw (aD gv rfl rfl rfl (aN rfl aA (ai (xq (iN 18 [none,none,none,none,none,none,none,none,none,none,none,none,none,none,none,some 8,some 8,none] mixed (by kernel_rfl) (dG rfl (aq (x:=.d (.pt _ _)) rfl) ?_)))))))));refine dG rfl (bZ rfl) ?_;refine dG rfl (af qY rfl) ?_;refine dG rfl (ax (ds:=[_,_,_,_,_,_,_,_,_,_,_]) po rfl rfl rfl) ?_;refine dG rfl (aq (x:=.d (.pt _ _)) rfl) ?_;refine dG rfl (bZ rfl) ?_;refine dG rfl (af qZ rfl) ?_;refine dG rfl (ax (ds:=[_,_,_,_,_]) oE rfl rfl rfl) ?_;refine dG rfl aF ?_;refine dG rfl (ak Du (.cons rfl (.cons rfl .nil)) rfl (qT t.g c hg c1 (by omega))) ?_;refine dG rfl (ax (ds:=[_,_]) oQ rfl rfl rfl) ?_;refine dG rfl (ak aq8 (.cons rfl (.cons rfl (.cons rfl .nil))) rfl ((by have h:=Dw t.ar (gZ t.g c) pr;rw[he]at h;exact h))) ?_;refine dG rfl (aq (x:=.d (.da _)) rfl) ?_;refine dG rfl (au rfl rfl) ?_;refine dG rfl (au rfl rfl) ?_;refine tv (k:=8) rfl rfl (by rfl) (Ac gv rfl rfl) ?_;refine tv (k:=8) rfl rfl (by rfl) (qx dM rfl rfl (by exact .inr ⟨_,rfl⟩) rfl rfl (by decide) rfl) ?_;refine dG rfl aA ?_;refine qd (ai ?_);change Awp _ _ _ _ _;refine ae (xa 10 (aa (aq (x:=.d (.pt _ _)) rfl) (aa (aC eu rfl) (aa (aQ bo rfl rfl rfl) (aa (ak NS (.cons rfl (.cons rfl .nil)) rfl (sG t (Ka t.ar (gZ t.g c) pr).1 Et (by omega) (by omega))) (aa (aq (x:=.d (.pt _ _)) rfl) (aa (aC fw rfl) (aa (aQ bo rfl rfl rfl) (aa (ak NS (.cons rfl (.cons rfl .nil)) rfl (sG t (Ka t.ar (gZ t.g c) pr).2 Et (by omega) (by omega))) (aa aA (aa aA (rs (xa 5 (aa aF (aa (vg rfl rfl) (aa aF (aa (tx rfl rfl) ?_)))))))))))))))));refine aa (bz (cs:=[_,_]) qm gv rfl (.cons rfl (by exact .inl rfl) (.cons rfl (by exact .inl rfl) .nil)) ⟨⟨rfl,by decide⟩,⟨rfl,by decide⟩,trivial⟩ rfl) (aw (aD gv rfl rfl rfl (ay dM rfl rfl (by exact .inr ⟨_,rfl⟩) rfl rfl (by decide) rfl (ai (xq (kE 6 1 [1,2,3,4,5] mixed (by kernel_rfl) (aa (aX (ds:=[_,_]) dM rfl rfl rfl rfl) (aa (aX (ds:=[_,_]) dM rfl rfl rfl rfl) (aa aF (aa aF ?_))))))))));refine aa (bz (cs:=[_,_]) qm gv rfl (.cons rfl (by exact .inl rfl) (.cons rfl (by exact .inl rfl) .nil)) ⟨⟨rfl,by decide⟩,⟨rfl,by decide⟩,trivial⟩ rfl) (aa (Fg (xs:=[_,_]) (ys:=[_,_]) S6 rfl rfl rfl rfl) (aw (vE (Ib dM rfl rfl (by exact .inr ⟨_,rfl⟩) rfl rfl (by decide) rfl) ?_ ?_)))
 ·refine gu rfl rfl rfl (JL (aX (ds:=[_,_]) dM rfl rfl rfl rfl)) ?_
  first|refine gu rfl rfl rfl (JL aF) ?_
  first|refine gu rfl rfl rfl (JL aF) ?_
  first|refine gu rfl rfl rfl (JL (bz (cs:=[_,_]) qm gv rfl (.cons rfl (by exact .inl rfl) (.cons rfl (by exact .inl rfl) .nil)) ⟨⟨rfl,by decide⟩,⟨rfl,by decide⟩,trivial⟩ rfl)) ?_
  first|refine gu rfl rfl rfl (JL (Fg (xs:=[_,_]) (ys:=[_,_]) S6 rfl rfl rfl rfl)) ?_
  exact wC
 refine qC ?_;refine aN rfl aA (ai ?_);change Awp _ _ _ _ _;refine ah ?_;refine⟨_,(.cons (.dn rfl rfl dM rfl) cS),?_⟩;rfl
abbrev RR:=(Int × Int) × Int × Int
def tR(o:RR)(i:Nat):Int × Int:=if i=0 then o.1 else o.2
def um(o:RR)(i:Nat)(r:Int × Int):RR:=if i=0 then (r,o.2) else (o.1,r)
def J0(o:RR):List D:=[.v (.int .i64 o.1.1),.v (.int .i64 o.1.2),.v (.int .i64 o.2.1),.v (.int .i64 o.2.2)]
def xn(re im:Int)(i:Nat):Int:=if i=0 then re else im
def owP(b:Bool)(o:RR)(re im:Int):Nat->RR
 | 0=>o
 | i+1=>um (owP b o re im i) i (MN (if b=true then tR (owP b o re im i) i else (xn re im i,xn re im i)) (xn re im i))
def owF(t:Tsk)(y:Int × Int)(s:Bool × RR)(n:Int):Bool × RR:=(true,owP s.1 s.2 (Bc (jQ t y) n.toNat) (Bg (jQ t y) n.toNat) 2)
def O0(t:Tsk)(y:Int × Int)(lo:Int)(w:Bool):Nat->Bool × RR
 | 0=>(!w,((0,0),0,0))
 | k+1=>owF t y (O0 t y lo w k) (lo+(k:Int))
def Qq(o w:RR):Nat->RR
 | 0=>o
 | i+1=>um (Qq o w i) i ((tR (Qq o w i) i).1+(tR w i).1,(tR (Qq o w i) i).2+(tR w i).2)
def Wx(t:Tsk)(c:Int)(y:Int × Int):RR:=(O0 t y (ml t c y).1 (O5 t c y) ((ml t c y).2 - (ml t c y).1+1).toNat).2
def S7(t:Tsk)(c:Int)(l:List (Int × Int)):RR:=l.foldl (λo y=>Qq o (Wx t c y) 2) ((0,0),0,0)
theorem Dp{t:Tsk}{c:Int}{l:List (Int × Int)}{k:Nat}{y:Int × Int}(h:l[k]?=some y):S7 t c (l.take (k+1))=Qq (S7 t c (l.take k)) (Wx t c y) 2:=by
 obtain⟨bH,hx⟩:=Xt.1 h;unfold S7;rw[Yh bH,hx,List.foldl_append];rfl
def Bd(A:Int)(r:Int × Int):Prop:=(-A≤r.1∧r.1≤A)∧-A≤r.2∧r.2≤A
def Eh(A:Int)(o:RR):Prop:=Bd A o.1∧Bd A o.2
theorem V9{A:Int}{o:RR}(h:Eh A o)(i:Nat):Bd A (tR o i):=by unfold tR;split<;>first|exact h.1|exact h.2
theorem aG4{A:Int}{o:RR}(h:Eh A o)(i:Nat){r:Int × Int}(hr:Bd A r):Eh A (um o i r):=by unfold um;split<;>first|exact⟨hr,h.2⟩|exact⟨h.1,hr⟩
theorem as3{A:Int}{r:Int × Int}(h:Bd A r){n:Int}(hn : -A≤n∧n≤A):Bd A (MN r n):=by
 obtain⟨⟨h1,h2⟩,h3,h4⟩:=h;unfold MN Bd;simp only;omega
theorem Oq{A:Int}{b:Bool}{o:RR}{re im:Int}(h:Eh A o)(h1 : -A≤re∧re≤A)(h2 : -A≤im∧im≤A):∀i,Eh A (owP b o re im i)
 | 0=>h
 | i+1=>by
  have ih:=Oq (b:=b) h h1 h2 i;have hp : -A≤xn re im i∧xn re im i≤A:=by unfold xn;split<;>assumption
  refine aG4 ih i (as3 ?_ hp)
  split
  ·exact V9 ih i
  ·exact⟨hp,hp⟩
theorem Gk{t:Tsk}(h:TskOk t)(y:Int × Int)(lo:Int)(w:Bool):∀k,Eh 4094 (O0 t y lo w k).2
 | 0=>by show Eh 4094 ((0,0),0,0);unfold Eh Bd;decide
 | k+1=>by
  obtain⟨h1,h2⟩:=uo h y (lo+(k:Int)).toNat;exact Oq (Gk h y lo w k) h1 h2 2
theorem V8{A:Int}{o w:RR}(ho:Eh A o)(hA:0≤A)(hw:Eh 4094 w):Eh (A+4094) (Qq o w 2):=by
 obtain⟨⟨⟨a1,a2⟩,a3,a4⟩,⟨a5,a6⟩,a7,a8⟩:=ho;obtain⟨⟨⟨b1,b2⟩,b3,b4⟩,⟨b5,b6⟩,b7,b8⟩:=hw;show Eh _ (um (um o 0 _) 1 _)
 unfold Eh Bd um tR;simp[Qq,um,tR];omega
theorem Ot{t:Tsk}(h:TskOk t){c:Int}{l:List (Int × Int)}:∀k:Nat,k≤l.length->Eh (4094*(k:Int)) (S7 t c (l.take k))
 | 0,_=>by show Eh 0 ((0,0),0,0);unfold Eh Bd;decide
 | k+1,hk=>by
  have ih:=Ot h (c:=c) (l:=l) k (by omega);rw[Dp (Xp (by omega))];have:=V8 ih (by omega) (Gk h l[k] (ml t c l[k]).1 (O5 t c l[k]) ((ml t c l[k]).2 - (ml t c l[k]).1+1).toNat);have e:4094*((k+1:Nat):Int)=4094*(k:Int)+4094:=by omega
  rw[e];exact this
def al8(t:Tsk)(c:Int):RR:=S7 t c (NC t)
theorem two(i:Nat)(h:i<2):i=0∨i=1:=by omega
theorem Sh{o:RR}{i:Nat}(h:i<2):((J0 o).drop (0+((i:Nat):Int).toNat*2)).take 2=[.v (.int .i64 (tR o i).1),.v (.int .i64 (tR o i).2)]:=by rcases two i h with rfl|rfl<;>rfl
theorem Lc{o:RR}{i:Nat}(h:i<2):(J0 o)[0+((i:Nat):Int).toNat*2+0]?=some (.v (.int .i64 (tR o i).1)):=by rcases two i h with rfl|rfl<;>rfl
theorem Lb{o:RR}{i:Nat}(h:i<2):(J0 o)[0+((i:Nat):Int).toNat*2+1]?=some (.v (.int .i64 (tR o i).2)):=by rcases two i h with rfl|rfl<;>rfl
theorem Hd{o:RR}{i:Nat}(h:i<2){a b:Int}:dL (J0 o) (0+((i:Nat):Int).toNat*2) [.v (.int .i64 a),.v (.int .i64 b)]=J0 (um o i (a,b)):=by rcases two i h with rfl|rfl<;>rfl
theorem He{o:RR}{i:Nat}(h:i<2):0+((i:Nat):Int).toNat*2+2≤(J0 o).length:=by show _≤4;omega
theorem aw2{o w:RR}{i:Nat}(h:i<2):tR (Qq o w i) i=tR o i:=by rcases two i h with rfl|rfl<;>rfl
theorem ac5{o:RR}{i:Nat}{r q:Int × Int}:um (um o i r) i q=um o i q:=by unfold um;split<;>rfl
theorem ac6{o:RR}{i:Nat}{r:Int × Int}:tR (um o i r) i=r:=by unfold tR um;split<;>rfl
theorem aw0{b:Bool}{o:RR}{re im:Int}{i:Nat}(hb:b=false):owP b o re im (i+1)=um (um (owP b o re im i) i (xn re im i,xn re im i)) i ((MN ((tR (um (owP b o re im i) i (xn re im i,xn re im i)) i).1,(tR (um (owP b o re im i) i (xn re im i,xn re im i)) i).2) (xn re im i)).1,(MN ((tR (um (owP b o re im i) i (xn re im i,xn re im i)) i).1,(tR (um (owP b o re im i) i (xn re im i,xn re im i)) i).2) (xn re im i)).2):=by
 rw[ac5,ac6];show um _ _ (MN (if b=true then _ else _) _)=_
 rw[Xr (by rw[hb];decide)]
theorem aw1{b:Bool}{o:RR}{re im:Int}{i:Nat}(hb:b=true):owP b o re im (i+1)=um (owP b o re im i) i ((MN ((tR (owP b o re im i) i).1,(tR (owP b o re im i) i).2) (xn re im i)).1,(MN ((tR (owP b o re im i) i).1,(tR (owP b o re im i) i).2) (xn re im i)).2):=by
 show um _ _ (MN (if b=true then _ else _) _)=_
 rw[Xu hb]
theorem ad8{re im:Int}{i:Nat}(h:i<2):([.v (.int .i64 re),.v (.int .i64 im)]:List D)[((i:Nat):Int).toNat]?=some (.v (.int .i64 (xn re im i))):=by rcases two i h with rfl|rfl<;>rfl
theorem NJ(t:Tsk)(c:Int)(h:TskOk t)(hc:Bn t.g c=0):PC qP 27 [.agg (tskC t),.v (.int .i64 (c))] (.da [.agg (J0 (al8 t c)),.v (.int .i64 (0))]):=by
 have wY:=h.n1;have Bi:=h.n2;obtain⟨WZ,ha2⟩:=A5 h
 have hlen:(NC t).length≤1600:=by
  unfold NC;rw[zS,rQ];have:=Nat.mul_le_mul (show t.ne.toNat≤16 by omega) (show t.ne.toNat≤16 by omega);omega
 refine aY (qA Tryz.func27 rfl) rfl Tryz.ntmps27 (rs:=[.cell 4 77,.tmp 5]) Tryz.results27 (by simp) λw0 bQ cH iK=>?_;refine ae (xa 2 (aa (aP rfl (by exact .inr ⟨_,rfl⟩)) (aa (aP rfl (by exact .inl rfl)) (aw (aD Kh rfl rfl rfl (aN rfl aA (ai (xq (xa 6 (aa (ax kJ rfl rfl rfl) (aa (aj bo rfl rfl) (aa (ak am9 (.cons rfl (.cons rfl .nil)) rfl ((by have h:=vq t c h;rw[hc]at h;exact h))) (aa (aq (x:=.d (.da _)) rfl) (aa (au rfl rfl) (aa (au rfl rfl) (aw (aD Kg rfl rfl rfl (ay lg rfl rfl (by exact .inl rfl) rfl rfl (by decide) rfl (aN rfl aA (ai (xq (ae (xa 2 (aa aF (aa (bS rfl rfl) (xc (ao rfl (λbV=>?_) (λbV=>?_))))))))))))))))))))))))))))
 ·
  simp at bV
 ·
  (try simp only[nb,Xv]at bV)
  refine wO ?_;change Awp _ _ _ _ _;refine ae (xa 0 (aw (aD Kh rfl rfl rfl (ai (xq (ae (xa 4 (aa (aQ lg rfl rfl rfl) (aa (aQ lg rfl rfl rfl) (aa (ak VL (.cons rfl .nil) rfl (OH t wY Bi)) (aa (ak am6 (.cons rfl (.cons rfl .nil)) rfl (C9 t (gY t.ne.toNat))) (xc (az (Awp.le (nZ 6 6 0 (cs:=[.pt (tkC t) 0]) rfl rfl rfl rfl bQ) ?_))))))))))))));refine nE (α:=Int × Int) (β:=Nat) (n:=109) (enc:=(VK t)) (items:=NC t) 1000 [(3,.d (.pt [.v (.int .i64 (c))] 0)),(4,.ref 4 0),(6,.d (.pt [.pt (tkC t) 0] 0)),(8,.ref 8 0),(33,.d (.fn (.func 111) [.pt [.sl 1 ((gY t.ne.toNat).map iC)] 0,.pt [.pt (tkC t) 0] 0]))] (λx=>[(4,.box (J0 ((0,0),0,0))),(8,.box (J0 (S7 t c ((NC t).take x))))]) (λk x=>x=k) (λe x=>False) 0 cH ?_ (.inr ⟨rfl,rfl⟩) Tt (Da t (gY t.ne.toNat) h WZ (by omega)) rfl (λ_=>rfl) rfl (λx=>qV (gS (og (by repeat (first|exact trivial|refine⟨.v _,?_⟩))) (gS (og (by repeat (first|exact trivial|refine⟨.v _,?_⟩))) uE))) (λ_=>rfl) rfl (λh=>by cases h) ?_ ?_ ?_
  ·exact vD (λk=>k) _ _ rfl ⟨rfl,rfl,rfl,rfl,rfl,trivial⟩ ⟨rfl,rfl,trivial⟩ rfl (λk b h=>by rw[iK k]at h;cases h)
  ·
   intro w1 tX k x y hI hy;subst hI;have hmy:=Lz (XA hy);obtain⟨hy0,hy3,hy4⟩:=hmy;obtain⟨hy1,hy2⟩:=WZ _ hy0;have CC:x<(NC t).length:=(Xt.1 hy).1;have Rb:=Ot h (c:=c) (l:=NC t) x (by omega);have QZ:0≤(ml t c y).1∧(ml t c y).2≤60:=by unfold ml;simp only;omega
   have dU:=Dp (t:=t) (c:=c) hy;refine ae (xa 0 (aw (aD Bt rfl rfl rfl (ay oQ rfl rfl (by exact .inr ⟨_,rfl⟩) rfl rfl (by decide) rfl (ai ?_)))));change Awp _ _ _ _ _;refine xa 1 (aa (aG (x:=.d (.pt _ _)) rfl) (rn ?_));refine⟨rfl,λw2 tW=>?_⟩;refine az (ae (xa 7 (aa (aj lg rfl rfl) (aa (aj bo rfl rfl) (aa (aX (ds:=[_,_]) oQ rfl rfl rfl rfl) (aa (ak aD5 (.cons rfl (.cons rfl (.cons rfl .nil))) rfl (Jb t c y h hc ⟨⟨hy1,hy2⟩,hy3,by omega⟩)) (aa (aq (x:=.d (.da _)) rfl) (aa (au rfl rfl) (aa (au rfl rfl) (aw (aD gv rfl rfl rfl (ay dM rfl rfl (by exact .inr ⟨_,rfl⟩) rfl rfl (by decide) rfl (aN rfl aA (ai (xq (xa 0 (aw (aD Kh rfl rfl rfl (ai (xq (xa 3 (aa aF (aa (bX rfl) (aa aA (rs (ae (xa 3 (aa (aC eu rfl) (aa (aQ bo rfl rfl rfl) (aa aA (xc (az (bG [14,15,16,17,18,47,48,49,50,51,52,53,54,55,56,57,58,59,60,61,62,63,64,65,66,67,68,69,70,71,72,73,74,75,76,77,78,79,80,81,82] [13] (α:=Nat) (λk=>[(15,T.i ((ml t c y).1+(k:Int))),(14,.d (.v (.bool ((O0 t y (ml t c y).1 (O5 t c y) k).1))))]) (λk=>[(13,.box (J0 (O0 t y (ml t c y).1 (O5 t c y) k).2))]) (λk=>k≤((ml t c y).2 - (ml t c y).1+1).toNat) (λk=>((ml t c y).2 - (ml t c y).1+1).toNat - k) 0 (XC _) ?_ ?_)))))))))))))))))))))))))))))))))
   ·exact xh (ms:=[13]) (by repeat (exact Out.refl _)) ⟨(by ((show T.i _=T.i _;congr 1;omega))),(by rfl),trivial⟩ ⟨(by rfl),trivial⟩
   ·
    intro k hk;refine ae (ae (xa 4 (aa aF (aa (aC fw rfl) (aa (aQ bo rfl rfl rfl) (aa (iG rfl rfl) (xc (ao rfl (λC0=>?_) (λC0=>?_)))))))))
    ·
     (try simp only[nb,Xv]at C0)
     have bH:k<((ml t c y).2 - (ml t c y).1+1).toNat:=by omega
     obtain⟨hre,qK⟩:=uo h y ((ml t c y).1+(k:Int)).toNat;refine wO ?_;change Awp _ _ _ _ _;refine ae (az (ae (xa 6 (aa (aq (x:=.d (.pt _ _)) rfl) (aa aF (aa (bZ rfl) (aa (cj TE rfl rfl (by omega) (by omega)) ?_)))))));refine aa (aj KE rfl (by rw[XK,YA];exact OG (S:=jQ t y) (by omega))) (aa (ak am5 (.cons rfl .nil) rfl (yT _ _ hre qK)) (aw (aD jW rfl rfl rfl (ay fW rfl rfl (by exact .inr ⟨_,rfl⟩) rfl rfl (by decide) rfl (ai (xq (ae (xa 6 (aa (aC rj rfl) (aa (aQ bo rfl rfl rfl) (aa (aC ri rfl) (aa (aQ bo rfl rfl rfl) ?_))))))))))));refine aa (qk (cs:=[_,_]) kF Bt rfl (.cons rfl (by exact .inl rfl) (.cons rfl (by exact .inl rfl) .nil)) ⟨⟨rfl,by decide⟩,⟨rfl,by decide⟩,trivial⟩ rfl) (aa aF (xc (az (bG [17,18,64,65,66,67,68,69,70,71,72,73,74,75,76,77,78,79,80,81,82] [13] (α:=Nat) (λi=>[(64,T.i (i:Int))]) (λi=>[(13,.box (J0 (owP (O0 t y (ml t c y).1 (O5 t c y) k).1 (O0 t y (ml t c y).1 (O5 t c y) k).2 (Bc (jQ t y) ((ml t c y).1+(k:Int)).toNat) (Bg (jQ t y) ((ml t c y).1+(k:Int)).toNat) i)))]) (λi=>i≤2) (λi=>2 - i) 0 (XC _) ?_ ?_))))
     ·exact xh (ms:=[13]) (by repeat (exact Out.refl _)) ⟨(by rfl),trivial⟩ ⟨(by rfl),trivial⟩
     ·
      intro i hi;refine ae (xa 1 (aa (cM rfl rfl) (rs (ao rfl (λqM=>?_) (λqM=>?_)))))
      ·
       (try simp only[nb,Xv]at qM)
       have Az:i<2:=by omega
       have M6:=ad8 (re:=Bc (jQ t y) ((ml t c y).1+(k:Int)).toNat) (im:=Bg (jQ t y) ((ml t c y).1+(k:Int)).toNat) Az;refine wO ?_;change Awp _ _ _ _ _;refine ae (az (ae (xa 4 (aa aF (aa (Fb kF bo rfl rfl (by omega) (by omega) M6) (aa aA (aa aA (rs (ae (xa 2 (aa aF (aa (bX rfl) (xc (ao rfl (λl7=>?_) (λl7=>?_)))))))))))))))
       ·
        (try simp only[nb,Xv]at l7)
        have Jt:=aw0 (o:=(O0 t y (ml t c y).1 (O5 t c y) k).2) (re:=Bc (jQ t y) ((ml t c y).1+(k:Int)).toNat) (im:=Bg (jQ t y) ((ml t c y).1+(k:Int)).toNat) (i:=i) l7;refine xa 5 (aa aF (aa aF (aa aF ?_)));refine aa (bz (cs:=[_,_]) qm gv rfl (.cons rfl (by exact .inl rfl) (.cons rfl (by exact .inl rfl) .nil)) ⟨⟨rfl,by decide⟩,⟨rfl,by decide⟩,trivial⟩ rfl) (aa (bA sW rfl rfl (by omega) (by omega)) (aw (ay (cs':=_) dM rfl rfl (by exact .inr ⟨_,rfl⟩) rfl rfl (He Az) (Hd Az) (ai ?_))));change Awp _ _ _ _ _;refine xa 7 (aa aF (aa aF (aa (bA sW rfl rfl (by omega) (by omega)) (aa (aX (ds:=[_,_]) dM rfl rfl (Sh Az) rfl) (aa aF (aa (ak am4 (.cons rfl (.cons rfl .nil)) rfl (MM _ _ _)) (aa (bA sW rfl rfl (by omega) (by omega)) (aw (ay (cs':=_) dM rfl rfl (by exact .inr ⟨_,rfl⟩) rfl rfl (He Az) (Hd Az) (ai ?_))))))))));change Awp _ _ _ _ _;refine xa 2 ?_;refine aa (bC rfl rfl xi) (aa aF (rn ?_));refine⟨i+1,by omega,by omega,?_⟩;exact xh (ms:=[13]) (by repeat (first|exact Out.head rfl rfl|(refine Out.put ?_ rfl)|(refine Out.site ?_ rfl))) ⟨(by rfl),trivial⟩ ⟨(by ((show Site.box _=Site.box _;(rw[Jt];done)))),trivial⟩
       ·
        (try simp only[nb,Xv]at l7)
        have Jt:=aw1 (o:=(O0 t y (ml t c y).1 (O5 t c y) k).2) (re:=Bc (jQ t y) ((ml t c y).1+(k:Int)).toNat) (im:=Bg (jQ t y) ((ml t c y).1+(k:Int)).toNat) (i:=i) l7;refine wO ?_;change Awp _ _ _ _ _;refine xa 7 (aa aF (aa aF (aa (bA sW rfl rfl (by omega) (by omega)) (aa (aX (ds:=[_,_]) dM rfl rfl (Sh Az) rfl) (aa aF (aa (ak am4 (.cons rfl (.cons rfl .nil)) rfl (MM _ _ _)) (aa (bA sW rfl rfl (by omega) (by omega)) (aw (ay (cs':=_) dM rfl rfl (by exact .inr ⟨_,rfl⟩) rfl rfl (He Az) (Hd Az) (ai ?_))))))))));change Awp _ _ _ _ _;refine xa 2 ?_;refine aa (bC rfl rfl xi) (aa aF (rn ?_));refine⟨i+1,by omega,by omega,?_⟩;exact xh (ms:=[13]) (by repeat (first|exact Out.head rfl rfl|(refine Out.put ?_ rfl)|(refine Out.site ?_ rfl))) ⟨(by rfl),trivial⟩ ⟨(by ((show Site.box _=Site.box _;(rw[Jt];done)))),trivial⟩
      ·
       (try simp only[nb,Xv]at qM)
       have hi3:i=2:=by omega
       subst hi3;refine bJ ?_;change Awp _ _ _ _ _;refine xa 1 (aa aA (rn ?_));change Awp _ _ _ _ _;refine xa 3 (aa aF ?_);refine aa (bC rfl rfl xi) (aa aA (rn ?_));refine⟨k+1,by omega,by omega,?_⟩;exact xh (ms:=[13]) (by repeat (first|exact Out.head rfl rfl|(refine Out.put ?_ rfl)|(refine Out.site ?_ rfl)|(refine Out.sN ?_ rfl rfl rfl))) ⟨(by ((show T.i _=T.i _;congr 1;omega))),(by rfl),trivial⟩ ⟨(by rfl),trivial⟩
    ·
     (try simp only[nb,Xv]at C0)
     have vP:k=((ml t c y).2 - (ml t c y).1+1).toNat:=by omega
     have hoe:(O0 t y (ml t c y).1 (O5 t c y) k).2=Wx t c y:=by rw[vP];rfl
     rw[hoe];refine bJ ?_;change Awp _ _ _ _ _;refine ae (xa 1 (aa aF (xc (az (bG [19,83,84,85,86,87,88,89,90,91,92,93,94,95,96,97,98,99,100,101,102,103,104,105,106,107] [1008] (α:=Nat) (λi=>[(83,T.i (i:Int))]) (λi=>[(1008,.box (J0 (Qq (S7 t c ((NC t).take x)) (Wx t c y) i)))]) (λi=>i≤2) (λi=>2 - i) 0 (XC _) ?_ ?_)))))
     ·exact xh (ms:=[1008]) (by repeat (exact Out.refl _)) ⟨(by rfl),trivial⟩ ⟨(by rfl),trivial⟩
     ·
      intro i hi;refine ae (xa 1 (aa (cM rfl rfl) (rs (ao rfl (λVq=>?_) (λVq=>?_)))))
      ·
       (try simp only[nb,Xv]at Vq)
       have Az:i<2:=by omega
       obtain⟨⟨q1,q2⟩,q3,q4⟩:=V9 Rb i;obtain⟨⟨q5,q6⟩,q7,q8⟩:=V9 (show Eh 4094 (Wx t c y) from Gk h y _ _ _) i;have tZ:=aw2 (o:=S7 t c ((NC t).take x)) (w:=Wx t c y) Az;refine wO ?_;change Awp _ _ _ _ _;refine ae (az (ae (xa 2 (aa aF (aa aA (rn ?_))))));change Awp _ _ _ _ _;refine xa 21 (aa aF (aa aF (aa (bA sW rfl rfl (by omega) (by omega)) (aa (aC eu rfl) (aa (aQ bo rfl rfl (Lc Az)) (aa aF (aa (bA sW rfl rfl (by omega) (by omega)) (aa (aC eu rfl) (aa (aQ bo rfl rfl (Lc Az)) (aa (bC rfl rfl (lL.mk (by rw[tZ];omega) (by rw[tZ];omega))) (aa aF (aa (bA sW rfl rfl (by omega) (by omega)) (aa (aC fw rfl) (aa (aQ bo rfl rfl (Lb Az)) (aa aF (aa (bA sW rfl rfl (by omega) (by omega)) (aa (aC fw rfl) (aa (aQ bo rfl rfl (Lb Az)) (aa (bC rfl rfl (lL.mk (by rw[tZ];omega) (by rw[tZ];omega))) ?_)))))))))))))))))));refine aa (bz (cs:=[_,_]) qm gv rfl (.cons rfl (by exact .inl rfl) (.cons rfl (by exact .inl rfl) .nil)) ⟨⟨rfl,by decide⟩,⟨rfl,by decide⟩,trivial⟩ rfl) (aa (bA sW rfl rfl (by omega) (by omega)) (aw (ay (cs':=_) dM rfl rfl (by exact .inr ⟨_,rfl⟩) rfl rfl (He Az) (Hd Az) (ai ?_))));change Awp _ _ _ _ _;refine xa 2 ?_;refine aa (bC rfl rfl xi) (aa aF (rn ?_));refine⟨i+1,by omega,by omega,?_⟩;exact xh (ms:=[1008]) (by repeat (first|exact Out.head rfl rfl|(refine Out.put ?_ rfl)|(refine Out.site ?_ rfl))) ⟨(by rfl),trivial⟩ ⟨(by rfl),trivial⟩
      ·
       (try simp only[nb,Xv]at Vq)
       have hi3:i=2:=by omega
       subst hi3;refine bJ (.inl ⟨rfl,x+1,rfl,?_⟩);exact jA [] _ tW rfl ⟨(by rfl),(by (show Site.box _=Site.box _;(rw[dU];done))),trivial⟩ rfl
  ·
   intro x hI;have W4:x=(NC t).length:=hI;subst W4;rw[YL]at *;change Awp _ _ _ _ _;refine ae (xa 1 (aa (aX (ds:=[_,_,_,_]) KC rfl rfl rfl rfl) (aw (ay KC rfl rfl (by exact .inr ⟨_,rfl⟩) rfl rfl (by decide) rfl (aN rfl aA (ai ?_))))));change Awp _ _ _ _ _;refine ah ?_;refine⟨_,(.cons (.dn rfl rfl KC rfl) cS),?_⟩;rfl
  ·
   exact λe x h=>h.elim
def Fu:Tsk:=⟨af2.ar,1,exB,⟨0,400,1,1,50⟩⟩
theorem Dn(a0 a1 b0 b1:Int)(w:World):(Op.equalIn (9998+1) 76 (.agg #[iW a0,iW a1]) (.agg #[iW b0,iW b1])).run qP w=.ok (decide ([a0,a1]=[b0,b1])) w:=by
 have hf:(qP.fieldsOf 76).toList=[⟨ "Lo",3,0,false,"","",0⟩,⟨ "Hi",3,1,false,"","",8⟩]:=by kernel_rfl
 rw[show (9998+1:Nat)=9997+1+1 from rfl,run_equalIn_struct w (9997+1) 76 _ _ (by kernel_rfl) (by kernel_rfl),hf];have u3:=(qU Tryz.underlying3)
 simp[Op.eqFields,part,isAgg,run_underlying u3,iW,run_equalIn_int,u3,Result.andThen]
 (repeat' split)<;>simp_all
theorem al7:EqI qP 77 4:=by
 intro xs ys hx hy w
 match xs,ys,hx,hy with
 | [a0,a1,a2,a3],[b0,b1,b2,b3],_,_=>
  refine⟨λx y=>run_eqGuard_agg w .eql 77 x y _ _ (by kernel_rfl),λx y=>run_eqGuard_agg w .neq 77 x y _ _ (by kernel_rfl),?_⟩;obtain⟨i,hi,Az⟩:=lJ sW;have hz:∀w,(sizeOf 76).run qP w=.ok 2 w:=λw=>by simp[sizeOf,bO hi,Az]
  have h1:=Dn a0 a1 b0 b1 w;have h2:=Dn a2 a3 b2 b3 w;simp only[iW]at h1 h2;rw[show (10000:Nat)=9998+1+1 from rfl,run_equalIn_array w (9998+1) _ _ (iq sW) hi,show qP.cellsOf 76=2 from by kernel_rfl];simp[Op.eqItems,List.range,List.range.loop,part,isAgg,iW,Result.andThen,run_underlying (qU Tryz.underlying76),hz,h1,h2]
  (repeat' split)<;>simp_all
theorem LY  : PC qP 26 [] (.agg (tskC Fu)):=by
 refine aY (qA Tryz.func26 rfl) rfl Tryz.ntmps26 (rs:=[.cell 0 37]) Tryz.results26 (by simp) λw0 bQ cH iK=>?_;refine ae (xa 0 (aw (aD Pk rfl rfl rfl (ai (xq (xa 0 (aw ?_)))))));refine za xf Kj Ty rfl rfl rfl rfl (by (try simp only[Xo]);omega) (by (try simp only[Xo]);omega) rfl rfl ?_;refine aN rfl (Lu (u:=[.v (.int .i64 1)]) (v:=[]) ae1 Pm rfl (by exact .one rfl rfl (by exact .one rfl rfl .nil)) (by exact⟨⟨rfl,by decide⟩,⟨rfl,by decide⟩,trivial⟩) (by rfl)) (aD Pm rfl rfl rfl (Io (HL (k:=1) (ts:=[_,_]) rfl rfl) ?_));refine A2 BD rfl rfl rfl rfl rfl rfl rfl (ai (xq (kE 4 2 [2,3] mixed (by kernel_rfl) (aa (aC fU rfl) (aa (fO (x:=.rs _) oF rfl rfl rfl) (aa (aC fU rfl) (aa (fO (x:=.rs _) oF rfl rfl rfl) (aw ?_))))))));refine UQ (gL xf rfl rfl rfl (by omega) (by (simp;done))) ?_ ?_
 ·refine gu rfl rfl rfl (JL (aC fU rfl)) ?_
  refine gu rfl rfl rfl (JL (fO (x:=.rs _) oF rfl rfl rfl)) ?_;exact wC
 refine vE (Gf xV rfl rfl (by exact .inl rfl) rfl rfl (i:=2) (j:=0) rfl rfl (by decide) rfl) ?_ ?_
 ·refine gu rfl rfl rfl (JL (aC fU rfl)) ?_
  refine gu rfl rfl rfl (JL (fO (x:=.rs _) oF rfl rfl rfl)) ?_;exact wC
 refine qC ?_;refine aN rfl (gL xf rfl rfl rfl (by omega) (by (simp;done))) (jL xV rfl rfl (by exact .inl rfl) rfl rfl (i:=3) (j:=0) rfl rfl (by decide) rfl (ai (xq (Awp.le (tB 1 2 1 rfl rfl rfl rfl bQ) ?_))));refine Awp.le (HM 1 (Qy 1 exB) rfl rfl (by intro j d h;match j,h with|0,h=>cases h;rfl|1,h=>cases h;rfl)) ?_;refine xa 6 (aa (ak aD6 .nil rfl (af1)) (aa (Lp Rk po rfl rfl rfl) (aa (aX (ds:=[_,_]) BD rfl rfl rfl rfl) ?_)));refine aa (bz (cs:=[_,_]) LG r9 rfl (.cons rfl (by exact .inl rfl) (.cons rfl (by exact .inl rfl) .nil)) ⟨⟨rfl,by decide⟩,⟨rfl,by decide⟩,trivial⟩ rfl) ?_;refine aa (bz (cs:=[_,_,_,_,_]) ae0 Xd rfl (.cons rfl (by exact .inr ⟨_,rfl⟩) (.cons rfl (by exact .inl rfl) (.cons rfl (by exact .inl rfl) (.cons rfl (by exact .inl rfl) .nil)))) ⟨⟨rfl,by decide⟩,⟨rfl,by decide⟩,⟨rfl,by decide⟩,⟨rfl,by decide⟩,trivial⟩ rfl) ?_;refine aa (bz ad9 Pk rfl (.cons rfl (by exact .inr ⟨_,rfl⟩) (.cons rfl (by exact .inr ⟨_,rfl⟩) (.cons rfl (by exact .inr ⟨_,rfl⟩) .nil))) ⟨⟨rfl,by decide⟩,⟨rfl,by decide⟩,⟨rfl,by decide⟩,trivial⟩ rfl) (aw (ay kJ rfl rfl (by exact .inr ⟨_,rfl⟩) rfl rfl (by decide) rfl (ai ?_)));change Awp _ _ _ _ _;refine ah ?_;refine⟨_,(.cons (.dn rfl rfl kJ rfl) .nil),?_⟩;rfl
def sbB(a b c d:Nat):Bool:=bif decide ((a:Int)=(c:Int)) then decide ((b:Int)=(d:Int)) else false
theorem u4(a b c d:Nat):PC qP 29 [.v (.complex .f64 a b),.v (.complex .f64 c d)] (.v (.bool (sbB a b c d))):=by
 refine av (qA Tryz.func29 rfl) rfl Tryz.ntmps29 (rs:=[.tmp 4]) Tryz.results29 (by simp) λw0=>?_;refine ae (xa 1 (aa aA (rs (xa 17 (aa aF (aa (Fa rfl) (aa (zP (e:=Extern.MathFloatBits.float64bits) (qA Tryz.func70 rfl) (by kernel_rfl) (by kernel_rfl) (by kernel_rfl) (by kernel_rfl) rfl rfl (λw=>rfl) rfl) (aa aF (aa (Fa rfl) (aa (zP (e:=Extern.MathFloatBits.float64bits) (qA Tryz.func70 rfl) (by kernel_rfl) (by kernel_rfl) (by kernel_rfl) (by kernel_rfl) rfl rfl (λw=>rfl) rfl) (aa (fG rfl rfl) (aa aF (aE rfl rfl (λhG=>aF) (aE rfl rfl (λhG=>(Fc rfl)) (aE rfl rfl (λhG=>(zP (e:=Extern.MathFloatBits.float64bits) (qA Tryz.func70 rfl) (by kernel_rfl) (by kernel_rfl) (by kernel_rfl) (by kernel_rfl) rfl rfl (λw=>rfl) rfl)) (aE rfl rfl (λhG=>aF) (aE rfl rfl (λhG=>(Fc rfl)) (aE rfl rfl (λhG=>(zP (e:=Extern.MathFloatBits.float64bits) (qA Tryz.func70 rfl) (by kernel_rfl) (by kernel_rfl) (by kernel_rfl) (by kernel_rfl) rfl rfl (λw=>rfl) rfl)) (aE rfl rfl (λhG=>(fG rfl rfl)) (aT rfl rfl rfl rfl rfl rfl ?_))))))))))))))))))));refine aa aA (xc (ah ?_));refine⟨_,cS,?_⟩;rfl
theorem QL(l m:List Int):PC qP 24 [.sl 1 (l.map iC),.sl 1 (m.map iC)] (.v (.bool (decide (l=m)))):=by
 refine av (qA Tryz.func24 rfl) rfl Tryz.ntmps24 (rs:=[.tmp 4]) Tryz.results24 (by simp) λw0=>?_;refine ae (xa 1 (aa aA (rs (ae (xa 5 (aa (aq (x:=.d (.sl _ _)) rfl) (aa (cd iX rfl (by exact aV _ _)) (aa (aq (x:=.d (.sl _ _)) rfl) (aa (cd iX rfl (by exact aV _ _)) (aa (bS rfl rfl) (xc (bm (t:=6) rfl (λMY=>?_)))))))))))))
 (try simp only[Xo]at MY)
 refine bm (t:=8) rfl (λMW=>?_)
 (try simp only[Xo]at MW)
 refine ao rfl (λbW=>?_) (λbW=>?_)
 ·
  (try simp only[nb,Xv]at bW)
  have hz:decide (l=m)=false:=XV (λe=>by rw[e]at bW;omega);refine ae (xa 1 (aa aA (xc (ah ?_))));refine⟨_,cS,?_⟩;rw[hz];rfl
 ·
  (try simp only[nb,Xv]at bW)
  have WU:l.length=m.length:=by omega
  refine wO ?_;change Awp _ _ _ _ _;refine ae (ae (xa 1 (aa aA (xc (az (bG [4,5,11,12,13,14,15,16,17,18,19,20,21,22,23,24,25] [] (α:=Nat) (λk=>[(5,T.i (k:Int))]) (λk=>[]) (λk=>k≤l.length∧l.take k=m.take k) (λk=>l.length - k) 0 ⟨XC _,rfl⟩ ?_ ?_))))))
  ·exact xh (ms:=[]) (by repeat (exact Out.refl _)) ⟨(by rfl),trivial⟩ trivial
  ·
   intro k ⟨hk,hf⟩;refine ae (ae (xa 4 (aa aF (aa (aq (x:=.d (.sl _ _)) rfl) (aa (cd iX rfl (by exact aV _ _)) (aa (cM rfl rfl) (xc (bm (t:=12) rfl (λMZ=>?_)))))))))
   (try simp only[Xo]at MZ)
   refine ao rfl (λeJ=>?_) (λeJ=>?_)
   ·
    (try simp only[nb,Xv]at eJ)
    have bH:k<l.length:=by omega
    obtain⟨x,hx⟩:∃x,l[k]?=some x:=⟨_,Xp bH⟩
    obtain⟨y,hy⟩:∃y,m[k]?=some y:=⟨_,Xp (by omega)⟩
    refine wO ?_;change Awp _ _ _ _ _;refine ae (az (ae (xa 9 (aa (aq (x:=.d (.sl _ _)) rfl) (aa aF (aa (aJ gK rfl rfl (by omega) (cm (k:=k) (by omega) hx)) (aa (aj bo rfl rfl) (aa (aq (x:=.d (.sl _ _)) rfl) (aa aF (aa (aJ gK rfl rfl (by omega) (cm (k:=k) (by omega) hy)) (aa (aj bo rfl rfl) (aa (bS rfl rfl) (xc (ao rfl (λl6=>?_) (λl6=>?_)))))))))))))))
    ·
     (try simp only[nb,Xv]at l6)
     have hz:decide (l=m)=false:=XV (λe=>by rw[e,hy]at hx;have:=YT hx;omega);refine ae (xa 1 (aa aA (xc (ah ?_))));refine⟨_,cS,?_⟩;rw[hz];rfl
    ·
     (try simp only[nb,Xv]at l6)
     have WA:x=y:=by omega
     have Jt:l.take (k+1)=m.take (k+1):=by rw[Yh bH,Yh (by omega),hf,(Xt.1 hx).2,(Xt.1 hy).2,WA]
     refine wO ?_;change Awp _ _ _ _ _;refine xa 3 (aa aF ?_);refine aa (bC rfl rfl xi) (aa aA (rn ?_));refine⟨k+1,⟨by omega,Jt⟩,by omega,?_⟩;exact xh (ms:=[]) (by repeat (first|exact Out.head rfl rfl|(refine Out.put ?_ rfl))) ⟨(by rfl),trivial⟩ trivial
   ·
    (try simp only[nb,Xv]at eJ)
    have hz:decide (l=m)=true:=X5 (by rw[<-Yo (l:=l) (i:=k) (by omega),hf,Yo (by omega)]);refine bJ ?_;change Awp _ _ _ _ _;refine ae (xa 1 (aa aA (xc (ah ?_))));refine⟨_,cS,?_⟩;rw[hz];rfl
theorem ak8:vlI Fu 0=((30,-20),1):=by decide +kernel
theorem al0:al8 Fu 0=((30,30),-20,-20):=by decide +kernel
theorem ak9:pz ⟨0,0,3,1,1⟩ [5,1,5]=([0,2],0):=by decide +kernel
theorem al4:dealR 2 [[1,0],[]]=(1,0):=by decide +kernel
theorem al5:cz 30 (-20)=.v (.complex .f64 4629137466983448576 13849694754071117824):=by
 have h1:FloatKind.f64.nearest 30=4629137466983448576:=by decide +kernel
 have h2:FloatKind.f64.nearest (-20)=13849694754071117824:=by decide +kernel
 unfold cz;rw[h1,h2]
theorem VC:ud exB:=by
 have h3:(0::0::30 :: -20::List.replicate 60 0:List Int).map FloatKind.f32.nearest=exB:=by decide +kernel
 have h4:∀n∈(0::0::30 :: -20::List.replicate 60 0:List Int),-2047≤n∧n≤2047:=by decide +kernel
 intro b hb;rw[<-h3]at hb;obtain⟨n,hn,rfl⟩:=X6.1 hb;have hw:=TQ (h4 n hn).1 (h4 n hn).2;rw[hw.v];exact hw
theorem Hu:TskOk Fu:=⟨by decide +kernel,by decide,by decide,by decide +kernel,VC,by decide,by decide +kernel,by decide,by decide,by decide +kernel,by decide +kernel⟩
theorem LX:Bn Fu.g 0=0:=by decide +kernel
theorem DW  : PC qP 5 [] (.v (.bool (true))):=by
 refine aY (qA Tryz.func5 rfl) rfl Tryz.ntmps5 (rs:=[.tmp 0]) Tryz.results5 (by simp) λw0 bQ cH iK=>?_;refine ae (xa 1 (aa aA (rs (xa 9 (aa (ak an4 .nil rfl (LY)) (aa (ak aE6 (.cons rfl (.cons rfl .nil)) rfl ((by have h:=Iz Fu 0 Hu LX;rw[ak8,al5]at h;exact h))) (aa (aq (x:=.d (.da _)) rfl) (aa (au rfl rfl) (aa (au rfl rfl) (aa (au rfl rfl) (aa aA (aa aA (aa aA (rs (xa 5 (aa (ak an4 .nil rfl (LY)) (aa (ak aE5 (.cons rfl (.cons rfl .nil)) rfl ((by have h:=NJ Fu 0 Hu LX;rw[al0]at h;exact h))) (aa (aq (x:=.d (.da _)) rfl) (aa (au rfl rfl) (aa (au rfl rfl) (aw (aD Kh rfl rfl rfl (ay KC rfl rfl (by exact .inr ⟨_,rfl⟩) rfl rfl (by decide) rfl (aN rfl aA (ai (xq (xa 8 ?_)))))))))))))))))))))))))));refine aa (bz (cs:=[_,_,_,_,_]) ae0 Xd rfl (.cons rfl (by exact .inl rfl) (.cons rfl (by exact .inl rfl) (.cons rfl (by exact .inl rfl) .nil))) ⟨⟨rfl,by decide⟩,⟨rfl,by decide⟩,⟨rfl,by decide⟩,trivial⟩ rfl) (aa (bu gK Br rfl rfl (by decide) (.cons rfl (by exact .inl rfl) (.cons rfl (by exact .inl rfl) (.cons rfl (by exact .inl rfl) .nil))) ⟨rfl,rfl,rfl,rfl,rfl,rfl,trivial⟩ rfl (by decide) rfl) (aa (ak aE9 (.cons rfl (.cons rfl .nil)) rfl ((by have h:=Qo ⟨0,0,3,1,1⟩ [5,1,5];rw[ak9]at h;exact h))) (aa (aq (x:=.d (.da _)) rfl) (aa (au rfl rfl) (aa (au rfl rfl) (aa (aG (x:=.d (.sl _ _)) rfl) (aa aA (rs (xa 9 (aa (bu gK Br rfl rfl (by decide) (.cons rfl (by exact .inl rfl) (.cons rfl (by exact .inl rfl) .nil)) ⟨rfl,rfl,rfl,rfl,trivial⟩ rfl (by decide) rfl) (aa (bu gK Br rfl rfl (by decide) .nil trivial rfl (by decide) rfl) (aa (bu uW TM rfl rfl (by decide) (.cons rfl (by exact .inl rfl) (.cons rfl (by exact .inl rfl) .nil)) ⟨rfl,rfl,rfl,rfl,trivial⟩ rfl (by decide) rfl) (aa (ak VM (.cons rfl (.cons rfl .nil)) rfl ((by have h:=nD 2 [[1,0],[]];rw[al4]at h;exact h))) (aa (aq (x:=.d (.da _)) rfl) (aa (au rfl rfl) (aa (au rfl rfl) (aa aA (aa aA (rs (xa 39 (aa aF (aa (fG rfl rfl) (aa aF (aE rfl rfl (λhG=>aF) (aE rfl rfl (λhG=>(ak an3 (.cons rfl (.cons rfl .nil)) rfl (u4 4629137466983448576 13849694754071117824 4629137466983448576 13849694754071117824))) (aT rfl rfl rfl rfl rfl rfl ?_))))))))))))))))))))))))));refine aa aF (aE rfl rfl (λhG=>aF) (aE rfl rfl (λhG=>(fG rfl rfl)) (aT rfl rfl rfl rfl rfl rfl ?_)));refine aa aF (aE rfl rfl (λhG=>aF) (aE rfl rfl (λhG=>(fG rfl rfl)) (aT rfl rfl rfl rfl rfl rfl ?_)));refine aa aF (aE rfl rfl (λhG=>(aX (ds:=[_,_,_,_]) KC rfl rfl rfl rfl)) ?_);refine aE rfl rfl (λhG=>(bz (cs:=[_,_]) qm gv rfl (.cons rfl (by exact .inl rfl) (.cons rfl (by exact .inl rfl) .nil)) ⟨⟨rfl,by decide⟩,⟨rfl,by decide⟩,trivial⟩ rfl)) ?_;refine aE rfl rfl (λhG=>(bz (cs:=[_,_]) qm gv rfl (.cons rfl (by exact .inl rfl) (.cons rfl (by exact .inl rfl) .nil)) ⟨⟨rfl,by decide⟩,⟨rfl,by decide⟩,trivial⟩ rfl)) ?_;refine aE rfl rfl (λhG=>(qk (cs:=[_,_,_,_]) sW Kh rfl (.cons rfl (by exact .inr ⟨_,rfl⟩) (.cons rfl (by exact .inr ⟨_,rfl⟩) .nil)) ⟨⟨rfl,by decide⟩,⟨rfl,by decide⟩,trivial⟩ rfl)) (aE rfl rfl (λhG=>(Fg (xs:=[_,_,_,_]) (ys:=[_,_,_,_]) al7 rfl rfl rfl rfl)) (aT rfl rfl rfl rfl rfl rfl ?_));refine aa aF (aE rfl rfl (λhG=>aF) (aE rfl rfl (λhG=>(fG rfl rfl)) (aT rfl rfl rfl rfl rfl rfl ?_)));refine aa aF (aE rfl rfl (λhG=>(aq (x:=.d (.sl _ _)) rfl)) (aE rfl rfl (λhG=>(bu gK Br rfl rfl (by decide) (.cons rfl (by exact .inl rfl) (.cons rfl (by exact .inl rfl) .nil)) ⟨rfl,rfl,rfl,rfl,trivial⟩ rfl (by decide) rfl)) (aE rfl rfl (λhG=>(ak aE7 (.cons rfl (.cons rfl .nil)) rfl (QL [0,2] [0,2]))) (aT rfl rfl rfl rfl rfl rfl ?_))));refine aa aF (aE rfl rfl (λhG=>aF) (aE rfl rfl (λhG=>(fG rfl rfl)) (aT rfl rfl rfl rfl rfl rfl ?_)));refine aa aF (aE rfl rfl (λhG=>aF) (aE rfl rfl (λhG=>(fG rfl rfl)) (aT rfl rfl rfl rfl rfl rfl ?_)));refine aa aA (xc (ah ?_));refine⟨_,cS,?_⟩;simp[retD,sbB]
theorem ve(g:iZ)(hg:kG g):PC qP 14 [.agg (qO g)] (.v (.int .i64 (g.co*g.ro))):=by
 have yO:=dg hg;obtain⟨x1,x2,z1,z2,c1,c2,r1,r2,s1,s2⟩:=hg;refine av (qA Tryz.func14 rfl) rfl Tryz.ntmps14 (rs:=[.tmp 2]) Tryz.results14 (by simp) λw0=>?_;refine ae (xa 2 (aa (aP rfl (by exact .inr ⟨_,rfl⟩)) (aa aA (rs (xa 6 (aa (af fA rfl) (aa (aj bo rfl rfl) (aa (af l8 rfl) (aa (aj bo rfl rfl) ?_)))))))));refine aa (cZ rfl rfl xi) (aa aA (xc (ah ?_)));refine⟨_,cS,?_⟩;rfl
theorem Hb(g:iZ)(c:Int)(hg:kG g)(h1:0≤c)(h2:c≤10000):PC qP 96 [.agg (qO g),.v (.int .i64 (c))] (.agg (shC (gZ g c))):=by
 have tZ:=GZ hg h1 h2;obtain⟨x1,x2,z1,z2,c1,c2,r1,r2,s1,s2⟩:=hg;obtain⟨m1,m2⟩:=mG h1 c1;obtain⟨d1,d2⟩:=mH h1 c1;obtain⟨⟨a1,a2⟩,a3,a4⟩:=tZ;refine av (qA Tryz.func96 rfl) rfl Tryz.ntmps96 (rs:=[.cell 4 33]) Tryz.results96 (by simp) λw0=>?_;refine ae (xa 1 (aa (aP rfl (by exact .inr ⟨_,rfl⟩)) (aw (aD r9 rfl rfl rfl (ai (xq (xa 23 (aa (af gT rfl) (aa (af gU rfl) (aa (aj bo rfl rfl) (aa aF (aa (af fA rfl) (aa (aj bo rfl rfl) (aa (yo rfl rfl (by omega)) (aa (af oi rfl) (aa (aj bo rfl rfl) ?_))))))))))))))));refine aa (cZ rfl rfl xi) ?_;refine aa (bC rfl rfl xi) (aa (af gT rfl) (aa (af dQ rfl) (aa (aj bo rfl rfl) (aa aF (aa (af fA rfl) (aa (aj bo rfl rfl) ?_))))));refine aa (B5 rfl rfl (by omega) xi) (aa (af oi rfl) (aa (aj bo rfl rfl) ?_));refine aa (cZ rfl rfl xi) ?_;refine aa (bC rfl rfl xi) ?_;refine aa (bz (cs:=[_,_]) LG r9 rfl (.cons rfl (by exact .inl rfl) (.cons rfl (by exact .inl rfl) .nil)) ⟨⟨rfl,by decide⟩,⟨rfl,by decide⟩,trivial⟩ rfl) (aw (ay fM rfl rfl (by exact .inr ⟨_,rfl⟩) rfl rfl (by decide) rfl (ai ?_)));change Awp _ _ _ _ _;refine ah ?_;refine⟨_,(.cons (.dn rfl rfl fM rfl) .nil),?_⟩;rfl
theorem zK(g:iZ):PC qP 95 [.agg (qO g)] (.v (.int .i64 (pW g))):=by
 refine aY (qA Tryz.func95 rfl) rfl Tryz.ntmps95 (rs:=[.tmp 2]) Tryz.results95 (by simp) λw0 bQ cH iK=>?_;refine ae (xa 2 (aa (aP rfl (by exact .inr ⟨_,rfl⟩)) (aa aA (rs (ae (xa 30 (aa (af gT rfl) (aa (af gU rfl) (aa (aj bo rfl rfl) (aa (ak nA (.cons rfl (.cons rfl (.cons rfl .nil))) rfl (cX _ _ _)) (aa (bX rfl) (aa aF (aE rfl rfl (λhG=>(af gT rfl)) (aE rfl rfl (λhG=>(af dQ rfl)) (aE rfl rfl (λhG=>(aj bo rfl rfl)) (aE rfl rfl (λhG=>(ak nA (.cons rfl (.cons rfl (.cons rfl .nil))) rfl (cX _ _ _))) (aE rfl rfl (λhG=>(bX rfl)) (aT rfl rfl rfl rfl rfl rfl ?_))))))))))))))))));refine aa aF (aE rfl rfl (λhG=>(af fA rfl)) (aE rfl rfl (λhG=>(aj bo rfl rfl)) (aE rfl rfl (λhG=>(ak nA (.cons rfl (.cons rfl (.cons rfl .nil))) rfl (cX _ _ _))) (aE rfl rfl (λhG=>(bX rfl)) (aT rfl rfl rfl rfl rfl rfl ?_)))));refine aa aF (aE rfl rfl (λhG=>(af l8 rfl)) (aE rfl rfl (λhG=>(aj bo rfl rfl)) (aE rfl rfl (λhG=>(ak nA (.cons rfl (.cons rfl (.cons rfl .nil))) rfl (cX _ _ _))) (aE rfl rfl (λhG=>(bX rfl)) (aT rfl rfl rfl rfl rfl rfl ?_)))));refine aa aF (aE rfl rfl (λhG=>(af oi rfl)) (aE rfl rfl (λhG=>(aj bo rfl rfl)) (aE rfl rfl (λhG=>(ak nA (.cons rfl (.cons rfl (.cons rfl .nil))) rfl (cX _ _ _))) (aE rfl rfl (λhG=>(bX rfl)) (aT rfl rfl rfl rfl rfl rfl ?_)))));refine xc (ao rfl (λbW=>?_) (λbW=>?_))
 ·
  (try simp only[nb,Xv]at bW)
  have hb:qQ g=false:=by
   cases q:qQ g with
   | false=>rfl
   | true=>unfold qQ at q;simp_all
  have hz:pW g=2:=by unfold pW;rw[hb];rfl
  refine ae (xa 1 (aa aA (xc (ah ?_))));refine⟨_,cS,?_⟩;rw[hz];rfl
 ·
  (try simp only[nb,Xv]at bW)
  have hb:qQ g=true:=by unfold qQ;simp_all
  have hg:=AH hb;have yO:=dg hg;have hz:pW g=c9 (decide (100000<(gZ g (g.co*g.ro - 1)).1)||decide (100000<(gZ g (g.co*g.ro - 1)).2)) 8:=by unfold pW;rw[Xu hb]
  refine wO ?_;change Awp _ _ _ _ _;refine ae (iN 7 [none,none,none,none,none,some 3,some 3] mixed (by kernel_rfl) ?_);refine dG rfl (ax (ds:=[_,_,_,_,_]) mI rfl rfl rfl) ?_;refine dG rfl (ax (ds:=[_,_,_,_,_]) mI rfl rfl rfl) ?_;refine dG rfl (ak VN (.cons rfl .nil) rfl (ve _ (by assumption))) ?_;refine dG rfl (dk rfl rfl xi) ?_;refine dG rfl (ak am2 (.cons rfl (.cons rfl .nil)) rfl (Hb _ _ (by assumption) (by omega) (by omega))) ?_;refine tv (k:=3) rfl rfl (by rfl) (Ac r9 rfl rfl) ?_;refine tv (k:=3) rfl rfl (by rfl) (qx fM rfl rfl (by exact .inr ⟨_,rfl⟩) rfl rfl (by decide) rfl) ?_;refine qd (ai ?_);change Awp _ _ _ _ _;refine ae (ae (xa 8 (aa (aC gU rfl) (aa (aQ bo rfl rfl rfl) (aa (gM rfl rfl) (aa aF (aE rfl rfl (λhG=>(aC dQ rfl)) (aE rfl rfl (λhG=>(aQ bo rfl rfl rfl)) (aE rfl rfl (λhG=>(gM rfl rfl)) (aT rfl rfl rfl rfl rfl rfl ?_))))))))));refine xc (ao rfl (λeJ=>?_) (λeJ=>?_))
  ·
   (try simp only[nb,Xv]at eJ)
   rw[show c9 (decide (100000<(gZ g (g.co*g.ro - 1)).1)||decide (100000<(gZ g (g.co*g.ro - 1)).2)) 8=8 from by unfold c9;rw[Xu (by simpa using eJ)]]at hz;refine ae (xa 1 (aa aA (xc (ah ?_))));refine⟨_,cS,?_⟩;rw[hz];rfl
  ·
   (try simp only[nb,Xv]at eJ)
   rw[show c9 (decide (100000<(gZ g (g.co*g.ro - 1)).1)||decide (100000<(gZ g (g.co*g.ro - 1)).2)) 8=0 from by unfold c9;rw[Xr (by simp;omega)]]at hz;refine wO ?_;change Awp _ _ _ _ _;refine ae (xa 1 (aa aA (xc (ah ?_))));refine⟨_,cS,?_⟩;rw[hz];rfl
theorem DG(l:List Int)(hl:l.length≤10000):PC qP 23 [.sl 1 (l.map iC)] (.sl 1 (l.map iC)):=by
 refine av (qA Tryz.func23 rfl) rfl Tryz.ntmps23 (rs:=[.tmp 2]) Tryz.results23 (by simp) λw0=>?_;refine ae (xa 1 (aa (aG (x:=.d (.sl _ _)) rfl) (rs (xa 0 (aw (Gr gK Br rfl rfl ?_))))));refine aN rfl (aq (x:=.d (.sl _ _)) rfl) ?_;refine eX gK Br by3 rfl (by decide) rfl rfl rfl rfl (by (try simp only[Xo,XI,XH,XL]);omega) (by (try simp only[Xo,XI,XH,XL]);omega) rfl rfl ?_;refine aN rfl (aG (x:=.rs _) rfl) (ai ?_);change Awp _ _ _ _ _;refine ah ?_;refine⟨_,(.cons (.tmp (by exact .rs rfl)) .nil),?_⟩;rfl
theorem Vs(l:List Int)(n:Int):PC qP 43 [.sl 1 (l.map iC),.v (.int .i64 (n))] (.v (.bool (decide (n∈l)))):=by
 refine av (qA Tryz.func43 rfl) rfl Tryz.ntmps43 (rs:=[.tmp 4]) Tryz.results43 (by simp) λw0=>?_;refine ae (xa 1 (aa aA (rs (ae (xa 1 (aa aA (xc (az ?_))))))));refine bG [4,5,6,7,8,9,10,11,12,13,14,15,16,17] [] (α:=Nat) (λk=>[(5,T.i (k:Int))]) (λk=>[]) (λk=>k≤l.length∧n∉l.take k) (λk=>l.length - k) 0 ⟨XC _,by simp⟩ ?_ ?_
 ·exact xh (ms:=[]) (by repeat (exact Out.refl _)) ⟨(by rfl),trivial⟩ trivial
 ·
  intro k ⟨hk,hf⟩;refine ae (ae (xa 4 (aa aF (aa (aq (x:=.d (.sl _ _)) rfl) (aa (cd iX rfl (by exact aV _ _)) (aa (cM rfl rfl) (xc (bm (t:=7) rfl (λMX=>?_)))))))))
  (try simp only[Xo]at MX)
  refine ao rfl (λbV=>?_) (λbV=>?_)
  ·
   (try simp only[nb,Xv]at bV)
   have bH:k<l.length:=by omega
   obtain⟨x,hx⟩:∃x,l[k]?=some x:=⟨_,Xp bH⟩
   refine wO ?_;change Awp _ _ _ _ _;refine ae (az (ae (xa 6 (aa (aq (x:=.d (.sl _ _)) rfl) (aa aF (aa (aJ gK rfl rfl (by omega) (cm (by omega) hx)) (aa (aj bo rfl rfl) (aa aF (aa (fG rfl rfl) (xc (ao rfl (λeJ=>?_) (λeJ=>?_))))))))))))
   ·
    (try simp only[nb,Xv]at eJ)
    have hz:decide (n∈l)=true:=X5 (by rw[<-eJ];exact XA hx);refine ae (xa 1 (aa aA (xc (ah ?_))));refine⟨_,cS,?_⟩;rw[hz];rfl
   ·
    (try simp only[nb,Xv]at eJ)
    have Bi:n∉l.take (k+1):=by
     rw[iB hx];intro q
     rcases YV.1 q with q|q
     ·exact hf q
     ·rw[YS]at q;exact eJ q.symm
    refine wO ?_;change Awp _ _ _ _ _;refine xa 3 (aa aF ?_);refine aa (bC rfl rfl xi) (aa aA (rn ?_));refine⟨k+1,⟨by omega,Bi⟩,by omega,?_⟩;exact xh (ms:=[]) (by repeat (first|exact Out.head rfl rfl|(refine Out.put ?_ rfl))) ⟨(by rfl),trivial⟩ trivial
  ·
   (try simp only[nb,Xv]at bV)
   have hz : decide (n ∈ l) = false := XV (by
     have:k=l.length:=by omega
     rw[this,YL]at hf;exact hf)
   refine bJ ?_;change Awp _ _ _ _ _;refine ae (xa 1 (aa aA (xc (ah ?_))));refine⟨_,cS,?_⟩;rw[hz];rfl
theorem DF(l:List (List Int))(hl:l.length≤10000)(hm:∀x∈l,x.length≤10000):PC qP 10 [.sl 1 (l.map lC)] (.sl 1 (l.map lC)):=by
 refine aY (qA Tryz.func10 rfl) rfl Tryz.ntmps10 (rs:=[.tmp 2]) Tryz.results10 (by simp) λw0 bQ cH iK=>?_;refine ae (xa 1 (aa (aG (x:=.d (.sl _ _)) rfl) (rs (xa 1 (aa (fP) (rn ?_))))));change Awp _ _ _ _ _;refine Awp.le (sI (k:=3) (e:=64) (sz:=1) rfl rfl) ?_;refine ae (ae (xa 1 (aa aA (xc (az (bG [3,4,5,6,7,8,9,10,11,12,13,14,15,16,17,18] [3] (α:=Nat) (λk=>[(4,T.i (k:Int)),(3,.rs 3)]) (λk=>[(3,.row 64 1 ((l.take k).map lC))]) (λk=>k≤l.length) (λk=>l.length - k) 0 (XC _) ?_ ?_))))))
 ·exact xh (ms:=[3]) (by repeat (exact Out.refl _)) ⟨(by rfl),(by rfl),trivial⟩ ⟨(by rfl),trivial⟩
 ·
  intro k hk;have J4:(l.take k).length≤k:=by rw[Ya];omega
  refine ae (ae (xa 4 (aa aF (aa (aq (x:=.d (.sl _ _)) rfl) (aa (cd tC rfl (by exact aV _ _)) (aa (cM rfl rfl) (xc (bm (t:=6) rfl (λMY=>?_)))))))))
  (try simp only[Xo]at MY)
  refine ao rfl (λdB=>?_) (λdB=>?_)
  ·
   (try simp only[nb,Xv]at dB)
   have bH:k<l.length:=by omega
   obtain⟨x,hx⟩:∃x,l[k]?=some x:=⟨_,Xp bH⟩
   have CC:=hm x (XA hx);have tY:(l.take (k+1)).map lC=(l.take k).map lC++[lC x]:=by rw[iB hx,Yw];rfl
   refine wO ?_;change Awp _ _ _ _ _;refine ae (az (xa 7 (aa (aq (x:=.rs _) rfl) (aa (aq (x:=.d (.sl _ _)) rfl) (aa aF (aa (aJ uW rfl rfl (by omega) (cm (by omega) hx)) (aa (aj pn rfl rfl) (aa (ak aE8 (.cons rfl .nil) rfl (DG x (by omega))) (aa (bu uW TM rfl rfl (by decide) (.cons rfl (by exact .inl rfl) .nil) ⟨rfl,rfl,trivial⟩ rfl (by decide) rfl) (aw ?_))))))))));refine eX uW TM aG1 rfl (by decide) rfl rfl rfl rfl (by (try simp only[Xo,XI,XH,XL]);omega) (by (try simp only[Xo,XI,XH,XL]);omega) rfl rfl ?_;refine aN rfl (aG (x:=.rs _) rfl) (ai ?_);change Awp _ _ _ _ _;refine xa 3 (aa aF ?_);refine aa (bC rfl rfl xi) (aa aA (rn ?_));refine⟨k+1,by omega,by omega,?_⟩;exact xh (ms:=[3]) (by repeat (first|exact Out.head rfl rfl|(refine Out.put ?_ rfl)|(refine Out.site ?_ rfl)|(refine Out.dE ?_ rfl))) ⟨(by rfl),(by rfl),trivial⟩ ⟨(by ((show Site.row _ 1 _=Site.row _ 1 _;rw[tY];rfl))),trivial⟩
  ·
   (try simp only[nb,Xv]at dB)
   have vP:k=l.length:=by omega
   subst vP;rw[YL];refine bJ ?_;change Awp _ _ _ _ _;refine ae (xa 2 (aa (aq (x:=.rs _) rfl) (aa (aG (x:=.rs _) rfl) (xc (ah ?_)))));refine⟨_,(.cons (.tmp (by exact .rs rfl)) .nil),?_⟩;rfl
def fewF(dl:List (List Int)):Bool:=decide (dl.length≤18)&&dl.all λl=>decide (l.length≤20)
theorem sF:∀{n:Nat} {l:List Int},l.Nodup->(∀x∈l,0≤x∧x<(n:Int))->l.length≤n
 | 0,[],_,_=>Xw _
 | 0,x::l,_,h=>by have:=h x (XX ..);omega
 | n+1,l,hd,h=>by
  by_cases q:(n:Int)∈l
  ·have h1 : (l.erase (n : Int)).length ≤ n := sF (hd.erase _) (λx hx => by
    have h2:=(hd.mem_erase_iff).1 hx;have h3:=h x h2.2;have h4:=h2.1
    omega)
   rw[List.length_erase_of_mem q]at h1;omega
  ·have h1 : l.length ≤ n := sF hd (λx hx => by
    have h3:=h x hx;have h4:x≠(n:Int):=λe=>q (e ▸ hx)
    omega)
   omega
def wU(n:Int)(ks:List Int):Prop:=ks.Nodup∧∀x∈ks,0≤x∧x≤n - 1
theorem Ag{n:Int}{ks:List Int}{x:Int}(h:wU n ks)(h1:0≤x∧x≤n - 1)(h2:x∉ks):wU n (ks++[x]):=by
 refine⟨List.nodup_append.2 ⟨h.1,by simp,λa ha b hb=>?_⟩,λy hy=>?_⟩
 ·rw[YS]at hb;subst hb;exact λe=>h2 (e ▸ ha)
 ·rcases YV.1 hy with q|q
  ·exact h.2 y q
  ·rw[YS]at q;subst q;exact h1
theorem FJ{n:Int}{ks:List Int}(h:wU n ks)(h1:0≤n):(ks.length:Int)≤n:=by
 have:=sF (n:=n.toNat) h.1 (λx hx=>by have:=h.2 x hx;omega);omega
theorem rm(dl:List (List Int)):PC qP 7 [.sl 1 (dl.map lC)] (.v (.bool (fewF dl))):=by
 refine av (qA Tryz.func7 rfl) rfl Tryz.ntmps7 (rs:=[.tmp 2]) Tryz.results7 (by simp) λw0=>?_;refine ae (xa 1 (aa aA (rs (ae (xa 3 (aa (aq (x:=.d (.sl _ _)) rfl) (aa (cd tC rfl (by exact aV _ _)) (aa (gM rfl rfl) (xc (bm (t:=4) rfl (λhl4=>?_)))))))))))
 (try simp only[Xo]at hl4)
 refine ao rfl (λbW=>?_) (λbW=>?_)
 ·
  (try simp only[nb,Xv]at bW)
  have hz:fewF dl=false:=by unfold fewF;rw[XV (by omega)];rfl
  refine ae (xa 1 (aa aA (xc (ah ?_))));refine⟨_,cS,?_⟩;rw[hz];rfl
 ·
  (try simp only[nb,Xv]at bW)
  have eE:fewF dl=dl.all λl=>decide (l.length≤20):=by unfold fewF;rw[X5 (by omega)];rfl
  refine wO ?_;change Awp _ _ _ _ _;refine ae (ae (xa 1 (aa aA (xc (az ?_)))));refine bG [2,3,7,8,9,10,11,12,13,14,15,16,17,18] [] (α:=Nat) (λk=>[(3,T.i (k:Int))]) (λk=>[]) (λk=>k≤dl.length∧((dl.take k).all λl=>decide (l.length≤20))=true) (λk=>dl.length - k) 0 ⟨XC _,by simp⟩ ?_ ?_
  ·exact xh (ms:=[]) (by repeat (exact Out.refl _)) ⟨(by rfl),trivial⟩ trivial
  ·
   intro k ⟨hk,hf⟩;refine ae (ae (xa 4 (aa aF (aa (aq (x:=.d (.sl _ _)) rfl) (aa (cd tC rfl (by exact aV _ _)) (aa (cM rfl rfl) (xc (bm (t:=8) rfl (λMW=>?_)))))))))
   (try simp only[Xo]at MW)
   refine ao rfl (λeJ=>?_) (λeJ=>?_)
   ·
    (try simp only[nb,Xv]at eJ)
    have bH:k<dl.length:=by omega
    obtain⟨x,hx⟩:∃x,dl[k]?=some x:=⟨_,Xp bH⟩
    refine wO ?_;change Awp _ _ _ _ _;refine ae (az (ae (xa 6 (aa (aq (x:=.d (.sl _ _)) rfl) (aa aF (aa (aJ uW rfl rfl (by omega) (cm (by omega) hx)) (aa (aj pn rfl rfl) (aa (cd iX rfl (by exact aV _ _)) (aa (gM rfl rfl) (xc (bm (t:=16) rfl (λAy=>?_))))))))))))
    (try simp only[Xo]at Ay)
    refine ao rfl (λl6=>?_) (λl6=>?_)
    ·
     (try simp only[nb,Xv]at l6)
     have hz:fewF dl=false:=by
      rw[eE];exact List.all_eq_false.2 ⟨x,XA hx,by rw[XW];omega⟩
     refine ae (xa 1 (aa aA (xc (ah ?_))));refine⟨_,cS,?_⟩;rw[hz];rfl
    ·
     (try simp only[nb,Xv]at l6)
     have Jt:((dl.take (k+1)).all λl=>decide (l.length≤20))=true:=by rw[iB hx,List.all_append,hf];simp;omega
     refine wO ?_;change Awp _ _ _ _ _;refine xa 3 (aa aF ?_);refine aa (bC rfl rfl xi) (aa aA (rn ?_));refine⟨k+1,⟨by omega,Jt⟩,by omega,?_⟩;exact xh (ms:=[]) (by repeat (first|exact Out.head rfl rfl|(refine Out.put ?_ rfl))) ⟨(by rfl),trivial⟩ trivial
   ·
    (try simp only[nb,Xv]at eJ)
    have hz:fewF dl=true:=by rw[eE,<-YL (l:=dl),<-show k=dl.length from by omega];exact hf
    refine bJ ?_;change Awp _ _ _ _ _;refine ae (xa 1 (aa aA (xc (ah ?_))));refine⟨_,cS,?_⟩;rw[hz];rfl
theorem zL(n:Int)(dl:List (List Int)):PC qP 12 [.v (.int .i64 (n)),.sl 1 (dl.map lC)] (.da [.v (.int .i64 ((dealR n dl).1)),.v (.int .i64 ((dealR n dl).2))]):=by
 refine aY (qA Tryz.func12 rfl) rfl Tryz.ntmps12 (rs:=[.tmp 4,.tmp 5]) Tryz.results12 (by simp) λw0 bQ cH iK=>?_;refine ae (xa 2 (aa aA (aa aA (rs (ae (xa 3 (aa aF (aa (ak nA (.cons rfl (.cons rfl (.cons rfl .nil))) rfl (cX _ _ _)) (aa (bX rfl) (xc (ao rfl (λbW=>?_) (λbW=>?_))))))))))))
 ·
  (try simp only[nb,Xv]at bW)
  have hz:dealR n dl=(0,2):=by unfold dealR;rw[Xu (by rw[bW];decide)]
  refine ae (xa 2 (aa aA (aa aA (xc (ah ?_)))));refine⟨_,gz,?_⟩;rw[hz];rfl
 ·
  (try simp only[nb,Xv]at bW)
  have hn:1≤n∧n≤16:=cY.1 bW;refine wO ?_;change Awp _ _ _ _ _;refine ae (ae (xa 3 (aa (aq (x:=.d (.sl _ _)) rfl) (aa (cd tC rfl (by exact aV _ _)) (aa (gM rfl rfl) (xc (bm (t:=13) rfl (λaA5=>?_))))))))
  (try simp only[Xo]at aA5)
  refine ao rfl (λdB=>?_) (λdB=>?_)
  ·
   (try simp only[nb,Xv]at dB)
   have hz:dealR n dl=(0,8):=by unfold dealR;rw[Xr (λq=>q bW),Xu (by omega)]
   refine ae (xa 2 (aa aA (aa aA (xc (ah ?_)))));refine⟨_,gz,?_⟩;rw[hz];rfl
  ·
   (try simp only[nb,Xv]at dB)
   have eE:dealR n dl=if (My n [] 0 dl).1≠0 then (0,(My n [] 0 dl).1) else if ((My n [] 0 dl).2.1.length:Int)<n then (0,14) else ((My n [] 0 dl).2.2,0):=by unfold dealR;rw[Xr (λq=>q bW),Xr (by omega)]
   refine wO ?_;change Awp _ _ _ _ _;refine ae (xa 1 (aa (fP) (rn ?_)));change Awp _ _ _ _ _;refine Awp.le (sI (k:=6) (e:=3) (sz:=1) rfl rfl) ?_;refine ae (xa 1 (aa aA (rs (ae (xa 1 (aa aA (xc (az ?_))))))));refine bG [4,5,6,7,8,9,16,17,18,19,20,21,22,23,24,25,26,27,28,29,30,31,32,33,34,35,36,37,38,39,40,41,42,43,44,45,46,47,48,49,50,51,52,53,54,55,56,57,58,59,60,61,62,63,64,65,66,67,68] [6] (α:=Nat × List Int × Int) (λx=>[(8,T.i (x.1:Int)),(7,.d (.v (.int .i64 (x.2.2)))),(6,.rs 6)]) (λx=>[(6,.row 3 1 (x.2.1.map iC))]) (λx=>x.1≤dl.length∧My n [] 0 dl=My n x.2.1 x.2.2 (dl.drop x.1)∧(0≤x.2.2∧x.2.2≤(x.1:Int))∧wU n x.2.1) (λx=>dl.length - x.1) (0,[],0) ⟨XC _,rfl,⟨by decide,by decide⟩,List.nodup_nil,by simp⟩ ?_ ?_
   ·exact xh (ms:=[6]) (by repeat (exact Out.refl _)) ⟨(by rfl),(by rfl),(by rfl),trivial⟩ ⟨(by rfl),trivial⟩
   ·
    intro x ⟨hk,hh,⟨J8,Rc⟩,bg⟩;refine ae (ae (xa 4 (aa aF (aa (aq (x:=.d (.sl _ _)) rfl) (aa (cd tC rfl (by exact aV _ _)) (aa (cM rfl rfl) (xc (bm (t:=17) rfl (λVd=>?_)))))))))
    (try simp only[Xo]at Vd)
    refine ao rfl (λoM=>?_) (λoM=>?_)
    ·
     (try simp only[nb,Xv]at oM)
     have bH:x.1<dl.length:=by omega
     obtain⟨l,hx⟩:∃l,dl[x.1]?=some l:=⟨_,Xp bH⟩
     rw[N2 hx]at hh;refine wO ?_;change Awp _ _ _ _ _;refine ae (az (ae (ae (xa 1 (aa aA (xc (az (bG [4,5,6,9,22,23,24,25,26,27,28,29,30,31,32,33,34,35,36,37,38,39,40,41,42,43,44,45,46,47,48,49,50,51,52,53,54,55,56,57,58,59,60] [6] (α:=Nat × List Int) (λz=>[(9,T.i (z.1:Int)),(6,.rs 6)]) (λz=>[(6,.row 3 1 (z.2.map iC))]) (λz=>z.1≤l.length∧aH n x.2.1 l=aH n z.2 (l.drop z.1)∧wU n z.2) (λz=>l.length - z.1) (0,x.2.1) ⟨XC _,rfl,bg⟩ ?_ ?_))))))))
     ·exact xh (ms:=[6]) (by repeat (exact Out.refl _)) ⟨(by rfl),(by rfl),trivial⟩ ⟨(by rfl),trivial⟩
     ·
      intro z ⟨hj,hg,QX⟩;refine ae (ae (xa 7 (aa aF (aa (aq (x:=.d (.sl _ _)) rfl) (aa aF (aa (aJ uW rfl rfl (by omega) (cm (by omega) hx)) (aa (aj pn rfl rfl) (aa (cd iX rfl (by exact aV _ _)) (aa (cM rfl rfl) (xc (bm (t:=26) rfl (λaA2=>?_))))))))))))
      (try simp only[Xo]at aA2)
      refine ao rfl (λxy=>?_) (λxy=>?_)
      ·
       (try simp only[nb,Xv]at xy)
       have hlu:z.1<l.length:=by omega
       obtain⟨u,hy⟩:∃u,l[z.1]?=some u:=⟨_,Xp hlu⟩
       rw[Nt hy]at hg;refine wO ?_;change Awp _ _ _ _ _;refine ae (az (ae (ae (xa 11 (aa (aq (x:=.d (.sl _ _)) rfl) (aa aF (aa (aJ uW rfl rfl (by omega) (cm (by omega) hx)) (aa (aj pn rfl rfl) (aa aF (aa (aJ gK rfl rfl (by omega) (cm (by omega) hy)) (aa (aj bo rfl rfl) (aa aF ?_))))))))))));refine aa (dk rfl rfl xi) (aa (ak nA (.cons rfl (.cons rfl (.cons rfl .nil))) rfl (cX _ _ _)) (aa (bX rfl) (xc (ao rfl (λoN=>?_) (λoN=>?_)))))
       ·
        (try simp only[nb,Xv]at oN)
        rw[Xu (by rw[oN];decide)]at hg;have hz:dealR n dl=(0,6):=by rw[eE,hh,hg];rfl
        refine ae (xa 2 (aa aA (aa aA (xc (ah ?_)))));refine⟨_,gz,?_⟩;rw[hz];rfl
       ·
        (try simp only[nb,Xv]at oN)
        have hub:=cY.1 oN;rw[Xr (λq=>q oN)]at hg;refine wO ?_;change Awp _ _ _ _ _;refine ae (ae (xa 9 (aa (aq (x:=.rs _) rfl) (aa (aq (x:=.d (.sl _ _)) rfl) (aa aF (aa (aJ uW rfl rfl (by omega) (cm (by omega) hx)) (aa (aj pn rfl rfl) (aa aF (aa (aJ gK rfl rfl (by omega) (cm (by omega) hy)) (aa (aj bo rfl rfl) (aa (Qi aE0 (.cons (by exact .rs rfl) (.cons (by exact .d _) .nil)) rfl (Vs _ _) (by exact .v _)) (xc (ao rfl (λJv=>?_) (λJv=>?_))))))))))))))
        ·
         (try simp only[nb,Xv]at Jv)
         rw[Xu Jv]at hg;have hz:dealR n dl=(0,24):=by rw[eE,hh,hg];rfl
         refine ae (xa 2 (aa aA (aa aA (xc (ah ?_)))));refine⟨_,gz,?_⟩;rw[hz];rfl
        ·
         (try simp only[nb,Xv]at Jv)
         rw[Xr Jv]at hg;have az4:=Ag QX hub Jv;have hkl:=FJ QX (by omega);have tY:(z.2++[u]).map iC=z.2.map iC++[[.v (.int .i64 u)]]:=by rw[Yw];rfl
         refine wO ?_;change Awp _ _ _ _ _;refine xa 9 (aa (aq (x:=.rs _) rfl) (aa (aq (x:=.d (.sl _ _)) rfl) (aa aF (aa (aJ uW rfl rfl (by omega) (cm (by omega) hx)) (aa (aj pn rfl rfl) (aa aF (aa (aJ gK rfl rfl (by omega) (cm (by omega) hy)) (aa (aj bo rfl rfl) (aa (bu gK Br rfl rfl (by decide) (.cons rfl (by exact .inl rfl) .nil) ⟨rfl,rfl,trivial⟩ rfl (by decide) rfl) (aw ?_))))))))));refine eX gK Br by3 rfl (by decide) rfl rfl rfl rfl (by (try simp only[Xo,XI,XH,XL]);omega) (by (try simp only[Xo,XI,XH,XL]);omega) rfl rfl ?_;refine aN rfl (aG (x:=.rs _) rfl) (ai ?_);change Awp _ _ _ _ _;refine xa 3 (aa aF ?_);refine aa (bC rfl rfl xi) (aa aA (rn ?_));refine⟨(z.1+1,z.2++[u]),⟨by show z.1+1≤_;omega,hg,az4⟩,by show l.length - (z.1+1)<_;omega,?_⟩;exact xh (ms:=[6]) (by repeat (first|exact Out.head rfl rfl|(refine Out.put ?_ rfl)|(refine Out.site ?_ rfl)|(refine Out.dE ?_ rfl))) ⟨(by rfl),(by rfl),trivial⟩ ⟨(by ((show Site.row 3 1 _=Site.row 3 1 _;rw[tY];rfl))),trivial⟩
      ·
       (try simp only[nb,Xv]at xy)
       have hzn:z.1=l.length:=by omega
       rw[hzn,ZI,show aH n z.2 []=(0,z.2) from rfl]at hg;rw[hg,Xr (show ¬((0:Int),z.2).1≠0 from λq=>q rfl)]at hh;refine bJ ?_;change Awp _ _ _ _ _;refine ae (xa 6 (aa (aq (x:=.d (.sl _ _)) rfl) (aa aF (aa (aJ uW rfl rfl (by omega) (cm (by omega) hx)) (aa (aj pn rfl rfl) (aa (cd iX rfl (by exact aV _ _)) (aa (gM rfl rfl) (xc (bm (t:=64) rfl (λQ0=>?_))))))))))
       (try simp only[Xo]at Q0)
       refine ao rfl (λl7=>?_) (λl7=>?_)
       ·
        (try simp only[nb,Xv]at l7)
        rw[Xu (by omega)]at hh;refine xa 3 (aa aF ?_);refine aa (bC rfl rfl xi) (aa aA (rn ?_));change Awp _ _ _ _ _;refine xa 3 (aa aF ?_);refine aa (bC rfl rfl xi) (aa aA (rn ?_));refine⟨(x.1+1,z.2,x.2.2+1),⟨by show x.1+1≤_;omega,hh,⟨by show 0≤x.2.2+1;omega,by show x.2.2+1≤((x.1+1:Nat):Int);omega⟩,QX⟩,by show dl.length - (x.1+1)<_;omega,?_⟩;exact xh (ms:=[6]) (by repeat (first|exact Out.head rfl rfl|(refine Out.put ?_ rfl)|(refine Out.sN ?_ rfl rfl rfl))) ⟨(by rfl),(by rfl),(by rfl),trivial⟩ ⟨(by rfl),trivial⟩
       ·
        (try simp only[nb,Xv]at l7)
        rw[Xr (by omega)]at hh;refine wO ?_;change Awp _ _ _ _ _;refine xa 3 (aa aF ?_);refine aa (bC rfl rfl xi) (aa aA (rn ?_));refine⟨(x.1+1,z.2,x.2.2),⟨by show x.1+1≤_;omega,hh,⟨by show 0≤x.2.2;omega,by show x.2.2≤((x.1+1:Nat):Int);omega⟩,QX⟩,by show dl.length - (x.1+1)<_;omega,?_⟩;exact xh (ms:=[6]) (by repeat (first|exact Out.head rfl rfl|(refine Out.put ?_ rfl)|(refine Out.sN ?_ rfl rfl rfl))) ⟨(by rfl),(by rfl),(by rfl),trivial⟩ ⟨(by rfl),trivial⟩
    ·
     (try simp only[nb,Xv]at oM)
     have vP:x.1=dl.length:=by omega
     rw[vP,ZI,show My n x.2.1 x.2.2 []=(0,(x.2.1,x.2.2)) from rfl]at hh;rw[hh,Xr (show ¬((0:Int),(x.2.1,x.2.2)).1≠0 from λq=>q rfl)]at eE;have hkl:=FJ bg (by omega);refine bJ ?_;change Awp _ _ _ _ _;refine ae (ae (xa 4 (aa (aq (x:=.rs _) rfl) (aa (Ln iX rfl rfl) (aa aF (aa (bS rfl rfl) (rn ?_)))))));change Awp _ _ _ _ _
     skip
     (try simp only[Xo]at aI2)
     refine ao rfl (λNi=>?_) (λNi=>?_)
     ·
      (try simp only[nb,Xv]at Ni)
      try simp only[Xo]at Ni
      have hz:dealR n dl=(0,14):=by rw[eE,Xu (show (((0:Int),(x.2.1,x.2.2)).2.1.length:Int)<n from by show (x.2.1.length:Int)<n;omega)]
      refine ae (xa 2 (aa aA (aa aA (xc (ah ?_)))));refine⟨_,gz,?_⟩;rw[hz];rfl
     ·
      (try simp only[nb,Xv]at Ni)
      try simp only[Xo]at Ni
      have hz:dealR n dl=(x.2.2,0):=by rw[eE,Xr (show ¬(((0:Int),(x.2.1,x.2.2)).2.1.length:Int)<n from by show ¬(x.2.1.length:Int)<n;omega)]
      refine wO ?_;change Awp _ _ _ _ _;refine ae (xa 3 (aa aF (aa aA (aa aA (xc (ah ?_))))));refine⟨_,gz,?_⟩;rw[hz];rfl
def K8(c1 c2 c3:Bool)(n:Int):Int:=if (c1||c2)=true then 2 else if c3=true then 25 else if dP (-2047) n 2047=true then 0 else 2
theorem p7(b:Nat)(h:floatBits .sub .f32 b b=none):PC qP 151 [fd b] (.v (.int .i64 (25))):=by
 refine av (qA Tryz.func151 rfl) rfl Tryz.ntmps151 (rs:=[.tmp 2]) Tryz.results151 (by simp) λw0=>?_;refine ae (xa 1 (aa aA (rs (az (ae (xa 10 (aa aF (aa aF (aa (e9 (by decide) rfl rfl rfl) (aa aF (aE rfl rfl (λhG=>aF) (aE rfl rfl (λhG=>aF) (aE rfl rfl (λhG=>(Lr (by decide) rfl rfl h)) (aE rfl rfl (λhG=>(zO (by decide) rfl rfl rfl)) (aT rfl rfl rfl rfl rfl rfl ?_)))))))))))))));refine aa aA (xc (ao rfl (λbW=>?_) (λbW=>?_)))
 ·
  (try simp only[nb,Xv]at bW)
  refine ae (xa 1 (aa aA (xc (ah ?_))));refine⟨_,cS,?_⟩;rfl
 ·
  rw[show ordB .neq none=true from rfl]at bW;simp[jJ]at bW
theorem zn(b:Nat)(c1 c2 c3:Bool)(n:Int)(hs:floatBits .sub .f32 b b=some 0)(h0:ordB .neq (FloatKind.f32.format.order b b)=false)(h1:ordB .geq (FloatKind.f32.format.order b 1266679808)=c1)(h2:ordB .leq (FloatKind.f32.format.order b 3414163456)=c2)(h3:(c1||c2)=false->floatToIntVal .f32 b .i64=some n∧ordB .neq (FloatKind.f32.format.order (FloatKind.f32.nearest n) b)=c3):PC qP 151 [fd b] (.v (.int .i64 (K8 c1 c2 c3 n))):=by
 refine av (qA Tryz.func151 rfl) rfl Tryz.ntmps151 (rs:=[.tmp 2]) Tryz.results151 (by simp) λw0=>?_;refine ae (xa 1 (aa aA (rs (az (ae (xa 10 (aa aF (aa aF (aa (e9 (by decide) rfl rfl h0) (aa aF (aE rfl rfl (λhG=>aF) (aE rfl rfl (λhG=>aF) (aE rfl rfl (λhG=>(Ff (by decide) rfl rfl hs)) (aE rfl rfl (λhG=>(e9 (by decide) rfl rfl Bw)) (aT rfl rfl rfl rfl rfl rfl ?_)))))))))))))));refine aa aA (xc (ao rfl (λbW=>?_) (λbW=>?_)))
 ·
  cases bW
 ·
  (try simp only[nb,Xv]at bW)
  refine ae (xa 7 (aa aF (aa (e9 (by decide) rfl rfl h1) (aa aF (aE rfl rfl (λhG=>aF) (aE rfl rfl (λhG=>(e9 (by decide) rfl rfl h2)) (aT rfl rfl rfl rfl rfl rfl ?_)))))));refine aa aA (xc (ao rfl (λdB=>?_) (λdB=>?_)))
  ·
   (try simp only[nb,Xv]at dB)
   have hq:(c1||c2)=true:=by simpa using dB
   have hz:K8 c1 c2 c3 n=2:=by unfold K8;rw[Xu hq]
   rw[hz];refine ae (xa 1 (aa aA (xc (ah ?_))));refine⟨_,cS,?_⟩;rfl
  ·
   (try simp only[nb,Xv]at dB)
   have hq:(c1||c2)=false:=by simpa using dB
   obtain⟨hi,hb⟩:=h3 hq;refine ae (xa 6 (aa aF (aa (iH ik l4 rfl hi) (aa (lW l4 ik rfl) (aa aF (aa (e9 (by decide) rfl rfl hb) (aa aA (xc (ao rfl (λeU=>?_) (λeU=>?_))))))))))
   ·
    (try simp only[nb,Xv]at eU)
    have hz:K8 c1 c2 c3 n=25:=by unfold K8;rw[Xr (by rw[hq];decide),Xu eU]
    rw[hz];refine ae (xa 1 (aa aA (xc (ah ?_))));refine⟨_,cS,?_⟩;rfl
   ·
    (try simp only[nb,Xv]at eU)
    refine ae (xa 5 (aa aF (aa (iH ik l4 rfl hi) (aa (ak an0 (.cons rfl (.cons rfl .nil)) rfl (BA _ _ (by omega) (by omega))) (aa (bX rfl) (aa aA (xc (ao rfl (λmo=>?_) (λmo=>?_)))))))))
    ·
     (try simp only[nb,Xv]at mo)
     have hz:K8 c1 c2 c3 n=2:=by unfold K8;rw[Xr (by rw[hq];decide),Xr (by rw[eU];decide),Xr (by simpa using mo)]
     rw[hz];refine ae (xa 1 (aa aA (xc (ah ?_))));refine⟨_,cS,?_⟩;rfl
    ·
     (try simp only[nb,Xv]at mo)
     have hz:K8 c1 c2 c3 n=0:=by unfold K8;rw[Xr (by rw[hq];decide),Xr (by rw[eU];decide),Xu (by simpa using mo)]
     rw[hz];refine wO ?_;change Awp _ _ _ _ _;refine ae (xa 1 (aa aA (xc (ah ?_))));refine⟨_,cS,?_⟩;rfl
theorem ai1{s:Bool}{N:Nat}(k:Nat):(-(k:Int)≤fi s N∧fi s N≤(k:Int))↔N≤k:=by unfold fi;cases s<;>simp<;>omega
theorem Sd{s:Bool}{M:Nat}(K:Nat)(hM:¬K≤M):decide (fi false K≤fi s M)=false∧decide (fi s M≤fi true K)=false:=by
 refine⟨XV ?_,XV ?_⟩<;>(unfold fi;cases s<;>simp<;>omega)
theorem Sf{s:Bool}{M:Nat}(K:Nat)(hM:K≤M):(decide (fi false K≤fi s M)||decide (fi s M≤fi true K))=true:=by
 rw[X3,XW,XW]
 cases s
 ·left;unfold fi;simp;omega
 ·right;unfold fi;simp;omega
theorem V2{M k:Nat}:M / QQ≤k↔M<(k+1)*QQ:=by
 rw[<-Nat.lt_succ_iff,Nat.div_lt_iff_lt_mul sX]
theorem UT{a:Int}(h:a.natAbs≤1000000000000000000):IntKind.i64.min≤a∧a≤IntKind.i64.max:=by
 show (-9223372036854775808:Int)≤a∧a≤9223372036854775807
 omega
theorem Ar{k:FloatKind}{b:Nat}{s:Bool}{M:Nat}(h:jh k.format b s M)(hM:M / QQ≤1000000000000000000):floatToIntVal k b .i64=some (fi s (M / QQ)):=by
 unfold floatToIntVal;have h1:(k.decode b).toInt .zero=some (fi s (M / QQ)):=IC h;rw[h1];exact Xu (UT (by rw[uY];exact hM))
theorem Ck{f:Ieee.Format}{p L I:Nat}(h:Fm f p L I)(hL:L≤KK){b:Nat}{s:Bool}{m:Nat}{e:Int}{M:Nat}(hr:f.read b=.number s m e)(hM:m*2 ^ (e+KK).toNat=M):ordB .neq (f.order (wd f (fi s (M / QQ))) b) = !decide (M % QQ=0):=by
 have:=DU h hL hr hM;unfold ordB;rw[bne,this]
theorem w7(b:Nat):PC qP 151 [fd b] (.v (.int .i64 (sE b))):=by
 cases hr:Ieee.single.read b with
 | nan s t=>
  have e:sE b=25:=by unfold sE;rw[hr]
  rw[e];exact p7 b (show Ieee.single.sub b b=none by unfold Ieee.Format.sub;rw[hr];rfl)
 | infinity s=>
  have e:sE b=25:=by unfold sE;rw[hr]
  rw[e];exact p7 b (GW hr)
 | number s m e=>
  obtain⟨M,hM⟩:∃M,m*2 ^ (e+KK).toNat=M:=⟨_,rfl⟩
  have hn:=vv H3 LS hr;rw[hM]at hn;have e:sE b=P1 M:=by unfold sE;rw[hr];simp only[hM]
  rw[e];have h:=zn b _ _ (!decide (M % QQ=0)) (fi s (M / QQ)) (zt hn) (zZ hn) (Fw hn L6) (Fv hn L4) (λq=>?_)
  ·have e2 : K8 (decide (fi false (16777216 * QQ) ≤ fi s M)) (decide (fi s M ≤ fi true (16777216 * QQ))) (!decide (M % QQ = 0)) (fi s (M / QQ)) = P1 M := by
    unfold K8 P1
    by_cases h1:16777216*QQ≤M
    ·rw[Xu (Sf _ h1),Xu h1]
    ·obtain⟨h2,h3⟩:=Sd (s:=s) _ h1
     rw[h2,h3,Xr (by decide),Xr h1]
     by_cases h4:M % QQ=0
     ·rw[X5 h4,Xr (by decide),Xr (c:=M % QQ≠0) (λq=>q h4)]
      have h5:dP (-2047) (fi s (M / QQ)) 2047=true↔M / QQ≤2047:=by
       rw[cY];exact ai1 2047
      have hd:=Nat.div_add_mod M QQ;rw[h4,YI]at hd
      by_cases h6:M / QQ≤2047
      ·rw[Xu (h5.2 h6),Xr]
       rw[<-hd,YW QQ];have:=X7 QQ h6;omega
      ·rw[Xr (λq=>h6 (h5.1 q)),Xu]
       rw[<-hd,YW QQ];exact Zr (by omega) sX
     ·rw[XV h4,Xu (show (!false)=true from rfl),Xu (c:=M % QQ≠0) h4]
   rw[e2]at h;exact h
  ·have h1:¬16777216*QQ≤M:=λh1=>by rw[Sf _ h1]at q;cases q
   have h2:M / QQ≤16777215:=V2.2 (by omega);exact⟨Ar (k:=.f32) hn (by omega),Ck H3 LS hr hM⟩
def OX(b:Nat):Bool:=
 match Ieee.double.read b with
 | .number _ m e=>decide (m*2 ^ (e+KK).toNat % QQ=0)
 | _=>false
theorem Qb:Ieee.double.read 4846369599423283200=.number false 5000000000000000 1:=by decide +kernel
theorem Qa:Ieee.double.read 14069741636278059008=.number true 5000000000000000 1:=by decide +kernel
theorem L5:jh Ieee.double 4846369599423283200 false (10000000000000000*QQ):=⟨_,_,Qb,by omega,by
 rw[show ((1:Int)+KK).toNat=KK+1 by omega,ZC];have e:2 ^ KK=QQ:=rfl
 rw[e];generalize QQ=q;omega⟩
theorem L3:jh Ieee.double 14069741636278059008 true (10000000000000000*QQ):=⟨_,_,Qa,by omega,by
 rw[show ((1:Int)+KK).toNat=KK+1 by omega,ZC];have e:2 ^ KK=QQ:=rfl
 rw[e];generalize QQ=q;omega⟩
theorem V3:ordB .neq (FloatKind.f64.format.order 0 0)=false:=by decide +kernel
theorem FL  : PC qP 165 [.nan .f64] (.v (.bool (false))):=by
 refine av (qA Tryz.func165 rfl) rfl Tryz.ntmps165 (rs:=[.tmp 2]) Tryz.results165 (by simp) λw0=>?_;refine ae (xa 1 (aa aA (rs (ae (xa 9 (aa (aq (x:=.d (.nan _)) rfl) (aa (aq (x:=.d (.nan _)) rfl) (aa (Lq (by decide) rfl rfl rfl) (aa aF (aE rfl rfl (λhG=>(aq (x:=.d (.nan _)) rfl)) (aE rfl rfl (λhG=>(aq (x:=.d (.nan _)) rfl)) (aE rfl rfl (λhG=>(Qf rfl rfl rfl)) (aE rfl rfl (λhG=>(zO (by decide) rfl rfl rfl)) (aT rfl rfl rfl rfl rfl rfl ?_))))))))))))));refine xc (ao rfl (λbW=>?_) (λbW=>?_))
 ·
  (try simp only[nb,Xv]at bW)
  refine ae (xa 1 (aa aA (xc (ah ?_))));refine⟨_,cS,?_⟩;rfl
 ·
  rw[show ordB .neq none=true from rfl]at bW;simp[jJ]at bW
theorem qE(b:Nat)(h:floatBits .sub .f64 b b=none):PC qP 165 [.v (.float .f64 b)] (.v (.bool (false))):=by
 refine av (qA Tryz.func165 rfl) rfl Tryz.ntmps165 (rs:=[.tmp 2]) Tryz.results165 (by simp) λw0=>?_;refine ae (xa 1 (aa aA (rs (ae (xa 9 (aa aF (aa aF (aa (e9 (by decide) rfl rfl rfl) (aa aF (aE rfl rfl (λhG=>aF) (aE rfl rfl (λhG=>aF) (aE rfl rfl (λhG=>(Lr (by decide) rfl rfl h)) (aE rfl rfl (λhG=>(zO (by decide) rfl rfl rfl)) (aT rfl rfl rfl rfl rfl rfl ?_))))))))))))));refine xc (ao rfl (λbW=>?_) (λbW=>?_))
 ·
  (try simp only[nb,Xv]at bW)
  refine ae (xa 1 (aa aA (xc (ah ?_))));refine⟨_,cS,?_⟩;rfl
 ·
  rw[show ordB .neq none=true from rfl]at bW;simp[jJ]at bW
theorem Aq(b:Nat)(c1 c2 c3:Bool)(n:Int)(hs:floatBits .sub .f64 b b=some 0)(h0:ordB .neq (FloatKind.f64.format.order b b)=false)(h1:ordB .geq (FloatKind.f64.format.order b 14069741636278059008)=c1)(h2:ordB .leq (FloatKind.f64.format.order b 4846369599423283200)=c2)(h3:(c1&&c2)=true->floatToIntVal .f64 b .i64=some n∧ordB .eql (FloatKind.f64.format.order (FloatKind.f64.nearest n) b)=c3):PC qP 165 [.v (.float .f64 b)] (.v (.bool (if (c1&&c2)=true then c3 else true))):=by
 refine av (qA Tryz.func165 rfl) rfl Tryz.ntmps165 (rs:=[.tmp 2]) Tryz.results165 (by simp) λw0=>?_;refine ae (xa 1 (aa aA (rs (ae (xa 9 (aa aF (aa aF (aa (e9 (by decide) rfl rfl h0) (aa aF (aE rfl rfl (λhG=>aF) (aE rfl rfl (λhG=>aF) (aE rfl rfl (λhG=>(Ff (by decide) rfl rfl hs)) (aE rfl rfl (λhG=>(e9 (by decide) rfl rfl V3)) (aT rfl rfl rfl rfl rfl rfl ?_))))))))))))));refine xc (ao rfl (λbW=>?_) (λbW=>?_))
 ·
  cases bW
 ·
  (try simp only[nb,Xv]at bW)
  refine wO ?_;change Awp _ _ _ _ _;refine ae (ae (xa 7 (aa aF (aa (e9 (by decide) rfl rfl h1) (aa aF (aE rfl rfl (λhG=>aF) (aE rfl rfl (λhG=>(e9 (by decide) rfl rfl h2)) (aT rfl rfl rfl rfl rfl rfl ?_))))))));refine aa (bX rfl) (xc (ao rfl (λdB=>?_) (λdB=>?_)))
  ·
   (try simp only[nb,Xv]at dB)
   have hq:¬(c1&&c2)=true:=by rcases dB with q|q<;>simp[q]
   rw[Xr hq];refine ae (xa 1 (aa aA (xc (ah ?_))));refine⟨_,cS,?_⟩;rfl
  ·
   (try simp only[nb,Xv]at dB)
   have hq:(c1&&c2)=true:=by simpa using dB
   obtain⟨hi,hb⟩:=h3 hq;rw[Xu hq];refine wO ?_;change Awp _ _ _ _ _;refine ae (xa 6 (aa aF (aa (iH sQ l4 rfl hi) (aa (lW l4 sQ rfl) (aa aF (aa (e9 (by decide) rfl rfl hb) (aa aA (xc (ah ?_)))))))));refine⟨_,cS,?_⟩;rfl
theorem Se{s:Bool}{M:Nat}(K:Nat):(decide (fi true K≤fi s M)&&decide (fi s M≤fi false K))=decide (M≤K):=by
 rw[<-Bool.decide_and];refine YY.2 ?_;unfold fi
 cases s<;>simp<;>omega
theorem Jl(b:Nat):PC qP 165 [.v (.float .f64 b)] (.v (.bool (OX b))):=by
 cases hr:Ieee.double.read b with
 | nan s t=>
  have e:OX b=false:=by unfold OX;rw[hr]
  rw[e];exact qE b (show Ieee.double.sub b b=none by unfold Ieee.Format.sub;rw[hr];rfl)
 | infinity s=>
  have e:OX b=false:=by unfold OX;rw[hr]
  rw[e];exact qE b (GW hr)
 | number s m e=>
  obtain⟨M,hM⟩:∃M,m*2 ^ (e+KK).toNat=M:=⟨_,rfl⟩
  have hn:=vv fmD LD hr;rw[hM]at hn;have e:OX b=decide (M % QQ=0):=by unfold OX;rw[hr];simp only[hM]
  rw[e];have h:=Aq b _ _ (decide (M % QQ=0)) (fi s (M / QQ)) (zt hn) (zZ hn) (Fw hn L3) (Fv hn L5) (λq=>?_)
  ·rw[Se]at h
   by_cases h1:M≤10000000000000000*QQ
   ·rw[Xu (X5 h1)]at h;exact h
   ·rw[Xr (by rw[XV h1];decide)]at h
    have:M % QQ=0:=y5 fmD hr hM (by
     have:=sX;have e:2 ^ (52+1)*QQ≤10000000000000000*QQ:=X7 _ (by decide)
     omega)
    rw[X5 this];exact h
  ·rw[Se,XW]at q
   have h2:M / QQ≤10000000000000000:=Nat.div_le_of_le_mul (by rw[YW];exact q);refine⟨Ar (k:=.f64) hn (by omega),DU fmD LD hr hM⟩
theorem L8:jh Ieee.single 1157619712 false (2047*QQ):=by
 have h:=Fy H3 LS (a:=2047) (by decide);rw[show wd Ieee.single 2047=1157619712 by decide +kernel,show decide ((2047:Int)<0)=false from rfl,show (2047:Int).natAbs=2047 from rfl]at h;exact h
theorem Jc:jh Ieee.single 3305103360 true (2047*QQ):=by
 have h:=Fy H3 LS (a:=-2047) (by decide);rw[show wd Ieee.single (-2047)=3305103360 by decide +kernel,show decide ((-2047:Int)<0)=true from rfl,show (-2047:Int).natAbs=2047 from rfl]at h;exact h
def ssE:Nat->List Nat->Int × Int
 | _,[]=>(0,0)
 | i,b::r=>if sE b≠0 then ((i:Int),sE b) else ssE (i+1) r
theorem KG{l:List Nat}{k:Nat}{x:Nat}(hx:l[k]?=some x):ssE k (l.drop k)=if sE x≠0 then ((k:Int),sE x) else ssE (k+1) (l.drop (k+1)):=by
 obtain⟨bH,rfl⟩:=Xt.1 hx;rw[Yf bH];rfl
theorem KF:∀{l:List Nat} {i:Nat},(ssE i l).2=0->∀b∈l,sE b=0
 | [],_,_,p,hp=>by cases hp
 | q::l,i,h,p,hp=>by
  unfold ssE at h
  by_cases h1:sE q≠0
  ·rw[Xu h1]at h;exact absurd h h1
  ·rw[Xr h1]at h
   rcases Xy.1 hp with rfl|hp
   ·exact XU.1 h1
   ·exact KF h p hp
def AX(ne:Int)(l:List Nat):Int × Int:=if dP 1 ne 16=true then (if (l.length:Int)≠ne*ne*64 then (0,10) else ssE 0 l) else (0,2)
def ckT(t:Tsk):Int × Int:=
 if (dJ t.ar).2≠0 then dJ t.ar
 else if (AX t.ne t.bf).2≠0 then (0,(AX t.ne t.bf).2)
 else if (t.ar.el.length:Int)≠t.ne then (0,13)
 else if pW t.g≠0 then (0,pW t.g)
 else (0,c9 (!dP 1 t.g.fz (t.ar.ou.t - 1) || !dP 1 (gZ t.g (t.g.co*t.g.ro - 1)).2 (t.ar.ou.t - 1)) 22)
theorem Rn{b:Nat}{s:Bool}{m:Nat}{e:Int}(hr:Ieee.single.read b=.number s m e)(h0:P1 (m*2 ^ (e+KK).toNat)=0):Wm b (fi s (m*2 ^ (e+KK).toNat / QQ)):=by
 obtain⟨M,hM⟩:∃M,m*2 ^ (e+KK).toNat=M:=⟨_,rfl⟩
 have hn:=vv H3 LS hr;rw[hM]at hn h0 ⊢;unfold P1 at h0
 by_cases h1:16777216*QQ≤M
 ·rw[Xu h1]at h0;cases h0
 rw[Xr h1]at h0
 by_cases h2:M % QQ≠0
 ·rw[Xu h2]at h0;cases h0
 rw[Xr h2]at h0
 by_cases h3:2047*QQ<M
 ·rw[Xu h3]at h0;cases h0
 have hq:M / QQ≤2047:=Nat.div_le_of_le_mul (by rw[YW];omega);obtain⟨h4,h5⟩:=Sd (s:=s) _ h1;obtain⟨h6,h7⟩:=(ai1 (s:=s) 2047).2 hq;refine⟨h6,h7,zZ hn,zt hn,(Fw hn L6).trans h4,(Fv hn L4).trans h5,Ar (k:=.f32) hn (by omega),?_⟩;have:=Ck H3 LS hr hM;rw[X5 (XU.1 h2)]at this;exact this
theorem Um{b:Nat}(h:sE b=0):Wm b (vI b):=by
 unfold sE at h
 cases hr:Ieee.single.read b with
 | nan s t=>rw[hr]at h;cases h
 | infinity s=>rw[hr]at h;cases h
 | number s m e=>
  rw[hr]at h;have:=Rn hr h;rw[this.v];exact this
theorem V5{ne:Int}{l:List Nat}(h:(AX ne l).2=0):1≤ne∧ne≤16∧(l.length:Int)=ne*ne*64∧ud l:=by
 unfold AX at h
 by_cases h1:dP 1 ne 16=true
 ·rw[Xu h1]at h
  by_cases h2:(l.length:Int)≠ne*ne*64
  ·rw[Xu h2]at h;cases h
  ·rw[Xr h2]at h
   obtain⟨a,b⟩:=cY.1 h1;exact⟨a,b,XU.1 h2,λx hx=>Um (KF h x hx)⟩
 ·rw[Xr h1]at h;cases h
theorem ckT_ok{t:Tsk}(h:(ckT t).2=0):TskOk t:=by
 unfold ckT at h
 by_cases h1:(dJ t.ar).2≠0
 ·rw[Xu h1]at h;exact absurd h h1
 rw[Xr h1]at h
 by_cases h2:(AX t.ne t.bf).2≠0
 ·rw[Xu h2]at h;exact absurd h h2
 rw[Xr h2]at h
 by_cases h3:(t.ar.el.length:Int)≠t.ne
 ·rw[Xu h3]at h;cases h
 rw[Xr h3]at h
 by_cases h4:pW t.g≠0
 ·rw[Xu h4]at h;exact absurd h h4
 rw[Xr h4]at h;simp only at h;rw[fL (by decide),YR,Y6,Y6]at h;obtain⟨a1,a2,a3,a4⟩:=V5 (XU.1 h2);obtain⟨b1,b2⟩:=cY.1 h.1;obtain⟨b3,b4⟩:=cY.1 h.2;exact⟨XU.1 h1,a1,a2,a3,a4,XU.1 h3,XU.1 h4,b1,b2,b3,b4⟩
theorem BB(l:List Nat):PC qP 129 [.sl 1 (l.map fC)] (.da [.v (.int .i64 ((ssE 0 l).1)),.v (.int .i64 ((ssE 0 l).2))]):=by
 refine av (qA Tryz.func129 rfl) rfl Tryz.ntmps129 (rs:=[.tmp 2,.tmp 3]) Tryz.results129 (by simp) λw0=>?_;refine ae (xa 2 (aa aA (aa aA (rs (ae (xa 3 (aa (aq (x:=.d (.sl _ _)) rfl) (aa (cd qD rfl (by exact aV _ _)) (aa aF (xc (bm (t:=7) rfl (λMX=>?_))))))))))))
 (try simp only[Xo]at MX)
 refine az (bG [2,3,4,5,6,9,10,11,12,13,14,15,16,17,18,19,20] [] (α:=Nat) (λk=>[(9,T.i (k:Int))]) (λk=>[]) (λk=>k≤l.length∧ssE 0 l=ssE k (l.drop k)) (λk=>l.length - k) 0 ⟨XC _,rfl⟩ ?_ ?_)
 ·exact xh (ms:=[]) (by repeat (exact Out.refl _)) ⟨(by rfl),trivial⟩ trivial
 ·
  intro k ⟨hk,hf⟩;refine ae (xa 1 (aa (cM rfl rfl) (rs (ao rfl (λbV=>?_) (λbV=>?_)))))
  ·
   (try simp only[nb,Xv]at bV)
   have bH:k<l.length:=by omega
   obtain⟨x,hx⟩:∃x,l[k]?=some x:=⟨_,Xp bH⟩
   have hd:=KG hx;refine wO ?_;change Awp _ _ _ _ _;refine ae (az (ae (xa 5 (aa aF (aa (aJ xf rfl rfl (by omega) (cm (by omega) hx)) (aa (aj xV rfl rfl) (aa aA (aa aA (rs (xa 3 (aa aF (aa (ak Tn (.cons rfl .nil) rfl (w7 _)) (aa aA (rs (xa 2 (aa aF (aa (bS rfl rfl) (xc (ao rfl (λeU=>?_) (λeU=>?_))))))))))))))))))))
   ·
    (try simp only[nb,Xv]at eU)
    have hb:sE x≠0:=eU;have hz:ssE 0 l=((k:Int),sE x):=by rw[hf,hd,Xu hb]
    rw[hz];refine ae (xa 4 (aa aF (aa aF (aa aA (aa aA (xc (ah ?_)))))));refine⟨_,gz,?_⟩;rfl
   ·
    (try simp only[nb,Xv]at eU)
    have hb:sE x=0:=eU;refine wO ?_;change Awp _ _ _ _ _;refine xa 2 ?_;refine aa (bC rfl rfl xi) (aa aF (rn ?_));refine⟨k+1,⟨by omega,by rw[hf,hd,Xr (by rw[hb];simp)]⟩,by omega,?_⟩;exact xh (ms:=[]) (by repeat (first|exact Out.head rfl rfl|(refine Out.put ?_ rfl))) ⟨(by rfl),trivial⟩ trivial
  ·
   (try simp only[nb,Xv]at bV)
   have Vh:ssE 0 l=(0,0):=by rw[hf,Yu (by omega)];rfl
   rw[Vh];refine bJ ?_;change Awp _ _ _ _ _;refine ae (xa 2 (aa aA (aa aA (xc (ah ?_)))));refine⟨_,gz,?_⟩;rfl
theorem wK(ne:Int)(l:List Nat):PC qP 97 [.agg [.v (.int .i64 (ne)),.sl 1 (l.map fC)]] (.da [.v (.int .i64 ((AX ne l).1)),.v (.int .i64 ((AX ne l).2))]):=by
 have hu:AX ne l=if dP 1 ne 16=true then (if (l.length:Int)≠ne*ne*64 then (0,10) else ssE 0 l) else (0,2):=rfl
 refine av (qA Tryz.func97 rfl) rfl Tryz.ntmps97 (rs:=[.tmp 2,.tmp 3]) Tryz.results97 (by simp) λw0=>?_;refine ae (xa 3 (aa (aP rfl (by exact .inr ⟨_,rfl⟩)) (aa aA (aa aA (rs (az (ae (xa 5 (aa (af fB rfl) (aa (aj bo rfl rfl) (aa (ak NK (.cons rfl (.cons rfl (.cons rfl .nil))) rfl (ld _ _ _)) (aa (bX rfl) (aa aA (xc (ao rfl (λbW=>?_) (λbW=>?_))))))))))))))))
 ·
  (try simp only[nb,Xv]at bW)
  rw[Xr (by simpa using bW)]at hu;rw[hu];refine ae (xa 2 (aa aA (aa aA (xc (ah ?_)))));refine⟨_,gz,?_⟩;rfl
 ·
  (try simp only[nb,Xv]at bW)
  have O7:dP 1 ne 16=true:=by simpa using bW
  rw[Xu O7]at hu;obtain⟨wY,Bi⟩:=cY.1 O7;have hm:=lX (a:=ne) (b:=ne) (A:=16) (B:=16) (by omega) (by omega) (by omega) (by omega);refine ae (xa 11 (aa (af fU rfl) (aa (aj oF rfl rfl) (aa (cd qD rfl (by exact aV _ _)) (aa (af fB rfl) (aa (aj bo rfl rfl) (aa (af fB rfl) (aa (aj bo rfl rfl) ?_))))))));refine aa (cZ rfl rfl xi) ?_;refine aa (cZ rfl rfl xi) (aa (bS rfl rfl) (aa aA (xc (bm (t:=11) rfl (λVe=>?_)))))
  (try simp only[Xo]at Ve)
  refine ao rfl (λdB=>?_) (λdB=>?_)
  ·
   (try simp only[nb,Xv]at dB)
   rw[Xu (by simpa using dB)]at hu;rw[hu];refine ae (xa 2 (aa aA (aa aA (xc (ah ?_)))));refine⟨_,gz,?_⟩;rfl
  ·
   (try simp only[nb,Xv]at dB)
   rw[Xr (by simpa using dB)]at hu;rw[hu];refine wO ?_;change Awp _ _ _ _ _;refine ae (xa 7 (aa (af fU rfl) (aa (aj oF rfl rfl) (aa (ak NQ (.cons rfl .nil) rfl (BB l)) (aa (au rfl rfl) (aa (au rfl rfl) (aa aA (aa aA (xc (ah ?_))))))))));refine⟨_,gz,?_⟩;rfl
theorem AY(t:Tsk):PC qP 71 [.agg (tskC t)] (.da [.v (.int .i64 ((ckT t).1)),.v (.int .i64 ((ckT t).2))]):=by
 have hu:ckT t=if (dJ t.ar).2≠0 then dJ t.ar
  else if (AX t.ne t.bf).2≠0 then (0,(AX t.ne t.bf).2)
  else if (t.ar.el.length:Int)≠t.ne then (0,13)
  else if pW t.g≠0 then (0,pW t.g)
  else (0,c9 (!dP 1 t.g.fz (t.ar.ou.t - 1) || !dP 1 (gZ t.g (t.g.co*t.g.ro - 1)).2 (t.ar.ou.t - 1)) 22):=rfl
 refine aY (qA Tryz.func71 rfl) rfl Tryz.ntmps71 (rs:=[.tmp 2,.tmp 3]) Tryz.results71 (by simp) λw0 bQ cH iK=>?_;refine ae (xa 3 (aa (aP rfl (by exact .inr ⟨_,rfl⟩)) (aa aA (aa aA (rs (ae (xa 8 (aa (af fc rfl) (aa (ax (ds:=[_,_,_,_,_,_,_,_,_,_,_]) po rfl rfl rfl) (aa (ak NR (.cons rfl .nil) rfl (mc t.ar)) (aa (aq (x:=.d (.da _)) rfl) (aa (au rfl rfl) (aa (au rfl rfl) (aa aA (aa aA (rs (xa 2 (aa aF (aa (bS rfl rfl) (xc (ao rfl (λbV=>?_) (λbV=>?_))))))))))))))))))))))
 ·
  (try simp only[nb,Xv]at bV)
  have h1:(dJ t.ar).2≠0:=bV;rw[Xu h1]at hu;rw[hu];refine ae (xa 4 (aa aF (aa aF (aa aA (aa aA (xc (ah ?_)))))));refine⟨_,gz,?_⟩;rfl
 ·
  (try simp only[nb,Xv]at bV)
  have h1:¬(dJ t.ar).2≠0:=λq=>q bV;rw[Xr h1]at hu;refine wO ?_;change Awp _ _ _ _ _;refine ae (ae (xa 8 (aa (af iz rfl) (aa (ax (ds:=[_,_]) BD rfl rfl rfl) (aa (ak am1 (.cons rfl .nil) rfl (wK t.ne t.bf)) (aa (aq (x:=.d (.da _)) rfl) (aa (au rfl rfl) (aa (au rfl rfl) (aa aA (aa aA (rs (xa 2 (aa aF (aa (bS rfl rfl) (xc (ao rfl (λeU=>?_) (λeU=>?_)))))))))))))))))
  ·
   (try simp only[nb,Xv]at eU)
   have h2:(AX t.ne t.bf).2≠0:=eU;rw[Xu h2]at hu;rw[hu];refine ae (xa 3 (aa aF (aa aA (aa aA (xc (ah ?_))))));refine⟨_,gz,?_⟩;rfl
  ·
   (try simp only[nb,Xv]at eU)
   have h2:¬(AX t.ne t.bf).2≠0:=λq=>q eU;rw[Xr h2]at hu;refine wO ?_;change Awp _ _ _ _ _;refine ae (ae (xa 8 (aa (af fc rfl) (aa (af du rfl) (aa (aj jP rfl rfl) (aa (cd kA rfl (by exact aV _ _)) (aa (af iz rfl) (aa (af fB rfl) (aa (aj bo rfl rfl) (aa (bS rfl rfl) (xc (bm (t:=32) rfl (λVa=>?_)))))))))))))
   (try simp only[Xo]at Va)
   refine ao rfl (λmo=>?_) (λmo=>?_)
   ·
    (try simp only[nb,Xv]at mo)
    have h3:(t.ar.el.length:Int)≠t.ne:=by simpa using mo
    rw[Xu h3]at hu;rw[hu];refine ae (xa 2 (aa aA (aa aA (xc (ah ?_)))));refine⟨_,gz,?_⟩;rfl
   ·
    (try simp only[nb,Xv]at mo)
    have h3:¬(t.ar.el.length:Int)≠t.ne:=by simpa using mo
    rw[Xr h3]at hu;refine wO ?_;change Awp _ _ _ _ _;refine ae (ae (xa 4 (aa (af fy rfl) (aa (ax (ds:=[_,_,_,_,_]) mI rfl rfl rfl) (aa (ak NT (.cons rfl .nil) rfl (ma t.g)) (aa aA (rs (xa 2 (aa aF (aa (bS rfl rfl) (xc (ao rfl (λlF=>?_) (λlF=>?_)))))))))))))
    ·
     (try simp only[nb,Xv]at lF)
     have h4:pW t.g≠0:=lF;rw[Xu h4]at hu;rw[hu];refine ae (xa 3 (aa aF (aa aA (aa aA (xc (ah ?_))))));refine⟨_,gz,?_⟩;rfl
    ·
     (try simp only[nb,Xv]at lF)
     have h4:¬pW t.g≠0:=λq=>q lF;rw[Xr h4]at hu;obtain⟨Et,_⟩:=iL (XU.1 h1);have ht1:=Et.ou.t1;have ht2:=Et.ou.t2;obtain⟨hg,O9,WW⟩:=gW (XU.1 h4);have yO:=dg hg;refine wO ?_;change Awp _ _ _ _ _;refine ae (xa 3 (aa (af fy rfl) (aa (ax (ds:=[_,_,_,_,_]) mI rfl rfl rfl) ?_)));refine aa (bz (cs:=[_,_,_,_,_]) LF Bq rfl (.cons rfl (by exact .inr ⟨_,rfl⟩) .nil) ⟨⟨rfl,by decide⟩,trivial⟩ rfl) (aw (dF Bq rfl oE rfl rfl (by exact .inr ⟨_,rfl⟩) rfl rfl (ai (xq (xa 5 (aa (af fc rfl) (aa (af iA rfl) (aa (af fD rfl) (aa (aj bo rfl rfl) (aa aA (rs (xa 23 (aa (af fy rfl) (aa (af gT rfl) (aa (af dQ rfl) (aa (aj bo rfl rfl) (aa aF ?_)))))))))))))))));refine aa (dk rfl rfl xi) (aa (ak pO (.cons rfl (.cons rfl (.cons rfl .nil))) rfl (dA _ _ _)) (aa (bX rfl) (aa aF (aE rfl rfl (λhG=>(ax (ds:=[_,_,_,_,_]) oE rfl rfl rfl)) (aE rfl rfl (λhG=>(ax (ds:=[_,_,_,_,_]) oE rfl rfl rfl)) (aE rfl rfl (λhG=>(ak F4 (.cons rfl .nil) rfl (jG _ (by assumption)))) ?_))))));refine aE rfl rfl (λhG=>(dk rfl rfl (lL.mk (by (have iR:=T.cP (a:=_) hG.1;(try simp only[nb,Xv]at iR);omega)) (by (have iR:=T.cP (a:=_) hG.1;(try simp only[nb,Xv]at iR);omega))))) (aE rfl rfl (λhG=>(ak Du (.cons rfl (.cons rfl .nil)) rfl (qT _ _ (by assumption) (by omega) (by omega)))) (aE rfl rfl (λhG=>(zN F1 bo rfl rfl)) (aE rfl rfl (λhG=>aF) ?_)));refine aE rfl rfl (λhG=>(dk rfl rfl (lL.mk (by (have iR:=T.cP (a:=_) hG.1;(try simp only[nb,Xv]at iR);omega)) (by (have iR:=T.cP (a:=_) hG.1;(try simp only[nb,Xv]at iR);omega))))) (aE rfl rfl (λhG=>(ak pO (.cons rfl (.cons rfl (.cons rfl .nil))) rfl (dA _ _ _))) (aE rfl rfl (λhG=>(bX rfl)) (aT rfl rfl rfl rfl rfl rfl ?_)));refine aa (ak yZ (.cons rfl (.cons rfl .nil)) rfl (n9 _ _)) (aa aA (aa aA (xc (ah ?_))));refine⟨_,gz,?_⟩;rw[hu];(try simp only[jJ]);rfl
theorem ax3{M Q:Nat}(hQ:0<Q)(h:16777216*Q≤M):2047*Q<M:=by omega
theorem UN{b:Nat}{s:Bool}{t:Nat}(h:Ieee.single.read b=.nan s t):(FloatKind.f32.decode b).isNaN=true:=by
 have e:FloatKind.f32.decode b=Ieee.single.read b:=rfl;rw[e,h];rfl
theorem E4(b:Nat)(h:(FloatKind.f32.decode b).isNaN=true):PC qP 150 [fd b] (.v (.int .i64 (25))):=by
 refine av (qA Tryz.func150 rfl) rfl Tryz.ntmps150 (rs:=[.tmp 2]) Tryz.results150 (by simp) λw0=>?_;refine ae (xa 1 (aa aA (rs (ae (xa 4 (aa aF (aa (I2 ik sQ (by decide) rfl h) (aa (ak Th (.cons rfl .nil) rfl (FL)) (aa (bX rfl) (xc (ao rfl (λbW=>?_) (λbW=>?_))))))))))))
 ·
  (try simp only[nb,Xv]at bW)
  refine ae (xa 1 (aa aA (xc (ah ?_))));refine⟨_,cS,?_⟩;rfl
 ·
  simp at bW
theorem u9(b b':Nat)(w c1 c2:Bool)(hc:floatToFloatBits .f32 b .f64=some b')(hw:OX b'=w)(h1:ordB .lss (FloatKind.f32.format.order b 3305103360)=c1)(h2:ordB .gtr (FloatKind.f32.format.order b 1157619712)=c2):PC qP 150 [fd b] (.v (.int .i64 (if w=true then (if (c1||c2)=true then 2 else 0) else 25))):=by
 refine av (qA Tryz.func150 rfl) rfl Tryz.ntmps150 (rs:=[.tmp 2]) Tryz.results150 (by simp) λw0=>?_;refine ae (xa 1 (aa aA (rs (ae (xa 4 (aa aF (aa (Ls ik sQ rfl hc) (aa (ak Th (.cons rfl .nil) rfl ((by have h:=Jl b';rw[hw]at h;exact h))) (aa (bX rfl) (xc (ao rfl (λbW=>?_) (λbW=>?_))))))))))))
 ·
  (try simp only[nb,Xv]at bW)
  rw[Xr (by rw[bW];decide)];refine ae (xa 1 (aa aA (xc (ah ?_))));refine⟨_,cS,?_⟩;rfl
 ·
  (try simp only[nb,Xv]at bW)
  rw[Xu bW];refine wO ?_;change Awp _ _ _ _ _;refine ae (ae (xa 6 (aa aF (aa (e9 (by decide) rfl rfl h1) (aa aF (aE rfl rfl (λhG=>aF) (aE rfl rfl (λhG=>(e9 (by decide) rfl rfl h2)) (aT rfl rfl rfl rfl rfl rfl ?_))))))));refine xc (ao rfl (λdB=>?_) (λdB=>?_))
  ·
   (try simp only[nb,Xv]at dB)
   rw[Xu (show (c1||c2)=true by simpa using dB)];refine ae (xa 1 (aa aA (xc (ah ?_))));refine⟨_,cS,?_⟩;rfl
  ·
   (try simp only[nb,Xv]at dB)
   rw[Xr (show ¬(c1||c2)=true by simpa using dB)];refine wO ?_;change Awp _ _ _ _ _;refine ae (xa 1 (aa aA (xc (ah ?_))));refine⟨_,cS,?_⟩;rfl
theorem ae8{s:Bool}{M:Nat}(K:Nat):(decide (fi s M<fi true K)||decide (fi false K<fi s M))=decide (K<M):=by
 rw[<-Bool.decide_or];refine YY.2 ?_;unfold fi
 cases s<;>simp<;>omega
theorem xm(b:Nat):PC qP 150 [fd b] (.v (.int .i64 (sE b))):=by
 cases hr:Ieee.single.read b with
 | nan s t=>
  have e:sE b=25:=by unfold sE;rw[hr]
  rw[e];exact E4 b (UN hr)
 | infinity s=>
  have e:sE b=25:=by unfold sE;rw[hr]
  rw[e];obtain⟨b',h1,h2⟩:=Kl hr;exact u9 b b' false _ _ h1 (by unfold OX;rw[h2]) rfl rfl
 | number s m e=>
  obtain⟨M,hM⟩:∃M,m*2 ^ (e+KK).toNat=M:=⟨_,rfl⟩
  have hn:=vv H3 LS hr;rw[hM]at hn;have e1:sE b=P1 M:=by unfold sE;rw[hr];simp only[hM]
  rw[e1];obtain⟨b',h1,m',e',h2,h3⟩:=Kk hr;have h:=u9 b b' (decide (M % QQ=0)) _ _ h1 (by unfold OX;rw[h2];simp only[h3,hM]) (UK hn Jc) (UL hn L8);rw[ae8]at h
  have e2:(if decide (M % QQ=0)=true then (if decide (2047*QQ<M)=true then (2:Int) else 0) else 25)=P1 M:=by
   unfold P1
   by_cases h4:M % QQ=0
   ·rw[Xu (X5 h4),Xr (c:=M % QQ≠0) (λq=>q h4)]
    by_cases h5:16777216*QQ≤M
    ·have h6 : decide (2047 * QQ < M) = true := by
      revert h5;have hq:=sX;generalize QQ=q at hq ⊢;exact λh5=>X5 (ax3 hq h5)
     rw[Xu h5,Xu (show decide (2047*QQ<M)=true from h6)]
    ·rw[Xr h5]
     by_cases h6:2047*QQ<M
     ·rw[Xu (X5 h6),Xu h6]
     ·rw[Xr (by rw[XV h6];decide),Xr h6]
   ·have h5:¬16777216*QQ≤M:=λq=>h4 (y5 H3 hr hM (XQ (X7 QQ (show 2 ^ (23+1)≤16777216 by decide)) q))
    rw[Xr (by rw[XV h4];decide),Xr h5,Xu (c:=M % QQ≠0) h4]
  rw[e2]at h;exact h
theorem BV(l:List Nat):PC qP 128 [.sl 1 (l.map fC)] (.da [.v (.int .i64 ((ssE 0 l).1)),.v (.int .i64 ((ssE 0 l).2))]):=by
 refine av (qA Tryz.func128 rfl) rfl Tryz.ntmps128 (rs:=[.tmp 2,.tmp 3]) Tryz.results128 (by simp) λw0=>?_;refine ae (xa 2 (aa aA (aa aA (rs (ae (xa 1 (aa aA (xc (az (bG [2,3,4,5,6,7,8,9,10,11,12,13,14,15,16,17,18,19,20] [] (α:=Nat) (λk=>[(4,T.i (k:Int))]) (λk=>[]) (λk=>k≤l.length∧ssE 0 l=ssE k (l.drop k)) (λk=>l.length - k) 0 ⟨XC _,rfl⟩ ?_ ?_))))))))))
 ·exact xh (ms:=[]) (by repeat (exact Out.refl _)) ⟨(by rfl),trivial⟩ trivial
 ·
  intro k ⟨hk,hf⟩;refine ae (ae (xa 4 (aa aF (aa (aq (x:=.d (.sl _ _)) rfl) (aa (cd qD rfl (by exact aV _ _)) (aa (cM rfl rfl) (xc (bm (t:=7) rfl (λMX=>?_)))))))))
  (try simp only[Xo]at MX)
  refine ao rfl (λbV=>?_) (λbV=>?_)
  ·
   (try simp only[nb,Xv]at bV)
   have bH:k<l.length:=by omega
   obtain⟨x,hx⟩:∃x,l[k]?=some x:=⟨_,Xp bH⟩
   have hd:=KG hx;refine wO ?_;change Awp _ _ _ _ _;refine ae (az (ae (xa 6 (aa (aq (x:=.d (.sl _ _)) rfl) (aa aF (aa (aJ xf rfl rfl (by omega) (cm (by omega) hx)) (aa (aj xV rfl rfl) (aa (ak ap0 (.cons rfl .nil) rfl (xm _)) (aa aA (rs (xa 2 (aa aF (aa (bS rfl rfl) (xc (ao rfl (λeU=>?_) (λeU=>?_))))))))))))))))
   ·
    (try simp only[nb,Xv]at eU)
    have hb:sE x≠0:=eU;have hz:ssE 0 l=((k:Int),sE x):=by rw[hf,hd,Xu hb]
    rw[hz];refine ae (xa 4 (aa aF (aa aF (aa aA (aa aA (xc (ah ?_)))))));refine⟨_,gz,?_⟩;rfl
   ·
    (try simp only[nb,Xv]at eU)
    have hb:sE x=0:=eU;refine wO ?_;change Awp _ _ _ _ _;refine xa 3 (aa aF ?_);refine aa (bC rfl rfl xi) (aa aA (rn ?_));refine⟨k+1,⟨by omega,by rw[hf,hd,Xr (by rw[hb];simp)]⟩,by omega,?_⟩;exact xh (ms:=[]) (by repeat (first|exact Out.head rfl rfl|(refine Out.put ?_ rfl))) ⟨(by rfl),trivial⟩ trivial
  ·
   (try simp only[nb,Xv]at bV)
   have Vh:ssE 0 l=(0,0):=by rw[hf,Yu (by omega)];rfl
   rw[Vh];refine bJ ?_;change Awp _ _ _ _ _;refine ae (xa 2 (aa aA (aa aA (xc (ah ?_)))));refine⟨_,gz,?_⟩;rfl
theorem tS(ne:Int)(l:List Nat):PC qP 94 [.agg [.v (.int .i64 (ne)),.sl 1 (l.map fC)]] (.da [.v (.int .i64 ((AX ne l).1)),.v (.int .i64 ((AX ne l).2))]):=by
 have hu:AX ne l=if dP 1 ne 16=true then (if (l.length:Int)≠ne*ne*64 then (0,10) else ssE 0 l) else (0,2):=rfl
 refine av (qA Tryz.func94 rfl) rfl Tryz.ntmps94 (rs:=[.tmp 2,.tmp 3]) Tryz.results94 (by simp) λw0=>?_;refine ae (xa 3 (aa (aP rfl (by exact .inr ⟨_,rfl⟩)) (aa aA (aa aA (rs (ae (xa 4 (aa (af fB rfl) (aa (aj bo rfl rfl) (aa (ak nA (.cons rfl (.cons rfl (.cons rfl .nil))) rfl (cX _ _ _)) (aa (bX rfl) (xc (ao rfl (λbW=>?_) (λbW=>?_))))))))))))))
 ·
  (try simp only[nb,Xv]at bW)
  rw[Xr (by simpa using bW)]at hu;rw[hu];refine ae (xa 2 (aa aA (aa aA (xc (ah ?_)))));refine⟨_,gz,?_⟩;rfl
 ·
  (try simp only[nb,Xv]at bW)
  have O7:dP 1 ne 16=true:=by simpa using bW
  rw[Xu O7]at hu;obtain⟨wY,Bi⟩:=cY.1 O7;have hm:=lX (a:=ne) (b:=ne) (A:=16) (B:=16) (by omega) (by omega) (by omega) (by omega);refine wO ?_;change Awp _ _ _ _ _;refine ae (ae (xa 10 (aa (af fU rfl) (aa (aj oF rfl rfl) (aa (cd qD rfl (by exact aV _ _)) (aa (af fB rfl) (aa (aj bo rfl rfl) (aa (af fB rfl) (aa (aj bo rfl rfl) ?_)))))))));refine aa (cZ rfl rfl xi) ?_;refine aa (cZ rfl rfl xi) (aa (bS rfl rfl) (xc (bm (t:=9) rfl (λhl9=>?_))))
  (try simp only[Xo]at hl9)
  refine ao rfl (λdB=>?_) (λdB=>?_)
  ·
   (try simp only[nb,Xv]at dB)
   rw[Xu (by simpa using dB)]at hu;rw[hu];refine ae (xa 2 (aa aA (aa aA (xc (ah ?_)))));refine⟨_,gz,?_⟩;rfl
  ·
   (try simp only[nb,Xv]at dB)
   rw[Xr (by simpa using dB)]at hu;rw[hu];refine wO ?_;change Awp _ _ _ _ _;refine ae (xa 7 (aa (af fU rfl) (aa (aj oF rfl rfl) (aa (ak aq1 (.cons rfl .nil) rfl (BV l)) (aa (au rfl rfl) (aa (au rfl rfl) (aa aA (aa aA (xc (ah ?_))))))))));refine⟨_,gz,?_⟩;rfl
def Oe(g:iZ)(th:Int):Bool:=!dP 1 g.fz (th - 1) || !dP 1 (gZ g (g.co*g.ro - 1)).2 (th - 1)
theorem Od{g:iZ}(hg:kG g){th:Int}:Oe g th=true↔(g.fz<1∨th - 1<(gZ g (g.co*g.ro - 1)).2):=by
 unfold Oe;rw[G3 hg];have h1:=hg.r1;have h2:=hg.s1;have h3:=X2 (show 0≤g.ro - 1 by omega) (show 0≤g.st by omega);simp only[dP,X3,Yg,Bool.and_eq_false_iff,YP];omega
theorem zJ(t:Tsk):PC qP 41 [.agg (tskC t)] (.da [.v (.int .i64 ((ckT t).1)),.v (.int .i64 ((ckT t).2))]):=by
 have hu:ckT t=if (dJ t.ar).2≠0 then dJ t.ar
  else if (AX t.ne t.bf).2≠0 then (0,(AX t.ne t.bf).2)
  else if (t.ar.el.length:Int)≠t.ne then (0,13)
  else if pW t.g≠0 then (0,pW t.g)
  else (0,c9 (!dP 1 t.g.fz (t.ar.ou.t - 1) || !dP 1 (gZ t.g (t.g.co*t.g.ro - 1)).2 (t.ar.ou.t - 1)) 22):=rfl
 refine aY (qA Tryz.func41 rfl) rfl Tryz.ntmps41 (rs:=[.tmp 2,.tmp 3]) Tryz.results41 (by simp) λw0 bQ cH iK=>?_;refine ae (xa 3 (aa (aP rfl (by exact .inr ⟨_,rfl⟩)) (aa aA (aa aA (rs (ae (xa 8 (aa (af fc rfl) (aa (ax (ds:=[_,_,_,_,_,_,_,_,_,_,_]) po rfl rfl rfl) (aa (ak aD0 (.cons rfl .nil) rfl (B3 t.ar)) (aa (aq (x:=.d (.da _)) rfl) (aa (au rfl rfl) (aa (au rfl rfl) (aa aA (aa aA (rs (xa 2 (aa aF (aa (bS rfl rfl) (xc (ao rfl (λbV=>?_) (λbV=>?_))))))))))))))))))))))
 ·
  (try simp only[nb,Xv]at bV)
  have h1:(dJ t.ar).2≠0:=bV;rw[Xu h1]at hu;rw[hu];refine ae (xa 4 (aa aF (aa aF (aa aA (aa aA (xc (ah ?_)))))));refine⟨_,gz,?_⟩;rfl
 ·
  (try simp only[nb,Xv]at bV)
  have h1:¬(dJ t.ar).2≠0:=λq=>q bV;rw[Xr h1]at hu;refine wO ?_;change Awp _ _ _ _ _;refine ae (ae (xa 8 (aa (af iz rfl) (aa (ax (ds:=[_,_]) BD rfl rfl rfl) (aa (ak aC9 (.cons rfl .nil) rfl (tS t.ne t.bf)) (aa (aq (x:=.d (.da _)) rfl) (aa (au rfl rfl) (aa (au rfl rfl) (aa aA (aa aA (rs (xa 2 (aa aF (aa (bS rfl rfl) (xc (ao rfl (λeU=>?_) (λeU=>?_)))))))))))))))))
  ·
   (try simp only[nb,Xv]at eU)
   have h2:(AX t.ne t.bf).2≠0:=eU;rw[Xu h2]at hu;rw[hu];refine ae (xa 3 (aa aF (aa aA (aa aA (xc (ah ?_))))));refine⟨_,gz,?_⟩;rfl
  ·
   (try simp only[nb,Xv]at eU)
   have h2:¬(AX t.ne t.bf).2≠0:=λq=>q eU;rw[Xr h2]at hu;refine wO ?_;change Awp _ _ _ _ _;refine ae (ae (xa 8 (aa (af iz rfl) (aa (af fB rfl) (aa (aj bo rfl rfl) (aa (af fc rfl) (aa (af du rfl) (aa (aj jP rfl rfl) (aa (cd kA rfl (by exact aV _ _)) (aa (bS rfl rfl) (xc (bm (t:=33) rfl (λU9=>?_)))))))))))))
   (try simp only[Xo]at U9)
   refine ao rfl (λmo=>?_) (λmo=>?_)
   ·
    (try simp only[nb,Xv]at mo)
    have h3:(t.ar.el.length:Int)≠t.ne:=by omega
    rw[Xu h3]at hu;rw[hu];refine ae (xa 2 (aa aA (aa aA (xc (ah ?_)))));refine⟨_,gz,?_⟩;rfl
   ·
    (try simp only[nb,Xv]at mo)
    have h3:¬(t.ar.el.length:Int)≠t.ne:=by omega
    rw[Xr h3]at hu;refine wO ?_;change Awp _ _ _ _ _;refine ae (ae (xa 4 (aa (af fy rfl) (aa (ax (ds:=[_,_,_,_,_]) mI rfl rfl rfl) (aa (ak aC8 (.cons rfl .nil) rfl (zK t.g)) (aa aA (rs (xa 2 (aa aF (aa (bS rfl rfl) (xc (ao rfl (λlF=>?_) (λlF=>?_)))))))))))))
    ·
     (try simp only[nb,Xv]at lF)
     have h4:pW t.g≠0:=lF;rw[Xu h4]at hu;rw[hu];refine ae (xa 3 (aa aF (aa aA (aa aA (xc (ah ?_))))));refine⟨_,gz,?_⟩;rfl
    ·
     (try simp only[nb,Xv]at lF)
     have h4:¬pW t.g≠0:=λq=>q lF;rw[Xr h4]at hu;obtain⟨Et,_⟩:=iL (XU.1 h1);have ht1:=Et.ou.t1;have ht2:=Et.ou.t2;obtain⟨hg,O9,WW⟩:=gW (XU.1 h4);have yO:=dg hg;have hz:ckT t=(0,c9 (Oe t.g t.ar.ou.t) 22):=hu;refine wO ?_;change Awp _ _ _ _ _;refine ae (ae (xa 21 (aa (af fy rfl) (aa (af gT rfl) (aa (af dQ rfl) (aa (aj bo rfl rfl) (aa (cM rfl rfl) (aa aF (aE rfl rfl (λhG=>(af fy rfl)) (aE rfl rfl (λhG=>(ax (ds:=[_,_,_,_,_]) mI rfl rfl rfl)) (aE rfl rfl (λhG=>(af fy rfl)) (aE rfl rfl (λhG=>(ax (ds:=[_,_,_,_,_]) mI rfl rfl rfl)) (aE rfl rfl (λhG=>(ak VN (.cons rfl .nil) rfl (ve _ (by assumption)))) ?_)))))))))))));refine aE rfl rfl (λhG=>(dk rfl rfl (lL.mk (by (have iR:=T.cP (a:=_) hG.1;(try simp only[nb,Xv]at iR);omega)) (by (have iR:=T.cP (a:=_) hG.1;(try simp only[nb,Xv]at iR);omega))))) (aE rfl rfl (λhG=>(ak am2 (.cons rfl (.cons rfl .nil)) rfl (Hb _ _ (by assumption) (by omega) (by omega)))) (aE rfl rfl (λhG=>(zN F1 bo rfl rfl)) (aE rfl rfl (λhG=>(af fc rfl)) (aE rfl rfl (λhG=>(af iA rfl)) (aE rfl rfl (λhG=>(af fD rfl)) (aE rfl rfl (λhG=>(aj bo rfl rfl)) ?_))))));refine aE rfl rfl (λhG=>(dk rfl rfl (lL.mk (by (have iR:=T.cP (a:=_) hG.1;(try simp only[nb,Xv]at iR);omega)) (by (have iR:=T.cP (a:=_) hG.1;(try simp only[nb,Xv]at iR);omega))))) (aE rfl rfl (λhG=>(gM rfl rfl)) (aT rfl rfl rfl rfl rfl rfl ?_));refine xc (ao rfl (λC0=>?_) (λC0=>?_))
     ·
      (try simp only[nb,Xv]at C0)
      rw[(Od hg).2 C0]at hz;refine ae (xa 2 (aa aA (aa aA (xc (ah ?_)))));refine⟨_,gz,?_⟩;rw[hz];rfl
     ·
      (try simp only[nb,Xv]at C0)
      have hb:Oe t.g t.ar.ou.t=false:=by
       cases q:Oe t.g t.ar.ou.t with
       | false=>rfl
       | true=>have:=(Od hg).1 q;omega
      rw[hb]at hz;refine wO ?_;change Awp _ _ _ _ _;refine ae (xa 2 (aa aA (aa aA (xc (ah ?_)))));refine⟨_,gz,?_⟩;rw[hz];rfl
theorem E3(t:Tsk):PC qP 11 [.agg (tskC t)] (.v (.int .i64 ((ckT t).2))):=by
 refine av (qA Tryz.func11 rfl) rfl Tryz.ntmps11 (rs:=[.tmp 2]) Tryz.results11 (by simp) λw0=>?_;refine ae (xa 2 (aa (aP rfl (by exact .inr ⟨_,rfl⟩)) (aa aA (rs (xa 7 (aa (ax kJ rfl rfl rfl) (aa (ak aE1 (.cons rfl .nil) rfl (zJ _)) (aa (aq (x:=.d (.da _)) rfl) (aa (au rfl rfl) (aa (au rfl rfl) (aa aA (aa aA (rs (xa 2 (aa aF (aa aA (xc (ah ?_))))))))))))))))));refine⟨_,cS,?_⟩;rfl
theorem xK(ne:Int)(l:List Nat)(hl:l.length≤10000):PC qP 19 [.agg [.v (.int .i64 (ne)),.sl 1 (l.map fC)]] (.agg (Qy ne l)):=by
 refine av (qA Tryz.func19 rfl) rfl Tryz.ntmps19 (rs:=[.cell 2 31]) Tryz.results19 (by simp) λw0=>?_;refine ae (xa 1 (aa (aP rfl (by exact .inr ⟨_,rfl⟩)) (aw (aD Pm rfl rfl rfl (ai (xq (xa 7 (aa (af fB rfl) (aa (aj bo rfl rfl) (aa (B7 xf Kj) (aa (af fU rfl) (aa (aj oF rfl rfl) ?_))))))))))));refine aa (yq xf Kj Ty rfl (by decide) rfl rfl rfl (by (try simp only[Xo]);omega) (by (try simp only[Xo]);omega)) ?_;refine aa (bz (cs:=[_,_]) ae1 Pm rfl (.cons rfl (by exact .inl rfl) (.cons rfl (by exact .inl rfl) .nil)) ⟨⟨rfl,by decide⟩,⟨rfl,by decide⟩,trivial⟩ rfl) (aw (ay BD rfl rfl (by exact .inr ⟨_,rfl⟩) rfl rfl (by decide) rfl (ai ?_)));change Awp _ _ _ _ _;refine ah ?_;refine⟨_,(.cons (.dn rfl rfl BD rfl) .nil),?_⟩;rfl
theorem B0(t:Tsk)(h1:t.ar.el.length≤1000)(h2:t.bf.length≤10000):PC qP 9 [.agg (tskC t)] (.agg (tskC t)):=by
 refine av (qA Tryz.func9 rfl) rfl Tryz.ntmps9 (rs:=[.cell 2 37]) Tryz.results9 (by simp) λw0=>?_;refine ae (xa 1 (aa (aP rfl (by exact .inr ⟨_,rfl⟩)) (aw (aD Pk rfl rfl rfl (ai (xq (xa 9 (aa (af fc rfl) (aa (ax (ds:=[_,_,_,_,_,_,_,_,_,_,_]) po rfl rfl rfl) (aa (ak aE2 (.cons rfl .nil) rfl (JI t.ar h1)) (aa (af iz rfl) (aa (ax (ds:=[_,_]) BD rfl rfl rfl) (aa (ak aF0 (.cons rfl .nil) rfl (xK t.ne t.bf h2)) (aa (af fy rfl) (aa (ax (ds:=[_,_,_,_,_]) mI rfl rfl rfl) ?_)))))))))))))));refine aa (bz ad9 Pk rfl (.cons rfl (by exact .inr ⟨_,rfl⟩) (.cons rfl (by exact .inr ⟨_,rfl⟩) (.cons rfl (by exact .inr ⟨_,rfl⟩) .nil))) ⟨⟨rfl,by decide⟩,⟨rfl,by decide⟩,⟨rfl,by decide⟩,trivial⟩ rfl) (aw (ay kJ rfl rfl (by exact .inr ⟨_,rfl⟩) rfl rfl (by decide) rfl (ai ?_)));change Awp _ _ _ _ _;refine ah ?_;refine⟨_,(.cons (.dn rfl rfl kJ rfl) .nil),?_⟩;rfl
def IN(g:iZ):Bool:=if (!dP 1 g.co 40 || !dP 1 g.ro 40)=true then true else decide (g.co*g.ro≤12)
def litB(t:Tsk):Bool:=(decide (t.ar.el.length≤2)||(decide (16<t.ar.el.length)&&decide (t.ar.el.length≤18)))&&decide (t.bf.length≤260)&&IN t.g
theorem lit_le{t:Tsk}(h:litB t=true):t.ar.el.length≤18∧t.bf.length≤260:=by
 unfold litB at h;simp only[Xs,X3,XW]at h;omega
theorem KY(g:iZ):PC qP 30 [.agg (qO g)] (.v (.bool (IN g))):=by
 refine av (qA Tryz.func30 rfl) rfl Tryz.ntmps30 (rs:=[.tmp 2]) Tryz.results30 (by simp) λw0=>?_;refine ae (xa 2 (aa (aP rfl (by exact .inr ⟨_,rfl⟩)) (aa aA (rs (ae (xa 10 (aa (af fA rfl) (aa (aj bo rfl rfl) (aa (ak nA (.cons rfl (.cons rfl (.cons rfl .nil))) rfl (cX _ _ _)) (aa (bX rfl) (aa aF (aE rfl rfl (λhG=>(af l8 rfl)) (aE rfl rfl (λhG=>(aj bo rfl rfl)) (aE rfl rfl (λhG=>(ak nA (.cons rfl (.cons rfl (.cons rfl .nil))) rfl (cX _ _ _))) (aE rfl rfl (λhG=>(bX rfl)) (aT rfl rfl rfl rfl rfl rfl ?_))))))))))))))));refine xc (ao rfl (λbW=>?_) (λbW=>?_))
 ·
  (try simp only[nb,Xv]at bW)
  have hz:IN g=true:=by unfold IN;rw[Xu (by rcases bW with q|q<;>simp[q])]
  refine ae (xa 1 (aa aA (xc (ah ?_))));refine⟨_,cS,?_⟩;rw[hz];rfl
 ·
  (try simp only[nb,Xv]at bW)
  obtain⟨q1,q2⟩:=bW;have hz:IN g=decide (g.co*g.ro≤12):=by unfold IN;rw[Xr (by rw[q1,q2];decide)]
  obtain⟨a1,a2⟩:=cY.1 q1;obtain⟨a3,a4⟩:=cY.1 q2;have hm:=lX (a:=g.co) (b:=g.ro) (A:=40) (B:=40) (by omega) (by omega) (by omega) (by omega);refine wO ?_;change Awp _ _ _ _ _;refine ae (xa 7 (aa (af fA rfl) (aa (aj bo rfl rfl) (aa (af l8 rfl) (aa (aj bo rfl rfl) ?_)))));refine aa (cZ rfl rfl xi) (aa (iG rfl rfl) (aa aA (xc (ah ?_))));refine⟨_,cS,?_⟩;rw[hz];rfl
theorem HK(t:Tsk):PC qP 6 [.agg (tskC t)] (.v (.bool (litB t))):=by
 refine av (qA Tryz.func6 rfl) rfl Tryz.ntmps6 (rs:=[.tmp 2]) Tryz.results6 (by simp) λw0=>?_;refine ae (xa 2 (aa (aP rfl (by exact .inr ⟨_,rfl⟩)) (aa aA (rs (xa 32 (aa (af fc rfl) (aa (af du rfl) (aa (aj jP rfl rfl) (aa (cd kA rfl (by exact aV _ _)) (aa (iG rfl rfl) (aa aF (aE rfl rfl (λhG=>(af fc rfl)) (aE rfl rfl (λhG=>(af du rfl)) (aE rfl rfl (λhG=>(aj jP rfl rfl)) (aE rfl rfl (λhG=>(cd kA rfl (by exact aV _ _))) (aE rfl rfl (λhG=>(gM rfl rfl)) (aE rfl rfl (λhG=>aF) (aE rfl rfl (λhG=>(af fc rfl)) (aE rfl rfl (λhG=>(af du rfl)) (aE rfl rfl (λhG=>(aj jP rfl rfl)) (aE rfl rfl (λhG=>(cd kA rfl (by exact aV _ _))) (aE rfl rfl (λhG=>(iG rfl rfl)) (vb rfl rfl rfl rfl rfl rfl rfl rfl ?_)))))))))))))))))))))));refine aT rfl rfl rfl rfl rfl rfl ?_;refine aa aF (aE rfl rfl (λhG=>(af iz rfl)) (aE rfl rfl (λhG=>(af fU rfl)) (aE rfl rfl (λhG=>(aj oF rfl rfl)) (aE rfl rfl (λhG=>(cd qD rfl (by exact aV _ _))) (aE rfl rfl (λhG=>(iG rfl rfl)) (aT rfl rfl rfl rfl rfl rfl ?_))))));refine aa aF (aE rfl rfl (λhG=>(af fy rfl)) (aE rfl rfl (λhG=>(ax (ds:=[_,_,_,_,_]) mI rfl rfl rfl)) (aE rfl rfl (λhG=>(ak aE4 (.cons rfl .nil) rfl (KY _))) (aT rfl rfl rfl rfl rfl rfl ?_))));refine aa aA (xc (bm (t:=5) rfl (λQ1=>?_)))
 (try simp only[Xo]at Q1)
 refine ah ?_;refine⟨_,cS,?_⟩;have e1:decide (t.ar.el.length≤2)=decide ((t.ar.el.length:Int)≤2):=YY.2 (by omega);have e2:decide (16<t.ar.el.length)=decide (16<(t.ar.el.length:Int)):=YY.2 (by omega);have e3:decide (t.ar.el.length≤18)=decide ((t.ar.el.length:Int)≤18):=YY.2 (by omega);have e4:decide (t.bf.length≤260)=decide ((t.bf.length:Int)≤260):=YY.2 (by omega);unfold litB;rw[e1,e2,e3,e4];simp only[gX,jJ];rfl
theorem nK(t:Tsk)(c:Int)(s:(Int × Int) × Int)(y:Int × Int):EE t c [] s y=if dP 0 (su t.ar (gZ t.g c) y) 60=true then ((s.1.1+Bc (jQ t y) (su t.ar (gZ t.g c) y).toNat,s.1.2+Bg (jQ t y) (su t.ar (gZ t.g c) y).toNat),s.2+1) else s:=Xr (show ¬(xz [] y.1||xz [] y.2)=true from Bool.false_ne_true)
theorem Hr(t:Tsk)(hw:(ckT t).2≠0):PC qP 31 [.agg (tskC t)] (.da [.v (.pointer none),.v (.int .i64 ((ckT t).2))]):=by
 refine aY (qA Tryz.func31 rfl) rfl Tryz.ntmps31 (rs:=[.tmp 2,.tmp 3]) Tryz.results31 (by simp) λw0 bQ cH iK=>?_;refine ae (xa 3 (aa (aP rfl (by exact .inr ⟨_,rfl⟩)) (aa aA (aa aA (rs (ae (xa 7 (aa (ax kJ rfl rfl rfl) (aa (ak am3 (.cons rfl .nil) rfl (AY t)) (aa (aq (x:=.d (.da _)) rfl) (aa (au rfl rfl) (aa (au rfl rfl) (aa aA (aa aA (rs (xa 2 (aa aF (aa (bS rfl rfl) (xc (ao rfl (λbV=>?_) (λbV=>?_)))))))))))))))))))))
 ·
  (try simp only[nb,Xv]at bV)
  refine ae (xa 3 (aa aF (aa aA (aa aA (xc (ah ?_))))));refine⟨_,gz,?_⟩;rfl
 ·
  (try simp only[nb,Xv]at bV)
  exact absurd bV hw
def cvD(z:Nat × Nat):D:=.v (.complex .f64 z.1 z.2)
def czP(x:Int × Int):Nat × Nat:=(FloatKind.f64.nearest x.1,FloatKind.f64.nearest x.2)
theorem V4{g:iZ}{c:Int}(h1:0≤c)(h2:c≤g.co*g.ro - 1):Bn g c=0:=by
 unfold Bn;rw[fL (by decide),Y6];exact cY.2 ⟨h1,h2⟩
def cvC(z:Nat × Nat):List D:=[cvD z]
def uK(t:Tsk)(fs dd:List Int)(k:Nat):List (Int × Int):=(List.range k).map λc:Nat=>(lN t (c:Int) dd (mW fs t.ne.toNat)).1
theorem Iy(t:Tsk)(fs dd:List Int)(k:Nat):uK t fs dd (k+1)=uK t fs dd k++[(lN t (k:Int) dd (mW fs t.ne.toNat)).1]:=by unfold uK;rw[ZA,Yw];rfl
theorem pY(t:Tsk)(fs dd:List Int)(k:Nat):(uK t fs dd k).length=k:=by unfold uK;rw[Xo,Yx]
def clN(t:Tsk):Nat:=(t.g.co*t.g.ro).toNat
def vlsL(t:Tsk)(fs dd:List Int):List (Int × Int):=uK t fs dd (clN t)
theorem values_p(t:Tsk)(fs dd:List Int)(h:TskOk t)(hf:∀x∈fs,0≤x∧x<t.ne)(CV:fs.length≤100):PC qP 35 [.pt (tkC t) 0,.sl 1 (fs.map iC),.sl 1 (dd.map iC)] (.sl 2 ((vlsL t fs dd).map shC)):=by
 obtain⟨hg,_,_⟩:=gW h.gr;have yO:=dg hg;have hcn:((clN t:Nat):Int)=t.g.co*t.g.ro:=by unfold clN;omega
 refine aY (qA Tryz.func35 rfl) rfl Tryz.ntmps35 (rs:=[.tmp 6]) Tryz.results35 (by simp) λw0 bQ cH iK=>?_;refine ae (xa 1 (aa (aG (x:=.d (.sl _ _)) rfl) (rs (xa 1 (aa (fP) (rn ?_))))));change Awp _ _ _ _ _;refine Awp.le (sI (k:=7) (e:=108) (sz:=2) rfl rfl) ?_;refine ae (ae (xa 6 (aa (aq (x:=.d (.pt _ _)) rfl) (aa (bZ rfl) (aa (af qZ rfl) (aa (ax (ds:=[_,_,_,_,_]) oE rfl rfl rfl) (aa (ak F4 (.cons rfl .nil) rfl (jG t.g hg)) (aa aF (xc (az (bG [7,8,9,10,16,17,18,19,20,21,22,23,24,25,26,27,28,29,30,31] [7] (α:=Nat) (λk=>[(16,T.i (k:Int)),(7,.rs 7)]) (λk=>[(7,.row 108 2 ((uK t fs dd k).map shC))]) (λk=>k≤clN t) (λk=>clN t - k) 0 (XC _) ?_ ?_)))))))))))
 ·exact xh (ms:=[7]) (by repeat (exact Out.refl _)) ⟨(by rfl),(by rfl),trivial⟩ ⟨(by rfl),trivial⟩
 ·
  intro k hk;have WE:=pY t fs dd k;refine ae (xa 1 (aa (cM rfl rfl) (rs (ao rfl (λdB=>?_) (λdB=>?_)))))
  ·
   (try simp only[nb,Xv]at dB)
   have bH:k<clN t:=by omega
   have AE:Bn t.g (k:Int)=0:=V4 (by omega) (by omega);have tY:(uK t fs dd (k+1)).map shC=(uK t fs dd k).map shC++[shC (lN t (k:Int) dd (mW fs t.ne.toNat)).1]:=by rw[Iy,Yw];rfl
   refine wO ?_;change Awp _ _ _ _ _;refine ae (az (ae (xa 2 (aa aF (aa aA (rs (xa 8 (aa (aq (x:=.d (.pt _ _)) rfl) (aa aF (aa (aq (x:=.d (.sl _ _)) rfl) (aa (aq (x:=.d (.sl _ _)) rfl) (aa (ak am8 (.cons rfl (.cons rfl (.cons rfl (.cons rfl .nil)))) rfl (GL t k fs dd h AE hf CV)) (aa (aq (x:=.d (.da _)) rfl) (aa (au rfl rfl) (aa (au rfl rfl) (aw (dF jW rfl fW rfl rfl (by exact .inr ⟨_,rfl⟩) rfl rfl (aN rfl aA (ai ?_)))))))))))))))))));change Awp _ _ _ _ _;refine xa 3 (aa (aq (x:=.rs _) rfl) (aa (ax (ds:=[_,_]) fW rfl rfl rfl) (aa (bu uX jW rfl rfl (by decide) (.cons rfl (by exact .inr ⟨_,rfl⟩) .nil) ⟨rfl,rfl,trivial⟩ rfl (by decide) rfl) (aw ?_))));refine eX uX jW Tz rfl (by decide) rfl rfl rfl rfl (by (try simp only[Xo,XI,XH,XL]);omega) (by (try simp only[Xo,XI,XH,XL]);omega) rfl rfl ?_;refine aN rfl (aG (x:=.rs _) rfl) (ai ?_);change Awp _ _ _ _ _;refine xa 2 ?_;refine aa (bC rfl rfl xi) (aa aF (rn ?_));refine⟨k+1,by omega,by omega,?_⟩;exact xh (ms:=[7]) (by repeat (first|exact Out.head rfl rfl|(refine Out.put ?_ rfl)|(refine Out.site ?_ rfl)|(refine Out.dE ?_ rfl))) ⟨(by rfl),(by rfl),trivial⟩ ⟨(by ((show Site.row _ _ _=Site.row _ _ _;(rw[tY];rfl)))),trivial⟩
  ·
   (try simp only[nb,Xv]at dB)
   have vP:k=clN t:=by omega
   subst vP;refine bJ ?_;change Awp _ _ _ _ _;refine ae (xa 2 (aa (aq (x:=.rs _) rfl) (aa (aG (x:=.rs _) rfl) (xc (ah ?_)))));refine⟨_,(.cons (.tmp (by exact .rs rfl)) .nil),?_⟩;rfl
theorem qu(l:List (Int × Int))(hl:l.length≤10000):PC qP 39 [.sl 2 (l.map shC)] (.sl 1 ((l.map czP).map cvC)):=by
 refine aY (qA Tryz.func39 rfl) rfl Tryz.ntmps39 (rs:=[.tmp 2]) Tryz.results39 (by simp) λw0 bQ cH iK=>?_;refine ae (xa 1 (aa (aG (x:=.d (.sl _ _)) rfl) (rs (xa 1 (aa (fP) (rn ?_))))));change Awp _ _ _ _ _;refine Awp.le (sI (k:=3) (e:=71) (sz:=1) rfl rfl) ?_;refine ae (ae (xa 3 (aa (aq (x:=.d (.sl _ _)) rfl) (aa (cd MD rfl (by exact aV _ _)) (aa aF (xc (bm (t:=6) rfl (λMY=>?_))))))))
 (try simp only[Xo]at MY)
 refine az (bG [3,5,8,9,10,11,12,13,14,15,16,17] [3] (α:=Nat) (λk=>[(8,T.i (k:Int)),(3,.rs 3)]) (λk=>[(3,.row 71 1 (((l.take k).map czP).map cvC))]) (λk=>k≤l.length) (λk=>l.length - k) 0 (XC _) ?_ ?_)
 ·exact xh (ms:=[3]) (by repeat (exact Out.refl _)) ⟨(by rfl),(by rfl),trivial⟩ ⟨(by rfl),trivial⟩
 ·
  intro k hk;have J4:(l.take k).length≤k:=by rw[Ya];omega
  refine ae (xa 1 (aa (cM rfl rfl) (rs (ao rfl (λdB=>?_) (λdB=>?_)))))
  ·
   (try simp only[nb,Xv]at dB)
   have bH:k<l.length:=by omega
   obtain⟨x,hx⟩:∃x,l[k]?=some x:=⟨_,Xp bH⟩
   have tY:((l.take (k+1)).map czP).map cvC=((l.take k).map czP).map cvC++[cvC (czP x)]:=by rw[iB hx,Yw,Yw];rfl
   refine wO ?_;change Awp _ _ _ _ _;refine ae (az (ae (xa 2 (aa (aJ uX rfl rfl (by omega) (cm (by omega) hx)) (aa (ax (ds:=[_,_]) fW rfl rfl rfl) (aw (dF jW rfl fW rfl rfl (by exact .inr ⟨_,rfl⟩) rfl rfl (ai ?_))))))));change Awp _ _ _ _ _;refine xa 4 (aa (aq (x:=.rs _) rfl) (aa (ax (ds:=[_,_]) fW rfl rfl rfl) (aa (ak am7 (.cons rfl .nil) rfl (yU x.1 x.2)) (aa (bu PW Xc rfl rfl (by decide) (.cons rfl (by exact .inl rfl) .nil) ⟨rfl,rfl,trivial⟩ rfl (by decide) rfl) (aw ?_)))));refine eX PW Xc aG0 rfl (by decide) rfl rfl rfl rfl (by (try simp only[Xo,XI,XH,XL]);omega) (by (try simp only[Xo,XI,XH,XL]);omega) rfl rfl ?_;refine aN rfl (aG (x:=.rs _) rfl) (ai ?_);change Awp _ _ _ _ _;refine xa 2 ?_;refine aa (bC rfl rfl xi) (aa aF (rn ?_));refine⟨k+1,by omega,by omega,?_⟩;exact xh (ms:=[3]) (by repeat (first|exact Out.head rfl rfl|(refine Out.put ?_ rfl)|(refine Out.site ?_ rfl)|(refine Out.dE ?_ rfl))) ⟨(by rfl),(by rfl),trivial⟩ ⟨(by ((show Site.row _ _ _=Site.row _ _ _;(rw[tY];rfl)))),trivial⟩
  ·
   (try simp only[nb,Xv]at dB)
   have vP:k=l.length:=by omega
   subst vP;rw[YL];refine bJ ?_;change Awp _ _ _ _ _;refine ae (xa 2 (aa (aq (x:=.rs _) rfl) (aa (aG (x:=.rs _) rfl) (xc (ah ?_)))));refine⟨_,(.cons (.tmp (by exact .rs rfl)) .nil),?_⟩;rfl
theorem Tw{t:Tsk}(h:TskOk t):clN t≤1600:=by
 obtain⟨hg,_,_⟩:=gW h.gr;have:=dg hg;unfold clN;omega
def imL(t:Tsk)(fs dd:List Int):List (Nat × Nat):=(vlsL t fs dd).map czP
theorem QN(t:Tsk)(fs dd:List Int):(imL t fs dd).length=clN t:=by unfold imL vlsL;rw[Xo,pY]
def evI(t:Tsk):List Int:=gY t.ne.toNat
theorem MI(t:Tsk)(h:TskOk t):PC qP 13 [.agg (tskC t)] (.da [.sl 1 ((imL t (evI t) []).map cvC),.v (.int .i64 (0))]):=by
 obtain⟨WZ,ha2⟩:=A5 h;have wY:=h.n1;have Bi:=h.n2;have kY:=Tw h;have WE:(vlsL t (gY t.ne.toNat) []).length≤10000:=by unfold vlsL;rw[pY];omega
 refine aY (qA Tryz.func13 rfl) rfl Tryz.ntmps13 (rs:=[.tmp 2,.tmp 3]) Tryz.results13 (by simp) λw0 bQ cH iK=>?_;refine ae (xa 3 (aa (aP rfl (by exact .inr ⟨_,rfl⟩)) (aa (aG (x:=.d (.sl _ _)) rfl) (aa aA (rs (xa 7 (aa (ax kJ rfl rfl rfl) (aa (ak JD (.cons rfl .nil) rfl (zX t h)) (aa (aq (x:=.d (.da _)) rfl) (aa (au rfl rfl) (aa (au rfl rfl) (aa (aG (x:=.d (.pt _ _)) rfl) (aa aA (rs (ae (xa 2 (aa aF (aa (bS rfl rfl) (xc (ao rfl (λbV=>?_) (λbV=>?_)))))))))))))))))))))
 ·
  simp at bV
 ·
  (try simp only[nb,Xv]at bV)
  refine wO ?_;change Awp _ _ _ _ _;refine ae (xa 7 (aa (aq (x:=.d (.pt _ _)) rfl) (aa (aq (x:=.d (.pt _ _)) rfl) (aa (ak VL (.cons rfl .nil) rfl (OH t wY Bi)) (aa (ak aE3 (.cons rfl (.cons rfl (.cons rfl .nil))) rfl (values_p t (gY t.ne.toNat) [] h WZ (by omega))) (aa (ak an1 (.cons rfl .nil) rfl (qu _ WE)) (aa (aG (x:=.d (.sl _ _)) rfl) (aa aA (xc (ah ?_))))))))));refine⟨_,gz,?_⟩;rfl
theorem MH(t:Tsk)(hw:(ckT t).2≠0):PC qP 13 [.agg (tskC t)] (.da [.sl 1 (([]:List (Nat × Nat)).map cvC),.v (.int .i64 ((ckT t).2))]):=by
 refine aY (qA Tryz.func13 rfl) rfl Tryz.ntmps13 (rs:=[.tmp 2,.tmp 3]) Tryz.results13 (by simp) λw0 bQ cH iK=>?_;refine ae (xa 3 (aa (aP rfl (by exact .inr ⟨_,rfl⟩)) (aa (aG (x:=.d (.sl _ _)) rfl) (aa aA (rs (xa 7 (aa (ax kJ rfl rfl rfl) (aa (ak JD (.cons rfl .nil) rfl (Hr t hw)) (aa (aq (x:=.d (.da _)) rfl) (aa (au rfl rfl) (aa (au rfl rfl) (aa aA (aa aA (rs (ae (xa 2 (aa aF (aa (bS rfl rfl) (xc (ao rfl (λbV=>?_) (λbV=>?_)))))))))))))))))))))
 ·
  (try simp only[nb,Xv]at bV)
  refine ae (xa 3 (aa aF (aa (aG (x:=.d (.sl _ _)) rfl) (aa aA (xc (ah ?_))))));refine⟨_,gz,?_⟩;rfl
 ·
  (try simp only[nb,Xv]at bV)
  exact absurd bV hw
def Cz(t:Tsk):List (Nat × Nat) × Int:=if (ckT t).2≠0 then ([],(ckT t).2) else (imL t (evI t) [],0)
theorem MJ(t:Tsk):PC qP 13 [.agg (tskC t)] (.da [.sl 1 ((Cz t).1.map cvC),.v (.int .i64 (Cz t).2)]):=by
 by_cases hw:(ckT t).2≠0
 ·have hv:Cz t=([],(ckT t).2):=by unfold Cz;rw[Xu hw]
  rw[hv];exact MH t hw
 ·have hv:Cz t=(imL t (evI t) [],0):=by unfold Cz;rw[Xr hw]
  rw[hv];exact MI t (ckT_ok (XU.1 hw))
theorem Ul(x y:Nat × Nat):sbB x.1 x.2 y.1 y.2=decide (x=y):=by
 obtain⟨a,b⟩:=x;obtain⟨c,d⟩:=y;unfold sbB
 by_cases h1:a=c
 ·by_cases h2:b=d
  ·simp[h1,h2]
  ·have:¬(b:Int)=d:=by omega
   simp[h1,h2,this]
 ·have:¬(a:Int)=c:=by omega
  simp[h1,this]
theorem E2(l m:List (Nat × Nat)):PC qP 15 [.sl 1 (l.map cvC),.sl 1 (m.map cvC)] (.v (.bool (decide (l=m)))):=by
 refine av (qA Tryz.func15 rfl) rfl Tryz.ntmps15 (rs:=[.tmp 4]) Tryz.results15 (by simp) λw0=>?_;refine ae (xa 1 (aa aA (rs (ae (xa 5 (aa (aq (x:=.d (.sl _ _)) rfl) (aa (cd yF rfl (by exact aV _ _)) (aa (aq (x:=.d (.sl _ _)) rfl) (aa (cd yF rfl (by exact aV _ _)) (aa (bS rfl rfl) (xc (bm (t:=6) rfl (λMY=>?_)))))))))))))
 (try simp only[Xo]at MY)
 refine bm (t:=8) rfl (λMW=>?_)
 (try simp only[Xo]at MW)
 refine ao rfl (λbW=>?_) (λbW=>?_)
 ·
  (try simp only[nb,Xv]at bW)
  have hz:decide (l=m)=false:=XV (λe=>by rw[e]at bW;omega);refine ae (xa 1 (aa aA (xc (ah ?_))));refine⟨_,cS,?_⟩;rw[hz];rfl
 ·
  (try simp only[nb,Xv]at bW)
  have WU:l.length=m.length:=by omega
  refine wO ?_;change Awp _ _ _ _ _;refine ae (ae (xa 1 (aa aA (xc (az (bG [4,5,11,12,13,14,15,16,17,18,19,20,21,22,23,24,25,26] [] (α:=Nat) (λk=>[(5,T.i (k:Int))]) (λk=>[]) (λk=>k≤l.length∧l.take k=m.take k) (λk=>l.length - k) 0 ⟨XC _,rfl⟩ ?_ ?_))))))
  ·exact xh (ms:=[]) (by repeat (exact Out.refl _)) ⟨(by rfl),trivial⟩ trivial
  ·
   intro k ⟨hk,hf⟩;refine ae (ae (xa 4 (aa aF (aa (aq (x:=.d (.sl _ _)) rfl) (aa (cd yF rfl (by exact aV _ _)) (aa (cM rfl rfl) (xc (bm (t:=12) rfl (λMZ=>?_)))))))))
   (try simp only[Xo]at MZ)
   refine ao rfl (λeJ=>?_) (λeJ=>?_)
   ·
    (try simp only[nb,Xv]at eJ)
    have bH:k<l.length:=by omega
    obtain⟨x,hx⟩:∃x,l[k]?=some x:=⟨_,Xp bH⟩
    obtain⟨y,hy⟩:∃y,m[k]?=some y:=⟨_,Xp (by omega)⟩
    have WA:=Ul x y;refine wO ?_;change Awp _ _ _ _ _;refine ae (az (ae (xa 10 (aa (aq (x:=.d (.sl _ _)) rfl) (aa aF (aa (aJ PW rfl rfl (by omega) (cm (k:=k) (by omega) hx)) (aa (aj ab3 rfl rfl) (aa (aq (x:=.d (.sl _ _)) rfl) (aa aF (aa (aJ PW rfl rfl (by omega) (cm (k:=k) (by omega) hy)) (aa (aj ab3 rfl rfl) (aa (ak an3 (.cons rfl (.cons rfl .nil)) rfl (u4 x.1 x.2 y.1 y.2)) (aa (bX rfl) (xc (ao rfl (λl6=>?_) (λl6=>?_))))))))))))))))
    ·
     (try simp only[nb,Xv]at l6)
     have hz:decide (l=m)=false:=XV (λe=>by rw[e,hy]at hx;have:=YT hx;subst this;rw[l6]at WA;simp at WA);refine ae (xa 1 (aa aA (xc (ah ?_))));refine⟨_,cS,?_⟩;rw[hz];rfl
    ·
     (try simp only[nb,Xv]at l6)
     rw[l6]at WA;have Eo:x=y:=Y3 WA.symm;have Jt:l.take (k+1)=m.take (k+1):=by rw[iB hx,iB hy,hf,Eo]
     refine wO ?_;change Awp _ _ _ _ _;refine xa 3 (aa aF ?_);refine aa (bC rfl rfl xi) (aa aA (rn ?_));refine⟨k+1,⟨by omega,Jt⟩,by omega,?_⟩;exact xh (ms:=[]) (by repeat (first|exact Out.head rfl rfl|(refine Out.put ?_ rfl))) ⟨(by rfl),trivial⟩ trivial
   ·
    (try simp only[nb,Xv]at eJ)
    have hz:decide (l=m)=true:=X5 (by rw[<-Yo (l:=l) (i:=k) (by omega),hf,Yo (by omega)]);refine bJ ?_;change Awp _ _ _ _ _;refine ae (xa 1 (aa aA (xc (ah ?_))));refine⟨_,cS,?_⟩;rw[hz];rfl
end
end Go.Proofs.YthcfokccjljnpaaGreat.Am.M
