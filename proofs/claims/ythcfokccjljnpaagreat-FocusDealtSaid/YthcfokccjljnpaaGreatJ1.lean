/- Contracts over the abstract machine, and the crowd of workers. Conditions: none. -/
import GoSem.Step
set_option linter.unusedVariables false
set_option linter.unusedSimpArgs false
set_option linter.unusedSectionVars false
namespace Go.Proofs.YthcfokccjljnpaaGreat
theorem Xo.{u,v}:∀{α:Type u}{β:Type v}{as:List α}(f:α→β),(List.map f as).length=as.length:=@List.length_map
theorem Xp.{u}:∀{α:Type u}{l:List α}{i:Nat}(h:i<l.length),l[i]?=some l[i]:=@List.getElem?_eq_getElem
theorem Xq:∀{n m:Nat},n.beq m=true→n=m:=@Nat.eq_of_beq_eq_true
theorem Xr.{u}:∀{c:Prop}{h:Decidable c},¬c→∀{α:Sort u}{t e:α},(if c then t else e)=e:=@if_neg
theorem Xs:∀(a b:Bool),((a&&b)=true)=(a=true∧b=true):=@Bool.and_eq_true
theorem Xt.{u}:∀{α:Type u}{i:Nat}{a:α}{l:List α},l[i]?=some a↔∃h,l[i]=a:=@List.getElem?_eq_some_iff
theorem Xu.{u}:∀{c:Prop}{h:Decidable c},c→∀{α:Sort u}{t e:α},(if c then t else e)=t:=@if_pos
theorem Xv.{u}:∀{α:Sort u}(a b:α),(a≠b)=¬a=b:=@ne_eq
theorem Xw:∀(n:Nat),n≤n:=@Nat.le_refl
theorem Xx.{u}:∀{α:Type u}{xs:Array α}{i j:Nat}{a:α},(xs.setIfInBounds i a)[j]?=if i=j then if i<xs.size then some a else none else xs[j]?:=@Array.getElem?_setIfInBounds
theorem Xy.{u}:∀{α:Type u}{b:α}{l:List α}{a:α},a∈b::l↔a=b∨a∈l:=@List.mem_cons
theorem Xz.{u}:∀{α:Type u}{i:Nat}{b:α}{xs:Array α},xs[i]?=some b↔∃h,xs[i]=b:=@Array.getElem?_eq_some_iff
theorem XA.{u}:∀{α:Type u}{l:List α}{i:Nat}{a:α},l[i]?=some a→a∈l:=@List.mem_of_getElem?
theorem XB.{u,v}:∀{α:Type u}{β:Type v}(a:α) (f:α→β),Option.map f (some a)=some (f a):=@Option.map_some
theorem XC:∀(n:Nat),0≤n:=@Nat.zero_le
theorem XD:∀{n m k:Nat},n<m→m≤k→n<k:=@Nat.lt_of_lt_of_le
theorem XE.{u}:∀{α:Type u}{xs:Array α}{i j:Nat},i≠j→∀{a:α},(xs.setIfInBounds i a)[j]?=xs[j]?:=@Array.getElem?_setIfInBounds_ne
theorem XF.{u,v}:∀{α:Type u}{β:Type v}{f:α→β}{l:List α}{i:Nat},(List.map f l)[i]?=Option.map f l[i]?:=@List.getElem?_map
theorem XG.{u}:∀{α:Type u}{a:α},¬a∈[]:=@List.not_mem_nil
theorem XH.{u}:∀{α:Type u}{a:α}{as:List α},(a::as).length=as.length+1:=@List.length_cons
theorem XI.{u}:∀{α:Type u}{as bs:List α},(as++bs).length=as.length+bs.length:=@List.length_append
theorem XJ.{u}:∀{α:Sort u}(a b:α),(bif false then a else b)=b:=@cond_false
theorem XK:∀(n:Nat),0+n=n:=@Nat.zero_add
theorem XL.{u}:∀{α:Type u},([]:List α).length=0:=@List.length_nil
theorem XM.{u}:∀{α:Type u}{l₁ l₂:List α}{i:Nat},l₁.length≤i→(l₁++l₂)[i]?=l₂[i - l₁.length]?:=@List.getElem?_append_right
theorem XN.{u}:∀{α:Type u}{xs:Array α}{i:Nat}{d:α},xs.getD i d=xs[i]?.getD d:=@Array.getD_eq_getD_getElem?
theorem XO:(false=true)=False:=@Bool.false_eq_true
theorem XP:∀(n m:Nat),n<m∨n≥m:=@Nat.lt_or_ge
theorem XQ:∀{n m k:Nat},n≤m→m≤k→n≤k:=@Nat.le_trans
theorem XR.{u,v}:∀{α:Type u}{β:Type v}(f:α→β),Option.map f none=none:=@Option.map_none
theorem XS.{u}:∀{α:Type u}(val val_1:α),(some val=some val_1)=(val=val_1):=@Option.some.injEq
theorem XT:∀(b:Bool),(¬b=true)=(b=false):=@Bool.not_eq_true
theorem XU:∀{p:Prop}[Decidable p],¬¬p↔p:=@Decidable.not_not
theorem XV:∀{p:Prop}[inst:Decidable p],¬p→decide p=false:=@decide_eq_false
theorem XW:∀{p:Prop}[inst:Decidable p],(decide p=true)=p:=@decide_eq_true_eq
theorem XX.{u}:∀{α:Type u}{a:α}{l:List α},a∈a::l:=@List.mem_cons_self
theorem XZ.{u}:∀{α:Type u}{l₁ l₂:List α}{i:Nat},i<l₁.length→(l₁++l₂)[i]?=l₁[i]?:=@List.getElem?_append_left
theorem X0.{u}:∀{α:Type u}{p:α→Bool}{l:List α},l.all p=true↔∀(x:α),x∈l→p x=true:=@List.all_eq_true
theorem X1.{u}:∀{α:Type u}{l:List α}{i:Nat}{a:α},l.getD i a=l[i]?.getD a:=@List.getD_eq_getElem?_getD
theorem X2:∀{a b:Int},0≤a→0≤b→0≤a*b:=@Int.mul_nonneg
theorem X3:∀(a b:Bool),((a||b)=true)=(a=true∨b=true):=@Bool.or_eq_true
theorem X4.{u}:∀{α:Type u}{xs:Array α}{i:Nat}(h:i<xs.size),xs[i]?=some xs[i]:=@Array.getElem?_eq_getElem
theorem X5:∀{p:Prop}[inst:Decidable p],p→decide p=true:=@decide_eq_true
theorem X6.{u,v}:∀{α:Type u}{β:Type v}{b:β}{f:α→β}{l:List α},b∈List.map f l↔∃a,a∈l∧f a=b:=@List.mem_map
theorem X7:∀{n m:Nat}(k:Nat),n≤m→n*k≤m*k:=@Nat.mul_le_mul_right
theorem X8.{u}:∀{α:Type u}{xs:List α}{i:Nat},xs.toArray[i]?=xs[i]?:=@List.getElem?_toArray
theorem X9.{u}:∀{α:Type u}{xs:Array α}{i:Nat}{a:α},i<xs.size→(xs.setIfInBounds i a)[i]?=some a:=@Array.getElem?_setIfInBounds_self_of_lt
theorem Ya.{u}:∀{α:Type u}{i:Nat}{l:List α},(List.take i l).length=min i l.length:=@List.length_take
theorem Yb.{u}:∀{α:Sort u}(a b:α),(bif true then a else b)=a:=@cond_true
theorem Yc.{u}:∀{α:Type u}(y:α){a:α}{l:List α},a∈l→a∈y::l:=@List.mem_cons_of_mem
theorem Yd.{u,v}:∀{α:Type u}{β:Type v}{f:α→β}{a:α}{l:List α},List.map f (a::l)=f a::List.map f l:=@List.map_cons
theorem Ye.{u,v}:∀{α:Type u}{b:α}{α_1:Type v}{x:Option α_1}{f:α_1→α},Option.map f x=some b↔∃a,x=some a∧f a=b:=@Option.map_eq_some_iff
theorem Yf.{u}:∀{α:Type u}{i:Nat}{l:List α}(h:i<l.length),List.drop i l=l[i]::List.drop (i+1) l:=@List.drop_eq_getElem_cons
theorem Yg:∀(b:Bool),((!b)=true)=(b=false):=@Bool.not_eq_true'
theorem Yh.{u}:∀{α:Type u}{i:Nat}{l:List α}(h:i<l.length),List.take (i+1) l=List.take i l++[l[i]]:=@List.take_succ_eq_append_getElem
theorem Yi.{u}:∀{α:Type u}{p:α→Bool}{xs:Array α},xs.all p=true↔∀(x:α),x∈xs→p x=true:=@Array.all_eq_true_iff_forall_mem
theorem Yj:∀(w:Nat),0<2 ^ w:=@Nat.two_pow_pos
theorem Yk.{u}:∀{α:Type u}{xs:List α}{i j:Nat},(List.drop i xs)[j]?=xs[i+j]?:=@List.getElem?_drop
theorem Yl.{u,v}:∀{α:Type u}{β:Type v}{f:α→β}{xs:Array α}{i:Nat},(Array.map f xs)[i]?=Option.map f xs[i]?:=@Array.getElem?_map
theorem Ym.{u}:∀{α:Type u}{xs:Array α}{i:Nat}{a:α},xs[i]?=some a→a∈xs:=@Array.mem_of_getElem?
theorem Yn:∀(p:Prop),(p∨False)=p:=@or_false
theorem Yo.{u}:∀{α:Type u}{i:Nat}{l:List α},l.length≤i→List.take i l=l:=@List.take_of_length_le
theorem Yp.{u}:∀{α:Sort u}{x:Decidable True}(t e:α),(if True then t else e)=t:=@if_true
theorem Yq.{u}:∀{α:Type u}{l:List α}{i j:Nat},(List.take i l)[j]?=if j<i then l[j]? else none:=@List.getElem?_take
theorem Yr.{u}:∀{α:Type u}(as bs cs:List α),as++bs++cs=as++(bs++cs):=@List.append_assoc
theorem Ys.{u}:∀{α:Type u}{as:List α},as.toArray.size=as.length:=@List.size_toArray
theorem Yt.{u}:∀{α:Type u}(as:List α),[]++as=as:=@List.nil_append
theorem Yu.{u}:∀{α:Type u}{i:Nat}{l:List α},l.length≤i→List.drop i l=[]:=@List.drop_of_length_le
theorem Yv.{u,v}:∀{α:Type u}{b:α}{α_1:Type v}{x:Option α_1}{f:α_1→Option α},x.bind f=some b↔∃a,x=some a∧f a=some b:=@Option.bind_eq_some_iff
theorem Yw.{u,v}:∀{α:Type u}{β:Type v}{f:α→β}{l₁ l₂:List α},List.map f (l₁++l₂)=List.map f l₁++List.map f l₂:=@List.map_append
theorem Yx:∀{n:Nat},(List.range n).length=n:=@List.length_range
theorem Yy:∀(n m:Nat),n+m - n=m:=@Nat.add_sub_cancel_left
theorem Yz.{u}:∀{α:Type u}{a b:α},a∈#[b]↔a=b:=@Array.mem_singleton
theorem YA:∀(n:Nat),n*1=n:=@Nat.mul_one
theorem YB:∀{x y:Nat},(x.blt y=true)=(x<y):=@Nat.blt_eq
theorem YC.{u}:∀{α:Sort u}{x:Decidable False}(t e:α),(if False then t else e)=e:=@if_false
theorem YD.{u}:∀{α:Type u}{xs:Array α},xs.toList.length=xs.size:=@Array.length_toList
theorem YE.{u}:∀{α:Type u}{i:Nat}{xs:Array α}{x:α},(xs.push x)[i]?=if i=xs.size then some x else xs[i]?:=@Array.getElem?_push
theorem YF:∀(n:Nat),n<n.succ:=@Nat.lt_succ_self
theorem YG.{u}:∀{α:Type u}{a:α}{xs ys:Array α},a∈xs++ys↔a∈xs∨a∈ys:=@Array.mem_append
theorem YH.{u}:∀{α:Type u}{a:α}{l:List α},a∈l→∃i:Nat,l[i]?=some a:=@List.getElem?_of_mem
theorem YI:∀(n:Nat),n+0=n:=@Nat.add_zero
theorem YJ:∀{m n:Nat},m∈List.range n↔m<n:=@List.mem_range
theorem YK.{u,v}:∀{α:Type u}{β:Type v}{f:α→β}{l:List α},Array.map f l.toArray=(List.map f l).toArray:=@List.map_toArray
theorem YL.{u}:∀{α:Type u}{l:List α},List.take l.length l=l:=@List.take_length
theorem YM.{u}:∀{α:Type u}{x:Option α},x.isSome=true↔∃a,x=some a:=@Option.isSome_iff_exists
theorem YN:∀(a m n:Nat),a ^ (m+n)=a ^ m*a ^ n:=@Nat.pow_add
theorem YO:∀{a b c:Int},a<b→0<c→a*c<b*c:=@Int.mul_lt_mul_of_pos_right
theorem YP:∀{p:Prop}{x:Decidable p},decide p=false↔¬p:=@decide_eq_false_iff_not
theorem YQ.{u}:∀{α:Type u}{l:List α},l.length=0↔l=[]:=@List.length_eq_zero_iff
theorem YR:∀{x y:Bool},(x||y)=false↔x=false∧y=false:=@Bool.or_eq_false_iff
theorem YS.{u}:∀{α:Type u}{a b:α},a∈[b]↔a=b:=@List.mem_singleton
theorem YT.{u}:∀{α:Type u}{val val_1:α},some val=some val_1→val=val_1:=@Option.some.inj
theorem YU:∀(n m k:Nat),n*m*k=n*(m*k):=@Nat.mul_assoc
theorem YV.{u}:∀{α:Type u}{a:α}{s t:List α},a∈s++t↔a∈s∨a∈t:=@List.mem_append
theorem YW:∀(n m:Nat),n*m=m*n:=@Nat.mul_comm
theorem YX:∀{n m:Nat},n=m→n≤m:=@Nat.le_of_eq
theorem YY:∀{p q:Prop}{x:Decidable p}{x_1:Decidable q},decide p=decide q↔(p↔q):=@decide_eq_decide
theorem YZ:∀(n m k:Nat),n+m+k=n+(m+k):=@Nat.add_assoc
theorem Y1:(!true)=false:=@Bool.not_true
theorem Y2:∀{a b:Int},0≤a→a.tdiv b=a / b:=@Int.tdiv_eq_ediv_of_nonneg
theorem Y3:∀{p:Prop}[inst:Decidable p],decide p=true→p:=@of_decide_eq_true
theorem Y4:∀{i n:Nat},i<n→(List.range n)[i]?=some i:=@List.getElem?_range
theorem Y5.{u,v}:∀{α:Type u}{l:List α}{α_1:Type v}{f g:α→α_1},(∀(a:α),a∈l→f a=g a)→List.map f l=List.map g l:=@List.map_congr_left
theorem Y6:∀(b:Bool),((!b)=false)=(b=true):=@Bool.not_eq_false'
theorem Y7.{u}:∀{α:Type u}(l₁ l₂:List α),l₁ <+: l₁++l₂:=@List.prefix_append
theorem Y8:∀{a b c:Int},a≤b→0≤c→a*c≤b*c:=@Int.mul_le_mul_of_nonneg_right
theorem Y9:∀(a b:Nat),a <<< b=a*2 ^ b:=@Nat.shiftLeft_eq
theorem Za:∀(a b:Nat),b≤max a b:=@Nat.le_max_right
theorem Zb.{u,v}:∀{β:Type u}{α:Type v}(f:β→α→β){init:β}{xs:Array α},List.foldl f init xs.toList=Array.foldl f init xs:=@Array.foldl_toList
theorem Zc:∀(n:Nat),n=0∨n > 0:=@Nat.eq_zero_or_pos
theorem Zd:∀(p:Prop),p∨¬p:=@Classical.em
theorem Ze.{u}:∀{α:Type u}{a:α}{l:List α}{f:α→Bool},(a::l).all f=(f a&&l.all f):=@List.all_cons
theorem Zf:∀(n m:Nat),n.succ*m=n*m+m:=@Nat.succ_mul
theorem Zg:∀(n:Nat),n ^ 0=1:=@Nat.pow_zero
theorem Zh:∀(n m:Nat),n+m=m+n:=@Nat.add_comm
theorem Zi.{u}:∀{α:Type u}{xs:Array α}{i:Nat}{a:α},(xs.setIfInBounds i a).size=xs.size:=@Array.size_setIfInBounds
theorem Zj:∀{a b c:Int},a≤b→0≤c→c*a≤c*b:=@Int.mul_le_mul_of_nonneg_left
theorem Zk.{u,v}:∀{α:Type u}{xs:Array α}{α_1:Type v}{f g:α→α_1},(∀(a:α),a∈xs→f a=g a)→Array.map f xs=Array.map g xs:=@Array.map_congr_left
theorem Zl:∀{a b:Int},compare a b=Ordering.lt↔a<b:=@Int.compare_eq_lt
theorem Zm:∀{a b:Int},compare a b=Ordering.gt↔b<a:=@Int.compare_eq_gt
theorem Zn.{u}:∀{α:Type u}{l:List α},l <+: l:=@List.prefix_rfl
theorem Zo:∀(n m:Nat),((n*m:Nat):Int)=(n:Int)*(m:Int):=@Int.natCast_mul
theorem Zp:∀(x:Nat){y:Nat},0<y→x % y<y:=@Nat.mod_lt
theorem Zq.{u,v}:∀{α:Type u}{β:Type v}{f:α→β},List.map f []=[]:=@List.map_nil
theorem Zr:∀{n m k:Nat},n<m→k > 0→n*k<m*k:=@Nat.mul_lt_mul_of_pos_right
theorem Zs.{u,v}:∀{β:Sort u}{α:Type v}(x:β) (f:α→β),none.elim x f=x:=@Option.elim_none
theorem Zt:∀{a b:Nat},a<b→a % b=a:=@Nat.mod_eq_of_lt
theorem Zu:∀{a b:Nat},a<b→a / b=0:=@Nat.div_eq_of_lt
theorem Zv.{u,v}:∀{α:Type u}{β:Type v}(a:α) (f:α→Option β),(some a).bind f=f a:=@Option.bind_some
theorem Zw.{u}:∀{α:Type u}{a b:α},(some a).getD b=a:=@Option.getD_some
theorem Zx:∀(p:Prop),(True∧p)=p:=@true_and
theorem Zy.{u}:∀{α:Type u}{xs:Array α}{i:Nat}{f:α→α}{j:Nat},(xs.modify i f)[j]?=if i=j then Option.map f xs[j]? else xs[j]?:=@Array.getElem?_modify
theorem Zz.{u}:∀{α:Type u}{o:Option α},o.isNone=true↔o=none:=@Option.isNone_iff_eq_none
theorem ZA:∀{n:Nat},List.range n.succ=List.range n++[n]:=@List.range_succ
theorem ZB:∀{n m:Nat},n≠0→m≠0→n*m≠0:=@Nat.mul_ne_zero
theorem ZC:∀(n m:Nat),n ^ m.succ=n ^ m*n:=@Nat.pow_succ
theorem ZD:∀(p:Prop),(p∧True)=p:=@and_true
theorem ZE.{u}:∀{α:Sort u}{a':α}{P Q:α→Prop},(∀(a:α),a=a'∨Q a→P a)↔P a'∧∀(a:α),Q a→P a:=@forall_eq_or_imp
theorem ZG:(!false)=true:=@Bool.not_false
theorem ZH.{u,v}:∀{α:Type u}{β:Type v}{f:α→β}{xs ys:Array α},Array.map f (xs++ys)=Array.map f xs++Array.map f ys:=@Array.map_append
theorem ZI.{u}:∀{α:Type u}{l:List α},List.drop l.length l=[]:=@List.drop_length
theorem ZJ.{u}:∀{α:Type u}{a:α}{l:List α},(a::l)[0]?=some a:=@List.getElem?_cons_zero
theorem ZK.{u}:∀{α:Type u}(head:α) (tail:List α) (head_1:α) (tail_1:List α),(head::tail=head_1::tail_1)=(head=head_1∧tail=tail_1):=@List.cons.injEq
theorem ZL.{u}:∀{α:Type u}(as:List α),as++[]=as:=@List.append_nil
theorem ZM.{u,v}:∀{α:Type u}{β:Type v}(fst:α) (snd:β) (fst_1:α) (snd_1:β),((fst,snd)=(fst_1,snd_1))=(fst=fst_1∧snd=snd_1):=@Prod.mk.injEq
theorem ZN:∀(b:Bool),(false||b)=b:=@Bool.false_or
theorem ZO:∀(n:Nat),(n:Int).toNat=n:=@Int.toNat_natCast
theorem ZP.{u}:∀{α:Type u}{l:List α}{L:List (List α)},(l::L).flatten=l++L.flatten:=@List.flatten_cons
theorem ZQ.{u}:∀{α:Type u}{a:α}{as:Array α},as.push a=as ++ #[a]:=@Array.push_eq_append
theorem ZR:∀{n:Nat},n > 0→∀{i j:Nat},i≤j→n ^ i≤n ^ j:=@Nat.pow_le_pow_right
theorem ZT.{u}:∀{α:Type u}{a:α}{as bs:List α},a::as++bs=a::(as++bs):=@List.cons_append
theorem ZU.{u}:∀{α:Type u}{l:List α}{n:Nat}(h:n<l.length),l[n]∈l:=@List.getElem_mem
theorem ZV:∀(n:Nat),0*n=0:=@Nat.zero_mul
theorem ZW.{u}:∀{α:Type u}{i:Nat}{l:List α},(List.drop i l).length=l.length - i:=@List.length_drop
theorem ZX:∀(a b c:Int),a*(b+c)=a*b+a*c:=@Int.mul_add
theorem ZY:∀(a:Int),a - a=0:=@Int.sub_self
theorem ZZ.{u,v}:∀{α:Type u}{β:Type v}{f:α→β}{xs:Array α},(Array.map f xs).size=xs.size:=@Array.size_map
theorem Z0:∀(a:Nat),a.beq a=true:=@Nat.beq_refl
theorem Z1.{u}:∀{α:Type u}{l:List α},List.drop 0 l=l:=@List.drop_zero
theorem Z2:∀(n m k:Nat),(n+m)*k=n*k+m*k:=@Nat.add_mul
end Go.Proofs.YthcfokccjljnpaaGreat
