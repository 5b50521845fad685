/- Contracts over the abstract machine, and the crowd of workers. Conditions: none. -/
import GoSem.Step
import Derived.StillTail
import Derived.Below
import Derived.KernelRfl
import Derived.Maps.AppendAt
import Derived.OrdersIn
import Derived.TacticsIn
import Derived.RangeFuncCalls
import Derived.IntWalk
import Derived.Laws.MakeOwn
import Derived.Laws.Strings
import Derived.Lib.ConvBytes
import Derived.Laws.StructEq
import Derived.RangeFuncRecord
import Derived.RangeFuncLeaves
import Derived.Laws.CopyRow
import Derived.Laws.OwnMore
set_option linter.unusedVariables false
set_option linter.unusedSimpArgs false
set_option linter.unusedSectionVars false
namespace Go.Proofs.YthcfokccjljnpaaGreat
open Go.RowKit
abbrev W':=Go.World
abbrev Z3:=Go.Value
abbrev Z4:=Go.Program
abbrev Z5:=Go.TypeId
abbrev Z6:=Go.Operand
abbrev Z7:=Go.Goroutine
abbrev Z8:=Go.Oper
abbrev Z9:=Go.Machine
abbrev Z':=Go.Trace
abbrev ϊ:=Go.Event
abbrev ϋ:=Go.FuncId
theorem Xo.{u,v}:∀{α:Type u}{β:Type v}{as:List α}(f:α→β),(List.map f as).length=as.length:=@List.length_map
theorem Xp.{u}:∀{α:Type u}{l:List α}{i:Nat}(h:i<l.length),l[i]?=some l[i]:=@List.getElem?_eq_getElem
theorem Xq:∀{n m:Nat},n.beq m=true→n=m:=@Nat.eq_of_beq_eq_true
theorem Xr.{u}:∀{c:Prop}{h:Decidable c},¬c→∀{α:Sort u}{t e:α},(if c then t else e)=e:=@if_neg
theorem Xs:∀(a b:Bool),((a&&b)=true)=(a=true/\b=true):=@Bool.and_eq_true
theorem Xt.{u}:∀{α:Type u}{i:Nat}{a:α}{l:List α},l[i]?=some a↔∃h,l[i]=a:=@List.getElem?_eq_some_iff
theorem Xu.{u}:∀{c:Prop}{h:Decidable c},c→∀{α:Sort u}{t e:α},(if c then t else e)=t:=@if_pos
theorem Xv.{u}:∀{α:Sort u}(a b:α),(a≠b)=¬a=b:=@ne_eq
theorem Xw:∀(n:Nat),n<=n:=@Nat.le_refl
theorem Xx.{u}:∀{α:Type u}{xs:Array α}{i j:Nat}{a:α},(xs.setIfInBounds i a)[j]?=if i=j then if i<xs.size then some a else none else xs[j]?:=@Array.getElem?_setIfInBounds
theorem Xy.{u}:∀{α:Type u}{b:α}{l:List α}{a:α},a∈b::l↔a=b\/a∈l:=@List.mem_cons
theorem Xz.{u}:∀{α:Type u}{i:Nat}{b:α}{xs:Array α},xs[i]?=some b↔∃h,xs[i]=b:=@Array.getElem?_eq_some_iff
theorem XA.{u}:∀{α:Type u}{l:List α}{i:Nat}{a:α},l[i]?=some a→a∈l:=@List.mem_of_getElem?
theorem XB.{u,v}:∀{α:Type u}{β:Type v}(a:α) (f:α→β),Option.map f (some a)=some (f a):=@Option.map_some
theorem XC:∀(n:Nat),0<=n:=@Nat.zero_le
theorem XD:∀{n m k:Nat},n<m→m<=k→n<k:=@Nat.lt_of_lt_of_le
theorem XE.{u}:∀{α:Type u}{xs:Array α}{i j:Nat},i≠j→∀{a:α},(xs.setIfInBounds i a)[j]?=xs[j]?:=@Array.getElem?_setIfInBounds_ne
theorem XF.{u,v}:∀{α:Type u}{β:Type v}{f:α→β}{l:List α}{i:Nat},(List.map f l)[i]?=Option.map f l[i]?:=@List.getElem?_map
theorem XG.{u}:∀{α:Type u}{a:α},¬a∈[]:=@List.not_mem_nil
theorem XH.{u}:∀{α:Type u}{a:α}{as:List α},(a::as).length=as.length+1:=@List.length_cons
theorem XI.{u}:∀{α:Type u}{as bs:List α},(as++bs).length=as.length+bs.length:=@List.length_append
theorem XJ.{u}:∀{α:Sort u}(a b:α),(bif false then a else b)=b:=@cond_false
theorem XK:∀(n:Nat),0+n=n:=@Nat.zero_add
theorem XL.{u}:∀{α:Type u},([]:List α).length=0:=@List.length_nil
theorem XM.{u}:∀{α:Type u}{l₁ l₂:List α}{i:Nat},l₁.length<=i→(l₁++l₂)[i]?=l₂[i - l₁.length]?:=@List.getElem?_append_right
theorem XN.{u}:∀{α:Type u}{xs:Array α}{i:Nat}{d:α},xs.getD i d=xs[i]?.getD d:=@Array.getD_eq_getD_getElem?
theorem XO:(false=true)=False:=@Bool.false_eq_true
theorem XP:∀(n m:Nat),n<m\/n≥m:=@Nat.lt_or_ge
theorem XQ:∀{n m k:Nat},n<=m→m<=k→n<=k:=@Nat.le_trans
theorem XR.{u,v}:∀{α:Type u}{β:Type v}(f:α→β),Option.map f none=none:=@Option.map_none
theorem XS.{u}:∀{α:Type u}(val val_1:α),(some val=some val_1)=(val=val_1):=@Option.some.injEq
theorem XT:∀(b:Bool),(¬b=true)=(b=false):=@Bool.not_eq_true
theorem XU:∀{p:Prop}[Decidable p],¬¬p↔p:=@Decidable.not_not
theorem XV:∀{p:Prop}[inst:Decidable p],¬p→decide p=false:=@decide_eq_false
theorem XW:∀{p:Prop}[inst:Decidable p],(decide p=true)=p:=@decide_eq_true_eq
theorem XX.{u}:∀{α:Type u}{a:α}{l:List α},a∈a::l:=@List.mem_cons_self
theorem XZ.{u}:∀{α:Type u}{l₁ l₂:List α}{i:Nat},i<l₁.length→(l₁++l₂)[i]?=l₁[i]?:=@List.getElem?_append_left
theorem X0.{u}:∀{α:Type u}{p:α→Bool}{l:List α},l.all p=true↔∀(x:α),x∈l→p x=true:=@List.all_eq_true
theorem X1.{u}:∀{α:Type u}{l:List α}{i:Nat}{a:α},l.getD i a=l[i]?.getD a:=@List.getD_eq_getElem?_getD
theorem X2:∀{a b:Int},0<=a→0<=b→0<=a*b:=@Int.mul_nonneg
theorem X3:∀(a b:Bool),((a||b)=true)=(a=true\/b=true):=@Bool.or_eq_true
theorem X4.{u}:∀{α:Type u}{xs:Array α}{i:Nat}(h:i<xs.size),xs[i]?=some xs[i]:=@Array.getElem?_eq_getElem
theorem X6.{u,v}:∀{α:Type u}{β:Type v}{b:β}{f:α→β}{l:List α},b∈List.map f l↔∃a,a∈l/\f a=b:=@List.mem_map
theorem X7:∀{n m:Nat}(k:Nat),n<=m→n*k<=m*k:=@Nat.mul_le_mul_right
theorem X9.{u}:∀{α:Type u}{xs:Array α}{i:Nat}{a:α},i<xs.size→(xs.setIfInBounds i a)[i]?=some a:=@Array.getElem?_setIfInBounds_self_of_lt
theorem Ya.{u}:∀{α:Type u}{i:Nat}{l:List α},(List.take i l).length=min i l.length:=@List.length_take
theorem Yb.{u}:∀{α:Sort u}(a b:α),(bif true then a else b)=a:=@cond_true
theorem Yc.{u}:∀{α:Type u}(y:α){a:α}{l:List α},a∈l→a∈y::l:=@List.mem_cons_of_mem
theorem Yd.{u,v}:∀{α:Type u}{β:Type v}{f:α→β}{a:α}{l:List α},List.map f (a::l)=f a::List.map f l:=@List.map_cons
theorem Ye.{u,v}:∀{α:Type u}{b:α}{α_1:Type v}{x:Option α_1}{f:α_1→α},Option.map f x=some b↔∃a,x=some a/\f a=b:=@Option.map_eq_some_iff
theorem Yf.{u}:∀{α:Type u}{i:Nat}{l:List α}(h:i<l.length),List.drop i l=l[i]::List.drop (i+1) l:=@List.drop_eq_getElem_cons
theorem Yg:∀(b:Bool),((!b)=true)=(b=false):=@Bool.not_eq_true'
theorem Yh.{u}:∀{α:Type u}{i:Nat}{l:List α}(h:i<l.length),List.take (i+1) l=List.take i l++[l[i]]:=@List.take_succ_eq_append_getElem
theorem Yi.{u}:∀{α:Type u}{p:α→Bool}{xs:Array α},xs.all p=true↔∀(x:α),x∈xs→p x=true:=@Array.all_eq_true_iff_forall_mem
theorem Yj:∀(w:Nat),0<2 ^ w:=@Nat.two_pow_pos
theorem Yk.{u}:∀{α:Type u}{xs:List α}{i j:Nat},(List.drop i xs)[j]?=xs[i+j]?:=@List.getElem?_drop
theorem Yl.{u,v}:∀{α:Type u}{β:Type v}{f:α→β}{xs:Array α}{i:Nat},(Array.map f xs)[i]?=Option.map f xs[i]?:=@Array.getElem?_map
theorem Ym.{u}:∀{α:Type u}{xs:Array α}{i:Nat}{a:α},xs[i]?=some a→a∈xs:=@Array.mem_of_getElem?
theorem Yn:∀(p:Prop),(p\/False)=p:=@or_false
theorem Yo.{u}:∀{α:Type u}{i:Nat}{l:List α},l.length<=i→List.take i l=l:=@List.take_of_length_le
theorem Yp.{u}:∀{α:Sort u}{x:Decidable True}(t e:α),(if True then t else e)=t:=@if_true
theorem Yq.{u}:∀{α:Type u}{l:List α}{i j:Nat},(List.take i l)[j]?=if j<i then l[j]? else none:=@List.getElem?_take
theorem Yr.{u}:∀{α:Type u}(as bs cs:List α),as++bs++cs=as++(bs++cs):=@List.append_assoc
theorem Ys.{u}:∀{α:Type u}{as:List α},as.toArray.size=as.length:=@List.size_toArray
theorem Yt.{u}:∀{α:Type u}(as:List α),[]++as=as:=@List.nil_append
theorem Yu.{u}:∀{α:Type u}{i:Nat}{l:List α},l.length<=i→List.drop i l=[]:=@List.drop_of_length_le
theorem Yv.{u,v}:∀{α:Type u}{b:α}{α_1:Type v}{x:Option α_1}{f:α_1→Option α},x.bind f=some b↔∃a,x=some a/\f a=some b:=@Option.bind_eq_some_iff
theorem Yw.{u,v}:∀{α:Type u}{β:Type v}{f:α→β}{l₁ l₂:List α},List.map f (l₁++l₂)=List.map f l₁++List.map f l₂:=@List.map_append
theorem Yx:∀{n:Nat},(List.range n).length=n:=@List.length_range
theorem Yy:∀(n m:Nat),n+m - n=m:=@Nat.add_sub_cancel_left
theorem Yz.{u}:∀{α:Type u}{a b:α},a∈#[b]↔a=b:=@Array.mem_singleton
theorem YA:∀(n:Nat),n*1=n:=@Nat.mul_one
theorem YB:∀{x y:Nat},(x.blt y=true)=(x<y):=@Nat.blt_eq
theorem YC.{u}:∀{α:Sort u}{x:Decidable False}(t e:α),(if False then t else e)=e:=@if_false
theorem YD.{u}:∀{α:Type u}{xs:Array α},xs.toList.length=xs.size:=@Array.length_toList
theorem YE.{u}:∀{α:Type u}{i:Nat}{xs:Array α}{x:α},(xs.push x)[i]?=if i=xs.size then some x else xs[i]?:=@Array.getElem?_push
theorem YF:∀(n:Nat),n<n.succ:=@Nat.lt_succ_self
theorem YG.{u}:∀{α:Type u}{a:α}{xs ys:Array α},a∈xs++ys↔a∈xs\/a∈ys:=@Array.mem_append
theorem YH.{u}:∀{α:Type u}{a:α}{l:List α},a∈l→∃i:Nat,l[i]?=some a:=@List.getElem?_of_mem
theorem YI:∀(n:Nat),n+0=n:=@Nat.add_zero
theorem YJ:∀{m n:Nat},m∈List.range n↔m<n:=@List.mem_range
theorem YK.{u,v}:∀{α:Type u}{β:Type v}{f:α→β}{l:List α},Array.map f l.toArray=(List.map f l).toArray:=@List.map_toArray
theorem YL.{u}:∀{α:Type u}{l:List α},List.take l.length l=l:=@List.take_length
theorem YM.{u}:∀{α:Type u}{x:Option α},x.isSome=true↔∃a,x=some a:=@Option.isSome_iff_exists
theorem YN:∀(a m n:Nat),a ^ (m+n)=a ^ m*a ^ n:=@Nat.pow_add
theorem YO:∀{a b c:Int},a<b→0<c→a*c<b*c:=@Int.mul_lt_mul_of_pos_right
theorem YP:∀{p:Prop}{x:Decidable p},decide p=false↔¬p:=@decide_eq_false_iff_not
theorem YQ.{u}:∀{α:Type u}{l:List α},l.length=0↔l=[]:=@List.length_eq_zero_iff
theorem YR:∀{x y:Bool},(x||y)=false↔x=false/\y=false:=@Bool.or_eq_false_iff
theorem YS.{u}:∀{α:Type u}{a b:α},a∈[b]↔a=b:=@List.mem_singleton
theorem YT.{u}:∀{α:Type u}{val val_1:α},some val=some val_1→val=val_1:=@Option.some.inj
theorem YU:∀(n m k:Nat),n*m*k=n*(m*k):=@Nat.mul_assoc
theorem YV.{u}:∀{α:Type u}{a:α}{s t:List α},a∈s++t↔a∈s\/a∈t:=@List.mem_append
theorem YW:∀(n m:Nat),n*m=m*n:=@Nat.mul_comm
theorem YX:∀{n m:Nat},n=m→n<=m:=@Nat.le_of_eq
theorem YY:∀{p q:Prop}{x:Decidable p}{x_1:Decidable q},decide p=decide q↔(p↔q):=@decide_eq_decide
theorem YZ:∀(n m k:Nat),n+m+k=n+(m+k):=@Nat.add_assoc
theorem Y1:(!true)=false:=@Bool.not_true
theorem Y2:∀{a b:Int},0<=a→a.tdiv b=a / b:=@Int.tdiv_eq_ediv_of_nonneg
theorem Y3:∀{p:Prop}[inst:Decidable p],decide p=true→p:=@of_decide_eq_true
theorem Y4:∀{i n:Nat},i<n→(List.range n)[i]?=some i:=@List.getElem?_range
theorem Y5.{u,v}:∀{α:Type u}{l:List α}{α_1:Type v}{f g:α→α_1},(∀(a:α),a∈l→f a=g a)→List.map f l=List.map g l:=@List.map_congr_left
theorem Y6:∀(b:Bool),((!b)=false)=(b=true):=@Bool.not_eq_false'
theorem Y7.{u}:∀{α:Type u}(l₁ l₂:List α),l₁ <+: l₁++l₂:=@List.prefix_append
theorem Y8:∀{a b c:Int},a<=b→0<=c→a*c<=b*c:=@Int.mul_le_mul_of_nonneg_right
theorem Y9:∀(a b:Nat),a <<< b=a*2 ^ b:=@Nat.shiftLeft_eq
theorem Za:∀(a b:Nat),b<=max a b:=@Nat.le_max_right
theorem Zb.{u,v}:∀{β:Type u}{α:Type v}(f:β→α→β){init:β}{xs:Array α},List.foldl f init xs.toList=Array.foldl f init xs:=@Array.foldl_toList
theorem Zc:∀(n:Nat),n=0\/n > 0:=@Nat.eq_zero_or_pos
theorem Zd:∀(p:Prop),p\/¬p:=@Classical.em
theorem Ze.{u}:∀{α:Type u}{a:α}{l:List α}{f:α→Bool},(a::l).all f=(f a&&l.all f):=@List.all_cons
theorem Zf:∀(n m:Nat),n.succ*m=n*m+m:=@Nat.succ_mul
theorem Zg:∀(n:Nat),n ^ 0=1:=@Nat.pow_zero
theorem Zh:∀(n m:Nat),n+m=m+n:=@Nat.add_comm
theorem Zi.{u}:∀{α:Type u}{xs:Array α}{i:Nat}{a:α},(xs.setIfInBounds i a).size=xs.size:=@Array.size_setIfInBounds
theorem Zj:∀{a b c:Int},a<=b→0<=c→c*a<=c*b:=@Int.mul_le_mul_of_nonneg_left
theorem Zk.{u,v}:∀{α:Type u}{xs:Array α}{α_1:Type v}{f g:α→α_1},(∀(a:α),a∈xs→f a=g a)→Array.map f xs=Array.map g xs:=@Array.map_congr_left
theorem Zl:∀{a b:Int},compare a b=Ordering.lt↔a<b:=@Int.compare_eq_lt
theorem Zm:∀{a b:Int},compare a b=Ordering.gt↔b<a:=@Int.compare_eq_gt
theorem Zn.{u}:∀{α:Type u}{l:List α},l <+: l:=@List.prefix_rfl
theorem Zo:∀(n m:Nat),((n*m:Nat):Int)=(n:Int)*(m:Int):=@Int.natCast_mul
theorem Zp:∀(x:Nat){y:Nat},0<y→x % y<y:=@Nat.mod_lt
theorem Zq.{u,v}:∀{α:Type u}{β:Type v}{f:α→β},List.map f []=[]:=@List.map_nil
theorem Zr:∀{n m k:Nat},n<m→k > 0→n*k<m*k:=@Nat.mul_lt_mul_of_pos_right
theorem Zs.{u,v}:∀{β:Sort u}{α:Type v}(x:β) (f:α→β),none.elim x f=x:=@Option.elim_none
theorem Zt:∀{a b:Nat},a<b→a % b=a:=@Nat.mod_eq_of_lt
theorem Zu:∀{a b:Nat},a<b→a / b=0:=@Nat.div_eq_of_lt
theorem Zv.{u,v}:∀{α:Type u}{β:Type v}(a:α) (f:α→Option β),(some a).bind f=f a:=@Option.bind_some
theorem Zw.{u}:∀{α:Type u}{a b:α},(some a).getD b=a:=@Option.getD_some
theorem Zx:∀(p:Prop),(True/\p)=p:=@true_and
theorem Zy.{u}:∀{α:Type u}{xs:Array α}{i:Nat}{f:α→α}{j:Nat},(xs.modify i f)[j]?=if i=j then Option.map f xs[j]? else xs[j]?:=@Array.getElem?_modify
theorem Zz.{u}:∀{α:Type u}{o:Option α},o.isNone=true↔o=none:=@Option.isNone_iff_eq_none
theorem ZA:∀{n:Nat},List.range n.succ=List.range n++[n]:=@List.range_succ
theorem ZB:∀{n m:Nat},n≠0→m≠0→n*m≠0:=@Nat.mul_ne_zero
theorem ZC:∀(n m:Nat),n ^ m.succ=n ^ m*n:=@Nat.pow_succ
theorem ZD:∀(p:Prop),(p/\True)=p:=@and_true
theorem ZE.{u}:∀{α:Sort u}{a':α}{P Q:α→Prop},(∀(a:α),a=a'\/Q a→P a)↔P a'/\∀(a:α),Q a→P a:=@forall_eq_or_imp
theorem ZG:(!false)=true:=@Bool.not_false
theorem ZH.{u,v}:∀{α:Type u}{β:Type v}{f:α→β}{xs ys:Array α},Array.map f (xs++ys)=Array.map f xs++Array.map f ys:=@Array.map_append
theorem ZI.{u}:∀{α:Type u}{l:List α},List.drop l.length l=[]:=@List.drop_length
theorem ZJ.{u}:∀{α:Type u}{a:α}{l:List α},(a::l)[0]?=some a:=@List.getElem?_cons_zero
theorem ZK.{u}:∀{α:Type u}(head:α) (tail:List α) (head_1:α) (tail_1:List α),(head::tail=head_1::tail_1)=(head=head_1/\tail=tail_1):=@List.cons.injEq
theorem ZL.{u}:∀{α:Type u}(as:List α),as++[]=as:=@List.append_nil
theorem ZM.{u,v}:∀{α:Type u}{β:Type v}(fst:α) (snd:β) (fst_1:α) (snd_1:β),((fst,snd)=(fst_1,snd_1))=(fst=fst_1/\snd=snd_1):=@Prod.mk.injEq
theorem ZN:∀(b:Bool),(false||b)=b:=@Bool.false_or
theorem ZO:∀(n:Nat),(n:Int).toNat=n:=@Int.toNat_natCast
theorem ZP.{u}:∀{α:Type u}{l:List α}{L:List (List α)},(l::L).flatten=l++L.flatten:=@List.flatten_cons
theorem ZQ.{u}:∀{α:Type u}{a:α}{as:Array α},as.push a=as ++ #[a]:=@Array.push_eq_append
theorem ZR:∀{n:Nat},n > 0→∀{i j:Nat},i<=j→n ^ i<=n ^ j:=@Nat.pow_le_pow_right
theorem ZT.{u}:∀{α:Type u}{a:α}{as bs:List α},a::as++bs=a::(as++bs):=@List.cons_append
theorem ZU.{u}:∀{α:Type u}{l:List α}{n:Nat}(h:n<l.length),l[n]∈l:=@List.getElem_mem
theorem ZV:∀(n:Nat),0*n=0:=@Nat.zero_mul
theorem ZW.{u}:∀{α:Type u}{i:Nat}{l:List α},(List.drop i l).length=l.length - i:=@List.length_drop
theorem ZX:∀(a b c:Int),a*(b+c)=a*b+a*c:=@Int.mul_add
theorem ZY:∀(a:Int),a - a=0:=@Int.sub_self
theorem ZZ.{u,v}:∀{α:Type u}{β:Type v}{f:α→β}{xs:Array α},(Array.map f xs).size=xs.size:=@Array.size_map
theorem Z0:∀(a:Nat),a.beq a=true:=@Nat.beq_refl
theorem Z1.{u}:∀{α:Type u}{l:List α},List.drop 0 l=l:=@List.drop_zero
theorem Z2:∀(n m k:Nat),(n+m)*k=n*k+m*k:=@Nat.add_mul
theorem XY.{u}:∀{α:Type u}{xs:List α}{i:Nat},xs.toArray[i]?=xs[i]?:=@List.getElem?_toArray
theorem ZS:∀{p:Prop}[inst:Decidable p],p→decide p=true:=@decide_eq_true
theorem E.{u}{α:Sort u}{a:α}:a=a:=rfl
def Ext(w w':W'):Prop:=Below w.heap.size w w'
theorem Ext.refl(w:W'):Ext w w:=Below.refl _ _
theorem Ext.trans{a b c:W'}(h:Ext a b)(k:Ext b c):Ext a c:=Below.trans h (Below.mono k h.size)
theorem Ext.drew{a w:W'}(h:Ext a w):Ext a w.drew:=Below.drew h
theorem Ext.alloc{a w:W'}(h:Ext a w)(o:Obj):Ext a (w.alloc o):=Below.alloc h h.size o
theorem Ext.size{a w:W'}(h:Ext a w):a.heap.size<=w.heap.size:=Below.size h
theorem Ia{w:W'}{p:Addr}{v:Z3}(h:w.cell? p=some v):p.block<w.heap.size:=by
 unfold World.cell? at h;rcases XP p.block w.heap.size with hl|hl
 ·exact hl
 ·rw[Array.getElem?_eq_none hl]at h;cases h
theorem Ext.heap{w w':W'}(h:Ext w w'){g:Nat}{o:Obj}(hc:w.heap[g]?=some o):w'.heap[g]?=some o:=by
 have hg:g<w.heap.size:=by
  rcases XP g w.heap.size with hl|hl
  ·exact hl
  ·rw[Array.getElem?_eq_none hl]at hc;cases hc
 exact(Below.block h g hg).trans hc
structure Eg(W:W')(g:Nat)(a b:Z3):Prop where
 c0:W.cell? ⟨g,0,none⟩=some a
 c1:W.cell? ⟨g,1,none⟩=some b
 f0:W.frozen? ⟨g,0,none⟩=false
 f1:W.frozen? ⟨g,1,none⟩=false
 lt:g<W.heap.size
section
variable{P:Z4}{ops:Array Z8}{md:Region.Mode}{R:W'->W'->Prop}
def Gx(R:W'->W'->Prop)(C:W'->Prop):Prop:=∀w w',R w w'->C w->C w'
def yieldsUpon(P:Z4)(Ψ:Z3->W'->Prop):Result Next->Prop
 | .ok (.value u) w'=>Ψ u w'
 | .ok .skip w'=>Ψ undef w'
 | .ok (.enter f args) w'=>Calls P f args w' (λe JZ=>∃u,e=.returned u/\Ψ u JZ)
 | _=>False
attribute [go_sem] yieldsUpon
def jX(P:Z4)(o:Z8)(a:Act)(w:W')(Ψ:Z3->W'->Prop):Prop:=yieldsUpon P Ψ ((execOp a.eval o).run P w)
attribute [go_sem] jX
def wpT(P:Z4)(ops:Array Z8)(R:W'->W'->Prop)(K:(W'->Prop)->Act->Prop):List (Nat × Nat)->(W'->Prop)->Act->Prop
 | [],C,a=>K C a
 | (i,0)::σ,C,a=>match ops[i]? with
  | none=>False
  | some o=>if Region.wanted o (yielded ops a.tmps) then ∃v,(∀w,C w->jX P o a w (λu w'=>u=v/\R w w'))/\wpT P ops R K σ C (a.put o.dst v)
   else wpT P ops R K σ C (a.put o.dst undef)
 | (i,1)::σ,C,a=>match ops[i]? with
  | none=>False
  | some o=>if Region.wanted o (yielded ops a.tmps) then
    ∃Φ:Z3->W'->Prop,(∀v,Gx R (Φ v))/\(∀w,C w->jX P o a w (λv w'=>R w w'/\Φ v w'))/\∀v,wpT P ops R K σ (λw=>C w/\Φ v w) (a.put o.dst v)
   else wpT P ops R K σ C (a.put o.dst undef)
 | (i,j+2)::σ,C,a=>match ops[i]?,ops[j]? with
  | some o,some o'=>Region.wanted o (yielded ops a.tmps)=true/\Region.wanted o' (yielded ops a.tmps)=true/\
    ∃(Φ Xa:Z3->W'->Prop) (Δ:Z3->Z3->Prop),(∀v,Gx R (Φ v))/\(∀v,Gx R (Xa v))/\(∀w,C w->jX P o a w (λv w'=>R w w'/\Φ v w'))/\(∀w,C w->jX P o' a w (λv w'=>R w w'/\Xa v w'))/\
     (∀v w,C w->Φ v w->jX P o' a w (λv' w'=>R w w'/\Xa v' w'/\Δ v v'))/\(∀v' w,C w->Xa v' w->jX P o a w (λv w'=>R w w'/\Φ v w'/\Δ v v'))/\
     ∀v v',wpT P ops R K σ (λw=>C w/\Φ v w/\Xa v' w/\Δ v v') ((a.put o.dst v).put o'.dst v')
  | _,_=>False
def aZ0:List (Nat × Nat)->Nat
 | []=>0
 | (_,0)::σ=>aZ0 σ+1
 | (_,1)::σ=>aZ0 σ+1
 | (_,_+2)::σ=>aZ0 σ+2
attribute [irreducible] wpT
end
end Go.Proofs.YthcfokccjljnpaaGreat
namespace Go.Proofs.YthcfokccjljnpaaGreat.Am
open Go
inductive D where
 | v (x:Z3)
 | sl (sz:Nat) (es:List (List D))
 | pt (cs:List D) (o:Nat)
 | fn (f:Fn) (cap:List D)
 | vB (f:Fn) (cap:List D)
 | agg (cs:List D)
 | da (cs:List D)
 | e0
 | nan (k:FloatKind)
deriving Inhabited
def D.sc:D->Bool
 | .agg _|.da _=>false
 | _=>true
def D.cells:D->List D
 | .agg cs=>cs
 | d=>[d]
inductive iN(w:W')(ok:Nat->Prop):D->Z3->Prop
 | v (x:Z3) (h:x.oneCell'=true):iN w ok (.v x) x
 | emp (sz:Nat) (A:Option Addr) (cap:Nat) (h:cap<=maxLen):iN w ok (.sl sz []) (.slice A 0 cap)
 | sl (sz:Nat) (es:List (List D)) (b off cap:Nat) (vs:Nat->Nat->Z3) (hb:b<w.heap.size) (bg:ok b) (hn:es.length<=cap) (ez:cap<=maxLen)
  (eQ:∀(i:Nat) (e:List D),es[i]?=some e->e.length=sz)
  (hs:∀(i:Nat) (e:List D) (j:Nat) (d:D),es[i]?=some e->e[j]?=some d->d.sc=true)
  (hc:∀(i:Nat) (e:List D) (j:Nat) (d:D),es[i]?=some e->e[j]?=some d->w.cell? ⟨b,off+i*sz+j,none⟩=some (vs i j))
  (Y:∀(i:Nat) (e:List D) (j:Nat) (d:D),es[i]?=some e->e[j]?=some d->iN w ok d (vs i j)):iN w ok (.sl sz es) (.slice (some ⟨b,off,none⟩) es.length cap)
 | pt (cs:List D) (o b off:Nat) (vs:Nat->Z3) (hb:b<w.heap.size) (bg:ok b)
  (hs:∀(j:Nat) (d:D),cs[j]?=some d->d.sc=true)
  (hc:∀(j:Nat) (d:D),cs[j]?=some d->w.cell? ⟨b,off+j,none⟩=some (vs j))
  (Y:∀(j:Nat) (d:D),cs[j]?=some d->iN w ok d (vs j)):iN w ok (.pt cs o) (.pointer (some ⟨b,off+o,none⟩))
 | fn (f:Fn) (cap:List D) (vs:List Z3) (hl:vs.length=cap.length)
  (Y:∀(j:Nat) (d:D) (v:Z3),cap[j]?=some d->vs[j]?=some v->iN w ok d v):iN w ok (.fn f cap) (.func f #[] vs.toArray)
 | vB (f:Fn) (cap:List D) (vs:List Z3) (hl:vs.length=cap.length)
  (Y:∀(j:Nat) (d:D) (v:Z3),cap[j]?=some d->vs[j]?=some v->iN w ok d v):iN w ok (.vB f cap) (.func f vs.toArray #[])
 | agg (cs:List D) (vs:List Z3) (hl:vs.length=cs.length) (hs:∀(j:Nat) (d:D),cs[j]?=some d->d.sc=true)
  (Y:∀(j:Nat) (d:D) (v:Z3),cs[j]?=some d->vs[j]?=some v->iN w ok d v):iN w ok (.agg cs) (.agg vs.toArray)
 | da (cs:List D) (vs:List Z3) (hl:vs.length=cs.length)
  (Y:∀(j:Nat) (d:D) (v:Z3),cs[j]?=some d->vs[j]?=some v->iN w ok d v):iN w ok (.da cs) (.tuple vs.toArray)
 | e0 (A:Option Addr):iN w ok .e0 (.slice A 0 0)
 | nan (k:FloatKind) (b:Nat) (h:(k.decode b).isNaN=true):iN w ok (.nan k) (.float k b)
theorem iN.one{w:W'}{ok:Nat->Prop}{d:D}{v:Z3}(h:iN w ok d v)(hs:d.sc=true):v.oneCell'=true:=by
 cases h<;>first|assumption|rfl|cases hs
theorem me{w:W'}{a:Addr}{v:Z3}(h:w.cell? a=some v):∃o,w.heap[a.block]?=some o:=by
 unfold World.cell? at h
 cases hh:w.heap[a.block]? with
 | none=>rw[hh]at h;cases h
 | some o=>exact⟨o,rfl⟩
theorem y4{w w':W'}{a:Addr}{v:Z3}(hA:∀o,w.heap[a.block]?=some o->w'.heap[a.block]?=some o)(h:w.cell? a=some v):w'.cell? a=some v:=by
 have⟨o,ho⟩:=me h;have h':=hA o ho;unfold World.cell? at h ⊢;rw[ho]at h;rw[h'];exact h
structure CK(w w':W'):Prop where
 size:w.heap.size<=w'.heap.size
 cells:∀(b:Nat) (aK:Array Z3) (e:Z5) (z:Nat × Nat),w.heap[b]?=some (Obj.cells aK e z)->w'.heap[b]?=some (Obj.cells aK e z)
 maps:∀(b:Nat) (es:Array MapEntry) (c:Nat),w.heap[b]?=some (Obj.map es c)->w'.heap[b]?=some (Obj.map es c)
theorem CK.cell{w w':W'}{a:Addr}{v:Z3}(hA:CK w w')(h:w.cell? a=some v):w'.cell? a=some v:=by
 have⟨o,ho⟩:=me h
 cases o with
 | cells aK e z=>
  have h':=hA.cells _ _ _ _ ho;unfold World.cell? at h ⊢;rw[ho]at h;rw[h'];exact h
 | _=>unfold World.cell? at h;rw[ho]at h;cases h
theorem iN.ky{w w':W'}{ok:Nat->Prop}{d:D}{v:Z3}(h:iN w ok d v)(hA:CK w w'):iN w' ok d v:=by
 induction h with
 | v x h=>exact .v x h
 | emp sz A cap h=>exact .emp sz A cap h
 | sl sz es b off cap vs hb hk hn ez eQ jO hc Y ih=>
  exact .sl sz es b off cap vs (XD hb hA.size) hk hn ez eQ jO (λi e j d h1 h2=>hA.cell (hc i e j d h1 h2)) (λi e j d h1 h2=>ih i e j d h1 h2)
 | pt cs o b off vs hb hk jO hc Y ih=>
  exact .pt cs o b off vs (XD hb hA.size) hk jO (λj d h1=>hA.cell (hc j d h1)) (λj d h1=>ih j d h1)
 | fn f cap vs hl Y ih=>exact .fn f cap vs hl λj d v h1 h2=>ih j d v h1 h2
 | vB f cap vs hl Y ih=>exact .vB f cap vs hl λj d v h1 h2=>ih j d v h1 h2
 | agg cs vs hl jO Y ih=>exact .agg cs vs hl jO λj d v h1 h2=>ih j d v h1 h2
 | da cs vs hl Y ih=>exact .da cs vs hl λj d v h1 h2=>ih j d v h1 h2
 | e0 A=>exact .e0 A
 | nan k b h=>exact .nan k b h
theorem iN.cr{w w':W'}{ok ok':Nat->Prop}{d:D}{v:Z3}(h:iN w ok d v)(hs:w.heap.size<=w'.heap.size)
  (hA:∀b o,ok b->w.heap[b]?=some o->w'.heap[b]?=some o) (bg:∀b,b<w.heap.size->ok b->ok' b):iN w' ok' d v:=by
 induction h with
 | v x h=>exact .v x h
 | emp sz A cap h=>exact .emp sz A cap h
 | sl sz es b off cap vs hb hk hn ez eQ jO hc Y ih=>
  exact .sl sz es b off cap vs (XD hb hs) (bg b hb hk) hn ez eQ jO (λi e j d h1 h2=>y4 (hA b · hk) (hc i e j d h1 h2)) (λi e j d h1 h2=>ih i e j d h1 h2)
 | pt cs o b off vs hb hk jO hc Y ih=>
  exact .pt cs o b off vs (XD hb hs) (bg b hb hk) jO (λj d h1=>y4 (hA b · hk) (hc j d h1)) (λj d h1=>ih j d h1)
 | fn f cap vs hl Y ih=>exact .fn f cap vs hl λj d v h1 h2=>ih j d v h1 h2
 | vB f cap vs hl Y ih=>exact .vB f cap vs hl λj d v h1 h2=>ih j d v h1 h2
 | agg cs vs hl jO Y ih=>exact .agg cs vs hl jO λj d v h1 h2=>ih j d v h1 h2
 | da cs vs hl Y ih=>exact .da cs vs hl λj d v h1 h2=>ih j d v h1 h2
 | e0 A=>exact .e0 A
 | nan k b h=>exact .nan k b h
theorem iN.ext{w w':W'}{ok ok':Nat->Prop}{d:D}{v:Z3}(h:iN w ok d v)(hE:Ext w w')(bg:∀b,b<w.heap.size->ok b->ok' b):iN w' ok' d v:=
 h.cr hE.size (λ_ _ _ ho=>hE.heap ho) bg
theorem bI{w:W'}{b:Nat}{o:Obj}(h:w.heap[b]?=some o):b<w.heap.size:=by
 rcases XP b w.heap.size with hl|hl
 ·exact hl
 ·rw[Array.getElem?_eq_none hl]at h;cases h
theorem iN.ok{w:W'}{ok ok':Nat->Prop}{d:D}{v:Z3}(h:iN w ok d v)(bg:∀b,b<w.heap.size->ok b->ok' b):iN w ok' d v:=
 h.cr (Xw _) (λ_ _ _ ho=>ho) bg
inductive D.Flat:D->Prop
 | v (x:Z3):Flat (.v x)
 | agg (cs:List D) (h:∀d∈cs,Flat d):Flat (.agg cs)
 | da (cs:List D) (h:∀d∈cs,Flat d):Flat (.da cs)
theorem iN.flat{w w':W'}{ok ok':Nat->Prop}{d:D}{v:Z3}(h:iN w ok d v)(hf:d.Flat):iN w' ok' d v:=by
 induction h with
 | v x h=>exact .v x h
 | emp sz A cap h=>exact .emp sz A cap h
 | sl=>cases hf
 | pt=>cases hf
 | fn=>cases hf
 | vB=>cases hf
 | agg cs vs hl jO Y ih=>
  cases hf with
  | agg _ h=>exact .agg cs vs hl jO λj d v h1 h2=>ih j d v h1 h2 (h d (XA h1))
 | da cs vs hl Y ih=>
  cases hf with
  | da _ h=>exact .da cs vs hl λj d v h1 h2=>ih j d v h1 h2 (h d (XA h1))
 | e0 A=>exact .e0 A
 | nan k b h=>exact .nan k b h
structure Kd where
 row:Bool
 one:Bool
inductive T where
 | d (x:D)
 | ref (s o:Nat)
 | rs (s:Nat)
 | un
 | own (s:Nat) (k:Kd) (ds:List D) (F:Option Nat->Z3->List Z3->Z3->Prop)
 | dead
deriving Inhabited
inductive aH where
 | no
 | box (cs:List D)
 | cn (cs:List T)
 | row (e sz:Nat) (es:List (List D))
 | mp (es:Array MapEntry) (clock:Nat)
deriving Inhabited
def aH.isVar:aH->Bool
 | .box _=>true
 | .cn _=>true
 | .mp _ _=>true
 | _=>false
structure St where
 n:Nat
 t:Nat->T
 s:Nat->aH
def St.put(st:St)(dst:Option Tmp)(x:T):St:=
 match dst with
 | none=>st
 | some d=>{ st with t:=λk=>bif Nat.beq k d then x else st.t k }
def St.site(st:St)(s:Nat)(x:aH):St:={ st with s:=λk=>bif Nat.beq k s then x else st.s k }
def constT:Z3->T
 | .slice none 0 0=>.d (.sl 1 [])
 | .agg cs=>if cs.toList.all Value.oneCell' then .d (.agg (cs.toList.map .v)) else .dead
 | .tuple _=>.dead
 | v=>.d (.v v)
def St.ev(st:St):Z6->T
 | .tmp t=>st.t t
 | .const v=>constT v
 | .global _=>.dead
 | .func f=>.d (.fn (.func f) [])
def oq(w:W')(ok:Nat->Prop):List D->List Z3->Prop
 | [],[]=>True
 | d::ds,v::vs=>iN w ok d v/\oq w ok ds vs
 | _,_=>False
theorem oq.imp{w w':W'}{ok ok':Nat->Prop}(h:∀d v,iN w ok d v->iN w' ok' d v):∀{ds:List D} {vs:List Z3},oq w ok ds vs->oq w' ok' ds vs
 | [],[],_=>trivial
 | _::_,_::_,k=>⟨h _ _ k.1,oq.imp h k.2⟩
 | [],_::_,k=>k.elim
 | _::_,[],k=>k.elim
def RU(w:W')(ok:Nat->Prop)(b:Option Nat)(u:Z3)(ds:List D)(F:Option Nat->Z3->List Z3->Z3->Prop)(v:Z3):Prop:=∃vs,oq w ok ds vs/\F b u vs v
theorem RU.imp{w w':W'}{ok ok':Nat->Prop}{b:Option Nat}{u:Z3}{ds:List D}{F:Option Nat->Z3->List Z3->Z3->Prop}{v:Z3}(h:RU w ok b u ds F v)(Y:∀d v,iN w ok d v->iN w' ok' d v):RU w' ok' b u ds F v:=by
 have⟨vs,h1,h2⟩:=h;exact⟨vs,h1.imp Y,h2⟩
def agF(n:Nat):Option Nat->Z3->List Z3->Z3->Prop:=λ_ u vs v=>v=.agg (vs.take n++u::vs.drop n).toArray
abbrev T.ag(k:Nat)(f g:List D):T:=.own k ⟨true,false⟩ (f++g) (agF f.length)
def iV(w:W')(ok:Nat->Prop)(blk:Nat->Option Nat)(val:Nat->Z3)(s:Nat->aH):T->Z3->Prop
 | .d x,v=>iN w ok x v
 | .ref k o,v=>s k≠.no/\∃b,blk k=some b/\v=.pointer (some ⟨b,o,none⟩)
 | .rs k,v=>(∃e sz es,s k=.row e sz es)/\v=val k
 | .un,v=>v=undef
 | .own k r ds F,v=>((s k≠.no/\(r.row=true->∃e sz es,s k=.row e sz es))/\(r.one=true->v.oneCell'=true))/\RU w ok (blk k) (bif r.row then val k else undef) ds F v
 | .dead,_=>True
def ml(w:W')(ok:Nat->Prop)(aI:Nat->Option Nat)(val':Nat->Z3)(s:Nat->aH)(blk:Option Nat)(val:Z3):aH->Prop
 | .no=>blk=none
 | .box cs=>∃b e aK,blk=some b/\w.heap[b]?=some (.cells aK e (0,0))/\aK.size=cs.length/\(∀(j:Nat) (d:D),cs[j]?=some d->d.sc=true)/\∀(j:Nat) (d:D),cs[j]?=some d->∃v,aK[j]?=some v/\iN w ok d v
 | .cn cs=>∃b e aK,blk=some b/\w.heap[b]?=some (.cells aK e (0,0))/\aK.size=cs.length/\∀(j:Nat) (x:T),cs[j]?=some x->∃v,aK[j]?=some v/\v.oneCell'=true/\iV w ok aI val' s x v
 | .mp es c=>∃b,blk=some b/\w.heap[b]?=some (.map es c)
 | .row e sz es=>(∀(i:Nat) (x:List D),es[i]?=some x->x.length=sz)/\(∀(i:Nat) (x:List D) (j:Nat) (d:D),es[i]?=some x->x[j]?=some d->d.sc=true)/\
  ((blk=none/\es=[]/\val=.slice none 0 0)\/
   ∃b aK cap,blk=some b/\val=.slice (some ⟨b,0,none⟩) es.length cap/\es.length<=cap/\cap<=maxLen/\w.heap[b]?=some (.cells aK e (0,0))/\aK.size=cap*sz/\
    ∀(i:Nat) (x:List D) (j:Nat) (d:D),es[i]?=some x->x[j]?=some d->∃v,aK[i*sz+j]?=some v/\iN w ok d v)
structure Cx where
 w:W'
 ok:Nat->Prop
 mine:Nat->Prop
 kU:Nat->Option Nat
 fix:Nat->Option Obj:=λ_=>none
 uk:Option Nat:=none
def Jb(c:Cx)(b:Nat):Prop:=c.w.heap.size<=b\/c.mine b
structure Oy(c:Cx)(w:W'):Prop where
 os:w.os=c.w.os
 tape:w.tape=c.w.tape
 output:w.output=c.w.output
 size:c.w.heap.size<=w.heap.size
 block:∀k,k<c.w.heap.size->¬c.mine k->w.heap[k]?=c.w.heap[k]?
theorem Oy.trans{c:Cx}{w w':W'}(h:Oy c w)(hE:Ext w w'):Oy c w':=
 ⟨hE.os.trans h.os,hE.tape.trans h.tape,hE.output.trans h.output,XQ h.size hE.size,λk hk hm=>(hE.block k (XD hk h.size)).trans (h.block k hk hm)⟩
def fN(c:Cx)(blk:Nat->Option Nat)(b:Nat):Prop:=(c.ok b\/c.w.heap.size<=b)/\∀s,blk s≠some b
def ncO:Obj->Bool
 | .cells _ _ _=>false
 | .map _ _=>false
 | _=>true
structure Kept(c:Cx)(a:Act)(w:W'):Prop where
 marks:∃ms:List Nat,a.defers=ms.map (λb=>{ target:=.collected b,args:=#[] })/\ms.Nodup/\∀b∈ms,Jb c b/\w.heap[b]?=some (.deferred (some []))
 fix:∀b o,c.fix b=some o->w.heap[b]?=some o/\ncO o=true
theorem Kept.nil{c:Cx}{a:Act}{w:W'}(h:a.defers=[])(hf:c.fix=λ_=>none):Kept c a w:=⟨⟨[],h,.nil,λb hb=>by cases hb⟩,λb o h=>by rw[hf]at h;cases h⟩
theorem Kept.act{c:Cx}{a a':Act}{w:W'}(h:Kept c a w)(e:a'.defers=a.defers):Kept c a' w:=by
 have⟨⟨ms,h1,h2⟩,h4⟩:=h;exact⟨⟨ms,e.trans h1,h2⟩,h4⟩
theorem Kept.of{c:Cx}{a:Act}{w w':W'}(h:Kept c a w)(WO:∀(b:Nat) (o:Obj),w.heap[b]?=some o->ncO o=true->w'.heap[b]?=some o):Kept c a w':=by
 have⟨⟨ms,h1,h2,h3⟩,h4⟩:=h;exact⟨⟨ms,h1,h2,λb hb=>⟨(h3 b hb).1,WO b _ (h3 b hb).2 E⟩⟩,λb o hb=>⟨WO b o (h4 b o hb).1 (h4 b o hb).2,(h4 b o hb).2⟩⟩
structure qx(w0:Cx)(st:St)(a:Act)(w:W')(blk:Nat->Option Nat)(val:Nat->Z3):Prop where
 ext:Oy w0 w
 defers:Kept w0 a w
 size:a.tmps.size=st.n
 new:∀s b,blk s=some b->Jb w0 b/\b<w.heap.size
 inj:∀s s' b,blk s=some b->blk s'=some b->s=s'
 kU:∀k b,w0.kU k=some b->blk k=some b/\(st.s k).isVar=true/\st.n<=k
 site:∀s,ml w (fN w0 blk) blk val st.s (blk s) (val s) (st.s s)
 tmp:∀t,iV w (fN w0 blk) blk val st.s (st.t t) (a.tmps.getD t undef)
def Holds(w0:Cx)(st:St)(a:Act)(w:W'):Prop:=∃blk val,qx w0 st a w blk val
theorem iV.const{w:W'}{ok:Nat->Prop}{blk:Nat->Option Nat}{val:Nat->Z3}{s:Nat->aH}(v:Z3):iV w ok blk val s (constT v) v:=by
 cases v with
 | slice A n c=>
  cases A with
  | none=>
   cases n with
   | zero=>
    cases c with
    | zero=>exact iN.emp _ _ _ (XC _)
    | succ c=>exact iN.v _ E
   | succ n=>exact iN.v _ E
  | some a=>exact iN.v _ E
 | agg cs=>
  simp only[constT]
  split
  ·rename_i kQ
   have:=iN.agg (w:=w) (ok:=ok) (cs.toList.map D.v) cs.toList (by simp) (λj d J=>by
    rw[XF]at J;cases hj:cs.toList[j]? with
    | none=>rw[hj]at J;cases J
    | some u=>rw[hj]at J;cases J;rfl) (λj d v J hv=>by
    rw[XF,hv]at J;cases J
    exact .v v (X0.1 kQ v (XA hv)))
   show iN w ok _ _
   simpa using this
  ·trivial
 | tuple cs=>trivial
 | _=>exact iN.v _ E
theorem iV.ext{w w':W'}{ok:Nat->Prop}{blk:Nat->Option Nat}{val:Nat->Z3}{s:Nat->aH}{x:T}{v:Z3}(h:iV w ok blk val s x v)(hE:Ext w w'):iV w' ok blk val s x v:=by
 cases x with
 | d x=>exact iN.ext h hE λ_ _ h=>h
 | own k r ds F=>exact⟨h.1,h.2.imp λ_ _ h=>iN.ext h hE λ_ _ h=>h⟩
 | _=>exact h
theorem ml.ext{w w':W'}{ok:Nat->Prop}{aI:Nat->Option Nat}{val':Nat->Z3}{s:Nat->aH}{b:Option Nat}{val:Z3}{x:aH}(h:ml w ok aI val' s b val x)(hE:Ext w w'):ml w' ok aI val' s b val x:=by
 cases x with
 | no=>exact h
 | box cs=>
  have⟨b,e,aK,h1,h2,h3,h4,h5⟩:=h;exact⟨b,e,aK,h1,hE.heap h2,h3,h4,λj d J=>let ⟨v,hv,Y⟩:=h5 j d J;⟨v,hv,Y.ext hE λ_ _ h=>h⟩⟩
 | cn cs=>
  have⟨b,e,aK,h1,h2,h3,h5⟩:=h;exact⟨b,e,aK,h1,hE.heap h2,h3,λj x hx=>let ⟨v,hv,ho,Y⟩:=h5 j x hx;⟨v,hv,ho,Y.ext hE⟩⟩
 | mp es c=>
  have⟨b,h1,h2⟩:=h;exact⟨b,h1,hE.heap h2⟩
 | row e sz es=>
  have⟨h1,h2,h3⟩:=h;refine⟨h1,h2,h3.imp id λ⟨b,aK,cap,k1,k2,k3,k4,k5,k6,k7⟩=>⟨b,aK,cap,k1,k2,k3,k4,hE.heap k5,k6,λi x j d hi hj=>let ⟨v,hv,Y⟩:=k7 i x j d hi hj;⟨v,hv,Y.ext hE λ_ _ h=>h⟩⟩⟩
theorem iV.ky{w w':W'}{ok:Nat->Prop}{blk:Nat->Option Nat}{val:Nat->Z3}{s:Nat->aH}{x:T}{v:Z3}(h:iV w ok blk val s x v)(hE:CK w w'):iV w' ok blk val s x v:=by
 cases x with
 | d x=>exact iN.ky h hE
 | own k r ds F=>exact⟨h.1,h.2.imp λ_ _ h=>iN.ky h hE⟩
 | _=>exact h
theorem ml.ky{w w':W'}{ok:Nat->Prop}{aI:Nat->Option Nat}{val':Nat->Z3}{s:Nat->aH}{b:Option Nat}{val:Z3}{x:aH}(h:ml w ok aI val' s b val x)(hE:CK w w'):ml w' ok aI val' s b val x:=by
 cases x with
 | no=>exact h
 | box cs=>
  have⟨b,e,aK,h1,h2,h3,h4,h5⟩:=h;exact⟨b,e,aK,h1,hE.cells _ _ _ _ h2,h3,h4,λj d J=>let ⟨v,hv,Y⟩:=h5 j d J;⟨v,hv,Y.ky hE⟩⟩
 | cn cs=>
  have⟨b,e,aK,h1,h2,h3,h5⟩:=h;exact⟨b,e,aK,h1,hE.cells _ _ _ _ h2,h3,λj x hx=>let ⟨v,hv,ho,Y⟩:=h5 j x hx;⟨v,hv,ho,Y.ky hE⟩⟩
 | mp es c=>
  have⟨b,h1,h2⟩:=h;exact⟨b,h1,hE.maps _ _ _ h2⟩
 | row e sz es=>
  have⟨h1,h2,h3⟩:=h;refine⟨h1,h2,h3.imp id λ⟨b,aK,cap,k1,k2,k3,k4,k5,k6,k7⟩=>⟨b,aK,cap,k1,k2,k3,k4,hE.cells _ _ _ _ k5,k6,λi x j d hi hj=>let ⟨v,hv,Y⟩:=k7 i x j d hi hj;⟨v,hv,Y.ky hE⟩⟩⟩
theorem qx.ev{w0:Cx}{st:St}{a:Act}{w:W'}{blk:Nat->Option Nat}{val:Nat->Z3}(h:qx w0 st a w blk val)(y:Z6):iV w (fN w0 blk) blk val st.s (st.ev y) (a.eval y):=by
 cases y with
 | tmp t=>exact h.tmp t
 | const v=>exact iV.const v
 | global g=>trivial
 | func f=>exact iN.fn (.func f) [] [] E (λj d v h=>by simp at h)
theorem ml.cells{w:W'}{ok:Nat->Prop}{aI:Nat->Option Nat}{val':Nat->Z3}{s:Nat->aH}{b:Nat}{val:Z3}{x:aH}(h:ml w ok aI val' s (some b) val x):∃o,w.heap[b]?=some o/\ncO o=false:=by
 cases x with
 | no=>cases h
 | box cs=>have⟨b',e,aK,h1,h2,_⟩:=h;cases h1;exact⟨_,h2,rfl⟩
 | cn cs=>have⟨b',e,aK,h1,h2,_⟩:=h;cases h1;exact⟨_,h2,rfl⟩
 | mp es c=>have⟨b',h1,h2⟩:=h;cases h1;exact⟨_,h2,rfl⟩
 | row e sz es=>
  obtain⟨_,_,h⟩:=h;rcases h with ⟨h1,_⟩|⟨b',aK,cap,h1,_,_,_,h2,_⟩
  ·cases h1
  ·cases h1;exact⟨_,h2,rfl⟩
theorem qx.kept{w0:Cx}{st:St}{a:Act}{w w':W'}{blk:Nat->Option Nat}{val:Nat->Z3}(h:qx w0 st a w blk val)(hk:∀b,b<w.heap.size->(∀k,blk k≠some b)->w'.heap[b]?=w.heap[b]?):Kept w0 a w':=
 h.defers.of λb o hb ho=>by
  rw[hk b (bI hb) λk hkb=>?_]
  ·exact hb
  ·have:=h.site k
   rw[hkb]at this;have⟨o',h1,h2⟩:=this.cells;rw[hb]at h1;cases h1;rw[ho]at h2;cases h2
theorem qx.ext'{w0:Cx}{st:St}{a:Act}{w w':W'}{blk:Nat->Option Nat}{val:Nat->Z3}(h:qx w0 st a w blk val)(hE:Ext w w'):qx w0 st a w' blk val:=
 ⟨h.ext.trans hE,h.defers.of λb o hb _=>hE.heap hb,h.size,λs b hb=>⟨(h.new s b hb).1,XD (h.new s b hb).2 hE.size⟩,h.inj,h.kU,λs=>(h.site s).ext hE,λt=>(h.tmp t).ext hE⟩
theorem vi(a:Act)(d:Nat)(v:Z3)(k:Nat)(J:d<a.tmps.size):(a.put (some d) v).tmps.getD k undef=if k=d then v else a.tmps.getD k undef:=by
 simp only[Act.put];by_cases h:k=d
 ·subst h;simp[J]
 ·simp[h,Ne.symm h]
theorem qx.put{w0:Cx}{st:St}{a:Act}{w:W'}{blk:Nat->Option Nat}{val:Nat->Z3}(h:qx w0 st a w blk val)(dst:Option Tmp)(x:T)(v:Z3)
  (J:∀d,dst=some d->d<st.n) (hx:iV w (fN w0 blk) blk val st.s x v):qx w0 (st.put dst x) (a.put dst v) w blk val:=by
 cases dst with
 | none=>exact h
 | some d=>
  refine⟨h.ext,h.defers.act E,by simpa [Act.put,St.put] using h.size,h.new,h.inj,h.kU,h.site,λt=>?_⟩;rw[vi _ _ _ _ (by rw[h.size];exact J d E)];show iV w (fN w0 blk) blk val st.s (bif Nat.beq t d then x else st.t t) _
  by_cases ht:t=d
  ·subst ht;simpa using hx
  ·have:Nat.beq t d=false:=by rw[<-XT];exact λe=>ht (Xq e)
   rw[this,Xr ht];exact h.tmp t
section
variable{P:Z4}{w0:Cx}
def Post(w0:Cx)(R:Exit->St->Prop):Exit->Act->W'->Prop:=λe a w=>∃st,R e st/\Holds w0 st a w
def Is(F:Fence):Prop:=F=Fence.wide\/∃l,F=Fence.wide.inRound l
theorem Is.fn{F:Fence}(h:Is F)(f:ϋ):F.fn f:=by rcases h with rfl|⟨l,rfl⟩<;>trivial
theorem Is.depth{F:Fence}(h:Is F):F.depth=none:=by rcases h with rfl|⟨l,rfl⟩<;>rfl
theorem Is.room{F:Fence}(h:Is F)(n:Nat):F.room n:=λd J=>by rw[h.depth]at J;cases J
theorem Is.calls{F:Fence}(h:Is F){m:Nat}{P:Z4}{f:ϋ}{args:Array Z3}{w:W'}{R:Ending->W'->Prop}(hc:Calls P f args w R):CallsIn F m P f args w R:=by
 rcases h with rfl|⟨l,rfl⟩
 ·exact callsIn_wide.2 hc
 ·exact CallsIn.inRound l (callsIn_wide.2 hc)
theorem Is.rows{F:Fence}(h:Is F){m:Nat}{P:Z4}{row:String}{args:Array Z3}{w:W'}{R:Z3->W'->Prop}(hc:Rows P row args w R):RowsIn F m P row args w R:=by
 have:RowsIn Fence.wide m P row args w R:=λc cs _=>let ⟨v,w',r,s⟩:=hc c cs;⟨v,w',r,stepsIn_wide.2 s⟩;rcases h with rfl|⟨l,rfl⟩
 ·exact this
 ·exact this
def FAt(c:Cx)(F:Fence):Prop:=Is F/\F.round=c.uk
theorem FAt.fn{c:Cx}{F:Fence}(h:FAt c F)(f:ϋ):F.fn f:=h.1.fn f
def OW(P:Z4)(c:Cx)(o:Z8)(a:Act)(w:W')(K:Act->W'->Prop):Prop:=∀(F:Fence) (m:Nat),FAt c F->o.wpIn F m P a w K (λ_ _ _=>False)
theorem OW.mono{P:Z4}{c:Cx}{o:Z8}{a:Act}{w:W'}{K K':Act->W'->Prop}(h:OW P c o a w K)(hK:∀a w,K a w->K' a w):OW P c o a w K':=λF m hF=>Oper.wpIn_mono hK (h F m hF)
theorem OW.to{P:Z4}{c:Cx}{o:Z8}{a:Act}{w:W'}{K K':Act->W'->Prop}{F:Fence}{m:Nat}{Q:Exit->Act->W'->Prop}(h:OW P c o a w K)(hF:FAt c F)(hK:∀a w,K a w->K' a w):o.wpIn F m P a w K' Q:=by
 have⟨h1,h2⟩:=h F m hF;refine⟨h1,?_⟩;generalize (o.semAt F.round a.eval).run P w=r at *;unfold Oper.uponIn at *
 split<;>simp_all
 ·exact h2.2.mono λe w' h => by
   cases e with
   | returned v=>exact hK _ _ h
   | panicked c=>exact h.elim
   | outgrown=>obtain⟨_,_,h⟩:=h;exact h.elim
 ·exact h2.2.mono λv w' h=>hK _ _ h
 ·exact h2.2.mono λe w' h => by
   cases e with
   | returned v=>exact hK _ _ h
   | panicked c=>exact h.elim
   | outgrown=>obtain⟨_,_,h⟩:=h;exact h.elim
theorem gO{P:Z4}{c:Cx}{o:Z8}{a:Act}{w:W'}{K:Act->W'->Prop}(o9:∀c,o.op≠.defer c)(h:o.wp P a w K (λ_ _ _=>False)):OW P c o a w K:=by
 intro F m hF;refine⟨λf _=>hF.fn f,?_⟩;rw[Oper.semAt_eq _ _ _ o9];unfold Oper.wp at h;generalize (execOp a.eval o).run P w=r at *;unfold Oper.upon at h;unfold Oper.uponIn
 split at h
 ·exact h
 ·exact h
 ·exact h
 ·exact⟨λJ=>(by rw[hF.1.depth]at J;cases J),hF.1.calls h⟩
 ·exact⟨λJ=>(by rw[hF.1.depth]at J;cases J),hF.1.rows h⟩
 ·exact h
 ·exact h.elim
def dG(P:Z4)(w0:Cx)(c:Code)(R:Exit->St->Prop)(st:St):Prop:=∀(F:Fence) (m:Nat),FAt w0 F->∀a w,Holds w0 st a w->c.wpIn F m P (Post w0 R) a w
theorem iV.to{w:W'}{ok ok':Nat->Prop}{blk aI:Nat->Option Nat}{val val':Nat->Z3}{s s':Nat->aH}{x:T}{v:Z3}(h:iV w ok blk val s x v)(bg:∀b,b<w.heap.size->ok b->ok' b)
  (hk:∀k,(x=.rs k\/(∃o,x=.ref k o)\/∃r f g,x=.own k r f g)->aI k=blk k/\val' k=val k/\(s k≠.no->s' k≠.no)/\((∃e sz es,s k=.row e sz es)->∃e sz es,s' k=.row e sz es)):iV w ok' aI val' s' x v:=by
 cases x with
 | d x=>exact iN.ok (h:iN w ok x v) bg
 | ref k o=>
  have⟨q1,b,q2,q3⟩:=h;have⟨e1,_,e3,_⟩:=hk k (.inr (.inl ⟨o,rfl⟩));exact⟨e3 q1,b,by rw[e1];exact q2,q3⟩
 | rs k=>
  have⟨q1,q2⟩:=h;have⟨_,e2,_,e4⟩:=hk k (.inl E);exact⟨e4 q1,by rw[e2];exact q2⟩
 | own k r f g=>
  have⟨⟨⟨q0,q1⟩,qo⟩,q2⟩:=h;have⟨e1,e2,e3,e4⟩:=hk k (.inr (.inr ⟨r,f,g,rfl⟩));exact⟨⟨⟨e3 q0,λY=>e4 (q1 Y)⟩,qo⟩,by rw[e1,e2];exact q2.imp λ_ _ h=>iN.ok h bg⟩
 | un=>exact h
 | dead=>trivial
theorem ml.to{w:W'}{ok ok':Nat->Prop}{blk aI:Nat->Option Nat}{val val':Nat->Z3}{s s':Nat->aH}{b:Option Nat}{u:Z3}{x x':aH}(h:ml w ok blk val s b u x)(bg:∀b,b<w.heap.size->ok b->ok' b)
  (hx:x'=x\/∃cs cs',x=.cn cs/\x'=.cn cs'/\cs'.length=cs.length/\∀(j:Nat) (y:T),cs'[j]?=some y->y=.dead\/cs[j]?=some y)
  (hk:∀cs,x'=.cn cs->∀y∈cs,∀k,(y=.rs k\/(∃o,y=.ref k o)\/∃r f g,y=.own k r f g)->aI k=blk k/\val' k=val k/\(s k≠.no->s' k≠.no)/\((∃e sz es,s k=.row e sz es)->∃e sz es,s' k=.row e sz es)):ml w ok' aI val' s' b u x':=by
 rcases hx with rfl|⟨cs,cs',rfl,rfl,hl,hc⟩
 ·cases x' with
  | no=>exact h
  | box cs=>
   have⟨b,e,aK,h1,h2,h3,h4,h5⟩:=h;exact⟨b,e,aK,h1,h2,h3,h4,λj d J=>let ⟨v,hv,Y⟩:=h5 j d J;⟨v,hv,Y.ok bg⟩⟩
  | cn cs=>
   have⟨b,e,aK,h1,h2,h3,h5⟩:=h;exact⟨b,e,aK,h1,h2,h3,λj y hy=>let ⟨v,hv,ho,Y⟩:=h5 j y hy;⟨v,hv,ho,Y.to bg (hk cs E y (XA hy))⟩⟩
  | mp es c=>exact h
  | row e sz es=>
   have⟨h1,h2,h3⟩:=h;exact⟨h1,h2,h3.imp id λ⟨b,aK,cap,k1,k2,k3,k4,k5,k6,k7⟩=>⟨b,aK,cap,k1,k2,k3,k4,k5,k6,λi x j d hi hj=>let ⟨v,hv,Y⟩:=k7 i x j d hi hj;⟨v,hv,Y.ok bg⟩⟩⟩
 ·have⟨b,e,aK,h1,h2,h3,h5⟩:=h
  refine⟨b,e,aK,h1,h2,by omega,λj y hy=>?_⟩;rcases hc j y hy with rfl|hy'
  ·have hj:j<cs.length:=by have:=(Xt.1 hy).1;omega
   obtain⟨v,hv,ho,_⟩:=h5 j cs[j] (Xp hj);exact⟨v,hv,ho,trivial⟩
  ·obtain⟨v,hv,ho,Y⟩:=h5 j y hy'
   exact⟨v,hv,ho,Y.to bg (hk cs' E y (XA hy))⟩
def refs(x:T)(k:Nat):Prop:=x=.rs k\/(∃o,x=.ref k o)\/∃r f g,x=.own k r f g
structure Sub(s:Nat->aH)(ev:Z6->T)(s':Nat->aH):Prop where
 at_:∀k,s' k=s k\/(s k=.no/\∀y,¬refs (ev y) k)
 tb:∀k cs,s k=.cn cs->∀x∈cs,∀j,refs x j->s' j=s j
theorem Sub.refl(s:Nat->aH)(ev:Z6->T):Sub s ev s:=⟨λ_=>.inl E,λ_ _ _ _ _ _ _=>rfl⟩
def QOp(P:Z4)(w0:Cx)(n:Nat)(s:Nat->aH)(ev:Z6->T)(o:Z8)(x:T):Prop:=
 ∀st a w,Holds w0 st a w->Sub s ev st.s->st.n=n->(∀y,ev y=.dead\/st.ev y=ev y)->(∀d,o.dst=some d->d<n)->
  OW P w0 o a w (λa' w'=>Holds w0 (st.put o.dst x) a' w')
def T.bool(b:Bool):T:=.d (.v (.bool b))
def NX(o:Z8)(t:Tmp):Bool:=match o.dst with|some d=>Nat.beq d t|none=>false
def prodGo:Nat->List Z8->Nat->Tmp->Option Nat
 | 0,_,_,_=>none
 | _+1,[],_,_=>none
 | n+1,o::os,i,t=>bif NX o t then some i else prodGo n os (i+1) t
def cw(l:List Z8)(n:Nat)(t:Tmp):Option Nat:=prodGo n l 0 t
def dS(o:Z8)(j:Nat):Bool:=o.after.toList.any λe=>Region.binds .any e&&Nat.beq e.on j
def guardOf(l:List Z8)(i:Nat):Option (Nat × Bool):=(l[i]?).bind (·.guard)
def chainG(l:List Z8):Nat->Option (Nat × Bool)->List (Nat × Bool)
 | 0,_=>[]
 | _,none=>[]
 | f+1,some (j,b)=>(j,b)::chainG l f (guardOf l j)
def p7(l:List Z8)(i:Nat):List (Nat × Bool):=chainG l (i+1) (guardOf l i)
def GH(xs:Nat->T):List (Nat × Bool)->Prop
 | []=>True
 | (j,b)::gs=>xs j=T.bool b/\GH xs gs
def evAt(st:St)(l:List Z8)(n:Nat)(xs:Nat->T)(i:Nat)(o:Z8)(gs:List (Nat × Bool)):Z6->T
 | .tmp t=>
  match cw l n t with
  | none=>st.t t
  | some p=>if dS o p then (if (p7 l p).all (gs.contains ·) then xs p else .dead)
   else if Nat.beq p i||((l[p]?).map (dS · i)).getD false then st.t t else .dead
 | y=>st.ev y
open Classical in
noncomputable def dX(st:St)(l:List Z8)(n:Nat)(xs:Nat->T)(L:Nat->Bool):St:=
 { st with t:=λt=>match cw l n t with
   | none=>st.t t
   | some p=>if L p then (if GH xs (p7 l p) then xs p else .un) else st.t t }
def regOk1(l:List Z8)(n N:Nat)(i:Nat)(o:Z8):Bool:=
 (o.after.toList.all λe=>!Region.binds .any e||decide (e.on<i)) &&
 (match o.dst with|none=>true|some d=>cw l n d==some i&&decide (d<N)) &&
 (match o.guard with|none=>true|some (j,_)=>dS o j&&((l[j]?).bind (·.dst)).isSome)
def vX(l:List Z8)(n N:Nat):Bool:=(List.range n).all λi=>match l[i]? with|none=>false|some o=>regOk1 l n N i o
theorem uq{l:List Z8}{n N i:Nat}{o:Z8}(h:vX l n N=true)(hi:i<n)(ho:l[i]?=some o):regOk1 l n N i o=true:=by
 have:=X0.1 h i (YJ.2 hi);rw[ho]at this;exact this
theorem dp{o:Z8}{j:Nat}(h:dS o j=true):∃e∈o.after,Region.binds .any e=true/\e.on=j:=by
 have⟨e,he,hb⟩:=List.any_eq_true.1 h;rw[Xs]at hb;exact⟨e,by simpa using he,hb.1,Xq hb.2⟩
theorem dZ{l:List Z8}{n N i:Nat}{o:Z8}(h:vX l n N=true)(hi:i<n)(ho:l[i]?=some o):∀e∈o.after,Region.binds .any e=true->e.on<i:=by
 intro e he hb;have h1:=uq h hi ho;simp only[regOk1,Xs]at h1;have h2:=X0.1 h1.1.1 e (by simpa using he);simpa [hb] using h2
theorem iy{l:List Z8}{n N i:Nat}{o:Z8}{d:Nat}(h:vX l n N=true)(hi:i<n)(ho:l[i]?=some o)(J:o.dst=some d):cw l n d=some i/\d<N:=by
 have h1:=uq h hi ho;simp only[regOk1,Xs,J,beq_iff_eq,XW]at h1;exact h1.1.2
theorem ic{l:List Z8}{n N i j:Nat}{b:Bool}{o:Z8}(h:vX l n N=true)(hi:i<n)(ho:l[i]?=some o)(hg:o.guard=some (j,b)):dS o j=true/\j<i:=by
 have h1:=uq h hi ho;simp only[regOk1,Xs,hg]at h1;have⟨e,he,hb,hj⟩:=dp h1.2.1;exact⟨h1.2.1,hj ▸ dZ h hi ho e he hb⟩
theorem o5{l:List Z8}{n N i j:Nat}{b:Bool}{o:Z8}(h:vX l n N=true)(hi:i<n)(ho:l[i]?=some o)(hg:o.guard=some (j,b)):((l[j]?).bind (·.dst)).isSome=true:=by
 have h1:=uq h hi ho;simp only[regOk1,Xs,hg]at h1;exact h1.2.2
theorem Gc{l:List Z8}{n N:Nat}(h:vX l n N=true):∀(i f:Nat),i<n->i<f->chainG l f (guardOf l i)=p7 l i:=by
 intro i
 induction i using Nat.strongRecOn with
 | _ i ih=>
  intro f hi hf;obtain⟨f,rfl⟩:∃g,f=g+1:=⟨f - 1,by omega⟩;unfold p7
  cases hg:guardOf l i with
  | none=>rfl
  | some jb=>
   have⟨j,b⟩:=jb
   cases ho:l[i]? with
   | none=>simp[guardOf,ho]at hg
   | some o=>
    have hog:o.guard=some (j,b):=by simpa [guardOf,ho] using hg
    have hj:=(ic h hi ho hog).2;simp only[chainG];rw[ih j hj f (by omega) (by omega),ih j hj i (by omega) (by omega)]
theorem dV{l:List Z8}{i:Nat}{o:Z8}(ho:l[i]?=some o)(hg:o.guard=none):p7 l i=[]:=by
 simp[p7,guardOf,ho,hg,chainG]
theorem ng{l:List Z8}{n N i j:Nat}{b:Bool}{o:Z8}(h:vX l n N=true)(hi:i<n)(ho:l[i]?=some o)(hg:o.guard=some (j,b)):p7 l i=(j,b)::p7 l j:=by
 have hj:=(ic h hi ho hg).2;have:guardOf l i=some (j,b):=by simp[guardOf,ho,hg]
 unfold p7;rw[this];simp only[chainG];rw[Gc h j i (by omega) hj];rfl
theorem GH.mem{xs:Nat->T}:∀{gs:List (Nat × Bool)},GH xs gs->∀g∈gs,xs g.1=T.bool g.2
 | [],_,g,hg=>by cases hg
 | (j,b)::gs,h,g,hg=>by
  rcases Xy.1 hg with rfl|h'
  ·exact h.1
  ·exact GH.mem h.2 g h'
theorem GH.of{xs:Nat->T}:∀{gs:List (Nat × Bool)},(∀g∈gs,xs g.1=T.bool g.2)->GH xs gs
 | [],_=>trivial
 | (j,b)::gs,h=>⟨h (j,b) (by simp),GH.of λg hg=>h g (by simp[hg])⟩
theorem tz:∀{n:Nat} {l:List Z8} {i p:Nat} {t:Tmp},prodGo n l i t=some p->i<=p/\p<i+n/\∃o,l[p - i]?=some o/\o.dst=some t
 | 0,_,_,_,_,h=>by simp[prodGo]at h
 | n+1,[],_,_,_,h=>by simp[prodGo]at h
 | n+1,o::os,i,p,t,h=>by
  simp only[prodGo]at h;cases J:NX o t with
  | true=>
   rw[J]at h;simp only[Yb,XS]at h;subst h;refine⟨Xw _,by omega,o,by simp,?_⟩;unfold NX at J
   cases ho:o.dst with
   | none=>rw[ho]at J;cases J
   | some d=>rw[ho]at J;rw[Xq J]
  | false=>
   rw[J]at h;have⟨h1,h2,o',h3,h4⟩:=tz h;exact⟨by omega,by omega,o',by rw[show p - i=(p - (i+1))+1 by omega];simpa using h3,h4⟩
theorem de{l:List Z8}{n p:Nat}{t:Tmp}(h:cw l n t=some p):p<n/\∃o,l[p]?=some o/\o.dst=some t:=by
 have⟨_,h2,o,h3,h4⟩:=tz h;exact⟨by omega,o,by simpa using h3,h4⟩
structure Done(l:List Z8)(n:Nat)(L:Nat->Bool):Prop where
 closed:∀p o,p<n->l[p]?=some o->L p=true->∀e∈o.after,Region.binds .any e=true->L e.on=true
open Classical in
theorem fH{st:St}{l:List Z8}{n N i:Nat}{xs:Nat->T}{o:Z8}{gs:List (Nat × Bool)}{L:Nat->Bool}(h:vX l n N=true)(ho:l[i]?=some o)
  (hD:Done l n L) (jT:L i=false) (pM:∀e∈o.after,Region.binds .any e=true->L e.on=true) (hg:GH xs gs) (y:Z6) :
  evAt st l n xs i o gs y=.dead\/(dX st l n xs L).ev y=evAt st l n xs i o gs y:=by
 cases y with
 | tmp t=>
  simp only[evAt,St.ev,dX]
  cases hp:cw l n t with
  | none=>exact .inr E
  | some p=>
   simp only;by_cases ha:dS o p=true
   ·have⟨e,he,hb,hj⟩:=dp ha
    have Np:L p=true:=hj ▸ pM e he hb;simp only[ha,Yp,Np];by_cases hv:(p7 l p).all (gs.contains ·)=true
    ·have hgp:GH xs (p7 l p):=GH.of λg gH=>hg.mem g (by have:=X0.1 hv g gH;simpa using this)
     simp only[hv,Yp,Xu hgp];exact .inr trivial
    ·exact .inl (Xr hv)
   ·rw[Xr ha]
    have⟨iK,op,cF,Nb⟩:=de hp;by_cases hc:(Nat.beq p i||((l[p]?).map (dS · i)).getD false)=true
    ·have Np : L p = false := by
      rw[X3]at hc;rcases hc with hc|hc
      · rw[Xq hc];exact jT
      ·rw[<-XT]
       intro Np;simp only[cF,XB,Zw]at hc;have⟨e,he,hb,hj⟩:=dp hc;have:=hD.closed p op iK cF Np e he hb;rw[hj,jT]at this;cases this
     simp only[Np,hc,Yp];exact .inr (by simp)
    ·exact .inl (Xr hc)
 | const v=>exact .inr E
 | global g=>exact .inr E
 | func f=>exact .inr E
def cK(L:Nat->Bool)(i:Nat):Nat->Bool:=λj=>j==i||L j
open Classical in
theorem mK{st:St}{l:List Z8}{n N i:Nat}{xs:Nat->T}{o:Z8}{L:Nat->Bool}(h:vX l n N=true)(hi:i<n)(ho:l[i]?=some o)(jT:L i=false) :
  dX st l n xs (cK L i)=(dX st l n xs L).put o.dst (if GH xs (p7 l i) then xs i else .un):=by
 cases J:o.dst with
 | none=>
  simp only[St.put,dX,St.mk.injEq,Zx,ZD];funext t
  cases hp:cw l n t with
  | none=>rfl
  | some p=>
   have⟨_,op,cF,Nb⟩:=de hp;have WM:p≠i:=λe=>by subst e;rw[cF]at ho;cases ho;rw[J]at Nb;cases Nb
   have:cK L i p=L p:=by simp[cK,WM]
   simp only[this]
 | some d=>
  have⟨FV,_⟩:=iy h hi ho J;simp only[St.put,dX,St.mk.injEq,Zx,ZD];funext t;by_cases FQ:t=d
  ·subst FQ
   rw[FV];simp[cK]
  ·have:Nat.beq t d=false:=by rw[<-XT];exact λe=>FQ (Xq e)
   rw[this];simp only[XJ]
   cases hp:cw l n t with
   | none=>rfl
   | some p=>
    have⟨_,op,cF,Nb⟩:=de hp;have WM:p≠i:=λe=>by subst e;rw[cF]at ho;cases ho;rw[J]at Nb;cases Nb;exact FQ E
    have:cK L i p=L p:=by simp[cK,WM]
    simp only[this]
def Wn(P:Z4)(w0:Cx)(st:St)(l:List Z8)(n:Nat)(xs:Nat->T)(i:Nat)(o:Z8)(gs:List (Nat × Bool))(x:T):Prop:=
 QOp P w0 st.n st.s (evAt st l n xs i o gs) o x\/
 ∃tc a b jc cb p q,o.op=.pick (.tmp tc) a b/\cw l n tc=some jc/\dS o jc=true/\xs jc=T.bool cb/\evAt st l n xs i o gs (.tmp tc)=T.bool cb/\
  evAt st l n xs i o ((jc,true)::gs) a=T.bool p/\evAt st l n xs i o ((jc,false)::gs) b=T.bool q/\x=T.bool (bif cb then p else q)
theorem iN.c8{w:W'}{ok:Nat->Prop}{x v:Z3}(h:iN w ok (.v x) v):v=x:=by
 generalize J:D.v x=d at h
 cases h<;>cases J
 rfl
theorem qx.bool{st:St}{a:Act}{w:W'}{blk:Nat->Option Nat}{val:Nat->Z3}(h:qx w0 st a w blk val){y:Z6}{b:Bool}(hy:st.ev y=T.bool b):a.eval y=.bool b:=by
 have:=h.ev y;rw[hy]at this;exact iN.c8 this
theorem gg{o:Z8}{a:Act}{w w':W'}{v:Z3}{K:Act->W'->Prop}(h:(execOp a.eval o).run P w=.ok (.value v) w')(hK:K (a.put o.dst v) w'):OW P w0 o a w K:=by
 refine gO (λc hc=>?_) (by unfold Oper.wp;rw[h];exact hK);unfold execOp at h;rw[hc]at h;simp only[Sem.run_bind]at h;generalize (resolve a.eval c o.type).run P w=r at h
 cases r<;>simp[Result.andThen]at h
theorem Ue{st:St}{l:List Z8}{n i:Nat}{xs:Nat->T}{o:Z8}{L:Nat->Bool}{a:Act}{w:W'}(h:vX l n st.n=true)(hi:i<n)(ho:l[i]?=some o)
  (hD:Done l n L) (jT:L i=false) (pM:∀e∈o.after,Region.binds .any e=true->L e.on=true) (hH:Holds w0 (dX st l n xs L) a w) (hg:GH xs (p7 l i)) (hS:Wn P w0 st l n xs i o (p7 l i) (xs i)) :
  OW P w0 o a w (λa' w'=>Holds w0 (dX st l n xs (cK L i)) a' w'):=by
 rw[mK h hi ho jT,Xu hg];have Pb:∀d,o.dst=some d->d<st.n:=λd J=>(iy h hi ho J).2;rcases hS with hq|⟨tc,ya,yb,jc,cb,p,q,cF,hpj,_,hx,hc,ha,hb,Y⟩
 ·exact hq _ a w hH (Sub.refl _ _) E (λy=>fH h ho hD jT pM hg y) Pb
 ·obtain⟨blk,val,hh⟩:=hH
  have h1:(dX st l n xs L).ev (.tmp tc)=T.bool cb:=by
   rcases fH (st:=st) h ho hD jT pM hg (.tmp tc) with e|e
   ·rw[hc]at e;cases e
   ·rw[e,hc]
  have hv:=hh.bool h1
  have h2:a.eval (if cb then ya else yb)=.bool (bif cb then p else q):=by
   cases cb with
   | true=>
    have gH:GH xs ((jc,true)::p7 l i):=⟨hx,hg⟩;rcases fH (st:=st) h ho hD jT pM gH ya with e|e
    ·rw[ha]at e;cases e
    ·exact hh.bool (by rw[Xu E,e,ha];rfl)
   | false=>
    have gH:GH xs ((jc,false)::p7 l i):=⟨hx,hg⟩;rcases fH (st:=st) h ho hD jT pM gH yb with e|e
    ·rw[hb]at e;cases e
    ·exact hh.bool (by rw[Xr (by simp),e,hb];rfl)
  refine gg (v:=.bool (bif cb then p else q)) (w':=w) ?_ ⟨blk,val,?_⟩
  ·simp only[execOp,cF,hv]
   have:(if cb=true then a.eval ya else a.eval yb)=.bool (bif cb then p else q):=by rw[<-h2];cases cb<;>rfl
   show Sem.run P (Sem.pure (Next.value (if cb=true then a.eval ya else a.eval yb))) w=_
   rw[this];rfl
  ·exact hh.put o.dst _ _ Pb (by rw[Y];exact iN.v _ E)
def ON(P:Z4)(w0:Cx)(st:St)(l:List Z8)(n:Nat)(xs:Nat->T)(i:Nat)(o:Z8):Prop:=
 (∀j b,o.guard=some (j,b)->∃c,xs j=T.bool c)/\(GH xs (p7 l i)->Wn P w0 st l n xs i o (p7 l i) (xs i))
open Classical in
theorem reg_step{st:St}{l:List Z8}{n i:Nat}{xs:Nat->T}{o:Z8}{L:Nat->Bool}{a:Act}{w:W'}(h:vX l n st.n=true)(hi:i<n)(ho:l[i]?=some o)
  (hD:Done l n L) (jT:L i=false) (pM:∀e∈o.after,Region.binds .any e=true->L e.on=true) (hH:Holds w0 (dX st l n xs L) a w) (hS:ON P w0 st l n xs i o) :
  (Region.wanted o (yielded l.toArray a.tmps)=true/\OW P w0 o a w (λa' w'=>Holds w0 (dX st l n xs (cK L i)) a' w'))\/
  (Region.wanted o (yielded l.toArray a.tmps)=false/\Holds w0 (dX st l n xs (cK L i)) (a.put o.dst undef) w):=by
 have key:Region.wanted o (yielded l.toArray a.tmps)=decide (GH xs (p7 l i)):=by
  cases hg:o.guard with
  | none=>simp[Region.wanted,hg,dV ho hg,GH]
  | some jb=>
   have⟨j,b⟩:=jb;have⟨hj1,hj2⟩:=ic h hi ho hg;have⟨e,he,hb,hej⟩:=dp hj1;have hLj:L j=true:=hej ▸ pM e he hb;have⟨c,hc⟩:=hS.1 j b hg;rw[ng h hi ho hg];simp only[Region.wanted,hg];obtain⟨blk,val,hh⟩:=hH;have M4:j<n:=by omega
   obtain⟨oj,QY⟩:∃oj,l[j]?=some oj:=by
    cases kP:l[j]? with
    | none=>have:=List.getElem?_eq_none_iff.1 kP;have:=(Xt.1 ho).1;omega
    | some oj=>exact⟨oj,rfl⟩
   cases Nd:oj.dst with
   | none=>
    have hy:yielded l.toArray a.tmps j=none:=by simp[yielded,QY,Nd]
    exfalso;exact absurd (o5 h hi ho hg) (by rw[QY];simp[Nd])
   | some d=>
    have⟨FV,hdN⟩:=iy h M4 QY Nd;have dD:=hh.tmp d
    have dU:(dX st l n xs L).t d=if GH xs (p7 l j) then xs j else .un:=by
     simp only[dX,FV,hLj,Yp]
    rw[dU]at dD;have Q7:d<a.tmps.size:=by rw[hh.size];exact hdN
    have hy:yielded l.toArray a.tmps j=match a.tmps.getD d undef with|.bool b=>some b|_=>none:=by
     simp[yielded,QY,Nd,Q7]
     cases a.tmps[d]<;>rfl
    by_cases Q6:GH xs (p7 l j)
    ·rw[Xu Q6,hc]at dD
     have:a.tmps.getD d undef=.bool c:=iN.c8 dD;rw[hy,this];simp only[GH,Q6,ZD,hc,T.bool,T.d.injEq,D.v.injEq,Value.bool.injEq]
     cases c<;>cases b<;>simp
    ·rw[Xr Q6]at dD
     rw[hy,show a.tmps.getD d undef=undef from dD];simp[GH,Q6,undef]
 rw[key];by_cases hg:GH xs (p7 l i)
 ·exact .inl ⟨by simpa using hg,Ue h hi ho hD jT pM hH hg (hS.2 hg)⟩
 ·refine .inr ⟨by simpa using hg,?_⟩
  obtain⟨blk,val,hh⟩:=hH;rw[mK h hi ho jT,Xr hg];exact⟨blk,val,hh.put o.dst .un undef (λd J=>(iy h hi ho J).2) E⟩
def upd(e:Nat->T)(i:Nat)(x:T):Nat->T:=λj=>bif Nat.beq j i then x else e j
def C3(l:List Z8)(i:Nat)(o:Z8):List (Nat × Bool):=match o.guard with|none=>[]|some _=>p7 l i
def zU(o:Z8)(x:T):T:=match o.guard with|none=>x|some _=>.dead
def wK(P:Z4)(w0:Cx)(st:St)(l:List Z8)(n:Nat):List Z8->Nat->(Nat->T)->St->(St->Prop)->Prop
 | [],_,_,st',K=>K st'
 | o :: os, i, e, st', K => ∃ x, (∀ j b, o.guard = some (j, b) -> ∃ c, e j = T.bool c) /\ (GH e (C3 l i o) -> Wn P w0 st l n e i o (C3 l i o) x) /\
  wK P w0 st l n os (i+1) (upd e i x) (st'.put o.dst (zU o x)) K
def outP(xs:Nat->T):List Z8->Nat->St->St
 | [],_,s=>s
 | o::os,i,s=>outP xs os (i+1) (s.put o.dst (zU o (xs i)))
theorem yP{l:List Z8}{n N:Nat}(h:vX l n N=true):∀(i:Nat),i<n->∀g∈p7 l i,g.1<i:=by
 intro i
 induction i using Nat.strongRecOn with
 | _ i ih=>
  intro hi g hg
  cases ho:l[i]? with
  | none=>simp[p7,guardOf,ho,chainG]at hg
  | some o=>
   cases hgo:o.guard with
   | none=>rw[dV ho hgo]at hg;cases hg
   | some jb=>
    have⟨j,b⟩:=jb;have hj:=(ic h hi ho hgo).2;rw[ng h hi ho hgo]at hg;rcases Xy.1 hg with rfl|hg
    ·exact hj
    ·have:=ih j hj (by omega) g hg;omega
theorem GH.congr{e xs:Nat->T}:∀{gs:List (Nat × Bool)},(∀g∈gs,e g.1=xs g.1)->GH e gs->GH xs gs
 | [],_,_=>trivial
 | (j,b)::gs,h,hh=>⟨by rw[<-h (j,b) (by simp)];exact hh.1,GH.congr (λg hg=>h g (by simp[hg])) hh.2⟩
theorem fI{st:St}{l:List Z8}{n N i:Nat}{e xs:Nat->T}{o:Z8}{gs:List (Nat × Bool)}(h:vX l n N=true)(hi:i<n)(ho:l[i]?=some o)
  (he:∀p,p<i->e p=xs p) (y:Z6):evAt st l n e i o gs y=evAt st l n xs i o gs y:=by
 cases y with
 | tmp t=>
  simp only[evAt]
  cases hp:cw l n t with
  | none=>rfl
  | some p=>
   simp only;by_cases ha:dS o p=true
   ·have⟨ed,hed,hb,hj⟩:=dp ha
    have:=dZ h hi ho ed hed hb;rw[he p (by omega)]
   ·rw[Xr ha,Xr ha]
 | _=>rfl
theorem QOp.congr{n:Nat}{s:Nat->aH}{ev W7:Z6->T}{o:Z8}{x:T}(he:∀y,ev y=W7 y)(h:QOp P w0 n s ev o x):QOp P w0 n s W7 o x:=by
 have:ev=W7:=funext he;rw[<-this];exact h
theorem Wn.congr{st:St}{l:List Z8}{n i:Nat}{e xs:Nat->T}{o:Z8}{gs:List (Nat × Bool)}{x:T}{N:Nat}(h:vX l n N=true)(hi:i<n)(ho:l[i]?=some o)
  (he:∀p,p<i->e p=xs p) (hS:Wn P w0 st l n e i o gs x):Wn P w0 st l n xs i o gs x:=by
 rcases hS with hq|⟨tc,ya,yb,jc,cb,p,q,cF,hpj,hab,hx,hc,ha,hb,Y⟩
 ·exact .inl (hq.congr (fI h hi ho he))
 ·have⟨ed,hed,Rb,hj⟩:=dp hab
  have:=dZ h hi ho ed hed Rb;refine .inr ⟨tc,ya,yb,jc,cb,p,q,cF,hpj,hab,by rw[<-he jc (by omega)];exact hx,?_,?_,?_,Y⟩
  ·rw[<-fI h hi ho he];exact hc
  ·rw[<-fI h hi ho he];exact ha
  ·rw[<-fI h hi ho he];exact hb
theorem qe{st:St}{l:List Z8}{n N:Nat}{K:St->Prop}(h:vX l n N=true):∀(os:List Z8) (i:Nat) (e:Nat->T) (st':St),i+os.length=n->(∀k,k<os.length->os[k]?=l[i+k]?)->
  wK P w0 st l n os i e st' K->∃xs:Nat->T,(∀p,p<i->xs p=e p)/\(∀k o,i<=k->k<n->l[k]?=some o->ON P w0 st l n xs k o)/\K (outP xs os i st')
 | [],i,e,st',hl,_,hW=>⟨e,λ_ _=>rfl,λk o h1 h2 _=>by simp at hl;omega,hW⟩
 | o::os,i,e,st',hl,HQ,hW=>by
  have⟨x,h1,h2,h3⟩:=hW;have ho:l[i]?=some o:=by have:=HQ 0 (by simp);simpa using this.symm
  have hi:i<n:=by simp at hl;omega
  obtain⟨xs,k1,k2,k3⟩:=qe h os (i+1) _ _ (by simp at hl;omega) (λk hk=>by have:=HQ (k+1) (by simpa using hk);simpa [YZ,Zh 1 k] using this) h3
  have Eo:∀p,p<i->xs p=e p:=λp hp=>by
   rw[k1 p (by omega)];have:Nat.beq p i=false:=by rw[<-XT];exact λe=>by have:=Xq e;omega
   simp[upd,this]
  have hxi:xs i=x:=by rw[k1 i (by omega)];simp[upd]
  refine⟨xs,Eo,λk o' FX vP bg=>?_,?_⟩
  ·by_cases hk:k=i
   ·subst hk
    rw[ho]at bg;cases bg
    have Q5:C3 l k o=p7 l k:=by
     unfold C3
     cases hg:o.guard with
     | none=>exact(dV ho hg).symm
     | some _=>rfl
    rw[Q5]at h2;refine⟨λj b hj=>?_,λhG=>?_⟩
    ·have⟨c,hc⟩:=h1 j b hj
     exact⟨c,by rw[Eo j (ic h hi ho hj).2];exact hc⟩
    ·rw[hxi]
     exact Wn.congr h hi ho (λp hp=>(Eo p hp).symm) (h2 (GH.congr (λg hg=>Eo g.1 (yP h k hi g hg)) hG))
   ·exact k2 k o' (by omega) vP bg
  ·simp only[outP]
   rw[hxi];exact k3
def Wk(s s':St):Prop:=s'.n=s.n/\s'.s=s.s/\∀t,s'.t t=s.t t\/s'.t t=.dead
theorem Holds.EB{s s':St}{a:Act}{w:W'}(h:Holds w0 s a w)(hw:Wk s s'):Holds w0 s' a w:=by
 obtain⟨blk,val,hh⟩:=h;have⟨h1,h2,h3⟩:=hw;refine⟨blk,val,hh.ext,hh.defers,by rw[h1];exact hh.size,hh.new,hh.inj,by rw[h1,h2];exact hh.kU,by rw[h2];exact hh.site,λt=>?_⟩;rw[h2];rcases h3 t with e|e
 ·rw[e];exact hh.tmp t
 ·rw[e];trivial
theorem Wk.put{s s':St}{dst:Option Tmp}{x x':T}(h:Wk s s')(hx:x'=x\/x'=.dead):Wk (s.put dst x) (s'.put dst x'):=by
 cases dst with
 | none=>exact h
 | some d=>
  refine⟨h.1,h.2.1,λt=>?_⟩;simp only[St.put]
  cases Nat.beq t d
  ·exact h.2.2 t
  ·exact hx
def gd(i:Nat):Nat->Bool:=λj=>decide (j<i)
theorem uZ(i:Nat):cK (gd i) i=gd (i+1):=by
 funext j;simp only[cK,gd];rw[Bool.eq_iff_iff];simp;omega
theorem vo{st:St}{l:List Z8}{n N:Nat}{xs:Nat->T}(h:vX l n N=true):∀(os:List Z8) (i:Nat) (s':St),i+os.length=n->(∀k,k<os.length->os[k]?=l[i+k]?)->
  Wk (dX st l n xs (gd i)) s'->Wk (dX st l n xs (gd n)) (outP xs os i s')
 | [],i,s',hl,_,hw=>by
  have:i=n:=by simpa using hl
  subst this;exact hw
 | o::os,i,s',hl,HQ,hw=>by
  have ho:l[i]?=some o:=by have:=HQ 0 (by simp);simpa using this.symm
  have hi:i<n:=by simp at hl;omega
  refine vo h os (i+1) _ (by simp at hl;omega) (λk hk=>by have:=HQ (k+1) (by simpa using hk);simpa [YZ,Zh 1 k] using this) ?_;rw[<-uZ,mK h hi ho (by simp[gd])];refine hw.put ?_;unfold zU
  cases hg:o.guard with
  | none=>rw[dV ho hg,Xu (show GH xs [] from trivial)];exact .inl E
  | some _=>exact .inr E
theorem BF{st:St}{l:List Z8}{n:Nat}{xs:Nat->T}{L:Nat->Bool}(hL:∀p,p<n->L p=true):dX st l n xs L=dX st l n xs (gd n):=by
 simp only[dX,St.mk.injEq,Zx,ZD];funext t
 cases hp:cw l n t with
 | none=>rfl
 | some p=>
  have iK:=(de hp).1;simp only[hL p iK,gd,iK,decide_true]
theorem fg{st:St}{l:List Z8}{n:Nat}{xs:Nat->T}{L:Nat->Bool}(hL:∀p,p<n->L p=false):dX st l n xs L=st:=by
 cases st
 simp only[dX,St.mk.injEq,Zx,ZD];funext t
 cases hp:cw l n t with
 | none=>rfl
 | some p=>simp[hL p (de hp).1]
theorem gm{F:Fence}{fn:Nat}{md:Region.Mode}{ops:Array Z8}{Q':Exit->Act->W'->Prop}:∀(l:List Z8) (k:Nat) (listed:Array Bool) (a:Act) (w:W'),(∀j,l[j]?=ops[k+j]?)->
  Region.seqB md ops l.length k listed=true->wpListIn F fn P ops Q' l a w->wpAnyIn F fn P md ops Q' l.length listed a w
 | [],_,_,_,_,_,hB,h=>⟨by simpa [Region.seqB] using hB,h⟩
 | o::l,k,listed,a,w,hl,hB,h=>by
  have h0:ops[k]?=some o:=by simpa using (hl 0).symm
  simp only[XH,Region.seqB,Xs,XW]at hB;refine⟨λh1=>(by rw[hB.1]at h1;cases h1),λi hi=>?_⟩;rw[hB.1]at hi;have FX:i=k:=by simpa using hi
  subst FX;have hw:wpOpIn F fn P ops Q' i (wpListIn F fn P ops Q' l) a w:=by unfold wpOpIn;simp only[h0];exact h
  exact wpOpIn_mono (λa' w' h'=>gm l (i+1) _ a' w' (λj=>by have:=hl (j+1);simpa [YZ,Zh 1 j] using this) hB.2 h') hw
def tj(P:Z4)(w0:Cx)(ops:List Z8)(rest:List Z8)(R:Exit->St->Prop)(st:St):Prop:=∀(F:Fence) (m:Nat),FAt w0 F->∀a w,Holds w0 st a w->wpListIn F m P ops.toArray (Post w0 R) rest a w
theorem G6{F:Fence}{m:Nat}(hF:FAt w0 F){st:St}{l:List Z8}{n:Nat}{xs:Nat->T}{Q:Exit->Act->W'->Prop}(h:vX l n st.n=true)(hn:n<=l.length)(hO:∀k o,k<n->l[k]?=some o->ON P w0 st l n xs k o)
  (hT:∀a w,Holds w0 (dX st l n xs (gd n)) a w->wpListIn F m P l.toArray Q (l.drop n) a w) :
  ∀(d i:Nat),n - i=d->i<=n->∀a w,Holds w0 (dX st l n xs (gd i)) a w->wpListIn F m P l.toArray Q (l.drop i) a w:=by
 intro d
 induction d with
 | zero =>
   intro i J hi a w hH;have:i=n:=by omega
   subst this;exact hT a w hH
 | succ d ih=>
  intro i J hi a w hH;have rY:i<l.length:=by omega
  rw[Yf rY];have ho:l[i]?=some l[i]:=Xp rY;have n7:i<n:=by omega
  have step := reg_step (L := gd i) h n7 ho ⟨λp o hp cF hL e he hb => by
    have:=dZ h hp cF e he hb
    simp only[gd,XW]at hL ⊢;omega⟩ (by simp[gd]) (λe he hb=>by have:=dZ h n7 ho e he hb;simpa [gd] using this) hH (hO i _ n7 ho)
  rw[uZ]at step;unfold wpListIn;rcases step with ⟨h1,h2⟩|⟨h1,h2⟩
  ·rw[Xu h1]
   exact h2.to hF λa' w' h'=>ih (i+1) (by omega) (by omega) a' w' h'
  ·rw[Xr (by simp[h1])]
   exact⟨λf _=>hF.fn f,ih (i+1) (by omega) (by omega) _ _ h2⟩
def cntU(listed:Array Bool):Nat->Nat
 | 0=>0
 | k+1=>cntU listed k+(if listed.getD k false=true then 0 else 1)
theorem lH{listed:Array Bool}:∀{k:Nat},cntU listed k=0->∀j,j<k->listed.getD j false=true
 | 0,_,j,hj=>by omega
 | k+1,h,j,hj=>by
  simp only[cntU]at h;by_cases hk:listed.getD k false=true
  ·rcases XP j k with h'|h'
   ·exact lH (by omega) j h'
   ·have:j=k:=by omega
    subst this;exact hk
  ·rw[Xr hk]at h;omega
theorem ov{listed:Array Bool}:∀{k:Nat},0<cntU listed k->∃j,j<k/\listed.getD j false=false/\∀p,p<j->listed.getD p false=true
 | 0,h=>by simp[cntU]at h
 | k+1,h=>by
  by_cases h0:0<cntU listed k
  ·have⟨j,h1,h2⟩:=ov h0;exact⟨j,by omega,h2⟩
  ·refine⟨k,by omega,?_,lH (by omega)⟩
   simp only[cntU]at h;by_cases hk:listed.getD k false=true
   ·rw[Xu hk]at h;omega
   ·simpa using hk
theorem rC{listed:Array Bool}{i:Nat}(hi:listed.getD i false=false)(M5:i<listed.size):∀{k:Nat},(i<k->cntU (listed.setIfInBounds i true) k+1=cntU listed k)/\(k<=i->cntU (listed.setIfInBounds i true) k=cntU listed k)
 | 0=>⟨λh=>by omega,λ_=>rfl⟩
 | k+1=>by
  have⟨h1,h2⟩:=rC hi M5 (k:=k);have eW:k≠i->(listed.setIfInBounds i true).getD k false=listed.getD k false:=λh=>getD_set_ne false (Ne.symm h);refine⟨λh=>?_,λh=>?_⟩
  ·simp only[cntU]
   by_cases hk:k=i
   ·subst hk
    rw[h2 (Xw _),hi];have:(listed.setIfInBounds k true).getD k false=true:=by simp[M5]
    rw[this];simp
   ·rw[eW hk];have:=h1 (by omega);omega
  ·simp only[cntU]
   rw[eW (by omega),h2 (by omega)]
theorem lI{m:Nat}:∀{k:Nat},cntU (Array.replicate m false) k=k
 | 0=>rfl
 | k+1=>by simp only[cntU,lI,getD_replicate_false];simp
def ie(n m:Nat):Array Bool:=((List.range m).map λj=>decide (j<n)).toArray
def wu(l:List Z8)(n:Nat):Bool:=
 (decide (n=l.length)||Region.sinkB .any l.toArray n&&Region.chainB .any l.toArray n)&&Region.seqB .any l.toArray (l.length - n) n (ie n l.length)
theorem Ip{F:Fence}{m:Nat}(hF:FAt w0 F){st:St}{l:List Z8}{n:Nat}{xs:Nat->T}{Q:Exit->Act->W'->Prop}(h:vX l n st.n=true)(hn:n<=l.length)(hB:wu l n=true)
  (hO:∀k o,k<n->l[k]?=some o->ON P w0 st l n xs k o)
  (hT:∀a w,Holds w0 (dX st l n xs (gd n)) a w->wpListIn F m P l.toArray Q (l.drop n) a w) :
  ∀(f:Nat) (listed:Array Bool) (a:Act) (w:W'),HeadInv .any l.toArray n listed->cntU listed n=f->Holds w0 (dX st l n xs (listed.getD · false)) a w->
   wpAnyIn F m P .any l.toArray Q (f+(l.length - n)) listed a w:=by
 simp only[wu,Xs,X3,XW]at hB;intro f
 induction f with
 | zero=>
  intro listed a w inv hc hH;have kQ:=lH hc
  have hle:listed=ie n l.length:=by
   apply Array.ext
   ·simp[inv.size,ie]
   ·intro j h1 h2
    have mB:j<l.length:=by simpa [ie] using h2
    simp only[ie,List.getElem_toArray,List.getElem_map,List.getElem_range];by_cases hj:j<n
    ·have:=kQ j hj
     simp[h1]at this;simp[this,hj]
    ·have:=inv.tail j (by omega) (by simpa using mB)
     simp[h1]at this;simp[this,hj]
  have Nc:(l.drop n).length=l.length - n:=by simp
  have:=gm (md:=.any) (Q':=Q) (P:=P) (ops:=l.toArray) (l.drop n) n listed a w (λj=>by simp[Yk]) (by rw[Nc,hle];exact hB.2) (hT a w (by rw[<-BF (L:=(listed.getD · false)) kQ];exact hH));rw[Nc]at this;rwa [XK]
 | succ f ih=>
  intro listed a w inv hc hH;rw[show f+1+(l.length - n)=(f+(l.length - n))+1 by omega];obtain⟨j,hj,SQ,CO⟩:=ov (listed:=listed) (k:=n) (by omega);have mB:j<l.length:=by omega
  have SS:j∈Region.ready .any l.toArray listed:=mem_ready.2 ⟨getD_in (by rw[inv.size];simpa using mB) SQ,l[j],by simp[mB],λe he hb=>CO e.on (dZ h hj (Xp mB) e he hb)⟩;refine⟨λh0=>(by rw[h0]at SS;cases SS),λi hi=>?_⟩;have⟨hiu,o,qJ,hia⟩:=mem_ready.1 hi;have ho:l[i]?=some o:=by simpa using qJ
  have rY:i<l.length:=(Xt.1 ho).1
  have n7:i<n:=by
   rcases XP i n with h'|h'
   ·exact h'
   ·rcases hB.1 with e|⟨hs,tE⟩
    ·omega
    ·exact absurd hi (tail_waits hs tE (by simpa using Nat.lt_of_le_of_lt h' rY) inv _ j E hj (getD_in (by rw[inv.size];simpa using mB) SQ) i h')
  have CP:listed.getD i false=false:=getD_both hiu;have M5:i<listed.size:=by rw[inv.size];simpa using rY
  have FT:(λj=>(listed.setIfInBounds i true).getD j false)=cK (listed.getD · false) i:=by
   funext k;by_cases hk:k=i
   ·subst hk;simp[cK,M5]
   ·rw[getD_set_ne false (Ne.symm hk)];simp[cK,hk]
  have step:=reg_step (L:=(listed.getD · false)) h n7 ho ⟨λp op hp cF hL e he hb=>inv.closed p op (by simpa using cF) hL e he hb⟩ CP hia hH (hO i o n7 ho);rw[<-FT]at step
  have next:∀a' w',Holds w0 (dX st l n xs ((listed.setIfInBounds i true).getD · false)) a' w'->wpAnyIn F m P .any l.toArray Q (f+(l.length - n)) (listed.setIfInBounds i true) a' w':=
   λa' w' oO=>ih _ a' w' (inv.set hi n7) (by have:=(rC CP M5 (k:=n)).1 n7;omega) oO
  unfold wpOpIn;simp only[qJ];rcases step with ⟨h1,h2⟩|⟨h1,h2⟩
  ·rw[Xu h1];exact h2.to hF next
  ·rw[Xr (by simp[h1])];exact⟨λf _=>hF.fn f,next _ _ h2⟩
theorem Holds.drew{st:St}{a:Act}{w:W'}(h:Holds w0 st a w):Holds w0 st a { w with drawn:=w.drawn+1 }:=by
 obtain⟨blk,val,hh⟩:=h;exact⟨blk,val,hh.ext' ((Ext.refl w).drew)⟩
theorem ca{st:St}{l:List Z8}{id:Nat}{draw:Bool}{R:Exit->St->Prop}(n:Nat)(hm:P.follows .mixedOrders=true)(h:(vX l n st.n&&decide (n<=l.length)&&(!draw||wu l n))=true)
  (hW:wK P w0 st l n (l.take n) 0 (λ_=>.dead) st (λst'=>tj P w0 l (l.drop n) R st')):dG P w0 (.region id l.toArray draw) R st:=by
 simp only[Xs,XW,X3,Yg]at h;obtain⟨⟨h,hn⟩,J⟩:=h;have J4:(l.take n).length=n:=by simp;omega
 have HP:∀k,k<(l.take n).length->(l.take n)[k]?=l[0+k]?:=λk hk=>by rw[J4]at hk;simp[hk]
 obtain⟨xs,_,hO,hK⟩:=qe h (l.take n) 0 _ _ (by omega) HP hW;intro F m hF
 have hT:∀a w,Holds w0 (dX st l n xs (gd n)) a w->wpListIn F m P l.toArray (Post w0 R) (l.drop n) a w:=λa w hH=>
  hK F m hF a w (hH.EB (vo h (l.take n) 0 st (by omega) HP (by rw[fg (λp _=>by simp[gd])];exact⟨rfl,rfl,λ_=>.inl E⟩)))
 intro a w hH
 cases draw with
 | false=>
  refine wpIn_region_lit ?_;have:=G6 (m:=m) hF h hn (λk o hk ho=>hO k o (XC _) hk ho) hT n 0 E (XC _) a w (by rw[fg (λp _=>by simp[gd])];exact hH);simpa using this
 | true=>
  have hB:wu l n=true:=J.resolve_left (by simp);refine wpIn_region_any hm ?_
  have FN:HeadInv .any l.toArray n (Array.replicate l.toArray.size false):=
   ⟨by simp,λj oj _ hl=>(by rw[getD_replicate_false]at hl;cases hl),λt _ ht=>getD_in (by simpa using ht) (getD_replicate_false _ _)⟩
  have:=Ip (m:=m) hF h hn hB (λk o hk ho=>hO k o (XC _) hk ho) hT n _ a { w with drawn:=w.drawn+1 } FN lI (by rw[fg (λp _=>getD_replicate_false _ _)];exact hH.drew);rw[show n+(l.length - n)=l.toArray.size by simp;omega]at this;exact this
variable{n:Nat}{s:Nat->aH}{ev:Z6->T}{dst:Option Tmp}{ty:Z5}{pos:String}{after:Array Edge}{g:Option (Nat × Bool)}
theorem QOp.core{st:St}{a:Act}{w:W'}{blk:Nat->Option Nat}{val:Nat->Z3}(hh:qx w0 st a w blk val)(hs:Sub s ev st.s)(fq:∀y,ev y=.dead\/st.ev y=ev y) :
  ∃aI:Nat->Option Nat,(∀y,iV w (fN w0 blk) aI val s (ev y) (a.eval y))/\(∀k,ml w (fN w0 blk) aI val s (aI k) (val k) (s k))/\∀(w':W') (ok:Nat->Prop) (x:T) (v:Z3),iV w' ok aI val s x v->iV w' ok blk val st.s x v:=by
 let aI:Nat->Option Nat:=λk=>match s k with|.no=>none|_=>blk k
 have hb:∀k,s k≠.no->aI k=blk k:=λk hk=>by
  cases hq:s k<;>first|exact absurd hq hk|simp only[aI,hq]
 have J9:∀k,s k=.no->aI k=none:=λk hk=>by simp only[aI,hk]
 have dW:∀k,s k≠.no->st.s k=s k:=λk hk=>(hs.at_ k).resolve_right λh=>hk h.1;have hn:∀k,st.s k=.no->blk k=none:=λk hk=>by have:=hh.site k;rw[hk]at this;exact this
 have heq:∀k,st.s k=s k->aI k=blk k/\val k=val k/\(st.s k≠.no->s k≠.no)/\((∃e sz es,st.s k=.row e sz es)->∃e sz es,s k=.row e sz es):=λk e=>by
  refine⟨?_,rfl,by rw[e];exact id,by rw[e];exact id⟩
  cases hq:s k with
  | no=>rw[J9 k hq,hn k (e.trans hq)]
  | _=>exact hb k (by rw[hq];simp)
 refine⟨aI,λy=>?_,λk=>?_,λw' ok x v h=>?_⟩
 ·rcases fq y with e|e
  ·rw[e];trivial
  ·have h:=hh.ev y
   rw[e]at h;exact h.to (λ_ _ h=>h) λk hk=>heq k ((hs.at_ k).resolve_right λq=>q.2 y hk)
 ·cases hq:s k with
  | no=>exact J9 k hq
  | _=>
   have e:=dW k (by rw[hq];simp);have h:=hh.site k;rw[e,hq]at h;rw[hb k (by rw[hq];simp)];exact h.to (λ_ _ h=>h) (.inl E) λcs ep y hy j hj=>heq j (hs.tb k cs (hq.trans ep) y hy j hj)
 ·refine h.to (λ_ _ h=>h) λk hk=>?_
  have hl:s k≠.no:=by
   rcases hk with rfl|⟨o,rfl⟩|⟨_,_,_,rfl⟩
   ·have⟨⟨e,sz,es,q⟩,_⟩:=h;rw[q];simp
   ·exact h.1
   ·exact h.1.1.1
  have e:=dW k hl;exact⟨(hb k hl).symm,rfl,by rw[e];exact id,by rw[e];exact id⟩
theorem QOp.mk{o:Z8}{x:T}(h:∀(a:Act) (w:W') (ok:Nat->Prop) (blk:Nat->Option Nat) (val:Nat->Z3),(∀y,iV w ok blk val s (ev y) (a.eval y))->(∀k,ml w ok blk val s (blk k) (val k) (s k))->
  (∀b,w.heap.size<=b->ok b)->∃v w',(execOp a.eval o).run P w=.ok (.value v) w'/\Ext w w'/\iV w' ok blk val s x v):QOp P w0 n s ev o x:=by
 intro st a w ⟨blk,val,hh⟩ hs hn fq J;have⟨aI,h1,h2,h3⟩:=QOp.core hh hs fq;obtain⟨v,w',h1,hE,h2⟩:=h a w (fN w0 blk) aI val h1 h2 (λb hb=>⟨.inr (XQ hh.ext.size hb),λk hk=>by have:=(hh.new k b hk).2;omega⟩);exact gg h1 ⟨blk,val,(hh.ext' hE).put o.dst x v (λd h=>by rw[hn];exact J d h) (h3 _ _ _ _ h2)⟩
theorem iV.c8{w:W'}{ok:Nat->Prop}{blk:Nat->Option Nat}{val:Nat->Z3}{x v:Z3}(h:iV w ok blk val s (.d (.v x)) v):v=x:=iN.c8 h
theorem aq{y:Z6}{x:T}(h:ev y=x):QOp P w0 n s ev ⟨dst,.move y,ty,pos,after,g⟩ x:=
 .mk λa w ok blk val hy _ qW=>⟨a.eval y,w,rfl,Ext.refl w,h ▸ hy y⟩
theorem aG{y:Z6}{x:T}(h:ev y=x):QOp P w0 n s ev ⟨dst,.assign y,ty,pos,after,g⟩ x:=
 .mk λa w ok blk val hy _ qW=>⟨a.eval y,w,rfl,Ext.refl w,h ▸ hy y⟩
theorem Ux{c y z:Z6}{cb p q:Bool}(hc:ev c=T.bool cb)(hy:ev y=T.bool p)(hz:ev z=T.bool q):QOp P w0 n s ev ⟨dst,.pick c y z,ty,pos,after,g⟩ (T.bool (bif cb then p else q)):=
 .mk λa w ok blk val h _ qW=>by
  have h1:a.eval c=.bool cb:=iV.c8 (hc ▸ h c);have h2:a.eval y=.bool p:=iV.c8 (hy ▸ h y);have h3:a.eval z=.bool q:=iV.c8 (hz ▸ h z);refine⟨.bool (bif cb then p else q),w,?_,Ext.refl w,iN.v _ E⟩;simp only[execOp,h1,h2,h3,asBool]
  cases cb<;>rfl
theorem wi{op:BinOp}{t t':Z5}{x y:Z6}{u v r:Z3}(hx:ev x=.d (.v u))(hy:ev y=.d (.v v))(Y:∀w,(do eqGuard op t x y u v;binOp op t u v:Sem Z3).run P w=.ok r w)(h1:r.oneCell'=true) :
  QOp P w0 n s ev ⟨dst,.binOp op t x y t',ty,pos,after,g⟩ (.d (.v r)):=
 .mk λa w ok blk val h _ qW=>by
  have e1:a.eval x=u:=iV.c8 (hx ▸ h x);have e2:a.eval y=v:=iV.c8 (hy ▸ h y);refine⟨r,w,?_,Ext.refl w,iN.v _ h1⟩;have:=Y w;simp only[execOp,e1,e2,Sem.run_bind]at this ⊢;rw[this];rfl
abbrev T.i(n:Int):T:=.d (.v (.int .i64 n))
theorem UA{t t':Z5}{x y:Z6}{k:IntKind}{a b:Int}(hx:ev x=.d (.v (.int k a)))(hy:ev y=.d (.v (.int k b))):QOp P w0 n s ev ⟨dst,.binOp .add t x y t',ty,pos,after,g⟩ (.d (.v (.int k (k.wrap (a+b))))):=
 wi hx hy (λw=>by simp[eqGuard,binOp,Op.intArith]) E
theorem Uv{t t':Z5}{x y:Z6}{k:IntKind}{a b:Int}(hx:ev x=.d (.v (.int k a)))(hy:ev y=.d (.v (.int k b))):QOp P w0 n s ev ⟨dst,.binOp .sub t x y t',ty,pos,after,g⟩ (.d (.v (.int k (k.wrap (a - b))))):=
 wi hx hy (λw=>by simp[eqGuard,binOp,Op.intArith]) E
theorem Uy{t t':Z5}{x y:Z6}{k:IntKind}{a b:Int}(hx:ev x=.d (.v (.int k a)))(hy:ev y=.d (.v (.int k b))):QOp P w0 n s ev ⟨dst,.binOp .mul t x y t',ty,pos,after,g⟩ (.d (.v (.int k (k.wrap (a*b))))):=
 wi hx hy (λw=>by simp[eqGuard,binOp,Op.intArith]) E
def lL(n:Int):Prop:=-9223372036854775808<=n/\n<=9223372036854775807
theorem lE{t t':Z5}{x y:Z6}{a b:Int}(hx:ev x=T.i a)(hy:ev y=T.i b)(h:lL (a+b)):QOp P w0 n s ev ⟨dst,.binOp .add t x y t',ty,pos,after,g⟩ (T.i (a+b)):=by
 have:=UA (P:=P) (w0:=w0) (n:=n) (s:=s) (dst:=dst) (ty:=ty) (pos:=pos) (after:=after) (g:=g) (t:=t) (t':=t') hx hy;rwa [IntWalk.i64_in _ h]at this
theorem dk{t t':Z5}{x y:Z6}{a b:Int}(hx:ev x=T.i a)(hy:ev y=T.i b)(h:lL (a - b)):QOp P w0 n s ev ⟨dst,.binOp .sub t x y t',ty,pos,after,g⟩ (T.i (a - b)):=by
 have:=Uv (P:=P) (w0:=w0) (n:=n) (s:=s) (dst:=dst) (ty:=ty) (pos:=pos) (after:=after) (g:=g) (t:=t) (t':=t') hx hy;rwa [IntWalk.i64_in _ h]at this
theorem cZ{t t':Z5}{x y:Z6}{a b:Int}(hx:ev x=T.i a)(hy:ev y=T.i b)(h:lL (a*b)):QOp P w0 n s ev ⟨dst,.binOp .mul t x y t',ty,pos,after,g⟩ (T.i (a*b)):=by
 have:=Uy (P:=P) (w0:=w0) (n:=n) (s:=s) (dst:=dst) (ty:=ty) (pos:=pos) (after:=after) (g:=g) (t:=t) (t':=t') hx hy;rwa [IntWalk.i64_in _ h]at this
theorem B5{t t':Z5}{x y:Z6}{a b:Int}(hx:ev x=T.i a)(hy:ev y=T.i b)(hb:b≠0)(h:lL (a.tdiv b)):QOp P w0 n s ev ⟨dst,.binOp .quo t x y t',ty,pos,after,g⟩ (T.i (a.tdiv b)):=
 wi hx hy (λw=>by simp[eqGuard,binOp,Op.intDiv,hb,IntWalk.i64_in _ h]) E
theorem yo{t t':Z5}{x y:Z6}{a b:Int}(hx:ev x=T.i a)(hy:ev y=T.i b)(hb:b≠0):QOp P w0 n s ev ⟨dst,.binOp .rem t x y t',ty,pos,after,g⟩ (T.i (a.tmod b)):=
 wi hx hy (λw=>by simp[eqGuard,binOp,Op.intDiv,hb]) E
variable{t t':Z5}{x y:Z6}{k:IntKind}{a b:Int}(hx:ev x=.d (.v (.int k a)))(hy:ev y=.d (.v (.int k b)))
include hx hy
theorem cM:QOp P w0 n s ev ⟨dst,.binOp .lss t x y t',ty,pos,after,g⟩ (T.bool (decide (a<b))):=wi hx hy (λw=>by simp[eqGuard,binOp,Op.intCmp]) E
theorem iG:QOp P w0 n s ev ⟨dst,.binOp .leq t x y t',ty,pos,after,g⟩ (T.bool (decide (a<=b))):=wi hx hy (λw=>by simp[eqGuard,binOp,Op.intCmp]) E
theorem gM:QOp P w0 n s ev ⟨dst,.binOp .gtr t x y t',ty,pos,after,g⟩ (T.bool (decide (b<a))):=wi hx hy (λw=>by simp[eqGuard,binOp,Op.intCmp]) E
theorem Hj:QOp P w0 n s ev ⟨dst,.binOp .geq t x y t',ty,pos,after,g⟩ (T.bool (decide (b<=a))):=wi hx hy (λw=>by simp[eqGuard,binOp,Op.intCmp]) E
theorem fG:QOp P w0 n s ev ⟨dst,.binOp .eql t x y t',ty,pos,after,g⟩ (T.bool (decide (a=b))):=wi hx hy (λw=>by
 have:(a==b)=decide (a=b):=by rw[Bool.eq_iff_iff];simp
 simp[eqGuard,binOp,Op.intCmp,this]) E
theorem bS:QOp P w0 n s ev ⟨dst,.binOp .neq t x y t',ty,pos,after,g⟩ (T.bool (decide (a≠b))):=wi hx hy (λw=>by
 have:(a != b)=decide (a≠b):=by rw[Bool.eq_iff_iff];simp
 simp[eqGuard,binOp,Op.intCmp,this]) E
end
section
variable{P:Z4}{w0:Cx}{n:Nat}{s:Nat->aH}{ev:Z6->T}{dst:Option Tmp}{ty:Z5}{pos:String}{after:Array Edge}{g:Option (Nat × Bool)}
theorem aZ4(x y:ByteArray):(x.toList==y.toList)=decide (x=y):=by
 rw[Bool.eq_iff_iff];simp only[beq_iff_eq,XW];constructor
 ·intro h
  have h2:x.data.toList=y.data.toList:=by rw[<-ByteArray.toList_eq,<-ByteArray.toList_eq];exact h
  cases x;cases y
  simp only[ByteArray.mk.injEq];exact Array.toList_inj.1 h2
 ·intro h;rw[h]
theorem aM1{t t':Z5}{x y:Z6}{a b:ByteArray}(hx:ev x=.d (.v (.string a)))(hy:ev y=.d (.v (.string b))):QOp P w0 n s ev ⟨dst,.binOp .eql t x y t',ty,pos,after,g⟩ (T.bool (decide (a=b))):=
 wi hx hy (λw=>by simp[eqGuard,binOp,Op.stringOp,aZ4]) E
theorem ad5{op:UnOp}{t:Z5}{x:Z6}{u r:Z3}(hx:ev x=.d (.v u))(Y:∀w,(Op.unary op u).run P w=.ok r w)(h1:r.oneCell'=true) :
  QOp P w0 n s ev ⟨dst,.unOp op t x,ty,pos,after,g⟩ (.d (.v r)):=
 .mk λa w ok blk val h _ qW=>by
  have e1:a.eval x=u:=iV.c8 (hx ▸ h x);refine⟨r,w,?_,Ext.refl w,iN.v _ h1⟩;simp only[execOp,e1,Sem.run_bind,Y w];rfl
theorem bX{t:Z5}{x:Z6}{b:Bool}(hx:ev x=T.bool b):QOp P w0 n s ev ⟨dst,.unOp .not t x,ty,pos,after,g⟩ (T.bool (!b)):=ad5 hx (λw=>rfl) E
theorem tw{t:Z5}{x:Z6}{a:Int}(hx:ev x=T.i a)(h:lL (-a)):QOp P w0 n s ev ⟨dst,.unOp .neg t x,ty,pos,after,g⟩ (T.i (-a)):=
 ad5 hx (λw=>by simp[Op.unary,Op.intArith,IntWalk.i64_in _ h]) E
theorem bO{t:Z5}{i:TypeInfo}(h:P.info? t=some i)(w:W'):(typeInfo t).run P w=.ok i w:=by
 simp[typeInfo,h]
def szB(P:Z4)(t:Z5)(agg:Bool)(m:Nat):Bool:=
 (match P.underlying t with|some (.struct _)|some (.array _ _)=>agg|some _=>!agg|none=>false)&&(match P.info? t with|some i=>i.size==m|none=>false)
theorem gn{t:Z5}{agg:Bool}{m:Nat}(h:szB P t agg m=true)(w:W'):(isAgg t).run P w=.ok agg w:=by
 simp only[szB,Xs]at h
 cases hu:P.underlying t with
 | none=>simp[hu]at h
 | some d=>cases d<;>simp[hu]at h<;>simp[isAgg,run_underlying hu,h.1]
theorem ju{t:Z5}{agg:Bool}{m:Nat}(h:szB P t agg m=true)(w:W'):(sizeOf t).run P w=.ok m w:=by
 simp only[szB,Xs]at h
 cases hu:P.info? t with
 | none=>simp[hu]at h
 | some d=>simp[hu]at h;simp[sizeOf,typeInfo,hu,h.2]
theorem ei(b o k:Nat):(⟨b,o,none⟩:Addr).add k=⟨b,o+k,none⟩:=by
 unfold Addr.add;split
 ·subst_vars;rfl
 ·rfl
theorem py{w:W'}{ok:Nat->Prop}{cs:List D}{o:Nat}{v:Z3}(h:iN w ok (.pt cs o) v):∃(b off:Nat) (vs:Nat->Z3),v=.pointer (some ⟨b,off+o,none⟩)/\b<w.heap.size/\ok b/\(∀(j:Nat) (d:D),cs[j]?=some d->d.sc=true)/\
  (∀(j:Nat) (d:D),cs[j]?=some d->w.cell? ⟨b,off+j,none⟩=some (vs j))/\∀(j:Nat) (d:D),cs[j]?=some d->iN w ok d (vs j):=by
 generalize J:D.pt cs o=x at h
 cases h with
 | pt cs o b off vs hb bg hs hc Y=>
 cases J
 exact⟨b,off,vs,rfl,hb,bg,hs,hc,Y⟩
 | _=>cases J
theorem kO{w:W'}{ok:Nat->Prop}{sz:Nat}{es:List (List D)}{v:Z3}(h:iN w ok (.sl sz es) v):∃A cap,v=.slice A es.length cap/\es.length<=cap/\cap<=maxLen/\(∀(i:Nat) (e:List D),es[i]?=some e->e.length=sz)/\(∀(i:Nat) (e:List D) (j:Nat) (d:D),es[i]?=some e->e[j]?=some d->d.sc=true)/\
  (es=[]\/∃(b off:Nat) (vs:Nat->Nat->Z3),A=some ⟨b,off,none⟩/\b<w.heap.size/\ok b/\
  (∀(i:Nat) (e:List D) (j:Nat) (d:D),es[i]?=some e->e[j]?=some d->w.cell? ⟨b,off+i*sz+j,none⟩=some (vs i j))/\∀(i:Nat) (e:List D) (j:Nat) (d:D),es[i]?=some e->e[j]?=some d->iN w ok d (vs i j)):=by
 generalize J:D.sl sz es=x at h
 cases h with
 | emp sz A cap h=>
  cases J
  exact⟨A,cap,rfl,XC _,h,λi e h=>by simp at h,λi e j d h=>by simp at h,.inl E⟩
 | sl sz es b off cap vs hb bg hn ez eQ hs hc Y=>
  cases J
  exact⟨some ⟨b,off,none⟩,cap,rfl,hn,ez,eQ,hs,.inr ⟨b,off,vs,rfl,hb,bg,hc,Y⟩⟩
 | _=>cases J
theorem aj{t:Z5}{y:Z6}{m:Nat}{cs:List D}{o:Nat}{d:D}(ht:szB P t false m=true)(hy:ev y=.d (.pt cs o))(J:cs[o]?=some d):QOp P w0 n s ev ⟨dst,.load t y,ty,pos,after,g⟩ (.d d):=
 .mk λa w ok blk val h _ qW=>by
  obtain⟨b,off,vs,hv,_,_,hs,hc,Y⟩:=py (show iN w _ (.pt cs o) (a.eval y) by have:=h y;rw[hy]at this;exact this);refine⟨vs o,w,?_,Ext.refl w,Y o d J⟩;simp[execOp,hv,Instr.loadAt,Instr.sureAddr,loadVar,gn ht,hc o d J]
theorem ax{t:Z5}{y:Z6}{m:Nat}{cs ds:List D}{o:Nat}(ht:szB P t true m=true)(hy:ev y=.d (.pt cs o))(J:(cs.drop o).take m=ds)(hl:ds.length=m):QOp P w0 n s ev ⟨dst,.load t y,ty,pos,after,g⟩ (.d (.agg ds)):=
 .mk λa w ok blk val h _ qW=>by
  obtain⟨b,off,vs,hv,_,_,hs,hc,Y⟩:=py (show iN w _ (.pt cs o) (a.eval y) by have:=h y;rw[hy]at this;exact this);subst J
  have na:∀(j:Nat) (d:D),((cs.drop o).take m)[j]?=some d->cs[o+j]?=some d:=λj d hj=>by
   rw[Yq]at hj
   split at hj
   ·simpa [Yk] using hj
   ·cases hj
  have hj:∀j,j<m->∃d,((cs.drop o).take m)[j]?=some d:=λj hj=>⟨_,Xp (by omega)⟩
  have bR:=run_loadCells (P:=P) w ⟨b,off+o,none⟩ m (λj=>vs (o+j)) (λj J6=>by
   obtain⟨d,J⟩:=hj j J6
   rw[ei,YZ];exact hc _ d (na j d J))
  refine⟨.agg ((List.range m).map λj=>vs (o+j)).toArray,w,?_,Ext.refl w,?_⟩
  ·simp[execOp,hv,Instr.loadAt,Instr.sureAddr,loadVar,gn ht,ju ht,bR]
  ·refine iN.agg _ _ (by simpa using hl.symm) (λj d J=>hs _ d (na j d J)) λj d v J hv=>?_
   have J6:j<m:=by have:=(Xt.1 hv).1;simpa using this
   simp[J6]at hv;subst hv;exact Y _ d (na j d J)
def fldB(P:Z4)(t:Z5)(f off:Nat):Bool:=
 match P.underlying t with
 | some (.struct fs)=>match fs[f]? with
  | some fd=>fd.offset==off&&(match P.info? fd.type with|some i=>i.size != 0|none=>false)
  | none=>false
 | _=>false
theorem tt{t:Z5}{f off b o:Nat}(h:fldB P t f off=true)(w:W'):(Instr.fieldAt t (.pointer (some ⟨b,o,none⟩)) f).run P w=.ok (.pointer (some ⟨b,o+off,none⟩)) w:=by
 unfold fldB at h
 cases hu:P.underlying t with
 | none=>simp[hu]at h
 | some d=>
  cases d<;>simp only[hu,XO]at h
  rename_i fs
  cases hf:fs[f]? with
  | none=>simp[hf]at h
  | some fd=>
   simp only[hf,Xs,beq_iff_eq]at h
   cases hi:P.info? fd.type with
   | none=>simp[hi]at h
   | some i=>
    simp only[hi,bne_iff_ne,Xv]at h;simp[Instr.fieldAt,run_underlying hu,hf,Instr.sureAddr,fieldPlace,sizeOf,bO hi,h.2,h.1,ei]
theorem af{t:Z5}{y:Z6}{f off o:Nat}{cs:List D}(ht:fldB P t f off=true)(hy:ev y=.d (.pt cs o)):QOp P w0 n s ev ⟨dst,.fieldAddr t y f,ty,pos,after,g⟩ (.d (.pt cs (o+off))):=
 .mk λa w ok blk val h _ qW=>by
  obtain⟨b,of,vs,hv,hb,bg,hs,hc,Y⟩:=py (show iN w _ (.pt cs o) (a.eval y) by have:=h y;rw[hy]at this;exact this);refine⟨.pointer (some ⟨b,of+(o+off),none⟩),w,?_,Ext.refl w,iN.pt cs _ b of vs hb bg hs hc Y⟩;simp[execOp,hv,tt ht,YZ]
theorem aC{t:Z5}{y:Z6}{f off o k:Nat}(ht:fldB P t f off=true)(hy:ev y=.ref k o):QOp P w0 n s ev ⟨dst,.fieldAddr t y f,ty,pos,after,g⟩ (.ref k (o+off)):=
 .mk λa w ok blk val h _ qW=>by
  have:=h y;rw[hy]at this;have⟨hk,b,hb,hv⟩:=this;refine⟨.pointer (some ⟨b,o+off,none⟩),w,?_,Ext.refl w,⟨hk,b,hb,rfl⟩⟩;simp[execOp,hv,tt ht]
def slB(P:Z4)(t e sz:Nat):Bool:=(match P.underlying t with|some (.slice e')=>e'==e|_=>false)&&(match P.info? e with|some i=>i.size==sz|none=>false)
theorem cJ{t e sz:Nat}(h:slB P t e sz=true):P.underlying t=some (.slice e):=by
 simp only[slB,Xs]at h
 cases hu:P.underlying t with
 | none=>simp[hu]at h
 | some d=>cases d<;>simp[hu]at h<;>rw[h.1]
theorem gj{t e sz:Nat}(h:slB P t e sz=true):∃i,P.info? e=some i/\i.size=sz:=by
 simp only[slB,Xs]at h
 cases hu:P.info? e with
 | none=>simp[hu]at h
 | some d=>simp[hu]at h;exact⟨d,rfl,h.2⟩
theorem mS{t e sz b o len cap:Nat}{i:Int}{k:IntKind}(h:slB P t e sz=true)(h0:0<=i)(h1:i<len)(w:W') :
  (Instr.indexAt t (.slice (some ⟨b,o,none⟩) len cap) (.int k i)).run P w=.ok (.pointer (some ⟨b,o+i.toNat*sz,none⟩)) w:=by
 have⟨inf,hi,hs⟩:=gj h;simp[Instr.indexAt,asIntOf,run_underlying (cJ h),h0,h1,sizeOf,bO hi,hs,ei]
theorem aJ{t:Z5}{y z:Z6}{e sz:Nat}{es:List (List D)}{k:IntKind}{i:Int}{x:List D}(ht:slB P t e sz=true)(hy:ev y=.d (.sl sz es))(hz:ev z=.d (.v (.int k i)))(h0:0<=i)(hx:es[i.toNat]?=some x) :
  QOp P w0 n s ev ⟨dst,.indexAddr t y z,ty,pos,after,g⟩ (.d (.pt x 0)):=
 .mk λa w ok blk val h _ qW=>by
  obtain⟨A,cap,hv,hn,ez,eQ,hs,vK⟩:=kO (show iN w _ (.sl sz es) (a.eval y) by have:=h y;rw[hy]at this;exact this);have hi:i.toNat<es.length:=(Xt.1 hx).1;rcases vK with rfl|⟨b,off,vs,rfl,hb,bg,hc,Y⟩
  ·simp at hi
  have hzv:a.eval z=.int k i:=iV.c8 (hz ▸ h z);refine⟨.pointer (some ⟨b,off+i.toNat*sz+0,none⟩),w,?_,Ext.refl w,iN.pt x 0 b (off+i.toNat*sz) (λj=>vs i.toNat j) hb bg (λj d J=>hs _ _ j d hx J) (λj d J=>hc _ _ j d hx J) (λj d J=>Y _ _ j d hx J)⟩;simp[execOp,hv,hzv,mS ht h0 (show i<(es.length:Int) by omega)]
def PC(P:Z4)(f:ϋ)(args:List D)(r:D):Prop:=
 ∀(w:W') (ok:Nat->Prop) (vs:List Z3),oq w ok args vs->Calls P f vs.toArray w λe w'=>∃v,e=.returned v/\Ext w w'/\iN w' (λb=>ok b\/w.heap.size<=b) r v
def PCG(P:Z4)(G:W'->Prop)(f:ϋ)(args:List D)(r:D):Prop:=
 ∀(w:W') (ok:Nat->Prop) (vs:List Z3),G w->oq w ok args vs->Calls P f vs.toArray w λe w'=>∃v,e=.returned v/\Ext w w'/\iN w' (λb=>ok b\/w.heap.size<=b) r v
end
theorem PC.g{P:Z4}{G:W'->Prop}{f:ϋ}{args:List D}{r:D}(h:PC P f args r):PCG P G f args r:=λw ok vs _ hL=>h w ok vs hL
def at2(G:W'->Prop):Prop:=∀w w',G w->Ext w w'->G w'
inductive TJ:D->D->Prop
 | same (d:D):TJ d d
 | nil (sz:Nat):TJ (.v (.slice none 0 0)) (.sl sz [])
inductive Bb:List D->List D->Prop
 | nil:Bb [] []
 | cons {d d':D} {ds Pg:List D} (h:TJ d d') (hs:Bb ds Pg):Bb (d::ds) (d'::Pg)
theorem TJ.rep{w:W'}{ok:Nat->Prop}{d d':D}{v:Z3}(h:TJ d d')(Y:iN w ok d v):iN w ok d' v:=by
 cases h with
 | same=>exact Y
 | nil sz=>rw[iN.c8 Y];exact .emp _ _ _ (XC _)
theorem TJ.sc{d d':D}(h:TJ d d'):d'.sc=d.sc:=by cases h<;>rfl
theorem Bb.at_:∀{xs ys:List D},Bb xs ys->xs.length=ys.length/\∀(j:Nat) (d':D),ys[j]?=some d'->∃d,xs[j]?=some d/\TJ d d'
 | _,_,.nil=>⟨rfl,λj d' h=>by simp at h⟩
 | _,_,.cons h hs=>by
  have⟨e,k⟩:=hs.at_;refine⟨by simp[e],λj d' hj=>?_⟩
  cases j with
  | zero=>simp at hj;subst hj;exact⟨_,rfl,h⟩
  | succ j=>exact k j d' (by simpa using hj)
theorem iN.TU{w:W'}{ok:Nat->Prop}{xs ys:List D}{v:Z3}(Y:iN w ok (.agg xs) v)(h:Bb xs ys):iN w ok (.agg ys) v:=by
 have⟨el,ea⟩:=h.at_;generalize J:D.agg xs=d at Y
 cases Y<;>cases J
 rename_i vs hl hs Y;refine .agg ys vs (hl.trans el) (λj d hj=>?_) (λj d v hj hv=>?_)
 ·have⟨c,hc,hcu⟩:=ea j d hj
  rw[hcu.sc];exact hs j c hc
 ·have⟨c,hc,hcu⟩:=ea j d hj
  exact hcu.rep (Y j c v hc hv)
inductive Wr(s:Nat->aH):T->D->Prop
 | d (x:D) (h:x.sc=true):Wr s (.d x) x
 | rs {k e sz:Nat} {es:List (List D)} (h:s k=.row e sz es):Wr s (.rs k) (.sl sz es)
inductive Wq(s:Nat->aH):List T->List D->Prop
 | nil:Wq s [] []
 | cons {x:T} {xs:List T} {d:D} {ds:List D} (h:Wr s x d) (hs:Wq s xs ds):Wq s (x::xs) (d::ds)
theorem Wq.at_{s:Nat->aH}:∀{xs:List T} {ds:List D},Wq s xs ds->xs.length=ds.length/\∀(j:Nat) (d:D),ds[j]?=some d->∃x,xs[j]?=some x/\Wr s x d
 | _,_,.nil=>⟨rfl,λj d h=>by simp at h⟩
 | _,_,.cons h hs=>by
  have⟨h1,h2⟩:=hs.at_;refine⟨by simp[h1],λj d J=>?_⟩
  cases j with
  | zero=>simp at J;subst J;exact⟨_,rfl,h⟩
  | succ j=>obtain⟨x,hx,hc⟩:=h2 j d (by simpa using J);exact⟨x,by simpa using hx,hc⟩
theorem Wr.sc{s:Nat->aH}{x:T}{d:D}(h:Wr s x d):d.sc=true:=by cases h<;>first|assumption|rfl
inductive UF(s:Nat->aH):T->D->Prop
 | d (x:D):UF s (.d x) x
 | nil (sz:Nat):UF s (.d (.v (.slice none 0 0))) (.sl sz [])
 | rs {k e sz:Nat} {es:List (List D)} (h:s k=.row e sz es):UF s (.rs k) (.sl sz es)
 | up {xs ys:List D} (h:Bb xs ys):UF s (.d (.agg xs)) (.agg ys)
 | ref {k o:Nat} {cs:List D} (h:s k=.box cs):UF s (.ref k o) (.pt cs o)
 | at8 {k o:Nat} {cs:List T} {ds:List D} (h:s k=.cn cs) (hc:Wq s cs ds):UF s (.ref k o) (.pt ds o)
inductive Ek(ev:Z6->T)(s:Nat->aH):List Z6->List D->Prop
 | nil:Ek ev s [] []
 | cons {y:Z6} {ys:List Z6} {x:D} {xs:List D} (h:UF s (ev y) x) (hs:Ek ev s ys xs):Ek ev s (y::ys) (x::xs)
inductive lM(ev:Z6->T):List Z6->List D->Prop
 | nil:lM ev [] []
 | cons {y:Z6} {ys:List Z6} {x:D} {xs:List D} (h:ev y=.d x) (hs:lM ev ys xs):lM ev (y::ys) (x::xs)
 | ar9 {y:Z6} {ys:List Z6} {xs:List D} (sz:Nat) (h:ev y=.d (.v (.slice none 0 0))) (hs:lM ev ys xs):lM ev (y::ys) (.sl sz []::xs)
def kH:List D->Prop
 | []=>True
 | d::ds=>d.Flat/\kH ds
theorem kH.mem:∀{ds:List D},kH ds->∀d∈ds,d.Flat
 | [],_,d,h=>by cases h
 | x::xs,h,d,J=>by
  rcases Xy.1 J with rfl|h'
  ·exact h.1
  ·exact kH.mem h.2 d h'
section
variable{P:Z4}{w0:Cx}{n:Nat}{s:Nat->aH}{ev:Z6->T}{dst:Option Tmp}{ty:Z5}{pos:String}{after:Array Edge}{g:Option (Nat × Bool)}
theorem cell_of_block{w:W'}{b j:Nat}{aK:Array Z3}{e:Z5}{fr:Nat × Nat}(h:w.heap[b]?=some (.cells aK e fr)):w.cell? ⟨b,j,none⟩=aK[j]?:=by
 simp[World.cell?,h]
theorem cO{aK:Array Z3}{j:Nat}{v:Z3}(h:aK[j]?=some v):aK.getD j undef=v:=by
 simp[h]
theorem iN.asC{w:W'}{blk:Nat->Option Nat}{val:Nat->Z3}{ok ok':Nat->Prop}{x:T}{d:D}{v:Z3}(hx:iV w ok blk val s x v)(hs:∀k,ml w ok blk val s (blk k) (val k) (s k))(h:Wr s x d)(bg:∀b,ok b->ok' b)(hb:∀k b,blk k=some b->ok' b):iN w ok' d v:=by
 cases h with
 | d x _=>exact iN.ok (hx:iN w _ _ v) λ_ _ h=>bg _ h
 | rs hk=>
  rename_i k e sz es;have⟨_,hv⟩:=hx;have h1:=hs k;rw[hk]at h1;have⟨a1,a2,a3⟩:=h1;rcases a3 with ⟨_,he,dD⟩|⟨b,aK,cap,bY,dD,hn,ez,hh,eQ,hc⟩
  ·rw[hv,dD,he];exact .emp sz none 0 (XC _)
  ·rw[hv,dD]
   exact .sl sz es b 0 cap (λi j=>aK.getD (i*sz+j) undef) (bI hh) (hb k b bY) hn ez a1 a2 (λi x j d hi hj=>by
    obtain⟨v,hv,_⟩:=hc i x j d hi hj;rw[cell_of_block hh,XK,hv,cO hv]) (λi x j d hi hj=>by
    obtain⟨v,hv,Y⟩:=hc i x j d hi hj
    rw[cO hv];exact Y.ok λ_ _ h=>bg _ h)
theorem iN.as'{w:W'}{blk:Nat->Option Nat}{val:Nat->Z3}{ok ok':Nat->Prop}{x:T}{d:D}{v:Z3}(hx:iV w ok blk val s x v)(hs:∀k,ml w ok blk val s (blk k) (val k) (s k))(h:UF s x d)(bg:∀b,ok b->ok' b)(hb:∀k b,blk k=some b->ok' b):iN w ok' d v:=by
 cases h with
 | d x=>exact iN.ok (hx:iN w _ _ v) λ_ _ h=>bg _ h
 | nil sz=>
  have:=iN.c8 (hx:iN w _ (.v _) v);subst this;exact .emp sz none 0 (XC _)
 | up h=>exact iN.TU (iN.ok (hx:iN w _ _ v) λ_ _ h=>bg _ h) h
 | rs hk=>
  rename_i k e sz es;have⟨_,hv⟩:=hx;have h1:=hs k;rw[hk]at h1;have⟨a1,a2,a3⟩:=h1;rcases a3 with ⟨_,he,dD⟩|⟨b,aK,cap,bY,dD,hn,ez,hh,eQ,hc⟩
  ·rw[hv,dD,he];exact .emp sz none 0 (XC _)
  ·rw[hv,dD]
   exact .sl sz es b 0 cap (λi j=>aK.getD (i*sz+j) undef) (bI hh) (hb k b bY) hn ez a1 a2 (λi x j d hi hj=>by
    obtain⟨v,hv,_⟩:=hc i x j d hi hj;rw[cell_of_block hh,XK,hv,cO hv]) (λi x j d hi hj=>by
    obtain⟨v,hv,Y⟩:=hc i x j d hi hj
    rw[cO hv];exact Y.ok λ_ _ h=>bg _ h)
 | at8 hk hc=>
  rename_i k o cs ds;have⟨_,b,bY,hv⟩:=hx;have h1:=hs k;rw[hk]at h1;have⟨b',e,aK,Nl,hh,eQ,tE⟩:=h1;rw[bY]at Nl;cases Nl
  rw[hv];have⟨_,kY⟩:=hc.at_
  have:=iN.pt (ok:=ok') ds o b 0 (λj=>aK.getD j undef) (bI hh) (hb k b bY) (λj d J=>by have⟨x,_,h⟩:=kY j d J;exact h.sc) (λj d J=>by
   have⟨x,hx,_⟩:=kY j d J;obtain⟨v,hv,_⟩:=tE j x hx;rw[cell_of_block hh,XK,hv,cO hv]) (λj d J=>by
   have⟨x,hx,hxd⟩:=kY j d J;obtain⟨v,hv,_,Y⟩:=tE j x hx
   rw[cO hv];exact iN.asC Y hs hxd bg hb)
  simpa using this
 | ref hk=>
  rename_i k o cs;have⟨_,b,bY,hv⟩:=hx;have h1:=hs k;rw[hk]at h1;have⟨b',e,aK,Nl,hh,eQ,jO,hc⟩:=h1;rw[bY]at Nl;cases Nl
  rw[hv]
  have:=iN.pt (ok:=ok') cs o b 0 (λj=>aK.getD j undef) (bI hh) (hb k b bY) jO (λj d J=>by
   obtain⟨v,hv,_⟩:=hc j d J;rw[cell_of_block hh,XK,hv,cO hv]) (λj d J=>by
   obtain⟨v,hv,Y⟩:=hc j d J
   rw[cO hv];exact Y.ok λ_ _ h=>bg _ h)
  simpa using this
theorem iN.as{w:W'}{blk:Nat->Option Nat}{val:Nat->Z3}{ok:Nat->Prop}{x:T}{d:D}{v:Z3}(hx:iV w ok blk val s x v)(hs:∀k,ml w ok blk val s (blk k) (val k) (s k))(h:UF s x d):iN w (λ_=>True) d v:=
 iN.as' hx hs h (λ_ _=>trivial) (λ_ _ _=>trivial)
def cA(P:Z4)(f:ϋ):Bool:=match P.funcs[f]? with|some fn=>fn.name != "runtime.NumGoroutine" && fn.body.isSome|none=>false
theorem lU{f:ϋ}(h:cA P f=true)(args:Array Z3)(w:W'):(callFunc f args).run P w=.ok (.enter f args) w:=by
 unfold cA at h
 cases hf:P.funcs[f]? with
 | none=>simp[hf]at h
 | some fn=>
  simp only[hf,Xs,bne_iff_ne,Xv]at h;have⟨h1,h2⟩:=h;have hb:∃c,fn.body=some c:=YM.1 h2;have⟨c,hc⟩:=hb;simp[callFunc,hf,h1,hc]
theorem oW{o:Z8}{a:Act}{w:W'}{fv:Z6}{args:Array Z6}{at_:Array Z5}{f:ϋ}{cap:Array Z3}(ho:o.op=.call ⟨.value fv,args,at_⟩)(hf:a.eval fv=.func (.func f) #[] cap)(h:cA P f=true) :
  (execOp a.eval o).run P w=.ok (.enter f (args.map a.eval++cap)) w:=by
 simp[execOp,ho,resolve,hf,Deferred.ofValue,invoke,lU h]
theorem iO{a:Act}{w:W'}{blk:Nat->Option Nat}{val:Nat->Z3}{ok:Nat->Prop}(hy:∀y,iV w ok blk val s (ev y) (a.eval y)):∀{ys:List Z6} {ds:List D},lM ev ys ds->oq w ok ds (ys.map a.eval)
 | _,_,.nil=>trivial
 | _,_,.cons (y:=y) h hs=>⟨by have:=hy y;rw[h]at this;exact this,iO hy hs⟩
 | _, _, .ar9 (y := y) sz h hs => ⟨by
  have:=hy y;rw[h]at this;rw[iN.c8 (this:iN w _ (.v _) _)]
  exact .emp sz none 0 (XC _),iO hy hs⟩
theorem y7{a:Act}{w:W'}{blk:Nat->Option Nat}{val:Nat->Z3}{ok:Nat->Prop}(hy:∀y,iV w ok blk val s (ev y) (a.eval y))(hs:∀k,ml w ok blk val s (blk k) (val k) (s k)):∀{ys:List Z6} {ds:List D},Ek ev s ys ds->oq w (λ_=>True) ds (ys.map a.eval)
 | _,_,.nil=>trivial
 | _,_,.cons (y:=y) h h'=>⟨iN.as (hy y) hs h,y7 hy hs h'⟩
theorem oq.append{w:W'}{ok:Nat->Prop}:∀{ds:List D} {vs:List Z3} {Pg:List D} {vs':List Z3},oq w ok ds vs->oq w ok Pg vs'->oq w ok (ds++Pg) (vs++vs')
 | [],[],_,_,_,h=>h
 | _::_,_::_,_,_,h,h'=>⟨h.1,h.2.append h'⟩
 | [],_::_,_,_,h,_=>h.elim
 | _::_,[],_,_,h,_=>h.elim
theorem oq.length{w:W'}{ok:Nat->Prop}:∀{ds:List D} {vs:List Z3},oq w ok ds vs->vs.length=ds.length
 | [],[],_=>rfl
 | _::_,_::_,h=>by simp[h.2.length]
 | [],_::_,h=>h.elim
 | _::_,[],h=>h.elim
theorem oq.of{w:W'}{ok:Nat->Prop}:∀{ds:List D} {vs:List Z3},vs.length=ds.length->(∀(j:Nat) (d:D) (v:Z3),ds[j]?=some d->vs[j]?=some v->iN w ok d v)->oq w ok ds vs
 | [],[],_,_=>trivial
 | d::ds,v::vs,hl,h=>⟨h 0 d v E E,oq.of (by simpa using hl) λj d v h1 h2=>h (j+1) d v (by simpa using h1) (by simpa using h2)⟩
 | [],_::_,h,_=>by simp at h
 | _::_,[],h,_=>by simp at h
theorem oq.get{w:W'}{ok:Nat->Prop}:∀{ds:List D} {vs:List Z3},oq w ok ds vs->∀(j:Nat) (d:D) (v:Z3),ds[j]?=some d->vs[j]?=some v->iN w ok d v
 | [],[],_,j,_,_,h,_=>by simp at h
 | _::_,_::_,h,0,d,v,h1,h2=>by simp at h1 h2;subst h1;subst h2;exact h.1
 | _::_,_::_,h,j+1,d,v,h1,h2=>h.2.get j d v (by simpa using h1) (by simpa using h2)
 | [],_::_,h,_,_,_,_,_=>h.elim
 | _::_,[],h,_,_,_,_,_=>h.elim
theorem FY{w:W'}{ok:Nat->Prop}{f:Fn}{cap:List D}{v:Z3}(h:iN w ok (.fn f cap) v):∃vs:List Z3,v=.func f #[] vs.toArray/\oq w ok cap vs:=by
 generalize J:D.fn f cap=x at h
 cases h with
 | fn f cap vs hl Y=>cases J;exact⟨vs,rfl,oq.of hl Y⟩
 | _=>cases J
theorem Lt{G:W'->Prop}(hG:∀w,Oy w0 w->G w){fv:Z6}{ys:List Z6}{at_:Array Z5}{f:ϋ}{cap ds:List D}{r:D}(hf:ev fv=.d (.fn (.func f) cap))(he:cA P f=true)(Y:PCG P G f (ds++cap) r)
  (bg:∀(a:Act) (w:W') (vu:Nat->Prop) (blk:Nat->Option Nat) (val:Nat->Z3),(∀y,iV w vu blk val s (ev y) (a.eval y))->(∀k,ml w vu blk val s (blk k) (val k) (s k))->∃ok:Nat->Prop,oq w ok ds (ys.map a.eval)/\(∀b,b<w.heap.size->vu b->ok b)/\((∀b,ok b->vu b)\/r.Flat)) :
  QOp P w0 n s ev ⟨dst,.call ⟨.value fv,ys.toArray,at_⟩,ty,pos,after,g⟩ (.d r):=by
 intro st a w ⟨blk,val,hh⟩ hs hn fq J;have⟨aI,hy,eT,_⟩:=QOp.core hh hs fq;have⟨ok,kB,aj3,sL⟩:=bg a w (fN w0 blk) aI val hy eT;obtain⟨vs,hv,ez⟩:=FY (show iN w _ (.fn (.func f) cap) (a.eval fv) by have:=hy fv;rw[hf]at this;exact this);have ak2:oq w ok cap vs:=oq.of ez.length λj d v h1 h2=>(ez.get j d v h1 h2).ok aj3;refine gO (λc hc=>by cases hc) ?_;unfold Oper.wp;rw[oW E hv he];have hc:=Y w ok (ys.map a.eval++vs) (hG w hh.ext) (kB.append ak2);have jF:((ys.map a.eval++vs).toArray:Array Z3)=ys.toArray.map a.eval++vs.toArray:=by simp
 rw[jF]at hc;refine hc.mono ?_;rintro e w' ⟨v,rfl,hE,hR⟩;refine⟨blk,val,(hh.ext' hE).put dst (.d r) v (λd h=>by rw[hn];exact J d h) ?_⟩;rcases sL with h1|h1
 ·refine iN.ok hR λb _ hb=>?_
  rcases hb with hb|hb
  ·exact h1 b hb
  ·exact⟨.inr (XQ hh.ext.size hb),λk hk=>by have:=(hh.new k b hk).2;omega⟩
 ·exact iN.flat hR h1
theorem zQ{fv:Z6}{ys:List Z6}{at_:Array Z5}{f:ϋ}{cap ds:List D}{r:D}(hf:ev fv=.d (.fn (.func f) cap))(he:cA P f=true)(Y:PC P f (ds++cap) r)
  (bg:∀(a:Act) (w:W') (vu:Nat->Prop) (blk:Nat->Option Nat) (val:Nat->Z3),(∀y,iV w vu blk val s (ev y) (a.eval y))->(∀k,ml w vu blk val s (blk k) (val k) (s k))->∃ok:Nat->Prop,oq w ok ds (ys.map a.eval)/\(∀b,b<w.heap.size->vu b->ok b)/\((∀b,ok b->vu b)\/r.Flat)) :
  QOp P w0 n s ev ⟨dst,.call ⟨.value fv,ys.toArray,at_⟩,ty,pos,after,g⟩ (.d r):=
 Lt (G:=λ_=>True) (λ_ _=>trivial) hf he Y.g bg
theorem ak{f:ϋ}{ys:List Z6}{at_:Array Z5}{ds:List D}{r:D}(he:cA P f=true)(ha:lM ev ys ds)(fq:ev (.func f)=.d (.fn (.func f) []))(Y:PC P f ds r) :
  QOp P w0 n s ev ⟨dst,.call ⟨.value (.func f),ys.toArray,at_⟩,ty,pos,after,g⟩ (.d r):=
 zQ (cap:=[]) (ds:=ds) fq he (by simpa using Y) λa w vu blk val hy _=>⟨vu,iO hy ha,λ_ _ h=>h,.inl λ_ h=>h⟩
theorem Qi{f:ϋ}{ys:List Z6}{at_:Array Z5}{ds:List D}{r:D}(he:cA P f=true)(ha:Ek ev s ys ds)(fq:ev (.func f)=.d (.fn (.func f) []))(Y:PC P f ds r)(hf:r.Flat) :
  QOp P w0 n s ev ⟨dst,.call ⟨.value (.func f),ys.toArray,at_⟩,ty,pos,after,g⟩ (.d r):=
 zQ (cap:=[]) (ds:=ds) fq he (by simpa using Y) λa w vu blk val hy hs=>⟨λ_=>True,y7 hy hs ha,λ_ _ _=>trivial,.inr hf⟩
theorem Hk{fv:Z6}{f:ϋ}{ys:List Z6}{at_:Array Z5}{cap ds:List D}{r:D}(he:cA P f=true)(fq:ev fv=.d (.fn (.func f) cap))(ha:lM ev ys ds)(Y:PC P f (ds++cap) r) :
  QOp P w0 n s ev ⟨dst,.call ⟨.value fv,ys.toArray,at_⟩,ty,pos,after,g⟩ (.d r):=
 zQ fq he Y λa w vu blk val hy _=>⟨vu,iO hy ha,λ_ _ h=>h,.inl λ_ h=>h⟩
theorem fj(w:W')(o:Obj):(w.alloc o).heap[w.heap.size]?=some o:=heap_alloc_new w o
theorem Pw{w:W'}{ok:Nat->Prop}{cs:List D}{v:Z3}(h:iN w ok (.da cs) v):∃vs:List Z3,v=.tuple vs.toArray/\oq w ok cs vs:=by
 generalize J:D.da cs=x at h
 cases h with
 | da cs vs hl Y=>cases J;exact⟨vs,rfl,oq.of hl Y⟩
 | _=>cases J
theorem oD{w:W'}{ok:Nat->Prop}{cs:List D}{v:Z3}(h:iN w ok (.agg cs) v):∃vs:List Z3,v=.agg vs.toArray/\oq w ok cs vs/\∀(j:Nat) (d:D),cs[j]?=some d->d.sc=true:=by
 generalize J:D.agg cs=x at h
 cases h with
 | agg cs vs hl hs Y=>cases J;exact⟨vs,rfl,oq.of hl Y,hs⟩
 | _=>cases J
theorem oq.at_{w:W'}{ok:Nat->Prop}{ds:List D}{vs:List Z3}(h:oq w ok ds vs){j:Nat}{d:D}(J:ds[j]?=some d):∃v,vs[j]?=some v/\iN w ok d v:=by
 have hj:=(Xt.1 J).1;have:j<vs.length:=by rw[h.length];exact hj
 exact⟨vs[j],Xp this,h.get j d _ J (Xp this)⟩
theorem au{y:Z6}{i:Nat}{cs:List D}{d:D}(hy:ev y=.d (.da cs))(J:cs[i]?=some d):QOp P w0 n s ev ⟨dst,.extract y i,ty,pos,after,g⟩ (.d d):=
 .mk λa w ok blk val h _ qW=>by
  obtain⟨vs,hv,hL⟩:=Pw (show iN w _ (.da cs) (a.eval y) by have:=h y;rw[hy]at this;exact this);obtain⟨v,hvi,Y⟩:=hL.at_ J;refine⟨v,w,?_,Ext.refl w,Y⟩;simp[execOp,hv,Instr.extract,hvi]
theorem il{w:W'}{ok:Nat->Prop}{d:D}{v:Z3}(h:iN w ok d v)(J:d.sc=true\/∃cs,d=.agg cs):oq w ok d.cells v.cells.toList/\∀(j:Nat) (x:D),d.cells[j]?=some x->x.sc=true:=by
 rcases J with J|⟨cs,rfl⟩
 ·have h1:d.cells=[d]:=by cases d<;>first|rfl|cases J
  have h2:v.cells=#[v]:=by
   have:=h.one J
   cases v<;>first|rfl|cases this
  rw[h1,h2]
  exact⟨⟨h,trivial⟩,λj x hx=>by
   cases j with
   | zero=>simp at hx;subst hx;exact J
   | succ j=>simp at hx⟩
 ·obtain⟨vs,rfl,hL,hs⟩:=oD h
  exact⟨by simpa [Value.cells,D.cells] using hL,hs⟩
theorem aP{e:Z5}{y:Z6}{d:D}(hy:ev y=.d d)(J:d.sc=true\/∃cs,d=.agg cs):QOp P w0 n s ev ⟨dst,.box e y,ty,pos,after,g⟩ (.d (.pt d.cells 0)):=
 .mk λa w ok blk val h _ qW=>by
  have Y:iN w (ok) d (a.eval y):=by have:=h y;rw[hy]at this;exact this
  have⟨hL,hs⟩:=il Y J;have hE:Ext w (w.alloc (.cells (a.eval y).cells e)):=(Ext.refl w).alloc _;refine⟨.pointer (some ⟨w.heap.size,0,none⟩),w.alloc (.cells (a.eval y).cells e),by simp[execOp,Instr.box,newVar,newRow],hE,?_⟩
  have:=iN.pt (w:=w.alloc (.cells (a.eval y).cells e)) (ok:=ok) d.cells 0 w.heap.size 0 (λj=>(a.eval y).cells.getD j undef) (by simp) (qW _ (Xw _)) hs (λj x hx=>by
   obtain⟨v,hv,_⟩:=hL.at_ hx;rw[cell_of_block (fj _ _),XK];have yJ:(a.eval y).cells[j]?=some v:=by simpa using hv
   rw[yJ,cO yJ]) (λj x hx=>by
   obtain⟨v,hv,Y⟩:=hL.at_ hx;have yJ:(a.eval y).cells[j]?=some v:=by simpa using hv
   rw[cO yJ];exact Y.ext hE λ_ _ h=>h)
  show iN _ _ _ _
  simpa using this
def ta(K:St->Prop)(R:Exit->St->Prop):Exit->St->Prop
 | .normal,st=>K st
 | e,st=>R e st
def blockR(id:Nat)(R:Exit->St->Prop):Exit->St->Prop
 | .exit QP,st=>if QP=id then R .normal st else R (.exit QP) st
 | e,st=>R e st
def Le(w0:Cx)(s s':St):Prop:=∀a w,Holds w0 s a w->Holds w0 s' a w
theorem dG.le{c:Code}{R:Exit->St->Prop}{s s':St}(hl:Le w0 s s')(h:dG P w0 c R s'):dG P w0 c R s:=λF m hF a w hH=>h F m hF a w (hl a w hH)
theorem ae{x y:Code}{R:Exit->St->Prop}{st:St}(h:dG P w0 x (ta (λst'=>dG P w0 y R st') R) st):dG P w0 (.seq x y) R st:=λF m hF a w hH=>
 wpIn_seq (wpIn_mono (h F m hF a w hH) λe a' w' ⟨st',hR,oO⟩=>by
  cases e with
  | normal=>exact hR F m hF a' w' oO
  | _=>exact⟨st',hR,oO⟩)
theorem wO{R:Exit->St->Prop}{st:St}(h:R .normal st):dG P w0 .skip R st:=λ_ _ _ _ _ hH=>wpIn_skip ⟨st,h,hH⟩
theorem ah{R:Exit->St->Prop}{st:St}(h:R .ret st):dG P w0 .ret R st:=λ_ _ _ _ _ hH=>wpIn_ret ⟨st,h,hH⟩
theorem bJ{id:Nat}{R:Exit->St->Prop}{st:St}(h:R (.exit id) st):dG P w0 (.exit id) R st:=λ_ _ _ _ _ hH=>wpIn_exit ⟨st,h,hH⟩
theorem ao{c:Z6}{x y:Code}{R:Exit->St->Prop}{st:St}{b:Bool}(hc:st.ev c=T.bool b)(ht:b=true->dG P w0 x R st)(hf:b=false->dG P w0 y R st):dG P w0 (.cond c x y) R st:=by
 intro F m hF a w hH;have hv:a.eval c=.bool b:=by obtain⟨blk,val,hh⟩:=hH;exact hh.bool hc
 exact wpIn_cond_split hv (λh=>ht h F m hF a w hH) (λh=>hf h F m hF a w hH)
theorem az{id:Nat}{c:Code}{R:Exit->St->Prop}{st:St}(h:dG P w0 c (blockR id R) st):dG P w0 (.block id c) R st:=λF m hF a w hH=>
 wpIn_block (wpIn_mono (h F m hF a w hH) λe a' w' ⟨st',hR,oO⟩=>by
  cases e with
  | exit QP=>
   by_cases Q4:QP=id
   ·simp only[blockR,Q4,Yp]at hR
    simp only[Exit.inBlock,Q4,Yp];exact⟨st',hR,oO⟩
   ·simp only[blockR,Q4,YC]at hR
    simp only[Exit.inBlock,Q4,YC];exact⟨st',hR,oO⟩
  | _=>exact⟨st',hR,oO⟩)
def memN(t:Nat):List Nat->Bool
 | []=>false
 | x::xs=>Nat.beq t x||memN t xs
def killT(ts:List Nat):T->T
 | .ref k o=>if memN k ts then .dead else .ref k o
 | .rs k=>if memN k ts then .dead else .rs k
 | .own k r f g=>if memN k ts then .dead else .own k r f g
 | x=>x
def killSite(ts:List Nat):aH->aH
 | .cn cs=>.cn (cs.map (killT ts))
 | x=>x
def lookN{α:Type}(t:Nat):List (Nat × α)->Option α
 | []=>none
 | (k,v)::xs=>bif Nat.beq t k then some v else lookN t xs
def headSt(st:St)(ts:List Nat)(sl:List (Nat × T))(ss:List (Nat × aH)):St:=
 { n:=st.n
   t:=λt=>match lookN t sl with|some x=>x|none=>bif memN t ts then .dead else killT ts (st.t t)
   s:=λk=>match lookN k ss with|some x=>x|none=>bif memN k ts then .no else killSite ts (st.s k) }
structure Out(ts ms:List Nat)(s s0:St):Prop where
 n:s.n=s0.n
 t:∀t,memN t ts=false->∃ks,(∀k,memN k ks=true->memN k ts=true)/\s.t t=killT ks (s0.t t)
 s:∀t,memN t ts=false->memN t ms=false->∃ks,(∀k,memN k ks=true->memN k ts=true)/\s.s t=killSite ks (s0.s t)
theorem yE(x:T):killT [] x=x:=by cases x<;>rfl
theorem Aj(x:aH):killSite [] x=x:=by
 cases x with
 | cn cs=>
  simp only[killSite,aH.cn.injEq]
  conv=>rhs;rw[<-List.map_id cs]
  exact Y5 λy _=>yE y
 | _=>rfl
theorem sJ{ks ts:List Nat}(h:∀k,memN k ks=true->memN k ts=true)(x:T):killT ts (killT ks x)=killT ts x:=by
 cases x with
 | ref j o=>
  simp only[killT]
  cases hk:memN j ks
  ·rfl
  ·simp[h j hk,killT]
 | rs j=>
  simp only[killT]
  cases hk:memN j ks
  ·rfl
  ·simp[h j hk,killT]
 | own j r f g=>
  simp only[killT]
  cases hk:memN j ks
  ·rfl
  ·simp[h j hk,killT]
 | _=>rfl
theorem Ah{ks ts:List Nat}(h:∀k,memN k ks=true->memN k ts=true)(x:aH):killSite ts (killSite ks x)=killSite ts x:=by
 cases x with
 | cn cs=>simp only[killSite,List.map_map,aH.cn.injEq];exact Y5 λy _=>sJ h y
 | _=>rfl
theorem n4(ks js:List Nat)(x:T):killT js (killT ks x)=killT (ks++js) x:=by
 have ha:∀j,memN j (ks++js)=(memN j ks||memN j js):=λj=>by
  induction ks with
  | nil=>rfl
  | cons x xs ih=>simp[memN,ih,Bool.or_assoc]
 cases x with
 | ref j o=>simp only[killT,ha];cases hk:memN j ks<;>simp[killT]
 | rs j=>simp only[killT,ha];cases hk:memN j ks<;>simp[killT]
 | own j r f g=>simp only[killT,ha];cases hk:memN j ks<;>simp[killT]
 | _=>rfl
theorem lY(ks js:List Nat)(x:aH):killSite js (killSite ks x)=killSite (ks++js) x:=by
 cases x with
 | cn cs=>simp only[killSite,List.map_map,aH.cn.injEq];exact Y5 λy _=>n4 ks js y
 | _=>rfl
theorem Out.refl{ts ms:List Nat}(s:St):Out ts ms s s:=⟨rfl,λ_ _=>⟨[],λ_ h=>(by cases h),(yE _).symm⟩,λ_ _ _=>⟨[],λ_ h=>(by cases h),(Aj _).symm⟩⟩
theorem Out.put{ts ms:List Nat}{s s0:St}{d:Nat}{x:T}(hO:Out ts ms s s0)(h:memN d ts=true):Out ts ms (s.put (some d) x) s0:=
 ⟨hO.n,λt ht=>by
  have:Nat.beq t d=false:=by rw[<-XT];intro e;rw[Xq e,h]at ht;cases ht
  simp only[St.put,this,XJ];exact hO.t t ht,hO.s⟩
theorem Out.site{ts ms:List Nat}{s s0:St}{d:Nat}{x:aH}(hO:Out ts ms s s0)(h:(memN d ts||memN d ms)=true):Out ts ms (s.site d x) s0:=
 ⟨hO.n,hO.t,λt ht hm=>by
  have:Nat.beq t d=false:=by rw[<-XT];intro e;rw[Xq e]at ht hm;rw[ht,hm]at h;cases h
  simp only[St.site,this,XJ];exact hO.s t ht hm⟩
def pH{α:Type}(ts:List Nat):List (Nat × α)->Bool
 | []=>true
 | (k,_)::xs=>memN k ts&&pH ts xs
theorem iI{α:Type}{ts:List Nat}{t:Nat}(ht:memN t ts=false):∀{l:List (Nat × α)},pH ts l=true->lookN t l=none
 | [],_=>rfl
 | (k,v)::xs,h=>by
  simp only[pH,Xs]at h;have hb:Nat.beq t k=false:=by rw[<-XT];intro e;rw[Xq e,h.1]at ht;cases ht
  simp only[lookN,hb,XJ];exact iI ht h.2
theorem lz{t:Nat}{a b:List Nat}:memN t (a++b)=(memN t a||memN t b):=by
 induction a with
 | nil=>rfl
 | cons x xs ih=>simp[memN,ih,Bool.or_assoc]
theorem Out.head{ts ms:List Nat}{s0:St}{sl:List (Nat × T)}{ss:List (Nat × aH)}(h1:pH ts sl=true)(h2:pH (ts++ms) ss=true):Out ts ms (headSt s0 ts sl ss) s0:=by
 refine⟨rfl,λt ht=>?_,λt ht hm=>?_⟩
 ·exact⟨ts,λ_ h=>h,by simp only[headSt,iI ht h1,ht,XJ]⟩
 ·have:memN t (ts++ms)=false:=by rw[lz,ht,hm];rfl
  exact⟨ts,λ_ h=>h,by simp only[headSt,iI this h2,ht,XJ]⟩
def AllT(s:St):List (Nat × T)->Prop
 | []=>True
 | (k,v)::xs=>s.t k=v/\AllT s xs
def JX(s:St):List (Nat × aH)->Prop
 | []=>True
 | (k,v)::xs=>s.s k=v/\JX s xs
theorem AllT.mem{s:St}:∀{l:List (Nat × T)},AllT s l->∀p∈l,s.t p.1=p.2
 | [],_,p,h=>by cases h
 | (k,v)::xs,h,p,hp=>by
  rcases Xy.1 hp with rfl|hp
  ·exact h.1
  ·exact AllT.mem h.2 p hp
theorem JX.mem{s:St}:∀{l:List (Nat × aH)},JX s l->∀p∈l,s.s p.1=p.2
 | [],_,p,h=>by cases h
 | (k,v)::xs,h,p,hp=>by
  rcases Xy.1 hp with rfl|hp
  ·exact h.1
  ·exact JX.mem h.2 p hp
def Mg(ts:List Nat)(ss:List (Nat × aH)):List Nat->Bool
 | []=>true
 | k::ks=>(memN k ts||(lookN k ss).isSome)&&Mg ts ss ks
def slOk(ts:List Nat)(ss:List (Nat × aH)):List (Nat × T)->Bool
 | []=>true
 | (_,x)::xs=>(match x with|.rs k=>!memN k ts||(lookN k ss).isSome|.own k _ _ _=>!memN k ts||(lookN k ss).isSome|.ref k _=>!memN k ts||(lookN k ss).isSome|_=>true)&&slOk ts ss xs
theorem eD{α:Type}{t:Nat}:∀{l:List (Nat × α)} {x:α},lookN t l=some x->(t,x)∈l
 | [],_,h=>by cases h
 | (k,v)::xs,x,h=>by
  simp only[lookN]at h
  cases hb:Nat.beq t k with
  | true=>
   rw[hb]at h;rw[Xq hb];simp only[Yb,XS]at h;subst h;simp
  | false=>rw[hb]at h;exact Yc _ (eD h)
theorem Cv(ts:List Nat)(x:T):killT ts x=x\/killT ts x=.dead:=by
 cases x with
 | ref k o=>simp only[killT];split;exact .inr E;exact .inl E
 | rs k=>simp only[killT];split;exact .inr E;exact .inl E
 | own k r f g=>simp only[killT];split;exact .inr E;exact .inl E
 | _=>exact .inl E
theorem vF{ts:List Nat}{x:T}{k:Nat}(h:killT ts x=.rs k\/(∃o,killT ts x=.ref k o)\/∃r f g,killT ts x=.own k r f g):memN k ts=false:=by
 cases x with
 | ref j o=>
  simp only[killT]at h;cases hj:memN j ts<;>simp[hj]at h
  rw[<-h];exact hj
 | rs j=>
  simp only[killT]at h;cases hj:memN j ts<;>simp[hj]at h
  rw[<-h];exact hj
 | own j r f g=>
  simp only[killT]at h;cases hj:memN j ts<;>simp[hj]at h
  rw[<-h];exact hj
 | _=>simp[killT]at h
theorem Ai(ts:List Nat)(x:aH):killSite ts x=x\/∃cs cs',x=.cn cs/\killSite ts x=.cn cs'/\cs'.length=cs.length/\∀(j:Nat) (y:T),cs'[j]?=some y->y=.dead\/cs[j]?=some y:=by
 cases x with
 | cn cs=>
  refine .inr ⟨cs,cs.map (killT ts),rfl,rfl,by simp,λj y hy=>?_⟩;rw[XF]at hy;cases hj:cs[j]? with
  | none=>rw[hj]at hy;cases hy
  | some z=>
   rw[hj]at hy
   cases hy
   rcases Cv ts z with e|e
   ·exact .inr (by rw[e])
   ·exact .inl e
 | _=>exact .inl E
theorem o8{ts:List Nat}{x:aH}{cs:List T}(h:killSite ts x=.cn cs):∀y∈cs,∀k,(y=.rs k\/(∃o,y=.ref k o)\/∃r f g,y=.own k r f g)->memN k ts=false:=by
 cases x with
 | cn cs'=>
  simp only[killSite,aH.cn.injEq]at h;subst h;intro y hy k hk;obtain⟨z,_,rfl⟩:=X6.1 hy;exact vF hk
 | _=>simp[killSite]at h
theorem dN{ts:List Nat}{x:aH}:(x≠.no->killSite ts x≠.no)/\((∃e sz es,x=.row e sz es)->∃e sz es,killSite ts x=.row e sz es):=by
 cases x<;>simp[killSite]
def ssOk(ts:List Nat)(ss:List (Nat × aH)):List (Nat × aH)->Bool
 | []=>true
 | (_,.cn cs)::xs=>(cs.all λx=>match x with|.rs k=>!memN k ts||(lookN k ss).isSome|.own k _ _ _=>!memN k ts||(lookN k ss).isSome|.ref k _=>!memN k ts||(lookN k ss).isSome|_=>true)&&ssOk ts ss xs
 | _::xs=>ssOk ts ss xs
theorem xZ{ts:List Nat}{ss:List (Nat × aH)}:∀{l:List (Nat × aH)},ssOk ts ss l=true->∀k cs,(k,aH.cn cs)∈l->∀y∈cs,∀j,(y=.rs j\/(∃o,y=.ref j o)\/∃r f g,y=.own j r f g)->memN j ts=false\/∃x,lookN j ss=some x
 | [],_,k,cs,h=>by cases h
 | (q,x)::l,h,k,cs,hm=>by
  intro y hy j hj
  have hl:ssOk ts ss l=true:=by
   cases x<;>simp only[ssOk,Xs]at h<;>first|exact h|exact h.2
  rcases Xy.1 hm with e|hm
  ·cases e
   simp only[ssOk,Xs]at h;have h1:=X0.1 h.1 y hy;have key:(!memN j ts||(lookN j ss).isSome)=true:=by rcases hj with rfl|⟨o,rfl⟩|⟨_,_,_,rfl⟩<;>exact h1
   rw[X3]at key;rcases key with key|key
   ·exact .inl (by simpa using key)
   ·exact .inr (YM.1 key)
  ·exact xZ hl k cs hm y hy j hj
theorem qw{p:Nat->Bool}{k:Nat}:∀{ts:List Nat},memN k ts=true->ts.all p=true->p k=true
 | [],h,_=>by cases h
 | x::xs,h,ha=>by
  simp only[memN,X3]at h;simp only[Ze,Xs]at ha;rcases h with h|h
  ·rw[Xq h];exact ha.1
  ·exact qw h ha.2
def dI(ts:List Nat)(ss:List (Nat × aH))(blk:Nat->Option Nat):Nat->Option Nat:=λk=>match lookN k ss with|some _=>blk k|none=>bif memN k ts then none else blk k
theorem zv{ts ms:List Nat}{s s0:St}{sl:List (Nat × T)}{ss:List (Nat × aH)}(hO:Out ts ms s s0)(h1:∀p∈sl,s.t p.1=p.2)(h2:∀p∈ss,s.s p.1=p.2)(h3:∀k,memN k ms=true->memN k ts=false->∃x,lookN k ss=some x)
  (h4:∀p∈sl,∀k,(p.2=.rs k\/(∃o,p.2=.ref k o)\/∃r f g,p.2=.own k r f g)->memN k ts=true->∃x,lookN k ss=some x) (h5:ssOk ts ss ss=true) (h6:ts.all (λt=>Nat.blt t s.n)=true)
  {a:Act} {w:W'} {blk:Nat->Option Nat} {val:Nat->Z3} (hh:qx w0 s a w blk val):qx w0 (headSt s0 ts sl ss) a w (dI ts ss blk) val:=by
 let aI:Nat->Option Nat:=λk=>match lookN k ss with|some _=>blk k|none=>bif memN k ts then none else blk k
 have hb:∀k b,aI k=some b->blk k=some b:=λk b h=>by
  simp only[aI]at h
  split at h
  ·exact h
  ·cases hm:memN k ts<;>rw[hm]at h
   ·exact h
   ·cases h
 have bg:∀b,fN w0 blk b->fN w0 aI b:=λb h=>⟨h.1,λk hk=>h.2 k (hb k b hk)⟩
 have qN:∀k,(memN k ts=false\/∃x,lookN k ss=some x)->aI k=blk k:=λk h=>by
  simp only[aI];rcases h with h|⟨x,h⟩
  ·split
   ·rfl
   ·rw[h];rfl
  ·rw[h]
 have Jp:∀k,(memN k ts=false\/∃x,lookN k ss=some x)->(headSt s0 ts sl ss).s k=s.s k\/(lookN k ss=none/\(headSt s0 ts sl ss).s k=killSite ts (s.s k)):=λk h=>by
  simp only[headSt]
  cases hl:lookN k ss with
  | some x=>exact .inl (h2 _ (eD hl)).symm
  | none=>
   rcases h with h|⟨x,h⟩
   ·rw[h]
    simp only[XJ]
    have hms:memN k ms=false:=by
     rw[<-XT];intro hm;have⟨x,hx⟩:=h3 k hm h;rw[hl]at hx;cases hx
    have⟨ks,Bj,e⟩:=hO.s k h hms;exact .inr ⟨trivial,by rw[e,Ah Bj]⟩
   ·rw[hl]at h;cases h
 have dW:∀k,(memN k ts=false\/∃x,lookN k ss=some x)->aI k=blk k/\val k=val k/\(s.s k≠.no->(headSt s0 ts sl ss).s k≠.no)/\((∃e sz es,s.s k=.row e sz es)->∃e sz es,(headSt s0 ts sl ss).s k=.row e sz es):=λk h=>by
  refine⟨qN k h,rfl,?_⟩;rcases Jp k h with e|⟨_,e⟩
  ·rw[e];exact⟨id,id⟩
  ·rw[e];exact dN
 have hT:∀x v,iV w (fN w0 blk) blk val s.s x v->(∀k,(x=.rs k\/(∃o,x=.ref k o)\/∃r f g,x=.own k r f g)->memN k ts=false\/∃y,lookN k ss=some y)->iV w (fN w0 aI) aI val (headSt s0 ts sl ss).s x v:=λx v hx hk=>
  hx.to (λb _ h=>bg b h) λk hkx=>dW k (hk k hkx)
 show qx w0 (headSt s0 ts sl ss) a w aI val
 refine⟨hh.ext,hh.defers,by rw[hh.size];exact hO.n,λk b h=>hh.new k b (hb k b h),λk k' b h h'=>hh.inj k k' b (hb k b h) (hb k' b h'),λk b h=>?_,λk=>?_,λt=>?_⟩
 ·have⟨q1,q2,q3⟩:=hh.kU k b h
  have hm:memN k ts=false:=by
   rw[<-XT];intro hm;have:=qw hm h6;rw[YB]at this;omega
  refine⟨by rw[qN k (.inl hm)];exact q1,?_,by rw[show (headSt s0 ts sl ss).n=s.n from hO.n.symm];exact q3⟩;rcases Jp k (.inl hm) with e|⟨_,e⟩
  ·rw[e];exact q2
  ·rw[e]
   cases hs:s.s k<;>rw[hs]at q2<;>first|rfl|cases q2
 ·have stays : (memN k ts = false \/ ∃ x, lookN k ss = some x) -> ml w (fN w0 aI) aI val (headSt s0 ts sl ss).s (aI k) (val k) ((headSt s0 ts sl ss).s k) := λh => by
   rw[qN k h];refine(hh.site k).to (λb _ h=>bg b h) ?_ ?_
   ·rcases Jp k h with e|⟨_,e⟩
    ·exact .inl e
    ·rw[e];exact Ai ts (s.s k)
   ·intro cs ep y hy j hj
    rcases Jp k h with e|⟨hl,e⟩
    ·cases hl:lookN k ss with
     | some x=>
      have hx:(headSt s0 ts sl ss).s k=x:=by simp only[headSt,hl]
      rw[ep]at hx;subst hx;exact dW j (xZ h5 k cs (eD hl) y hy j hj)
     | none=>
      have hx:(headSt s0 ts sl ss).s k=killSite ts (s0.s k)\/memN k ts=true:=by
       cases hm:memN k ts with
       | true=>exact .inr E
       | false=>left;simp only[headSt,hl,hm,XJ]
      rcases hx with hx|hx
      · exact dW j (.inl (o8 (hx.symm.trans ep) y hy j hj))
      ·rcases h with h|⟨x,h⟩
       · rw[hx]at h;cases h
       · rw[hl]at h;cases h
    ·exact dW j (.inl (o8 (e.symm.trans ep) y hy j hj))
  cases hl:lookN k ss with
  | some x=>exact stays (.inr ⟨x,hl⟩)
  | none=>
   cases hm:memN k ts with
   | false=>exact stays (.inl hm)
   | true=>
    have e1:aI k=none:=by simp only[aI,hl,hm,Yb]
    have e2:(headSt s0 ts sl ss).s k=.no:=by simp only[headSt,hl,hm,Yb]
    rw[e1,e2];rfl
 ·show iV w _ _ _ _ (match lookN t sl with|some x=>x|none=>bif memN t ts then .dead else killT ts (s0.t t)) _
  cases hl:lookN t sl with
  | some x=>
   simp only;have:s.t t=x:=h1 _ (eD hl);refine hT x _ (by rw[<-this];exact hh.tmp t) λk hk=>?_
   cases hm:memN k ts with
   | false=>exact .inl E
   | true=>exact .inr (h4 _ (eD hl) k hk hm)
  | none=>
   simp only
   cases hm:memN t ts with
   | true=>simp only[Yb];trivial
   | false=>
    simp only[XJ];have ht0:=hh.tmp t
    have ht:iV w (fN w0 blk) blk val s.s (killT ts (s0.t t)) (a.tmps.getD t undef):=by
     have⟨ks,Bj,e⟩:=hO.t t hm;rw[e]at ht0;rcases Cv ts (killT ks (s0.t t)) with e'|e'
     ·rw[sJ Bj]at e';rw[e'];exact ht0
     ·rw[sJ Bj]at e';rw[e'];trivial
    exact hT _ _ ht λk hk=>.inl (vF hk)
theorem Mw{ts ms:List Nat}{s s0:St}{sl:List (Nat × T)}{ss:List (Nat × aH)}(hO:Out ts ms s s0)(h1:∀p∈sl,s.t p.1=p.2)(h2:∀p∈ss,s.s p.1=p.2)(h3:∀k,memN k ms=true->memN k ts=false->∃x,lookN k ss=some x)
 (h4:∀p∈sl,∀k,(p.2=.rs k\/(∃o,p.2=.ref k o)\/∃r f g,p.2=.own k r f g)->memN k ts=true->∃x,lookN k ss=some x) (h5:ssOk ts ss ss=true) (h6:ts.all (λt=>Nat.blt t s.n)=true):Le w0 s (headSt s0 ts sl ss):=λa w ⟨blk,val,hh⟩=>⟨_,_,zv hO h1 h2 h3 h4 h5 h6 hh⟩
theorem yy{ts:List Nat}{ss:List (Nat × aH)}:∀{ms:List Nat},Mg ts ss ms=true->∀k,memN k ms=true->memN k ts=false->∃x,lookN k ss=some x
 | [],_,k,h,_=>by cases h
 | m::ms,h,k,hk,ht=>by
  simp only[Mg,Xs]at h;simp only[memN,X3]at hk;rcases hk with hk|hk
  ·have:=Xq hk
   subst this;rw[ht,ZN]at h;exact YM.1 h.1
  ·exact yy h.2 k hk ht
theorem yc{ts:List Nat}{ss:List (Nat × aH)}:∀{sl:List (Nat × T)},slOk ts ss sl=true->∀p∈sl,∀k,(p.2=.rs k\/(∃o,p.2=.ref k o)\/∃r f g,p.2=.own k r f g)->memN k ts=true->∃x,lookN k ss=some x
 | [],_,p,h=>by cases h
 | (j,x)::sl,h,p,hp=>by
  simp only[slOk,Xs]at h;intro k hk ht;rcases Xy.1 hp with rfl|hp
  ·rcases hk with e|⟨o,e⟩|⟨_,_,_,e⟩
   ·simp only at e;subst e
    simp only[ht,Y1,ZN]at h;exact YM.1 h.1
   ·simp only at e;subst e
    simp only[ht,Y1,ZN]at h;exact YM.1 h.1
   ·simp only at e;subst e
    simp only[ht,Y1,ZN]at h;exact YM.1 h.1
  ·exact yc h.2 p hp k hk ht
theorem le_head{ts ms:List Nat}{s s0:St}{sl:List (Nat × T)}{ss:List (Nat × aH)}(hO:Out ts ms s s0)(h1:AllT s sl)(h2:JX s ss)(h3:Mg ts ss ms=true)(h4:slOk ts ss sl=true)(h5:ssOk ts ss ss=true)(h6:ts.all (λt=>Nat.blt t s.n)=true):Le w0 s (headSt s0 ts sl ss):=
 Mw hO h1.mem h2.mem (yy h3) (yc h4) h5 h6
theorem bG{c:Code}{R:Exit->St->Prop}{st:St}{α:Type}(ts ms:List Nat)(sl:α->List (Nat × T))(ss:α->List (Nat × aH))(I:α->Prop)(μ:α->Nat)(x0:α)(h0:I x0)
  (hs:Le w0 st (headSt st ts (sl x0) (ss x0)))
  (Y:∀x,I x->dG P w0 c (ta (λst'=>∃x',I x'/\μ x'<μ x/\Le w0 st' (headSt st ts (sl x') (ss x'))) R) (headSt st ts (sl x) (ss x))):dG P w0 (.loop c) R st:=by
 intro F m hF a w hH b k cs jD hb U4
 have key:∀(j:Nat) (x:α),μ x=j->I x->∀a w,Holds w0 (headSt st ts (sl x) (ss x)) a w->
   ∃e a' w',Post w0 R e a' w'/\ArrivesIn (Machine.fenced P F) P (lone (b.atR a (.code c :: .inLoop c::k)) cs w) b k cs e a' w':=by
  intro j
  induction j using Nat.strongRecOn with
  | _ j ih=>
   intro x hx hI a w hH;obtain⟨e,a1,w1,⟨st',hR,oO⟩,jF⟩:=Y x hI F m hF a w hH b (.inLoop c::k) cs jD hb U4
   cases e with
   | normal=>
    have⟨x',hI',bH,hle⟩:=hR;obtain⟨e2,a2,w2,hq,Nm⟩:=ih (μ x') (by omega) x' E hI' a1 w1 (hle a1 w1 oO);exact⟨e2,a2,w2,hq,.of_steps (StepsIn.trans jF (.one (fenced_calm hb U4 E) stepR_inLoop)) Nm⟩
   | exit id=>exact⟨_,a1,w1,⟨st',hR,oO⟩,.pass (x:=.inLoop c) E (λ_ _=>.inl (by simp)) jF⟩
   | goto l=>exact⟨_,a1,w1,⟨st',hR,oO⟩,.pass (x:=.inLoop c) E (λ_ _=>.inl (by simp)) jF⟩
   | ret=>exact⟨_,a1,w1,⟨st',hR,oO⟩,.pass (x:=.inLoop c) E (λ_ _=>.inl (by simp)) jF⟩
   | panic ch=>exact⟨_,a1,w1,⟨st',hR,oO⟩,.pass (x:=.inLoop c) E (λ_ _=>.inl (by simp)) jF⟩
   | outgrown=>exact⟨_,a1,w1,⟨st',hR,oO⟩,.pass (x:=.inLoop c) E (λ_ _=>.inl (by simp)) jF⟩
 obtain⟨e,a',w',hq,jF⟩:=key _ x0 E h0 a w (hs a w hH);exact⟨e,a',w',hq,.of_steps (.one (fenced_calm hb U4 E) stepR_loop) jF⟩
variable{ops:List Z8}{rest:List Z8}{R:Exit->St->Prop}{st:St}
theorem ai(h:R .normal st):tj P w0 ops [] R st:=λ_ _ _ _ _ hH=>⟨st,h,hH⟩
theorem eG{o:Z8}{K:St->Prop}(hg:o.guard=none)(h:∀a w,Holds w0 st a w->OW P w0 o a w (λa' w'=>∃st',K st'/\Holds w0 st' a' w'))(hK:∀st',K st'->tj P w0 ops rest R st'):tj P w0 ops (o::rest) R st:=by
 intro F m hF a w hH;unfold wpListIn;rw[Xu (by simp[Region.wanted,hg])];exact(h a w hH).to hF λa' w' ⟨st',h1,h2⟩=>hK st' h1 F m hF a' w' h2
theorem aN{dst:Option Tmp}{op:Op}{x:T}(J:(match dst with|none=>true|some d=>Nat.blt d st.n)=true)(hq:QOp P w0 st.n st.s st.ev ⟨dst,op,ty,pos,after,none⟩ x)(h:tj P w0 ops rest R (st.put dst x)) :
  tj P w0 ops (⟨dst,op,ty,pos,after,none⟩::rest) R st:=
 eG (K:=λs=>s=st.put dst x) E (λa w hH=>OW.mono (hq st a w hH (Sub.refl _ _) E (λ_=>.inr E) (λd Bl=>by
  have:dst=some d:=Bl;subst this
  simpa [YB] using J)) λa' w' h'=>⟨_,rfl,h'⟩) (λ_ e=>e ▸ h)
theorem gN{a:Act}{w:W'}{blk:Nat->Option Nat}{val:Nat->Z3}{d:Nat}{x:T}{v:Z3}(hh:qx w0 st a w blk val)(J:d<st.n)(hx:iV w (fN w0 blk) blk val st.s x v):qx w0 (st.put (some d) x) (a.put (some d) v) w blk val:=
 hh.put (some d) x v (λ_ e=>by cases e;exact J) hx
theorem qx.Qv{a:Act}{w:W'}{blk:Nat->Option Nat}{val:Nat->Z3}{k b:Nat}{x:aH}{u:Z3}(hh:qx w0 st a w blk val)(hk:st.s k=.no)(hb:Jb w0 b)(hbw:b<w.heap.size)(sM:∀j,blk j≠some b)
  (hold:∀t,iV w (λb'=>fN w0 blk b'/\b'≠b) blk val st.s (st.t t) (a.tmps.getD t undef)) (pK:∀j,ml w (λb'=>fN w0 blk b'/\b'≠b) blk val st.s (blk j) (val j) (st.s j))
  (hx:ml w (λb'=>fN w0 blk b'/\b'≠b) blk val st.s (some b) u x) (CC:∀cs,x=.cn cs->∀y∈cs,∀j,(y=.rs j\/(∃o,y=.ref j o)\/∃r f g,y=.own j r f g)->st.s j≠.no):qx w0 (st.site k x) a w (λj=>bif Nat.beq j k then some b else blk j) (λj=>bif Nat.beq j k then u else val j):=by
 have bg:∀b',b'<w.heap.size->fN w0 blk b'/\b'≠b->fN w0 (λj=>bif Nat.beq j k then some b else blk j) b':=λb' _ ⟨h1,h2⟩=>⟨h1.1,λj hj=>by
  cases fE:Nat.beq j k<;>simp only[fE,Yb,XJ]at hj
  ·exact h1.2 j hj
  ·cases hj;exact h2 E⟩
 have eW:∀j,st.s j≠.no->Nat.beq j k=false:=λj hj=>by
  rw[<-XT];intro e;rw[Xq e]at hj;exact hj hk
 have dW:∀j,st.s j≠.no->(bif Nat.beq j k then some b else blk j)=blk j/\(bif Nat.beq j k then u else val j)=val j/\(st.s j≠.no->(st.site k x).s j≠.no)/\((∃e sz es,st.s j=.row e sz es)->∃e sz es,(st.site k x).s j=.row e sz es):=λj hj=>by
  simp only[St.site,eW j hj,XJ];exact⟨trivial,trivial,id,id⟩
 have live:∀y v,iV w (λb'=>fN w0 blk b'/\b'≠b) blk val st.s y v->∀j,(y=.rs j\/(∃o,y=.ref j o)\/∃r f g,y=.own j r f g)->st.s j≠.no:=λy v hy j hj=>by
  rcases hj with rfl|⟨o,rfl⟩|⟨_,_,_,rfl⟩
  ·have⟨⟨e,sz,es,q⟩,_⟩:=hy;rw[q];simp
  ·exact hy.1
  ·exact hy.1.1.1
 refine⟨hh.ext,hh.defers,hh.size,λj c hj=>?_,λi j c hi hj=>?_,λj c hj=>?_,λj=>?_,λt=>?_⟩
 ·cases fE:Nat.beq j k<;>simp only[fE,Yb,XJ]at hj
  ·exact hh.new j c hj
  ·cases hj;exact⟨hb,hbw⟩
 ·cases FX:Nat.beq i k<;>cases fE:Nat.beq j k<;>simp only[FX,fE,Yb,XJ]at hi hj
  ·exact hh.inj i j c hi hj
  ·cases hj;exact absurd hi (sM i)
  ·cases hi;exact absurd hj (sM j)
  ·rw[Xq FX,Xq fE]
 ·have⟨q1,q2,q3⟩:=hh.kU j c hj
  have:st.s j≠.no:=λe=>by rw[e]at q2;cases q2
  simp only[St.site,eW j this,XJ];exact⟨q1,q2,q3⟩
 ·cases fE:Nat.beq j k
  ·simp only[St.site,fE,XJ]
   refine(pK j).to bg (.inl E) λcs ep y hy i hi=>?_;have h0:=pK j;rw[ep]at h0;have⟨_,_,_,_,_,_,h5⟩:=h0;have⟨q,hq⟩:=YH hy;obtain⟨v,_,_,Y⟩:=h5 q y hq;exact dW i (live y v Y i hi)
  ·simp only[St.site,fE,Yb]
   exact hx.to bg (.inl E) λcs ep y hy i hi=>dW i (CC cs ep y hy i hi)
 ·exact(hold t).to bg λj hj=>dW j (live _ _ (hold t) j hj)
theorem iV.ok'{w:W'}{ok ok':Nat->Prop}{blk:Nat->Option Nat}{val:Nat->Z3}{s:Nat->aH}{x:T}{v:Z3}(h:iV w ok blk val s x v)(bg:∀b,b<w.heap.size->ok b->ok' b):iV w ok' blk val s x v:=
 h.to bg λ_ _=>⟨rfl,rfl,id,id⟩
theorem ml.okw{w:W'}{ok ok':Nat->Prop}{blk:Nat->Option Nat}{val:Nat->Z3}{s:Nat->aH}{b:Option Nat}{u:Z3}{x:aH}(h:ml w ok blk val s b u x)(bg:∀b,b<w.heap.size->ok b->ok' b):ml w ok' blk val s b u x:=
 h.to bg (.inl E) λ_ _ _ _ _ _=>⟨rfl,rfl,id,id⟩
theorem qx.lK{a:Act}{w:W'}{blk:Nat->Option Nat}{val:Nat->Z3}{k:Nat}{x:aH}{u:Z3}{o:Obj}(hh:qx w0 st a w blk val)(hk:st.s k=.no)
  (hx:ml (w.alloc o) (λb=>fN w0 blk b/\b≠w.heap.size) blk val st.s (some w.heap.size) u x) (CC:∀cs,x=.cn cs->∀y∈cs,∀j,(y=.rs j\/(∃o,y=.ref j o)\/∃r f g,y=.own j r f g)->st.s j≠.no:=by intro cs h;cases h) :
  qx w0 (st.site k x) a (w.alloc o) (λj=>bif Nat.beq j k then some w.heap.size else blk j) (λj=>bif Nat.beq j k then u else val j):=by
 have hE:Ext w (w.alloc o):=(Ext.refl w).alloc o;have h':=hh.ext' hE;refine h'.Qv hk (.inl hh.ext.size) (by simp) (λj hj=>by have:=(hh.new j _ hj).2;omega) (λt=>?_) (λj=>?_) hx CC
 ·exact((hh.tmp t).ok' (ok':=λb=>fN w0 blk b/\b≠w.heap.size) λb hb h=>⟨h,by omega⟩).ext hE
 ·exact((hh.site j).okw (ok':=λb=>fN w0 blk b/\b≠w.heap.size) λb hb h=>⟨h,by omega⟩).ext hE
def dK(v:Z3):List D:=v.cells.toList.map .v
def eC(P:Z4)(e:Z5)(z:Z3):Prop:=(P.info? e).bind (·.zero)=some z
theorem iE{e:Z5}{z:Z3}(h:eC P e z)(w:W'):(zeroValue e).run P w=.ok z w:=by
 unfold eC at h
 cases hi:P.info? e with
 | none=>simp[hi]at h
 | some i=>
  simp only[hi,Zv]at h;simp[zeroValue,bO hi,h]
theorem bL{d:Nat}{e:Z5}{z:Z3}(hz:eC P e z)(h1:z.cells.toList.all Value.oneCell'=true)(J:Nat.blt d st.n=true)(hs:st.s d=.no)(h:tj P w0 ops rest R ((st.site d (.box (dK z))).put (some d) (.ref d 0))) :
  tj P w0 ops (⟨some d,.alloc e,ty,pos,after,none⟩::rest) R st:=by
 refine eG (K:=λs=>s=(st.site d (.box (dK z))).put (some d) (.ref d 0)) E (λa w ⟨blk,val,hh⟩=>?_) (λ_ e=>e ▸ h);refine gg (v:=.pointer (some ⟨w.heap.size,0,none⟩)) (w':=w.alloc (.cells z.cells e)) (by simp[execOp,Instr.alloc,iE hz,newVar,newRow]) ⟨_,rfl,?_⟩
 have hH := hh.lK (k := d) (x := .box (dK z)) (u := undef) (o := .cells z.cells e) hs ⟨w.heap.size, e, z.cells, rfl, fj _ _, by simp [dK], λj x hx => by
   simp only[dK,XF]at hx;cases hj:z.cells.toList[j]? with
   | none=>rw[hj]at hx;cases hx
   | some u=>rw[hj]at hx;cases hx;rfl,λj x hx=>by
   simp only[dK,XF]at hx;cases hj:z.cells.toList[j]? with
   | none=>rw[hj]at hx;cases hx
   | some u=>
    rw[hj]at hx;cases hx
    exact⟨u,by simpa using hj,.v u (X0.1 h1 u (XA hj))⟩⟩
 exact⟨_,_,gN hH (by simpa [YB,St.site] using J) ⟨by simp[St.site],w.heap.size,by simp,rfl⟩⟩
theorem cT{w:W'}{b b':Nat}{cs:Array Z3}(h:b'≠b):(w.setRow b cs).heap[b']?=w.heap[b']?:=by
 simp[World.setRow,Zy,Ne.symm h]
theorem iD{w:W'}{b:Nat}{cs old:Array Z3}{e:Z5}{fr:Nat × Nat}(h:w.heap[b]?=some (.cells old e fr)):(w.setRow b cs).heap[b]?=some (.cells cs e fr):=by
 simp[World.setRow,Zy,h]
theorem setRow_size{w:W'}{b:Nat}{cs:Array Z3}:(w.setRow b cs).heap.size=w.heap.size:=by simp[World.setRow]
theorem qx.setRow{a:Act}{w:W'}{blk:Nat->Option Nat}{val:Nat->Z3}{k b:Nat}{x:aH}{cs:Array Z3}(hh:qx w0 st a w blk val)(hb:blk k=some b)
  (hx:ml (w.setRow b cs) (fN w0 blk) blk val st.s (some b) (val k) x) (m7:∀e sz es,st.s k=.row e sz es->∃e' ug es',x=.row e' ug es') (Aw:x≠.no) (jC:(st.s k).isVar=true->x.isVar=true:=by intro _;rfl):qx w0 (st.site k x) a (w.setRow b cs) blk val:=by
 have hbn:=hh.new k b hb
 have cr:∀{d:D} {v:Z3},iN w (fN w0 blk) d v->iN (w.setRow b cs) (fN w0 blk) d v:=λh=>
  h.cr (by rw[setRow_size];exact Xw _) (λb' o bg ho=>by rw[cT (λe=>bg.2 k (by rw[e];exact hb))];exact ho) λ_ _ h=>h
 have jB:∀{y:T} {v:Z3},iV w (fN w0 blk) blk val st.s y v->iV (w.setRow b cs) (fN w0 blk) blk val st.s y v:=λ{y v} h=>by
  cases y with
  | d y=>exact cr h
  | own k r ds F=>exact⟨h.1,h.2.imp λ_ _ h=>cr h⟩
  | _=>exact h
 have dW:∀j,blk j=blk j/\val j=val j/\(st.s j≠.no->(st.site k x).s j≠.no)/\((∃e sz es,st.s j=.row e sz es)->∃e sz es,(st.site k x).s j=.row e sz es):=λj=>by
  refine⟨rfl,rfl,?_⟩;simp only[St.site]
  cases fE:Nat.beq j k
  ·exact⟨id,id⟩
  ·rw[Xq fE]
   exact⟨λ_=>Aw,λ⟨e,sz,es,q⟩=>m7 e sz es q⟩
 refine⟨⟨hh.ext.os,hh.ext.tape,hh.ext.output,by rw[setRow_size];exact hh.ext.size,λj hj hm=>by rw[cT (λe=>by subst e;rcases hbn.1 with q|q;omega;exact hm q)];exact hh.ext.block j hj hm⟩,hh.kept λj _ hn=>cT (λe=>hn k (by rw[e];exact hb)),hh.size,λj c hj=>by rw[setRow_size];exact hh.new j c hj,hh.inj,λj c hj=>?_,λj=>?_,λt=>?_⟩
 ·have⟨q1,q2,q3⟩:=hh.kU j c hj
  refine⟨q1,?_,q3⟩;simp only[St.site]
  cases fE:Nat.beq j k
  ·exact q2
  ·rw[Xq fE]at q2;exact jC q2
 ·have step : ml (w.setRow b cs) (fN w0 blk) blk val st.s (blk j) (val j) ((st.site k x).s j) := by
   cases fE:Nat.beq j k
   ·simp only[St.site,fE,XJ]
    have hs:=hh.site j
    have eW:∀c,blk j=some c->c≠b:=λc hc e=>by
     subst e;have:=hh.inj j k c hc hb;subst this;simp at fE
    cases CE:st.s j with
    | no=>rw[CE]at hs;exact hs
    | box cs'=>
     rw[CE]at hs;have⟨c,e,aK,h1,h2,h3,h4,h5⟩:=hs;exact⟨c,e,aK,h1,by rw[cT (eW c h1)];exact h2,h3,h4,λj d J=>let ⟨v,hv,Y⟩:=h5 j d J;⟨v,hv,cr Y⟩⟩
    | cn cs'=>
     rw[CE]at hs;have⟨c,e,aK,h1,h2,h3,h5⟩:=hs;exact⟨c,e,aK,h1,by rw[cT (eW c h1)];exact h2,h3,λj d J=>let ⟨v,hv,ho,Y⟩:=h5 j d J;⟨v,hv,ho,jB Y⟩⟩
    | mp es c=>
     rw[CE]at hs;have⟨c',h1,h2⟩:=hs;exact⟨c',h1,by rw[cT (eW c' h1)];exact h2⟩
    | row e sz es=>
     rw[CE]at hs;have⟨h1,h2,h3⟩:=hs;exact⟨h1,h2,h3.imp id λ⟨c,aK,cap,k1,k2,k3,k4,k5,k6,k7⟩=>⟨c,aK,cap,k1,k2,k3,k4,by rw[cT (eW c k1)];exact k5,k6,λi x j d hi hj=>let ⟨v,hv,Y⟩:=k7 i x j d hi hj;⟨v,hv,cr Y⟩⟩⟩
   ·simp only[St.site,fE,Yb]
    rw[Xq fE,hb];exact hx
  exact step.to (λ_ _ h=>h) (.inl E) λ_ _ _ _ j _=>dW j
 ·exact(jB (hh.tmp t)).to (λ_ _ h=>h) λj _=>dW j
theorem oq.mem{w:W'}{ok:Nat->Prop}:∀{ds:List D} {vs:List Z3},oq w ok ds vs->(∀(j:Nat) (x:D),ds[j]?=some x->x.sc=true)->∀v∈vs,v.oneCell'=true
 | [],[],_,_,v,hv=>by cases hv
 | d::ds,u::vs,h,hs,v,hv=>by
  rcases Xy.1 hv with rfl|hv
  ·exact h.1.one (hs 0 d E)
  ·exact oq.mem h.2 (λj x hx=>hs (j+1) x (by simpa using hx)) v hv
 | [],_::_,h,_,_,_=>h.elim
 | _::_,[],h,_,_,_=>h.elim
theorem iF{t:Z5}{agg:Bool}{m b o:Nat}{v:Z3}{cur:Array Z3}{e:Z5}{w:W'}(ht:szB P t agg m=true)(hm:v.cells.size=m)(hb:w.heap[b]?=some (.cells cur e (0,0)))(ho:o+m<=cur.size)
  (h1:∀u∈v.cells.toList,u.oneCell'=true):(Instr.storeAt t (.pointer (some ⟨b,o,none⟩)) v).run P w=.ok () (w.setRow b (cur.toList.take o++v.cells.toList++cur.toList.drop (o+m)).toArray):=by
 have:=run_storeCells_at (P:=P) b o e v.cells.toList 0 cur w hb (by simp;omega) h1;simp only[YI,YD,hm]at this;simp[Instr.storeAt,Instr.sureAddr,storeVar,ju ht,hm,this]
def dL(cs:List D)(o:Nat)(xs:List D):List D:=cs.take o++xs++cs.drop (o+xs.length)
theorem ia{α:Type}{l m:List α}{o j:Nat}{x:α}(ho:o+m.length<=l.length)(h:(l.take o++m++l.drop (o+m.length))[j]?=some x) :
  (j<o/\l[j]?=some x)\/(o<=j/\j<o+m.length/\m[j - o]?=some x)\/(o+m.length<=j/\l[j]?=some x):=by
 have hlen:(l.take o).length=o:=by simp;omega
 rcases XP j o with h1|h1
 ·left
  rw[Yr,XZ (by omega),Yq,Xu h1]at h;exact⟨h1,h⟩
 ·right
  rw[Yr,XM (by omega),hlen]at h;rcases XP j (o+m.length) with h2|h2
  ·left
   rw[XZ (by omega)]at h;exact⟨h1,h2,h⟩
  ·right
   rw[XM (by omega),Yk,show o+m.length+(j - o - m.length)=j by omega]at h;exact⟨h2,h⟩
theorem eL{α:Type}{l m:List α}{o j:Nat}{x:α}(ho:o+m.length<=l.length)(h:(j<o/\l[j]?=some x)\/(o<=j/\j<o+m.length/\m[j - o]?=some x)\/(o+m.length<=j/\l[j]?=some x)) :
  (l.take o++m++l.drop (o+m.length))[j]?=some x:=by
 have hlen:(l.take o).length=o:=by simp;omega
 rw[Yr];rcases h with ⟨h1,h⟩|⟨h1,h2,h⟩|⟨h2,h⟩
 ·rw[XZ (by omega),Yq,Xu h1];exact h
 ·rw[XM (by omega),hlen,XZ (by omega)];exact h
 ·rw[XM (by omega),hlen,XM (by omega),Yk,show o+m.length+(j - o - m.length)=j by omega];exact h
theorem ay{t:Z5}{y x:Z6}{agg:Bool}{m k o:Nat}{X:D}{cs cs':List D}(ht:szB P t agg m=true)(hy:st.ev y=.ref k o)(hx:st.ev x=.d X)(hX:X.sc=true\/∃cs,X=.agg cs)(hm:X.cells.length=m)
  (hk:st.s k=.box cs) (ho:o+m<=cs.length) (ep:dL cs o X.cells=cs') (h:tj P w0 ops rest R (st.site k (.box cs'))) :
  tj P w0 ops (⟨none,.store t y x,ty,pos,after,none⟩::rest) R st:=by
 subst ep;refine eG (K:=λs=>s=st.site k (.box (dL cs o X.cells))) E (λa w ⟨blk,val,hh⟩=>?_) (λ_ e=>e ▸ h);have h1:=hh.ev y;rw[hy]at h1;have⟨_,b,hb,hv⟩:=h1;have Y:iN w (fN w0 blk) X (a.eval x):=by have:=hh.ev x;rw[hx]at this;exact this
 have⟨hL,hs⟩:=il Y hX;have eT:=hh.site k;rw[hk]at eT;have⟨b',e,aK,bY,cV,eQ,jO,hc⟩:=eT;rw[hb]at bY;cases bY
 have kY:(a.eval x).cells.size=m:=by rw[<-hm,<-hL.length,YD]
 have bR:=iF (P:=P) (o:=o) ht kY cV (by omega) (hL.mem hs);refine gO (λc hc=>by cases hc) ?_;unfold Oper.wp;rw[show (execOp a.eval ⟨none,.store t y x,ty,pos,after,none⟩).run P w=.ok .skip (w.setRow b (aK.toList.take o++(a.eval x).cells.toList++aK.toList.drop (o+m)).toArray) by simp[execOp,hv,bR]];refine⟨_,rfl,blk,val,hh.setRow hb ?_ (λe sz es he=>by rw[hk]at he;cases he) (by simp)⟩;have WE:aK.toList.length=cs.length:=by simpa using eQ
 have hlc:(a.eval x).cells.toList.length=X.cells.length:=hL.length;refine⟨b,e,_,rfl,iD cV,?_,?_,?_⟩
 ·simp[dL];omega
 ·intro j d J
  rcases ia (by omega) J with ⟨_,h⟩|⟨_,_,h⟩|⟨_,h⟩
  ·exact jO j d h
  ·exact hs _ d h
  ·exact jO j d h
 ·intro j d J
  have cr:∀{d:D} {v:Z3},iN w (fN w0 blk) d v->iN (w.setRow b (aK.toList.take o++(a.eval x).cells.toList++aK.toList.drop (o+m)).toArray) (fN w0 blk) d v:=λh=>
   h.cr (by rw[setRow_size];exact Xw _) (λb' o bg ho=>by rw[cT (λe=>bg.2 k (by rw[e];exact hb))];exact ho) λ_ _ h=>h
  have vO:m=(a.eval x).cells.toList.length:=by omega
  rcases ia (by omega) J with ⟨h1,h⟩|⟨h1,h2,h⟩|⟨h1,h⟩
  ·obtain⟨v,hv,Y⟩:=hc j d h
   refine⟨v,?_,cr Y⟩;rw[vO,XY];exact eL (by omega) (.inl ⟨h1,by simpa using hv⟩)
  ·obtain⟨v,hv,Y⟩:=hL.at_ h
   refine⟨v,?_,cr Y⟩;rw[vO,XY];exact eL (by omega) (.inr (.inl ⟨h1,by omega,hv⟩))
  ·obtain⟨v,hv,Y⟩:=hc j d h
   refine⟨v,?_,cr Y⟩;rw[vO,XY];exact eL (by omega) (.inr (.inr ⟨by omega,by simpa using hv⟩))
inductive JV(P:Z4)(st:St):ResultVar->D->Prop
 | tmp {t:Tmp} {d:D} (h:UF st.s (st.t t) d):JV P st (.tmp t) d
 | dn {t:Tmp} {ty m k:Nat} {cs:List D} (h:st.t t=.ref k 0) (hk:st.s k=.box cs) (hs:szB P ty true m=true) (hl:cs.length=m):JV P st (.cell t ty) (.agg cs)
 | as0 {t:Tmp} {ty m k:Nat} {cs:List T} {ds:List D} (h:st.t t=.ref k 0) (hk:st.s k=.cn cs) (hc:Wq st.s cs ds) (hs:szB P ty true m=true) (hl:ds.length=m):JV P st (.cell t ty) (.agg ds)
 | cell1 {t:Tmp} {ty m k:Nat} {d:D} (h:st.t t=.ref k 0) (hk:st.s k=.box [d]) (hs:szB P ty false m=true):JV P st (.cell t ty) d
inductive rU(P:Z4)(st:St):List ResultVar->List D->Prop
 | nil:rU P st [] []
 | cons {r:ResultVar} {rs:List ResultVar} {d:D} {ds:List D} (h:JV P st r d) (hs:rU P st rs ds):rU P st (r::rs) (d::ds)
def retD:List D->D
 | [d]=>d
 | ds=>.da ds
def VJ(P:Z4)(rs:List ResultVar)(r:D):Exit->St->Prop
 | .ret,st|.normal,st=>∃ds,rU P st rs ds/\r=retD ds
 | _,_=>False
def readVar(tmps:Array Z3):ResultVar->Sem Z3
 | .tmp t=>pure (tmps.getD t undef)
 | .cell a t=>do loadVar t (<-asAddr (tmps.getD a undef))
theorem oV{b:Nat}{cs:Array Z3}{e:Z5}{w:W'}(h:w.heap[b]?=some (.cells cs e (0,0))):(loadCells ⟨b,0,none⟩ cs.size).run P w=.ok cs w:=by
 have:=run_loadCells_list (P:=P) w ⟨b,0,none⟩ cs.toList (λj v hv=>by rw[ei,cell_of_block h,XK];simpa using hv);simpa using this
theorem P5{a:Act}{w:W'}{blk:Nat->Option Nat}{val:Nat->Z3}{r:ResultVar}{d:D}(hh:qx w0 st a w blk val)(h:JV P st r d):∃v,(readVar a.tmps r).run P w=.ok v w/\iN w (λb=>w0.ok b\/Jb w0 b) d v:=by
 cases h with
 | tmp h=>
  rename_i t;exact⟨_,rfl,iN.as' (hh.tmp t) hh.site h (λb hb=>hb.1.imp id .inl) (λk b hb=>.inr (hh.new k b hb).1)⟩
 | dn h hk hs hl=>
  rename_i t ty m k cs;have h1:=hh.tmp t;rw[h]at h1;have⟨_,b,hb,hv⟩:=h1;have h2:=hh.site k;rw[hk]at h2;have⟨b',e,aK,bY,cV,eQ,jO,hc⟩:=h2;rw[hb]at bY;cases bY
  have U8:=oV (P:=P) cV;rw[eQ,hl]at U8;refine⟨.agg aK,?_,?_⟩
  ·simp only[readVar,Sem.run_bind,hv,asAddr,Sem.run_pure,Result.andThen_ok,loadVar,gn hs,Yp,ju hs,U8]
  ·have := iN.agg (w := w) (ok := λb => w0.ok b \/ Jb w0 b) cs aK.toList (by simpa using eQ) jO (λj d v J hv => by
    have⟨u,hu,Y⟩:=hc j d J
    have : u = v := by
     have h3:aK.toList[j]?=some u:=by simpa using hu
     rw[h3]at hv;exact YT hv
    subst this
    exact Y.ok λb _ hb=>hb.1.imp id .inl)
   simpa using this
 | as0 h hk ep hs hl=>
  rename_i t ty m k cs ds;have h1:=hh.tmp t;rw[h]at h1;have⟨_,b,hb,hv⟩:=h1;have h2:=hh.site k;rw[hk]at h2;have⟨b',e,aK,bY,cV,eQ,hc⟩:=h2;rw[hb]at bY;cases bY
  have⟨kY,hcd⟩:=ep.at_;have U8:=oV (P:=P) cV;rw[eQ,kY,hl]at U8;refine⟨.agg aK,?_,?_⟩
  ·simp only[readVar,Sem.run_bind,hv,asAddr,Sem.run_pure,Result.andThen_ok,loadVar,gn hs,Yp,ju hs,U8]
  ·have := iN.agg (w := w) (ok := λb => w0.ok b \/ Jb w0 b) ds aK.toList (by simp; omega) (λj d J => by have ⟨x, _, h⟩ := hcd j d J; exact h.sc) (λj d v J hv => by
    have⟨x,hx,hxd⟩:=hcd j d J;have⟨u,hu,_,Y⟩:=hc j x hx
    have : u = v := by
     have h3:aK.toList[j]?=some u:=by simpa using hu
     rw[h3]at hv;exact YT hv
    subst this
    exact iN.asC Y hh.site hxd (λb hb=>hb.1.imp id .inl) (λk b hb=>.inr (hh.new k b hb).1))
   simpa using this
 | cell1 h hk hs=>
  rename_i t ty m k;have h1:=hh.tmp t;rw[h]at h1;have⟨_,b,hb,hv⟩:=h1;have h2:=hh.site k;rw[hk]at h2;have⟨b',e,aK,bY,cV,eQ,jO,hc⟩:=h2;rw[hb]at bY;cases bY
  obtain⟨v,J2,Y⟩:=hc 0 d E;refine⟨v,?_,Y.ok λb _ hb=>hb.1.imp id .inl⟩;have jE:w.cell? ⟨b,0,none⟩=some v:=by rw[cell_of_block cV];exact J2
  simp only[readVar,Sem.run_bind,hv,asAddr,Sem.run_pure,Result.andThen_ok,loadVar,gn hs];simp[jE]
theorem BX{a:Act}{w:W'}{blk:Nat->Option Nat}{val:Nat->Z3}(hh:qx w0 st a w blk val):∀{rs:List ResultVar} {ds:List D},rU P st rs ds->
  ∃vs:List Z3,(rs.mapM (readVar a.tmps)).run P w=.ok vs w/\oq w (λb=>w0.ok b\/Jb w0 b) ds vs
 | _,_,.nil=>⟨[],rfl,trivial⟩
 | _,_,.cons h hs=>by
  obtain⟨v,h1,h2⟩:=P5 hh h;have⟨vs,h3,h4⟩:=BX hh hs;refine⟨v::vs,?_,h2,h4⟩;rw[List.mapM_cons];simp[h1,h3]
theorem tq{fn:Func}{a:Act}{w:W'}{blk:Nat->Option Nat}{val:Nat->Z3}{rs:List ResultVar}{ds:List D}(hh:qx w0 st a w blk val)(Y:fn.results=rs.toArray)(h:rU P st rs ds) :
  ∃v,(results fn a.tmps).run P w=.ok v w/\iN w (λb=>w0.ok b\/Jb w0 b) (retD ds) v:=by
 have⟨vs,h1,h2⟩:=BX hh h
 have hm:(fn.results.mapM (readVar a.tmps)).run P w=.ok vs.toArray w:=by
  rw[Y,List.mapM_toArray];simp[h1]
 have sL:(results fn a.tmps).run P w=.ok (if h:vs.toArray.size=1 then vs.toArray[0] else .tuple vs.toArray) w:=by
  have:results fn a.tmps=(do let vs <-fn.results.mapM (readVar a.tmps);pure (if h:vs.size=1 then vs[0] else .tuple vs)):=by
   unfold results readVar;rfl
  rw[this];simp only[Sem.run_bind,hm,Result.andThen_ok,Sem.run_pure]
 refine⟨_,sL,?_⟩
 match ds,vs,h2 with
 | [],[],_=>simp[retD];exact iN.da [] [] E (λj d v h=>by simp at h)
 | [d],[v],h2=>simpa [retD] using h2.1
 | d::d'::ds,v::v'::vs,h2=>
  simp[retD];exact iN.da _ (v::v'::vs) (h2.length) λj d v h1 h3=>h2.get j d v h1 h3
def argT:List D->Nat->T
 | [],_=>.un
 | d::ds,k=>match k with
  | 0=>.d d
  | k+1=>argT ds k
def jZ(n:Nat)(args:List D):St:={ n:=n,t:=argT args,s:=λ_=>.no }
theorem wQ{w:W'}{ok:Nat->Prop}{blk:Nat->Option Nat}{val:Nat->Z3}{s:Nat->aH}(m:Nat):∀{ds:List D} {vs:List Z3},oq w ok ds vs->∀k,iV w ok blk val s (argT ds k) ((vs++List.replicate m undef).getD k undef)
 | [],[],_,k=>by
  show _=_
  rw[Yt,X1,List.getElem?_replicate]
  split<;>rfl
 | d::ds,v::vs,h,0=>h.1
 | d::ds,v::vs,h,k+1=>by
  have:=wQ (blk:=blk) (val:=val) (s:=s) m h.2 k;simpa [argT] using this
 | [],_::_,h,_=>h.elim
 | _::_,[],h,_=>h.elim
def shut:List Nat->W'->W'
 | [],w=>w
 | b::ms,w=>shut ms (w.putObj b (.deferred none))
theorem pE{ms:List Nat}{b c:Nat}{w:W'}{o o':Obj}(h1:b∉ms)(hc:c∈ms)(h:w.heap[c]?=some o):(w.putObj b o').heap[c]?=some o:=by
 have eW:c≠b:=λe=>h1 (by rw[<-e];exact hc);rw[World.putObj_heap_other eW];exact h
theorem gB{F:Fence}{m:Nat}{fn:Func}{tmps:Array Z3}{Q:Ending->W'->Prop}:∀(ms:List Nat) (w:W'),ms.Nodup->(∀b∈ms,w.heap[b]?=some (.deferred (some [])))->
  (∃v,(results fn tmps).run P (shut ms w)=.ok v (shut ms w)/\Q (.returned v) (shut ms w))->LeavesInM F m P fn tmps Q (ms.map (λb=>{ target:=.collected b,args:=#[] })) .returning w
 | [],_,_,_,h=>h
 | b::ms,w,hn,hb,h=>by
  have⟨h1,h2⟩:=List.nodup_cons.1 hn;exact⟨by simp,.inl ⟨b,w.putObj b (.deferred none),rfl,run_takeDeferred (hb b (by simp)),gB ms _ h2 (λc hc=>pE h1 hc (hb c (by simp[hc]))) h⟩⟩
theorem zF:∀(ms:List Nat) (w:W'),ms.Nodup->(∀b∈ms,w.heap[b]?=some (.deferred (some [])))->CK w (shut ms w)/\(shut ms w).heap.size=w.heap.size/\(shut ms w).os=w.os/\(shut ms w).tape=w.tape/\(shut ms w).output=w.output/\∀k,k∉ms->(shut ms w).heap[k]?=w.heap[k]?
 | [],w,_,_=>⟨⟨Xw _,λ_ _ _ _ h=>h,λ_ _ _ h=>h⟩,rfl,rfl,rfl,rfl,λ_ _=>rfl⟩
 | b::ms,w,hn,hb=>by
  have⟨h1,h2⟩:=List.nodup_cons.1 hn;obtain⟨⟨a1,a2,a8⟩,a3,a4,a5,a6,a7⟩:=zF ms (w.putObj b (.deferred none)) h2 (λc hc=>pE h1 hc (hb c (by simp[hc])));rw[World.putObj_size]at a1 a3;refine⟨⟨a1,λc aK e z hc=>a2 c aK e z ?_,λc es z hc=>a8 c es z ?_⟩,a3,a4,a5,a6,λk hk=>?_⟩
  ·rw[World.putObj_heap_other (λe'=>?_)]
   ·exact hc
   ·subst e';rw[hb c (by simp)]at hc;cases hc
  ·rw[World.putObj_heap_other (λe'=>?_)]
   ·exact hc
   ·subst e';rw[hb c (by simp)]at hc;cases hc
  ·simp only[Xy,not_or]at hk
   exact(a7 k hk.2).trans (World.putObj_heap_other hk.1)
theorem Holds.shut{st:St}{a:Act}{w:W'}(h:Holds w0 st a w)(hf:w0.fix=λ_=>none):∃ms:List Nat,a.defers=ms.map (λb=>{ target:=.collected b,args:=#[] })/\ms.Nodup/\(∀b∈ms,w.heap[b]?=some (.deferred (some [])))/\
  Holds w0 st { a with defers:=[] } (shut ms w):=by
 obtain⟨blk,val,hh⟩:=h;have⟨ms,h1,h2,h3⟩:=hh.defers.marks;have h4:=λb hb=>(h3 b hb).2;have⟨a1,a2,a3,a4,a5,a6⟩:=zF ms w h2 h4;refine⟨ms,h1,h2,h4,blk,val,⟨a3.trans hh.ext.os,a4.trans hh.ext.tape,a5.trans hh.ext.output,XQ hh.ext.size a1.size,λk hk hm=>?_⟩,Kept.nil E hf,hh.size,λs b hb=>⟨(hh.new s b hb).1,by rw[a2];exact(hh.new s b hb).2⟩,hh.inj,hh.kU,λs=>(hh.site s).ky a1,λt=>(hh.tmp t).ky a1⟩
 rw[a6 k λkX=>by
  rcases(h3 k kX).1 with q|q
  ·omega
  ·exact hm q]
 exact hh.ext.block k hk hm
theorem Ca{G:W'->Prop}(hk:at2 G){f:ϋ}{fn:Func}{c:Code}{n:Nat}{args:List D}{r:D}{rs:List ResultVar}(hf:P.funcs[f]?=some fn)(hb:fn.body=some c)(hn:fn.ntmps=n)(qH:fn.results=rs.toArray)(hl:args.length<=n)
  (h:∀w0:Cx,(∀b,w0.mine b->w0.ok b)->w0.uk=none->(∀k,w0.kU k=none)->(∀w,Oy w0 w->G w)->dG P w0 c (VJ P rs r) (jZ n args)):PCG P G f args r:=by
 intro w ok vs hg hL;refine(callsIn_wide (n:=1)).1 (callsIn_of_wp_marks hf hb trivial ?_ E)
 have h0:qx ⟨w,ok,λ_=>False,λ_=>none,λ_=>none,none⟩ (jZ n args) { tmps:=vs.toArray++Array.replicate (fn.ntmps - vs.toArray.size) undef,defers:=[] } w (λ_=>none) (λ_=>undef):=by
  refine⟨⟨rfl,rfl,rfl,Xw _,λ_ _ _=>rfl⟩,Kept.nil E E,?_,λs b h=>by simp at h,λs s' b h=>by simp at h,(λk b h=>by cases h),λs=>rfl,λt=>?_⟩
  ·have:=hL.length
   simp[jZ,hn];omega
  ·have:=wQ (blk:=λ_=>none) (val:=λ_=>undef) (s:=λ_=>aH.no) (fn.ntmps - vs.toArray.size) (oq.of (ok:=fN ⟨w,ok,λ_=>False,λ_=>none,λ_=>none,none⟩ λ_=>none) hL.length λj d v h1 h2=>(hL.get j d v h1 h2).ok λb _ hb=>⟨.inl hb,λs h=>by cases h⟩) t
   have e:(vs.toArray++Array.replicate (fn.ntmps - vs.toArray.size) undef)=(vs++List.replicate (fn.ntmps - vs.toArray.size) undef).toArray:=by simp
   show iV _ _ _ _ _ _ ((vs.toArray++Array.replicate (fn.ntmps - vs.toArray.size) undef).getD t undef)
   rw[e,XN,XY,<-X1];exact this
 refine wpIn_mono (h ⟨w,ok,λ_=>False,λ_=>none,λ_=>none,none⟩ (λ_ h=>h.elim) E (λ_=>rfl) (λw' hx=>hk w w' hg ⟨hx.os,hx.tape,hx.output,hx.size,λk hk=>hx.block k hk (λh=>h)⟩) Fence.wide 1 ⟨.inl E,rfl⟩ _ w ⟨_,_,h0⟩) λe a w' ⟨st',hR,hH⟩=>?_
 cases e with
 | normal=>
  obtain⟨ds,J,rfl⟩:=hR;obtain⟨ms,m1,m2,m3,blk,val,hh⟩:=hH.shut E;obtain⟨v,h1,h2⟩:=tq hh qH J;show LeavesInM _ _ _ _ _ _ _ _ _
  rw[m1];exact gB ms w' m2 m3 ⟨v,h1,v,rfl,⟨hh.ext.os,hh.ext.tape,hh.ext.output,hh.ext.size,λk hk=>hh.ext.block k hk (λh=>h)⟩,h2.ok λb _ hb=>hb.imp id λh=>h.resolve_right (λh=>h)⟩
 | ret=>
  obtain⟨ds,J,rfl⟩:=hR;obtain⟨ms,m1,m2,m3,blk,val,hh⟩:=hH.shut E;obtain⟨v,h1,h2⟩:=tq hh qH J;show LeavesInM _ _ _ _ _ _ _ _ _
  rw[m1];exact gB ms w' m2 m3 ⟨v,h1,v,rfl,⟨hh.ext.os,hh.ext.tape,hh.ext.output,hh.ext.size,λk hk=>hh.ext.block k hk (λh=>h)⟩,h2.ok λb _ hb=>hb.imp id λh=>h.resolve_right (λh=>h)⟩
 | exit id=>exact hR.elim
 | goto l=>exact hR.elim
 | panic c=>exact hR.elim
 | outgrown=>exact hR.elim
theorem aY{f:ϋ}{fn:Func}{c:Code}{n:Nat}{args:List D}{r:D}{rs:List ResultVar}(hf:P.funcs[f]?=some fn)(hb:fn.body=some c)(hn:fn.ntmps=n)(qH:fn.results=rs.toArray)
  (h:∀w0:Cx,(∀b,w0.mine b->w0.ok b)->w0.uk=none->(∀k,w0.kU k=none)->dG P w0 c (VJ P rs r) (jZ n args))(hl:args.length<=n:=by simp):PC P f args r:=
 λw ok vs hL=>Ca (G:=λ_=>True) (λ_ _ _ _=>trivial) hf hb hn qH hl (λw0 h1 h2 h3 _=>h w0 h1 h2 h3) w ok vs trivial hL
theorem av{f:ϋ}{fn:Func}{c:Code}{n:Nat}{args:List D}{r:D}{rs:List ResultVar}(hf:P.funcs[f]?=some fn)(hb:fn.body=some c)(hn:fn.ntmps=n)(qH:fn.results=rs.toArray)
 (h:∀w0:Cx,dG P w0 c (VJ P rs r) (jZ n args))(hl:args.length<=n:=by simp):PC P f args r:=aY hf hb hn qH (λw0 _ _ _=>h w0) hl
end
section
variable{P:Z4}{w0:Cx}{st st':St}{l os:List Z8}{n i:Nat}{e:Nat->T}{K:St->Prop}{dst:Option Tmp}{op:Op}{ty:Z5}{pos:String}{after:Array Edge}
theorem aw(h:K st'):wK P w0 st l n [] i e st' K:=h
theorem V{x:T}(hq:QOp P w0 st.n st.s (evAt st l n e i ⟨dst,op,ty,pos,after,none⟩ []) ⟨dst,op,ty,pos,after,none⟩ x)(h:wK P w0 st l n os (i+1) (upd e i x) (st'.put dst x) K) :
  wK P w0 st l n (⟨dst,op,ty,pos,after,none⟩::os) i e st' K:=
 ⟨x,(λj b h=>by cases h),λ_=>.inl hq,h⟩
theorem aE{j:Nat}{b c:Bool}{x:T}{gs:List (Nat × Bool)}(hg:p7 l i=gs)(hc:e j=T.bool c)(hq:GH e gs->QOp P w0 st.n st.s (evAt st l n e i ⟨dst,op,ty,pos,after,some (j,b)⟩ gs) ⟨dst,op,ty,pos,after,some (j,b)⟩ x)
  (h:wK P w0 st l n os (i+1) (upd e i x) (st'.put dst .dead) K):wK P w0 st l n (⟨dst,op,ty,pos,after,some (j,b)⟩::os) i e st' K:=
 ⟨x,(λj' b' h=>by cases h;exact⟨c,hc⟩),(λhG=>.inl (by subst hg;exact hq hG)),h⟩
theorem aT{tc jc:Nat}{a b:Z6}{cb p q:Bool}(hp:cw l n tc=some jc)(ha:dS ⟨dst,.pick (.tmp tc) a b,ty,pos,after,none⟩ jc=true)(hx:e jc=T.bool cb)
  (hc:evAt st l n e i ⟨dst,.pick (.tmp tc) a b,ty,pos,after,none⟩ [] (.tmp tc)=T.bool cb)
  (h1:evAt st l n e i ⟨dst,.pick (.tmp tc) a b,ty,pos,after,none⟩ [(jc,true)] a=T.bool p)
  (h2:evAt st l n e i ⟨dst,.pick (.tmp tc) a b,ty,pos,after,none⟩ [(jc,false)] b=T.bool q)
  (h:wK P w0 st l n os (i+1) (upd e i (T.bool (bif cb then p else q))) (st'.put dst (T.bool (bif cb then p else q))) K):wK P w0 st l n (⟨dst,.pick (.tmp tc) a b,ty,pos,after,none⟩::os) i e st' K:=
 ⟨_,(λj b h=>by cases h),λ_=>.inr ⟨tc,a,b,jc,cb,p,q,rfl,hp,ha,hx,hc,h1,h2,rfl⟩,h⟩
theorem vb{tc jc j:Nat}{g:Bool}{a b:Z6}{cb p q c:Bool}{gs:List (Nat × Bool)}(hg:p7 l i=gs)(hcj:e j=T.bool c)(hp:cw l n tc=some jc)(ha:dS ⟨dst,.pick (.tmp tc) a b,ty,pos,after,some (j,g)⟩ jc=true)(hx:e jc=T.bool cb)
  (hc:evAt st l n e i ⟨dst,.pick (.tmp tc) a b,ty,pos,after,some (j,g)⟩ gs (.tmp tc)=T.bool cb)
  (h1:evAt st l n e i ⟨dst,.pick (.tmp tc) a b,ty,pos,after,some (j,g)⟩ ((jc,true)::gs) a=T.bool p)
  (h2:evAt st l n e i ⟨dst,.pick (.tmp tc) a b,ty,pos,after,some (j,g)⟩ ((jc,false)::gs) b=T.bool q)
  (h:wK P w0 st l n os (i+1) (upd e i (T.bool (bif cb then p else q))) (st'.put dst .dead) K):wK P w0 st l n (⟨dst,.pick (.tmp tc) a b,ty,pos,after,some (j,g)⟩::os) i e st' K:=
 ⟨_,(λj' b' h=>by cases h;exact⟨c,hcj⟩),λ_=>.inr ⟨tc,a,b,jc,cb,p,q,rfl,hp,ha,hx,by subst hg;exact hc,by subst hg;exact h1,by subst hg;exact h2,rfl⟩,h⟩
theorem oq.take{w:W'}{ok:Nat->Prop}:∀(m:Nat) {ds:List D} {vs:List Z3},oq w ok ds vs->oq w ok (ds.take m) (vs.take m)
 | 0,_,_,_=>by simp[oq]
 | m+1,[],[],_=>by simp[oq]
 | m+1,_::_,_::_,h=>⟨h.1,oq.take m h.2⟩
 | _+1,[],_::_,h=>h.elim
 | _+1,_::_,[],h=>h.elim
theorem oq.drop{w:W'}{ok:Nat->Prop}:∀(m:Nat) {ds:List D} {vs:List Z3},oq w ok ds vs->oq w ok (ds.drop m) (vs.drop m)
 | 0,_,_,h=>h
 | m+1,[],[],_=>by simp[oq]
 | m+1,_::_,_::_,h=>oq.drop m h.2
 | _+1,[],_::_,h=>h.elim
 | _+1,_::_,[],h=>h.elim
theorem oq.dL{w:W'}{ok:Nat->Prop}{cs xs:List D}{vs us:List Z3}{o:Nat}(h:oq w ok cs vs)(k:oq w ok xs us):oq w ok (dL cs o xs) (vs.take o++us++vs.drop (o+us.length)):=by
 unfold Go.Proofs.YthcfokccjljnpaaGreat.Am.dL;rw[k.length];exact((h.take o).append k).append (h.drop _)
def oU(cs:List D):Prop:=∀d∈cs,d.sc=true
theorem oU.dL{cs xs:List D}{o:Nat}(h:oU cs)(k:oU xs):oU (dL cs o xs):=by
 intro d J;unfold Go.Proofs.YthcfokccjljnpaaGreat.Am.dL at J;rcases YV.1 J with J|J
 ·rcases YV.1 J with J|J
  ·exact h d (List.mem_of_mem_take J)
  ·exact k d J
 ·exact h d (List.mem_of_mem_drop J)
theorem ni(off:Nat):∀(vs:List Z3) (k:Nat) (cells:Array Z3),off+k+vs.length<=cells.size->
  ((vs.zipIdx k).foldl (λcs (x:Z3 × Nat)=>cs.setIfInBounds (off+x.2) x.1) cells).toList=cells.toList.take (off+k)++vs++cells.toList.drop (off+k+vs.length)
 | [],k,cells,_=>by simp
 | v::vs,k,cells,h=>by
  simp only[XH]at h;rw[List.zipIdx_cons,List.foldl_cons,ni off vs (k+1) _ (by simp;omega)];have hk:off+k<cells.toList.length:=by simp;omega
  simp only[Array.toList_setIfInBounds];rw[show off+(k+1)=off+k+1 by omega,List.take_add_one];simp only[XH,List.getElem?_set_self hk,Option.toList_some];rw[List.take_set_of_le (Xw _),List.drop_set_of_lt (by omega),show off+k+1+vs.length=off+k+(vs.length+1) by omega];simp
def fillD(pl:Nat->Option (Nat × Nat))(cs:List D):List (Nat × D)->List D
 | []=>cs
 | (i,d)::ps=>match pl i with
  | some (off,_)=>fillD pl (dL cs off d.cells) ps
  | none=>[]
def wF(pl:Nat->Option (Nat × Nat))(m:Nat):List (Nat × D)->Prop
 | []=>True
 | (i,d)::ps=>(match pl i with|some (off,sz)=>d.cells.length=sz/\off+sz<=m|none=>False)/\wF pl m ps
inductive pR(ev:Z6->T):List (Nat × Z6)->List (Nat × D)->Prop
 | nil:pR ev [] []
 | cons {i:Nat} {y:Z6} {ys:List (Nat × Z6)} {x:D} {xs:List (Nat × D)} (h:ev y=.d x) (hx:x.sc=true\/∃cs,x=.agg cs) (hs:pR ev ys xs):pR ev ((i,y)::ys) ((i,x)::xs)
theorem lT{cs xs:List D}{o:Nat}(h:o+xs.length<=cs.length):(dL cs o xs).length=cs.length:=by
 simp[dL];omega
end
section
variable{P:Z4}{w0:Cx}{n:Nat}{s:Nat->aH}{ev:Z6->T}{dst:Option Tmp}{ty:Z5}{pos:String}{after:Array Edge}{g:Option (Nat × Bool)}
theorem rk{w:W'}{ok:Nat->Prop}{blk:Nat->Option Nat}{val:Nat->Z3}{a:Act}(hy:∀y,iV w ok blk val s (ev y) (a.eval y)){pl:Nat->Option (Nat × Nat)}:∀{ys:List (Nat × Z6)} {xs:List (Nat × D)} {cs:List D} {cells:Array Z3},pR ev ys xs->oq w ok cs cells.toList->oU cs->wF pl cs.length xs->
  ∃out,Instr.fill pl cells (ys.map λ(i,y)=>(i,a.eval y))=some out/\oq w ok (fillD pl cs xs) out.toList/\oU (fillD pl cs xs)
 | _,_,cs,cells,.nil,hL,hS,_=>⟨cells,rfl,hL,hS⟩
 | _,_,cs,cells,.cons (i:=i) (y:=y) (x:=x) h hx hs,hL,hS,bg=>by
  have⟨h1,h2⟩:=bg
  cases hp:pl i with
  | none=>simp only[hp]at h1
  | some os=>
   have⟨off,sz⟩:=os;simp only[hp]at h1;have Y:iN w ok x (a.eval y):=by have:=hy y;rw[h]at this;exact this
   have⟨hc,ep⟩:=il Y hx;have hlen:=hc.length;have kY:=hL.length;simp only[YD]at hlen kY;have U2:=ni off (a.eval y).cells.toList 0 cells (by simp;omega);simp only[YI,YD]at U2
   have Na:((a.eval y).cells.zipIdx.foldl (λcs (x:Z3 × Nat)=>cs.setIfInBounds (off+x.2) x.1) cells)=(((a.eval y).cells.toList.zipIdx 0).foldl (λcs (x:Z3 × Nat)=>cs.setIfInBounds (off+x.2) x.1) cells):=by
    rw[<-Zb];simp
   obtain⟨out,k1,k2,k3⟩:=rk hy (pl:=pl) (cs:=dL cs off x.cells) (cells:=((a.eval y).cells.zipIdx.foldl (λcs (x:Z3 × Nat)=>cs.setIfInBounds (off+x.2) x.1) cells)) hs (by
    rw[Na,U2];have:=hL.dL (o:=off) hc
    simpa using this) (hS.dL λd J=>by
     have⟨j,hj⟩:=YH J
     exact ep j d hj) (by rw[lT (by omega)];exact h2)
   refine⟨out,?_,by simpa [fillD,hp] using k2,by simpa [fillD,hp] using k3⟩;simp only[Yd,Instr.fill,hp];rw[Xr (by simp;omega)];exact k1
def uu(P:Z4)(t:Z5)(pl:List (Nat × Nat)):Bool:=
 match P.underlying t with
 | some (.struct fs)=>(fs.toList.map λf=>(f.offset,P.cellsOf f.type))==pl&&fs.toList.all λf=>(P.info? f.type).isSome
 | _=>false
theorem tu{t:Z5}(h:(P.info? t).isSome=true)(w:W'):(sizeOf t).run P w=.ok (P.cellsOf t) w:=by
 cases hi:P.info? t with
 | none=>simp[hi]at h
 | some i=>simp[sizeOf,bO hi,Program.cellsOf,hi]
theorem run_places(w:W'):∀(fs:List Field),(fs.all λf=>(P.info? f.type).isSome)=true->(fs.mapM λf=>Functor.map (Prod.mk f.offset) (sizeOf f.type)).run P w=.ok (fs.map λf=>(f.offset,P.cellsOf f.type)) w
 | [],_=>rfl
 | f::fs,h=>by
  simp only[Ze,Xs]at h;rw[List.mapM_cons];simp[tu h.1,run_places w fs h.2]
theorem mb{w:W'}{ok:Nat->Prop}{z:Z3}(h:z.cells.toList.all Value.oneCell'=true):oq w ok (dK z) z.cells.toList/\oU (dK z):=by
 unfold dK;generalize z.cells.toList=vs at *;refine⟨?_,λd J=>?_⟩
 ·induction vs with
  | nil=>trivial
  | cons v vs ih=>
   simp only[Ze,Xs]at h;exact⟨.v v h.1,ih h.2⟩
 ·obtain⟨v,_,rfl⟩:=X6.1 J;rfl
theorem bz{t:Z5}{pl:List (Nat × Nat)}{z:Z3}{parts:List (Nat × Z6)}{pA:List (Nat × D)}{cs:List D}(hp:uu P t pl=true)(hz:eC P t z)(h1:z.cells.toList.all Value.oneCell'=true)
  (FV:pR ev parts pA) (bg:wF (pl[·]?) (dK z).length pA) (ep:fillD (pl[·]?) (dK z) pA=cs):QOp P w0 n s ev ⟨dst,.build t parts.toArray,ty,pos,after,g⟩ (.d (.agg cs)):=
 .mk λa w ok blk val h _ qW=>by
  subst ep;have⟨eA,eM⟩:=mb (w:=w) (ok:=ok) h1;obtain⟨out,k1,k2,k3⟩:=rk h (pl:=(pl[·]?)) (cells:=z.cells) FV eA eM bg;refine⟨.agg out,w,?_,Ext.refl w,?_⟩
  ·unfold uu at hp
   cases hu:P.underlying t with
   | none=>simp[hu]at hp
   | some d=>
    cases d<;>simp only[hu,XO]at hp
    rename_i fs;simp only[Xs,beq_iff_eq]at hp
    have hm:(fs.mapM λf=>(do pure (f.offset,<-sizeOf f.type):Sem (Nat × Nat))).run P w=.ok pl.toArray w:=by
     rw[<-hp.1];have:=run_places (P:=P) w fs.toList hp.2;have he:(λf:Field=>(do pure (f.offset,<-sizeOf f.type):Sem (Nat × Nat)))=λf=>Functor.map (Prod.mk f.offset) (sizeOf f.type):=by funext f;rw[<-bind_pure_comp]
     rw[he]
     conv=>lhs;rw[<-Array.toArray_toList (xs:=fs)]
     rw[List.mapM_toArray];simp[this]
    have QV:(λi=>(pl.toArray[i]?:Option (Nat × Nat)))=(λi:Nat=>pl[i]?):=by funext i;simp
    simp only[execOp,Instr.build,Sem.run_bind,iE hz,Result.andThen_ok,run_underlying hu,hm];have:(parts.toArray.map λ(x:Nat × Z6)=>(x.1,a.eval x.2)).toList=parts.map λ(i,y)=>(i,a.eval y):=by simp
    rw[this];simp only[QV,k1];simp
  ·have:=iN.agg (w:=w) (ok:=ok) _ out.toList k2.length (λj d J=>k3 d (XA J)) λj d v h1 h2=>k2.get j d v h1 h2
   show iN _ _ _ _
   simpa using this
theorem aB{α:Type}(xs:List (List α))(sz:Nat)(h:∀x∈xs,x.length=sz)(i j:Nat)(x:List α)(hx:xs[i]?=some x)(hj:j<sz):xs.flatten[i*sz+j]?=x[j]?:=by
 induction xs generalizing i with
 | nil=>simp at hx
 | cons y ys ih=>
  have hy:=h y (by simp)
  cases i with
  | zero=>
   simp only[ZJ,XS]at hx;subst hx;rw[ZP,ZV,XK,XZ (by omega)]
  | succ i=>
   rw[ZP,XM (by rw[hy,Zf];omega),hy,show (i+1)*sz+j - sz=i*sz+j by rw[Zf];omega];exact ih (λx hx=>h x (by simp[hx])) i (by simpa using hx)
theorem iN.ac0{w:W'}{ok:Nat->Prop}{sz b:Nat}{es:List (List D)}{out:Array Z3}{e:Z5}(eQ:∀x∈es,x.length=sz)(hL:oq w ok es.flatten out.toList)(hS:oU es.flatten)(hb:w.heap[b]?=some (.cells out e (0,0)))(bg:ok b)(Ax:es.length<=maxLen) :
  iN w ok (.sl sz es) (.slice (some ⟨b,0,none⟩) es.length es.length):=by
 have key:∀(i:Nat) (x:List D) (j:Nat) (d:D),es[i]?=some x->x[j]?=some d->es.flatten[i*sz+j]?=some d:=λi x j d hi hj=>by
  have CC:=eQ x (XA hi);have mB:=(Xt.1 hj).1;rw[aB es sz eQ i j x hi (by omega)];exact hj
 exact .sl sz es b 0 es.length (λi j=>out.getD (i*sz+j) undef) (bI hb) bg (Xw _) Ax (λi x hx=>eQ x (XA hx)) (λi x j d hi hj=>hS d (XA (key i x j d hi hj))) (λi x j d hi hj=>by
  obtain⟨v,hv,_⟩:=hL.at_ (key i x j d hi hj);have yJ:out[i*sz+j]?=some v:=by simpa using hv
  rw[cell_of_block hb,XK,yJ,cO yJ]) (λi x j d hi hj=>by
  obtain⟨v,hv,Y⟩:=hL.at_ (key i x j d hi hj);have yJ:out[i*sz+j]?=some v:=by simpa using hv
  rw[cO yJ];exact Y)
theorem wG{sz:Nat}:∀{pA:List (Nat × D)} {k m:Nat} {cs:List D},(∀j (p:Nat × D),pA[j]?=some p->p.1=k+j/\p.2.cells.length=sz)->cs.length=m*sz->k+pA.length=m->
  fillD (λi=>some (i*sz,sz)) cs pA=cs.take (k*sz)++(pA.map λp=>p.2.cells).flatten
 | [],k,m,cs,_,hl,hk=>by
  simp only[XL,YI]at hk;subst hk;simp[fillD,<-hl]
 | (i,d)::pA,k,m,cs,h,hl,hk=>by
  have⟨h1,h2⟩:=h 0 (i,d) E;simp only[YI]at h1 h2;subst h1;simp only[XH]at hk
  have hle:i*sz+d.cells.length<=cs.length:=by
   rw[hl,h2];have:(i+1)*sz<=m*sz:=X7 _ (by omega);rw[Zf]at this;exact this
  have ih:=wG (sz:=sz) (pA:=pA) (k:=i+1) (m:=m) (cs:=dL cs (i*sz) d.cells) (λj p hj=>by
   obtain⟨q1,q2⟩:=h (j+1) p (by simpa using hj)
   exact⟨by omega,q2⟩) (by rw[lT hle,hl]) (by omega)
  simp only[fillD,ih,Yd,ZP]
  have:(dL cs (i*sz) d.cells).take ((i+1)*sz)=cs.take (i*sz)++d.cells:=by
   unfold dL;have bH:(cs.take (i*sz)++d.cells).length=(i+1)*sz:=by rw[XI,Ya,h2,Zf];omega
   rw[<-bH,List.take_left]
  rw[this,Yr]
def CB(sz:Nat):Nat->List (Nat × D)->Prop
 | _,[]=>True
 | k,(i,d)::ps=>i=k/\d.cells.length=sz/\CB sz (k+1) ps
theorem CB.spec{sz:Nat}:∀{k:Nat} {pA:List (Nat × D)},CB sz k pA->∀j (p:Nat × D),pA[j]?=some p->p.1=k+j/\p.2.cells.length=sz
 | _,[],_,j,p,h=>by simp at h
 | k,(i,d)::ps,hh,0,p,h=>by simp at h;subst h;exact⟨hh.1,hh.2.1⟩
 | k,(i,d)::ps,hh,j+1,p,h=>by
  obtain⟨h1,h2⟩:=CB.spec hh.2.2 j p (by simpa using h);exact⟨by omega,h2⟩
theorem bu{t:Z5}{m e sz:Nat}{z:Z3}{parts:List (Nat × Z6)}{pA:List (Nat × D)}{es:List (List D)}(ht:slB P t e sz=true)(hz:eC P e z)(h1:z.cells.toList.all Value.oneCell'=true)(Jo:z.cells.size=sz)(Jq:0<sz)
  (FV:pR ev parts pA) (aj6:CB sz 0 pA) (hm:pA.length=m) (ay7:m*sz<=16777216) (oL:(pA.map λp=>p.2.cells)=es):QOp P w0 n s ev ⟨dst,.buildSlice t m parts.toArray,ty,pos,after,g⟩ (.d (.sl sz es)):=
 .mk λa w ok blk val h _ qW=>by
  subst oL;have M6:∀j (p:Nat × D),pA[j]?=some p->p.1=j/\p.2.cells.length=sz:=λj p h=>by simpa using aj6.spec j p h
  have hzl:z.cells.toList.length=sz:=by simpa using Jo
  let zc:Array Z3:=(Array.range (m*sz)).map (z.cells[· % z.cells.size]!)
  have hzc:oq w (ok) ((List.range (m*sz)).map λj=>D.v (z.cells[j % z.cells.size]!)) zc.toList/\oU ((List.range (m*sz)).map λj=>D.v (z.cells[j % z.cells.size]!)):=by
   refine⟨oq.of (by simp[zc]) λj d v J hv=>?_,λd J=>?_⟩
   ·have hj:=(Xt.1 J).1
    simp at hj;simp[hj]at J;simp[zc,hj]at hv;subst J;subst hv;refine .v _ ?_;have bH:j % z.cells.size<z.cells.size:=Zp _ (by omega);have:=X0.1 h1 z.cells[j % z.cells.size] (by simp);simpa [bH] using this
   ·obtain⟨j,_,rfl⟩:=X6.1 J;rfl
  have SD:((List.range (m*sz)).map λj=>D.v (z.cells[j % z.cells.size]!)).length=m*sz:=by simp
  have hfo:∀(qs:List (Nat × D)),(∀p∈qs,p.1<m/\p.2.cells.length=sz)->wF (λi=>some (i*sz,sz)) (m*sz) qs:=by
   intro qs
   induction qs with
   | nil=>intro _;trivial
   | cons p qs ih=>
    obtain⟨i,d⟩:=p;intro hq;obtain⟨q1,q2⟩:=hq (i,d) (by simp);refine⟨⟨q2,?_⟩,ih λp hp=>hq p (by simp[hp])⟩;have:(i+1)*sz<=m*sz:=X7 _ q1;rw[Zf]at this;exact this
  obtain⟨out,k1,k2,k3⟩:=rk h (pl:=λi=>some (i*sz,sz)) (cells:=zc) FV hzc.1 hzc.2 (by
   rw[SD];refine hfo _ λp hp=>?_;have⟨j,hj⟩:=YH hp;have mB:=(Xt.1 hj).1;have⟨q1,q2⟩:=M6 j p hj
   exact⟨by omega,q2⟩)
  have HU:=wG (sz:=sz) (pA:=pA) (k:=0) (m:=m) (cs:=(List.range (m*sz)).map λj=>D.v (z.cells[j % z.cells.size]!)) (λj p hj=>by simpa using M6 j p hj) SD (by omega);rw[ZV,List.take_zero,Yt]at HU;rw[HU]at k2 k3;have hE:Ext w (w.alloc (.cells out e)):=(Ext.refl w).alloc _;refine⟨.slice (some ⟨w.heap.size,0,none⟩) m m,w.alloc (.cells out e),?_,hE,?_⟩
  ·have⟨inf,hi,tZ⟩:=gj ht
   have hlen:¬m*sz > 2 ^ 24:=by omega
   have MS:(parts.toArray.map λ(x:Nat × Z6)=>(x.1,a.eval x.2)).toList=parts.map λ(i,y)=>(i,a.eval y):=by simp
   by_cases h0:m*sz=0
   ·have eE:zc=#[]:=by simp[zc,h0]
    rw[eE]at k1;have Js:Array.range 0=#[]:=rfl;simp only[execOp,Instr.buildSlice,Sem.run_bind,run_underlying (cJ ht),Result.andThen_ok,sizeOf,bO hi,Sem.run_pure,tZ,Sem.run_ite,Xr hlen,MS,h0,Yp,Js];have hma:∀f:Nat->Z3,Array.map f #[]=#[]:=λf=>by simp
    simp only[hma,k1];simp[newRow]
   ·simp only[execOp,Instr.buildSlice,Sem.run_bind,run_underlying (cJ ht),Result.andThen_ok,sizeOf,bO hi,Sem.run_pure,tZ,Sem.run_ite,Xr hlen,MS,Xr h0,iE hz]
    have Wz:=k1;simp only[zc]at Wz;simp only[Wz];simp[newRow]
  ·have := iN.ac0 (w := w.alloc (.cells out e)) (ok := ok) (sz := sz) (b := w.heap.size) (es := pA.map λp => p.2.cells) (out := out) (e := e) (λx hx => by
     obtain⟨p,hp,rfl⟩:=X6.1 hx;have⟨j,hj⟩:=YH hp;exact(M6 j p hj).2) (oq.of k2.length λj d v h1 h2=>(k2.get j d v h1 h2).ext hE λ_ _ h=>h) k3 (fj _ _) (qW _ (Xw _)) (by
     have h5:m<=m*sz:=Nat.le_mul_of_pos_right _ Jq
     simp[maxLen];omega)
   rw[Xo,hm]at this;exact this
theorem E'{X:D}(h:X.sc=true:=by rfl):X.sc=true\/∃cs,X=.agg cs:=.inl h
theorem H'{cs:List D}:(D.agg cs).sc=true\/∃c,D.agg cs=.agg c:=.inr ⟨_,rfl⟩
theorem I'{s:Nat->aH}{x:D}:UF s (.d x) x:=.d _
end
end Go.Proofs.YthcfokccjljnpaaGreat.Am
