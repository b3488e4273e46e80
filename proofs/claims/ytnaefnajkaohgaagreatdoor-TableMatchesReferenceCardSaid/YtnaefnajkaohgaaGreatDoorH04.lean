/- 4 -/
import Derived.Test.YtnaefnajkaohgaaGreatDoorH03
set_option linter.all false
namespace Go.AL
open Go
section
variable{P:Program}{G:GT}{c:Ctx}{w:World}{env:fQ}{a:Act}{N:Nat}
def OF{o:Oper}{io:gP}(hc:mr P G o=some io)(h:Cx io=true):∃ cl,o.op = .call cl:=by
 unfold mr at hc
 split at hc
 all_goals first|exact⟨_,by assumption⟩|skip
 all_goals exfalso
 all_goals try simp only[ax,ae,aG]at hc
 all_goals (repeat' first|(obtain⟨_,_,hc⟩:=hc)|split at hc|simp only[ae]at hc)
 all_goals first|(simp[Cx]at h;done)|(cases hc<;>simp[Cx]at h)
def I'{H:U}(eM:e9 G c H w)(he:jW c w env a){o:Oper}{io:gP}(hc:mr P G o=some io){f:FuncId}{args:List D}(iT:jA env io=some (f,args))(kS:qj P f=true) :
  ∃ vs:List Value,(execOp a.eval o).run P w = .ok (.enter f vs.toArray) w∧iy c w vs args:=by
 have HE:=hc
 unfold mr at hc
 cases ho:o.op with
 | call cl=>
  simp only[ho,ax,ae]at hc
  obtain⟨xs,qK,hc⟩:=hc
  have ie:=w7 eM he cl.args.toList qK
  split at hc
  ·rename_i g xB
   split at hc
   ·have W7:g=f∧List.map (ev env) xs=args:=by
     cases hc
     have hb:jA env (if G.nw g=true then gP.callN g xs else gP.call g xs)=some (g,xs.map (ev env)):=by split<;>rfl
     rw[hb]at iT
     simpa using iT
    obtain⟨rfl,rfl⟩:=W7
    refine⟨_,?_,ie⟩
    have e:cl.args.map a.eval=(cl.args.toList.map a.eval).toArray:=by cases cl.args;simp
    simp only[execOp,ho,resolve,xB,Act.eval,Deferred.ofValue,Sem.run_bind,Sem.run_pure,Result.andThen_ok,invoke]
    rw[← e]
    have h2:=Ja (P:=P) kS (cl.args.map a.eval) w
    simpa using h2
   ·cases hc
  ·rename_i x gw xB
   simp only[ae,aG,ar]at hc
   obtain⟨X,hX,rfl⟩:=hc
   simp only[jA]at iT
   split at iT
   ·rename_i k first cap oY
    cases iT
    have hr:=gX eM he hX
    rw[oY]at hr
    generalize hv:a.eval x=v at hr
    cases hr with
    | fn _ fs cs _ _ e1 e2 e3 e4=>
     refine⟨fs++cl.args.toList.map a.eval++cs,?_,((iy.CX e1 e3).append ie).append (iy.CX e2 e4)⟩
     simp only[execOp,ho,resolve,xB,hv,Deferred.ofValue,Sem.run_bind,Sem.run_pure,Result.andThen_ok,invoke]
     have h2:=Ja (P:=P) kS (fs.toArray++cl.args.map a.eval++cs.toArray) w
     have e2:fs.toArray++cl.args.map a.eval++cs.toArray=(fs++cl.args.toList.map a.eval++cs).toArray:=by cases cl.args;simp
     rw[e2]at h2 ⊢
     exact h2
   ·cases iT
  ·split at hc
   ·simp only[ae]at hc
    obtain⟨td,_,hc⟩:=hc
    split at hc
    ·simp only[ae]at hc
     obtain⟨i,_,z,_,ud,_,hc⟩:=hc
     split at hc
     ·split at hc
      ·cases hc;cases iT
      ·cases hc
     ·cases hc
    ·cases hc
   ·cases hc
  ·split at hc
   ·simp only[ae]at hc
    obtain⟨td,_,hc⟩:=hc
    split at hc
    ·simp only[ae]at hc
     obtain⟨ud,_,hc⟩:=hc
     split at hc
     ·simp only[ae]at hc
      obtain⟨n,_,hc⟩:=hc
      split at hc
      ·cases hc;cases iT
      ·cases hc
     ·cases hc
    ·cases hc
   ·cases hc
  ·split at hc
   ·split at hc
    ·cases hc;cases iT
    ·cases hc;cases iT
    ·cases hc;cases iT
    ·cases hc
   ·cases hc
  ·cases hc;cases iT
  ·cases hc;cases iT
  ·cases hc
 | _=>
  have h1:Cx io=true:=by unfold jA at iT;unfold Cx;split at iT<;>first|rfl|cases iT
  obtain⟨cl,h2⟩:=OF HE h1
  rw[ho]at h2
  cases h2
end
end Go.AL
namespace Go.AL
open Go
abbrev Fp:=Nat×Option (Nat×Nat)
def mq:D→List Fp
 | .eF v _ _ _ _=>[(v,none)]
 | .fE v=>[(v,none)]
 | _=>[]
def uu(n:Nat):D→List Fp
 | .ptr v _ o=>[(v,some (o,n))]
 | _=>[]
def fH(f:fQ)(H:U):gP→List Fp
 | .ld1 x=>uu 1 (ev f x)
 | .ldN n x=>uu n (ev f x)
 | .st1 a _=>uu 1 (ev f a)
 | .stN n a _=>uu n (ev f a)
 | .lookup _ _ _ m _=>mq (ev f m)
 | .mapUpd _ m _ _=>mq (ev f m)
 | .len .map x=>mq (ev f x)
 | .b2s x=>mq (ev f x)
 | .app _ _ _ x y=>mq (ev f x)++mq (ev f y)
 | .copy _ x y=>mq (ev f x)++mq (ev f y)
 | .call g args=>((args.map (ev f)).map (gv H 40)).flatten.map fun v=>(v,none)
 | .callN g args=>((args.map (ev f)).map (gv H 40)).flatten.map fun v=>(v,none)
 | .callv g args=>match jA f (.callv g args)with
  | some (_,ds)=>(ds.map (gv H 40)).flatten.map fun v=>(v,none)
  | none=>[]
 | _=>[]
def iS(n:Nat):Dl→List Fp
 | .no=>[]
 | .cells v o xs=>[(v,some (o,xs.length))]
 | .obj v _=>[(v,none)]
 | .new _=>[(n,none)]
def rr:Fp→Fp→Bool
 | (v,none),(u,_)=>v != u
 | (v,some _),(u,none)=>v != u
 | (v,some (o,n)),(u,some (p,m))=>v != u||decide (o+n≤p)||decide (p+m≤o)
def ru(a b:List Fp):Bool:=a.all fun x=>b.all fun y=>rr x y
def Alike(x:Fp)(H1 H2:U):Prop:=
 match x with
 | (v,none)=>H1[v]? = H2[v]?
 | (v,some (o,n))=>H1[v]? = H2[v]?∨∃ t g cs ds,H1[v]? = some (.row t g cs)∧H2[v]? = some (.row t g ds)∧cs.length=ds.length∧∀ i,o≤i→i<o+n→cs[i]? = ds[i]?
def rk(l:List Fp)(H1 H2:U):Prop:=∀ x∈l,Alike x H1 H2
def ib:X→List Nat
 | .t k=>[k]
 | .c _=>[]
def tX(l:List X):List Nat:=(l.map ib).flatten
def DG:Option X→List Nat
 | some x=>ib x
 | none=>[]
def gi:gP→List Nat
 | .mv x=>ib x
 | .pick c a b=>ib c++ib a++ib b
 | .box _ x=>ib x
 | .alloc _ _=>[]
 | .build _ ps=>(ps.map fun p=>ib p.2.2).flatten
 | .buildSl _ _ _ _ ps=>(ps.map fun p=>ib p.2).flatten
 | .ld1 x=>ib x
 | .ldN _ x=>ib x
 | .st1 a x=>ib a++ib x
 | .stN _ a x=>ib a++ib x
 | .nilck x=>ib x
 | .arith _ x y=>ib x++ib y
 | .eqS _ _ _ x y=>ib x++ib y
 | .un _ x=>ib x
 | .conv _ x=>ib x
 | .b2s x=>ib x
 | .mkfn _ a b=>tX a++tX b
 | .mkmap _=>[]
 | .mksl _ _ _ _ l c=>ib l++ib c
 | .slc _ x lo hi=>ib x++DG lo++DG hi
 | .slcS x lo hi=>ib x++DG lo++DG hi
 | .fieldA _ x=>ib x
 | .field _ _ _ x=>ib x
 | .idxA _ x i=>ib x++ib i
 | .idxArr _ _ x i=>ib x++ib i
 | .idx _ _ _ x i=>ib x++ib i
 | .idxStr x i=>ib x++ib i
 | .lookup _ _ _ m k=>ib m++ib k
 | .mapUpd _ m k x=>ib m++ib k++ib x
 | .ext x _=>ib x
 | .call _ args=>tX args
 | .callN _ args=>tX args
 | .callv f args=>ib f++tX args
 | .app _ _ _ x y=>ib x++ib y
 | .copy _ x y=>ib x++ib y
 | .len _ x=>ib x
 | .minmax _ xs=>tX xs
 | .nilS _ x | .capE x | .clr _ _ x | .rangeS x | .nextS x | .rangeM x | .nextM x | .entry x=>ib x
 | .appZ _ _ _ _ x n=>ib x++ib n
def C2:gP→Bool
 | .mv _ | .pick .. | .build .. | .nilck _ | .arith .. | .eqS .. | .un .. | .conv .. | .mkfn .. | .slc .. | .slcS .. | .fieldA .. | .field .. | .idxA .. | .idxArr .. | .idx .. | .idxStr .. | .ext .. | .minmax ..
 | .len .slice _ | .len .string _=>true
 | _=>false
def MD:gP→Bool
 | .ld1 _ | .ldN .. | .b2s _ | .lookup .. | .len .. | .call .. | .callv .. => true
 | op=>C2 op
def Jn(a b:gP):Bool:=C2 a||C2 b||(MD a&&MD b)
section
variable{f f':fQ}
def xi{x:X}(h:∀ t∈ib x,f t=f' t):ev f x=ev f' x:=by
 cases x with
 | t k=>exact h k (by simp[ib])
 | c d=>rfl
def xj{l:List X}(h:∀ t∈tX l,f t=f' t):l.map (ev f)=l.map (ev f'):=
 aj fun x hx=>xi fun t ht=>h t (aP.2 ⟨_,ao.2 ⟨x,hx,rfl⟩,ht⟩)
theorem Mz:∀ {l:List (Nat×Nat×X)},(∀ t∈(l.map fun p=>ib p.2.2).flatten,f t=f' t)→partsOf f l=partsOf f' l
 | [],_=>rfl
 | (o,n,x)::r,h=>by
  have h1:ev f x=ev f' x:=xi fun t ht=>h t (by simp[ht])
  have h2:=Mz (l:=r) fun t ht=>h t (by simp only[List.map_cons,aL,List.mem_append];exact .inr ht)
  simp only[partsOf,h1,h2]
def Gy{x:Option X}{n:Int}(h:∀ t∈DG x,f t=f' t):iz f x n=iz f' x n:=by
 cases x with
 | none=>rfl
 | some x=>simp only[iz,xi (x:=x) h]
theorem QX:∀ {l:List X},(∀ t∈tX l,f t=f' t)→pG f l=pG f' l
 | [],_=>rfl
 | x::r,h=>by
  have h1:ev f x=ev f' x:=xi fun t ht=>h t (by simp[tX,ht])
  have h2:=QX (l:=r) fun t ht=>h t (by simp only[tX,List.map_cons,aL,List.mem_append];exact .inr ht)
  simp only[pG,h1,h2]
def N5{op:gP}(h:∀ t∈gi op,f t=f' t)(H:U)(n:Nat):fG f H n op=fG f' H n op:=by
 have hx:∀ {x:X},(∀ t∈ib x,t∈gi op)→ev f x=ev f' x:=fun hm=>xi fun t ht=>h t (hm t ht)
 cases op<;>simp only[fG]<;>first|rfl|skip
 case mv x=>rw[hx (x:=x) (fun t ht=>by simpa[gi]using ht)]
 case pick c a b=>rw[hx (x:=c) (fun t ht=>by simp[gi,ht]),hx (x:=a) (fun t ht=>by simp[gi,ht]),hx (x:=b) (fun t ht=>by simp[gi,ht])]
 case box x=>rw[hx (x:=x) (fun t ht=>by simpa[gi]using ht)]
 case build z ps=>simp only[y9,Mz (f:=f) (f':=f') (l:=ps) (fun t ht=>h t (by simpa[gi]using ht))]
 case buildSl t sz z m ps=>
  have:=Mz (f:=f) (f':=f') (l:=ps.map fun p=>(p.1*sz,sz,p.2)) (fun t ht=>h t (by simpa[gi,bp,dO]using ht))
  simp only[vB,this]
 case ld1 x=>rw[hx (x:=x) (fun t ht=>by simpa[gi]using ht)]
 case ldN n x=>rw[hx (x:=x) (fun t ht=>by simpa[gi]using ht)]
 case st1 a x=>rw[hx (x:=a) (fun t ht=>by simp[gi,ht]),hx (x:=x) (fun t ht=>by simp[gi,ht])]
 case stN n a x=>rw[hx (x:=a) (fun t ht=>by simp[gi,ht]),hx (x:=x) (fun t ht=>by simp[gi,ht])]
 case nilck x=>rw[hx (x:=x) (fun t ht=>by simpa[gi]using ht)]
 case arith op x y=>rw[hx (x:=x) (fun t ht=>by simp[gi,ht]),hx (x:=y) (fun t ht=>by simp[gi,ht])]
 case eqS b ls neg x y=>rw[hx (x:=x) (fun t ht=>by simp[gi,ht]),hx (x:=y) (fun t ht=>by simp[gi,ht])]
 case un op x=>rw[hx (x:=x) (fun t ht=>by simpa[gi]using ht)]
 case conv k x=>rw[hx (x:=x) (fun t ht=>by simpa[gi]using ht)]
 case b2s x=>rw[hx (x:=x) (fun t ht=>by simpa[gi]using ht)]
 case mkfn g a b=>rw[xj (f:=f) (f':=f') (l:=a) (fun t ht=>h t (by simp[gi,ht])),xj (f:=f) (f':=f') (l:=b) (fun t ht=>h t (by simp[gi,ht]))]
 case mksl t sz JK z l c=>rw[hx (x:=l) (fun t ht=>by simp[gi,ht]),hx (x:=c) (fun t ht=>by simp[gi,ht])]
 case slc sz x lo hi=>
  have e1:∀ n,iz f lo n=iz f' lo n:=fun n=>Gy fun t ht=>h t (by simp[gi,ht])
  have e2:∀ n,iz f hi n=iz f' hi n:=fun n=>Gy fun t ht=>h t (by simp[gi,ht])
  simp only[sN,e1,e2,hx (x:=x) (fun t ht=>by simp[gi,ht])]
 case slcS x lo hi=>
  have e1:∀ n,iz f lo n=iz f' lo n:=fun n=>Gy fun t ht=>h t (by simp[gi,ht])
  have e2:∀ n,iz f hi n=iz f' hi n:=fun n=>Gy fun t ht=>h t (by simp[gi,ht])
  simp only[Jj,e1,e2,hx (x:=x) (fun t ht=>by simp[gi,ht])]
 case fieldA o x=>rw[hx (x:=x) (fun t ht=>by simpa[gi]using ht)]
 case field o n b x=>rw[hx (x:=x) (fun t ht=>by simpa[gi]using ht)]
 case idxA sz x i=>rw[hx (x:=x) (fun t ht=>by simp[gi,ht]),hx (x:=i) (fun t ht=>by simp[gi,ht])]
 case idxArr sz n x i=>rw[hx (x:=x) (fun t ht=>by simp[gi,ht]),hx (x:=i) (fun t ht=>by simp[gi,ht])]
 case idx sz n b x i=>rw[hx (x:=x) (fun t ht=>by simp[gi,ht]),hx (x:=i) (fun t ht=>by simp[gi,ht])]
 case idxStr x i=>rw[hx (x:=x) (fun t ht=>by simp[gi,ht]),hx (x:=i) (fun t ht=>by simp[gi,ht])]
 case lookup kk z ok m k=>rw[hx (x:=m) (fun t ht=>by simp[gi,ht]),hx (x:=k) (fun t ht=>by simp[gi,ht])]
 case mapUpd kk m k x=>rw[hx (x:=m) (fun t ht=>by simp[gi,ht]),hx (x:=k) (fun t ht=>by simp[gi,ht]),hx (x:=x) (fun t ht=>by simp[gi,ht])]
 case ext x i=>rw[hx (x:=x) (fun t ht=>by simpa[gi]using ht)]
 case app t sz JK x y=>rw[hx (x:=x) (fun t ht=>by simp[gi,ht]),hx (x:=y) (fun t ht=>by simp[gi,ht])]
 case copy sz x y=>rw[hx (x:=x) (fun t ht=>by simp[gi,ht]),hx (x:=y) (fun t ht=>by simp[gi,ht])]
 case len k x=>rw[hx (x:=x) (fun t ht=>by simpa[gi]using ht)]
 case minmax b xs=>simp only[z7,QX (f:=f) (f':=f') (l:=xs) (fun t ht=>h t (by simpa[gi]using ht))]
end
end Go.AL
namespace Go.AL
open Go
def GG{f f':fQ}{op:gP}(h:∀ t∈gi op,f t=f' t):jA f op=jA f' op:=by
 cases op<;>first|rfl|skip
 case call g args=>simp only[jA,xj (f:=f) (f':=f') (l:=args) (fun t ht=>h t (by simpa[gi]using ht))]
 case callN g args=>simp only[jA,xj (f:=f) (f':=f') (l:=args) (fun t ht=>h t (by simpa[gi]using ht))]
 case callv g args=>
  simp only[jA,xj (f:=f) (f':=f') (l:=args) (fun t ht=>h t (by simp[gi,ht])),xi (f:=f) (f':=f') (x:=g) (fun t ht=>h t (by simp[gi,ht]))]
def Hm{f f':fQ}{op:gP}(h:∀ t∈gi op,f t=f' t)(H:U):fH f H op=fH f' H op:=by
 have hx:∀ {x:X},(∀ t∈ib x,t∈gi op)→ev f x=ev f' x:=fun hm=>xi fun t ht=>h t (hm t ht)
 have hc:=GG h
 cases op<;>simp only[fH]<;>first|rfl|skip
 case ld1 x=>rw[hx (x:=x) (fun t ht=>by simpa[gi]using ht)]
 case ldN n x=>rw[hx (x:=x) (fun t ht=>by simpa[gi]using ht)]
 case b2s x=>rw[hx (x:=x) (fun t ht=>by simpa[gi]using ht)]
 case st1 a x=>rw[hx (x:=a) (fun t ht=>by simp[gi,ht])]
 case stN n a x=>rw[hx (x:=a) (fun t ht=>by simp[gi,ht])]
 case lookup kk z ok m k=>rw[hx (x:=m) (fun t ht=>by simp[gi,ht])]
 case mapUpd kk m k x=>rw[hx (x:=m) (fun t ht=>by simp[gi,ht])]
 case app t sz JK x y=>rw[hx (x:=x) (fun t ht=>by simp[gi,ht]),hx (x:=y) (fun t ht=>by simp[gi,ht])]
 case copy sz x y=>rw[hx (x:=x) (fun t ht=>by simp[gi,ht]),hx (x:=y) (fun t ht=>by simp[gi,ht])]
 case len k x=>cases k<;>simp only[fH]<;>rw[hx (x:=x) (fun t ht=>by simpa[gi]using ht)]
 case call g args=>rw[xj (f:=f) (f':=f') (l:=args) (fun t ht=>h t (by simpa[gi]using ht))]
 case callN g args=>rw[xj (f:=f) (f':=f') (l:=args) (fun t ht=>h t (by simpa[gi]using ht))]
 case callv g args=>rw[hc]
section
variable{H1 H2:U}
def I5{v:Nat}(h:H1[v]? = H2[v]?)(g:Nat):rowAt H1 v g=rowAt H2 v g:=by simp only[rowAt,h]
def Mb{v:Nat}(h:H1[v]? = H2[v]?):kX H1 v=kX H2 v:=by simp only[kX,h]
def I6{v o n:Nat}(h:Alike (v,some (o,n)) H1 H2)(g:Nat) :
  (rowAt H1 v g=none∧rowAt H2 v g=none)∨∃ t cs ds,rowAt H1 v g=some (t,cs)∧rowAt H2 v g=some (t,ds)∧cs.length=ds.length∧∀ i,o≤i→i<o+n→cs[i]? = ds[i]? := by
 rcases h with h|⟨t,g',cs,ds,h1,h2,h3,h4⟩
 ·rw[I5 h g]
  cases hr:rowAt H2 v g with
  | none=>exact .inl ⟨rfl,rfl⟩
  | some p=>exact .inr ⟨p.1,p.2,p.2,rfl,rfl,rfl,fun _ _ _=>rfl⟩
 ·by_cases e:g'=g
  ·exact .inr ⟨t,cs,ds,by simp[rowAt,h1,e],by simp[rowAt,h2,e],h3,h4⟩
  ·exact .inl ⟨by simp[rowAt,h1,e],by simp[rowAt,h2,e]⟩
def MZ{sz:Nat}{d:D}(h:rk (mq d) H1 H2):kY sz H1 d=kY sz H2 d:=by
 unfold kY
 split<;>first|rfl|skip
 rename_i v g fV off len
 have:=h (v,none) (by simp[mq])
 rw[I5 this]
def rk.left{a b:List Fp}(h:rk (a++b) H1 H2):rk a H1 H2:=fun x hx=>h x (aX _ hx)
def rk.right{a b:List Fp}(h:rk (a++b) H1 H2):rk b H1 H2:=fun x hx=>h x (bE _ hx)
def TJ{f:fQ}{op:gP}(h:rk (fH f H1 op) H1 H2)(n:Nat):fG f H1 n op=fG f H2 n op:=by
 cases op<;>simp only[fG]<;>first|rfl|skip
 case ld1 x=>
  congr 1
  simp only[fH]at h
  unfold tG
  split<;>first|rfl|skip
  rename_i v g o hx
  rw[hx]at h
  rcases I6 (h (v,some (o,1)) (by simp[uu])) g with⟨e1,e2⟩|⟨t,cs,ds,e1,e2,e3,e4⟩
  ·rw[e1,e2]
  ·rw[e1,e2];exact e4 o (Nat.le_refl _) (by omega)
 case ldN m x=>
  congr 1
  simp only[fH]at h
  unfold tH
  split<;>first|rfl|skip
  rename_i v g o hx
  rw[hx]at h
  rcases I6 (h (v,some (o,m)) (by simp[uu])) g with⟨e1,e2⟩|⟨t,cs,ds,e1,e2,e3,e4⟩
  ·rw[e1,e2]
  ·rw[e1,e2]
   have:(cs.drop o).take m=(ds.drop o).take m:=by
    apply bP
    intro i
    simp only[aA,aD]
    split
    ·exact e4 _ (by omega) (by omega)
    ·rfl
   simp only[e3,this]
 case st1 a x=>
  simp only[fH]at h
  unfold yB
  split<;>first|rfl|skip
  rename_i v g o hx
  rw[hx]at h
  rcases I6 (h (v,some (o,1)) (by simp[uu])) g with⟨e1,e2⟩|⟨t,cs,ds,e1,e2,e3,e4⟩
  ·rw[e1,e2]
  ·rw[e1,e2];simp only[e3]
 case stN m a x=>
  simp only[fH]at h
  unfold yC
  split<;>first|rfl|skip
  rename_i v g o xs hx _
  rw[hx]at h
  rcases I6 (h (v,some (o,m)) (by simp[uu])) g with⟨e1,e2⟩|⟨t,cs,ds,e1,e2,e3,e4⟩
  ·rw[e1,e2]
  ·rw[e1,e2];simp only[e3]
 case lookup kk z ok m k=>
  congr 1
  simp only[fH]at h
  unfold x5
  split<;>first|rfl|skip
  rename_i v kv hx _
  rw[hx]at h
  rw[Mb (h (v,none) (by simp[mq]))]
 case mapUpd kk m k x=>
  simp only[fH]at h
  unfold wu
  split<;>first|rfl|skip
  rename_i v kv hx _
  rw[hx]at h
  rw[Mb (h (v,none) (by simp[mq]))]
 case b2s x=>
  congr 1
  simp only[fH]at h
  unfold y8
  rw[MZ (sz:=1) h]
 case len k x=>
  congr 1
  unfold oq
  split<;>first|rfl|skip
  rename_i v hx
  simp only[fH]at h
  rw[hx]at h
  rw[Mb (h (v,none) (by simp[mq]))]
 case app t sz JK x y=>
  simp only[fH]at h
  unfold se
  rw[MZ (sz:=sz) h.right]
  split<;>first|rfl|skip
  split<;>first|rfl|skip
  rename_i v g fV off len hx
  rw[hx]at h
  rw[I5 (h (v,none) (by simp[mq]))]
 case copy sz x y=>
  simp only[fH]at h
  unfold ze
  rw[MZ (sz:=sz) h.right]
  split<;>first|rfl|skip
  rename_i v g fV off len ys n hx _
  rw[hx]at h
  rw[I5 (h (v,none) (by simp[mq]))]
def wz(H:U)(v g:Nat):rowAt H v g=match rowsOf H v with|some (t,g',cs)=>if g'=g then some (t,cs)else none|none=>none:=by
 unfold rowAt rowsOf
 cases H[v]? with
 | none=>rfl
 | some o=>cases o<;>rfl
theorem Da:∀ (k:Nat) (d:D),(∀ v∈gv H1 k d,rowsOf H1 v=rowsOf H2 v)→gv H2 k d=gv H1 k d∧eP (fun _=>none) H2 k d=eP (fun _=>none) H1 k d
 | 0,d,_=>⟨rfl,rfl⟩
 | k+1,d,h=>by
  have pb:∀ (ds:List D),(∀ v∈(ds.map (gv H1 k)).flatten,rowsOf H1 v=rowsOf H2 v)→ds.map (gv H2 k)=ds.map (gv H1 k)∧ds.map (eP (fun _=>none) H2 k)=ds.map (eP (fun _=>none) H1 k):=by
   intro ds mh
   have h1:∀ d∈ds,∀ v∈gv H1 k d,rowsOf H1 v=rowsOf H2 v:=fun d hd v hv=>mh v (aP.2 ⟨_,ao.2 ⟨d,hd,rfl⟩,hv⟩)
   exact⟨aj fun d hd=>(Da k d (h1 d hd)).1,aj fun d hd=>(Da k d (h1 d hd)).2⟩
  unfold gv at h
  unfold gv eP
  by_cases hc:closed d=true
  ·simp only[if_pos hc,and_self]
  ·simp only[if_neg hc]at h ⊢
   cases d with
   | agg cs=>obtain⟨a,b⟩:=pb cs h;simp only[a,b,and_self]
   | tup cs=>obtain⟨a,b⟩:=pb cs h;simp only[a,b,and_self]
   | eW cs=>obtain⟨a,b⟩:=pb cs h;simp only[a,b,and_self]
   | sl sz es=>
    have h1:∀ e∈es,e.map (gv H2 k)=e.map (gv H1 k)∧e.map (eP (fun _=>none) H2 k)=e.map (eP (fun _=>none) H1 k):=fun e he=>pb e fun v hv=>h v (aP.2 ⟨_,ao.2 ⟨e,he,rfl⟩,hv⟩)
    have a:es.map (fun e=>(e.map (gv H2 k)).flatten)=es.map (fun e=>(e.map (gv H1 k)).flatten):=aj fun e he=>by rw[(h1 e he).1]
    have b:es.map (fun x=>x.map (eP (fun _=>none) H2 k))=es.map (fun x=>x.map (eP (fun _=>none) H1 k)):=aj fun e he=>(h1 e he).2
    simp only[a,b,and_self]
   | fn g x y=>
    obtain⟨a,b⟩:=pb x fun v hv=>h v (aX _ hv)
    obtain⟨a',b'⟩:=pb y fun v hv=>h v (bE _ hv)
    simp only[a,b,a',b',and_self]
   | eF v g sz off len=>
    have hv:rowsOf H1 v=rowsOf H2 v:=h v (by simp)
    simp only[wz,← hv]
    cases gq:rowsOf H1 v with
    | none=>exact⟨rfl,rfl⟩
    | some p=>
     obtain⟨t,g',cs⟩:=p
     obtain⟨l1,l2⟩:=pb cs fun u hu=>h u (by simp only[gq];exact aS _ hu)
     refine⟨by simp only[l1],?_⟩
     by_cases hg:g'=g
     ·simp only[hg,if_true,dJ,l2]
     ·simp only[if_neg hg]
   | ptr v g off=>
    have hv:rowsOf H1 v=rowsOf H2 v:=h v (by simp)
    simp only[wz,← hv]
    cases gq:rowsOf H1 v with
    | none=>exact⟨rfl,rfl⟩
    | some p=>
     obtain⟨t,g',cs⟩:=p
     obtain⟨l1,l2⟩:=pb cs fun u hu=>h u (by simp only[gq];exact aS _ hu)
     refine⟨by simp only[l1],?_⟩
     by_cases hg:g'=g
     ·simp only[hg,if_true,dJ,l2]
     ·simp only[if_neg hg]
   | _=>exact⟨rfl,rfl⟩
end
end Go.AL
namespace Go.AL
open Go
section
variable{P:Program}{G:GT}{c c2:Ctx}{H Hn:U}{w w2:World}{N:Nat}
def lE{ds:List D}(h:fu ds=true):∀ d∈ds,closed d=true:=fun d hd=>by
 obtain⟨i,hi⟩:=aF.1 hd
 exact uz h hi
def mD{ρ:Nat→Option Nat}{k:Nat}{d:D}(h:closed d=true):eP ρ H k d=d:=by
 cases k<;>(unfold eP;simp[h])
def Ctx.join(c c2:Ctx)(n:Nat)(F:Nat→Prop):Ctx where
 ι:=fun v g=>if v<n then c.ι v g else c2.ι (v-n) g
 F:=F
 RT:=c.RT
def Cy{F:Nat→Prop}{v:Nat}{L:Loc}(h:kN (c.join c2 H.length F) (H++Hn) v L):(v<H.length∧kN c H v L)∨(H.length≤v∧kN c2 Hn (v-H.length) L):=by
 obtain⟨o,ho,ha,eR⟩:=h
 rcases bh v H.length with hv|hv
 ·rw[ag hv]at ho
  simp only[Ctx.join,if_pos hv]at eR
  exact .inl ⟨hv,o,ho,ha,eR⟩
 ·rw[ak hv]at ho
  simp only[Ctx.join,if_neg (eC.2 hv)]at eR
  exact .inr ⟨hv,o,ho,ha,eR⟩
structure vq(G:GT)(c c2:Ctx)(H Hn:U)(w w2:World)(F:Nat→Prop):Prop where
 eM:e9 G c H w
 mj:e9 G c2 Hn w2
 oD:jq w w2
 fresh:∀ b,lj c2 Hn b→w.heap.size≤b
 le:∀ b,c.F b→F b
 lt:∀ b,F b→b<w2.heap.size
 n1:∀ b,F b→¬ lj c H b
 n2:∀ b,F b→¬ lj c2 Hn b
 new:∀ b,F b→c.F b∨w.heap.size≤b
 rows:∀ (v:Nat) (o:Ob),Hn[v]? = some o→∃ t g cs,o = .row t g cs∧∀ d∈cs,∀ u,eJ c2 w2 u d→eJ (c.join c2 H.length F) w2 u d
variable{F:Nat→Prop}
def QY(j:vq G c c2 H Hn w w2 F){u:Value}{d:D}(h:eJ c w u d):eJ (c.join c2 H.length F) w2 u d:=by
 refine h.carry (fun v k L hL=>?_) j.le (fun b o hF=>Bm (j.oD.kept b (j.eM.jG b hF)))
 have hv:v<H.length:=by
  rcases bh v H.length with h|h
  ·exact h
  ·rw[j.eM.out v k h]at hL;cases hL
 simp only[Ctx.join,if_pos hv];exact hL
def Ik(j:vq G c c2 H Hn w w2 F):e9 G (c.join c2 H.length F) (H++Hn) w2 where
 inj v v' L L' h1 h2 h3 h4 he:=by
  rcases Cy h1 with⟨a,b⟩|⟨a,b⟩<;>rcases Cy h2 with⟨a',b'⟩|⟨a',b'⟩
  ·exact j.eM.inj v v' L L' b b' h3 h4 he
  ·have:=j.eM.lt _ ⟨v,L,b,h3,rfl⟩
   have:=j.fresh _ ⟨_,L',b',h4,rfl⟩
   omega
  ·have:=j.eM.lt _ ⟨v',L',b',h4,rfl⟩
   have:=j.fresh _ ⟨_,L,b,h3,rfl⟩
   omega
  ·have:=j.mj.inj _ _ L L' b b' h3 h4 he
   omega
 lt b hb:=by
  obtain⟨v,L,hl,hv,e⟩:=hb
  rcases Cy hl with⟨_,hl⟩|⟨_,hl⟩
  ·exact aK (j.eM.lt b ⟨v,L,hl,hv,e⟩) j.oD.size
  ·exact j.mj.lt b ⟨_,L,hl,hv,e⟩
 nF b hb hF:=by
  obtain⟨v,L,hl,hv,e⟩:=hb
  rcases Cy hl with⟨_,hl⟩|⟨_,hl⟩
  ·exact j.n1 b hF ⟨v,L,hl,hv,e⟩
  ·exact j.n2 b hF ⟨_,L,hl,hv,e⟩
 jG b hb:=j.lt b hb
 out v k hv:=by
  simp only[ay]at hv
  simp only[Ctx.join,if_neg (show ¬ v<H.length by omega)]
  exact j.mj.out _ k (by omega)
 lk v o k ho hk:=by
  rcases bh v H.length with hv|hv
  ·rw[ag hv]at ho
   simp only[Ctx.join,if_pos hv]
   exact j.eM.lk v o k ho hk
  ·rw[ak hv]at ho
   simp only[Ctx.join,if_neg (eC.2 hv)]
   exact j.mj.lk _ o k ho hk
 ob v o ho:=by
  rcases bh v H.length with hv|hv
  ·rw[ag hv]at ho
   simp only[Ctx.join,if_pos hv]
   exact gd.pY (c:=c) (c':=c.join c2 H.length F) rfl (fun _ _ h=>QY j h) (fun l hl lA hd=>j.oD.kept _ (j.eM.lt _ ⟨v,l,⟨o,ho,hd,hl⟩,lA,rfl⟩)) (j.eM.ob v o ho)
  ·rw[ak hv]at ho
   simp only[Ctx.join,if_neg (eC.2 hv)]
   have h0:=j.mj.ob _ o ho
   obtain⟨t,g,cs,rfl,hr⟩:=j.rows _ o ho
   simp only[Ob.gen]at h0 ⊢
   cases hL:c2.ι (v-H.length) g with
   | none=>rw[hL]at h0;simp[gd]at h0
   | some L=>
    rw[hL]at h0
    simp only[gd]at h0 ⊢
    split
    ·rename_i lZ;simp only[lZ,if_true]at h0;exact h0
    ·rename_i lZ
     simp only[lZ]at h0
     obtain⟨arr,h1,h2,h3,h4⟩:=h0
     refine⟨arr,h1,h2,h3,fun i d hd=>?_⟩
     obtain⟨x,o6,lJ,uT⟩:=h4 i d hd
     exact⟨x,o6,lJ,hr d (bk hd) _ uT⟩
 gl g cs hg:=by
  obtain⟨h1,h2⟩:=j.eM.gl g cs hg
  exact⟨h1,QY j h2⟩
 rt:=j.eM.rt
def Il(j:vq G c c2 H Hn w w2 F):Step H.length c H w (c.join c2 H.length F) (H++Hn) w2 where
 os:=j.oD.os
 tape:=j.oD.tape
 output:=j.oD.output
 size:=j.oD.size
 RT:=rfl
 Fm b hb:=j.le b hb
 Fn b hb:=(j.new b hb).imp id .inl
 kept b hb _:=j.oD.kept b hb
 old v k L hv h:=by simp only[Ctx.join,if_pos hv];exact h
 own b hb:=by
  obtain⟨v,L,hl,hv,e⟩:=hb
  rcases Cy hl with⟨_,hl⟩|⟨_,hl⟩
  ·exact .inr ⟨v,L,hl,hv,e⟩
  ·exact .inl (j.fresh b ⟨_,L,hl,hv,e⟩)
def IZ(j:vq G c c2 H Hn w w2 F){p:D→Bool}(hp:∀ d u,p d=true→eJ c2 w2 u d→eJ (c.join c2 H.length F) w2 u d){u:Value}{r:D}
  (hr:eJ c2 w2 u r) (h:tP p r=true):eJ (c.join c2 H.length F) w2 u (jx H.length r):=by
 have Ca:∀ v g sz off len u,eJ c2 w2 u (.eF v g sz off len)→eJ (c.join c2 H.length F) w2 u (.eF (v+H.length) g sz off len):=by
  intro v g sz off len u hr
  cases hr with
  | eF _ _ _ _ _ cap L eR hv js jO lY=>exact .eF _ g sz off len cap L (by simp only[Ctx.join];rw[if_neg (by omega),Nat.add_sub_cancel];exact eR) hv js jO lY
  | mm _ _ _ _ L eR a=>exact .mm _ g sz off L (by simp only[Ctx.join];rw[if_neg (by omega),Nat.add_sub_cancel];exact eR) a
 have h1:∀ (d:D) (u:Value),u5 p d=true→eJ c2 w2 u d→eJ (c.join c2 H.length F) w2 u (uZ H.length d):=by
  intro d u hd hr
  cases d<;>first|exact Ca _ _ _ _ _ _ hr|exact hp _ _ hd hr
 cases r with
 | tup ds=>
  cases hr with
  | tup vs _ hl sD=>
   simp only[jx]
   refine .tup vs _ (by simpa using hl) fun i v d hv hd=>?_
   simp only[av,ai]at hd
   obtain⟨d0,jV,rfl⟩:=hd
   exact h1 d0 v (aq.1 h d0 (bk jV)) (sD i v d0 hv jV)
 | agg ds=>
  cases hr with
  | agg vs _ hl ho sD=>
   simp only[jx]
   refine .agg vs _ (by simpa using hl) ho fun i v d hv hd=>?_
   simp only[av,ai]at hd
   obtain⟨d0,jV,rfl⟩:=hd
   exact h1 d0 v (aq.1 h d0 (bk jV)) (sD i v d0 hv jV)
 | eF v g sz off len=>exact Ca _ _ _ _ _ _ hr
 | _=>exact hp _ _ h hr
def Ctx.data(c:Ctx)(F:Nat→Prop):Ctx where
 ι:=fun _ _=>none
 F:=F
 RT:=c.RT
def G0(h:e9 G c H w):e9 G (c.data c.F) [] w where
 inj v v' L L' h1:=by obtain⟨o,ho,_⟩:=h1;simp at ho
 lt b hb:=by obtain⟨v,L,⟨o,ho,_⟩,_⟩:=hb;simp at ho
 nF b hb:=by obtain⟨v,L,⟨o,ho,_⟩,_⟩:=hb;simp at ho
 jG b hb:=h.jG b hb
 out _ _ _:=rfl
 lk _ _ _ _ _:=rfl
 ob v o ho:=by simp at ho
 gl g cs hg:=by
  obtain⟨h1,h2⟩:=h.gl g cs hg
  exact⟨h1,eJ.closed (c:=c) (c':=c.data c.F) (fun b hb=>hb) h2 (by simpa[AL.closed]using h1)⟩
 rt:=h.rt
def q7{c:Ctx}{b:Nat}:¬ lj c [] b:=by
 rintro⟨v,L,⟨o,ho,_⟩,_⟩
 simp at ho
def xt{n:Nat}{c0:Ctx}(hs:Step n c0 [] w c2 Hn w2):jq w w2:=
 ⟨hs.os,hs.tape,hs.output,hs.size,fun b hb=>hs.kept b hb q7⟩
def Ov(h:Hn.all mO=true){v:Nat}{o:Ob}(ho:Hn[v]? = some o):∃ t g cs,o = .row t g cs∧∀ d∈cs,closed d=true:=by
 have:=aq.1 h o (bk ho)
 cases o<;>simp only[mO]at this<;>first|cases this;done|skip
 exact⟨_,_,_,rfl,lE this⟩
def Ph(h:Hn.all oi=true){v:Nat}{o:Ob}(ho:Hn[v]? = some o):∃ t g cs,o = .row t g cs∧∀ d∈cs,flat d=true:=by
 have:=aq.1 h o (bk ho)
 cases o<;>simp only[oi]at this<;>first|cases this;done|skip
 refine⟨_,_,_,rfl,fun d hd=>?_⟩
 obtain⟨i,hi⟩:=aF.1 hd
 exact zl this hi
def vi(P:Program)(G:GT)(f:FuncId)(args:List D)(H:U)(d:D)(H':U):Prop:=
 ∀ (c:Ctx) (w:World) (vs:List Value),e9 G c H w→iy c w vs args →
  Calls P f vs.toArray w fun e w'=>∃ v c',e = .returned v∧e9 G c' H' w'∧eJ c' w' v d∧Step H.length c H w c' H' w'
def sU(P:Program)(G:GT)(f:FuncId)(args:List D)(H:U)(R:D→U→Prop):Prop:=
 ∀ (c:Ctx) (w:World) (vs:List Value),e9 G c H w→iy c w vs args →
  Calls P f vs.toArray w fun e w'=>∃ v c' d H',e = .returned v∧R d H'∧H.length≤H'.length∧e9 G c' H' w'∧eJ c' w' v d∧Step H.length c H w c' H' w'
def sU.one{f:FuncId}{args:List D}{H:U}{R:D→U→Prop}{d:D}{H':U}(h:sU P G f args H R)(h1:∀ d' Hn,R d' Hn→d'=d∧Hn=H'):vi P G f args H d H':=
 fun c w vs h2 h3=>(h c w vs h2 h3).mono fun _ _ ⟨v,c',_,_,he,hR,_,a,b,e⟩=>by
  obtain⟨rfl,rfl⟩:=h1 _ _ hR
  exact⟨v,c',he,a,b,e⟩
def MS:eP (fun _=>none) H 40=eP (ga []) H 40:=rfl
theorem iy.map{c c':Ctx}{f:D→D}(hr:∀ v d,eJ c w v d→eJ c' w v (f d)){vs:List Value}{ds:List D}(h:iy c w vs ds):iy c' w vs (ds.map f):=by
 induction h with
 | nil=>exact .nil
 | cons h _ ih=>exact .cons (hr _ _ h) ih
def Si(eM:e9 G c H w){f:FuncId}{vs:List Value}{args:List D}{d:D}(hr:iy c w vs args)(iQ:vi P G f (args.map (eP (fun _=>none) H 40)) [] d Hn)
  (hc:(if fu args then lM d&&Hn.all mO else nU d&&Hn.all oi)=true) :
  Calls P f vs.toArray w fun e w'=>∃ v c',e = .returned v∧e9 G c' (H++Hn) w'∧eJ c' w' v (jx H.length d)∧Step H.length c H w c' (H++Hn) w':=by
 by_cases fM:fu args=true
 ·rw[if_pos fM]at hc
  simp only[ah]at hc
  have e:args.map (eP (fun _=>none) H 40)=args:=by
   conv=>rhs;rw[← aQ args]
   exact aj fun d hd=>mD (lE fM d hd)
  rw[e]at iQ
  have qR:iy (c.data c.F) w vs args:=by
   clear iQ hc e
   induction hr with
   | nil=>exact .nil
   | cons h _ ih=>
    simp only[fu,ah]at fM
    exact .cons (eJ.closed (c:=c) (c':=c.data c.F) (fun b hb=>hb) h fM.1) (ih fM.2)
  refine(iQ _ w vs (G0 eM) qR).mono ?_
  rintro e w' ⟨v,c2,he,h2,hv,eX⟩
  have hg:=xt eX
  have hF:∀ b,c2.F b→c.F b∨w.heap.size≤b:=fun b hb=>by
   rcases eX.Fn b hb with h|h|h
   ·exact .inl h
   ·exact .inr h
   ·exact absurd h q7
  have j:vq G c c2 H Hn w w' c2.F:={
   eM:=eM
   mj:=h2
   oD:=hg
   fresh:=fun b hb=>by
    rcases eX.own b hb with h|h
    ·exact h
    ·exact absurd h q7
   le:=fun b hb=>eX.Fm b hb
   lt:=h2.jG
   n1:=fun b hb ho=>by
    rcases hF b hb with h|h
    ·exact eM.nF b ho h
    ·have:=eM.lt b ho;omega
   n2:=fun b hb ho=>h2.nF b ho hb
   new:=hF
   rows:=fun v o ho=>by
    obtain⟨t,g,cs,rfl,im⟩:=Ov hc.2 ho
    exact⟨t,g,cs,rfl,fun d hd u hu=>eJ.closed (c:=c2) (c':=c.join c2 H.length c2.F) (fun b hb=>hb) hu (im d hd)⟩ }
  exact⟨v,_,he,Ik j,IZ j (p:=AL.closed) (fun d u hd hu=>eJ.closed (c:=c2) (c':=c.join c2 H.length c2.F) (fun b hb=>hb) hu hd) hv hc.1,Il j⟩
 ·rw[if_neg fM]at hc
  simp only[ah]at hc
  have qR:iy (c.eP [] H) w vs (args.map (eP (fun _=>none) H 40)):=hr.map fun v d h=>by
   rw[MS];exact wx eM 40 h
  have B9:e9 G (c.eP [] H) [] w:=An (ks:=[]) eM (fun i j p q hp=>by simp at hp)
  refine(iQ _ w vs B9 qR).mono ?_
  rintro e w' ⟨v,c2,he,h2,hv,eX⟩
  have hg:=xt eX
  have j:vq G c c2 H Hn w w' c.F:={
   eM:=eM
   mj:=h2
   oD:=hg
   fresh:=fun b hb=>by
    rcases eX.own b hb with h|h
    ·exact h
    ·exact absurd h q7
   le:=fun b hb=>hb
   lt:=fun b hb=>aK (eM.jG b hb) hg.size
   n1:=fun b hb ho=>eM.nF b ho hb
   n2:=fun b hb ho=>by
    rcases eX.own b ho with h|h
    ·have:=eM.jG b hb;omega
    ·exact absurd h q7
   new:=fun b hb=>.inl hb
   rows:=fun v o ho=>by
    obtain⟨t,g,cs,rfl,im⟩:=Ph hc.2 ho
    exact⟨t,g,cs,rfl,fun d hd u hu=>eJ.flat hu (im d hd)⟩ }
  exact⟨v,_,he,Ik j,IZ j (p:=AL.flat) (fun d u hd hu=>eJ.flat hu hd) hv hc.1,Il j⟩
def afr(eM:e9 G c H w){f:FuncId}{vs:List Value}{args:List D}{R:D→U→Prop}(hr:iy c w vs args)(iQ:sU P G f (args.map (eP (fun _=>none) H 40)) [] R)
  (hc:∀ d Hn,R d Hn→(if fu args then lM d&&Hn.all mO else nU d&&Hn.all oi)=true) :
  Calls P f vs.toArray w fun e w'=>∃ v c' d Hn,e = .returned v∧R d Hn∧e9 G c' (H++Hn) w'∧eJ c' w' v (jx H.length d)∧Step H.length c H w c' (H++Hn) w':=by
 by_cases fM:fu args=true
 ·simp only[if_pos fM,ah]at hc
  have e:args.map (eP (fun _=>none) H 40)=args:=by
   conv=>rhs;rw[← aQ args]
   exact aj fun d hd=>mD (lE fM d hd)
  rw[e]at iQ
  have qR:iy (c.data c.F) w vs args:=by
   clear iQ hc e
   induction hr with
   | nil=>exact .nil
   | cons h _ ih=>
    simp only[fu,ah]at fM
    exact .cons (eJ.closed (c:=c) (c':=c.data c.F) (fun b hb=>hb) h fM.1) (ih fM.2)
  refine(iQ _ w vs (G0 eM) qR).mono ?_
  rintro e w' ⟨v,c2,d,Hn,he,hR,_,h2,hv,eX⟩
  have hc:=hc d Hn hR
  have hg:=xt eX
  have hF:∀ b,c2.F b→c.F b∨w.heap.size≤b:=fun b hb=>by
   rcases eX.Fn b hb with h|h|h
   ·exact .inl h
   ·exact .inr h
   ·exact absurd h q7
  have j:vq G c c2 H Hn w w' c2.F:={
   eM:=eM
   mj:=h2
   oD:=hg
   fresh:=fun b hb=>by
    rcases eX.own b hb with h|h
    ·exact h
    ·exact absurd h q7
   le:=fun b hb=>eX.Fm b hb
   lt:=h2.jG
   n1:=fun b hb ho=>by
    rcases hF b hb with h|h
    ·exact eM.nF b ho h
    ·have:=eM.lt b ho;omega
   n2:=fun b hb ho=>h2.nF b ho hb
   new:=hF
   rows:=fun v o ho=>by
    obtain⟨t,g,cs,rfl,im⟩:=Ov hc.2 ho
    exact⟨t,g,cs,rfl,fun d hd u hu=>eJ.closed (c:=c2) (c':=c.join c2 H.length c2.F) (fun b hb=>hb) hu (im d hd)⟩ }
  exact⟨v,_,d,Hn,he,hR,Ik j,IZ j (p:=AL.closed) (fun d u hd hu=>eJ.closed (c:=c2) (c':=c.join c2 H.length c2.F) (fun b hb=>hb) hu hd) hv hc.1,Il j⟩
 ·simp only[if_neg fM,ah]at hc
  have qR:iy (c.eP [] H) w vs (args.map (eP (fun _=>none) H 40)):=hr.map fun v d h=>by
   rw[MS];exact wx eM 40 h
  have B9:e9 G (c.eP [] H) [] w:=An (ks:=[]) eM (fun i j p q hp=>by simp at hp)
  refine(iQ _ w vs B9 qR).mono ?_
  rintro e w' ⟨v,c2,d,Hn,he,hR,_,h2,hv,eX⟩
  have hc:=hc d Hn hR
  have hg:=xt eX
  have j:vq G c c2 H Hn w w' c.F:={
   eM:=eM
   mj:=h2
   oD:=hg
   fresh:=fun b hb=>by
    rcases eX.own b hb with h|h
    ·exact h
    ·exact absurd h q7
   le:=fun b hb=>hb
   lt:=fun b hb=>aK (eM.jG b hb) hg.size
   n1:=fun b hb ho=>eM.nF b ho hb
   n2:=fun b hb ho=>by
    rcases eX.own b ho with h|h
    ·have:=eM.jG b hb;omega
    ·exact absurd h q7
   new:=fun b hb=>.inl hb
   rows:=fun v o ho=>by
    obtain⟨t,g,cs,rfl,im⟩:=Ph hc.2 ho
    exact⟨t,g,cs,rfl,fun d hd u hu=>eJ.flat hu (im d hd)⟩ }
  exact⟨v,_,d,Hn,he,hR,Ik j,IZ j (p:=AL.flat) (fun d u hd hu=>eJ.flat hu hd) hv hc.1,Il j⟩
def Ctx.np(c c2:Ctx)(n:Nat)(F:Nat→Prop):Ctx where
 ι:=fun v g=>if v=n then c2.ι 0 g else c.ι v g
 F:=F
 RT:=c.RT
def C3{n:Nat}{ob:Ob}(hn:H[n]? = some .kW){F:Nat→Prop}{v:Nat}{L:Loc}(h:kN (c.np c2 n F) (H.set n ob) v L):(v≠n∧kN c H v L)∨(v=n∧kN c2 [ob] 0 L):=by
 obtain⟨o,ho,ha,eR⟩:=h
 rw[p6 (af.1 hn).1]at ho
 by_cases hv:v=n
 ·subst hv
  rw[if_pos rfl]at ho
  cases ho
  simp only[Ctx.np,if_true]at eR
  exact .inr ⟨rfl,ob,rfl,ha,eR⟩
 ·rw[if_neg hv]at ho
  simp only[Ctx.np,if_neg hv]at eR
  exact .inl ⟨hv,o,ho,ha,eR⟩
def afq(eM:e9 G c H w){f:FuncId}{vs:List Value}{args:List D}{d:D}{ob:Ob}{n:Nat}(hr:iy c w vs args)(iQ:vi P G f (args.map (eP (fun _=>none) H 40)) [] d [ob])
  (hc:(if fu args then lM d&&mO ob else nU d&&oi ob)=true) (hn:H[n]? = some .kW) :
  Calls P f vs.toArray w fun e w'=>∃ v c',e = .returned v∧e9 G c' (H.set n ob) w'∧eJ c' w' v (jx n d)∧Step H.length c H w c' (H.set n ob) w':=by
 have fq:=(af.1 hn).1
 have PQ:∀ k,c.ι n k=none:=fun k=>eM.lk n _ k hn (.inl rfl)
 have main:∀ (c2:Ctx) (w':World) (v:Value) (F:Nat→Prop),e9 G c2 [ob] w'→eJ c2 w' v d→jq w w'→(∀ b,lj c2 [ob] b→w.heap.size≤b)→(∀ b,c.F b→F b)→(∀ b,F b→b<w'.heap.size) →
   (∀ b,F b→¬ lj c H b)→(∀ b,F b→¬ lj c2 [ob] b)→(∀ b,F b→c.F b∨w.heap.size≤b)→∀ (p:D→Bool),(∀ d u,p d=true→eJ c2 w' u d→eJ (c.np c2 n F) w' u d)→tP p d=true →
   (∃ t g cs,ob = .row t g cs∧∀ d∈cs,p d=true) →
   e9 G (c.np c2 n F) (H.set n ob) w'∧eJ (c.np c2 n F) w' v (jx n d)∧Step H.length c H w (c.np c2 n F) (H.set n ob) w':=by
  intro c2 w' v F mj hv hg K7 hle XQ XW XX lW p hp hd gA
  have carry:∀ {u:Value} {d:D},eJ c w u d→eJ (c.np c2 n F) w' u d:=fun h=>by
   refine h.carry (fun v k L hL=>?_) hle (fun b o hF=>Bm (hg.kept b (eM.jG b hF)))
   have gw:v≠n:=fun e=>by rw[e,PQ]at hL;cases hL
   simp only[Ctx.np,if_neg gw];exact hL
  have Ca:∀ v g sz off len u,eJ c2 w' u (.eF v g sz off len)→(v=0)→eJ (c.np c2 n F) w' u (.eF (v+n) g sz off len):=by
   intro v g sz off len u hr h0
   subst h0
   cases hr with
   | eF _ _ _ _ _ cap L eR hv js jO lY=>exact .eF _ g sz off len cap L (by simp only[Ctx.np,aU,if_true];exact eR) hv js jO lY
   | mm _ _ _ _ L eR a=>exact .mm _ g sz off L (by simp only[Ctx.np,aU,if_true];exact eR) a
  have hz:∀ v g sz off len u,eJ c2 w' u (.eF v g sz off len)→v=0:=by
   intro v g sz off len u hr
   have:∃ L,c2.ι v g=some L:=by
    cases hr with
    | eF _ _ _ _ _ cap L eR=>exact⟨L,eR⟩
    | mm _ _ _ _ L eR=>exact⟨L,eR⟩
   obtain⟨L,hL⟩:=this
   rcases dH v with h|h
   ·exact h
   ·rw[mj.out v g (by show 1≤v;exact h)]at hL;cases hL
  have h1:∀ (d:D) (u:Value),u5 p d=true→eJ c2 w' u d→eJ (c.np c2 n F) w' u (uZ n d):=by
   intro d u hd hr
   cases d<;>first|exact Ca _ _ _ _ _ _ hr (hz _ _ _ _ _ _ hr)|exact hp _ _ hd hr
  refine⟨{
   inj:=fun v v' L L' h1 h2 h3 h4 he=>by
    rcases C3 hn h1 with⟨a,b⟩|⟨a,b⟩<;>rcases C3 hn h2 with⟨a',b'⟩|⟨a',b'⟩
    ·exact eM.inj v v' L L' b b' h3 h4 he
    ·have:=eM.lt _ ⟨v,L,b,h3,rfl⟩
     have:=K7 _ ⟨_,L',b',h4,rfl⟩
     omega
    ·have:=eM.lt _ ⟨v',L',b',h4,rfl⟩
     have:=K7 _ ⟨_,L,b,h3,rfl⟩
     omega
    ·rw[a,a']
   lt:=fun b hb=>by
    obtain⟨v,L,hl,hv,e⟩:=hb
    rcases C3 hn hl with⟨_,hl⟩|⟨_,hl⟩
    ·exact aK (eM.lt b ⟨v,L,hl,hv,e⟩) hg.size
    ·exact mj.lt b ⟨_,L,hl,hv,e⟩
   nF:=fun b hb hF=>by
    obtain⟨v,L,hl,hv,e⟩:=hb
    rcases C3 hn hl with⟨_,hl⟩|⟨_,hl⟩
    ·exact XW b hF ⟨v,L,hl,hv,e⟩
    ·exact XX b hF ⟨_,L,hl,hv,e⟩
   jG:=XQ
   out:=fun v k hv=>by
    simp only[cd]at hv
    simp only[Ctx.np,if_neg (show ¬ v=n by omega)]
    exact eM.out _ k hv
   lk:=fun v o k ho hk=>by
    rw[p6 fq]at ho
    by_cases hv:v=n
    ·subst hv
     rw[if_pos rfl]at ho
     cases ho
     simp only[Ctx.np,if_true]
     exact mj.lk 0 _ k rfl hk
    ·rw[if_neg hv]at ho
     simp only[Ctx.np,if_neg hv]
     exact eM.lk v o k ho hk
   ob:=fun v o ho=>by
    rw[p6 fq]at ho
    by_cases hv:v=n
    ·subst hv
     rw[if_pos rfl]at ho
     cases ho
     simp only[Ctx.np,if_true]
     have h0:=mj.ob 0 _ rfl
     obtain⟨t,g,cs,rfl,im⟩:=gA
     simp only[Ob.gen]at h0 ⊢
     cases hL:c2.ι 0 g with
     | none=>rw[hL]at h0;simp[gd]at h0
     | some L=>
      rw[hL]at h0
      simp only[gd]at h0 ⊢
      split
      ·rename_i lZ;simp only[lZ,if_true]at h0;exact h0
      ·rename_i lZ
       simp only[lZ]at h0
       obtain⟨arr,h1,h2,h3,h4⟩:=h0
       refine⟨arr,h1,h2,h3,fun i d hd=>?_⟩
       obtain⟨x,o6,lJ,uT⟩:=h4 i d hd
       exact⟨x,o6,lJ,hp d _ (im d (bk hd)) uT⟩
    ·rw[if_neg hv]at ho
     simp only[Ctx.np,if_neg hv]
     exact gd.pY (c:=c) (c':=c.np c2 n F) rfl (fun _ _ h=>carry h) (fun l hl lA hd=>hg.kept _ (eM.lt _ ⟨v,l,⟨o,ho,hd,hl⟩,lA,rfl⟩)) (eM.ob v o ho)
   gl:=fun g cs hg=>by
    obtain⟨h1,h2⟩:=eM.gl g cs hg
    exact⟨h1,carry h2⟩
   rt:=eM.rt },?_,?_⟩
  ·cases d with
   | tup ds=>
    cases hv with
    | tup vs _ hl sD=>
     simp only[jx]
     refine .tup vs _ (by simpa using hl) fun i v d hv nO=>?_
     simp only[av,ai]at nO
     obtain⟨d0,jV,rfl⟩:=nO
     exact h1 d0 v (aq.1 hd d0 (bk jV)) (sD i v d0 hv jV)
   | agg ds=>
    cases hv with
    | agg vs _ hl ho sD=>
     simp only[jx]
     refine .agg vs _ (by simpa using hl) ho fun i v d hv nO=>?_
     simp only[av,ai]at nO
     obtain⟨d0,jV,rfl⟩:=nO
     exact h1 d0 v (aq.1 hd d0 (bk jV)) (sD i v d0 hv jV)
   | eF v g sz off len=>exact Ca _ _ _ _ _ _ hv (hz _ _ _ _ _ _ hv)
   | _=>exact hp _ _ hd hv
  ·exact{
    os:=hg.os
    tape:=hg.tape
    output:=hg.output
    size:=hg.size
    RT:=rfl
    Fm:=hle
    Fn:=fun b hb=>(lW b hb).imp id .inl
    kept:=fun b hb _=>hg.kept b hb
    old:=fun v k L hv h=>by
     have gw:v≠n:=fun e=>by rw[e,PQ]at h;cases h
     simp only[Ctx.np,if_neg gw];exact h
    own:=fun b hb=>by
     obtain⟨v,L,hl,hv,e⟩:=hb
     rcases C3 hn hl with⟨_,hl⟩|⟨_,hl⟩
     ·exact .inr ⟨v,L,hl,hv,e⟩
     ·exact .inl (K7 b ⟨_,L,hl,hv,e⟩) }
 by_cases fM:fu args=true
 ·simp only[if_pos fM,ah]at hc
  have e:args.map (eP (fun _=>none) H 40)=args:=by
   conv=>rhs;rw[← aQ args]
   exact aj fun d hd=>mD (lE fM d hd)
  rw[e]at iQ
  have qR:iy (c.data c.F) w vs args:=by
   clear iQ hc e
   induction hr with
   | nil=>exact .nil
   | cons h _ ih=>
    simp only[fu,ah]at fM
    exact .cons (eJ.closed (c:=c) (c':=c.data c.F) (fun b hb=>hb) h fM.1) (ih fM.2)
  refine(iQ _ w vs (G0 eM) qR).mono ?_
  rintro e w' ⟨v,c2,he,h2,hv,eX⟩
  have hg:=xt eX
  have hF:∀ b,c2.F b→c.F b∨w.heap.size≤b:=fun b hb=>by
   rcases eX.Fn b hb with h|h|h
   ·exact .inl h
   ·exact .inr h
   ·exact absurd h q7
  obtain⟨m1,m2,m3⟩:=main c2 w' v c2.F h2 hv hg (fun b hb=>by
    rcases eX.own b hb with h|h
    ·exact h
    ·exact absurd h q7) (fun b hb=>eX.Fm b hb) h2.jG (fun b hb ho=>by
    rcases hF b hb with h|h
    ·exact eM.nF b ho h
    ·have:=eM.lt b ho;omega) (fun b hb ho=>h2.nF b ho hb) hF AL.closed (fun d u hd hu=>eJ.closed (c:=c2) (c':=c.np c2 n c2.F) (fun b hb=>hb) hu hd) hc.1 (by
    have:=hc.2
    cases ob<;>simp only[mO]at this<;>first|(cases this;done)|skip
    exact⟨_,_,_,rfl,lE this⟩)
  exact⟨v,_,he,m1,m2,m3⟩
 ·simp only[if_neg fM,ah]at hc
  have qR:iy (c.eP [] H) w vs (args.map (eP (fun _=>none) H 40)):=hr.map fun v d h=>by
   rw[MS];exact wx eM 40 h
  have B9:e9 G (c.eP [] H) [] w:=An (ks:=[]) eM (fun i j p q hp=>by simp at hp)
  refine(iQ _ w vs B9 qR).mono ?_
  rintro e w' ⟨v,c2,he,h2,hv,eX⟩
  have hg:=xt eX
  obtain⟨m1,m2,m3⟩:=main c2 w' v c.F h2 hv hg (fun b hb=>by
    rcases eX.own b hb with h|h
    ·exact h
    ·exact absurd h q7) (fun b hb=>hb) (fun b hb=>aK (eM.jG b hb) hg.size) (fun b hb ho=>eM.nF b ho hb) (fun b hb ho=>by
    rcases eX.own b ho with h|h
    ·have:=eM.jG b hb;omega
    ·exact absurd h q7) (fun b hb=>.inl hb) AL.flat (fun d u hd hu=>eJ.flat hu hd) hc.1 (by
    have:=hc.2
    cases ob<;>simp only[oi]at this<;>first|(cases this;done)|skip
    refine⟨_,_,_,rfl,fun d hd=>?_⟩
    obtain⟨i,hi⟩:=aF.1 hd
    exact zl this hi)
  exact⟨v,_,he,m1,m2,m3⟩
def afJ{S:List Nat}{v:Nat}(hv:v∈S):ga (kR H S) v=none:=by
 unfold ga kR
 rw[cF]
 intro p hp
 obtain⟨u,_,rfl⟩:=ao.1 hp
 by_cases hu:u=v
 ·subst hu;simp[hv]
 ·simp[hu]
theorem SS{v:Nat}:∀ (k:Nat) (d:D),(∀ u∈gv H k d,u=v)→AL.eP (ga (kR H [v])) H k d=AL.eP (fun _=>none) H k d
 | 0,d,_=>rfl
 | k+1,d,h=>by
  have hv:ga (kR H [v]) v=none:=afJ (by simp)
  have pb:∀ (ds:List D),(∀ u∈(ds.map (gv H k)).flatten,u=v)→ds.map (AL.eP (ga (kR H [v])) H k)=ds.map (AL.eP (fun _=>none) H k):=fun ds mh=>
   aj fun d hd=>SS k d fun u hu=>mh u (aP.2 ⟨_,ao.2 ⟨d,hd,rfl⟩,hu⟩)
  unfold gv at h
  unfold AL.eP
  by_cases hc:AL.closed d=true
  ·simp only[if_pos hc]
  ·simp only[if_neg hc]at h ⊢
   cases d with
   | agg cs=>simp only[pb cs h]
   | tup cs=>simp only[pb cs h]
   | eW cs=>simp only[pb cs h]
   | sl sz es=>
    have:es.map (fun x=>x.map (AL.eP (ga (kR H [v])) H k))=es.map (fun x=>x.map (AL.eP (fun _=>none) H k)):=aj fun e he=>pb e fun u hu=>h u (aP.2 ⟨_,ao.2 ⟨e,he,rfl⟩,hu⟩)
    simp only[this]
   | fn g x y=>
    have h1:=pb x fun u hu=>h u (aX _ hu)
    have h2:=pb y fun u hu=>h u (bE _ hu)
    simp only[h1,h2]
   | eF u g sz off len=>
    have hu:u=v:=h u (by simp)
    subst hu
    simp only[hv]
    cases gq:rowsOf H u with
    | none=>simp only[wz,gq]
    | some p=>
     obtain⟨t,g',cs⟩:=p
     simp only[wz,gq]
     by_cases hg:g'=g
     ·simp only[hg,if_true]
      have:=pb (cs.drop (off*sz)) fun w hw=>by
       obtain⟨l,hl,oJ⟩:=aP.1 hw
       obtain⟨d,hd,rfl⟩:=ao.1 hl
       exact h w (by simp only[gq];exact aS _ (aP.2 ⟨_,ao.2 ⟨d,bV hd,rfl⟩,oJ⟩))
      rw[this]
     ·simp only[if_neg hg]
   | ptr u g off=>
    have hu:u=v:=h u (by simp)
    subst hu
    simp only[hv]
    cases gq:rowsOf H u with
    | none=>simp only[wz,gq]
    | some p=>
     obtain⟨t,g',cs⟩:=p
     simp only[wz,gq]
     by_cases hg:g'=g
     ·simp only[hg,if_true]
      have:=pb (cs.drop off) fun w hw=>by
       obtain⟨l,hl,oJ⟩:=aP.1 hw
       obtain⟨d,hd,rfl⟩:=ao.1 hl
       exact h w (by simp only[gq];exact aS _ (aP.2 ⟨_,ao.2 ⟨d,bV hd,rfl⟩,oJ⟩))
      rw[this]
     ·simp only[if_neg hg]
   | fE u=>
    have hu:u=v:=h u (by simp)
    subst hu
    simp only[hv]
   | ic u=>
    have hu:u=v:=h u (by simp)
    subst hu
    simp only[hv]
   | _=>rfl
def ZZ(h:e9 G c H w){v:Nat}{t:TypeId}{g:Nat}{cs:List D}(hv:H[v]? = some (.row t g cs)) :
  ∃ c',e9 G c' (H.set v .dead) w∧Step H.length c H w c' (H.set v .dead) w∧(∀ u d,eJ c w u d→eJ c' w u d)∧∀ b,(c.eP (kR H [v]) H).F b→c'.F b:=by
 have fq:=(af.1 hv).1
 have hL:∀ c':Ctx,(∀ u k,c'.ι u k=c.ι u k)→∀ u l,kN c' (H.set v .dead) u l→u≠v∧kN c H u l:=by
  rintro c' eR u l ⟨o,ho,gg,hi⟩
  rw[p6 fq]at ho
  split at ho
  ·cases ho;cases gg
  ·rename_i gw;exact⟨gw,o,ho,gg,by rw[← eR];exact hi⟩
 let c':Ctx:={ c with F:=fun b=>c.F b∨∃ L,c.ι v g=some L∧L.iM=false∧L.b=b }
 have eR:∀ u k,c'.ι u k=c.ι u k:=fun _ _=>rfl
 have hr:∀ u d,eJ c w u d→eJ c' w u d:=fun u d hd=>eJ.carry (c:=c) (c':=c') (w:=w) (w':=w) (fun _ _ _ h=>h) (fun b hb=>Or.inl hb) (fun _ _ _=>rfl) hd
 have qk:∀ b,lj c' (H.set v .dead) b→lj c H b:=fun b ⟨u,l,hl,r⟩=>⟨u,l,(hL c' eR u l hl).2,r⟩
 refine⟨c',{
  inj:=fun u u' l l' h1 h2=>h.inj u u' l l' (hL c' eR _ _ h1).2 (hL c' eR _ _ h2).2
  lt:=fun b hb=>h.lt b (qk b hb)
  nF:=fun b hb hF=>by
   obtain⟨u,l,hl,gV,e⟩:=hb
   obtain⟨gw,mi⟩:=hL c' eR u l hl
   rcases hF with hF|⟨L,BP,gE,eL⟩
   ·exact h.nF b ⟨u,l,mi,gV,e⟩ hF
   ·exact gw (h.inj u v l L mi ⟨_,hv,rfl,BP⟩ gV gE (e.trans eL.symm))
  jG:=fun b hb=>by
   rcases hb with hb|⟨L,BP,gE,eL⟩
   ·exact h.jG b hb
   ·exact eL▸h.lt _ ⟨v,L,⟨_,hv,rfl,BP⟩,gE,rfl⟩
  out:=fun u k hu=>h.out u k (by simpa using hu)
  lk:=fun u o k ho hk=>by
   rw[p6 fq]at ho
   split at ho
   ·cases ho
    rcases hk with hk|⟨hk,_⟩<;>cases hk
   ·exact h.lk u o k ho hk
  ob:=fun u o ho=>by
   rw[p6 fq]at ho
   split at ho
   ·cases ho;simp[gd]
   ·exact gd.pY (c:=c) (c':=c') rfl hr (fun _ _ _ _=>rfl) (h.ob u o ho)
  gl:=fun g cs hg=>let ⟨a,b⟩:=h.gl g cs hg;⟨a,hr _ _ b⟩
  rt:=h.rt },?_,hr,fun b hb=>?_⟩
 ·exact{
   os:=⟨rfl,Nat.le_refl _⟩,tape:=rfl,output:=rfl,size:=Nat.le_refl _,RT:=rfl
   Fm:=fun b hb=>Or.inl hb
   Fn:=fun b hb=>by
    rcases hb with hb|⟨L,BP,gE,eL⟩
    ·exact .inl hb
    ·exact .inr (.inr ⟨v,L,⟨_,hv,rfl,BP⟩,gE,eL⟩)
   kept:=fun _ _ _=>rfl
   old:=fun _ _ _ _ h=>h
   own:=fun b hb=>.inr (qk b hb) }
 ·rcases hb with hb|⟨u,L,⟨o,ho,gg,Zf⟩,Qs,gE,e⟩
  ·exact .inl hb
  ·have hu:u=v:=by
    by_cases gw:u=v
    ·exact gw
    ·exfalso
     have QL:=(af.1 ho).1
     have:ga (kR H [v]) u=some u:=MH Pt (by
      unfold kR
      simp[QL,gw])
     rw[this]at Qs;cases Qs
   subst hu
   rw[hv]at ho
   cases ho
   exact .inr ⟨L,Zf,gE,e⟩
def afp(eM:e9 G c H w){f:FuncId}{vs:List Value}{args:List D}{d:D}{v:Nat}(hr:iy c w vs args)(hS:∀ u∈(args.map (gv H 40)).flatten,u=v)(gq:(rowsOf H v).isSome=true)
  (iQ:vi P G f (args.map (AL.eP (fun _=>none) H 40)) [] d []) (fM:fu (args.map (AL.eP (fun _=>none) H 40))=true) (hd:AL.closed d=true) :
  Calls P f vs.toArray w fun e w'=>∃ u c',e = .returned u∧e9 G c' (H.set v .dead) w'∧eJ c' w' u d∧Step H.length c H w c' (H.set v .dead) w':=by
 have hv:∃ t g cs,H[v]? = some (.row t g cs):=by
  unfold rowsOf at gq
  split at gq
  ·exact⟨_,_,_,by assumption⟩
  ·cases gq
 obtain⟨t,g,cs,hv⟩:=hv
 obtain⟨c1,k1,k2,k3,k4⟩:=ZZ eM hv
 have YA:iy c1 w vs (args.map (AL.eP (fun _=>none) H 40)):=by
  have e:args.map (AL.eP (fun _=>none) H 40)=args.map (AL.eP (ga (kR H [v])) H 40):=
   aj fun d hd=>(SS 40 d fun u hu=>hS u (aP.2 ⟨_,ao.2 ⟨d,hd,rfl⟩,hu⟩)).symm
  have BS:=fM
  rw[e]at BS ⊢
  have h0:=hr.map (c':=c.eP (kR H [v]) H) (f:=AL.eP (ga (kR H [v])) H 40) fun _ _ h=>wx eM 40 h
  generalize args.map (AL.eP (ga (kR H [v])) H 40)=as at h0 BS
  clear e fM hS iQ hr
  induction h0 with
  | nil=>exact .nil
  | cons h _ ih=>
   simp only[fu,ah]at BS
   exact .cons (eJ.closed (c:=c.eP (kR H [v]) H) (c':=c1) k4 h BS.1) (ih BS.2)
 have e2:(args.map (AL.eP (fun _=>none) H 40)).map (AL.eP (fun _=>none) (H.set v .dead) 40)=args.map (AL.eP (fun _=>none) H 40):=by
  conv=>rhs;rw[← aQ (args.map (AL.eP (fun _=>none) H 40))]
  exact aj fun d hd=>mD (lE fM d hd)
 have zQ:lM d=true∧jx (H.set v .dead).length d=d:=by
  cases d<;>first|(cases hd;done)|skip
  case tup ds=>
   simp only[AL.closed]at hd
   refine⟨?_,?_⟩
   ·simp only[lM,tP,aq]
    intro x hx
    have:=lE hd x hx
    cases x<;>first|rfl|exact this
   ·simp only[jx]
    congr 1
    conv=>rhs;rw[← aQ ds]
    refine aj fun x hx=>?_
    have:=lE hd x hx
    cases x<;>first|rfl|(cases this;done)
  case agg ds=>
   simp only[AL.closed]at hd
   refine⟨?_,?_⟩
   ·simp only[lM,tP,aq]
    intro x hx
    have:=lE hd x hx
    cases x<;>first|rfl|exact this
   ·simp only[jx]
    congr 1
    conv=>rhs;rw[← aQ ds]
    refine aj fun x hx=>?_
    have:=lE hd x hx
    cases x<;>first|rfl|(cases this;done)
  all_goals exact⟨hd,rfl⟩
 refine(Si k1 YA (by rw[e2];exact iQ) (by rw[if_pos fM];simp[zQ.1])).mono ?_
 rintro e w' ⟨u,c2,he,m1,m2,m3⟩
 rw[aw]at m1 m3
 rw[zQ.2]at m2
 exact⟨u,c2,he,m1,m2,k2.trans m3 (by simp)⟩
end
end Go.AL
namespace Go.AL
open Go
def p7(o:Nat)(xs cs:List D):List D:=cs.take o++xs++cs.drop (o+xs.length)
def M3{o:Nat}{xs cs:List D}(h:o+xs.length≤cs.length):(p7 o xs cs).length=cs.length:=by simp[p7];omega
def Dr{o:Nat}{xs cs:List D}(h:o+xs.length≤cs.length)(i:Nat):(p7 o xs cs)[i]? = if o≤i∧i<o+xs.length then xs[i-o]? else cs[i]? := by
 unfold p7
 have hl:(cs.take o).length=o:=by simp;omega
 by_cases h1:i<o
 ·rw[ag (by simp;omega),ag (by omega),aA,if_pos h1,if_neg (by omega)]
 ·by_cases h2:i<o+xs.length
  ·rw[ag (by simp;omega),ak (by omega),hl,if_pos ⟨by omega,h2⟩]
  ·rw[ak (by simp;omega),aD,if_neg (by omega)]
   congr 1
   simp;omega
def vc(n:Nat):Dl→Option Nat
 | .no=>none
 | .cells v _ _=>some v
 | .obj v _=>some v
 | .new _=>some n
def M8:Dl→Ob→Ob
 | .no,o=>o
 | .cells _ o xs,.row t g cs=>.row t g (p7 o xs cs)
 | .cells _ _ _,o=>o
 | .obj _ ob,_=>ob
 | .new ob,_=>ob
abbrev ko(n:Nat)(δ:Dl)(H:U):U:=δ.app H (Al.kW H n)
def y7(n:Nat)(δ:Dl)(H:U)(x:Nat):(ko n δ H)[x]? = if vc n δ=some x then(H[x]?).map (M8 δ)else H[x]? := by
 have mA:∀ (v:Nat) (ob:Ob) (f:Ob→Ob),(∀ o,f o=ob)→(H.set v ob)[x]? = if some v=some x then(H[x]?).map f else H[x]? := by
  intro v ob f hf
  rw[bO]
  by_cases e:v=x
  ·subst e
   rw[if_pos rfl,if_pos rfl]
   split
   ·rename_i fq;simp[fq,hf]
   ·rename_i fq;rw[aO (by omega)];rfl
  ·rw[if_neg e,if_neg (by simpa using e)]
 cases δ with
 | no=>simp[ko,Dl.app,vc]
 | obj v ob=>exact mA v ob _ fun _=>rfl
 | new ob=>exact mA n ob _ fun _=>rfl
 | cells v o xs=>
  have ht:vc n (.cells v o xs)=some v:=rfl
  by_cases e:v=x
  ·subst e
   rw[if_pos ht]
   simp only[ko,Dl.app]
   split
   ·rename_i t g cs hv
    rw[bO,if_pos rfl,if_pos (af.1 hv).1,hv]
    rfl
   ·rename_i gw
    cases hx:H[v]? with
    | none=>rfl
    | some ob=>
     cases ob<;>first|rfl|skip
     exact absurd hx (gw _ _ _)
  ·rw[if_neg (by rw[ht];simpa using e)]
   simp only[ko,Dl.app]
   split
   ·rw[bO,if_neg e]
   ·rfl
def Fits(n:Nat)(δ:Dl)(H:U):Prop:=match δ with
 | .cells v o xs=>∃ t g cs,H[v]? = some (.row t g cs)∧o+xs.length≤cs.length
 | .new _=>H[n]? = some .kW
 | _=>True
def vx{a b:List Fp}(h:ru a b=true){x y:Fp}(hx:x∈a)(hy:y∈b):rr x y=true:=
 aq.1 (aq.1 h x hx) y hy
def NY{n:Nat}{δ:Dl}{H:U}{fp:List Fp}(hf:Fits n δ H)(h:ru (iS n δ) fp=true):rk fp (ko n δ H) H:=by
 intro x hx
 obtain⟨u,r⟩:=x
 have gw:∀ v q,(v,q)∈iS n δ→vc n δ=some v:=by
  intro v q hm
  cases δ<;>simp only[iS,List.mem_singleton,cZ]at hm<;>first|(cases hm;rfl)|cases hm
 have main:vc n δ≠some u→(ko n δ H)[u]? = H[u]? := fun hn=>by rw[y7,if_neg hn]
 by_cases ht:vc n δ=some u
 ·cases r with
  | none=>
   exfalso
   cases δ with
   | no=>cases ht
   | cells v o xs=>cases ht;have:=vx h (x:=(u,some (o,xs.length))) (by simp[iS]) hx;simp[rr]at this
   | obj v ob=>cases ht;have:=vx h (x:=(u,none)) (by simp[iS]) hx;simp[rr]at this
   | new ob=>cases ht;have:=vx h (x:=(n,none)) (by simp[iS]) hx;simp[rr]at this
  | some q=>
   obtain⟨p,m⟩:=q
   cases δ with
   | no=>cases ht
   | obj v ob=>cases ht;exfalso;have:=vx h (x:=(u,none)) (by simp[iS]) hx;simp[rr]at this
   | new ob=>cases ht;exfalso;have:=vx h (x:=(n,none)) (by simp[iS]) hx;simp[rr]at this
   | cells v o xs=>
    cases ht
    obtain⟨t,g,cs,h1,h2⟩:=hf
    have ha:=vx h (x:=(u,some (o,xs.length))) (by simp[iS]) hx
    simp only[rr,bne_self_eq_false,dK,cg,decide_eq_true_eq]at ha
    refine .inr ⟨t,g,p7 o xs cs,cs,?_,h1,M3 h2,fun i hi1 iZ=>?_⟩
    ·simp[y7,vc,h1,M8]
    ·rw[Dr h2,if_neg (by omega)]
 ·have e:=main ht
  cases r with
  | none=>exact e
  | some q=>exact .inl e
def agB{o p:Nat}{xs ys cs:List D}(h1:o+xs.length≤cs.length)(h2:p+ys.length≤cs.length)(h:o+xs.length≤p∨p+ys.length≤o) :
  p7 o xs (p7 p ys cs)=p7 p ys (p7 o xs cs):=by
 apply bP
 intro i
 rw[Dr (by rw[M3 h2];exact h1),Dr h2,Dr (by rw[M3 h1];exact h2),Dr h1]
 by_cases a:o≤i∧i<o+xs.length<;>by_cases b:p≤i∧i<p+ys.length
 ·omega
 ·rw[if_pos a,if_neg b,if_pos a]
 ·rw[if_neg a,if_pos b,if_pos b]
 ·rw[if_neg a,if_neg b,if_neg b,if_neg a]
def ag6{n m:Nat}{δ ε:Dl}{H:U}(hf:Fits n δ H)(hg:Fits m ε H)(h:ru (iS n δ) (iS m ε)=true):ko m ε (ko n δ H)=ko n δ (ko m ε H):=by
 apply bP
 intro x
 rw[y7,y7,y7,y7]
 by_cases a:vc n δ=some x<;>by_cases b:vc m ε=some x
 ·rw[if_pos a,if_pos b,if_pos b,if_pos a]
  have bad:∀ {P:Prop},(∃ q r,(x,q)∈iS n δ∧(x,r)∈iS m ε∧(q=none∨r=none))→P:=by
   rintro P ⟨q,r,h1,h2,h3⟩
   have:=vx h h1 h2
   rcases h3 with rfl|rfl
   ·simp[rr]at this
   ·cases q<;>simp[rr]at this
  cases δ with
  | no=>cases a
  | obj v ob=>
   cases a
   cases ε with
   | no=>cases b
   | cells v o xs=>cases b;exact bad ⟨none,some (o,xs.length),by simp[iS],by simp[iS],.inl rfl⟩
   | obj v ob=>cases b;exact bad ⟨none,none,by simp[iS],by simp[iS],.inl rfl⟩
   | new ob=>cases b;exact bad ⟨none,none,by simp[iS],by simp[iS],.inl rfl⟩
  | new ob=>
   cases a
   cases ε with
   | no=>cases b
   | cells v o xs=>cases b;exact bad ⟨none,some (o,xs.length),by simp[iS],by simp[iS],.inl rfl⟩
   | obj v ob=>cases b;exact bad ⟨none,none,by simp[iS],by simp[iS],.inl rfl⟩
   | new ob=>cases b;exact bad ⟨none,none,by simp[iS],by simp[iS],.inl rfl⟩
  | cells v o xs=>
   cases a
   cases ε with
   | no=>cases b
   | obj v ob=>cases b;exact bad ⟨some (o,xs.length),none,by simp[iS],by simp[iS],.inr rfl⟩
   | new ob=>cases b;exact bad ⟨some (o,xs.length),none,by simp[iS],by simp[iS],.inr rfl⟩
   | cells v p ys=>
    cases b
    obtain⟨t,g,cs,h1,h2⟩:=hf
    obtain⟨t',g',mu,Hx,KC⟩:=hg
    rw[h1]at Hx
    cases Hx
    have ha:=vx h (x:=(x,some (o,xs.length))) (y:=(x,some (p,ys.length))) (by simp[iS]) (by simp[iS])
    simp only[rr,bne_self_eq_false,dK,cg,decide_eq_true_eq]at ha
    simp only[h1,bn,M8]
    rw[agB h2 KC ha]
 ·rw[if_pos a,if_neg b,if_neg b,if_pos a]
 ·rw[if_neg a,if_pos b,if_neg a]
 ·rw[if_neg a,if_neg b,if_neg a]
structure Rc where
 R:List Fp
 W:List Fp
inductive Out where
 | norm (s:St)
 | exit (id:Nat) (s:St)
 | ret (s:St)
inductive wJ where
 | ops (l:List eT) (s:St)
 | code (c:IR) (s:St)
 | loop (n:Nat) (live:List Nat) (a:IR) (s:St)
 | call (f:FuncId) (args:List D) (H:U)
 | trace (l:List eT) (s:St)
inductive nY where
 | out (o:Out)
 | tr (rs:List Rc) (s:St)
 | val (d:D) (H:U)
def Out.stop:Out→Bool
 | .norm _=>false
 | _=>true
def sJ(iH:List (Nat×Nat))(rs:List Rc):Bool:=iH.all fun p=>match rs[p.1]?,rs[p.2]? with
 | some a,some b=>ru a.W (b.R++b.W)&&ru b.W (a.R++a.W)
 | _,_=>false
def yieldOf(env:fQ):gP→Option (Nat×List D)
 | .callv f args=>match ev env f with
  | .ic v=>some (v,args.map (ev env))
  | _=>none
 | _=>none
def Out.st:Out→St
 | .norm s=>s
 | .exit _ s=>s
 | .ret s=>s
def Out.tS:Out→qb
 | .norm _=>.ready
 | .exit id _=>.vH id
 | .ret _=>.xd
def yj(s:St):qb→Option Out
 | .ready=>some (.norm s)
 | .busy=>none
 | .xd=>some (.ret s)
 | .vH id=>some (.exit id s)
def kill:List Nat→U→Option U
 | [],H=>some H
 | v::vs,H=>match H[v]? with
  | some .jZ=>kill vs (H.set v .dead)
  | _=>none
def finish(fn:eI)(own n:Nat):Out→Option (D×U)
 | .norm s | .ret s=>match kill s.marks s.H with
  | some H=>match results fn { s with H:=H }with
   | some d=>some (leave own n H d)
   | none=>none
  | none=>none
 | .exit _ _=>none
def mc(id n:Nat)(live:List Nat):Out→Out
 | .norm s=>.norm (cut n live s)
 | .exit wh s=>if wh=id then .norm (cut n live s)else .exit wh s
 | .ret s=>.ret s
inductive Ev(T:gy):wJ→(nY→Prop)→Prop
 | mono {j R R'} (h:Ev T j R) (hi:∀ r,R r→R' r):Ev T j R'
 | nil {s R} (h:R (.out (.norm s))):Ev T (.ops [] s) R
 | op {e r s d δ R} (hg:guardOf s.env.get e.guard=some true) (h:fG s.env.get s.H s.H.length e.op=some (d,δ))
   (t:Ev T (.ops r { s with env:=put s.env e.dst d,H:=δ.app s.H (Al.last s.H) }) R):Ev T (.ops (e::r) s) R
 | yy {e r s d δ R} (hg:guardOf s.env.get e.guard=some true) (h:l6 s.env.get s.H s.H.length e.op=some (d,δ))
   (t:Ev T (.ops r { s with env:=put s.env e.dst d,H:=δ.app s.H (Al.last s.H) }) R):Ev T (.ops (e::r) s) R
 | off {e r s R} (hg:guardOf s.env.get e.guard=some false) (t:Ev T (.ops r { s with env:=put s.env e.dst (.val undef) }) R):Ev T (.ops (e::r) s) R
 | kb {l s R} (S:List Nat) (hm:s.marks.all (fun v => !S.contains v)=true) (t:Ev T (.ops l (kb S s)) R):Ev T (.ops l s) R
 | BK {c s R} (S:List Nat) (hm:s.marks.all (fun v => !S.contains v)=true) (t:Ev T (.code c (kb S s)) R):Ev T (.code c s) R
 | Kq {l s R} (live:List Nat) (t:Ev T (.ops l { s with env:=forget live s.env }) R):Ev T (.ops l s) R
 | BJ {c s R} (live:List Nat) (t:Ev T (.code c { s with env:=forget live s.env }) R):Ev T (.code c s) R
 | Bk {e r s f args fn R1 R} (hg:guardOf s.env.get e.guard=some true) (hc:jA s.env.get e.op=some (f,args)) (hf:T.fn f=some fn) (hp:fn.full=false)
   (h:Ev T (.call f (args.map (eP (fun _=>none) s.H 40)) []) R1) (ha:∀ d Hn,R1 (.val d Hn)→(after s e.dst args d Hn).isSome=true)
   (t:∀ d Hn s',R1 (.val d Hn)→after s e.dst args d Hn=some s'→Ev T (.ops r s') R):Ev T (.ops (e::r) s) R
 | Bj {e r s f args fn R1 R} (hg:guardOf s.env.get e.guard=some true) (hc:jA s.env.get e.op=some (f,args)) (hf:T.fn f=some fn) (hp:fn.full=true)
   (h:Ev T (.call f args s.H) R1) (t:∀ d H',R1 (.val d H')→Ev T (.ops r { s with env:=put s.env e.dst d,H:=H' }) R):Ev T (.ops (e::r) s) R
 | GD {e r s v args rf env0 Rd Ra Rb R} (hg:guardOf s.env.get e.guard=some true) (hc:yieldOf s.env.get e.op=some (v,args)) (hv:s.H[v]? = some (.gu rf env0 .ready)) (hR:T.round rf=some Rd) (hl:args.length=Rd.params.length)
   (ha:Ev T (.code Rd.a { env:=re Rd.params args env0,H:=s.H,fW:=true }) Ra) (hn:∀ o,Ra (.out o)→o.stop=false∧∃ ka,o.st.H[v]? = some (.gu rf ka .ready))
   (hb:∀ s1 ka,Ra (.out (.norm s1))→s1.H[v]? = some (.gu rf ka .ready)→Ev T (.code Rd.b { s1 with H:=s1.H.set v (.gu rf ka .busy) }) Rb)
   (hm:∀ o,Rb (.out o)→∃ jU,o.st.H[v]? = some (.gu rf jU .busy))
   (t:∀ o jU,Rb (.out o)→o.st.H[v]? = some (.gu rf jU .busy)→Ev T (.ops r { s with env:=put s.env e.dst (.b !o.stop),H:=o.st.H.set v (.gu rf jU o.tS) }) R):Ev T (.ops (e::r) s) R
 | next {e r s x v m since seen kk es R} (hg:guardOf s.env.get e.guard=some true) (gD:e.op = .nextM x) (hx:ev s.env.get x = .ptr v 0 0) (hv:s.H[v]? = some (.jJ (.fE m) since seen)) (hm:s.H[m]? = some (.map kk es)) (hs:es.length=since)
   (h0:(∀ i,i<es.length→i∈seen)→Ev T (.ops r { s with env:=put s.env e.dst (.tup [.b false]) }) R)
   (h1:∀ i k d,es[i]? = some (k,d)→i ∉ seen→Ev T (.ops r { s with env:=put s.env e.dst (.tup [.b true,.val k,d]),H:=s.H.set v (.jJ (.fE m) since (seen ++ [i])) }) R):Ev T (.ops (e::r) s) R
 | Dz {s R} (h:R (.tr [] s)):Ev T (.trace [] s) R
 | DB {e r s d δ R1 R} (hg:guardOf s.env.get e.guard=some true) (h:fG s.env.get s.H s.H.length e.op=some (d,δ))
   (t:Ev T (.trace r { s with env:=put s.env e.dst d,H:=δ.app s.H (Al.last s.H) }) R1) (k:∀ rs s',R1 (.tr rs s')→R (.tr (⟨fH s.env.get s.H e.op,iS s.H.length δ⟩::rs) s')):Ev T (.trace (e::r) s) R
 | DA {e r s R1 R} (hg:guardOf s.env.get e.guard=some false) (t:Ev T (.trace r { s with env:=put s.env e.dst (.val undef) }) R1) (k:∀ rs s',R1 (.tr rs s')→R (.tr (⟨[],[]⟩::rs) s')):Ev T (.trace (e::r) s) R
 | Dw {e r s f args fn d R0 R1 R} (hg:guardOf s.env.get e.guard=some true) (hc:jA s.env.get e.op=some (f,args)) (hf:T.fn f=some fn) (hp:fn.full=false)
   (h:Ev T (.call f (args.map (eP (fun _=>none) s.H 40)) []) R0) (h0:∀ d' Hn,R0 (.val d' Hn)→d'=d∧Hn = []) (hr:(if fu args then closed d else flat d)=true)
   (t:Ev T (.trace r { s with env:=put s.env e.dst d }) R1) (k:∀ rs s',R1 (.tr rs s')→R (.tr (⟨fH s.env.get s.H e.op,[]⟩::rs) s')):Ev T (.trace (e::r) s) R
 | Dx {e r s f as args fn d ob R0 R1 R} (hg:guardOf s.env.get e.guard=some true) (gD:e.op = .callN f as) (ha:args=as.map (ev s.env.get)) (hf:T.fn f=some fn) (hp:fn.full=false)
   (h:Ev T (.call f (args.map (eP (fun _=>none) s.H 40)) []) R0) (h0:∀ d' Hn,R0 (.val d' Hn)→d'=d∧Hn = [ob]) (hr:(if fu args then lM d&&mO ob else nU d&&oi ob)=true)
   (t:Ev T (.trace r { s with env:=put s.env e.dst (jx s.H.length d),H:=s.H ++ [ob] }) R1) (k:∀ rs s',R1 (.tr rs s')→R (.tr (⟨fH s.env.get s.H e.op,[(s.H.length,none)]⟩::rs) s')):Ev T (.trace (e::r) s) R
 | Dy {e r s f as args fn d v R0 R1 R} (hg:guardOf s.env.get e.guard=some true) (gD:e.op = .callN f as) (ha:args=as.map (ev s.env.get)) (hf:T.fn f=some fn) (hp:fn.full=false)
   (hS:∀ u∈(args.map (gv s.H 40)).flatten,u=v) (hv:v∈(args.map (gv s.H 40)).flatten) (gq:(rowsOf s.H v).isSome=true) (fM:fu (args.map (eP (fun _=>none) s.H 40))=true)
   (h:Ev T (.call f (args.map (eP (fun _=>none) s.H 40)) []) R0) (h0:∀ d' Hn,R0 (.val d' Hn)→d'=d∧Hn = []) (hr:closed d=true)
   (t:Ev T (.trace r { s with env:=put s.env e.dst d,H:=s.H.set v .dead }) R1) (k:∀ rs s',R1 (.tr rs s')→R (.tr (⟨fH s.env.get s.H e.op,[(v,none)]⟩::rs) s')):Ev T (.trace (e::r) s) R
 | kr {iH l s R1 R} (t:Ev T (.trace l s) R1) (hp:∀ rs s',R1 (.tr rs s')→sJ iH rs=true∧R (.out (.norm s'))):Ev T (.code (.kr iH l) s) R
 | lF {iH l es s R1 R} (t:Ev T (.trace l s) R1) (hp:∀ rs s',R1 (.tr rs s')→sJ iH rs=true) (k:∀ rs s',R1 (.tr rs s')→Ev T (.ops es s') R):Ev T (.code (.lF iH l es) s) R
 | skip {s R} (h:R (.out (.norm s))):Ev T (.code .skip s) R
 | Bu {l s R} (h:Ev T (.ops l s) R):Ev T (.code (.ops l) s) R
 | seq {a b s R1 R} (h:Ev T (.code a s) R1) (k:∀ s',R1 (.out (.norm s'))→Ev T (.code b s') R) (hs:∀ o,R1 (.out o)→o.stop=true→R (.out o)):Ev T (.code (.seq a b) s) R
 | cond {c a b s x R} (hc:ev s.env.get c = .val (.bool x)) (h:Ev T (.code (if x then a else b) s) R):Ev T (.code (.cond c a b) s) R
 | block {id live a s R1 R} (h:Ev T (.code a s) R1) (k:∀ o,R1 (.out o)→R (.out (mc id s.H.length live o))):Ev T (.code (.block id live a) s) R
 | loop {live a s R} (h:Ev T (.loop s.H.length live a { s with env:=forget live s.env }) R):Ev T (.code (.loop live a) s) R
 | wj {n live a s R1 R} (h:Ev T (.code a s) R1) (k:∀ s',R1 (.out (.norm s'))→Ev T (.loop n live a (cut n live s')) R) (hs:∀ o,R1 (.out o)→o.stop=true→R (.out o)):Ev T (.loop n live a s) R
 | l5 {rf live x s f first cap fn R1 R} (hr:s.fW=false) (hx:ev s.env.get x = .fn (.func f) first cap) (hf:T.fn f=some fn) (hp:fn.full=true)
   (h:Ev T (.call f (first ++ [.ic (s.H.length+1)]++cap) (s.H ++ [.jZ,.gu rf (forget live s.env) .ready])) R1)
   (k:∀ d H',R1 (.val d H')→∃ env st o,H'[s.H.length+1]? = some (.gu rf env st)∧yj { s with H:=H'.set (s.H.length+1) .dead,marks:=s.H.length::s.marks } st=some o∧R (.out o)):Ev T (.code (.l5 rf live x) s) R
 | exit {id s R} (h:R (.out (.exit id s))):Ev T (.code (.exit id) s) R
 | ret {s R} (h:R (.out (.ret s))):Ev T (.code .ret s) R
 | call {f args H fn R1 R} (own:Nat) (hf:T.fn f=some fn) (hl:args.length≤fn.ntmps) (h:Ev T (.code fn.body { env:=qY args,H:=H }) R1)
   (k:∀ o,R1 (.out o)→∃ d H',finish fn own H.length o=some (d,H')∧R (.val d H')):Ev T (.call f args H) R
 | sort {f g fn sz v gen t H R} {α:Type} (fc:α→List D) (l:List α) (cf:α→α→Int) (hs:T.sort f=some sz) (hg:T.fn g=some fn) (hl:∀ a∈l,(fc a).length=sz) (fM:∀ a∈l,fu (fc a)=true) (h0:0<l.length) (tq:l.length<4611686018427387904)
   (zX:∀ x∈l,¬ cf x x<0) (tr:∀ x∈l,∀ y∈l,∀ z∈l,cf x y<0→cf y z<0→cf x z<0) (nt:∀ x∈l,∀ y∈l,∀ z∈l,¬ cf x y<0→¬ cf y z<0→¬ cf x z<0)
   (hc:∀ x∈l,∀ y∈l,Ev T (.call g [.agg (fc x),.agg (fc y)] []) (fun r=>∃ H',r = .val (.i (cf x y)) H')) (hv:H[v]? = some (.row t gen (l.map fc).flatten))
   (k:∀ l':List α,l'.Perm l→l'.Pairwise (fun x y=>¬ cf y x<0)→R (.val (.tup []) (H.set v (.row t gen (l'.map fc).flatten)))):Ev T (.call f [.eF v gen sz 0 l.length,.fn (.func g) [] []] H) R
 | Ar {f sz x H R} (hs:T.sort f=some sz) (k:R (.val (.tup []) H)):Ev T (.call f [.eG,x] H) R
 | qB {f v gen t H R} (l:List Int) (hs:T.qB f=true) (h0:0<l.length) (tq:l.length<4611686018427387904) (hv:H[v]? = some (.row t gen (l.map fun n=>D.i n)))
   (k:R (.val (.tup []) (H.set v (.row t gen ((l.mergeSort fun x y=>decide (x≤y)).map fun n=>D.i n))))):Ev T (.call f [.eF v gen 1 0 l.length] H) R
end Go.AL
namespace Go.AL
open Go
def lC(f:fQ):Option Nat→D→fQ
 | some k,d=>fun t=>if k=t then d else f t
 | none,_=>f
def C4(env:Env)(dst:Option Nat)(d:D):(put env dst d).get=lC env.get dst d:=by
 cases dst with
 | none=>rfl
 | some k=>funext t;simp[put,Env.tj,lC]
def Ky:Option (Nat×Bool)→List Nat
 | some (t,_)=>[t]
 | none=>[]
def looks(e:eT):List Nat:=gi e.op++Ky e.guard
inductive Ef(C:FuncId→List D→D→U→Prop)(f:fQ)(H:U)(e:eT)(n:Nat):Rc→D→Dl→Prop
 | op {d δ} (hg:guardOf f e.guard=some true) (h:fG f H n e.op=some (d,δ)) (hf:Fits n δ H):Ef C f H e n ⟨fH f H e.op,iS n δ⟩ d δ
 | off (hg:guardOf f e.guard=some false):Ef C f H e n ⟨[],[]⟩ (.val undef) .no
 | call {g args d} (hg:guardOf f e.guard=some true) (hc:jA f e.op=some (g,args))
   (h:C g (args.map (eP (fun _=>none) H 40)) d []) (hr:(if fu args then closed d else flat d)=true):Ef C f H e n ⟨fH f H e.op,[]⟩ d .no
 | callN {g as args d ob} (hg:guardOf f e.guard=some true) (gD:e.op = .callN g as) (ha:args=as.map (ev f))
   (h:C g (args.map (eP (fun _=>none) H 40)) d [ob]) (hr:(if fu args then lM d&&mO ob else nU d&&oi ob)=true) (hf:Fits n (.new ob) H):Ef C f H e n ⟨fH f H e.op,iS n (.new ob)⟩ (jx n d) (.new ob)
 | w8 {g as args d v} (hg:guardOf f e.guard=some true) (gD:e.op = .callN g as) (ha:args=as.map (ev f)) (hS:∀ u∈(args.map (gv H 40)).flatten,u=v) (hv:v∈(args.map (gv H 40)).flatten) (gq:(rowsOf H v).isSome=true)
   (h:C g (args.map (eP (fun _=>none) H 40)) d []) (fM:fu (args.map (eP (fun _=>none) H 40))=true) (hr:closed d=true):Ef C f H e n ⟨fH f H e.op,[(v,none)]⟩ d (.obj v .dead)
def guard_congr{f f':fQ}{g:Option (Nat×Bool)}(h:∀ t∈Ky g,f t=f' t):guardOf f g=guardOf f' g:=by
 cases g with
 | none=>rfl
 | some p=>simp only[guardOf,h p.1 (by simp[Ky])]
def TI{x:Fp}{H1 H2:U}(h:Alike x H1 H2):Alike x H2 H1:=by
 obtain⟨v,r⟩:=x
 cases r with
 | none=>exact h.symm
 | some q=>
  rcases h with h|⟨t,g,cs,ds,h1,h2,h3,h4⟩
  ·exact .inl h.symm
  ·exact .inr ⟨t,g,ds,cs,h2,h1,h3.symm,fun i a b=>(h4 i a b).symm⟩
def Pg{n:Nat}{δ:Dl}{H H':U}(h:rk (iS n δ) H H')(hf:Fits n δ H):Fits n δ H':=by
 cases δ with
 | no=>trivial
 | obj v ob=>trivial
 | new ob=>
  have e:H[n]? = H'[n]? := h (n,none) (by simp[iS])
  show H'[n]? = some .kW
  rw[← e];exact hf
 | cells v o xs=>
  obtain⟨t,g,cs,h1,h2⟩:=hf
  rcases h (v,some (o,xs.length)) (by simp[iS])with h|⟨t',g',mu,ds,h3,h4,h5,h6⟩
  ·exact⟨t,g,cs,h▸h1,h2⟩
  ·rw[h1]at h3;cases h3
   exact⟨t,g,ds,h4,by omega⟩
def I7{H H':U}{v:Nat}(h:Alike (v,none) H H'):rowsOf H v=rowsOf H' v:=by
 have e:H[v]? = H'[v]? := h
 simp only[rowsOf,e]
def JQ{f:fQ}{H:U}{op:gP}{g:FuncId}{args:List D}(hc:jA f op=some (g,args)){H':U}(h:rk (fH f H op) H H') :
  fH f H' op=fH f H op∧args.map (eP (fun _=>none) H' 40)=args.map (eP (fun _=>none) H 40):=by
 have key:∀ args:List D,(∀ v∈(args.map (gv H 40)).flatten,rowsOf H v=rowsOf H' v)→args.map (gv H' 40)=args.map (gv H 40)∧args.map (eP (fun _=>none) H' 40)=args.map (eP (fun _=>none) H 40):=by
  intro args ha
  have h1:∀ d∈args,∀ v∈gv H 40 d,rowsOf H v=rowsOf H' v:=fun d hd v hv=>ha v (aP.2 ⟨_,ao.2 ⟨d,hd,rfl⟩,hv⟩)
  exact⟨aj fun d hd=>(Da 40 d (h1 d hd)).1,aj fun d hd=>(Da 40 d (h1 d hd)).2⟩
 cases op<;>first|(cases hc;done)|skip
 case call k as=>
  cases hc
  obtain⟨a,b⟩:=key (as.map (ev f)) fun v hv=>I7 (h (v,none) (ao.2 ⟨v,hv,rfl⟩))
  exact⟨by simp only[fH,a],b⟩
 case callN k as=>
  cases hc
  obtain⟨a,b⟩:=key (as.map (ev f)) fun v hv=>I7 (h (v,none) (ao.2 ⟨v,hv,rfl⟩))
  exact⟨by simp only[fH,a],b⟩
 case callv k as=>
  simp only[fH,hc]at h ⊢
  obtain⟨a,b⟩:=key args fun v hv=>I7 (h (v,none) (ao.2 ⟨v,hv,rfl⟩))
  exact⟨by rw[a],b⟩
def We{f:fQ}{H H':U}{op:gP}(hn:jA f op=none):fH f H' op=fH f H op:=by
 cases op<;>first|rfl|(cases hn;done)|skip
 case callv=>simp only[fH,hn]
 case len k x=>cases k<;>rfl
def Ug{f:fQ}{H:U}{n:Nat}{op:gP}{r:D×Dl}(h:fG f H n op=some r):jA f op=none:=by
 cases op<;>first|rfl|cases h
variable{C:FuncId→List D→D→U→Prop}
def Ef.local{f f':fQ}{H H':U}{e:eT}{n:Nat}{rc:Rc}{d:D}{δ:Dl}(h:Ef C f H e n rc d δ)(hf:∀ t∈looks e,f t=f' t)(hH:rk (rc.R++rc.W) H H'):Ef C f' H' e n rc d δ:=by
 have h1:∀ t∈gi e.op,f t=f' t:=fun t ht=>hf t (aX _ ht)
 have h2:guardOf f e.guard=guardOf f' e.guard:=guard_congr fun t ht=>hf t (bE _ ht)
 cases h with
 | op hg ho lV=>
  have e1:fH f H e.op=fH f' H' e.op:=by rw[Hm h1,We (Ug (by rw[← N5 h1];exact ho))]
  rw[e1]
  refine .op (h2▸hg) ?_ (Pg hH.right lV)
  rw[← N5 h1,← TJ (H1:=H) hH.left]
  exact ho
 | off hg=>exact .off (h2▸hg)
 | call hg hc oY hr=>
  obtain⟨a,b⟩:=JQ hc hH.left
  have e1:fH f H e.op=fH f' H' e.op:=by rw[← a,Hm h1]
  rw[e1]
  exact .call (h2▸hg) (by rw[← GG h1];exact hc) (by rw[b];exact oY) hr
 | @callN g as args _ _ hg gD ha oY hr lV=>
  have hc:jA f e.op=some (g,args):=by rw[gD,ha];rfl
  obtain⟨a,b⟩:=JQ hc hH.left
  have e1:fH f H e.op=fH f' H' e.op:=by rw[← a,Hm h1]
  rw[e1]
  have pA:jA f' e.op=some (g,args):=by rw[← GG h1];exact hc
  have qn:args=as.map (ev f'):=by
   rw[gD]at pA
   cases pA;rfl
  exact .callN (h2▸hg) gD qn (by rw[b];exact oY) hr (Pg hH.right lV)
 | @w8 g as args _ v hg gD ha hS hv gq oY fM hr=>
  have hc:jA f e.op=some (g,args):=by rw[gD,ha];rfl
  obtain⟨a,b⟩:=JQ hc hH.left
  have e1:fH f H e.op=fH f' H' e.op:=by rw[← a,Hm h1]
  rw[e1]
  have pA:jA f' e.op=some (g,args):=by rw[← GG h1];exact hc
  have qn:args=as.map (ev f'):=by
   rw[gD]at pA
   cases pA;rfl
  have qo:(args.map (gv H' 40)).flatten=(args.map (gv H 40)).flatten:=by
   have a2:=a
   rw[gD]at a2
   simp only[fH,← ha]at a2
   exact(List.map_inj_right (fun x y h=>(Prod.mk.inj h).1)).1 a2
  have YD:rowsOf H v=rowsOf H' v:=I7 (hH.right (v,none) (by simp))
  exact .w8 (h2▸hg) gD qn (by rw[qo];exact hS) (by rw[qo];exact hv) (by rw[← YD];exact gq) (by rw[b];exact oY) (by rw[b];exact fM) hr
def Ef.fits{f:fQ}{H:U}{e:eT}{n:Nat}{rc:Rc}{d:D}{δ:Dl}(h:Ef C f H e n rc d δ):Fits n δ H∧rc.W=iS n δ:=by
 cases h with
 | op _ _ hf=>exact⟨hf,rfl⟩
 | off=>exact⟨trivial,rfl⟩
 | call=>exact⟨trivial,rfl⟩
 | callN _ _ _ _ _ hf=>exact⟨hf,rfl⟩
 | w8=>exact⟨trivial,rfl⟩
def vb(a b:eT):Bool:=
 (match a.dst with|some k => !(looks b).contains k&&b.dst != some k|none=>true)&&(match b.dst with|some k => !(looks a).contains k|none=>true)
def sK(a b:Rc):Bool:=ru a.W (b.R++b.W)&&ru b.W (a.R++a.W)
def Th{f:fQ}{dst:Option Nat}{d:D}{l:List Nat}(h:∀ k,dst=some k→k ∉ l):∀ t∈l,lC f dst d t=f t:=by
 intro t ht
 cases dst with
 | none=>rfl
 | some k=>
  simp only[lC]
  rw[if_neg]
  rintro rfl
  exact h _ rfl ht
def agQ{f:fQ}{a b:Option Nat}{x y:D}(h:∀ k,a=some k→b≠some k):lC (lC f a x) b y=lC (lC f b y) a x:=by
 cases a with
 | none=>rfl
 | some k=>
  cases b with
  | none=>rfl
  | some j=>
   have gw:j≠k:=fun e=>h k rfl (by rw[e])
   funext t
   simp only[lC]
   by_cases h1:j=t<;>by_cases h2:k=t<;>simp[h1,h2]
   exact absurd (h1.trans h2.symm) gw
def agm{a b:eT}(h:vb a b=true):(∀ k,a.dst=some k→k ∉ looks b)∧(∀ k,b.dst=some k→k ∉ looks a)∧(∀ k,a.dst=some k→b.dst≠some k):=by
 unfold vb at h
 simp only[ah]at h
 refine⟨fun k hk=>?_,fun k hk=>?_,fun k hk=>?_⟩
 ·have:=h.1
  rw[hk]at this
  simp at this
  exact this.1
 ·have:=h.2
  rw[hk]at this
  simpa using this
 ·have:=h.1
  rw[hk]at this
  simp at this
  exact this.2
def swap{f:fQ}{H:U}{a b:eT}{n m:Nat}{ra rb:Rc}{x y:D}{δ ε:Dl}(ha:Ef C f H a n ra x δ)(hb:Ef C (lC f a.dst x) (ko n δ H) b m rb y ε)
  (hs:vb a b=true) (hr:sK ra rb=true) :
  Ef C f H b m rb y ε∧Ef C (lC f b.dst y) (ko m ε H) a n ra x δ∧lC (lC f a.dst x) b.dst y=lC (lC f b.dst y) a.dst x∧ko m ε (ko n δ H)=ko n δ (ko m ε H):=by
 obtain⟨s1,s2,s3⟩:=agm hs
 simp only[sK,ah]at hr
 obtain⟨fa,wa⟩:=ha.fits
 have qM:Ef C f H b m rb y ε:=hb.local (Th s1) (NY fa (by rw[← wa];exact hr.1))
 obtain⟨fb,wb⟩:=qM.fits
 refine⟨qM,ha.local (fun t ht=>(Th s2 t ht).symm) fun z hz=>TI (NY fb (by rw[← wb];exact hr.2) z hz),agQ s3,ag6 fa fb ?_⟩
 rw[← wa,← wb]
 simp only[ru,aq]at hr ⊢
 exact fun u hu z hz=>hr.1 u hu z (bE _ hz)
def LY{o:Option D}{d:D}{δ:Dl}(h:lift o=some (d,δ)):δ = .no:=by
 cases o<;>simp[lift]at h
 exact h.2.symm
def MA{f:fQ}{H:U}{e:eT}{n:Nat}{rc:Rc}{d:D}{δ:Dl}(h:Ef C f H e n rc d δ)(hp:C2 e.op=true):rc.R = []∧rc.W = []:=by
 cases h with
 | op hg ho hf=>
  cases gD:e.op<;>rw[gD]at ho hp<;>simp only[fG]at ho<;>first|(cases hp;done)|skip
  case len k x=>
   have:=LY ho
   subst this
   cases k<;>first|(cases hp;done)|exact⟨rfl,rfl⟩
  all_goals
   have:=LY ho
   subst this
   exact⟨rfl,rfl⟩
 | off hg=>exact⟨rfl,rfl⟩
 | call hg hc h hr=>cases gD:e.op<;>rw[gD]at hc hp<;>first|(cases hp;done)|(cases hc;done)
 | callN _ gD=>rw[gD]at hp;cases hp
 | w8 _ gD=>rw[gD]at hp;cases hp
def Sm{f:fQ}{H:U}{e:eT}{n:Nat}{rc:Rc}{d:D}{δ:Dl}(h:Ef C f H e n rc d δ)(hp:MD e.op=true):rc.W = []:=by
 by_cases hq:C2 e.op=true
 ·exact(MA h hq).2
 ·cases h with
  | op hg ho hf=>
   cases gD:e.op<;>rw[gD]at ho hp hq<;>simp only[fG]at ho<;>first|(cases hp;done)|(exact absurd rfl hq)|skip
   case call=>cases ho
   case callv=>cases ho
   all_goals
    have:=LY ho
    subst this
    rfl
  | off hg=>rfl
  | call=>rfl
  | callN _ gD=>rw[gD]at hp;cases hp
  | w8 _ gD=>rw[gD]at hp;cases hp
def S8{f f':fQ}{H H':U}{a b:eT}{n m:Nat}{ra rb:Rc}{x y:D}{δ ε:Dl}(ha:Ef C f H a n ra x δ)(hb:Ef C f' H' b m rb y ε)(h:Jn a.op b.op=true):sK ra rb=true:=by
 simp only[Jn,cg,ah]at h
 rcases h with(h|h)|⟨h1,h2⟩
 ·obtain⟨e1,e2⟩:=MA ha h
  simp[sK,e1,e2,ru]
 ·obtain⟨e1,e2⟩:=MA hb h
  simp[sK,e1,e2,ru]
 ·simp[sK,Sm ha h1,Sm hb h2,ru]
structure mb where
 k:Nat
 e:eT
 n:Nat
 rc:Rc
inductive Tx(C:FuncId→List D→D→U→Prop):fQ→U→List mb→fQ→U→Prop
 | nil {f H}:Tx C f H [] f H
 | cons {f H it r d δ f' H'} (h:Ef C f H it.e it.n it.rc d δ) (t:Tx C (lC f it.e.dst d) (ko it.n δ H) r f' H'):Tx C f H (it::r) f' H'
def Tx.each{f:fQ}{H:U}{l:List mb}{f':fQ}{H':U}(h:Tx C f H l f' H'):∀ it∈l,∃ f H d δ,Ef C f H it.e it.n it.rc d δ:=by
 induction h with
 | nil=>intro it je;cases je
 | cons h t ih=>
  intro it je
  rcases au.1 je with rfl|je
  ·exact⟨_,_,_,_,h⟩
  ·exact ih it je
theorem Tx.front{it:mb}{post:List mb}{f':fQ}{H':U}:∀ {pre:List mb} {f:fQ} {H:U},Tx C f H (pre++it::post) f' H'→(∀ p∈pre,vb p.e it.e=true∧sK p.rc it.rc=true) →
  ∃ d δ,Ef C f H it.e it.n it.rc d δ∧Tx C (lC f it.e.dst d) (ko it.n δ H) (pre++post) f' H'
 | [],f,H,h,_=>by
  cases h with
  | cons h t=>exact⟨_,_,h,t⟩
 | p::pre,f,H,h,ha=>by
  cases h with
  | @cons _ _ _ _ d δ _ _ h t=>
   obtain⟨y,ε,hy,ht⟩:=Tx.front (pre:=pre) t fun q hq=>ha q (by simp[hq])
   obtain⟨s1,s2,s3,s4⟩:=swap h hy (ha p (by simp)).1 (ha p (by simp)).2
   refine⟨y,ε,s1,.cons s2 ?_⟩
   rw[← s3,← s4]
   exact ht
end Go.AL
namespace Go.AL
open Go
structure SX(G:GT)(N:Nat)(c:Ctx)(w:World)(f:fQ)(H:U)(ms:List Nat)(a:Act):Prop where
 eM:e9 G c H w
 env:jW c w f a
 size:N≤a.tmps.size
 marks:kD c ms a.defers
section
variable{P:Program}{G:GT}{c:Ctx}{w:World}{f:fQ}{H:U}{ms:List Nat}{a:Act}{N:Nat}
def afs{f:fQ}{a:Act}{c:Ctx}{w:World}(he:jW c w f a)(hN:N≤a.tmps.size){dst:Option Tmp}(hd:qH N dst=true){v:Value}{d:D}(hr:eJ c w v d) :
  jW c w (lC f dst d) (a.put dst v):=by
 cases dst with
 | none=>exact he
 | some t=>
  have ht:t<a.tmps.size:=aK (by simpa[qH]using hd) hN
  intro k
  simp only[lC,Act.put]
  split
  ·rename_i e
   subst e
   have:(a.tmps.setIfInBounds t v).getD t undef=v:=by simp[Array.getD,ht]
   rw[this];exact hr
  ·rename_i e
   have:(a.tmps.setIfInBounds t v).getD k undef=a.tmps.getD k undef:=by
    simp only[bN,bF e]
   rw[this];exact he k
def SX.next{c':Ctx}{w':World}{H':U}(hs:SX G N c w f H ms a)(eM:e9 G c' H' w')(eX:Step H.length c H w c' H' w'){dst:Option Tmp}(hd:qH N dst=true)
  {v:Value} {d:D} (hr:eJ c' w' v d):SX G N c' w' (lC f dst d) H' ms (a.put dst v) where
 eM:=eM
 env:=afs (jW.carry (fun _ _ h=>h.pd hs.eM.toHeapOK eX) hs.env) hs.size hd hr
 size:=by rw[Sj];exact hs.size
 marks:=by
  rw[put_defers]
  refine hs.marks.mono fun v L h=>eX.old v 0 L ?_ h
  rcases bh v H.length with h'|h'
  ·exact h'
  ·rw[hs.eM.out v 0 h']at h;cases h
def TK{op:gP}{n n':Nat}{d:D}{δ:Dl}(h:fG f H n op=some (d,δ))(hn:∀ ob,δ≠.new ob):fG f H n' op=some (d,δ):=by
 cases op<;>simp only[fG]at h ⊢ <;> first|exact h|skip
 case box=>
  unfold po at h
  split at h
  ·cases h;exact absurd rfl (hn _)
  ·cases h
 case alloc=>cases h;exact absurd rfl (hn _)
 case buildSl=>
  unfold vB at h
  split at h
  ·split at h
   ·cases h;exact absurd rfl (hn _)
   ·cases h
  ·cases h
 case mkmap=>cases h;exact absurd rfl (hn _)
 case mksl=>
  unfold z8 at h
  split at h
  ·split at h
   ·cases h;exact absurd rfl (hn _)
   ·cases h
  ·cases h
 case app=>
  unfold se at h ⊢
  split at h
  ·split at h
   ·exact h
   ·rename_i m _ _ _
    by_cases hm:m=0
    ·rw[if_pos hm]at h ⊢;exact h
    ·rw[if_neg hm]at h
     split at h
     ·cases h;exact absurd rfl (hn _)
     ·cases h
   ·cases h
  ·cases h
def GR{d:D}(h:closed d=true):lM d=true∧jx H.length d=d:=by
 cases d<;>first|(cases h;done)|skip
 case tup ds=>
  have hc:=lE h
  refine⟨?_,?_⟩
  ·simp only[lM,tP,aq]
   intro d hd
   have:=hc d hd
   cases d<;>first|rfl|exact this
  ·simp only[jx]
   congr 1
   conv=>rhs;rw[← aQ ds]
   refine aj fun d hd=>?_
   have:=hc d hd
   cases d<;>first|(cases this;done)|rfl
 case agg ds=>
  have hc:=lE h
  refine⟨?_,?_⟩
  ·simp only[lM,tP,aq]
   intro d hd
   have:=hc d hd
   cases d<;>first|rfl|exact this
  ·simp only[jx]
   congr 1
   conv=>rhs;rw[← aQ ds]
   refine aj fun d hd=>?_
   have:=hc d hd
   cases d<;>first|(cases this;done)|rfl
 all_goals exact⟨h,rfl⟩
def Pk{d:D}(h:flat d=true):nU d=true∧jx H.length d=d:=by
 cases d<;>first|(cases h;done)|skip
 case tup ds=>
  have hc:∀ d∈ds,flat d=true:=fun d hd=>by
   obtain⟨i,hi⟩:=aF.1 hd
   exact zl h hi
  refine⟨?_,?_⟩
  ·simp only[nU,tP,aq]
   intro d hd
   have:=hc d hd
   cases d<;>first|rfl|exact this
  ·simp only[jx]
   congr 1
   conv=>rhs;rw[← aQ ds]
   refine aj fun d hd=>?_
   have:=hc d hd
   cases d<;>first|(cases this;done)|rfl
 case agg ds=>
  have hc:∀ d∈ds,flat d=true:=fun d hd=>by
   obtain⟨i,hi⟩:=aF.1 hd
   exact zl h hi
  refine⟨?_,?_⟩
  ·simp only[nU,tP,aq]
   intro d hd
   have:=hc d hd
   cases d<;>first|rfl|exact this
  ·simp only[jx]
   congr 1
   conv=>rhs;rw[← aQ ds]
   refine aj fun d hd=>?_
   have:=hc d hd
   cases d<;>first|(cases this;done)|rfl
 all_goals exact⟨h,rfl⟩
variable{C:FuncId→List D→D→U→Prop}
def OT(hC:∀ g args d Hn,C g args d Hn→qj P g=true∧vi P G g args [] d Hn)(hs:SX G N c w f H ms a){A:Array Oper}{o:Oper}{e:eT}{i:Nat}(hA:A[i]? = some o)
  (ho:tg P G N A o=some e) {n:Nat} {rc:Rc} {d:D} {δ:Dl} (hE:Ef C f H e n rc d δ) {ro:Option Nat} {m:Nat} {Q:Exit→Act→World→Prop} {K:Act→World→Prop}
  (k:∀ c' w' a',SX G N c' w' (lC f e.dst d) (ko n δ H) ms a'→Step H.length c H w c' (ko n δ H) w'→K a' w'):wpOpIn (FW ro) m P A Q i K a w:=by
 obtain⟨s1,s2,s3,s4⟩:=vG ho
 unfold wpOpIn
 simp only[hA]
 cases hE with
 | op hg h lV=>
  have hw:=rY hs.env s4 hg
  have s1:=OB s1 h
  simp only[hw,if_true]
  have main:∀ {al:Al},ma H al→fG f H al.1 e.op=some (d,δ)→δ.app H al=ko n δ H→o.wpIn (FW ro) m P a w K Q:=by
   intro al gg h Ze
   obtain⟨v,w',hy,d',H',c',⟨rfl,rfl⟩,eM,hr,eX⟩:=Sf (P:=P) (K:=fun d' H'=>d'=d∧H'=δ.app H al) hs.eM hs.env gg s1 (N6 h ⟨rfl,rfl⟩)
   refine⟨fun _ _=>trivial,?_⟩
   rw[Oper.semAt_plain (FW ro) a.eval o (yd s1)]
   rw[Ze]at eM eX
   have hx:=hs.next eM eX s3 hr
   rw[← s2]at hx
   have hn:=k c' w' _ hx eX
   rw[s2]at hn
   rcases hy with hy|⟨hy,rfl⟩
   ·rw[hy];exact hn
   ·rw[hy];exact hn
  by_cases lW:∃ ob,δ = .new ob
  ·obtain⟨ob,rfl⟩:=lW
   exact main (al:=Al.kW H n) (ma.kW lV) h rfl
  ·have qO:∀ ob,δ≠.new ob:=fun ob e=>lW ⟨ob,e⟩
   refine main (al:=Al.last H) (ma.last H) (TK h qO) ?_
   cases δ<;>first|rfl|exact absurd rfl (qO _)
 | off hg=>
  have hw:=rY hs.env s4 hg
  simp only[hw,bG,if_false]
  refine⟨fun _ _=>trivial,?_⟩
  have hx:=hs.next hs.eM (Step.refl _ _ _ _) s3 (v:=undef) (d:=.val undef) (.val _)
  rw[← s2]at hx
  have:=k c w _ hx (Step.refl _ _ _ _)
  rw[s2]at this
  exact this
 | @call g args d hg hc h hr=>
  have hw:=rY hs.env s4 hg
  have s1:=Br s1 hc
  simp only[hw,if_true]
  obtain⟨kS,iQ⟩:=hC _ _ _ _ h
  obtain⟨vs,ig,ie⟩:=I' hs.eM hs.env s1 hc kS
  have iG:(if fu args then lM d&&([]:U).all mO else nU d&&([]:U).all oi)=true∧jx H.length d=d:=by
   by_cases fM:fu args=true
   ·rw[if_pos fM]at hr ⊢
    obtain⟨a,b⟩:=GR (H:=H) hr
    exact⟨by simp[a],b⟩
   ·rw[if_neg fM]at hr ⊢
    obtain⟨a,b⟩:=Pk (H:=H) hr
    exact⟨by simp[a],b⟩
  have hp:=Si hs.eM ie iQ iG.1
  rw[iG.2,aw]at hp
  refine⟨fun _ _=>trivial,?_⟩
  rw[Oper.semAt_plain (FW ro) a.eval o (yd s1),ig]
  refine⟨fun h=>by simp[Fence.wide]at h,Bl.2 (hp.mono ?_)⟩
  rintro e' w' ⟨v,c',rfl,eM,kc,eX⟩
  have hx:=hs.next eM eX s3 kc
  rw[← s2]at hx
  have:=k c' w' _ hx eX
  rw[s2]at this
  exact this
 | @callN g as args d ob hg gD ha h hr lV=>
  have hw:=rY hs.env s4 hg
  simp only[hw,if_true]
  have hc:jA f e.op=some (g,args):=by rw[gD,ha];rfl
  have s1:=Br s1 hc
  obtain⟨kS,iQ⟩:=hC _ _ _ _ h
  obtain⟨vs,ig,ie⟩:=I' hs.eM hs.env s1 hc kS
  have hp:=afq hs.eM ie iQ hr lV
  refine⟨fun _ _=>trivial,?_⟩
  rw[Oper.semAt_plain (FW ro) a.eval o (yd s1),ig]
  refine⟨fun h=>by simp[Fence.wide]at h,Bl.2 (hp.mono ?_)⟩
  rintro e' w' ⟨v,c',rfl,eM,kc,eX⟩
  have hx:=hs.next eM eX s3 kc
  rw[← s2]at hx
  have:=k c' w' _ hx eX
  rw[s2]at this
  exact this
 | @w8 g as args d v hg gD ha hS hv gq h fM hr=>
  have hw:=rY hs.env s4 hg
  simp only[hw,if_true]
  have hc:jA f e.op=some (g,args):=by rw[gD,ha];rfl
  have s1:=Br s1 hc
  obtain⟨kS,iQ⟩:=hC _ _ _ _ h
  obtain⟨vs,ig,ie⟩:=I' hs.eM hs.env s1 hc kS
  have hp:=afp hs.eM ie hS gq iQ fM hr
  refine⟨fun _ _=>trivial,?_⟩
  rw[Oper.semAt_plain (FW ro) a.eval o (yd s1),ig]
  refine⟨fun h=>by simp[Fence.wide]at h,Bl.2 (hp.mono ?_)⟩
  rintro e' w' ⟨u,c',rfl,eM,kc,eX⟩
  have hx:=hs.next eM eX s3 kc
  rw[← s2]at hx
  have:=k c' w' _ hx eX
  rw[s2]at this
  exact this
