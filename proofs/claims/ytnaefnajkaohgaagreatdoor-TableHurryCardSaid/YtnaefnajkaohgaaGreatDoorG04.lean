/- Part 4 of TableHurry. -/
import Derived.Test.YtnaefnajkaohgaaGreatDoorG03
set_option linter.all false
namespace Go.AL
open Go
section
variable{P:Program}{G:GT}{c:Ctx}{w:World}{env:fg}{a:Act}{N:Nat}
theorem Kb{o:Oper}{io:fY}(hc:ko P G o=some io)(h:yM io=true):∃ cl,o.op = .call cl:=by
 unfold ko at hc
 split at hc
 all_goals first|exact⟨_,by assumption⟩|skip
 all_goals exfalso
 all_goals try simp only[au,ae,aF]at hc
 all_goals (repeat' first|(obtain⟨_,_,hc⟩:=hc)|split at hc|simp only[ae]at hc)
 all_goals first|(simp[yM]at h;done)|(cases hc<;>simp[yM]at h)
theorem Ew{H:et}(eB:eP G c H w)(he:iS c w env a){o:Oper}{io:fY}(hc:ko P G o=some io){f:FuncId}{args:List D}(gU:iw env io=some (f,args))(jl:nI P f=true) :
  ∃ vs:List Value,(execOp a.eval o).run P w = .ok (.enter f vs.toArray) w∧gG c w vs args:=by
 have Di:=hc
 unfold ko at hc
 cases ho:o.op with
 | call cl=>
  simp only[ho,au,ae]at hc
  obtain⟨xs,n9,hc⟩:=hc
  have gC:=tA eB he cl.args.toList n9
  split at hc
  ·rename_i g tY
   split at hc
   ·have Re:g=f∧List.map (ev env) xs=args:=by
     cases hc
     have hb:iw env (if G.nw g=true then fY.callN g xs else fY.call g xs)=some (g,xs.map (ev env)):=by split<;>rfl
     rw[hb]at gU
     simpa using gU
    obtain⟨rfl,rfl⟩:=Re
    refine⟨_,?_,gC⟩
    have e:cl.args.map a.eval=(cl.args.toList.map a.eval).toArray:=by cases cl.args;simp
    simp only[execOp,ho,resolve,tY,Act.eval,Deferred.ofValue,Sem.run_bind,Sem.run_pure,Result.andThen_ok,invoke]
    rw[← e]
    have h2:=Ez (P:=P) jl (cl.args.map a.eval) w
    simpa using h2
   ·cases hc
  ·rename_i x fJ tY
   simp only[ae,aF,aq]at hc
   obtain⟨X,hX,rfl⟩:=hc
   simp only[iw]at gU
   split at gU
   ·rename_i k first cap ml
    cases gU
    have hr:=gb eB he hX
    rw[ml]at hr
    generalize hv:a.eval x=v at hr
    cases hr with
    | fn _ fs cs _ _ e1 e2 e3 e4=>
     refine⟨fs++cl.args.toList.map a.eval++cs,?_,((gG.zg e1 e3).append gC).append (gG.zg e2 e4)⟩
     simp only[execOp,ho,resolve,tY,hv,Deferred.ofValue,Sem.run_bind,Sem.run_pure,Result.andThen_ok,invoke]
     have h2:=Ez (P:=P) jl (fs.toArray++cl.args.map a.eval++cs.toArray) w
     have e2:fs.toArray++cl.args.map a.eval++cs.toArray=(fs++cl.args.toList.map a.eval++cs).toArray:=by cases cl.args;simp
     rw[e2]at h2 ⊢
     exact h2
   ·cases gU
  ·split at hc
   ·simp only[ae]at hc
    obtain⟨td,_,hc⟩:=hc
    split at hc
    ·simp only[ae]at hc
     obtain⟨i,_,z,_,ud,_,hc⟩:=hc
     split at hc
     ·split at hc
      ·cases hc;cases gU
      ·cases hc
     ·cases hc
    ·cases hc
   ·cases hc
  ·split at hc
   ·simp only[ae]at hc
    obtain⟨td,_,hc⟩:=hc
    split at hc
    ·simp only[ae]at hc
     obtain⟨ud,_,hc⟩:=hc
     split at hc
     ·simp only[ae]at hc
      obtain⟨n,_,hc⟩:=hc
      split at hc
      ·cases hc;cases gU
      ·cases hc
     ·cases hc
    ·cases hc
   ·cases hc
  ·split at hc
   ·split at hc
    ·cases hc;cases gU
    ·cases hc;cases gU
    ·cases hc;cases gU
    ·cases hc
   ·cases hc
  ·cases hc;cases gU
  ·cases hc;cases gU
  ·cases hc
 | _=>
  have h1:yM io=true:=by unfold iw at gU;unfold yM;split at gU<;>first|rfl|cases gU
  obtain⟨cl,h2⟩:=Kb Di h1
  rw[ho]at h2
  cases h2
end
end Go.AL
namespace Go.AL
open Go
abbrev Fp:=Nat×Option (Nat×Nat)
def kD:D→List Fp
 | .eu v _ _ _ _=>[(v,none)]
 | .fC v=>[(v,none)]
 | _=>[]
def qZ(n:Nat):D→List Fp
 | .ptr v _ o=>[(v,some (o,n))]
 | _=>[]
def e7(f:fg)(H:et):fY→List Fp
 | .ld1 x=>qZ 1 (ev f x)
 | .ldN n x=>qZ n (ev f x)
 | .st1 a _=>qZ 1 (ev f a)
 | .stN n a _=>qZ n (ev f a)
 | .lookup _ _ _ m _=>kD (ev f m)
 | .mapUpd _ m _ _=>kD (ev f m)
 | .len .map x=>kD (ev f x)
 | .b2s x=>kD (ev f x)
 | .app _ _ _ x y=>kD (ev f x)++kD (ev f y)
 | .copy _ x y=>kD (ev f x)++kD (ev f y)
 | .call g args=>((args.map (ev f)).map (fD H 40)).flatten.map fun v=>(v,none)
 | .callN g args=>((args.map (ev f)).map (fD H 40)).flatten.map fun v=>(v,none)
 | .callv g args=>match iw f (.callv g args)with
  | some (_,ds)=>(ds.map (fD H 40)).flatten.map fun v=>(v,none)
  | none=>[]
 | _=>[]
def gT(n:Nat):Dl→List Fp
 | .no=>[]
 | .cells v o xs=>[(v,some (o,xs.length))]
 | .obj v _=>[(v,none)]
 | .new _=>[(n,none)]
def oO:Fp→Fp→Bool
 | (v,none),(u,_)=>v != u
 | (v,some _),(u,none)=>v != u
 | (v,some (o,n)),(u,some (p,m))=>v != u||decide (o+n≤p)||decide (p+m≤o)
def oP(a b:List Fp):Bool:=a.all fun x=>b.all fun y=>oO x y
def Alike(x:Fp)(H1 H2:et):Prop:=
 match x with
 | (v,none)=>H1[v]? = H2[v]?
 | (v,some (o,n))=>H1[v]? = H2[v]?∨∃ t g cs ds,H1[v]? = some (.row t g cs)∧H2[v]? = some (.row t g ds)∧cs.length=ds.length∧∀ i,o≤i→i<o+n→cs[i]? = ds[i]?
def oM(l:List Fp)(H1 H2:et):Prop:=∀ x∈l,Alike x H1 H2
def gh:X→List Nat
 | .t k=>[k]
 | .c _=>[]
def qK(l:List X):List Nat:=(l.map gh).flatten
def zZ:Option X→List Nat
 | some x=>gh x
 | none=>[]
def fw:fY→List Nat
 | .mv x=>gh x
 | .pick c a b=>gh c++gh a++gh b
 | .box _ x=>gh x
 | .alloc _ _=>[]
 | .build _ ps=>(ps.map fun p=>gh p.2.2).flatten
 | .buildSl _ _ _ _ ps=>(ps.map fun p=>gh p.2).flatten
 | .ld1 x=>gh x
 | .ldN _ x=>gh x
 | .st1 a x=>gh a++gh x
 | .stN _ a x=>gh a++gh x
 | .nilck x=>gh x
 | .arith _ x y=>gh x++gh y
 | .eqS _ _ _ x y=>gh x++gh y
 | .un _ x=>gh x
 | .conv _ x=>gh x
 | .b2s x=>gh x
 | .mkfn _ a b=>qK a++qK b
 | .mkmap _=>[]
 | .mksl _ _ _ _ l c=>gh l++gh c
 | .slc _ x lo hi=>gh x++zZ lo++zZ hi
 | .slcS x lo hi=>gh x++zZ lo++zZ hi
 | .fieldA _ x=>gh x
 | .field _ _ _ x=>gh x
 | .idxA _ x i=>gh x++gh i
 | .idxArr _ _ x i=>gh x++gh i
 | .idx _ _ _ x i=>gh x++gh i
 | .idxStr x i=>gh x++gh i
 | .lookup _ _ _ m k=>gh m++gh k
 | .mapUpd _ m k x=>gh m++gh k++gh x
 | .ext x _=>gh x
 | .call _ args=>qK args
 | .callN _ args=>qK args
 | .callv f args=>gh f++qK args
 | .app _ _ _ x y=>gh x++gh y
 | .copy _ x y=>gh x++gh y
 | .len _ x=>gh x
 | .minmax _ xs=>qK xs
 | .nilS _ x | .capE x | .clr _ _ x | .rangeS x | .nextS x | .rangeM x | .nextM x | .entry x=>gh x
 | .appZ _ _ _ _ x n=>gh x++gh n
def zl:fY→Bool
 | .mv _ | .pick .. | .build .. | .nilck _ | .arith .. | .eqS .. | .un .. | .conv .. | .mkfn .. | .slc .. | .slcS .. | .fieldA .. | .field .. | .idxA .. | .idxArr .. | .idx .. | .idxStr .. | .ext .. | .minmax ..
 | .len .slice _ | .len .string _=>true
 | _=>false
def HZ:fY→Bool
 | .ld1 _ | .ldN .. | .b2s _ | .lookup .. | .len .. | .call .. | .callv .. => true
 | op=>zl op
def EM(a b:fY):Bool:=zl a||zl b||(HZ a&&HZ b)
section
variable{f f':fg}
theorem tL{x:X}(h:∀ t∈gh x,f t=f' t):ev f x=ev f' x:=by
 cases x with
 | t k=>exact h k (by simp[gh])
 | c d=>rfl
theorem tM{l:List X}(h:∀ t∈qK l,f t=f' t):l.map (ev f)=l.map (ev f'):=
 ak fun x hx=>tL fun t ht=>h t (aM.2 ⟨_,aw.2 ⟨x,hx,rfl⟩,ht⟩)
theorem HU:∀ {l:List (Nat×Nat×X)},(∀ t∈(l.map fun p=>gh p.2.2).flatten,f t=f' t)→partsOf f l=partsOf f' l
 | [],_=>rfl
 | (o,n,x)::r,h=>by
  have h1:ev f x=ev f' x:=tL fun t ht=>h t (by simp[ht])
  have h2:=HU (l:=r) fun t ht=>h t (by simp only[List.map_cons,aL,List.mem_append];exact .inr ht)
  simp only[partsOf,h1,h2]
theorem Cr{x:Option X}{n:Int}(h:∀ t∈zZ x,f t=f' t):gI f x n=gI f' x n:=by
 cases x with
 | none=>rfl
 | some x=>simp only[gI,tL (x:=x) h]
theorem Mj:∀ {l:List X},(∀ t∈qK l,f t=f' t)→mO f l=mO f' l
 | [],_=>rfl
 | x::r,h=>by
  have h1:ev f x=ev f' x:=tL fun t ht=>h t (by simp[qK,ht])
  have h2:=Mj (l:=r) fun t ht=>h t (by simp only[qK,List.map_cons,aL,List.mem_append];exact .inr ht)
  simp only[mO,h1,h2]
theorem JI{op:fY}(h:∀ t∈fw op,f t=f' t)(H:et)(n:Nat):eZ f H n op=eZ f' H n op:=by
 have hx:∀ {x:X},(∀ t∈gh x,t∈fw op)→ev f x=ev f' x:=fun hm=>tL fun t ht=>h t (hm t ht)
 cases op<;>simp only[eZ]<;>first|rfl|skip
 case mv x=>rw[hx (x:=x) (fun t ht=>by simpa[fw]using ht)]
 case pick c a b=>rw[hx (x:=c) (fun t ht=>by simp[fw,ht]),hx (x:=a) (fun t ht=>by simp[fw,ht]),hx (x:=b) (fun t ht=>by simp[fw,ht])]
 case box x=>rw[hx (x:=x) (fun t ht=>by simpa[fw]using ht)]
 case build z ps=>simp only[vt,HU (f:=f) (f':=f') (l:=ps) (fun t ht=>h t (by simpa[fw]using ht))]
 case buildSl t sz z m ps=>
  have:=HU (f:=f) (f':=f') (l:=ps.map fun p=>(p.1*sz,sz,p.2)) (fun t ht=>h t (by simpa[fw,cD,dz]using ht))
  simp only[sf,this]
 case ld1 x=>rw[hx (x:=x) (fun t ht=>by simpa[fw]using ht)]
 case ldN n x=>rw[hx (x:=x) (fun t ht=>by simpa[fw]using ht)]
 case st1 a x=>rw[hx (x:=a) (fun t ht=>by simp[fw,ht]),hx (x:=x) (fun t ht=>by simp[fw,ht])]
 case stN n a x=>rw[hx (x:=a) (fun t ht=>by simp[fw,ht]),hx (x:=x) (fun t ht=>by simp[fw,ht])]
 case nilck x=>rw[hx (x:=x) (fun t ht=>by simpa[fw]using ht)]
 case arith op x y=>rw[hx (x:=x) (fun t ht=>by simp[fw,ht]),hx (x:=y) (fun t ht=>by simp[fw,ht])]
 case eqS b ls neg x y=>rw[hx (x:=x) (fun t ht=>by simp[fw,ht]),hx (x:=y) (fun t ht=>by simp[fw,ht])]
 case un op x=>rw[hx (x:=x) (fun t ht=>by simpa[fw]using ht)]
 case conv k x=>rw[hx (x:=x) (fun t ht=>by simpa[fw]using ht)]
 case b2s x=>rw[hx (x:=x) (fun t ht=>by simpa[fw]using ht)]
 case mkfn g a b=>rw[tM (f:=f) (f':=f') (l:=a) (fun t ht=>h t (by simp[fw,ht])),tM (f:=f) (f':=f') (l:=b) (fun t ht=>h t (by simp[fw,ht]))]
 case mksl t sz Fb z l c=>rw[hx (x:=l) (fun t ht=>by simp[fw,ht]),hx (x:=c) (fun t ht=>by simp[fw,ht])]
 case slc sz x lo hi=>
  have e1:∀ n,gI f lo n=gI f' lo n:=fun n=>Cr fun t ht=>h t (by simp[fw,ht])
  have e2:∀ n,gI f hi n=gI f' hi n:=fun n=>Cr fun t ht=>h t (by simp[fw,ht])
  simp only[pQ,e1,e2,hx (x:=x) (fun t ht=>by simp[fw,ht])]
 case slcS x lo hi=>
  have e1:∀ n,gI f lo n=gI f' lo n:=fun n=>Cr fun t ht=>h t (by simp[fw,ht])
  have e2:∀ n,gI f hi n=gI f' hi n:=fun n=>Cr fun t ht=>h t (by simp[fw,ht])
  simp only[EH,e1,e2,hx (x:=x) (fun t ht=>by simp[fw,ht])]
 case fieldA o x=>rw[hx (x:=x) (fun t ht=>by simpa[fw]using ht)]
 case field o n b x=>rw[hx (x:=x) (fun t ht=>by simpa[fw]using ht)]
 case idxA sz x i=>rw[hx (x:=x) (fun t ht=>by simp[fw,ht]),hx (x:=i) (fun t ht=>by simp[fw,ht])]
 case idxArr sz n x i=>rw[hx (x:=x) (fun t ht=>by simp[fw,ht]),hx (x:=i) (fun t ht=>by simp[fw,ht])]
 case idx sz n b x i=>rw[hx (x:=x) (fun t ht=>by simp[fw,ht]),hx (x:=i) (fun t ht=>by simp[fw,ht])]
 case idxStr x i=>rw[hx (x:=x) (fun t ht=>by simp[fw,ht]),hx (x:=i) (fun t ht=>by simp[fw,ht])]
 case lookup kk z ok m k=>rw[hx (x:=m) (fun t ht=>by simp[fw,ht]),hx (x:=k) (fun t ht=>by simp[fw,ht])]
 case mapUpd kk m k x=>rw[hx (x:=m) (fun t ht=>by simp[fw,ht]),hx (x:=k) (fun t ht=>by simp[fw,ht]),hx (x:=x) (fun t ht=>by simp[fw,ht])]
 case ext x i=>rw[hx (x:=x) (fun t ht=>by simpa[fw]using ht)]
 case app t sz Fb x y=>rw[hx (x:=x) (fun t ht=>by simp[fw,ht]),hx (x:=y) (fun t ht=>by simp[fw,ht])]
 case copy sz x y=>rw[hx (x:=x) (fun t ht=>by simp[fw,ht]),hx (x:=y) (fun t ht=>by simp[fw,ht])]
 case len k x=>rw[hx (x:=x) (fun t ht=>by simpa[fw]using ht)]
 case minmax b xs=>simp only[wu,Mj (f:=f) (f':=f') (l:=xs) (fun t ht=>h t (by simpa[fw]using ht))]
end
end Go.AL
namespace Go.AL
open Go
theorem Cw{f f':fg}{op:fY}(h:∀ t∈fw op,f t=f' t):iw f op=iw f' op:=by
 cases op<;>first|rfl|skip
 case call g args=>simp only[iw,tM (f:=f) (f':=f') (l:=args) (fun t ht=>h t (by simpa[fw]using ht))]
 case callN g args=>simp only[iw,tM (f:=f) (f':=f') (l:=args) (fun t ht=>h t (by simpa[fw]using ht))]
 case callv g args=>
  simp only[iw,tM (f:=f) (f':=f') (l:=args) (fun t ht=>h t (by simp[fw,ht])),tL (f:=f) (f':=f') (x:=g) (fun t ht=>h t (by simp[fw,ht]))]
theorem C8{f f':fg}{op:fY}(h:∀ t∈fw op,f t=f' t)(H:et):e7 f H op=e7 f' H op:=by
 have hx:∀ {x:X},(∀ t∈gh x,t∈fw op)→ev f x=ev f' x:=fun hm=>tL fun t ht=>h t (hm t ht)
 have hc:=Cw h
 cases op<;>simp only[e7]<;>first|rfl|skip
 case ld1 x=>rw[hx (x:=x) (fun t ht=>by simpa[fw]using ht)]
 case ldN n x=>rw[hx (x:=x) (fun t ht=>by simpa[fw]using ht)]
 case b2s x=>rw[hx (x:=x) (fun t ht=>by simpa[fw]using ht)]
 case st1 a x=>rw[hx (x:=a) (fun t ht=>by simp[fw,ht])]
 case stN n a x=>rw[hx (x:=a) (fun t ht=>by simp[fw,ht])]
 case lookup kk z ok m k=>rw[hx (x:=m) (fun t ht=>by simp[fw,ht])]
 case mapUpd kk m k x=>rw[hx (x:=m) (fun t ht=>by simp[fw,ht])]
 case app t sz Fb x y=>rw[hx (x:=x) (fun t ht=>by simp[fw,ht]),hx (x:=y) (fun t ht=>by simp[fw,ht])]
 case copy sz x y=>rw[hx (x:=x) (fun t ht=>by simp[fw,ht]),hx (x:=y) (fun t ht=>by simp[fw,ht])]
 case len k x=>cases k<;>simp only[e7]<;>rw[hx (x:=x) (fun t ht=>by simpa[fw]using ht)]
 case call g args=>rw[tM (f:=f) (f':=f') (l:=args) (fun t ht=>h t (by simpa[fw]using ht))]
 case callN g args=>rw[tM (f:=f) (f':=f') (l:=args) (fun t ht=>h t (by simpa[fw]using ht))]
 case callv g args=>rw[hc]
section
variable{H1 H2:et}
theorem Ep{v:Nat}(h:H1[v]? = H2[v]?)(g:Nat):rowAt H1 v g=rowAt H2 v g:=by simp only[rowAt,h]
theorem Hx{v:Nat}(h:H1[v]? = H2[v]?):kj H1 v=kj H2 v:=by simp only[kj,h]
theorem Er{v o n:Nat}(h:Alike (v,some (o,n)) H1 H2)(g:Nat) :
  (rowAt H1 v g=none∧rowAt H2 v g=none)∨∃ t cs ds,rowAt H1 v g=some (t,cs)∧rowAt H2 v g=some (t,ds)∧cs.length=ds.length∧∀ i,o≤i→i<o+n→cs[i]? = ds[i]? := by
 rcases h with h|⟨t,g',cs,ds,h1,h2,h3,h4⟩
 ·rw[Ep h g]
  cases hr:rowAt H2 v g with
  | none=>exact .inl ⟨rfl,rfl⟩
  | some p=>exact .inr ⟨p.1,p.2,p.2,rfl,rfl,rfl,fun _ _ _=>rfl⟩
 ·by_cases e:g'=g
  ·exact .inr ⟨t,cs,ds,by simp[rowAt,h1,e],by simp[rowAt,h2,e],h3,h4⟩
  ·exact .inl ⟨by simp[rowAt,h1,e],by simp[rowAt,h2,e]⟩
theorem Iu{sz:Nat}{d:D}(h:oM (kD d) H1 H2):jy sz H1 d=jy sz H2 d:=by
 unfold jy
 split<;>first|rfl|skip
 rename_i v g fm off len
 have:=h (v,none) (by simp[kD])
 rw[Ep this]
theorem oM.left{a b:List Fp}(h:oM (a++b) H1 H2):oM a H1 H2:=fun x hx=>h x (aS _ hx)
theorem oM.right{a b:List Fp}(h:oM (a++b) H1 H2):oM b H1 H2:=fun x hx=>h x (br _ hx)
theorem Oq{f:fg}{op:fY}(h:oM (e7 f H1 op) H1 H2)(n:Nat):eZ f H1 n op=eZ f H2 n op:=by
 cases op<;>simp only[eZ]<;>first|rfl|skip
 case ld1 x=>
  congr 1
  simp only[e7]at h
  unfold qz
  split<;>first|rfl|skip
  rename_i v g o hx
  rw[hx]at h
  rcases Er (h (v,some (o,1)) (by simp[qZ])) g with⟨e1,e2⟩|⟨t,cs,ds,e1,e2,e3,e4⟩
  ·rw[e1,e2]
  ·rw[e1,e2];exact e4 o (Nat.le_refl _) (by omega)
 case ldN m x=>
  congr 1
  simp only[e7]at h
  unfold qA
  split<;>first|rfl|skip
  rename_i v g o hx
  rw[hx]at h
  rcases Er (h (v,some (o,m)) (by simp[qZ])) g with⟨e1,e2⟩|⟨t,cs,ds,e1,e2,e3,e4⟩
  ·rw[e1,e2]
  ·rw[e1,e2]
   have:(cs.drop o).take m=(ds.drop o).take m:=by
    apply bI
    intro i
    simp only[ay,aC]
    split
    ·exact e4 _ (by omega) (by omega)
    ·rfl
   simp only[e3,this]
 case st1 a x=>
  simp only[e7]at h
  unfold u3
  split<;>first|rfl|skip
  rename_i v g o hx
  rw[hx]at h
  rcases Er (h (v,some (o,1)) (by simp[qZ])) g with⟨e1,e2⟩|⟨t,cs,ds,e1,e2,e3,e4⟩
  ·rw[e1,e2]
  ·rw[e1,e2];simp only[e3]
 case stN m a x=>
  simp only[e7]at h
  unfold u4
  split<;>first|rfl|skip
  rename_i v g o xs hx _
  rw[hx]at h
  rcases Er (h (v,some (o,m)) (by simp[qZ])) g with⟨e1,e2⟩|⟨t,cs,ds,e1,e2,e3,e4⟩
  ·rw[e1,e2]
  ·rw[e1,e2];simp only[e3]
 case lookup kk z ok m k=>
  congr 1
  simp only[e7]at h
  unfold uF
  split<;>first|rfl|skip
  rename_i v kv hx _
  rw[hx]at h
  rw[Hx (h (v,none) (by simp[kD]))]
 case mapUpd kk m k x=>
  simp only[e7]at h
  unfold s5
  split<;>first|rfl|skip
  rename_i v kv hx _
  rw[hx]at h
  rw[Hx (h (v,none) (by simp[kD]))]
 case b2s x=>
  congr 1
  simp only[e7]at h
  unfold vr
  rw[Iu (sz:=1) h]
 case len k x=>
  congr 1
  unfold mw
  split<;>first|rfl|skip
  rename_i v hx
  simp only[e7]at h
  rw[hx]at h
  rw[Hx (h (v,none) (by simp[kD]))]
 case app t sz Fb x y=>
  simp only[e7]at h
  unfold pf
  rw[Iu (sz:=sz) h.right]
  split<;>first|rfl|skip
  split<;>first|rfl|skip
  rename_i v g fm off len hx
  rw[hx]at h
  rw[Ep (h (v,none) (by simp[kD]))]
 case copy sz x y=>
  simp only[e7]at h
  unfold vz
  rw[Iu (sz:=sz) h.right]
  split<;>first|rfl|skip
  rename_i v g fm off len ys n hx _
  rw[hx]at h
  rw[Ep (h (v,none) (by simp[kD]))]
theorem ta(H:et)(v g:Nat):rowAt H v g=match rowsOf H v with|some (t,g',cs)=>if g'=g then some (t,cs)else none|none=>none:=by
 unfold rowAt rowsOf
 cases H[v]? with
 | none=>rfl
 | some o=>cases o<;>rfl
theorem zw:∀ (k:Nat) (d:D),(∀ v∈fD H1 k d,rowsOf H1 v=rowsOf H2 v)→fD H2 k d=fD H1 k d∧eC (fun _=>none) H2 k d=eC (fun _=>none) H1 k d
 | 0,d,_=>⟨rfl,rfl⟩
 | k+1,d,h=>by
  have my:∀ (ds:List D),(∀ v∈(ds.map (fD H1 k)).flatten,rowsOf H1 v=rowsOf H2 v)→ds.map (fD H2 k)=ds.map (fD H1 k)∧ds.map (eC (fun _=>none) H2 k)=ds.map (eC (fun _=>none) H1 k):=by
   intro ds px
   have h1:∀ d∈ds,∀ v∈fD H1 k d,rowsOf H1 v=rowsOf H2 v:=fun d hd v hv=>px v (aM.2 ⟨_,aw.2 ⟨d,hd,rfl⟩,hv⟩)
   exact⟨ak fun d hd=>(zw k d (h1 d hd)).1,ak fun d hd=>(zw k d (h1 d hd)).2⟩
  unfold fD at h
  unfold fD eC
  by_cases hc:closed d=true
  ·simp only[if_pos hc,and_self]
  ·simp only[if_neg hc]at h ⊢
   cases d with
   | agg cs=>obtain⟨a,b⟩:=my cs h;simp only[a,b,and_self]
   | tup cs=>obtain⟨a,b⟩:=my cs h;simp only[a,b,and_self]
   | eG cs=>obtain⟨a,b⟩:=my cs h;simp only[a,b,and_self]
   | sl sz es=>
    have h1:∀ e∈es,e.map (fD H2 k)=e.map (fD H1 k)∧e.map (eC (fun _=>none) H2 k)=e.map (eC (fun _=>none) H1 k):=fun e he=>my e fun v hv=>h v (aM.2 ⟨_,aw.2 ⟨e,he,rfl⟩,hv⟩)
    have a:es.map (fun e=>(e.map (fD H2 k)).flatten)=es.map (fun e=>(e.map (fD H1 k)).flatten):=ak fun e he=>by rw[(h1 e he).1]
    have b:es.map (fun x=>x.map (eC (fun _=>none) H2 k))=es.map (fun x=>x.map (eC (fun _=>none) H1 k)):=ak fun e he=>(h1 e he).2
    simp only[a,b,and_self]
   | fn g x y=>
    obtain⟨a,b⟩:=my x fun v hv=>h v (aS _ hv)
    obtain⟨a',b'⟩:=my y fun v hv=>h v (br _ hv)
    simp only[a,b,a',b',and_self]
   | eu v g sz off len=>
    have hv:rowsOf H1 v=rowsOf H2 v:=h v (by simp)
    simp only[ta,← hv]
    cases fy:rowsOf H1 v with
    | none=>exact⟨rfl,rfl⟩
    | some p=>
     obtain⟨t,g',cs⟩:=p
     obtain⟨l1,l2⟩:=my cs fun u hu=>h u (by simp only[fy];exact aO _ hu)
     refine⟨by simp only[l1],?_⟩
     by_cases hg:g'=g
     ·simp only[hg,if_true,ec,l2]
     ·simp only[if_neg hg]
   | ptr v g off=>
    have hv:rowsOf H1 v=rowsOf H2 v:=h v (by simp)
    simp only[ta,← hv]
    cases fy:rowsOf H1 v with
    | none=>exact⟨rfl,rfl⟩
    | some p=>
     obtain⟨t,g',cs⟩:=p
     obtain⟨l1,l2⟩:=my cs fun u hu=>h u (by simp only[fy];exact aO _ hu)
     refine⟨by simp only[l1],?_⟩
     by_cases hg:g'=g
     ·simp only[hg,if_true,ec,l2]
     ·simp only[if_neg hg]
   | _=>exact⟨rfl,rfl⟩
end
end Go.AL
namespace Go.AL
open Go
section
variable{P:Program}{G:GT}{c c2:Ctx}{H Hn:et}{w w2:World}{N:Nat}
theorem jM{ds:List D}(h:eV ds=true):∀ d∈ds,closed d=true:=fun d hd=>by
 obtain⟨i,hi⟩:=aD.1 hd
 exact q6 h hi
theorem lY{ρ:Nat→Option Nat}{k:Nat}{d:D}(h:closed d=true):eC ρ H k d=d:=by
 cases k<;>(unfold eC;simp[h])
def Ctx.join(c c2:Ctx)(n:Nat)(F:Nat→Prop):Ctx where
 ι:=fun v g=>if v<n then c.ι v g else c2.ι (v-n) g
 F:=F
 RT:=c.RT
theorem yN{F:Nat→Prop}{v:Nat}{L:Loc}(h:jg (c.join c2 H.length F) (H++Hn) v L):(v<H.length∧jg c H v L)∨(H.length≤v∧jg c2 Hn (v-H.length) L):=by
 obtain⟨o,ho,ha,eD⟩:=h
 rcases aW v H.length with hv|hv
 ·rw[ag hv]at ho
  simp only[Ctx.join,if_pos hv]at eD
  exact .inl ⟨hv,o,ho,ha,eD⟩
 ·rw[aj hv]at ho
  simp only[Ctx.join,if_neg (ea.2 hv)]at eD
  exact .inr ⟨hv,o,ho,ha,eD⟩
structure rX(G:GT)(c c2:Ctx)(H Hn:et)(w w2:World)(F:Nat→Prop):Prop where
 eB:eP G c H w
 kh:eP G c2 Hn w2
 l6:ig w w2
 fresh:∀ b,jz c2 Hn b→w.heap.size≤b
 le:∀ b,c.F b→F b
 lt:∀ b,F b→b<w2.heap.size
 n1:∀ b,F b→¬ jz c H b
 n2:∀ b,F b→¬ jz c2 Hn b
 new:∀ b,F b→c.F b∨w.heap.size≤b
 rows:∀ (v:Nat) (o:Ob),Hn[v]? = some o→∃ t g cs,o = .row t g cs∧∀ d∈cs,∀ u,ew c2 w2 u d→ew (c.join c2 H.length F) w2 u d
variable{F:Nat→Prop}
theorem Mk(j:rX G c c2 H Hn w w2 F){u:Value}{d:D}(h:ew c w u d):ew (c.join c2 H.length F) w2 u d:=by
 refine h.carry (fun v k L hL=>?_) j.le (fun b o hF=>xF (j.l6.kept b (j.eB.iD b hF)))
 have hv:v<H.length:=by
  rcases aW v H.length with h|h
  ·exact h
  ·rw[j.eB.out v k h]at hL;cases hL
 simp only[Ctx.join,if_pos hv];exact hL
theorem DO(j:rX G c c2 H Hn w w2 F):eP G (c.join c2 H.length F) (H++Hn) w2 where
 inj v v' L L' h1 h2 h3 h4 he:=by
  rcases yN h1 with⟨a,b⟩|⟨a,b⟩<;>rcases yN h2 with⟨a',b'⟩|⟨a',b'⟩
  ·exact j.eB.inj v v' L L' b b' h3 h4 he
  ·have:=j.eB.lt _ ⟨v,L,b,h3,rfl⟩
   have:=j.fresh _ ⟨_,L',b',h4,rfl⟩
   omega
  ·have:=j.eB.lt _ ⟨v',L',b',h4,rfl⟩
   have:=j.fresh _ ⟨_,L,b,h3,rfl⟩
   omega
  ·have:=j.kh.inj _ _ L L' b b' h3 h4 he
   omega
 lt b hb:=by
  obtain⟨v,L,hl,hv,e⟩:=hb
  rcases yN hl with⟨_,hl⟩|⟨_,hl⟩
  ·exact aH (j.eB.lt b ⟨v,L,hl,hv,e⟩) j.l6.size
  ·exact j.kh.lt b ⟨_,L,hl,hv,e⟩
 nF b hb hF:=by
  obtain⟨v,L,hl,hv,e⟩:=hb
  rcases yN hl with⟨_,hl⟩|⟨_,hl⟩
  ·exact j.n1 b hF ⟨v,L,hl,hv,e⟩
  ·exact j.n2 b hF ⟨_,L,hl,hv,e⟩
 iD b hb:=j.lt b hb
 out v k hv:=by
  simp only[az]at hv
  simp only[Ctx.join,if_neg (show ¬ v<H.length by omega)]
  exact j.kh.out _ k (by omega)
 jD v o k ho hk:=by
  rcases aW v H.length with hv|hv
  ·rw[ag hv]at ho
   simp only[Ctx.join,if_pos hv]
   exact j.eB.jD v o k ho hk
  ·rw[aj hv]at ho
   simp only[Ctx.join,if_neg (ea.2 hv)]
   exact j.kh.jD _ o k ho hk
 ob v o ho:=by
  rcases aW v H.length with hv|hv
  ·rw[ag hv]at ho
   simp only[Ctx.join,if_pos hv]
   exact fr.nu (c:=c) (c':=c.join c2 H.length F) rfl (fun _ _ h=>Mk j h) (fun l hl jI hd=>j.l6.kept _ (j.eB.lt _ ⟨v,l,⟨o,ho,hd,hl⟩,jI,rfl⟩)) (j.eB.ob v o ho)
  ·rw[aj hv]at ho
   simp only[Ctx.join,if_neg (ea.2 hv)]
   have h0:=j.kh.ob _ o ho
   obtain⟨t,g,cs,rfl,hr⟩:=j.rows _ o ho
   simp only[Ob.gen]at h0 ⊢
   cases hL:c2.ι (v-H.length) g with
   | none=>rw[hL]at h0;simp[fr]at h0
   | some L=>
    rw[hL]at h0
    simp only[fr]at h0 ⊢
    split
    ·rename_i jW;simp only[jW,if_true]at h0;exact h0
    ·rename_i jW
     simp only[jW]at h0
     obtain⟨arr,h1,h2,h3,h4⟩:=h0
     refine⟨arr,h1,h2,h3,fun i d hd=>?_⟩
     obtain⟨x,mo,jO,rA⟩:=h4 i d hd
     exact⟨x,mo,jO,hr d (aY hd) _ rA⟩
 gl g cs hg:=by
  obtain⟨h1,h2⟩:=j.eB.gl g cs hg
  exact⟨h1,Mk j h2⟩
 rt:=j.eB.rt
theorem DP(j:rX G c c2 H Hn w w2 F):Step H.length c H w (c.join c2 H.length F) (H++Hn) w2 where
 os:=j.l6.os
 tape:=j.l6.tape
 output:=j.l6.output
 size:=j.l6.size
 RT:=rfl
 Fm b hb:=j.le b hb
 Fn b hb:=(j.new b hb).imp id .inl
 kept b hb _:=j.l6.kept b hb
 old v k L hv h:=by simp only[Ctx.join,if_pos hv];exact h
 own b hb:=by
  obtain⟨v,L,hl,hv,e⟩:=hb
  rcases yN hl with⟨_,hl⟩|⟨_,hl⟩
  ·exact .inr ⟨v,L,hl,hv,e⟩
  ·exact .inl (j.fresh b ⟨_,L,hl,hv,e⟩)
theorem Ej(j:rX G c c2 H Hn w w2 F){p:D→Bool}(hp:∀ d u,p d=true→ew c2 w2 u d→ew (c.join c2 H.length F) w2 u d){u:Value}{r:D}
  (hr:ew c2 w2 u r) (h:qE p r=true):ew (c.join c2 H.length F) w2 u (iB H.length r):=by
 have yu:∀ v g sz off len u,ew c2 w2 u (.eu v g sz off len)→ew (c.join c2 H.length F) w2 u (.eu (v+H.length) g sz off len):=by
  intro v g sz off len u hr
  cases hr with
  | eu _ _ _ _ _ cap L eD hv ik iJ jV=>exact .eu _ g sz off len cap L (by simp only[Ctx.join];rw[if_neg (by omega),Nat.add_sub_cancel];exact eD) hv ik iJ jV
  | kl _ _ _ _ L eD a=>exact .kl _ g sz off L (by simp only[Ctx.join];rw[if_neg (by omega),Nat.add_sub_cancel];exact eD) a
 have h1:∀ (d:D) (u:Value),rK p d=true→ew c2 w2 u d→ew (c.join c2 H.length F) w2 u (rG H.length d):=by
  intro d u hd hr
  cases d<;>first|exact yu _ _ _ _ _ _ hr|exact hp _ _ hd hr
 cases r with
 | tup ds=>
  cases hr with
  | tup vs _ hl ry=>
   simp only[iB]
   refine .tup vs _ (by simpa using hl) fun i v d hv hd=>?_
   simp only[ar,ai]at hd
   obtain⟨d0,iM,rfl⟩:=hd
   exact h1 d0 v (ao.1 h d0 (aY iM)) (ry i v d0 hv iM)
 | agg ds=>
  cases hr with
  | agg vs _ hl ho ry=>
   simp only[iB]
   refine .agg vs _ (by simpa using hl) ho fun i v d hv hd=>?_
   simp only[ar,ai]at hd
   obtain⟨d0,iM,rfl⟩:=hd
   exact h1 d0 v (ao.1 h d0 (aY iM)) (ry i v d0 hv iM)
 | eu v g sz off len=>exact yu _ _ _ _ _ _ hr
 | _=>exact hp _ _ h hr
def Ctx.data(c:Ctx)(F:Nat→Prop):Ctx where
 ι:=fun _ _=>none
 F:=F
 RT:=c.RT
theorem CM(h:eP G c H w):eP G (c.data c.F) [] w where
 inj v v' L L' h1:=by obtain⟨o,ho,_⟩:=h1;simp at ho
 lt b hb:=by obtain⟨v,L,⟨o,ho,_⟩,_⟩:=hb;simp at ho
 nF b hb:=by obtain⟨v,L,⟨o,ho,_⟩,_⟩:=hb;simp at ho
 iD b hb:=h.iD b hb
 out _ _ _:=rfl
 jD _ _ _ _ _:=rfl
 ob v o ho:=by simp at ho
 gl g cs hg:=by
  obtain⟨h1,h2⟩:=h.gl g cs hg
  exact⟨h1,ew.closed (c:=c) (c':=c.data c.F) (fun b hb=>hb) h2 (by simpa[AL.closed]using h1)⟩
 rt:=h.rt
theorem oF{c:Ctx}{b:Nat}:¬ jz c [] b:=by
 rintro⟨v,L,⟨o,ho,_⟩,_⟩
 simp at ho
theorem tS{n:Nat}{c0:Ctx}(hs:Step n c0 [] w c2 Hn w2):ig w w2:=
 ⟨hs.os,hs.tape,hs.output,hs.size,fun b hb=>hs.kept b hb oF⟩
theorem J2(h:Hn.all kU=true){v:Nat}{o:Ob}(ho:Hn[v]? = some o):∃ t g cs,o = .row t g cs∧∀ d∈cs,closed d=true:=by
 have:=ao.1 h o (aY ho)
 cases o<;>simp only[kU]at this<;>first|cases this;done|skip
 exact⟨_,_,_,rfl,jM this⟩
theorem KG(h:Hn.all l4=true){v:Nat}{o:Ob}(ho:Hn[v]? = some o):∃ t g cs,o = .row t g cs∧∀ d∈cs,flat d=true:=by
 have:=ao.1 h o (aY ho)
 cases o<;>simp only[l4]at this<;>first|cases this;done|skip
 refine⟨_,_,_,rfl,fun d hd=>?_⟩
 obtain⟨i,hi⟩:=aD.1 hd
 exact vG this hi
def rR(P:Program)(G:GT)(f:FuncId)(args:List D)(H:et)(d:D)(H':et):Prop:=
 ∀ (c:Ctx) (w:World) (vs:List Value),eP G c H w→gG c w vs args →
  Calls P f vs.toArray w fun e w'=>∃ v c',e = .returned v∧eP G c' H' w'∧ew c' w' v d∧Step H.length c H w c' H' w'
def pT(P:Program)(G:GT)(f:FuncId)(args:List D)(H:et)(R:D→et→Prop):Prop:=
 ∀ (c:Ctx) (w:World) (vs:List Value),eP G c H w→gG c w vs args →
  Calls P f vs.toArray w fun e w'=>∃ v c' d H',e = .returned v∧R d H'∧H.length≤H'.length∧eP G c' H' w'∧ew c' w' v d∧Step H.length c H w c' H' w'
theorem pT.one{f:FuncId}{args:List D}{H:et}{R:D→et→Prop}{d:D}{H':et}(h:pT P G f args H R)(h1:∀ d' Hn,R d' Hn→d'=d∧Hn=H'):rR P G f args H d H':=
 fun c w vs h2 h3=>(h c w vs h2 h3).mono fun _ _ ⟨v,c',_,_,he,hR,_,a,b,e⟩=>by
  obtain⟨rfl,rfl⟩:=h1 _ _ hR
  exact⟨v,c',he,a,b,e⟩
theorem Im:eC (fun _=>none) H 40=eC (fW []) H 40:=rfl
theorem gG.map{c c':Ctx}{f:D→D}(hr:∀ v d,ew c w v d→ew c' w v (f d)){vs:List Value}{ds:List D}(h:gG c w vs ds):gG c' w vs (ds.map f):=by
 induction h with
 | nil=>exact .nil
 | cons h _ ih=>exact .cons (hr _ _ h) ih
theorem No(eB:eP G c H w){f:FuncId}{vs:List Value}{args:List D}{d:D}(hr:gG c w vs args)(gR:rR P G f (args.map (eC (fun _=>none) H 40)) [] d Hn)
  (hc:(if eV args then jX d&&Hn.all kU else lV d&&Hn.all l4)=true) :
  Calls P f vs.toArray w fun e w'=>∃ v c',e = .returned v∧eP G c' (H++Hn) w'∧ew c' w' v (iB H.length d)∧Step H.length c H w c' (H++Hn) w':=by
 by_cases fj:eV args=true
 ·rw[if_pos fj]at hc
  simp only[ah]at hc
  have e:args.map (eC (fun _=>none) H 40)=args:=by
   conv=>rhs;rw[← aQ args]
   exact ak fun d hd=>lY (jM fj d hd)
  rw[e]at gR
  have pB:gG (c.data c.F) w vs args:=by
   clear gR hc e
   induction hr with
   | nil=>exact .nil
   | cons h _ ih=>
    simp only[eV,ah]at fj
    exact .cons (ew.closed (c:=c) (c':=c.data c.F) (fun b hb=>hb) h fj.1) (ih fj.2)
  refine(gR _ w vs (CM eB) pB).mono ?_
  rintro e w' ⟨v,c2,he,h2,hv,eJ⟩
  have hg:=tS eJ
  have hF:∀ b,c2.F b→c.F b∨w.heap.size≤b:=fun b hb=>by
   rcases eJ.Fn b hb with h|h|h
   ·exact .inl h
   ·exact .inr h
   ·exact absurd h oF
  have j:rX G c c2 H Hn w w' c2.F:={
   eB:=eB
   kh:=h2
   l6:=hg
   fresh:=fun b hb=>by
    rcases eJ.own b hb with h|h
    ·exact h
    ·exact absurd h oF
   le:=fun b hb=>eJ.Fm b hb
   lt:=h2.iD
   n1:=fun b hb ho=>by
    rcases hF b hb with h|h
    ·exact eB.nF b ho h
    ·have:=eB.lt b ho;omega
   n2:=fun b hb ho=>h2.nF b ho hb
   new:=hF
   rows:=fun v o ho=>by
    obtain⟨t,g,cs,rfl,gA⟩:=J2 hc.2 ho
    exact⟨t,g,cs,rfl,fun d hd u hu=>ew.closed (c:=c2) (c':=c.join c2 H.length c2.F) (fun b hb=>hb) hu (gA d hd)⟩ }
  exact⟨v,_,he,DO j,Ej j (p:=AL.closed) (fun d u hd hu=>ew.closed (c:=c2) (c':=c.join c2 H.length c2.F) (fun b hb=>hb) hu hd) hv hc.1,DP j⟩
 ·rw[if_neg fj]at hc
  simp only[ah]at hc
  have pB:gG (c.eC [] H) w vs (args.map (eC (fun _=>none) H 40)):=hr.map fun v d h=>by
   rw[Im];exact s8 eB 40 h
  have yq:eP G (c.eC [] H) [] w:=wJ (ks:=[]) eB (fun i j p q hp=>by simp at hp)
  refine(gR _ w vs yq pB).mono ?_
  rintro e w' ⟨v,c2,he,h2,hv,eJ⟩
  have hg:=tS eJ
  have j:rX G c c2 H Hn w w' c.F:={
   eB:=eB
   kh:=h2
   l6:=hg
   fresh:=fun b hb=>by
    rcases eJ.own b hb with h|h
    ·exact h
    ·exact absurd h oF
   le:=fun b hb=>hb
   lt:=fun b hb=>aH (eB.iD b hb) hg.size
   n1:=fun b hb ho=>eB.nF b ho hb
   n2:=fun b hb ho=>by
    rcases eJ.own b ho with h|h
    ·have:=eB.iD b hb;omega
    ·exact absurd h oF
   new:=fun b hb=>.inl hb
   rows:=fun v o ho=>by
    obtain⟨t,g,cs,rfl,gA⟩:=KG hc.2 ho
    exact⟨t,g,cs,rfl,fun d hd u hu=>ew.flat hu (gA d hd)⟩ }
  exact⟨v,_,he,DO j,Ej j (p:=AL.flat) (fun d u hd hu=>ew.flat hu hd) hv hc.1,DP j⟩
theorem Y6(eB:eP G c H w){f:FuncId}{vs:List Value}{args:List D}{R:D→et→Prop}(hr:gG c w vs args)(gR:pT P G f (args.map (eC (fun _=>none) H 40)) [] R)
  (hc:∀ d Hn,R d Hn→(if eV args then jX d&&Hn.all kU else lV d&&Hn.all l4)=true) :
  Calls P f vs.toArray w fun e w'=>∃ v c' d Hn,e = .returned v∧R d Hn∧eP G c' (H++Hn) w'∧ew c' w' v (iB H.length d)∧Step H.length c H w c' (H++Hn) w':=by
 by_cases fj:eV args=true
 ·simp only[if_pos fj,ah]at hc
  have e:args.map (eC (fun _=>none) H 40)=args:=by
   conv=>rhs;rw[← aQ args]
   exact ak fun d hd=>lY (jM fj d hd)
  rw[e]at gR
  have pB:gG (c.data c.F) w vs args:=by
   clear gR hc e
   induction hr with
   | nil=>exact .nil
   | cons h _ ih=>
    simp only[eV,ah]at fj
    exact .cons (ew.closed (c:=c) (c':=c.data c.F) (fun b hb=>hb) h fj.1) (ih fj.2)
  refine(gR _ w vs (CM eB) pB).mono ?_
  rintro e w' ⟨v,c2,d,Hn,he,hR,_,h2,hv,eJ⟩
  have hc:=hc d Hn hR
  have hg:=tS eJ
  have hF:∀ b,c2.F b→c.F b∨w.heap.size≤b:=fun b hb=>by
   rcases eJ.Fn b hb with h|h|h
   ·exact .inl h
   ·exact .inr h
   ·exact absurd h oF
  have j:rX G c c2 H Hn w w' c2.F:={
   eB:=eB
   kh:=h2
   l6:=hg
   fresh:=fun b hb=>by
    rcases eJ.own b hb with h|h
    ·exact h
    ·exact absurd h oF
   le:=fun b hb=>eJ.Fm b hb
   lt:=h2.iD
   n1:=fun b hb ho=>by
    rcases hF b hb with h|h
    ·exact eB.nF b ho h
    ·have:=eB.lt b ho;omega
   n2:=fun b hb ho=>h2.nF b ho hb
   new:=hF
   rows:=fun v o ho=>by
    obtain⟨t,g,cs,rfl,gA⟩:=J2 hc.2 ho
    exact⟨t,g,cs,rfl,fun d hd u hu=>ew.closed (c:=c2) (c':=c.join c2 H.length c2.F) (fun b hb=>hb) hu (gA d hd)⟩ }
  exact⟨v,_,d,Hn,he,hR,DO j,Ej j (p:=AL.closed) (fun d u hd hu=>ew.closed (c:=c2) (c':=c.join c2 H.length c2.F) (fun b hb=>hb) hu hd) hv hc.1,DP j⟩
 ·simp only[if_neg fj,ah]at hc
  have pB:gG (c.eC [] H) w vs (args.map (eC (fun _=>none) H 40)):=hr.map fun v d h=>by
   rw[Im];exact s8 eB 40 h
  have yq:eP G (c.eC [] H) [] w:=wJ (ks:=[]) eB (fun i j p q hp=>by simp at hp)
  refine(gR _ w vs yq pB).mono ?_
  rintro e w' ⟨v,c2,d,Hn,he,hR,_,h2,hv,eJ⟩
  have hc:=hc d Hn hR
  have hg:=tS eJ
  have j:rX G c c2 H Hn w w' c.F:={
   eB:=eB
   kh:=h2
   l6:=hg
   fresh:=fun b hb=>by
    rcases eJ.own b hb with h|h
    ·exact h
    ·exact absurd h oF
   le:=fun b hb=>hb
   lt:=fun b hb=>aH (eB.iD b hb) hg.size
   n1:=fun b hb ho=>eB.nF b ho hb
   n2:=fun b hb ho=>by
    rcases eJ.own b ho with h|h
    ·have:=eB.iD b hb;omega
    ·exact absurd h oF
   new:=fun b hb=>.inl hb
   rows:=fun v o ho=>by
    obtain⟨t,g,cs,rfl,gA⟩:=KG hc.2 ho
    exact⟨t,g,cs,rfl,fun d hd u hu=>ew.flat hu (gA d hd)⟩ }
  exact⟨v,_,d,Hn,he,hR,DO j,Ej j (p:=AL.flat) (fun d u hd hu=>ew.flat hu hd) hv hc.1,DP j⟩
def Ctx.k8(c c2:Ctx)(n:Nat)(F:Nat→Prop):Ctx where
 ι:=fun v g=>if v=n then c2.ι 0 g else c.ι v g
 F:=F
 RT:=c.RT
theorem zm{n:Nat}{ob:Ob}(hn:H[n]? = some .jn){F:Nat→Prop}{v:Nat}{L:Loc}(h:jg (c.k8 c2 n F) (H.set n ob) v L):(v≠n∧jg c H v L)∨(v=n∧jg c2 [ob] 0 L):=by
 obtain⟨o,ho,ha,eD⟩:=h
 rw[ny (af.1 hn).1]at ho
 by_cases hv:v=n
 ·subst hv
  rw[if_pos rfl]at ho
  cases ho
  simp only[Ctx.k8,if_true]at eD
  exact .inr ⟨rfl,ob,rfl,ha,eD⟩
 ·rw[if_neg hv]at ho
  simp only[Ctx.k8,if_neg hv]at eD
  exact .inl ⟨hv,o,ho,ha,eD⟩
theorem Y5(eB:eP G c H w){f:FuncId}{vs:List Value}{args:List D}{d:D}{ob:Ob}{n:Nat}(hr:gG c w vs args)(gR:rR P G f (args.map (eC (fun _=>none) H 40)) [] d [ob])
  (hc:(if eV args then jX d&&kU ob else lV d&&l4 ob)=true) (hn:H[n]? = some .jn) :
  Calls P f vs.toArray w fun e w'=>∃ v c',e = .returned v∧eP G c' (H.set n ob) w'∧ew c' w' v (iB n d)∧Step H.length c H w c' (H.set n ob) w':=by
 have fe:=(af.1 hn).1
 have K6:∀ k,c.ι n k=none:=fun k=>eB.jD n _ k hn (.inl rfl)
 have main:∀ (c2:Ctx) (w':World) (v:Value) (F:Nat→Prop),eP G c2 [ob] w'→ew c2 w' v d→ig w w'→(∀ b,jz c2 [ob] b→w.heap.size≤b)→(∀ b,c.F b→F b)→(∀ b,F b→b<w'.heap.size) →
   (∀ b,F b→¬ jz c H b)→(∀ b,F b→¬ jz c2 [ob] b)→(∀ b,F b→c.F b∨w.heap.size≤b)→∀ (p:D→Bool),(∀ d u,p d=true→ew c2 w' u d→ew (c.k8 c2 n F) w' u d)→qE p d=true →
   (∃ t g cs,ob = .row t g cs∧∀ d∈cs,p d=true) →
   eP G (c.k8 c2 n F) (H.set n ob) w'∧ew (c.k8 c2 n F) w' v (iB n d)∧Step H.length c H w (c.k8 c2 n F) (H.set n ob) w':=by
  intro c2 w' v F kh hv hg Gr hle RO RV RW jT p hp hd fF
  have carry:∀ {u:Value} {d:D},ew c w u d→ew (c.k8 c2 n F) w' u d:=fun h=>by
   refine h.carry (fun v k L hL=>?_) hle (fun b o hF=>xF (hg.kept b (eB.iD b hF)))
   have fJ:v≠n:=fun e=>by rw[e,K6]at hL;cases hL
   simp only[Ctx.k8,if_neg fJ];exact hL
  have yu:∀ v g sz off len u,ew c2 w' u (.eu v g sz off len)→(v=0)→ew (c.k8 c2 n F) w' u (.eu (v+n) g sz off len):=by
   intro v g sz off len u hr h0
   subst h0
   cases hr with
   | eu _ _ _ _ _ cap L eD hv ik iJ jV=>exact .eu _ g sz off len cap L (by simp only[Ctx.k8,aX,if_true];exact eD) hv ik iJ jV
   | kl _ _ _ _ L eD a=>exact .kl _ g sz off L (by simp only[Ctx.k8,aX,if_true];exact eD) a
  have hz:∀ v g sz off len u,ew c2 w' u (.eu v g sz off len)→v=0:=by
   intro v g sz off len u hr
   have:∃ L,c2.ι v g=some L:=by
    cases hr with
    | eu _ _ _ _ _ cap L eD=>exact⟨L,eD⟩
    | kl _ _ _ _ L eD=>exact⟨L,eD⟩
   obtain⟨L,hL⟩:=this
   rcases dv v with h|h
   ·exact h
   ·rw[kh.out v g (by show 1≤v;exact h)]at hL;cases hL
  have h1:∀ (d:D) (u:Value),rK p d=true→ew c2 w' u d→ew (c.k8 c2 n F) w' u (rG n d):=by
   intro d u hd hr
   cases d<;>first|exact yu _ _ _ _ _ _ hr (hz _ _ _ _ _ _ hr)|exact hp _ _ hd hr
  refine⟨{
   inj:=fun v v' L L' h1 h2 h3 h4 he=>by
    rcases zm hn h1 with⟨a,b⟩|⟨a,b⟩<;>rcases zm hn h2 with⟨a',b'⟩|⟨a',b'⟩
    ·exact eB.inj v v' L L' b b' h3 h4 he
    ·have:=eB.lt _ ⟨v,L,b,h3,rfl⟩
     have:=Gr _ ⟨_,L',b',h4,rfl⟩
     omega
    ·have:=eB.lt _ ⟨v',L',b',h4,rfl⟩
     have:=Gr _ ⟨_,L,b,h3,rfl⟩
     omega
    ·rw[a,a']
   lt:=fun b hb=>by
    obtain⟨v,L,hl,hv,e⟩:=hb
    rcases zm hn hl with⟨_,hl⟩|⟨_,hl⟩
    ·exact aH (eB.lt b ⟨v,L,hl,hv,e⟩) hg.size
    ·exact kh.lt b ⟨_,L,hl,hv,e⟩
   nF:=fun b hb hF=>by
    obtain⟨v,L,hl,hv,e⟩:=hb
    rcases zm hn hl with⟨_,hl⟩|⟨_,hl⟩
    ·exact RV b hF ⟨v,L,hl,hv,e⟩
    ·exact RW b hF ⟨_,L,hl,hv,e⟩
   iD:=RO
   out:=fun v k hv=>by
    simp only[bV]at hv
    simp only[Ctx.k8,if_neg (show ¬ v=n by omega)]
    exact eB.out _ k hv
   jD:=fun v o k ho hk=>by
    rw[ny fe]at ho
    by_cases hv:v=n
    ·subst hv
     rw[if_pos rfl]at ho
     cases ho
     simp only[Ctx.k8,if_true]
     exact kh.jD 0 _ k rfl hk
    ·rw[if_neg hv]at ho
     simp only[Ctx.k8,if_neg hv]
     exact eB.jD v o k ho hk
   ob:=fun v o ho=>by
    rw[ny fe]at ho
    by_cases hv:v=n
    ·subst hv
     rw[if_pos rfl]at ho
     cases ho
     simp only[Ctx.k8,if_true]
     have h0:=kh.ob 0 _ rfl
     obtain⟨t,g,cs,rfl,gA⟩:=fF
     simp only[Ob.gen]at h0 ⊢
     cases hL:c2.ι 0 g with
     | none=>rw[hL]at h0;simp[fr]at h0
     | some L=>
      rw[hL]at h0
      simp only[fr]at h0 ⊢
      split
      ·rename_i jW;simp only[jW,if_true]at h0;exact h0
      ·rename_i jW
       simp only[jW]at h0
       obtain⟨arr,h1,h2,h3,h4⟩:=h0
       refine⟨arr,h1,h2,h3,fun i d hd=>?_⟩
       obtain⟨x,mo,jO,rA⟩:=h4 i d hd
       exact⟨x,mo,jO,hp d _ (gA d (aY hd)) rA⟩
    ·rw[if_neg hv]at ho
     simp only[Ctx.k8,if_neg hv]
     exact fr.nu (c:=c) (c':=c.k8 c2 n F) rfl (fun _ _ h=>carry h) (fun l hl jI hd=>hg.kept _ (eB.lt _ ⟨v,l,⟨o,ho,hd,hl⟩,jI,rfl⟩)) (eB.ob v o ho)
   gl:=fun g cs hg=>by
    obtain⟨h1,h2⟩:=eB.gl g cs hg
    exact⟨h1,carry h2⟩
   rt:=eB.rt },?_,?_⟩
  ·cases d with
   | tup ds=>
    cases hv with
    | tup vs _ hl ry=>
     simp only[iB]
     refine .tup vs _ (by simpa using hl) fun i v d hv lB=>?_
     simp only[ar,ai]at lB
     obtain⟨d0,iM,rfl⟩:=lB
     exact h1 d0 v (ao.1 hd d0 (aY iM)) (ry i v d0 hv iM)
   | agg ds=>
    cases hv with
    | agg vs _ hl ho ry=>
     simp only[iB]
     refine .agg vs _ (by simpa using hl) ho fun i v d hv lB=>?_
     simp only[ar,ai]at lB
     obtain⟨d0,iM,rfl⟩:=lB
     exact h1 d0 v (ao.1 hd d0 (aY iM)) (ry i v d0 hv iM)
   | eu v g sz off len=>exact yu _ _ _ _ _ _ hv (hz _ _ _ _ _ _ hv)
   | _=>exact hp _ _ hd hv
  ·exact{
    os:=hg.os
    tape:=hg.tape
    output:=hg.output
    size:=hg.size
    RT:=rfl
    Fm:=hle
    Fn:=fun b hb=>(jT b hb).imp id .inl
    kept:=fun b hb _=>hg.kept b hb
    old:=fun v k L hv h=>by
     have fJ:v≠n:=fun e=>by rw[e,K6]at h;cases h
     simp only[Ctx.k8,if_neg fJ];exact h
    own:=fun b hb=>by
     obtain⟨v,L,hl,hv,e⟩:=hb
     rcases zm hn hl with⟨_,hl⟩|⟨_,hl⟩
     ·exact .inr ⟨v,L,hl,hv,e⟩
     ·exact .inl (Gr b ⟨_,L,hl,hv,e⟩) }
 by_cases fj:eV args=true
 ·simp only[if_pos fj,ah]at hc
  have e:args.map (eC (fun _=>none) H 40)=args:=by
   conv=>rhs;rw[← aQ args]
   exact ak fun d hd=>lY (jM fj d hd)
  rw[e]at gR
  have pB:gG (c.data c.F) w vs args:=by
   clear gR hc e
   induction hr with
   | nil=>exact .nil
   | cons h _ ih=>
    simp only[eV,ah]at fj
    exact .cons (ew.closed (c:=c) (c':=c.data c.F) (fun b hb=>hb) h fj.1) (ih fj.2)
  refine(gR _ w vs (CM eB) pB).mono ?_
  rintro e w' ⟨v,c2,he,h2,hv,eJ⟩
  have hg:=tS eJ
  have hF:∀ b,c2.F b→c.F b∨w.heap.size≤b:=fun b hb=>by
   rcases eJ.Fn b hb with h|h|h
   ·exact .inl h
   ·exact .inr h
   ·exact absurd h oF
  obtain⟨m1,m2,m3⟩:=main c2 w' v c2.F h2 hv hg (fun b hb=>by
    rcases eJ.own b hb with h|h
    ·exact h
    ·exact absurd h oF) (fun b hb=>eJ.Fm b hb) h2.iD (fun b hb ho=>by
    rcases hF b hb with h|h
    ·exact eB.nF b ho h
    ·have:=eB.lt b ho;omega) (fun b hb ho=>h2.nF b ho hb) hF AL.closed (fun d u hd hu=>ew.closed (c:=c2) (c':=c.k8 c2 n c2.F) (fun b hb=>hb) hu hd) hc.1 (by
    have:=hc.2
    cases ob<;>simp only[kU]at this<;>first|(cases this;done)|skip
    exact⟨_,_,_,rfl,jM this⟩)
  exact⟨v,_,he,m1,m2,m3⟩
 ·simp only[if_neg fj,ah]at hc
  have pB:gG (c.eC [] H) w vs (args.map (eC (fun _=>none) H 40)):=hr.map fun v d h=>by
   rw[Im];exact s8 eB 40 h
  have yq:eP G (c.eC [] H) [] w:=wJ (ks:=[]) eB (fun i j p q hp=>by simp at hp)
  refine(gR _ w vs yq pB).mono ?_
  rintro e w' ⟨v,c2,he,h2,hv,eJ⟩
  have hg:=tS eJ
  obtain⟨m1,m2,m3⟩:=main c2 w' v c.F h2 hv hg (fun b hb=>by
    rcases eJ.own b hb with h|h
    ·exact h
    ·exact absurd h oF) (fun b hb=>hb) (fun b hb=>aH (eB.iD b hb) hg.size) (fun b hb ho=>eB.nF b ho hb) (fun b hb ho=>by
    rcases eJ.own b ho with h|h
    ·have:=eB.iD b hb;omega
    ·exact absurd h oF) (fun b hb=>.inl hb) AL.flat (fun d u hd hu=>ew.flat hu hd) hc.1 (by
    have:=hc.2
    cases ob<;>simp only[l4]at this<;>first|(cases this;done)|skip
    refine⟨_,_,_,rfl,fun d hd=>?_⟩
    obtain⟨i,hi⟩:=aD.1 hd
    exact vG this hi)
  exact⟨v,_,he,m1,m2,m3⟩
theorem Zn{S:List Nat}{v:Nat}(hv:v∈S):fW (jC H S) v=none:=by
 unfold fW jC
 rw[dD]
 intro p hp
 obtain⟨u,_,rfl⟩:=aw.1 hp
 by_cases hu:u=v
 ·subst hu;simp[hv]
 ·simp[hu]
theorem NT{v:Nat}:∀ (k:Nat) (d:D),(∀ u∈fD H k d,u=v)→AL.eC (fW (jC H [v])) H k d=AL.eC (fun _=>none) H k d
 | 0,d,_=>rfl
 | k+1,d,h=>by
  have hv:fW (jC H [v]) v=none:=Zn (by simp)
  have my:∀ (ds:List D),(∀ u∈(ds.map (fD H k)).flatten,u=v)→ds.map (AL.eC (fW (jC H [v])) H k)=ds.map (AL.eC (fun _=>none) H k):=fun ds px=>
   ak fun d hd=>NT k d fun u hu=>px u (aM.2 ⟨_,aw.2 ⟨d,hd,rfl⟩,hu⟩)
  unfold fD at h
  unfold AL.eC
  by_cases hc:AL.closed d=true
  ·simp only[if_pos hc]
  ·simp only[if_neg hc]at h ⊢
   cases d with
   | agg cs=>simp only[my cs h]
   | tup cs=>simp only[my cs h]
   | eG cs=>simp only[my cs h]
   | sl sz es=>
    have:es.map (fun x=>x.map (AL.eC (fW (jC H [v])) H k))=es.map (fun x=>x.map (AL.eC (fun _=>none) H k)):=ak fun e he=>my e fun u hu=>h u (aM.2 ⟨_,aw.2 ⟨e,he,rfl⟩,hu⟩)
    simp only[this]
   | fn g x y=>
    have h1:=my x fun u hu=>h u (aS _ hu)
    have h2:=my y fun u hu=>h u (br _ hu)
    simp only[h1,h2]
   | eu u g sz off len=>
    have hu:u=v:=h u (by simp)
    subst hu
    simp only[hv]
    cases fy:rowsOf H u with
    | none=>simp only[ta,fy]
    | some p=>
     obtain⟨t,g',cs⟩:=p
     simp only[ta,fy]
     by_cases hg:g'=g
     ·simp only[hg,if_true]
      have:=my (cs.drop (off*sz)) fun w hw=>by
       obtain⟨l,hl,uB⟩:=aM.1 hw
       obtain⟨d,hd,rfl⟩:=aw.1 hl
       exact h w (by simp only[fy];exact aO _ (aM.2 ⟨_,aw.2 ⟨d,bN hd,rfl⟩,uB⟩))
      rw[this]
     ·simp only[if_neg hg]
   | ptr u g off=>
    have hu:u=v:=h u (by simp)
    subst hu
    simp only[hv]
    cases fy:rowsOf H u with
    | none=>simp only[ta,fy]
    | some p=>
     obtain⟨t,g',cs⟩:=p
     simp only[ta,fy]
     by_cases hg:g'=g
     ·simp only[hg,if_true]
      have:=my (cs.drop off) fun w hw=>by
       obtain⟨l,hl,uB⟩:=aM.1 hw
       obtain⟨d,hd,rfl⟩:=aw.1 hl
       exact h w (by simp only[fy];exact aO _ (aM.2 ⟨_,aw.2 ⟨d,bN hd,rfl⟩,uB⟩))
      rw[this]
     ·simp only[if_neg hg]
   | fC u=>
    have hu:u=v:=h u (by simp)
    subst hu
    simp only[hv]
   | gy u=>
    have hu:u=v:=h u (by simp)
    subst hu
    simp only[hv]
   | _=>rfl
theorem TB(h:eP G c H w){v:Nat}{t:TypeId}{g:Nat}{cs:List D}(hv:H[v]? = some (.row t g cs)) :
  ∃ c',eP G c' (H.set v .dead) w∧Step H.length c H w c' (H.set v .dead) w∧(∀ u d,ew c w u d→ew c' w u d)∧∀ b,(c.eC (jC H [v]) H).F b→c'.F b:=by
 have fe:=(af.1 hv).1
 have hL:∀ c':Ctx,(∀ u k,c'.ι u k=c.ι u k)→∀ u l,jg c' (H.set v .dead) u l→u≠v∧jg c H u l:=by
  rintro c' eD u l ⟨o,ho,fu,hi⟩
  rw[ny fe]at ho
  split at ho
  ·cases ho;cases fu
  ·rename_i fJ;exact⟨fJ,o,ho,fu,by rw[← eD];exact hi⟩
 let c':Ctx:={ c with F:=fun b=>c.F b∨∃ L,c.ι v g=some L∧L.gP=false∧L.b=b }
 have eD:∀ u k,c'.ι u k=c.ι u k:=fun _ _=>rfl
 have hr:∀ u d,ew c w u d→ew c' w u d:=fun u d hd=>ew.carry (c:=c) (c':=c') (w:=w) (w':=w) (fun _ _ _ h=>h) (fun b hb=>Or.inl hb) (fun _ _ _=>rfl) hd
 have nJ:∀ b,jz c' (H.set v .dead) b→jz c H b:=fun b ⟨u,l,hl,r⟩=>⟨u,l,(hL c' eD u l hl).2,r⟩
 refine⟨c',{
  inj:=fun u u' l l' h1 h2=>h.inj u u' l l' (hL c' eD _ _ h1).2 (hL c' eD _ _ h2).2
  lt:=fun b hb=>h.lt b (nJ b hb)
  nF:=fun b hb hF=>by
   obtain⟨u,l,hl,gw,e⟩:=hb
   obtain⟨fJ,kg⟩:=hL c' eD u l hl
   rcases hF with hF|⟨L,x6,fM,eL⟩
   ·exact h.nF b ⟨u,l,kg,gw,e⟩ hF
   ·exact fJ (h.inj u v l L kg ⟨_,hv,rfl,x6⟩ gw fM (e.trans eL.symm))
  iD:=fun b hb=>by
   rcases hb with hb|⟨L,x6,fM,eL⟩
   ·exact h.iD b hb
   ·exact eL▸h.lt _ ⟨v,L,⟨_,hv,rfl,x6⟩,fM,rfl⟩
  out:=fun u k hu=>h.out u k (by simpa using hu)
  jD:=fun u o k ho hk=>by
   rw[ny fe]at ho
   split at ho
   ·cases ho
    rcases hk with hk|⟨hk,_⟩<;>cases hk
   ·exact h.jD u o k ho hk
  ob:=fun u o ho=>by
   rw[ny fe]at ho
   split at ho
   ·cases ho;simp[fr]
   ·exact fr.nu (c:=c) (c':=c') rfl hr (fun _ _ _ _=>rfl) (h.ob u o ho)
  gl:=fun g cs hg=>let ⟨a,b⟩:=h.gl g cs hg;⟨a,hr _ _ b⟩
  rt:=h.rt },?_,hr,fun b hb=>?_⟩
 ·exact{
   os:=⟨rfl,Nat.le_refl _⟩,tape:=rfl,output:=rfl,size:=Nat.le_refl _,RT:=rfl
   Fm:=fun b hb=>Or.inl hb
   Fn:=fun b hb=>by
    rcases hb with hb|⟨L,x6,fM,eL⟩
    ·exact .inl hb
    ·exact .inr (.inr ⟨v,L,⟨_,hv,rfl,x6⟩,fM,eL⟩)
   kept:=fun _ _ _=>rfl
   old:=fun _ _ _ _ h=>h
   own:=fun b hb=>.inr (nJ b hb) }
 ·rcases hb with hb|⟨u,L,⟨o,ho,fu,SY⟩,LP,fM,e⟩
  ·exact .inl hb
  ·have hu:u=v:=by
    by_cases fJ:u=v
    ·exact fJ
    ·exfalso
     have Sv:=(af.1 ho).1
     have:fW (jC H [v]) u=some u:=H9 KS (by
      unfold jC
      simp[Sv,fJ])
     rw[this]at LP;cases LP
   subst hu
   rw[hv]at ho
   cases ho
   exact .inr ⟨L,SY,fM,e⟩
theorem Y4(eB:eP G c H w){f:FuncId}{vs:List Value}{args:List D}{d:D}{v:Nat}(hr:gG c w vs args)(hS:∀ u∈(args.map (fD H 40)).flatten,u=v)(fy:(rowsOf H v).isSome=true)
  (gR:rR P G f (args.map (AL.eC (fun _=>none) H 40)) [] d []) (fj:eV (args.map (AL.eC (fun _=>none) H 40))=true) (hd:AL.closed d=true) :
  Calls P f vs.toArray w fun e w'=>∃ u c',e = .returned u∧eP G c' (H.set v .dead) w'∧ew c' w' u d∧Step H.length c H w c' (H.set v .dead) w':=by
 have hv:∃ t g cs,H[v]? = some (.row t g cs):=by
  unfold rowsOf at fy
  split at fy
  ·exact⟨_,_,_,by assumption⟩
  ·cases fy
 obtain⟨t,g,cs,hv⟩:=hv
 obtain⟨c1,k1,k2,k3,k4⟩:=TB eB hv
 have Sf:gG c1 w vs (args.map (AL.eC (fun _=>none) H 40)):=by
  have e:args.map (AL.eC (fun _=>none) H 40)=args.map (AL.eC (fW (jC H [v])) H 40):=
   ak fun d hd=>(NT 40 d fun u hu=>hS u (aM.2 ⟨_,aw.2 ⟨d,hd,rfl⟩,hu⟩)).symm
  have x9:=fj
  rw[e]at x9 ⊢
  have h0:=hr.map (c':=c.eC (jC H [v]) H) (f:=AL.eC (fW (jC H [v])) H 40) fun _ _ h=>s8 eB 40 h
  generalize args.map (AL.eC (fW (jC H [v])) H 40)=as at h0 x9
  clear e fj hS gR hr
  induction h0 with
  | nil=>exact .nil
  | cons h _ ih=>
   simp only[eV,ah]at x9
   exact .cons (ew.closed (c:=c.eC (jC H [v]) H) (c':=c1) k4 h x9.1) (ih x9.2)
 have e2:(args.map (AL.eC (fun _=>none) H 40)).map (AL.eC (fun _=>none) (H.set v .dead) 40)=args.map (AL.eC (fun _=>none) H 40):=by
  conv=>rhs;rw[← aQ (args.map (AL.eC (fun _=>none) H 40))]
  exact ak fun d hd=>lY (jM fj d hd)
 have v8:jX d=true∧iB (H.set v .dead).length d=d:=by
  cases d<;>first|(cases hd;done)|skip
  case tup ds=>
   simp only[AL.closed]at hd
   refine⟨?_,?_⟩
   ·simp only[jX,qE,ao]
    intro x hx
    have:=jM hd x hx
    cases x<;>first|rfl|exact this
   ·simp only[iB]
    congr 1
    conv=>rhs;rw[← aQ ds]
    refine ak fun x hx=>?_
    have:=jM hd x hx
    cases x<;>first|rfl|(cases this;done)
  case agg ds=>
   simp only[AL.closed]at hd
   refine⟨?_,?_⟩
   ·simp only[jX,qE,ao]
    intro x hx
    have:=jM hd x hx
    cases x<;>first|rfl|exact this
   ·simp only[iB]
    congr 1
    conv=>rhs;rw[← aQ ds]
    refine ak fun x hx=>?_
    have:=jM hd x hx
    cases x<;>first|rfl|(cases this;done)
  all_goals exact⟨hd,rfl⟩
 refine(No k1 Sf (by rw[e2];exact gR) (by rw[if_pos fj];simp[v8.1])).mono ?_
 rintro e w' ⟨u,c2,he,m1,m2,m3⟩
 rw[av]at m1 m3
 rw[v8.2]at m2
 exact⟨u,c2,he,m1,m2,k2.trans m3 (by simp)⟩
end
end Go.AL
namespace Go.AL
open Go
def nz(o:Nat)(xs cs:List D):List D:=cs.take o++xs++cs.drop (o+xs.length)
theorem Ix{o:Nat}{xs cs:List D}(h:o+xs.length≤cs.length):(nz o xs cs).length=cs.length:=by simp[nz];omega
theorem zL{o:Nat}{xs cs:List D}(h:o+xs.length≤cs.length)(i:Nat):(nz o xs cs)[i]? = if o≤i∧i<o+xs.length then xs[i-o]? else cs[i]? := by
 unfold nz
 have hl:(cs.take o).length=o:=by simp;omega
 by_cases h1:i<o
 ·rw[ag (by simp;omega),ag (by omega),ay,if_pos h1,if_neg (by omega)]
 ·by_cases h2:i<o+xs.length
  ·rw[ag (by simp;omega),aj (by omega),hl,if_pos ⟨by omega,h2⟩]
  ·rw[aj (by simp;omega),aC,if_neg (by omega)]
   congr 1
   simp;omega
def rP(n:Nat):Dl→Option Nat
 | .no=>none
 | .cells v _ _=>some v
 | .obj v _=>some v
 | .new _=>some n
def IC:Dl→Ob→Ob
 | .no,o=>o
 | .cells _ o xs,.row t g cs=>.row t g (nz o xs cs)
 | .cells _ _ _,o=>o
 | .obj _ ob,_=>ob
 | .new ob,_=>ob
abbrev iZ(n:Nat)(δ:Dl)(H:et):et:=δ.app H (Al.jn H n)
theorem vq(n:Nat)(δ:Dl)(H:et)(x:Nat):(iZ n δ H)[x]? = if rP n δ=some x then(H[x]?).map (IC δ)else H[x]? := by
 have pD:∀ (v:Nat) (ob:Ob) (f:Ob→Ob),(∀ o,f o=ob)→(H.set v ob)[x]? = if some v=some x then(H[x]?).map f else H[x]? := by
  intro v ob f hf
  rw[bH]
  by_cases e:v=x
  ·subst e
   rw[if_pos rfl,if_pos rfl]
   split
   ·rename_i fe;simp[fe,hf]
   ·rename_i fe;rw[aK (by omega)];rfl
  ·rw[if_neg e,if_neg (by simpa using e)]
 cases δ with
 | no=>simp[iZ,Dl.app,rP]
 | obj v ob=>exact pD v ob _ fun _=>rfl
 | new ob=>exact pD n ob _ fun _=>rfl
 | cells v o xs=>
  have ht:rP n (.cells v o xs)=some v:=rfl
  by_cases e:v=x
  ·subst e
   rw[if_pos ht]
   simp only[iZ,Dl.app]
   split
   ·rename_i t g cs hv
    rw[bH,if_pos rfl,if_pos (af.1 hv).1,hv]
    rfl
   ·rename_i fJ
    cases hx:H[v]? with
    | none=>rfl
    | some ob=>
     cases ob<;>first|rfl|skip
     exact absurd hx (fJ _ _ _)
  ·rw[if_neg (by rw[ht];simpa using e)]
   simp only[iZ,Dl.app]
   split
   ·rw[bH,if_neg e]
   ·rfl
def Fits(n:Nat)(δ:Dl)(H:et):Prop:=match δ with
 | .cells v o xs=>∃ t g cs,H[v]? = some (.row t g cs)∧o+xs.length≤cs.length
 | .new _=>H[n]? = some .jn
 | _=>True
theorem r9{a b:List Fp}(h:oP a b=true){x y:Fp}(hx:x∈a)(hy:y∈b):oO x y=true:=
 ao.1 (ao.1 h x hx) y hy
theorem JB{n:Nat}{δ:Dl}{H:et}{fp:List Fp}(hf:Fits n δ H)(h:oP (gT n δ) fp=true):oM fp (iZ n δ H) H:=by
 intro x hx
 obtain⟨u,r⟩:=x
 have fJ:∀ v q,(v,q)∈gT n δ→rP n δ=some v:=by
  intro v q hm
  cases δ<;>simp only[gT,List.mem_singleton,cG]at hm<;>first|(cases hm;rfl)|cases hm
 have main:rP n δ≠some u→(iZ n δ H)[u]? = H[u]? := fun hn=>by rw[vq,if_neg hn]
 by_cases ht:rP n δ=some u
 ·cases r with
  | none=>
   exfalso
   cases δ with
   | no=>cases ht
   | cells v o xs=>cases ht;have:=r9 h (x:=(u,some (o,xs.length))) (by simp[gT]) hx;simp[oO]at this
   | obj v ob=>cases ht;have:=r9 h (x:=(u,none)) (by simp[gT]) hx;simp[oO]at this
   | new ob=>cases ht;have:=r9 h (x:=(n,none)) (by simp[gT]) hx;simp[oO]at this
  | some q=>
   obtain⟨p,m⟩:=q
   cases δ with
   | no=>cases ht
   | obj v ob=>cases ht;exfalso;have:=r9 h (x:=(u,none)) (by simp[gT]) hx;simp[oO]at this
   | new ob=>cases ht;exfalso;have:=r9 h (x:=(n,none)) (by simp[gT]) hx;simp[oO]at this
   | cells v o xs=>
    cases ht
    obtain⟨t,g,cs,h1,h2⟩:=hf
    have ha:=r9 h (x:=(u,some (o,xs.length))) (by simp[gT]) hx
    simp only[oO,bne_self_eq_false,dw,bW,decide_eq_true_eq]at ha
    refine .inr ⟨t,g,nz o xs cs,cs,?_,h1,Ix h2,fun i hi1 iO=>?_⟩
    ·simp[vq,rP,h1,IC]
    ·rw[zL h2,if_neg (by omega)]
 ·have e:=main ht
  cases r with
  | none=>exact e
  | some q=>exact .inl e
theorem aah{o p:Nat}{xs ys cs:List D}(h1:o+xs.length≤cs.length)(h2:p+ys.length≤cs.length)(h:o+xs.length≤p∨p+ys.length≤o) :
  nz o xs (nz p ys cs)=nz p ys (nz o xs cs):=by
 apply bI
 intro i
 rw[zL (by rw[Ix h2];exact h1),zL h2,zL (by rw[Ix h1];exact h2),zL h1]
 by_cases a:o≤i∧i<o+xs.length<;>by_cases b:p≤i∧i<p+ys.length
 ·omega
 ·rw[if_pos a,if_neg b,if_pos a]
 ·rw[if_neg a,if_pos b,if_pos b]
 ·rw[if_neg a,if_neg b,if_neg b,if_neg a]
theorem aaA{n m:Nat}{δ ε:Dl}{H:et}(hf:Fits n δ H)(hg:Fits m ε H)(h:oP (gT n δ) (gT m ε)=true):iZ m ε (iZ n δ H)=iZ n δ (iZ m ε H):=by
 apply bI
 intro x
 rw[vq,vq,vq,vq]
 by_cases a:rP n δ=some x<;>by_cases b:rP m ε=some x
 ·rw[if_pos a,if_pos b,if_pos b,if_pos a]
  have bad:∀ {P:Prop},(∃ q r,(x,q)∈gT n δ∧(x,r)∈gT m ε∧(q=none∨r=none))→P:=by
   rintro P ⟨q,r,h1,h2,h3⟩
   have:=r9 h h1 h2
   rcases h3 with rfl|rfl
   ·simp[oO]at this
   ·cases q<;>simp[oO]at this
  cases δ with
  | no=>cases a
  | obj v ob=>
   cases a
   cases ε with
   | no=>cases b
   | cells v o xs=>cases b;exact bad ⟨none,some (o,xs.length),by simp[gT],by simp[gT],.inl rfl⟩
   | obj v ob=>cases b;exact bad ⟨none,none,by simp[gT],by simp[gT],.inl rfl⟩
   | new ob=>cases b;exact bad ⟨none,none,by simp[gT],by simp[gT],.inl rfl⟩
  | new ob=>
   cases a
   cases ε with
   | no=>cases b
   | cells v o xs=>cases b;exact bad ⟨none,some (o,xs.length),by simp[gT],by simp[gT],.inl rfl⟩
   | obj v ob=>cases b;exact bad ⟨none,none,by simp[gT],by simp[gT],.inl rfl⟩
   | new ob=>cases b;exact bad ⟨none,none,by simp[gT],by simp[gT],.inl rfl⟩
  | cells v o xs=>
   cases a
   cases ε with
   | no=>cases b
   | obj v ob=>cases b;exact bad ⟨some (o,xs.length),none,by simp[gT],by simp[gT],.inr rfl⟩
   | new ob=>cases b;exact bad ⟨some (o,xs.length),none,by simp[gT],by simp[gT],.inr rfl⟩
   | cells v p ys=>
    cases b
    obtain⟨t,g,cs,h1,h2⟩:=hf
    obtain⟨t',g',kr,De,F5⟩:=hg
    rw[h1]at De
    cases De
    have ha:=r9 h (x:=(x,some (o,xs.length))) (y:=(x,some (p,ys.length))) (by simp[gT]) (by simp[gT])
    simp only[oO,bne_self_eq_false,dw,bW,decide_eq_true_eq]at ha
    simp only[h1,a8,IC]
    rw[aah h2 F5 ha]
 ·rw[if_pos a,if_neg b,if_neg b,if_pos a]
 ·rw[if_neg a,if_pos b,if_neg a]
 ·rw[if_neg a,if_neg b,if_neg a]
structure Rc where
 R:List Fp
 W:List Fp
inductive Out where
 | norm (s:St)
 | exit (id:Nat) (s:St)
 | ret (s:St)
inductive tj where
 | ops (l:List eX) (s:St)
 | code (c:IR) (s:St)
 | loop (n:Nat) (live:List Nat) (a:IR) (s:St)
 | call (f:FuncId) (args:List D) (H:et)
 | trace (l:List eX) (s:St)
inductive lJ where
 | out (o:Out)
 | tr (rs:List Rc) (s:St)
 | val (d:D) (H:et)
def Out.stop:Out→Bool
 | .norm _=>false
 | _=>true
def pL(gM:List (Nat×Nat))(rs:List Rc):Bool:=gM.all fun p=>match rs[p.1]?,rs[p.2]? with
 | some a,some b=>oP a.W (b.R++b.W)&&oP b.W (a.R++a.W)
 | _,_=>false
def yieldOf(env:fg):fY→Option (Nat×List D)
 | .callv f args=>match ev env f with
  | .gy v=>some (v,args.map (ev env))
  | _=>none
 | _=>none
def Out.st:Out→St
 | .norm s=>s
 | .exit _ s=>s
 | .ret s=>s
def Out.tc:Out→nV
 | .norm _=>.ready
 | .exit id _=>.sw id
 | .ret _=>.tG
def uQ(s:St):nV→Option Out
 | .ready=>some (.norm s)
 | .busy=>none
 | .tG=>some (.ret s)
 | .sw id=>some (.exit id s)
def kill:List Nat→et→Option et
 | [],H=>some H
 | v::vs,H=>match H[v]? with
  | some .jA=>kill vs (H.set v .dead)
  | _=>none
def finish(fn:eA)(own n:Nat):Out→Option (D×et)
 | .norm s | .ret s=>match kill s.marks s.H with
  | some H=>match results fn { s with H:=H }with
   | some d=>some (leave own n H d)
   | none=>none
  | none=>none
 | .exit _ _=>none
def kc(id n:Nat)(live:List Nat):Out→Out
 | .norm s=>.norm (cut n live s)
 | .exit sX s=>if sX=id then .norm (cut n live s)else .exit sX s
 | .ret s=>.ret s
inductive Ev(T:fH):tj→(lJ→Prop)→Prop
 | mono {j R R'} (h:Ev T j R) (hi:∀ r,R r→R' r):Ev T j R'
 | nil {s R} (h:R (.out (.norm s))):Ev T (.ops [] s) R
 | op {e r s d δ R} (hg:guardOf s.env.get e.guard=some true) (h:eZ s.env.get s.H s.H.length e.op=some (d,δ))
   (t:Ev T (.ops r { s with env:=put s.env e.dst d,H:=δ.app s.H (Al.last s.H) }) R):Ev T (.ops (e::r) s) R
 | uZ {e r s d δ R} (hg:guardOf s.env.get e.guard=some true) (h:jZ s.env.get s.H s.H.length e.op=some (d,δ))
   (t:Ev T (.ops r { s with env:=put s.env e.dst d,H:=δ.app s.H (Al.last s.H) }) R):Ev T (.ops (e::r) s) R
 | off {e r s R} (hg:guardOf s.env.get e.guard=some false) (t:Ev T (.ops r { s with env:=put s.env e.dst (.val undef) }) R):Ev T (.ops (e::r) s) R
 | jk {l s R} (S:List Nat) (hm:s.marks.all (fun v => !S.contains v)=true) (t:Ev T (.ops l (jk S s)) R):Ev T (.ops l s) R
 | xX {c s R} (S:List Nat) (hm:s.marks.all (fun v => !S.contains v)=true) (t:Ev T (.code c (jk S s)) R):Ev T (.code c s) R
 | FT {l s R} (live:List Nat) (t:Ev T (.ops l { s with env:=forget live s.env }) R):Ev T (.ops l s) R
 | C7 {c s R} (live:List Nat) (t:Ev T (.code c { s with env:=forget live s.env }) R):Ev T (.code c s) R
 | xD {e r s f args fn R1 R} (hg:guardOf s.env.get e.guard=some true) (hc:iw s.env.get e.op=some (f,args)) (hf:T.fn f=some fn) (hp:fn.full=false)
   (h:Ev T (.call f (args.map (eC (fun _=>none) s.H 40)) []) R1) (ha:∀ d Hn,R1 (.val d Hn)→(after s e.dst args d Hn).isSome=true)
   (t:∀ d Hn s',R1 (.val d Hn)→after s e.dst args d Hn=some s'→Ev T (.ops r s') R):Ev T (.ops (e::r) s) R
 | xC {e r s f args fn R1 R} (hg:guardOf s.env.get e.guard=some true) (hc:iw s.env.get e.op=some (f,args)) (hf:T.fn f=some fn) (hp:fn.full=true)
   (h:Ev T (.call f args s.H) R1) (t:∀ d H',R1 (.val d H')→Ev T (.ops r { s with env:=put s.env e.dst d,H:=H' }) R):Ev T (.ops (e::r) s) R
 | Cu {e r s v args rf env0 Rd Ra Rb R} (hg:guardOf s.env.get e.guard=some true) (hc:yieldOf s.env.get e.op=some (v,args)) (hv:s.H[v]? = some (.fE rf env0 .ready)) (hR:T.round rf=some Rd) (hl:args.length=Rd.params.length)
   (ha:Ev T (.code Rd.a { env:=oJ Rd.params args env0,H:=s.H,fV:=true }) Ra) (hn:∀ o,Ra (.out o)→o.stop=false∧∃ iV,o.st.H[v]? = some (.fE rf iV .ready))
   (hb:∀ s1 iV,Ra (.out (.norm s1))→s1.H[v]? = some (.fE rf iV .ready)→Ev T (.code Rd.b { s1 with H:=s1.H.set v (.fE rf iV .busy) }) Rb)
   (hm:∀ o,Rb (.out o)→∃ iL,o.st.H[v]? = some (.fE rf iL .busy))
   (t:∀ o iL,Rb (.out o)→o.st.H[v]? = some (.fE rf iL .busy)→Ev T (.ops r { s with env:=put s.env e.dst (.b !o.stop),H:=o.st.H.set v (.fE rf iL o.tc) }) R):Ev T (.ops (e::r) s) R
 | next {e r s x v m since seen kk es R} (hg:guardOf s.env.get e.guard=some true) (fL:e.op = .nextM x) (hx:ev s.env.get x = .ptr v 0 0) (hv:s.H[v]? = some (.jK (.fC m) since seen)) (hm:s.H[m]? = some (.map kk es)) (hs:es.length=since)
   (h0:(∀ i,i<es.length→i∈seen)→Ev T (.ops r { s with env:=put s.env e.dst (.tup [.b false]) }) R)
   (h1:∀ i k d,es[i]? = some (k,d)→i ∉ seen→Ev T (.ops r { s with env:=put s.env e.dst (.tup [.b true,.val k,d]),H:=s.H.set v (.jK (.fC m) since (seen ++ [i])) }) R):Ev T (.ops (e::r) s) R
 | zT {s R} (h:R (.tr [] s)):Ev T (.trace [] s) R
 | zV {e r s d δ R1 R} (hg:guardOf s.env.get e.guard=some true) (h:eZ s.env.get s.H s.H.length e.op=some (d,δ))
   (t:Ev T (.trace r { s with env:=put s.env e.dst d,H:=δ.app s.H (Al.last s.H) }) R1) (k:∀ rs s',R1 (.tr rs s')→R (.tr (⟨e7 s.env.get s.H e.op,gT s.H.length δ⟩::rs) s')):Ev T (.trace (e::r) s) R
 | zU {e r s R1 R} (hg:guardOf s.env.get e.guard=some false) (t:Ev T (.trace r { s with env:=put s.env e.dst (.val undef) }) R1) (k:∀ rs s',R1 (.tr rs s')→R (.tr (⟨[],[]⟩::rs) s')):Ev T (.trace (e::r) s) R
 | zP {e r s f args fn d R0 R1 R} (hg:guardOf s.env.get e.guard=some true) (hc:iw s.env.get e.op=some (f,args)) (hf:T.fn f=some fn) (hp:fn.full=false)
   (h:Ev T (.call f (args.map (eC (fun _=>none) s.H 40)) []) R0) (h0:∀ d' Hn,R0 (.val d' Hn)→d'=d∧Hn = []) (hr:(if eV args then closed d else flat d)=true)
   (t:Ev T (.trace r { s with env:=put s.env e.dst d }) R1) (k:∀ rs s',R1 (.tr rs s')→R (.tr (⟨e7 s.env.get s.H e.op,[]⟩::rs) s')):Ev T (.trace (e::r) s) R
 | zQ {e r s f as args fn d ob R0 R1 R} (hg:guardOf s.env.get e.guard=some true) (fL:e.op = .callN f as) (ha:args=as.map (ev s.env.get)) (hf:T.fn f=some fn) (hp:fn.full=false)
   (h:Ev T (.call f (args.map (eC (fun _=>none) s.H 40)) []) R0) (h0:∀ d' Hn,R0 (.val d' Hn)→d'=d∧Hn = [ob]) (hr:(if eV args then jX d&&kU ob else lV d&&l4 ob)=true)
   (t:Ev T (.trace r { s with env:=put s.env e.dst (iB s.H.length d),H:=s.H ++ [ob] }) R1) (k:∀ rs s',R1 (.tr rs s')→R (.tr (⟨e7 s.env.get s.H e.op,[(s.H.length,none)]⟩::rs) s')):Ev T (.trace (e::r) s) R
 | zS {e r s f as args fn d v R0 R1 R} (hg:guardOf s.env.get e.guard=some true) (fL:e.op = .callN f as) (ha:args=as.map (ev s.env.get)) (hf:T.fn f=some fn) (hp:fn.full=false)
   (hS:∀ u∈(args.map (fD s.H 40)).flatten,u=v) (hv:v∈(args.map (fD s.H 40)).flatten) (fy:(rowsOf s.H v).isSome=true) (fj:eV (args.map (eC (fun _=>none) s.H 40))=true)
   (h:Ev T (.call f (args.map (eC (fun _=>none) s.H 40)) []) R0) (h0:∀ d' Hn,R0 (.val d' Hn)→d'=d∧Hn = []) (hr:closed d=true)
   (t:Ev T (.trace r { s with env:=put s.env e.dst d,H:=s.H.set v .dead }) R1) (k:∀ rs s',R1 (.tr rs s')→R (.tr (⟨e7 s.env.get s.H e.op,[(v,none)]⟩::rs) s')):Ev T (.trace (e::r) s) R
 | eN {gM l s R1 R} (t:Ev T (.trace l s) R1) (hp:∀ rs s',R1 (.tr rs s')→pL gM rs=true∧R (.out (.norm s'))):Ev T (.code (.eN gM l) s) R
 | jN {gM l es s R1 R} (t:Ev T (.trace l s) R1) (hp:∀ rs s',R1 (.tr rs s')→pL gM rs=true) (k:∀ rs s',R1 (.tr rs s')→Ev T (.ops es s') R):Ev T (.code (.jN gM l es) s) R
 | skip {s R} (h:R (.out (.norm s))):Ev T (.code .skip s) R
 | xM {l s R} (h:Ev T (.ops l s) R):Ev T (.code (.ops l) s) R
 | seq {a b s R1 R} (h:Ev T (.code a s) R1) (k:∀ s',R1 (.out (.norm s'))→Ev T (.code b s') R) (hs:∀ o,R1 (.out o)→o.stop=true→R (.out o)):Ev T (.code (.seq a b) s) R
 | cond {c a b s x R} (hc:ev s.env.get c = .val (.bool x)) (h:Ev T (.code (if x then a else b) s) R):Ev T (.code (.cond c a b) s) R
 | block {id live a s R1 R} (h:Ev T (.code a s) R1) (k:∀ o,R1 (.out o)→R (.out (kc id s.H.length live o))):Ev T (.code (.block id live a) s) R
 | loop {live a s R} (h:Ev T (.loop s.H.length live a { s with env:=forget live s.env }) R):Ev T (.code (.loop live a) s) R
 | sY {n live a s R1 R} (h:Ev T (.code a s) R1) (k:∀ s',R1 (.out (.norm s'))→Ev T (.loop n live a (cut n live s')) R) (hs:∀ o,R1 (.out o)→o.stop=true→R (.out o)):Ev T (.loop n live a s) R
 | jY {rf live x s f first cap fn R1 R} (hr:s.fV=false) (hx:ev s.env.get x = .fn (.func f) first cap) (hf:T.fn f=some fn) (hp:fn.full=true)
   (h:Ev T (.call f (first ++ [.gy (s.H.length+1)]++cap) (s.H ++ [.jA,.fE rf (forget live s.env) .ready])) R1)
   (k:∀ d H',R1 (.val d H')→∃ env st o,H'[s.H.length+1]? = some (.fE rf env st)∧uQ { s with H:=H'.set (s.H.length+1) .dead,marks:=s.H.length::s.marks } st=some o∧R (.out o)):Ev T (.code (.jY rf live x) s) R
 | exit {id s R} (h:R (.out (.exit id s))):Ev T (.code (.exit id) s) R
 | ret {s R} (h:R (.out (.ret s))):Ev T (.code .ret s) R
 | call {f args H fn R1 R} (own:Nat) (hf:T.fn f=some fn) (hl:args.length≤fn.ntmps) (h:Ev T (.code fn.body { env:=oC args,H:=H }) R1)
   (k:∀ o,R1 (.out o)→∃ d H',finish fn own H.length o=some (d,H')∧R (.val d H')):Ev T (.call f args H) R
 | sort {f g fn sz v gen t H R} {α:Type} (fc:α→List D) (l:List α) (cf:α→α→Int) (hs:T.sort f=some sz) (hg:T.fn g=some fn) (hl:∀ a∈l,(fc a).length=sz) (fj:∀ a∈l,eV (fc a)=true) (h0:0<l.length) (sE:l.length<4611686018427387904)
   (wk:∀ x∈l,¬ cf x x<0) (tr:∀ x∈l,∀ y∈l,∀ z∈l,cf x y<0→cf y z<0→cf x z<0) (nt:∀ x∈l,∀ y∈l,∀ z∈l,¬ cf x y<0→¬ cf y z<0→¬ cf x z<0)
   (hc:∀ x∈l,∀ y∈l,Ev T (.call g [.agg (fc x),.agg (fc y)] []) (fun r=>∃ H',r = .val (.i (cf x y)) H')) (hv:H[v]? = some (.row t gen (l.map fc).flatten))
   (k:∀ l':List α,l'.Perm l→l'.Pairwise (fun x y=>¬ cf y x<0)→R (.val (.tup []) (H.set v (.row t gen (l'.map fc).flatten)))):Ev T (.call f [.eu v gen sz 0 l.length,.fn (.func g) [] []] H) R
 | wN {f sz x H R} (hs:T.sort f=some sz) (k:R (.val (.tup []) H)):Ev T (.call f [.U,x] H) R
 | oL {f v gen t H R} (l:List Int) (hs:T.oL f=true) (h0:0<l.length) (sE:l.length<4611686018427387904) (hv:H[v]? = some (.row t gen (l.map fun n=>D.i n)))
   (k:R (.val (.tup []) (H.set v (.row t gen ((l.mergeSort fun x y=>decide (x≤y)).map fun n=>D.i n))))):Ev T (.call f [.eu v gen 1 0 l.length] H) R
end Go.AL
namespace Go.AL
open Go
def jL(f:fg):Option Nat→D→fg
 | some k,d=>fun t=>if k=t then d else f t
 | none,_=>f
theorem zn(env:Env)(dst:Option Nat)(d:D):(put env dst d).get=jL env.get dst d:=by
 cases dst with
 | none=>rfl
 | some k=>funext t;simp[put,Env.qj,jL]
def F3:Option (Nat×Bool)→List Nat
 | some (t,_)=>[t]
 | none=>[]
def looks(e:eX):List Nat:=fw e.op++F3 e.guard
inductive Ef(C:FuncId→List D→D→et→Prop)(f:fg)(H:et)(e:eX)(n:Nat):Rc→D→Dl→Prop
 | op {d δ} (hg:guardOf f e.guard=some true) (h:eZ f H n e.op=some (d,δ)) (hf:Fits n δ H):Ef C f H e n ⟨e7 f H e.op,gT n δ⟩ d δ
 | off (hg:guardOf f e.guard=some false):Ef C f H e n ⟨[],[]⟩ (.val undef) .no
 | call {g args d} (hg:guardOf f e.guard=some true) (hc:iw f e.op=some (g,args))
   (h:C g (args.map (eC (fun _=>none) H 40)) d []) (hr:(if eV args then closed d else flat d)=true):Ef C f H e n ⟨e7 f H e.op,[]⟩ d .no
 | callN {g as args d ob} (hg:guardOf f e.guard=some true) (fL:e.op = .callN g as) (ha:args=as.map (ev f))
   (h:C g (args.map (eC (fun _=>none) H 40)) d [ob]) (hr:(if eV args then jX d&&kU ob else lV d&&l4 ob)=true) (hf:Fits n (.new ob) H):Ef C f H e n ⟨e7 f H e.op,gT n (.new ob)⟩ (iB n d) (.new ob)
 | tB {g as args d v} (hg:guardOf f e.guard=some true) (fL:e.op = .callN g as) (ha:args=as.map (ev f)) (hS:∀ u∈(args.map (fD H 40)).flatten,u=v) (hv:v∈(args.map (fD H 40)).flatten) (fy:(rowsOf H v).isSome=true)
   (h:C g (args.map (eC (fun _=>none) H 40)) d []) (fj:eV (args.map (eC (fun _=>none) H 40))=true) (hr:closed d=true):Ef C f H e n ⟨e7 f H e.op,[(v,none)]⟩ d (.obj v .dead)
theorem guard_congr{f f':fg}{g:Option (Nat×Bool)}(h:∀ t∈F3 g,f t=f' t):guardOf f g=guardOf f' g:=by
 cases g with
 | none=>rfl
 | some p=>simp only[guardOf,h p.1 (by simp[F3])]
theorem Oo{x:Fp}{H1 H2:et}(h:Alike x H1 H2):Alike x H2 H1:=by
 obtain⟨v,r⟩:=x
 cases r with
 | none=>exact h.symm
 | some q=>
  rcases h with h|⟨t,g,cs,ds,h1,h2,h3,h4⟩
  ·exact .inl h.symm
  ·exact .inr ⟨t,g,ds,cs,h2,h1,h3.symm,fun i a b=>(h4 i a b).symm⟩
theorem KF{n:Nat}{δ:Dl}{H H':et}(h:oM (gT n δ) H H')(hf:Fits n δ H):Fits n δ H':=by
 cases δ with
 | no=>trivial
 | obj v ob=>trivial
 | new ob=>
  have e:H[n]? = H'[n]? := h (n,none) (by simp[gT])
  show H'[n]? = some .jn
  rw[← e];exact hf
 | cells v o xs=>
  obtain⟨t,g,cs,h1,h2⟩:=hf
  rcases h (v,some (o,xs.length)) (by simp[gT])with h|⟨t',g',kr,ds,h3,h4,h5,h6⟩
  ·exact⟨t,g,cs,h▸h1,h2⟩
  ·rw[h1]at h3;cases h3
   exact⟨t,g,ds,h4,by omega⟩
theorem Es{H H':et}{v:Nat}(h:Alike (v,none) H H'):rowsOf H v=rowsOf H' v:=by
 have e:H[v]? = H'[v]? := h
 simp only[rowsOf,e]
theorem Ff{f:fg}{H:et}{op:fY}{g:FuncId}{args:List D}(hc:iw f op=some (g,args)){H':et}(h:oM (e7 f H op) H H') :
  e7 f H' op=e7 f H op∧args.map (eC (fun _=>none) H' 40)=args.map (eC (fun _=>none) H 40):=by
 have key:∀ args:List D,(∀ v∈(args.map (fD H 40)).flatten,rowsOf H v=rowsOf H' v)→args.map (fD H' 40)=args.map (fD H 40)∧args.map (eC (fun _=>none) H' 40)=args.map (eC (fun _=>none) H 40):=by
  intro args ha
  have h1:∀ d∈args,∀ v∈fD H 40 d,rowsOf H v=rowsOf H' v:=fun d hd v hv=>ha v (aM.2 ⟨_,aw.2 ⟨d,hd,rfl⟩,hv⟩)
  exact⟨ak fun d hd=>(zw 40 d (h1 d hd)).1,ak fun d hd=>(zw 40 d (h1 d hd)).2⟩
 cases op<;>first|(cases hc;done)|skip
 case call k as=>
  cases hc
  obtain⟨a,b⟩:=key (as.map (ev f)) fun v hv=>Es (h (v,none) (aw.2 ⟨v,hv,rfl⟩))
  exact⟨by simp only[e7,a],b⟩
 case callN k as=>
  cases hc
  obtain⟨a,b⟩:=key (as.map (ev f)) fun v hv=>Es (h (v,none) (aw.2 ⟨v,hv,rfl⟩))
  exact⟨by simp only[e7,a],b⟩
 case callv k as=>
  simp only[e7,hc]at h ⊢
  obtain⟨a,b⟩:=key args fun v hv=>Es (h (v,none) (aw.2 ⟨v,hv,rfl⟩))
  exact⟨by rw[a],b⟩
theorem Qs{f:fg}{H H':et}{op:fY}(hn:iw f op=none):e7 f H' op=e7 f H op:=by
 cases op<;>first|rfl|(cases hn;done)|skip
 case callv=>simp only[e7,hn]
 case len k x=>cases k<;>rfl
theorem OW{f:fg}{H:et}{n:Nat}{op:fY}{r:D×Dl}(h:eZ f H n op=some r):iw f op=none:=by
 cases op<;>first|rfl|cases h
variable{C:FuncId→List D→D→et→Prop}
theorem Ef.local{f f':fg}{H H':et}{e:eX}{n:Nat}{rc:Rc}{d:D}{δ:Dl}(h:Ef C f H e n rc d δ)(hf:∀ t∈looks e,f t=f' t)(hH:oM (rc.R++rc.W) H H'):Ef C f' H' e n rc d δ:=by
 have h1:∀ t∈fw e.op,f t=f' t:=fun t ht=>hf t (aS _ ht)
 have h2:guardOf f e.guard=guardOf f' e.guard:=guard_congr fun t ht=>hf t (br _ ht)
 cases h with
 | op hg ho jS=>
  have e1:e7 f H e.op=e7 f' H' e.op:=by rw[C8 h1,Qs (OW (by rw[← JI h1];exact ho))]
  rw[e1]
  refine .op (h2▸hg) ?_ (KF hH.right jS)
  rw[← JI h1,← Oq (H1:=H) hH.left]
  exact ho
 | off hg=>exact .off (h2▸hg)
 | call hg hc ml hr=>
  obtain⟨a,b⟩:=Ff hc hH.left
  have e1:e7 f H e.op=e7 f' H' e.op:=by rw[← a,C8 h1]
  rw[e1]
  exact .call (h2▸hg) (by rw[← Cw h1];exact hc) (by rw[b];exact ml) hr
 | @callN g as args _ _ hg fL ha ml hr jS=>
  have hc:iw f e.op=some (g,args):=by rw[fL,ha];rfl
  obtain⟨a,b⟩:=Ff hc hH.left
  have e1:e7 f H e.op=e7 f' H' e.op:=by rw[← a,C8 h1]
  rw[e1]
  have mJ:iw f' e.op=some (g,args):=by rw[← Cw h1];exact hc
  have nL:args=as.map (ev f'):=by
   rw[fL]at mJ
   cases mJ;rfl
  exact .callN (h2▸hg) fL nL (by rw[b];exact ml) hr (KF hH.right jS)
 | @tB g as args _ v hg fL ha hS hv fy ml fj hr=>
  have hc:iw f e.op=some (g,args):=by rw[fL,ha];rfl
  obtain⟨a,b⟩:=Ff hc hH.left
  have e1:e7 f H e.op=e7 f' H' e.op:=by rw[← a,C8 h1]
  rw[e1]
  have mJ:iw f' e.op=some (g,args):=by rw[← Cw h1];exact hc
  have nL:args=as.map (ev f'):=by
   rw[fL]at mJ
   cases mJ;rfl
  have oh:(args.map (fD H' 40)).flatten=(args.map (fD H 40)).flatten:=by
   have a2:=a
   rw[fL]at a2
   simp only[e7,← ha]at a2
   exact(List.map_inj_right (fun x y h=>(Prod.mk.inj h).1)).1 a2
  have Si:rowsOf H v=rowsOf H' v:=Es (hH.right (v,none) (by simp))
  exact .tB (h2▸hg) fL nL (by rw[oh];exact hS) (by rw[oh];exact hv) (by rw[← Si];exact fy) (by rw[b];exact ml) (by rw[b];exact fj) hr
theorem Ef.fits{f:fg}{H:et}{e:eX}{n:Nat}{rc:Rc}{d:D}{δ:Dl}(h:Ef C f H e n rc d δ):Fits n δ H∧rc.W=gT n δ:=by
 cases h with
 | op _ _ hf=>exact⟨hf,rfl⟩
 | off=>exact⟨trivial,rfl⟩
 | call=>exact⟨trivial,rfl⟩
 | callN _ _ _ _ _ hf=>exact⟨hf,rfl⟩
 | tB=>exact⟨trivial,rfl⟩
def rN(a b:eX):Bool:=
 (match a.dst with|some k => !(looks b).contains k&&b.dst != some k|none=>true)&&(match b.dst with|some k => !(looks a).contains k|none=>true)
def pN(a b:Rc):Bool:=oP a.W (b.R++b.W)&&oP b.W (a.R++a.W)
theorem Od{f:fg}{dst:Option Nat}{d:D}{l:List Nat}(h:∀ k,dst=some k→k ∉ l):∀ t∈l,jL f dst d t=f t:=by
 intro t ht
 cases dst with
 | none=>rfl
 | some k=>
  simp only[jL]
  rw[if_neg]
  rintro rfl
  exact h _ rfl ht
theorem aar{f:fg}{a b:Option Nat}{x y:D}(h:∀ k,a=some k→b≠some k):jL (jL f a x) b y=jL (jL f b y) a x:=by
 cases a with
 | none=>rfl
 | some k=>
  cases b with
  | none=>rfl
  | some j=>
   have fJ:j≠k:=fun e=>h k rfl (by rw[e])
   funext t
   simp only[jL]
   by_cases h1:j=t<;>by_cases h2:k=t<;>simp[h1,h2]
   exact absurd (h1.trans h2.symm) fJ
theorem Z1{a b:eX}(h:rN a b=true):(∀ k,a.dst=some k→k ∉ looks b)∧(∀ k,b.dst=some k→k ∉ looks a)∧(∀ k,a.dst=some k→b.dst≠some k):=by
 unfold rN at h
 simp only[ah]at h
 refine⟨fun k hk=>?_,fun k hk=>?_,fun k hk=>?_⟩
 ·have:=h.1
  rw[hk]at this
  simp at this
  exact this.1
 ·have:=h.2
  rw[hk]at this
  simpa using this
 ·have:=h.1
  rw[hk]at this
  simp at this
  exact this.2
theorem swap{f:fg}{H:et}{a b:eX}{n m:Nat}{ra rb:Rc}{x y:D}{δ ε:Dl}(ha:Ef C f H a n ra x δ)(hb:Ef C (jL f a.dst x) (iZ n δ H) b m rb y ε)
  (hs:rN a b=true) (hr:pN ra rb=true) :
  Ef C f H b m rb y ε∧Ef C (jL f b.dst y) (iZ m ε H) a n ra x δ∧jL (jL f a.dst x) b.dst y=jL (jL f b.dst y) a.dst x∧iZ m ε (iZ n δ H)=iZ n δ (iZ m ε H):=by
 obtain⟨s1,s2,s3⟩:=Z1 hs
 simp only[pN,ah]at hr
 obtain⟨fa,wa⟩:=ha.fits
 have oc:Ef C f H b m rb y ε:=hb.local (Od s1) (JB fa (by rw[← wa];exact hr.1))
 obtain⟨fb,wb⟩:=oc.fits
 refine⟨oc,ha.local (fun t ht=>(Od s2 t ht).symm) fun z hz=>Oo (JB fb (by rw[← wb];exact hr.2) z hz),aar s3,aaA fa fb ?_⟩
 rw[← wa,← wb]
 simp only[oP,ao]at hr ⊢
 exact fun u hu z hz=>hr.1 u hu z (br _ hz)
theorem Hl{o:Option D}{d:D}{δ:Dl}(h:lift o=some (d,δ)):δ = .no:=by
 cases o<;>simp[lift]at h
 exact h.2.symm
theorem HV{f:fg}{H:et}{e:eX}{n:Nat}{rc:Rc}{d:D}{δ:Dl}(h:Ef C f H e n rc d δ)(hp:zl e.op=true):rc.R = []∧rc.W = []:=by
 cases h with
 | op hg ho hf=>
  cases fL:e.op<;>rw[fL]at ho hp<;>simp only[eZ]at ho<;>first|(cases hp;done)|skip
  case len k x=>
   have:=Hl ho
   subst this
   cases k<;>first|(cases hp;done)|exact⟨rfl,rfl⟩
  all_goals
   have:=Hl ho
   subst this
   exact⟨rfl,rfl⟩
 | off hg=>exact⟨rfl,rfl⟩
 | call hg hc h hr=>cases fL:e.op<;>rw[fL]at hc hp<;>first|(cases hp;done)|(cases hc;done)
 | callN _ fL=>rw[fL]at hp;cases hp
 | tB _ fL=>rw[fL]at hp;cases hp
theorem Ns{f:fg}{H:et}{e:eX}{n:Nat}{rc:Rc}{d:D}{δ:Dl}(h:Ef C f H e n rc d δ)(hp:HZ e.op=true):rc.W = []:=by
 by_cases hq:zl e.op=true
 ·exact(HV h hq).2
 ·cases h with
  | op hg ho hf=>
   cases fL:e.op<;>rw[fL]at ho hp hq<;>simp only[eZ]at ho<;>first|(cases hp;done)|(exact absurd rfl hq)|skip
   case call=>cases ho
   case callv=>cases ho
   all_goals
    have:=Hl ho
    subst this
    rfl
  | off hg=>rfl
  | call=>rfl
  | callN _ fL=>rw[fL]at hp;cases hp
  | tB _ fL=>rw[fL]at hp;cases hp
theorem N4{f f':fg}{H H':et}{a b:eX}{n m:Nat}{ra rb:Rc}{x y:D}{δ ε:Dl}(ha:Ef C f H a n ra x δ)(hb:Ef C f' H' b m rb y ε)(h:EM a.op b.op=true):pN ra rb=true:=by
 simp only[EM,bW,ah]at h
 rcases h with(h|h)|⟨h1,h2⟩
 ·obtain⟨e1,e2⟩:=HV ha h
  simp[pN,e1,e2,oP]
 ·obtain⟨e1,e2⟩:=HV hb h
  simp[pN,e1,e2,oP]
 ·simp[pN,Ns ha h1,Ns hb h2,oP]
structure kb where
 k:Nat
 e:eX
 n:Nat
 rc:Rc
inductive Tx(C:FuncId→List D→D→et→Prop):fg→et→List kb→fg→et→Prop
 | nil {f H}:Tx C f H [] f H
 | cons {f H it r d δ f' H'} (h:Ef C f H it.e it.n it.rc d δ) (t:Tx C (jL f it.e.dst d) (iZ it.n δ H) r f' H'):Tx C f H (it::r) f' H'
theorem Tx.each{f:fg}{H:et}{l:List kb}{f':fg}{H':et}(h:Tx C f H l f' H'):∀ it∈l,∃ f H d δ,Ef C f H it.e it.n it.rc d δ:=by
 induction h with
 | nil=>intro it ia;cases ia
 | cons h t ih=>
  intro it ia
  rcases ax.1 ia with rfl|ia
  ·exact⟨_,_,_,_,h⟩
  ·exact ih it ia
theorem Tx.front{it:kb}{post:List kb}{f':fg}{H':et}:∀ {pre:List kb} {f:fg} {H:et},Tx C f H (pre++it::post) f' H'→(∀ p∈pre,rN p.e it.e=true∧pN p.rc it.rc=true) →
  ∃ d δ,Ef C f H it.e it.n it.rc d δ∧Tx C (jL f it.e.dst d) (iZ it.n δ H) (pre++post) f' H'
 | [],f,H,h,_=>by
  cases h with
  | cons h t=>exact⟨_,_,h,t⟩
 | p::pre,f,H,h,ha=>by
  cases h with
  | @cons _ _ _ _ d δ _ _ h t=>
   obtain⟨y,ε,hy,ht⟩:=Tx.front (pre:=pre) t fun q hq=>ha q (by simp[hq])
   obtain⟨s1,s2,s3,s4⟩:=swap h hy (ha p (by simp)).1 (ha p (by simp)).2
   refine⟨y,ε,s1,.cons s2 ?_⟩
   rw[← s3,← s4]
   exact ht
end Go.AL
namespace Go.AL
open Go
structure SX(G:GT)(N:Nat)(c:Ctx)(w:World)(f:fg)(H:et)(ms:List Nat)(a:Act):Prop where
 eB:eP G c H w
 env:iS c w f a
 size:N≤a.tmps.size
 marks:ka c ms a.defers
section
variable{P:Program}{G:GT}{c:Ctx}{w:World}{f:fg}{H:et}{ms:List Nat}{a:Act}{N:Nat}
theorem Y7{f:fg}{a:Act}{c:Ctx}{w:World}(he:iS c w f a)(hN:N≤a.tmps.size){dst:Option Tmp}(hd:nY N dst=true){v:Value}{d:D}(hr:ew c w v d) :
  iS c w (jL f dst d) (a.put dst v):=by
 cases dst with
 | none=>exact he
 | some t=>
  have ht:t<a.tmps.size:=aH (by simpa[nY]using hd) hN
  intro k
  simp only[jL,Act.put]
  split
  ·rename_i e
   subst e
   have:(a.tmps.setIfInBounds t v).getD t undef=v:=by simp[Array.getD,ht]
   rw[this];exact hr
  ·rename_i e
   have:(a.tmps.setIfInBounds t v).getD k undef=a.tmps.getD k undef:=by
    simp only[bE,bt e]
   rw[this];exact he k
theorem SX.next{c':Ctx}{w':World}{H':et}(hs:SX G N c w f H ms a)(eB:eP G c' H' w')(eJ:Step H.length c H w c' H' w'){dst:Option Tmp}(hd:nY N dst=true)
  {v:Value} {d:D} (hr:ew c' w' v d):SX G N c' w' (jL f dst d) H' ms (a.put dst v) where
 eB:=eB
 env:=Y7 (iS.carry (fun _ _ h=>h.mA hs.eB.toHeapOK eJ) hs.env) hs.size hd hr
 size:=by rw[Np];exact hs.size
 marks:=by
  rw[put_defers]
  refine hs.marks.mono fun v L h=>eJ.old v 0 L ?_ h
  rcases aW v H.length with h'|h'
  ·exact h'
  ·rw[hs.eB.out v 0 h']at h;cases h
theorem Ot{op:fY}{n n':Nat}{d:D}{δ:Dl}(h:eZ f H n op=some (d,δ))(hn:∀ ob,δ≠.new ob):eZ f H n' op=some (d,δ):=by
 cases op<;>simp only[eZ]at h ⊢ <;> first|exact h|skip
 case box=>
  unfold mZ at h
  split at h
  ·cases h;exact absurd rfl (hn _)
  ·cases h
 case alloc=>cases h;exact absurd rfl (hn _)
 case buildSl=>
  unfold sf at h
  split at h
  ·split at h
   ·cases h;exact absurd rfl (hn _)
   ·cases h
  ·cases h
 case mkmap=>cases h;exact absurd rfl (hn _)
 case mksl=>
  unfold wv at h
  split at h
  ·split at h
   ·cases h;exact absurd rfl (hn _)
   ·cases h
  ·cases h
 case app=>
  unfold pf at h ⊢
  split at h
  ·split at h
   ·exact h
   ·rename_i m _ _ _
    by_cases hm:m=0
    ·rw[if_pos hm]at h ⊢;exact h
    ·rw[if_neg hm]at h
     split at h
     ·cases h;exact absurd rfl (hn _)
     ·cases h
   ·cases h
  ·cases h
theorem CF{d:D}(h:closed d=true):jX d=true∧iB H.length d=d:=by
 cases d<;>first|(cases h;done)|skip
 case tup ds=>
  have hc:=jM h
  refine⟨?_,?_⟩
  ·simp only[jX,qE,ao]
   intro d hd
   have:=hc d hd
   cases d<;>first|rfl|exact this
  ·simp only[iB]
   congr 1
   conv=>rhs;rw[← aQ ds]
   refine ak fun d hd=>?_
   have:=hc d hd
   cases d<;>first|(cases this;done)|rfl
 case agg ds=>
  have hc:=jM h
  refine⟨?_,?_⟩
  ·simp only[jX,qE,ao]
   intro d hd
   have:=hc d hd
   cases d<;>first|rfl|exact this
  ·simp only[iB]
   congr 1
   conv=>rhs;rw[← aQ ds]
   refine ak fun d hd=>?_
   have:=hc d hd
   cases d<;>first|(cases this;done)|rfl
 all_goals exact⟨h,rfl⟩
theorem KJ{d:D}(h:flat d=true):lV d=true∧iB H.length d=d:=by
 cases d<;>first|(cases h;done)|skip
 case tup ds=>
  have hc:∀ d∈ds,flat d=true:=fun d hd=>by
   obtain⟨i,hi⟩:=aD.1 hd
   exact vG h hi
  refine⟨?_,?_⟩
  ·simp only[lV,qE,ao]
   intro d hd
   have:=hc d hd
   cases d<;>first|rfl|exact this
  ·simp only[iB]
   congr 1
   conv=>rhs;rw[← aQ ds]
   refine ak fun d hd=>?_
   have:=hc d hd
   cases d<;>first|(cases this;done)|rfl
 case agg ds=>
  have hc:∀ d∈ds,flat d=true:=fun d hd=>by
   obtain⟨i,hi⟩:=aD.1 hd
   exact vG h hi
  refine⟨?_,?_⟩
  ·simp only[lV,qE,ao]
   intro d hd
   have:=hc d hd
   cases d<;>first|rfl|exact this
  ·simp only[iB]
   congr 1
   conv=>rhs;rw[← aQ ds]
   refine ak fun d hd=>?_
   have:=hc d hd
   cases d<;>first|(cases this;done)|rfl
 all_goals exact⟨h,rfl⟩
variable{C:FuncId→List D→D→et→Prop}
theorem Km(hC:∀ g args d Hn,C g args d Hn→nI P g=true∧rR P G g args [] d Hn)(hs:SX G N c w f H ms a){A:Array Oper}{o:Oper}{e:eX}{i:Nat}(hA:A[i]? = some o)
  (ho:qc P G N A o=some e) {n:Nat} {rc:Rc} {d:D} {δ:Dl} (hE:Ef C f H e n rc d δ) {ro:Option Nat} {m:Nat} {Q:Exit→Act→World→Prop} {K:Act→World→Prop}
  (k:∀ c' w' a',SX G N c' w' (jL f e.dst d) (iZ n δ H) ms a'→Step H.length c H w c' (iZ n δ H) w'→K a' w'):wpOpIn (FW ro) m P A Q i K a w:=by
 obtain⟨s1,s2,s3,s4⟩:=sv ho
 unfold wpOpIn
 simp only[hA]
 cases hE with
 | op hg h jS=>
  have hw:=pd hs.env s4 hg
  have s1:=J8 s1 h
  simp only[hw,if_true]
  have main:∀ {al:Al},j' H al→eZ f H al.1 e.op=some (d,δ)→δ.app H al=iZ n δ H→o.wpIn (FW ro) m P a w K Q:=by
   intro al fu h SV
   obtain⟨v,w',hy,d',H',c',⟨rfl,rfl⟩,eB,hr,eJ⟩:=Nl (P:=P) (K:=fun d' H'=>d'=d∧H'=δ.app H al) hs.eB hs.env fu s1 (JJ h ⟨rfl,rfl⟩)
   refine⟨fun _ _=>trivial,?_⟩
   rw[Oper.semAt_plain (FW ro) a.eval o (uL s1)]
   rw[SV]at eB eJ
   have hx:=hs.next eB eJ s3 hr
   rw[← s2]at hx
   have hn:=k c' w' _ hx eJ
   rw[s2]at hn
   rcases hy with hy|⟨hy,rfl⟩
   ·rw[hy];exact hn
   ·rw[hy];exact hn
  by_cases jT:∃ ob,δ = .new ob
  ·obtain⟨ob,rfl⟩:=jT
   exact main (al:=Al.jn H n) (j'.jn jS) h rfl
  ·have oi:∀ ob,δ≠.new ob:=fun ob e=>jT ⟨ob,e⟩
   refine main (al:=Al.last H) (j'.last H) (Ot h oi) ?_
   cases δ<;>first|rfl|exact absurd rfl (oi _)
 | off hg=>
  have hw:=pd hs.env s4 hg
  simp only[hw,bw,if_false]
  refine⟨fun _ _=>trivial,?_⟩
  have hx:=hs.next hs.eB (Step.refl _ _ _ _) s3 (v:=undef) (d:=.val undef) (.val _)
  rw[← s2]at hx
  have:=k c w _ hx (Step.refl _ _ _ _)
  rw[s2]at this
  exact this
 | @call g args d hg hc h hr=>
  have hw:=pd hs.env s4 hg
  have s1:=xJ s1 hc
  simp only[hw,if_true]
  obtain⟨jl,gR⟩:=hC _ _ _ _ h
  obtain⟨vs,gi,gC⟩:=Ew hs.eB hs.env s1 hc jl
  have gJ:(if eV args then jX d&&([]:et).all kU else lV d&&([]:et).all l4)=true∧iB H.length d=d:=by
   by_cases fj:eV args=true
   ·rw[if_pos fj]at hr ⊢
    obtain⟨a,b⟩:=CF (H:=H) hr
    exact⟨by simp[a],b⟩
   ·rw[if_neg fj]at hr ⊢
    obtain⟨a,b⟩:=KJ (H:=H) hr
    exact⟨by simp[a],b⟩
  have hp:=No hs.eB gC gR gJ.1
  rw[gJ.2,av]at hp
  refine⟨fun _ _=>trivial,?_⟩
  rw[Oper.semAt_plain (FW ro) a.eval o (uL s1),gi]
  refine⟨fun h=>by simp[Fence.wide]at h,xE.2 (hp.mono ?_)⟩
  rintro e' w' ⟨v,c',rfl,eB,jd,eJ⟩
  have hx:=hs.next eB eJ s3 jd
  rw[← s2]at hx
  have:=k c' w' _ hx eJ
  rw[s2]at this
  exact this
 | @callN g as args d ob hg fL ha h hr jS=>
  have hw:=pd hs.env s4 hg
  simp only[hw,if_true]
  have hc:iw f e.op=some (g,args):=by rw[fL,ha];rfl
  have s1:=xJ s1 hc
  obtain⟨jl,gR⟩:=hC _ _ _ _ h
  obtain⟨vs,gi,gC⟩:=Ew hs.eB hs.env s1 hc jl
  have hp:=Y5 hs.eB gC gR hr jS
  refine⟨fun _ _=>trivial,?_⟩
  rw[Oper.semAt_plain (FW ro) a.eval o (uL s1),gi]
  refine⟨fun h=>by simp[Fence.wide]at h,xE.2 (hp.mono ?_)⟩
  rintro e' w' ⟨v,c',rfl,eB,jd,eJ⟩
  have hx:=hs.next eB eJ s3 jd
  rw[← s2]at hx
  have:=k c' w' _ hx eJ
  rw[s2]at this
  exact this
 | @tB g as args d v hg fL ha hS hv fy h fj hr=>
  have hw:=pd hs.env s4 hg
  simp only[hw,if_true]
  have hc:iw f e.op=some (g,args):=by rw[fL,ha];rfl
  have s1:=xJ s1 hc
  obtain⟨jl,gR⟩:=hC _ _ _ _ h
  obtain⟨vs,gi,gC⟩:=Ew hs.eB hs.env s1 hc jl
  have hp:=Y4 hs.eB gC hS fy gR fj hr
  refine⟨fun _ _=>trivial,?_⟩
  rw[Oper.semAt_plain (FW ro) a.eval o (uL s1),gi]
  refine⟨fun h=>by simp[Fence.wide]at h,xE.2 (hp.mono ?_)⟩
  rintro e' w' ⟨u,c',rfl,eB,jd,eJ⟩
  have hx:=hs.next eB eJ s3 jd
  rw[← s2]at hx
  have:=k c' w' _ hx eJ
  rw[s2]at this
  exact this
