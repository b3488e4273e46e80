/- Part 4 of the proof of skewer.skewerlaw15.TableSlices. -/
import Derived.Test.YtnaefnajkaohgaaGreatDoorC03
set_option linter.all false
namespace Go.AL
open Go
section
variable{P:Program}{G:GT}{c:Ctx}{w:World}{env:EnvF}{a:Act}{N:Nat}
theorem compile_call{o:Oper}{io:IOp}(hc:compileOp P G o=some io)(h:isCall io=true):∃ cl,o.op = .call cl:=by
 unfold compileOp at hc
 split at hc
 all_goals first|exact⟨_,by assumption⟩|skip
 all_goals exfalso
 all_goals try simp only[Option.bind_eq_bind,Option.bind_eq_some_iff,Option.pure_def]at hc
 all_goals (repeat' first|(obtain⟨_,_,hc⟩:=hc)|split at hc|simp only[Option.bind_eq_some_iff]at hc)
 all_goals first|(simp[isCall]at h;done)|(cases hc<;>simp[isCall]at h)
theorem run_callee{H:Heap}(hok:HOK G c H w)(he:RepEnv c w env a){o:Oper}{io:IOp}(hc:compileOp P G o=some io){f:FuncId}{args:List D}(hcal:calleeOf env io=some (f,args))(hent:entersB P f=true) :
  ∃ vs:List Value,(execOp a.eval o).run P w = .ok (.enter f vs.toArray) w∧RepL c w vs args:=by
 have hc0:=hc
 unfold compileOp at hc
 cases ho:o.op with
 | call cl=>
  simp only[ho,Option.bind_eq_bind,Option.bind_eq_some_iff]at hc
  obtain⟨xs,hargs,hc⟩:=hc
  have hrl:=cXs_ok hok he cl.args.toList hargs
  split at hc
  ·rename_i g hcallee
   split at hc
   ·have hcal':g=f∧List.map (ev env) xs=args:=by
     cases hc
     have hb:calleeOf env (if G.nw g=true then IOp.callN g xs else IOp.call g xs)=some (g,xs.map (ev env)):=by split<;>rfl
     rw[hb]at hcal
     simpa using hcal
    obtain⟨rfl,rfl⟩:=hcal'
    refine⟨_,?_,hrl⟩
    have e:cl.args.map a.eval=(cl.args.toList.map a.eval).toArray:=by cases cl.args;simp
    simp only[execOp,ho,resolve,hcallee,Act.eval,Deferred.ofValue,Sem.run_bind,Sem.run_pure,Result.andThen_ok,invoke]
    rw[← e]
    have h2:=run_enters (P:=P) hent (cl.args.map a.eval) w
    simpa using h2
   ·cases hc
  ·rename_i x hne hcallee
   simp only[Option.bind_eq_some_iff,Option.pure_def,Option.some.injEq]at hc
   obtain⟨X,hX,rfl⟩:=hc
   simp only[calleeOf]at hcal
   split at hcal
   ·rename_i k first cap hev
    cases hcal
    have hr:=cX_ok hok he hX
    rw[hev]at hr
    generalize hv:a.eval x=v at hr
    cases hr with
    | fn _ fs cs _ _ e1 e2 e3 e4=>
     refine⟨fs++cl.args.toList.map a.eval++cs,?_,((RepL.of_get e1 e3).append hrl).append (RepL.of_get e2 e4)⟩
     simp only[execOp,ho,resolve,hcallee,hv,Deferred.ofValue,Sem.run_bind,Sem.run_pure,Result.andThen_ok,invoke]
     have h2:=run_enters (P:=P) hent (fs.toArray++cl.args.map a.eval++cs.toArray) w
     have e2:fs.toArray++cl.args.map a.eval++cs.toArray=(fs++cl.args.toList.map a.eval++cs).toArray:=by cases cl.args;simp
     rw[e2]at h2 ⊢
     exact h2
   ·cases hcal
  ·split at hc
   ·simp only[Option.bind_eq_some_iff]at hc
    obtain⟨td,_,hc⟩:=hc
    split at hc
    ·simp only[Option.bind_eq_some_iff]at hc
     obtain⟨i,_,z,_,ud,_,hc⟩:=hc
     split at hc
     ·split at hc
      ·cases hc;cases hcal
      ·cases hc
     ·cases hc
    ·cases hc
   ·cases hc
  ·split at hc
   ·simp only[Option.bind_eq_some_iff]at hc
    obtain⟨td,_,hc⟩:=hc
    split at hc
    ·simp only[Option.bind_eq_some_iff]at hc
     obtain⟨ud,_,hc⟩:=hc
     split at hc
     ·simp only[Option.bind_eq_some_iff]at hc
      obtain⟨n,_,hc⟩:=hc
      split at hc
      ·cases hc;cases hcal
      ·cases hc
     ·cases hc
    ·cases hc
   ·cases hc
  ·split at hc
   ·split at hc
    ·cases hc;cases hcal
    ·cases hc;cases hcal
    ·cases hc;cases hcal
    ·cases hc
   ·cases hc
  ·cases hc;cases hcal
  ·cases hc;cases hcal
  ·cases hc
 | _=>
  have h1:isCall io=true:=by unfold calleeOf at hcal;unfold isCall;split at hcal<;>first|rfl|cases hcal
  obtain⟨cl,h2⟩:=compile_call hc0 h1
  rw[ho]at h2
  cases h2
end
end Go.AL
namespace Go.AL
open Go
abbrev Fp:=Nat×Option (Nat×Nat)
def wholeOf:D→List Fp
 | .osl v _ _ _ _=>[(v,none)]
 | .omap v=>[(v,none)]
 | _=>[]
def cellsFp(n:Nat):D→List Fp
 | .ptr v _ o=>[(v,some (o,n))]
 | _=>[]
def fpR(f:EnvF)(H:Heap):IOp→List Fp
 | .ld1 x=>cellsFp 1 (ev f x)
 | .ldN n x=>cellsFp n (ev f x)
 | .st1 a _=>cellsFp 1 (ev f a)
 | .stN n a _=>cellsFp n (ev f a)
 | .lookup _ _ _ m _=>wholeOf (ev f m)
 | .mapUpd _ m _ _=>wholeOf (ev f m)
 | .len .map x=>wholeOf (ev f x)
 | .b2s x=>wholeOf (ev f x)
 | .app _ _ _ x y=>wholeOf (ev f x)++wholeOf (ev f y)
 | .copy _ x y=>wholeOf (ev f x)++wholeOf (ev f y)
 | .call g args=>((args.map (ev f)).map (refsD H 40)).flatten.map fun v=>(v,none)
 | .callN g args=>((args.map (ev f)).map (refsD H 40)).flatten.map fun v=>(v,none)
 | .callv g args=>match calleeOf f (.callv g args)with
  | some (_,ds)=>(ds.map (refsD H 40)).flatten.map fun v=>(v,none)
  | none=>[]
 | _=>[]
def fpW(n:Nat):Dl→List Fp
 | .no=>[]
 | .cells v o xs=>[(v,some (o,xs.length))]
 | .obj v _=>[(v,none)]
 | .new _=>[(n,none)]
def apart1:Fp→Fp→Bool
 | (v,none),(u,_)=>v != u
 | (v,some _),(u,none)=>v != u
 | (v,some (o,n)),(u,some (p,m))=>v != u||decide (o+n≤p)||decide (p+m≤o)
def apartL(a b:List Fp):Bool:=a.all fun x=>b.all fun y=>apart1 x y
def Alike(x:Fp)(H1 H2:Heap):Prop:=
 match x with
 | (v,none)=>H1[v]? = H2[v]?
 | (v,some (o,n))=>H1[v]? = H2[v]?∨∃ t g cs ds,H1[v]? = some (.row t g cs)∧H2[v]? = some (.row t g ds)∧cs.length=ds.length∧∀ i,o≤i→i<o+n→cs[i]? = ds[i]?
def AlikeL(l:List Fp)(H1 H2:Heap):Prop:=∀ x∈l,Alike x H1 H2
def usesX:X→List Nat
 | .t k=>[k]
 | .c _=>[]
def usesXs(l:List X):List Nat:=(l.map usesX).flatten
def usesO:Option X→List Nat
 | some x=>usesX x
 | none=>[]
def uses:IOp→List Nat
 | .mv x=>usesX x
 | .pick c a b=>usesX c++usesX a++usesX b
 | .box _ x=>usesX x
 | .alloc _ _=>[]
 | .build _ ps=>(ps.map fun p=>usesX p.2.2).flatten
 | .buildSl _ _ _ _ ps=>(ps.map fun p=>usesX p.2).flatten
 | .ld1 x=>usesX x
 | .ldN _ x=>usesX x
 | .st1 a x=>usesX a++usesX x
 | .stN _ a x=>usesX a++usesX x
 | .nilck x=>usesX x
 | .arith _ x y=>usesX x++usesX y
 | .eqS _ _ _ x y=>usesX x++usesX y
 | .un _ x=>usesX x
 | .conv _ x=>usesX x
 | .b2s x=>usesX x
 | .mkfn _ a b=>usesXs a++usesXs b
 | .mkmap _=>[]
 | .mksl _ _ _ _ l c=>usesX l++usesX c
 | .slc _ x lo hi=>usesX x++usesO lo++usesO hi
 | .slcS x lo hi=>usesX x++usesO lo++usesO hi
 | .fieldA _ x=>usesX x
 | .field _ _ _ x=>usesX x
 | .idxA _ x i=>usesX x++usesX i
 | .idxArr _ _ x i=>usesX x++usesX i
 | .idx _ _ _ x i=>usesX x++usesX i
 | .idxStr x i=>usesX x++usesX i
 | .lookup _ _ _ m k=>usesX m++usesX k
 | .mapUpd _ m k x=>usesX m++usesX k++usesX x
 | .ext x _=>usesX x
 | .call _ args=>usesXs args
 | .callN _ args=>usesXs args
 | .callv f args=>usesX f++usesXs args
 | .app _ _ _ x y=>usesX x++usesX y
 | .copy _ x y=>usesX x++usesX y
 | .len _ x=>usesX x
 | .minmax _ xs=>usesXs xs
 | .nilS _ x | .capE x | .clr _ _ x | .rangeS x | .nextS x | .rangeM x | .nextM x | .entry x=>usesX x
 | .appZ _ _ _ _ x n=>usesX x++usesX n
def pureOp:IOp→Bool
 | .mv _ | .pick .. | .build .. | .nilck _ | .arith .. | .eqS .. | .un .. | .conv .. | .mkfn .. | .slc .. | .slcS .. | .fieldA .. | .field .. | .idxA .. | .idxArr .. | .idx .. | .idxStr .. | .ext .. | .minmax ..
 | .len .slice _ | .len .string _=>true
 | _=>false
def readOp:IOp→Bool
 | .ld1 _ | .ldN .. | .b2s _ | .lookup .. | .len .. | .call .. | .callv .. => true
 | op=>pureOp op
def stillApart(a b:IOp):Bool:=pureOp a||pureOp b||(readOp a&&readOp b)
section
variable{f f':EnvF}
theorem ev_congr{x:X}(h:∀ t∈usesX x,f t=f' t):ev f x=ev f' x:=by
 cases x with
 | t k=>exact h k (by simp[usesX])
 | c d=>rfl
theorem evs_congr{l:List X}(h:∀ t∈usesXs l,f t=f' t):l.map (ev f)=l.map (ev f'):=
 List.map_congr_left fun x hx=>ev_congr fun t ht=>h t (List.mem_flatten.2 ⟨_,List.mem_map.2 ⟨x,hx,rfl⟩,ht⟩)
theorem parts_congr:∀ {l:List (Nat×Nat×X)},(∀ t∈(l.map fun p=>usesX p.2.2).flatten,f t=f' t)→partsOf f l=partsOf f' l
 | [],_=>rfl
 | (o,n,x)::r,h=>by
  have h1:ev f x=ev f' x:=ev_congr fun t ht=>h t (by simp[ht])
  have h2:=parts_congr (l:=r) fun t ht=>h t (by simp only[List.map_cons,List.flatten_cons,List.mem_append];exact .inr ht)
  simp only[partsOf,h1,h2]
theorem bound_congr{x:Option X}{n:Int}(h:∀ t∈usesO x,f t=f' t):boundOf f x n=boundOf f' x n:=by
 cases x with
 | none=>rfl
 | some x=>simp only[boundOf,ev_congr (x:=x) h]
theorem ints_congr:∀ {l:List X},(∀ t∈usesXs l,f t=f' t)→intsOf f l=intsOf f' l
 | [],_=>rfl
 | x::r,h=>by
  have h1:ev f x=ev f' x:=ev_congr fun t ht=>h t (by simp[usesXs,ht])
  have h2:=ints_congr (l:=r) fun t ht=>h t (by simp only[usesXs,List.map_cons,List.flatten_cons,List.mem_append];exact .inr ht)
  simp only[intsOf,h1,h2]
theorem aopO_congr{op:IOp}(h:∀ t∈uses op,f t=f' t)(H:Heap)(n:Nat):aopO f H n op=aopO f' H n op:=by
 have hx:∀ {x:X},(∀ t∈usesX x,t∈uses op)→ev f x=ev f' x:=fun hm=>ev_congr fun t ht=>h t (hm t ht)
 cases op<;>simp only[aopO]<;>first|rfl|skip
 case mv x=>rw[hx (x:=x) (fun t ht=>by simpa[uses]using ht)]
 case pick c a b=>rw[hx (x:=c) (fun t ht=>by simp[uses,ht]),hx (x:=a) (fun t ht=>by simp[uses,ht]),hx (x:=b) (fun t ht=>by simp[uses,ht])]
 case box x=>rw[hx (x:=x) (fun t ht=>by simpa[uses]using ht)]
 case build z ps=>simp only[buildO,parts_congr (f:=f) (f':=f') (l:=ps) (fun t ht=>h t (by simpa[uses]using ht))]
 case buildSl t sz z m ps=>
  have:=parts_congr (f:=f) (f':=f') (l:=ps.map fun p=>(p.1*sz,sz,p.2)) (fun t ht=>h t (by simpa[uses,List.map_map,Function.comp_def]using ht))
  simp only[buildSlO,this]
 case ld1 x=>rw[hx (x:=x) (fun t ht=>by simpa[uses]using ht)]
 case ldN n x=>rw[hx (x:=x) (fun t ht=>by simpa[uses]using ht)]
 case st1 a x=>rw[hx (x:=a) (fun t ht=>by simp[uses,ht]),hx (x:=x) (fun t ht=>by simp[uses,ht])]
 case stN n a x=>rw[hx (x:=a) (fun t ht=>by simp[uses,ht]),hx (x:=x) (fun t ht=>by simp[uses,ht])]
 case nilck x=>rw[hx (x:=x) (fun t ht=>by simpa[uses]using ht)]
 case arith op x y=>rw[hx (x:=x) (fun t ht=>by simp[uses,ht]),hx (x:=y) (fun t ht=>by simp[uses,ht])]
 case eqS b ls neg x y=>rw[hx (x:=x) (fun t ht=>by simp[uses,ht]),hx (x:=y) (fun t ht=>by simp[uses,ht])]
 case un op x=>rw[hx (x:=x) (fun t ht=>by simpa[uses]using ht)]
 case conv k x=>rw[hx (x:=x) (fun t ht=>by simpa[uses]using ht)]
 case b2s x=>rw[hx (x:=x) (fun t ht=>by simpa[uses]using ht)]
 case mkfn g a b=>rw[evs_congr (f:=f) (f':=f') (l:=a) (fun t ht=>h t (by simp[uses,ht])),evs_congr (f:=f) (f':=f') (l:=b) (fun t ht=>h t (by simp[uses,ht]))]
 case mksl t sz by' z l c=>rw[hx (x:=l) (fun t ht=>by simp[uses,ht]),hx (x:=c) (fun t ht=>by simp[uses,ht])]
 case slc sz x lo hi=>
  have e1:∀ n,boundOf f lo n=boundOf f' lo n:=fun n=>bound_congr fun t ht=>h t (by simp[uses,ht])
  have e2:∀ n,boundOf f hi n=boundOf f' hi n:=fun n=>bound_congr fun t ht=>h t (by simp[uses,ht])
  simp only[slcO,e1,e2,hx (x:=x) (fun t ht=>by simp[uses,ht])]
 case slcS x lo hi=>
  have e1:∀ n,boundOf f lo n=boundOf f' lo n:=fun n=>bound_congr fun t ht=>h t (by simp[uses,ht])
  have e2:∀ n,boundOf f hi n=boundOf f' hi n:=fun n=>bound_congr fun t ht=>h t (by simp[uses,ht])
  simp only[slcSO,e1,e2,hx (x:=x) (fun t ht=>by simp[uses,ht])]
 case fieldA o x=>rw[hx (x:=x) (fun t ht=>by simpa[uses]using ht)]
 case field o n b x=>rw[hx (x:=x) (fun t ht=>by simpa[uses]using ht)]
 case idxA sz x i=>rw[hx (x:=x) (fun t ht=>by simp[uses,ht]),hx (x:=i) (fun t ht=>by simp[uses,ht])]
 case idxArr sz n x i=>rw[hx (x:=x) (fun t ht=>by simp[uses,ht]),hx (x:=i) (fun t ht=>by simp[uses,ht])]
 case idx sz n b x i=>rw[hx (x:=x) (fun t ht=>by simp[uses,ht]),hx (x:=i) (fun t ht=>by simp[uses,ht])]
 case idxStr x i=>rw[hx (x:=x) (fun t ht=>by simp[uses,ht]),hx (x:=i) (fun t ht=>by simp[uses,ht])]
 case lookup kk z ok m k=>rw[hx (x:=m) (fun t ht=>by simp[uses,ht]),hx (x:=k) (fun t ht=>by simp[uses,ht])]
 case mapUpd kk m k x=>rw[hx (x:=m) (fun t ht=>by simp[uses,ht]),hx (x:=k) (fun t ht=>by simp[uses,ht]),hx (x:=x) (fun t ht=>by simp[uses,ht])]
 case ext x i=>rw[hx (x:=x) (fun t ht=>by simpa[uses]using ht)]
 case app t sz by' x y=>rw[hx (x:=x) (fun t ht=>by simp[uses,ht]),hx (x:=y) (fun t ht=>by simp[uses,ht])]
 case copy sz x y=>rw[hx (x:=x) (fun t ht=>by simp[uses,ht]),hx (x:=y) (fun t ht=>by simp[uses,ht])]
 case len k x=>rw[hx (x:=x) (fun t ht=>by simpa[uses]using ht)]
 case minmax b xs=>simp only[minmaxO,ints_congr (f:=f) (f':=f') (l:=xs) (fun t ht=>h t (by simpa[uses]using ht))]
end
end Go.AL
namespace Go.AL
open Go
theorem callee_congr{f f':EnvF}{op:IOp}(h:∀ t∈uses op,f t=f' t):calleeOf f op=calleeOf f' op:=by
 cases op<;>first|rfl|skip
 case call g args=>simp only[calleeOf,evs_congr (f:=f) (f':=f') (l:=args) (fun t ht=>h t (by simpa[uses]using ht))]
 case callN g args=>simp only[calleeOf,evs_congr (f:=f) (f':=f') (l:=args) (fun t ht=>h t (by simpa[uses]using ht))]
 case callv g args=>
  simp only[calleeOf,evs_congr (f:=f) (f':=f') (l:=args) (fun t ht=>h t (by simp[uses,ht])),ev_congr (f:=f) (f':=f') (x:=g) (fun t ht=>h t (by simp[uses,ht]))]
theorem fpR_congr{f f':EnvF}{op:IOp}(h:∀ t∈uses op,f t=f' t)(H:Heap):fpR f H op=fpR f' H op:=by
 have hx:∀ {x:X},(∀ t∈usesX x,t∈uses op)→ev f x=ev f' x:=fun hm=>ev_congr fun t ht=>h t (hm t ht)
 have hc:=callee_congr h
 cases op<;>simp only[fpR]<;>first|rfl|skip
 case ld1 x=>rw[hx (x:=x) (fun t ht=>by simpa[uses]using ht)]
 case ldN n x=>rw[hx (x:=x) (fun t ht=>by simpa[uses]using ht)]
 case b2s x=>rw[hx (x:=x) (fun t ht=>by simpa[uses]using ht)]
 case st1 a x=>rw[hx (x:=a) (fun t ht=>by simp[uses,ht])]
 case stN n a x=>rw[hx (x:=a) (fun t ht=>by simp[uses,ht])]
 case lookup kk z ok m k=>rw[hx (x:=m) (fun t ht=>by simp[uses,ht])]
 case mapUpd kk m k x=>rw[hx (x:=m) (fun t ht=>by simp[uses,ht])]
 case app t sz by' x y=>rw[hx (x:=x) (fun t ht=>by simp[uses,ht]),hx (x:=y) (fun t ht=>by simp[uses,ht])]
 case copy sz x y=>rw[hx (x:=x) (fun t ht=>by simp[uses,ht]),hx (x:=y) (fun t ht=>by simp[uses,ht])]
 case len k x=>cases k<;>simp only[fpR]<;>rw[hx (x:=x) (fun t ht=>by simpa[uses]using ht)]
 case call g args=>rw[evs_congr (f:=f) (f':=f') (l:=args) (fun t ht=>h t (by simpa[uses]using ht))]
 case callN g args=>rw[evs_congr (f:=f) (f':=f') (l:=args) (fun t ht=>h t (by simpa[uses]using ht))]
 case callv g args=>rw[hc]
section
variable{H1 H2:Heap}
theorem rowAt_alike{v:Nat}(h:H1[v]? = H2[v]?)(g:Nat):rowAt H1 v g=rowAt H2 v g:=by simp only[rowAt,h]
theorem mapAt_alike{v:Nat}(h:H1[v]? = H2[v]?):mapAt H1 v=mapAt H2 v:=by simp only[mapAt,h]
theorem rowAt_cells{v o n:Nat}(h:Alike (v,some (o,n)) H1 H2)(g:Nat) :
  (rowAt H1 v g=none∧rowAt H2 v g=none)∨∃ t cs ds,rowAt H1 v g=some (t,cs)∧rowAt H2 v g=some (t,ds)∧cs.length=ds.length∧∀ i,o≤i→i<o+n→cs[i]? = ds[i]? := by
 rcases h with h|⟨t,g',cs,ds,h1,h2,h3,h4⟩
 ·rw[rowAt_alike h g]
  cases hr:rowAt H2 v g with
  | none=>exact .inl ⟨rfl,rfl⟩
  | some p=>exact .inr ⟨p.1,p.2,p.2,rfl,rfl,rfl,fun _ _ _=>rfl⟩
 ·by_cases e:g'=g
  ·exact .inr ⟨t,cs,ds,by simp[rowAt,h1,e],by simp[rowAt,h2,e],h3,h4⟩
  ·exact .inl ⟨by simp[rowAt,h1,e],by simp[rowAt,h2,e]⟩
theorem sliceCells_alike{sz:Nat}{d:D}(h:AlikeL (wholeOf d) H1 H2):sliceCells sz H1 d=sliceCells sz H2 d:=by
 unfold sliceCells
 split<;>first|rfl|skip
 rename_i v g sz' off len
 have:=h (v,none) (by simp[wholeOf])
 rw[rowAt_alike this]
theorem AlikeL.left{a b:List Fp}(h:AlikeL (a++b) H1 H2):AlikeL a H1 H2:=fun x hx=>h x (List.mem_append_left _ hx)
theorem AlikeL.right{a b:List Fp}(h:AlikeL (a++b) H1 H2):AlikeL b H1 H2:=fun x hx=>h x (List.mem_append_right _ hx)
theorem aopO_local{f:EnvF}{op:IOp}(h:AlikeL (fpR f H1 op) H1 H2)(n:Nat):aopO f H1 n op=aopO f H2 n op:=by
 cases op<;>simp only[aopO]<;>first|rfl|skip
 case ld1 x=>
  congr 1
  simp only[fpR]at h
  unfold ld1O
  split<;>first|rfl|skip
  rename_i v g o hx
  rw[hx]at h
  rcases rowAt_cells (h (v,some (o,1)) (by simp[cellsFp])) g with⟨e1,e2⟩|⟨t,cs,ds,e1,e2,e3,e4⟩
  ·rw[e1,e2]
  ·rw[e1,e2];exact e4 o (Nat.le_refl _) (by omega)
 case ldN m x=>
  congr 1
  simp only[fpR]at h
  unfold ldNO
  split<;>first|rfl|skip
  rename_i v g o hx
  rw[hx]at h
  rcases rowAt_cells (h (v,some (o,m)) (by simp[cellsFp])) g with⟨e1,e2⟩|⟨t,cs,ds,e1,e2,e3,e4⟩
  ·rw[e1,e2]
  ·rw[e1,e2]
   have:(cs.drop o).take m=(ds.drop o).take m:=by
    apply List.ext_getElem?
    intro i
    simp only[List.getElem?_take,List.getElem?_drop]
    split
    ·exact e4 _ (by omega) (by omega)
    ·rfl
   simp only[e3,this]
 case st1 a x=>
  simp only[fpR]at h
  unfold st1O
  split<;>first|rfl|skip
  rename_i v g o hx
  rw[hx]at h
  rcases rowAt_cells (h (v,some (o,1)) (by simp[cellsFp])) g with⟨e1,e2⟩|⟨t,cs,ds,e1,e2,e3,e4⟩
  ·rw[e1,e2]
  ·rw[e1,e2];simp only[e3]
 case stN m a x=>
  simp only[fpR]at h
  unfold stNO
  split<;>first|rfl|skip
  rename_i v g o xs hx _
  rw[hx]at h
  rcases rowAt_cells (h (v,some (o,m)) (by simp[cellsFp])) g with⟨e1,e2⟩|⟨t,cs,ds,e1,e2,e3,e4⟩
  ·rw[e1,e2]
  ·rw[e1,e2];simp only[e3]
 case lookup kk z ok m k=>
  congr 1
  simp only[fpR]at h
  unfold lookupO
  split<;>first|rfl|skip
  rename_i v kv hx _
  rw[hx]at h
  rw[mapAt_alike (h (v,none) (by simp[wholeOf]))]
 case mapUpd kk m k x=>
  simp only[fpR]at h
  unfold mapUpdO
  split<;>first|rfl|skip
  rename_i v kv hx _
  rw[hx]at h
  rw[mapAt_alike (h (v,none) (by simp[wholeOf]))]
 case b2s x=>
  congr 1
  simp only[fpR]at h
  unfold b2sO
  rw[sliceCells_alike (sz:=1) h]
 case len k x=>
  congr 1
  unfold lenO
  split<;>first|rfl|skip
  rename_i v hx
  simp only[fpR]at h
  rw[hx]at h
  rw[mapAt_alike (h (v,none) (by simp[wholeOf]))]
 case app t sz by' x y=>
  simp only[fpR]at h
  unfold appO
  rw[sliceCells_alike (sz:=sz) h.right]
  split<;>first|rfl|skip
  split<;>first|rfl|skip
  rename_i v g sz' len hx
  rw[hx]at h
  rw[rowAt_alike (h (v,none) (by simp[wholeOf]))]
 case copy sz x y=>
  simp only[fpR]at h
  unfold copyO
  rw[sliceCells_alike (sz:=sz) h.right]
  split<;>first|rfl|skip
  rename_i v g sz' off len ys n hx _
  rw[hx]at h
  rw[rowAt_alike (h (v,none) (by simp[wholeOf]))]
theorem rowAt_rows(H:Heap)(v g:Nat):rowAt H v g=match rowsOf H v with|some (t,g',cs)=>if g'=g then some (t,cs)else none|none=>none:=by
 unfold rowAt rowsOf
 cases H[v]? with
 | none=>rfl
 | some o=>cases o<;>rfl
theorem refs_local:∀ (k:Nat) (d:D),(∀ v∈refsD H1 k d,rowsOf H1 v=rowsOf H2 v)→refsD H2 k d=refsD H1 k d∧shed (fun _=>none) H2 k d=shed (fun _=>none) H1 k d
 | 0,d,_=>⟨rfl,rfl⟩
 | k+1,d,h=>by
  have lst:∀ (ds:List D),(∀ v∈(ds.map (refsD H1 k)).flatten,rowsOf H1 v=rowsOf H2 v)→ds.map (refsD H2 k)=ds.map (refsD H1 k)∧ds.map (shed (fun _=>none) H2 k)=ds.map (shed (fun _=>none) H1 k):=by
   intro ds hds
   have h1:∀ d∈ds,∀ v∈refsD H1 k d,rowsOf H1 v=rowsOf H2 v:=fun d hd v hv=>hds v (List.mem_flatten.2 ⟨_,List.mem_map.2 ⟨d,hd,rfl⟩,hv⟩)
   exact⟨List.map_congr_left fun d hd=>(refs_local k d (h1 d hd)).1,List.map_congr_left fun d hd=>(refs_local k d (h1 d hd)).2⟩
  unfold refsD at h
  unfold refsD shed
  by_cases hc:closed d=true
  ·simp only[if_pos hc,and_self]
  ·simp only[if_neg hc]at h ⊢
   cases d with
   | agg cs=>obtain⟨a,b⟩:=lst cs h;simp only[a,b,and_self]
   | tup cs=>obtain⟨a,b⟩:=lst cs h;simp only[a,b,and_self]
   | fptr cs=>obtain⟨a,b⟩:=lst cs h;simp only[a,b,and_self]
   | sl sz es=>
    have h1:∀ e∈es,e.map (refsD H2 k)=e.map (refsD H1 k)∧e.map (shed (fun _=>none) H2 k)=e.map (shed (fun _=>none) H1 k):=fun e he=>lst e fun v hv=>h v (List.mem_flatten.2 ⟨_,List.mem_map.2 ⟨e,he,rfl⟩,hv⟩)
    have a:es.map (fun e=>(e.map (refsD H2 k)).flatten)=es.map (fun e=>(e.map (refsD H1 k)).flatten):=List.map_congr_left fun e he=>by rw[(h1 e he).1]
    have b:es.map (fun x=>x.map (shed (fun _=>none) H2 k))=es.map (fun x=>x.map (shed (fun _=>none) H1 k)):=List.map_congr_left fun e he=>(h1 e he).2
    simp only[a,b,and_self]
   | fn g x y=>
    obtain⟨a,b⟩:=lst x fun v hv=>h v (List.mem_append_left _ hv)
    obtain⟨a',b'⟩:=lst y fun v hv=>h v (List.mem_append_right _ hv)
    simp only[a,b,a',b',and_self]
   | osl v g sz off len=>
    have hv:rowsOf H1 v=rowsOf H2 v:=h v (by simp)
    simp only[rowAt_rows,← hv]
    cases hrow:rowsOf H1 v with
    | none=>exact⟨rfl,rfl⟩
    | some p=>
     obtain⟨t,g',cs⟩:=p
     obtain⟨l1,l2⟩:=lst cs fun u hu=>h u (by simp only[hrow];exact List.mem_cons_of_mem _ hu)
     refine⟨by simp only[l1],?_⟩
     by_cases hg:g'=g
     ·simp only[hg,if_true,List.map_drop,l2]
     ·simp only[if_neg hg]
   | ptr v g off=>
    have hv:rowsOf H1 v=rowsOf H2 v:=h v (by simp)
    simp only[rowAt_rows,← hv]
    cases hrow:rowsOf H1 v with
    | none=>exact⟨rfl,rfl⟩
    | some p=>
     obtain⟨t,g',cs⟩:=p
     obtain⟨l1,l2⟩:=lst cs fun u hu=>h u (by simp only[hrow];exact List.mem_cons_of_mem _ hu)
     refine⟨by simp only[l1],?_⟩
     by_cases hg:g'=g
     ·simp only[hg,if_true,List.map_drop,l2]
     ·simp only[if_neg hg]
   | _=>exact⟨rfl,rfl⟩
end
end Go.AL
namespace Go.AL
open Go
section
variable{P:Program}{G:GT}{c c2:Ctx}{H Hn:Heap}{w w2:World}{N:Nat}
theorem closedL_of{ds:List D}(h:closedL ds=true):∀ d∈ds,closed d=true:=fun d hd=>by
 obtain⟨i,hi⟩:=List.mem_iff_getElem?.1 hd
 exact closedL_get h hi
theorem shed_closed{ρ:Nat→Option Nat}{k:Nat}{d:D}(h:closed d=true):shed ρ H k d=d:=by
 cases k<;>(unfold shed;simp[h])
def Ctx.join(c c2:Ctx)(n:Nat)(F:Nat→Prop):Ctx where
 ι:=fun v g=>if v<n then c.ι v g else c2.ι (v-n) g
 F:=F
 RT:=c.RT
theorem join_lies{F:Nat→Prop}{v:Nat}{L:Loc}(h:Lies (c.join c2 H.length F) (H++Hn) v L):(v<H.length∧Lies c H v L)∨(H.length≤v∧Lies c2 Hn (v-H.length) L):=by
 obtain⟨o,ho,ha,hι⟩:=h
 rcases Nat.lt_or_ge v H.length with hv|hv
 ·rw[List.getElem?_append_left hv]at ho
  simp only[Ctx.join,if_pos hv]at hι
  exact .inl ⟨hv,o,ho,ha,hι⟩
 ·rw[List.getElem?_append_right hv]at ho
  simp only[Ctx.join,if_neg (Nat.not_lt.2 hv)]at hι
  exact .inr ⟨hv,o,ho,ha,hι⟩
structure JoinOK(G:GT)(c c2:Ctx)(H Hn:Heap)(w w2:World)(F:Nat→Prop):Prop where
 hok:HOK G c H w
 hok2:HOK G c2 Hn w2
 grew:Grew w w2
 fresh:∀ b,Owned c2 Hn b→w.heap.size≤b
 le:∀ b,c.F b→F b
 lt:∀ b,F b→b<w2.heap.size
 n1:∀ b,F b→¬ Owned c H b
 n2:∀ b,F b→¬ Owned c2 Hn b
 new:∀ b,F b→c.F b∨w.heap.size≤b
 rows:∀ (v:Nat) (o:Ob),Hn[v]? = some o→∃ t g cs,o = .row t g cs∧∀ d∈cs,∀ u,Rep c2 w2 u d→Rep (c.join c2 H.length F) w2 u d
variable{F:Nat→Prop}
theorem join_carry(j:JoinOK G c c2 H Hn w w2 F){u:Value}{d:D}(h:Rep c w u d):Rep (c.join c2 H.length F) w2 u d:=by
 refine h.carry (fun v k L hL=>?_) j.le (fun b o hF=>cell?_of_heap (j.grew.kept b (j.hok.Flt b hF)))
 have hv:v<H.length:=by
  rcases Nat.lt_or_ge v H.length with h|h
  ·exact h
  ·rw[j.hok.out v k h]at hL;cases hL
 simp only[Ctx.join,if_pos hv];exact hL
theorem join_ok(j:JoinOK G c c2 H Hn w w2 F):HOK G (c.join c2 H.length F) (H++Hn) w2 where
 inj v v' L L' h1 h2 h3 h4 he:=by
  rcases join_lies h1 with⟨a,b⟩|⟨a,b⟩<;>rcases join_lies h2 with⟨a',b'⟩|⟨a',b'⟩
  ·exact j.hok.inj v v' L L' b b' h3 h4 he
  ·have:=j.hok.lt _ ⟨v,L,b,h3,rfl⟩
   have:=j.fresh _ ⟨_,L',b',h4,rfl⟩
   omega
  ·have:=j.hok.lt _ ⟨v',L',b',h4,rfl⟩
   have:=j.fresh _ ⟨_,L,b,h3,rfl⟩
   omega
  ·have:=j.hok2.inj _ _ L L' b b' h3 h4 he
   omega
 lt b hb:=by
  obtain⟨v,L,hl,hv,e⟩:=hb
  rcases join_lies hl with⟨_,hl⟩|⟨_,hl⟩
  ·exact Nat.lt_of_lt_of_le (j.hok.lt b ⟨v,L,hl,hv,e⟩) j.grew.size
  ·exact j.hok2.lt b ⟨_,L,hl,hv,e⟩
 nF b hb hF:=by
  obtain⟨v,L,hl,hv,e⟩:=hb
  rcases join_lies hl with⟨_,hl⟩|⟨_,hl⟩
  ·exact j.n1 b hF ⟨v,L,hl,hv,e⟩
  ·exact j.n2 b hF ⟨_,L,hl,hv,e⟩
 Flt b hb:=j.lt b hb
 out v k hv:=by
  simp only[List.length_append]at hv
  simp only[Ctx.join,if_neg (show ¬ v<H.length by omega)]
  exact j.hok2.out _ k (by omega)
 fut v o k ho hk:=by
  rcases Nat.lt_or_ge v H.length with hv|hv
  ·rw[List.getElem?_append_left hv]at ho
   simp only[Ctx.join,if_pos hv]
   exact j.hok.fut v o k ho hk
  ·rw[List.getElem?_append_right hv]at ho
   simp only[Ctx.join,if_neg (Nat.not_lt.2 hv)]
   exact j.hok2.fut _ o k ho hk
 ob v o ho:=by
  rcases Nat.lt_or_ge v H.length with hv|hv
  ·rw[List.getElem?_append_left hv]at ho
   simp only[Ctx.join,if_pos hv]
   exact ObOK.keep (c:=c) (c':=c.join c2 H.length F) rfl (fun _ _ h=>join_carry j h) (fun l hl hv' hd=>j.grew.kept _ (j.hok.lt _ ⟨v,l,⟨o,ho,hd,hl⟩,hv',rfl⟩)) (j.hok.ob v o ho)
  ·rw[List.getElem?_append_right hv]at ho
   simp only[Ctx.join,if_neg (Nat.not_lt.2 hv)]
   have h0:=j.hok2.ob _ o ho
   obtain⟨t,g,cs,rfl,hr⟩:=j.rows _ o ho
   simp only[Ob.gen]at h0 ⊢
   cases hL:c2.ι (v-H.length) g with
   | none=>rw[hL]at h0;simp[ObOK]at h0
   | some L=>
    rw[hL]at h0
    simp only[ObOK]at h0 ⊢
    split
    ·rename_i hvt;simp only[hvt,if_true]at h0;exact h0
    ·rename_i hvt
     simp only[hvt]at h0
     obtain⟨arr,h1,h2,h3,h4⟩:=h0
     refine⟨arr,h1,h2,h3,fun i d hd=>?_⟩
     obtain⟨x,hx1,hx2,hx3⟩:=h4 i d hd
     exact⟨x,hx1,hx2,hr d (List.mem_of_getElem? hd) _ hx3⟩
 gl g cs hg:=by
  obtain⟨h1,h2⟩:=j.hok.gl g cs hg
  exact⟨h1,join_carry j h2⟩
 rt:=j.hok.rt
theorem join_step(j:JoinOK G c c2 H Hn w w2 F):Step H.length c H w (c.join c2 H.length F) (H++Hn) w2 where
 os:=j.grew.os
 tape:=j.grew.tape
 output:=j.grew.output
 size:=j.grew.size
 RT:=rfl
 Fm b hb:=j.le b hb
 Fn b hb:=(j.new b hb).imp id .inl
 kept b hb _:=j.grew.kept b hb
 old v k L hv h:=by simp only[Ctx.join,if_pos hv];exact h
 own b hb:=by
  obtain⟨v,L,hl,hv,e⟩:=hb
  rcases join_lies hl with⟨_,hl⟩|⟨_,hl⟩
  ·exact .inr ⟨v,L,hl,hv,e⟩
  ·exact .inl (j.fresh b ⟨_,L,hl,hv,e⟩)
theorem rep_lift1(j:JoinOK G c c2 H Hn w w2 F){p:D→Bool}(hp:∀ d u,p d=true→Rep c2 w2 u d→Rep (c.join c2 H.length F) w2 u d){u:Value}{r:D}
  (hr:Rep c2 w2 u r) (h:okResP p r=true):Rep (c.join c2 H.length F) w2 u (lift1 H.length r):=by
 have hosl:∀ v g sz off len u,Rep c2 w2 u (.osl v g sz off len)→Rep (c.join c2 H.length F) w2 u (.osl (v+H.length) g sz off len):=by
  intro v g sz off len u hr
  cases hr with
  | osl _ _ _ _ _ cap L hι hv hcap hmax htop=>exact .osl _ g sz off len cap L (by simp only[Ctx.join];rw[if_neg (by omega),Nat.add_sub_cancel];exact hι) hv hcap hmax htop
  | oslz _ _ _ _ L hι a=>exact .oslz _ g sz off L (by simp only[Ctx.join];rw[if_neg (by omega),Nat.add_sub_cancel];exact hι) a
 have h1:∀ (d:D) (u:Value),okElt p d=true→Rep c2 w2 u d→Rep (c.join c2 H.length F) w2 u (liftElt H.length d):=by
  intro d u hd hr
  cases d<;>first|exact hosl _ _ _ _ _ _ hr|exact hp _ _ hd hr
 cases r with
 | tup ds=>
  cases hr with
  | tup vs _ hl hrs=>
   simp only[lift1]
   refine .tup vs _ (by simpa using hl) fun i v d hv hd=>?_
   simp only[List.getElem?_map,Option.map_eq_some_iff]at hd
   obtain⟨d0,hd0,rfl⟩:=hd
   exact h1 d0 v (List.all_eq_true.1 h d0 (List.mem_of_getElem? hd0)) (hrs i v d0 hv hd0)
 | agg ds=>
  cases hr with
  | agg vs _ hl ho hrs=>
   simp only[lift1]
   refine .agg vs _ (by simpa using hl) ho fun i v d hv hd=>?_
   simp only[List.getElem?_map,Option.map_eq_some_iff]at hd
   obtain⟨d0,hd0,rfl⟩:=hd
   exact h1 d0 v (List.all_eq_true.1 h d0 (List.mem_of_getElem? hd0)) (hrs i v d0 hv hd0)
 | osl v g sz off len=>exact hosl _ _ _ _ _ _ hr
 | _=>exact hp _ _ h hr
def Ctx.data(c:Ctx)(F:Nat→Prop):Ctx where
 ι:=fun _ _=>none
 F:=F
 RT:=c.RT
theorem data_ok(h:HOK G c H w):HOK G (c.data c.F) [] w where
 inj v v' L L' h1:=by obtain⟨o,ho,_⟩:=h1;simp at ho
 lt b hb:=by obtain⟨v,L,⟨o,ho,_⟩,_⟩:=hb;simp at ho
 nF b hb:=by obtain⟨v,L,⟨o,ho,_⟩,_⟩:=hb;simp at ho
 Flt b hb:=h.Flt b hb
 out _ _ _:=rfl
 fut _ _ _ _ _:=rfl
 ob v o ho:=by simp at ho
 gl g cs hg:=by
  obtain⟨h1,h2⟩:=h.gl g cs hg
  exact⟨h1,Rep.closed (c:=c) (c':=c.data c.F) (fun b hb=>hb) h2 (by simpa[AL.closed]using h1)⟩
 rt:=h.rt
theorem no_owned{c:Ctx}{b:Nat}:¬ Owned c [] b:=by
 rintro⟨v,L,⟨o,ho,_⟩,_⟩
 simp at ho
theorem grew_of_step{n:Nat}{c0:Ctx}(hs:Step n c0 [] w c2 Hn w2):Grew w w2:=
 ⟨hs.os,hs.tape,hs.output,hs.size,fun b hb=>hs.kept b hb no_owned⟩
theorem closedOb_rows(h:Hn.all closedOb=true){v:Nat}{o:Ob}(ho:Hn[v]? = some o):∃ t g cs,o = .row t g cs∧∀ d∈cs,closed d=true:=by
 have:=List.all_eq_true.1 h o (List.mem_of_getElem? ho)
 cases o<;>simp only[closedOb]at this<;>first|cases this;done|skip
 exact⟨_,_,_,rfl,closedL_of this⟩
theorem flatOb_rows(h:Hn.all flatOb=true){v:Nat}{o:Ob}(ho:Hn[v]? = some o):∃ t g cs,o = .row t g cs∧∀ d∈cs,flat d=true:=by
 have:=List.all_eq_true.1 h o (List.mem_of_getElem? ho)
 cases o<;>simp only[flatOb]at this<;>first|cases this;done|skip
 refine⟨_,_,_,rfl,fun d hd=>?_⟩
 obtain⟨i,hi⟩:=List.mem_iff_getElem?.1 hd
 exact flatL_get this hi
def CallOK(P:Program)(G:GT)(f:FuncId)(args:List D)(H:Heap)(d:D)(H':Heap):Prop:=
 ∀ (c:Ctx) (w:World) (vs:List Value),HOK G c H w→RepL c w vs args →
  Calls P f vs.toArray w fun e w'=>∃ v c',e = .returned v∧HOK G c' H' w'∧Rep c' w' v d∧Step H.length c H w c' H' w'
def CallR(P:Program)(G:GT)(f:FuncId)(args:List D)(H:Heap)(R:D→Heap→Prop):Prop:=
 ∀ (c:Ctx) (w:World) (vs:List Value),HOK G c H w→RepL c w vs args →
  Calls P f vs.toArray w fun e w'=>∃ v c' d H',e = .returned v∧R d H'∧H.length≤H'.length∧HOK G c' H' w'∧Rep c' w' v d∧Step H.length c H w c' H' w'
theorem CallR.one{f:FuncId}{args:List D}{H:Heap}{R:D→Heap→Prop}{d:D}{H':Heap}(h:CallR P G f args H R)(h1:∀ d' Hn,R d' Hn→d'=d∧Hn=H'):CallOK P G f args H d H':=
 fun c w vs h2 h3=>(h c w vs h2 h3).mono fun _ _ ⟨v,c',_,_,he,hR,_,a,b,e⟩=>by
  obtain⟨rfl,rfl⟩:=h1 _ _ hR
  exact⟨v,c',he,a,b,e⟩
theorem shed_none:shed (fun _=>none) H 40=shed (rho []) H 40:=rfl
theorem RepL.map{c c':Ctx}{f:D→D}(hr:∀ v d,Rep c w v d→Rep c' w v (f d)){vs:List Value}{ds:List D}(h:RepL c w vs ds):RepL c' w vs (ds.map f):=by
 induction h with
 | nil=>exact .nil
 | cons h _ ih=>exact .cons (hr _ _ h) ih
theorem pure_ok(hok:HOK G c H w){f:FuncId}{vs:List Value}{args:List D}{d:D}(hr:RepL c w vs args)(hcall:CallOK P G f (args.map (shed (fun _=>none) H 40)) [] d Hn)
  (hc:(if closedL args then okRes d&&Hn.all closedOb else okFlat d&&Hn.all flatOb)=true) :
  Calls P f vs.toArray w fun e w'=>∃ v c',e = .returned v∧HOK G c' (H++Hn) w'∧Rep c' w' v (lift1 H.length d)∧Step H.length c H w c' (H++Hn) w':=by
 by_cases hcl:closedL args=true
 ·rw[if_pos hcl]at hc
  simp only[Bool.and_eq_true]at hc
  have e:args.map (shed (fun _=>none) H 40)=args:=by
   conv=>rhs;rw[← List.map_id args]
   exact List.map_congr_left fun d hd=>shed_closed (closedL_of hcl d hd)
  rw[e]at hcall
  have hr0:RepL (c.data c.F) w vs args:=by
   clear hcall hc e
   induction hr with
   | nil=>exact .nil
   | cons h _ ih=>
    simp only[closedL,Bool.and_eq_true]at hcl
    exact .cons (Rep.closed (c:=c) (c':=c.data c.F) (fun b hb=>hb) h hcl.1) (ih hcl.2)
  refine(hcall _ w vs (data_ok hok) hr0).mono ?_
  rintro e w' ⟨v,c2,he,h2,hv,hst⟩
  have hg:=grew_of_step hst
  have hF:∀ b,c2.F b→c.F b∨w.heap.size≤b:=fun b hb=>by
   rcases hst.Fn b hb with h|h|h
   ·exact .inl h
   ·exact .inr h
   ·exact absurd h no_owned
  have j:JoinOK G c c2 H Hn w w' c2.F:={
   hok:=hok
   hok2:=h2
   grew:=hg
   fresh:=fun b hb=>by
    rcases hst.own b hb with h|h
    ·exact h
    ·exact absurd h no_owned
   le:=fun b hb=>hst.Fm b hb
   lt:=h2.Flt
   n1:=fun b hb ho=>by
    rcases hF b hb with h|h
    ·exact hok.nF b ho h
    ·have:=hok.lt b ho;omega
   n2:=fun b hb ho=>h2.nF b ho hb
   new:=hF
   rows:=fun v o ho=>by
    obtain⟨t,g,cs,rfl,hcs⟩:=closedOb_rows hc.2 ho
    exact⟨t,g,cs,rfl,fun d hd u hu=>Rep.closed (c:=c2) (c':=c.join c2 H.length c2.F) (fun b hb=>hb) hu (hcs d hd)⟩ }
  exact⟨v,_,he,join_ok j,rep_lift1 j (p:=AL.closed) (fun d u hd hu=>Rep.closed (c:=c2) (c':=c.join c2 H.length c2.F) (fun b hb=>hb) hu hd) hv hc.1,join_step j⟩
 ·rw[if_neg hcl]at hc
  simp only[Bool.and_eq_true]at hc
  have hr0:RepL (c.shed [] H) w vs (args.map (shed (fun _=>none) H 40)):=hr.map fun v d h=>by
   rw[shed_none];exact rep_shed hok 40 h
  have hok0:HOK G (c.shed [] H) [] w:=shed_ok (ks:=[]) hok (fun i j p q hp=>by simp at hp)
  refine(hcall _ w vs hok0 hr0).mono ?_
  rintro e w' ⟨v,c2,he,h2,hv,hst⟩
  have hg:=grew_of_step hst
  have j:JoinOK G c c2 H Hn w w' c.F:={
   hok:=hok
   hok2:=h2
   grew:=hg
   fresh:=fun b hb=>by
    rcases hst.own b hb with h|h
    ·exact h
    ·exact absurd h no_owned
   le:=fun b hb=>hb
   lt:=fun b hb=>Nat.lt_of_lt_of_le (hok.Flt b hb) hg.size
   n1:=fun b hb ho=>hok.nF b ho hb
   n2:=fun b hb ho=>by
    rcases hst.own b ho with h|h
    ·have:=hok.Flt b hb;omega
    ·exact absurd h no_owned
   new:=fun b hb=>.inl hb
   rows:=fun v o ho=>by
    obtain⟨t,g,cs,rfl,hcs⟩:=flatOb_rows hc.2 ho
    exact⟨t,g,cs,rfl,fun d hd u hu=>Rep.flat hu (hcs d hd)⟩ }
  exact⟨v,_,he,join_ok j,rep_lift1 j (p:=AL.flat) (fun d u hd hu=>Rep.flat hu hd) hv hc.1,join_step j⟩
theorem pure_okR(hok:HOK G c H w){f:FuncId}{vs:List Value}{args:List D}{R:D→Heap→Prop}(hr:RepL c w vs args)(hcall:CallR P G f (args.map (shed (fun _=>none) H 40)) [] R)
  (hc:∀ d Hn,R d Hn→(if closedL args then okRes d&&Hn.all closedOb else okFlat d&&Hn.all flatOb)=true) :
  Calls P f vs.toArray w fun e w'=>∃ v c' d Hn,e = .returned v∧R d Hn∧HOK G c' (H++Hn) w'∧Rep c' w' v (lift1 H.length d)∧Step H.length c H w c' (H++Hn) w':=by
 by_cases hcl:closedL args=true
 ·simp only[if_pos hcl,Bool.and_eq_true]at hc
  have e:args.map (shed (fun _=>none) H 40)=args:=by
   conv=>rhs;rw[← List.map_id args]
   exact List.map_congr_left fun d hd=>shed_closed (closedL_of hcl d hd)
  rw[e]at hcall
  have hr0:RepL (c.data c.F) w vs args:=by
   clear hcall hc e
   induction hr with
   | nil=>exact .nil
   | cons h _ ih=>
    simp only[closedL,Bool.and_eq_true]at hcl
    exact .cons (Rep.closed (c:=c) (c':=c.data c.F) (fun b hb=>hb) h hcl.1) (ih hcl.2)
  refine(hcall _ w vs (data_ok hok) hr0).mono ?_
  rintro e w' ⟨v,c2,d,Hn,he,hR,_,h2,hv,hst⟩
  have hc:=hc d Hn hR
  have hg:=grew_of_step hst
  have hF:∀ b,c2.F b→c.F b∨w.heap.size≤b:=fun b hb=>by
   rcases hst.Fn b hb with h|h|h
   ·exact .inl h
   ·exact .inr h
   ·exact absurd h no_owned
  have j:JoinOK G c c2 H Hn w w' c2.F:={
   hok:=hok
   hok2:=h2
   grew:=hg
   fresh:=fun b hb=>by
    rcases hst.own b hb with h|h
    ·exact h
    ·exact absurd h no_owned
   le:=fun b hb=>hst.Fm b hb
   lt:=h2.Flt
   n1:=fun b hb ho=>by
    rcases hF b hb with h|h
    ·exact hok.nF b ho h
    ·have:=hok.lt b ho;omega
   n2:=fun b hb ho=>h2.nF b ho hb
   new:=hF
   rows:=fun v o ho=>by
    obtain⟨t,g,cs,rfl,hcs⟩:=closedOb_rows hc.2 ho
    exact⟨t,g,cs,rfl,fun d hd u hu=>Rep.closed (c:=c2) (c':=c.join c2 H.length c2.F) (fun b hb=>hb) hu (hcs d hd)⟩ }
  exact⟨v,_,d,Hn,he,hR,join_ok j,rep_lift1 j (p:=AL.closed) (fun d u hd hu=>Rep.closed (c:=c2) (c':=c.join c2 H.length c2.F) (fun b hb=>hb) hu hd) hv hc.1,join_step j⟩
 ·simp only[if_neg hcl,Bool.and_eq_true]at hc
  have hr0:RepL (c.shed [] H) w vs (args.map (shed (fun _=>none) H 40)):=hr.map fun v d h=>by
   rw[shed_none];exact rep_shed hok 40 h
  have hok0:HOK G (c.shed [] H) [] w:=shed_ok (ks:=[]) hok (fun i j p q hp=>by simp at hp)
  refine(hcall _ w vs hok0 hr0).mono ?_
  rintro e w' ⟨v,c2,d,Hn,he,hR,_,h2,hv,hst⟩
  have hc:=hc d Hn hR
  have hg:=grew_of_step hst
  have j:JoinOK G c c2 H Hn w w' c.F:={
   hok:=hok
   hok2:=h2
   grew:=hg
   fresh:=fun b hb=>by
    rcases hst.own b hb with h|h
    ·exact h
    ·exact absurd h no_owned
   le:=fun b hb=>hb
   lt:=fun b hb=>Nat.lt_of_lt_of_le (hok.Flt b hb) hg.size
   n1:=fun b hb ho=>hok.nF b ho hb
   n2:=fun b hb ho=>by
    rcases hst.own b ho with h|h
    ·have:=hok.Flt b hb;omega
    ·exact absurd h no_owned
   new:=fun b hb=>.inl hb
   rows:=fun v o ho=>by
    obtain⟨t,g,cs,rfl,hcs⟩:=flatOb_rows hc.2 ho
    exact⟨t,g,cs,rfl,fun d hd u hu=>Rep.flat hu (hcs d hd)⟩ }
  exact⟨v,_,d,Hn,he,hR,join_ok j,rep_lift1 j (p:=AL.flat) (fun d u hd hu=>Rep.flat hu hd) hv hc.1,join_step j⟩
def Ctx.put1(c c2:Ctx)(n:Nat)(F:Nat→Prop):Ctx where
 ι:=fun v g=>if v=n then c2.ι 0 g else c.ι v g
 F:=F
 RT:=c.RT
theorem put1_lies{n:Nat}{ob:Ob}(hn:H[n]? = some .hole){F:Nat→Prop}{v:Nat}{L:Loc}(h:Lies (c.put1 c2 n F) (H.set n ob) v L):(v≠n∧Lies c H v L)∨(v=n∧Lies c2 [ob] 0 L):=by
 obtain⟨o,ho,ha,hι⟩:=h
 rw[set_get (List.getElem?_eq_some_iff.1 hn).1]at ho
 by_cases hv:v=n
 ·subst hv
  rw[if_pos rfl]at ho
  cases ho
  simp only[Ctx.put1,if_true]at hι
  exact .inr ⟨rfl,ob,rfl,ha,hι⟩
 ·rw[if_neg hv]at ho
  simp only[Ctx.put1,if_neg hv]at hι
  exact .inl ⟨hv,o,ho,ha,hι⟩
theorem pure_hole(hok:HOK G c H w){f:FuncId}{vs:List Value}{args:List D}{d:D}{ob:Ob}{n:Nat}(hr:RepL c w vs args)(hcall:CallOK P G f (args.map (shed (fun _=>none) H 40)) [] d [ob])
  (hc:(if closedL args then okRes d&&closedOb ob else okFlat d&&flatOb ob)=true) (hn:H[n]? = some .hole) :
  Calls P f vs.toArray w fun e w'=>∃ v c',e = .returned v∧HOK G c' (H.set n ob) w'∧Rep c' w' v (lift1 n d)∧Step H.length c H w c' (H.set n ob) w':=by
 have hlt:=(List.getElem?_eq_some_iff.1 hn).1
 have hcn:∀ k,c.ι n k=none:=fun k=>hok.fut n _ k hn (.inl rfl)
 have main:∀ (c2:Ctx) (w':World) (v:Value) (F:Nat→Prop),HOK G c2 [ob] w'→Rep c2 w' v d→Grew w w'→(∀ b,Owned c2 [ob] b→w.heap.size≤b)→(∀ b,c.F b→F b)→(∀ b,F b→b<w'.heap.size) →
   (∀ b,F b→¬ Owned c H b)→(∀ b,F b→¬ Owned c2 [ob] b)→(∀ b,F b→c.F b∨w.heap.size≤b)→∀ (p:D→Bool),(∀ d u,p d=true→Rep c2 w' u d→Rep (c.put1 c2 n F) w' u d)→okResP p d=true →
   (∃ t g cs,ob = .row t g cs∧∀ d∈cs,p d=true) →
   HOK G (c.put1 c2 n F) (H.set n ob) w'∧Rep (c.put1 c2 n F) w' v (lift1 n d)∧Step H.length c H w (c.put1 c2 n F) (H.set n ob) w':=by
  intro c2 w' v F hok2 hv hg hfresh hle hltF hn1 hn2 hnew p hp hd hob
  have carry:∀ {u:Value} {d:D},Rep c w u d→Rep (c.put1 c2 n F) w' u d:=fun h=>by
   refine h.carry (fun v k L hL=>?_) hle (fun b o hF=>cell?_of_heap (hg.kept b (hok.Flt b hF)))
   have hne:v≠n:=fun e=>by rw[e,hcn]at hL;cases hL
   simp only[Ctx.put1,if_neg hne];exact hL
  have hosl:∀ v g sz off len u,Rep c2 w' u (.osl v g sz off len)→(v=0)→Rep (c.put1 c2 n F) w' u (.osl (v+n) g sz off len):=by
   intro v g sz off len u hr h0
   subst h0
   cases hr with
   | osl _ _ _ _ _ cap L hι hv hcap hmax htop=>exact .osl _ g sz off len cap L (by simp only[Ctx.put1,Nat.zero_add,if_true];exact hι) hv hcap hmax htop
   | oslz _ _ _ _ L hι a=>exact .oslz _ g sz off L (by simp only[Ctx.put1,Nat.zero_add,if_true];exact hι) a
  have hz:∀ v g sz off len u,Rep c2 w' u (.osl v g sz off len)→v=0:=by
   intro v g sz off len u hr
   have:∃ L,c2.ι v g=some L:=by
    cases hr with
    | osl _ _ _ _ _ cap L hι=>exact⟨L,hι⟩
    | oslz _ _ _ _ L hι=>exact⟨L,hι⟩
   obtain⟨L,hL⟩:=this
   rcases Nat.eq_zero_or_pos v with h|h
   ·exact h
   ·rw[hok2.out v g (by show 1≤v;exact h)]at hL;cases hL
  have h1:∀ (d:D) (u:Value),okElt p d=true→Rep c2 w' u d→Rep (c.put1 c2 n F) w' u (liftElt n d):=by
   intro d u hd hr
   cases d<;>first|exact hosl _ _ _ _ _ _ hr (hz _ _ _ _ _ _ hr)|exact hp _ _ hd hr
  refine⟨{
   inj:=fun v v' L L' h1 h2 h3 h4 he=>by
    rcases put1_lies hn h1 with⟨a,b⟩|⟨a,b⟩<;>rcases put1_lies hn h2 with⟨a',b'⟩|⟨a',b'⟩
    ·exact hok.inj v v' L L' b b' h3 h4 he
    ·have:=hok.lt _ ⟨v,L,b,h3,rfl⟩
     have:=hfresh _ ⟨_,L',b',h4,rfl⟩
     omega
    ·have:=hok.lt _ ⟨v',L',b',h4,rfl⟩
     have:=hfresh _ ⟨_,L,b,h3,rfl⟩
     omega
    ·rw[a,a']
   lt:=fun b hb=>by
    obtain⟨v,L,hl,hv,e⟩:=hb
    rcases put1_lies hn hl with⟨_,hl⟩|⟨_,hl⟩
    ·exact Nat.lt_of_lt_of_le (hok.lt b ⟨v,L,hl,hv,e⟩) hg.size
    ·exact hok2.lt b ⟨_,L,hl,hv,e⟩
   nF:=fun b hb hF=>by
    obtain⟨v,L,hl,hv,e⟩:=hb
    rcases put1_lies hn hl with⟨_,hl⟩|⟨_,hl⟩
    ·exact hn1 b hF ⟨v,L,hl,hv,e⟩
    ·exact hn2 b hF ⟨_,L,hl,hv,e⟩
   Flt:=hltF
   out:=fun v k hv=>by
    simp only[List.length_set]at hv
    simp only[Ctx.put1,if_neg (show ¬ v=n by omega)]
    exact hok.out _ k hv
   fut:=fun v o k ho hk=>by
    rw[set_get hlt]at ho
    by_cases hv:v=n
    ·subst hv
     rw[if_pos rfl]at ho
     cases ho
     simp only[Ctx.put1,if_true]
     exact hok2.fut 0 _ k rfl hk
    ·rw[if_neg hv]at ho
     simp only[Ctx.put1,if_neg hv]
     exact hok.fut v o k ho hk
   ob:=fun v o ho=>by
    rw[set_get hlt]at ho
    by_cases hv:v=n
    ·subst hv
     rw[if_pos rfl]at ho
     cases ho
     simp only[Ctx.put1,if_true]
     have h0:=hok2.ob 0 _ rfl
     obtain⟨t,g,cs,rfl,hcs⟩:=hob
     simp only[Ob.gen]at h0 ⊢
     cases hL:c2.ι 0 g with
     | none=>rw[hL]at h0;simp[ObOK]at h0
     | some L=>
      rw[hL]at h0
      simp only[ObOK]at h0 ⊢
      split
      ·rename_i hvt;simp only[hvt,if_true]at h0;exact h0
      ·rename_i hvt
       simp only[hvt]at h0
       obtain⟨arr,h1,h2,h3,h4⟩:=h0
       refine⟨arr,h1,h2,h3,fun i d hd=>?_⟩
       obtain⟨x,hx1,hx2,hx3⟩:=h4 i d hd
       exact⟨x,hx1,hx2,hp d _ (hcs d (List.mem_of_getElem? hd)) hx3⟩
    ·rw[if_neg hv]at ho
     simp only[Ctx.put1,if_neg hv]
     exact ObOK.keep (c:=c) (c':=c.put1 c2 n F) rfl (fun _ _ h=>carry h) (fun l hl hv' hd=>hg.kept _ (hok.lt _ ⟨v,l,⟨o,ho,hd,hl⟩,hv',rfl⟩)) (hok.ob v o ho)
   gl:=fun g cs hg=>by
    obtain⟨h1,h2⟩:=hok.gl g cs hg
    exact⟨h1,carry h2⟩
   rt:=hok.rt },?_,?_⟩
  ·cases d with
   | tup ds=>
    cases hv with
    | tup vs _ hl hrs=>
     simp only[lift1]
     refine .tup vs _ (by simpa using hl) fun i v d hv hd'=>?_
     simp only[List.getElem?_map,Option.map_eq_some_iff]at hd'
     obtain⟨d0,hd0,rfl⟩:=hd'
     exact h1 d0 v (List.all_eq_true.1 hd d0 (List.mem_of_getElem? hd0)) (hrs i v d0 hv hd0)
   | agg ds=>
    cases hv with
    | agg vs _ hl ho hrs=>
     simp only[lift1]
     refine .agg vs _ (by simpa using hl) ho fun i v d hv hd'=>?_
     simp only[List.getElem?_map,Option.map_eq_some_iff]at hd'
     obtain⟨d0,hd0,rfl⟩:=hd'
     exact h1 d0 v (List.all_eq_true.1 hd d0 (List.mem_of_getElem? hd0)) (hrs i v d0 hv hd0)
   | osl v g sz off len=>exact hosl _ _ _ _ _ _ hv (hz _ _ _ _ _ _ hv)
   | _=>exact hp _ _ hd hv
  ·exact{
    os:=hg.os
    tape:=hg.tape
    output:=hg.output
    size:=hg.size
    RT:=rfl
    Fm:=hle
    Fn:=fun b hb=>(hnew b hb).imp id .inl
    kept:=fun b hb _=>hg.kept b hb
    old:=fun v k L hv h=>by
     have hne:v≠n:=fun e=>by rw[e,hcn]at h;cases h
     simp only[Ctx.put1,if_neg hne];exact h
    own:=fun b hb=>by
     obtain⟨v,L,hl,hv,e⟩:=hb
     rcases put1_lies hn hl with⟨_,hl⟩|⟨_,hl⟩
     ·exact .inr ⟨v,L,hl,hv,e⟩
     ·exact .inl (hfresh b ⟨_,L,hl,hv,e⟩) }
 by_cases hcl:closedL args=true
 ·simp only[if_pos hcl,Bool.and_eq_true]at hc
  have e:args.map (shed (fun _=>none) H 40)=args:=by
   conv=>rhs;rw[← List.map_id args]
   exact List.map_congr_left fun d hd=>shed_closed (closedL_of hcl d hd)
  rw[e]at hcall
  have hr0:RepL (c.data c.F) w vs args:=by
   clear hcall hc e
   induction hr with
   | nil=>exact .nil
   | cons h _ ih=>
    simp only[closedL,Bool.and_eq_true]at hcl
    exact .cons (Rep.closed (c:=c) (c':=c.data c.F) (fun b hb=>hb) h hcl.1) (ih hcl.2)
  refine(hcall _ w vs (data_ok hok) hr0).mono ?_
  rintro e w' ⟨v,c2,he,h2,hv,hst⟩
  have hg:=grew_of_step hst
  have hF:∀ b,c2.F b→c.F b∨w.heap.size≤b:=fun b hb=>by
   rcases hst.Fn b hb with h|h|h
   ·exact .inl h
   ·exact .inr h
   ·exact absurd h no_owned
  obtain⟨m1,m2,m3⟩:=main c2 w' v c2.F h2 hv hg (fun b hb=>by
    rcases hst.own b hb with h|h
    ·exact h
    ·exact absurd h no_owned) (fun b hb=>hst.Fm b hb) h2.Flt (fun b hb ho=>by
    rcases hF b hb with h|h
    ·exact hok.nF b ho h
    ·have:=hok.lt b ho;omega) (fun b hb ho=>h2.nF b ho hb) hF AL.closed (fun d u hd hu=>Rep.closed (c:=c2) (c':=c.put1 c2 n c2.F) (fun b hb=>hb) hu hd) hc.1 (by
    have:=hc.2
    cases ob<;>simp only[closedOb]at this<;>first|(cases this;done)|skip
    exact⟨_,_,_,rfl,closedL_of this⟩)
  exact⟨v,_,he,m1,m2,m3⟩
 ·simp only[if_neg hcl,Bool.and_eq_true]at hc
  have hr0:RepL (c.shed [] H) w vs (args.map (shed (fun _=>none) H 40)):=hr.map fun v d h=>by
   rw[shed_none];exact rep_shed hok 40 h
  have hok0:HOK G (c.shed [] H) [] w:=shed_ok (ks:=[]) hok (fun i j p q hp=>by simp at hp)
  refine(hcall _ w vs hok0 hr0).mono ?_
  rintro e w' ⟨v,c2,he,h2,hv,hst⟩
  have hg:=grew_of_step hst
  obtain⟨m1,m2,m3⟩:=main c2 w' v c.F h2 hv hg (fun b hb=>by
    rcases hst.own b hb with h|h
    ·exact h
    ·exact absurd h no_owned) (fun b hb=>hb) (fun b hb=>Nat.lt_of_lt_of_le (hok.Flt b hb) hg.size) (fun b hb ho=>hok.nF b ho hb) (fun b hb ho=>by
    rcases hst.own b ho with h|h
    ·have:=hok.Flt b hb;omega
    ·exact absurd h no_owned) (fun b hb=>.inl hb) AL.flat (fun d u hd hu=>Rep.flat hu hd) hc.1 (by
    have:=hc.2
    cases ob<;>simp only[flatOb]at this<;>first|(cases this;done)|skip
    refine⟨_,_,_,rfl,fun d hd=>?_⟩
    obtain⟨i,hi⟩:=List.mem_iff_getElem?.1 hd
    exact flatL_get this hi)
  exact⟨v,_,he,m1,m2,m3⟩
theorem rho_freeze{S:List Nat}{v:Nat}(hv:v∈S):rho (freezeKs H S) v=none:=by
 unfold rho freezeKs
 rw[List.findIdx?_eq_none_iff]
 intro p hp
 obtain⟨u,_,rfl⟩:=List.mem_map.1 hp
 by_cases hu:u=v
 ·subst hu;simp[hv]
 ·simp[hu]
theorem shed_only{v:Nat}:∀ (k:Nat) (d:D),(∀ u∈refsD H k d,u=v)→AL.shed (rho (freezeKs H [v])) H k d=AL.shed (fun _=>none) H k d
 | 0,d,_=>rfl
 | k+1,d,h=>by
  have hv:rho (freezeKs H [v]) v=none:=rho_freeze (by simp)
  have lst:∀ (ds:List D),(∀ u∈(ds.map (refsD H k)).flatten,u=v)→ds.map (AL.shed (rho (freezeKs H [v])) H k)=ds.map (AL.shed (fun _=>none) H k):=fun ds hds=>
   List.map_congr_left fun d hd=>shed_only k d fun u hu=>hds u (List.mem_flatten.2 ⟨_,List.mem_map.2 ⟨d,hd,rfl⟩,hu⟩)
  unfold refsD at h
  unfold AL.shed
  by_cases hc:AL.closed d=true
  ·simp only[if_pos hc]
  ·simp only[if_neg hc]at h ⊢
   cases d with
   | agg cs=>simp only[lst cs h]
   | tup cs=>simp only[lst cs h]
   | fptr cs=>simp only[lst cs h]
   | sl sz es=>
    have:es.map (fun x=>x.map (AL.shed (rho (freezeKs H [v])) H k))=es.map (fun x=>x.map (AL.shed (fun _=>none) H k)):=List.map_congr_left fun e he=>lst e fun u hu=>h u (List.mem_flatten.2 ⟨_,List.mem_map.2 ⟨e,he,rfl⟩,hu⟩)
    simp only[this]
   | fn g x y=>
    have h1:=lst x fun u hu=>h u (List.mem_append_left _ hu)
    have h2:=lst y fun u hu=>h u (List.mem_append_right _ hu)
    simp only[h1,h2]
   | osl u g sz off len=>
    have hu:u=v:=h u (by simp)
    subst hu
    simp only[hv]
    cases hrow:rowsOf H u with
    | none=>simp only[rowAt_rows,hrow]
    | some p=>
     obtain⟨t,g',cs⟩:=p
     simp only[rowAt_rows,hrow]
     by_cases hg:g'=g
     ·simp only[hg,if_true]
      have:=lst (cs.drop (off*sz)) fun w hw=>by
       obtain⟨l,hl,hwl⟩:=List.mem_flatten.1 hw
       obtain⟨d,hd,rfl⟩:=List.mem_map.1 hl
       exact h w (by simp only[hrow];exact List.mem_cons_of_mem _ (List.mem_flatten.2 ⟨_,List.mem_map.2 ⟨d,List.mem_of_mem_drop hd,rfl⟩,hwl⟩))
      rw[this]
     ·simp only[if_neg hg]
   | ptr u g off=>
    have hu:u=v:=h u (by simp)
    subst hu
    simp only[hv]
    cases hrow:rowsOf H u with
    | none=>simp only[rowAt_rows,hrow]
    | some p=>
     obtain⟨t,g',cs⟩:=p
     simp only[rowAt_rows,hrow]
     by_cases hg:g'=g
     ·simp only[hg,if_true]
      have:=lst (cs.drop off) fun w hw=>by
       obtain⟨l,hl,hwl⟩:=List.mem_flatten.1 hw
       obtain⟨d,hd,rfl⟩:=List.mem_map.1 hl
       exact h w (by simp only[hrow];exact List.mem_cons_of_mem _ (List.mem_flatten.2 ⟨_,List.mem_map.2 ⟨d,List.mem_of_mem_drop hd,rfl⟩,hwl⟩))
      rw[this]
     ·simp only[if_neg hg]
   | omap u=>
    have hu:u=v:=h u (by simp)
    subst hu
    simp only[hv]
   | yld u=>
    have hu:u=v:=h u (by simp)
    subst hu
    simp only[hv]
   | _=>rfl
theorem kill_freeze(h:HOK G c H w){v:Nat}{t:TypeId}{g:Nat}{cs:List D}(hv:H[v]? = some (.row t g cs)) :
  ∃ c',HOK G c' (H.set v .dead) w∧Step H.length c H w c' (H.set v .dead) w∧(∀ u d,Rep c w u d→Rep c' w u d)∧∀ b,(c.shed (freezeKs H [v]) H).F b→c'.F b:=by
 have hlt:=(List.getElem?_eq_some_iff.1 hv).1
 have hL:∀ c':Ctx,(∀ u k,c'.ι u k=c.ι u k)→∀ u l,Lies c' (H.set v .dead) u l→u≠v∧Lies c H u l:=by
  rintro c' hι u l ⟨o,ho,hal,hi⟩
  rw[set_get hlt]at ho
  split at ho
  ·cases ho;cases hal
  ·rename_i hne;exact⟨hne,o,ho,hal,by rw[← hι];exact hi⟩
 let c':Ctx:={ c with F:=fun b=>c.F b∨∃ L,c.ι v g=some L∧L.virt=false∧L.b=b }
 have hι:∀ u k,c'.ι u k=c.ι u k:=fun _ _=>rfl
 have hr:∀ u d,Rep c w u d→Rep c' w u d:=fun u d hd=>Rep.carry (c:=c) (c':=c') (w:=w) (w':=w) (fun _ _ _ h=>h) (fun b hb=>Or.inl hb) (fun _ _ _=>rfl) hd
 have hOw:∀ b,Owned c' (H.set v .dead) b→Owned c H b:=fun b ⟨u,l,hl,r⟩=>⟨u,l,(hL c' hι u l hl).2,r⟩
 refine⟨c',{
  inj:=fun u u' l l' h1 h2=>h.inj u u' l l' (hL c' hι _ _ h1).2 (hL c' hι _ _ h2).2
  lt:=fun b hb=>h.lt b (hOw b hb)
  nF:=fun b hb hF=>by
   obtain⟨u,l,hl,hvl,e⟩:=hb
   obtain⟨hne,hl'⟩:=hL c' hι u l hl
   rcases hF with hF|⟨L,hLv,hvirt,eL⟩
   ·exact h.nF b ⟨u,l,hl',hvl,e⟩ hF
   ·exact hne (h.inj u v l L hl' ⟨_,hv,rfl,hLv⟩ hvl hvirt (e.trans eL.symm))
  Flt:=fun b hb=>by
   rcases hb with hb|⟨L,hLv,hvirt,eL⟩
   ·exact h.Flt b hb
   ·exact eL▸h.lt _ ⟨v,L,⟨_,hv,rfl,hLv⟩,hvirt,rfl⟩
  out:=fun u k hu=>h.out u k (by simpa using hu)
  fut:=fun u o k ho hk=>by
   rw[set_get hlt]at ho
   split at ho
   ·cases ho
    rcases hk with hk|⟨hk,_⟩<;>cases hk
   ·exact h.fut u o k ho hk
  ob:=fun u o ho=>by
   rw[set_get hlt]at ho
   split at ho
   ·cases ho;simp[ObOK]
   ·exact ObOK.keep (c:=c) (c':=c') rfl hr (fun _ _ _ _=>rfl) (h.ob u o ho)
  gl:=fun g cs hg=>let ⟨a,b⟩:=h.gl g cs hg;⟨a,hr _ _ b⟩
  rt:=h.rt },?_,hr,fun b hb=>?_⟩
 ·exact{
   os:=⟨rfl,Nat.le_refl _⟩,tape:=rfl,output:=rfl,size:=Nat.le_refl _,RT:=rfl
   Fm:=fun b hb=>Or.inl hb
   Fn:=fun b hb=>by
    rcases hb with hb|⟨L,hLv,hvirt,eL⟩
    ·exact .inl hb
    ·exact .inr (.inr ⟨v,L,⟨_,hv,rfl,hLv⟩,hvirt,eL⟩)
   kept:=fun _ _ _=>rfl
   old:=fun _ _ _ _ h=>h
   own:=fun b hb=>.inr (hOw b hb) }
 ·rcases hb with hb|⟨u,L,⟨o,ho,hal,hιu⟩,hrho,hvirt,e⟩
  ·exact .inl hb
  ·have hu:u=v:=by
    by_cases hne:u=v
    ·exact hne
    ·exfalso
     have hul:=(List.getElem?_eq_some_iff.1 ho).1
     have:rho (freezeKs H [v]) u=some u:=rho_of freezeKs_ok (by
      unfold freezeKs
      simp[hul,hne])
     rw[this]at hrho;cases hrho
   subst hu
   rw[hv]at ho
   cases ho
   exact .inr ⟨L,hιu,hvirt,e⟩
theorem pure_freeze(hok:HOK G c H w){f:FuncId}{vs:List Value}{args:List D}{d:D}{v:Nat}(hr:RepL c w vs args)(hS:∀ u∈(args.map (refsD H 40)).flatten,u=v)(hrow:(rowsOf H v).isSome=true)
  (hcall:CallOK P G f (args.map (AL.shed (fun _=>none) H 40)) [] d []) (hcl:closedL (args.map (AL.shed (fun _=>none) H 40))=true) (hd:AL.closed d=true) :
  Calls P f vs.toArray w fun e w'=>∃ u c',e = .returned u∧HOK G c' (H.set v .dead) w'∧Rep c' w' u d∧Step H.length c H w c' (H.set v .dead) w':=by
 have hv:∃ t g cs,H[v]? = some (.row t g cs):=by
  unfold rowsOf at hrow
  split at hrow
  ·exact⟨_,_,_,by assumption⟩
  ·cases hrow
 obtain⟨t,g,cs,hv⟩:=hv
 obtain⟨c1,k1,k2,k3,k4⟩:=kill_freeze hok hv
 have hr1:RepL c1 w vs (args.map (AL.shed (fun _=>none) H 40)):=by
  have e:args.map (AL.shed (fun _=>none) H 40)=args.map (AL.shed (rho (freezeKs H [v])) H 40):=
   List.map_congr_left fun d hd=>(shed_only 40 d fun u hu=>hS u (List.mem_flatten.2 ⟨_,List.mem_map.2 ⟨d,hd,rfl⟩,hu⟩)).symm
  have hcl':=hcl
  rw[e]at hcl' ⊢
  have h0:=hr.map (c':=c.shed (freezeKs H [v]) H) (f:=AL.shed (rho (freezeKs H [v])) H 40) fun _ _ h=>rep_shed hok 40 h
  generalize args.map (AL.shed (rho (freezeKs H [v])) H 40)=as at h0 hcl'
  clear e hcl hS hcall hr
  induction h0 with
  | nil=>exact .nil
  | cons h _ ih=>
   simp only[closedL,Bool.and_eq_true]at hcl'
   exact .cons (Rep.closed (c:=c.shed (freezeKs H [v]) H) (c':=c1) k4 h hcl'.1) (ih hcl'.2)
 have e2:(args.map (AL.shed (fun _=>none) H 40)).map (AL.shed (fun _=>none) (H.set v .dead) 40)=args.map (AL.shed (fun _=>none) H 40):=by
  conv=>rhs;rw[← List.map_id (args.map (AL.shed (fun _=>none) H 40))]
  exact List.map_congr_left fun d hd=>shed_closed (closedL_of hcl d hd)
 have hres:okRes d=true∧lift1 (H.set v .dead).length d=d:=by
  cases d<;>first|(cases hd;done)|skip
  case tup ds=>
   simp only[AL.closed]at hd
   refine⟨?_,?_⟩
   ·simp only[okRes,okResP,List.all_eq_true]
    intro x hx
    have:=closedL_of hd x hx
    cases x<;>first|rfl|exact this
   ·simp only[lift1]
    congr 1
    conv=>rhs;rw[← List.map_id ds]
    refine List.map_congr_left fun x hx=>?_
    have:=closedL_of hd x hx
    cases x<;>first|rfl|(cases this;done)
  case agg ds=>
   simp only[AL.closed]at hd
   refine⟨?_,?_⟩
   ·simp only[okRes,okResP,List.all_eq_true]
    intro x hx
    have:=closedL_of hd x hx
    cases x<;>first|rfl|exact this
   ·simp only[lift1]
    congr 1
    conv=>rhs;rw[← List.map_id ds]
    refine List.map_congr_left fun x hx=>?_
    have:=closedL_of hd x hx
    cases x<;>first|rfl|(cases this;done)
  all_goals exact⟨hd,rfl⟩
 refine(pure_ok k1 hr1 (by rw[e2];exact hcall) (by rw[if_pos hcl];simp[hres.1])).mono ?_
 rintro e w' ⟨u,c2,he,m1,m2,m3⟩
 rw[List.append_nil]at m1 m3
 rw[hres.2]at m2
 exact⟨u,c2,he,m1,m2,k2.trans m3 (by simp)⟩
end
end Go.AL
namespace Go.AL
open Go
def splice(o:Nat)(xs cs:List D):List D:=cs.take o++xs++cs.drop (o+xs.length)
theorem splice_len{o:Nat}{xs cs:List D}(h:o+xs.length≤cs.length):(splice o xs cs).length=cs.length:=by simp[splice];omega
theorem splice_get{o:Nat}{xs cs:List D}(h:o+xs.length≤cs.length)(i:Nat):(splice o xs cs)[i]? = if o≤i∧i<o+xs.length then xs[i-o]? else cs[i]? := by
 unfold splice
 have hl:(cs.take o).length=o:=by simp;omega
 by_cases h1:i<o
 ·rw[List.getElem?_append_left (by simp;omega),List.getElem?_append_left (by omega),List.getElem?_take,if_pos h1,if_neg (by omega)]
 ·by_cases h2:i<o+xs.length
  ·rw[List.getElem?_append_left (by simp;omega),List.getElem?_append_right (by omega),hl,if_pos ⟨by omega,h2⟩]
  ·rw[List.getElem?_append_right (by simp;omega),List.getElem?_drop,if_neg (by omega)]
   congr 1
   simp;omega
def tgt(n:Nat):Dl→Option Nat
 | .no=>none
 | .cells v _ _=>some v
 | .obj v _=>some v
 | .new _=>some n
def upd:Dl→Ob→Ob
 | .no,o=>o
 | .cells _ o xs,.row t g cs=>.row t g (splice o xs cs)
 | .cells _ _ _,o=>o
 | .obj _ ob,_=>ob
 | .new ob,_=>ob
abbrev appH(n:Nat)(δ:Dl)(H:Heap):Heap:=δ.app H (Al.hole H n)
theorem appH_get(n:Nat)(δ:Dl)(H:Heap)(x:Nat):(appH n δ H)[x]? = if tgt n δ=some x then(H[x]?).map (upd δ)else H[x]? := by
 have hset:∀ (v:Nat) (ob:Ob) (f:Ob→Ob),(∀ o,f o=ob)→(H.set v ob)[x]? = if some v=some x then(H[x]?).map f else H[x]? := by
  intro v ob f hf
  rw[List.getElem?_set]
  by_cases e:v=x
  ·subst e
   rw[if_pos rfl,if_pos rfl]
   split
   ·rename_i hlt;simp[hlt,hf]
   ·rename_i hlt;rw[List.getElem?_eq_none (by omega)];rfl
  ·rw[if_neg e,if_neg (by simpa using e)]
 cases δ with
 | no=>simp[appH,Dl.app,tgt]
 | obj v ob=>exact hset v ob _ fun _=>rfl
 | new ob=>exact hset n ob _ fun _=>rfl
 | cells v o xs=>
  have ht:tgt n (.cells v o xs)=some v:=rfl
  by_cases e:v=x
  ·subst e
   rw[if_pos ht]
   simp only[appH,Dl.app]
   split
   ·rename_i t g cs hv
    rw[List.getElem?_set,if_pos rfl,if_pos (List.getElem?_eq_some_iff.1 hv).1,hv]
    rfl
   ·rename_i hne
    cases hx:H[v]? with
    | none=>rfl
    | some ob=>
     cases ob<;>first|rfl|skip
     exact absurd hx (hne _ _ _)
  ·rw[if_neg (by rw[ht];simpa using e)]
   simp only[appH,Dl.app]
   split
   ·rw[List.getElem?_set,if_neg e]
   ·rfl
def Fits(n:Nat)(δ:Dl)(H:Heap):Prop:=match δ with
 | .cells v o xs=>∃ t g cs,H[v]? = some (.row t g cs)∧o+xs.length≤cs.length
 | .new _=>H[n]? = some .hole
 | _=>True
theorem apartL_spec{a b:List Fp}(h:apartL a b=true){x y:Fp}(hx:x∈a)(hy:y∈b):apart1 x y=true:=
 List.all_eq_true.1 (List.all_eq_true.1 h x hx) y hy
theorem alike_write{n:Nat}{δ:Dl}{H:Heap}{fp:List Fp}(hf:Fits n δ H)(h:apartL (fpW n δ) fp=true):AlikeL fp (appH n δ H) H:=by
 intro x hx
 obtain⟨u,r⟩:=x
 have hne:∀ v q,(v,q)∈fpW n δ→tgt n δ=some v:=by
  intro v q hm
  cases δ<;>simp only[fpW,List.mem_singleton,List.not_mem_nil]at hm<;>first|(cases hm;rfl)|cases hm
 have main:tgt n δ≠some u→(appH n δ H)[u]? = H[u]? := fun hn=>by rw[appH_get,if_neg hn]
 by_cases ht:tgt n δ=some u
 ·cases r with
  | none=>
   exfalso
   cases δ with
   | no=>cases ht
   | cells v o xs=>cases ht;have:=apartL_spec h (x:=(u,some (o,xs.length))) (by simp[fpW]) hx;simp[apart1]at this
   | obj v ob=>cases ht;have:=apartL_spec h (x:=(u,none)) (by simp[fpW]) hx;simp[apart1]at this
   | new ob=>cases ht;have:=apartL_spec h (x:=(n,none)) (by simp[fpW]) hx;simp[apart1]at this
  | some q=>
   obtain⟨p,m⟩:=q
   cases δ with
   | no=>cases ht
   | obj v ob=>cases ht;exfalso;have:=apartL_spec h (x:=(u,none)) (by simp[fpW]) hx;simp[apart1]at this
   | new ob=>cases ht;exfalso;have:=apartL_spec h (x:=(n,none)) (by simp[fpW]) hx;simp[apart1]at this
   | cells v o xs=>
    cases ht
    obtain⟨t,g,cs,h1,h2⟩:=hf
    have ha:=apartL_spec h (x:=(u,some (o,xs.length))) (by simp[fpW]) hx
    simp only[apart1,bne_self_eq_false,Bool.false_or,Bool.or_eq_true,decide_eq_true_eq]at ha
    refine .inr ⟨t,g,splice o xs cs,cs,?_,h1,splice_len h2,fun i hi1 hi2=>?_⟩
    ·simp[appH_get,tgt,h1,upd]
    ·rw[splice_get h2,if_neg (by omega)]
 ·have e:=main ht
  cases r with
  | none=>exact e
  | some q=>exact .inl e
theorem splice_comm{o p:Nat}{xs ys cs:List D}(h1:o+xs.length≤cs.length)(h2:p+ys.length≤cs.length)(h:o+xs.length≤p∨p+ys.length≤o) :
  splice o xs (splice p ys cs)=splice p ys (splice o xs cs):=by
 apply List.ext_getElem?
 intro i
 rw[splice_get (by rw[splice_len h2];exact h1),splice_get h2,splice_get (by rw[splice_len h1];exact h2),splice_get h1]
 by_cases a:o≤i∧i<o+xs.length<;>by_cases b:p≤i∧i<p+ys.length
 ·omega
 ·rw[if_pos a,if_neg b,if_pos a]
 ·rw[if_neg a,if_pos b,if_pos b]
 ·rw[if_neg a,if_neg b,if_neg b,if_neg a]
theorem write_comm{n m:Nat}{δ ε:Dl}{H:Heap}(hf:Fits n δ H)(hg:Fits m ε H)(h:apartL (fpW n δ) (fpW m ε)=true):appH m ε (appH n δ H)=appH n δ (appH m ε H):=by
 apply List.ext_getElem?
 intro x
 rw[appH_get,appH_get,appH_get,appH_get]
 by_cases a:tgt n δ=some x<;>by_cases b:tgt m ε=some x
 ·rw[if_pos a,if_pos b,if_pos b,if_pos a]
  have bad:∀ {P:Prop},(∃ q r,(x,q)∈fpW n δ∧(x,r)∈fpW m ε∧(q=none∨r=none))→P:=by
   rintro P ⟨q,r,h1,h2,h3⟩
   have:=apartL_spec h h1 h2
   rcases h3 with rfl|rfl
   ·simp[apart1]at this
   ·cases q<;>simp[apart1]at this
  cases δ with
  | no=>cases a
  | obj v ob=>
   cases a
   cases ε with
   | no=>cases b
   | cells v o xs=>cases b;exact bad ⟨none,some (o,xs.length),by simp[fpW],by simp[fpW],.inl rfl⟩
   | obj v ob=>cases b;exact bad ⟨none,none,by simp[fpW],by simp[fpW],.inl rfl⟩
   | new ob=>cases b;exact bad ⟨none,none,by simp[fpW],by simp[fpW],.inl rfl⟩
  | new ob=>
   cases a
   cases ε with
   | no=>cases b
   | cells v o xs=>cases b;exact bad ⟨none,some (o,xs.length),by simp[fpW],by simp[fpW],.inl rfl⟩
   | obj v ob=>cases b;exact bad ⟨none,none,by simp[fpW],by simp[fpW],.inl rfl⟩
   | new ob=>cases b;exact bad ⟨none,none,by simp[fpW],by simp[fpW],.inl rfl⟩
  | cells v o xs=>
   cases a
   cases ε with
   | no=>cases b
   | obj v ob=>cases b;exact bad ⟨some (o,xs.length),none,by simp[fpW],by simp[fpW],.inr rfl⟩
   | new ob=>cases b;exact bad ⟨some (o,xs.length),none,by simp[fpW],by simp[fpW],.inr rfl⟩
   | cells v p ys=>
    cases b
    obtain⟨t,g,cs,h1,h2⟩:=hf
    obtain⟨t',g',cs',h1',h2'⟩:=hg
    rw[h1]at h1'
    cases h1'
    have ha:=apartL_spec h (x:=(x,some (o,xs.length))) (y:=(x,some (p,ys.length))) (by simp[fpW]) (by simp[fpW])
    simp only[apart1,bne_self_eq_false,Bool.false_or,Bool.or_eq_true,decide_eq_true_eq]at ha
    simp only[h1,Option.map_some,upd]
    rw[splice_comm h2 h2' ha]
 ·rw[if_pos a,if_neg b,if_neg b,if_pos a]
 ·rw[if_neg a,if_pos b,if_neg a]
 ·rw[if_neg a,if_neg b,if_neg a]
structure Rc where
 R:List Fp
 W:List Fp
inductive Out where
 | norm (s:St)
 | exit (id:Nat) (s:St)
 | ret (s:St)
inductive Job where
 | ops (l:List IEnt) (s:St)
 | code (c:IR) (s:St)
 | loop (n:Nat) (live:List Nat) (a:IR) (s:St)
 | call (f:FuncId) (args:List D) (H:Heap)
 | trace (l:List IEnt) (s:St)
inductive Res where
 | out (o:Out)
 | tr (rs:List Rc) (s:St)
 | val (d:D) (H:Heap)
def Out.stop:Out→Bool
 | .norm _=>false
 | _=>true
def prsOK(prs:List (Nat×Nat))(rs:List Rc):Bool:=prs.all fun p=>match rs[p.1]?,rs[p.2]? with
 | some a,some b=>apartL a.W (b.R++b.W)&&apartL b.W (a.R++a.W)
 | _,_=>false
def yieldOf(env:EnvF):IOp→Option (Nat×List D)
 | .callv f args=>match ev env f with
  | .yld v=>some (v,args.map (ev env))
  | _=>none
 | _=>none
def Out.st:Out→St
 | .norm s=>s
 | .exit _ s=>s
 | .ret s=>s
def Out.rst:Out→RSt
 | .norm _=>.ready
 | .exit id _=>.doneExit id
 | .ret _=>.doneRet
def rangeOut(s:St):RSt→Option Out
 | .ready=>some (.norm s)
 | .busy=>none
 | .doneRet=>some (.ret s)
 | .doneExit id=>some (.exit id s)
def kill:List Nat→Heap→Option Heap
 | [],H=>some H
 | v::vs,H=>match H[v]? with
  | some .dfr=>kill vs (H.set v .dead)
  | _=>none
def finish(fn:FnA)(own n:Nat):Out→Option (D×Heap)
 | .norm s | .ret s=>match kill s.marks s.H with
  | some H=>match results fn { s with H:=H }with
   | some d=>some (leave own n H d)
   | none=>none
  | none=>none
 | .exit _ _=>none
def blk(id n:Nat)(live:List Nat):Out→Out
 | .norm s=>.norm (cut n live s)
 | .exit id' s=>if id'=id then .norm (cut n live s)else .exit id' s
 | .ret s=>.ret s
inductive Ev(T:Tab):Job→(Res→Prop)→Prop
 | mono {j R R'} (h:Ev T j R) (hi:∀ r,R r→R' r):Ev T j R'
 | nil {s R} (h:R (.out (.norm s))):Ev T (.ops [] s) R
 | op {e r s d δ R} (hg:guardOf s.env.get e.guard=some true) (h:aopO s.env.get s.H s.H.length e.op=some (d,δ))
   (t:Ev T (.ops r { s with env:=put s.env e.dst d,H:=δ.app s.H (Al.last s.H) }) R):Ev T (.ops (e::r) s) R
 | sop {e r s d δ R} (hg:guardOf s.env.get e.guard=some true) (h:sopO s.env.get s.H s.H.length e.op=some (d,δ))
   (t:Ev T (.ops r { s with env:=put s.env e.dst d,H:=δ.app s.H (Al.last s.H) }) R):Ev T (.ops (e::r) s) R
 | off {e r s R} (hg:guardOf s.env.get e.guard=some false) (t:Ev T (.ops r { s with env:=put s.env e.dst (.val undef) }) R):Ev T (.ops (e::r) s) R
 | frz {l s R} (S:List Nat) (hm:s.marks.all (fun v => !S.contains v)=true) (t:Ev T (.ops l (frz S s)) R):Ev T (.ops l s) R
 | frzC {c s R} (S:List Nat) (hm:s.marks.all (fun v => !S.contains v)=true) (t:Ev T (.code c (frz S s)) R):Ev T (.code c s) R
 | forgO {l s R} (live:List Nat) (t:Ev T (.ops l { s with env:=forget live s.env }) R):Ev T (.ops l s) R
 | forg {c s R} (live:List Nat) (t:Ev T (.code c { s with env:=forget live s.env }) R):Ev T (.code c s) R
 | callP {e r s f args fn R1 R} (hg:guardOf s.env.get e.guard=some true) (hc:calleeOf s.env.get e.op=some (f,args)) (hf:T.fn f=some fn) (hp:fn.full=false)
   (h:Ev T (.call f (args.map (shed (fun _=>none) s.H 40)) []) R1) (ha:∀ d Hn,R1 (.val d Hn)→(after s e.dst args d Hn).isSome=true)
   (t:∀ d Hn s',R1 (.val d Hn)→after s e.dst args d Hn=some s'→Ev T (.ops r s') R):Ev T (.ops (e::r) s) R
 | callF {e r s f args fn R1 R} (hg:guardOf s.env.get e.guard=some true) (hc:calleeOf s.env.get e.op=some (f,args)) (hf:T.fn f=some fn) (hp:fn.full=true)
   (h:Ev T (.call f args s.H) R1) (t:∀ d H',R1 (.val d H')→Ev T (.ops r { s with env:=put s.env e.dst d,H:=H' }) R):Ev T (.ops (e::r) s) R
 | callY {e r s v args rf env0 Rd Ra Rb R} (hg:guardOf s.env.get e.guard=some true) (hc:yieldOf s.env.get e.op=some (v,args)) (hv:s.H[v]? = some (.rcd rf env0 .ready)) (hR:T.round rf=some Rd) (hl:args.length=Rd.params.length)
   (ha:Ev T (.code Rd.a { env:=setParams Rd.params args env0,H:=s.H,rnd:=true }) Ra) (hn:∀ o,Ra (.out o)→o.stop=false∧∃ env1,o.st.H[v]? = some (.rcd rf env1 .ready))
   (hb:∀ s1 env1,Ra (.out (.norm s1))→s1.H[v]? = some (.rcd rf env1 .ready)→Ev T (.code Rd.b { s1 with H:=s1.H.set v (.rcd rf env1 .busy) }) Rb)
   (hm:∀ o,Rb (.out o)→∃ env2,o.st.H[v]? = some (.rcd rf env2 .busy))
   (t:∀ o env2,Rb (.out o)→o.st.H[v]? = some (.rcd rf env2 .busy)→Ev T (.ops r { s with env:=put s.env e.dst (.b !o.stop),H:=o.st.H.set v (.rcd rf env2 o.rst) }) R):Ev T (.ops (e::r) s) R
 | next {e r s x v m since seen kk es R} (hg:guardOf s.env.get e.guard=some true) (hop:e.op = .nextM x) (hx:ev s.env.get x = .ptr v 0 0) (hv:s.H[v]? = some (.miter (.omap m) since seen)) (hm:s.H[m]? = some (.map kk es)) (hs:es.length=since)
   (h0:(∀ i,i<es.length→i∈seen)→Ev T (.ops r { s with env:=put s.env e.dst (.tup [.b false]) }) R)
   (h1:∀ i k d,es[i]? = some (k,d)→i ∉ seen→Ev T (.ops r { s with env:=put s.env e.dst (.tup [.b true,.val k,d]),H:=s.H.set v (.miter (.omap m) since (seen ++ [i])) }) R):Ev T (.ops (e::r) s) R
 | trNil {s R} (h:R (.tr [] s)):Ev T (.trace [] s) R
 | trOp {e r s d δ R1 R} (hg:guardOf s.env.get e.guard=some true) (h:aopO s.env.get s.H s.H.length e.op=some (d,δ))
   (t:Ev T (.trace r { s with env:=put s.env e.dst d,H:=δ.app s.H (Al.last s.H) }) R1) (k:∀ rs s',R1 (.tr rs s')→R (.tr (⟨fpR s.env.get s.H e.op,fpW s.H.length δ⟩::rs) s')):Ev T (.trace (e::r) s) R
 | trOff {e r s R1 R} (hg:guardOf s.env.get e.guard=some false) (t:Ev T (.trace r { s with env:=put s.env e.dst (.val undef) }) R1) (k:∀ rs s',R1 (.tr rs s')→R (.tr (⟨[],[]⟩::rs) s')):Ev T (.trace (e::r) s) R
 | trCall {e r s f args fn d R0 R1 R} (hg:guardOf s.env.get e.guard=some true) (hc:calleeOf s.env.get e.op=some (f,args)) (hf:T.fn f=some fn) (hp:fn.full=false)
   (h:Ev T (.call f (args.map (shed (fun _=>none) s.H 40)) []) R0) (h0:∀ d' Hn,R0 (.val d' Hn)→d'=d∧Hn = []) (hr:(if closedL args then closed d else flat d)=true)
   (t:Ev T (.trace r { s with env:=put s.env e.dst d }) R1) (k:∀ rs s',R1 (.tr rs s')→R (.tr (⟨fpR s.env.get s.H e.op,[]⟩::rs) s')):Ev T (.trace (e::r) s) R
 | trCallN {e r s f as args fn d ob R0 R1 R} (hg:guardOf s.env.get e.guard=some true) (hop:e.op = .callN f as) (ha:args=as.map (ev s.env.get)) (hf:T.fn f=some fn) (hp:fn.full=false)
   (h:Ev T (.call f (args.map (shed (fun _=>none) s.H 40)) []) R0) (h0:∀ d' Hn,R0 (.val d' Hn)→d'=d∧Hn = [ob]) (hr:(if closedL args then okRes d&&closedOb ob else okFlat d&&flatOb ob)=true)
   (t:Ev T (.trace r { s with env:=put s.env e.dst (lift1 s.H.length d),H:=s.H ++ [ob] }) R1) (k:∀ rs s',R1 (.tr rs s')→R (.tr (⟨fpR s.env.get s.H e.op,[(s.H.length,none)]⟩::rs) s')):Ev T (.trace (e::r) s) R
 | trCallZ {e r s f as args fn d v R0 R1 R} (hg:guardOf s.env.get e.guard=some true) (hop:e.op = .callN f as) (ha:args=as.map (ev s.env.get)) (hf:T.fn f=some fn) (hp:fn.full=false)
   (hS:∀ u∈(args.map (refsD s.H 40)).flatten,u=v) (hv:v∈(args.map (refsD s.H 40)).flatten) (hrow:(rowsOf s.H v).isSome=true) (hcl:closedL (args.map (shed (fun _=>none) s.H 40))=true)
   (h:Ev T (.call f (args.map (shed (fun _=>none) s.H 40)) []) R0) (h0:∀ d' Hn,R0 (.val d' Hn)→d'=d∧Hn = []) (hr:closed d=true)
   (t:Ev T (.trace r { s with env:=put s.env e.dst d,H:=s.H.set v .dead }) R1) (k:∀ rs s',R1 (.tr rs s')→R (.tr (⟨fpR s.env.get s.H e.op,[(v,none)]⟩::rs) s')):Ev T (.trace (e::r) s) R
 | draw {prs l s R1 R} (t:Ev T (.trace l s) R1) (hp:∀ rs s',R1 (.tr rs s')→prsOK prs rs=true∧R (.out (.norm s'))):Ev T (.code (.draw prs l) s) R
 | drawL {prs l es s R1 R} (t:Ev T (.trace l s) R1) (hp:∀ rs s',R1 (.tr rs s')→prsOK prs rs=true) (k:∀ rs s',R1 (.tr rs s')→Ev T (.ops es s') R):Ev T (.code (.drawL prs l es) s) R
 | skip {s R} (h:R (.out (.norm s))):Ev T (.code .skip s) R
 | cops {l s R} (h:Ev T (.ops l s) R):Ev T (.code (.ops l) s) R
 | seq {a b s R1 R} (h:Ev T (.code a s) R1) (k:∀ s',R1 (.out (.norm s'))→Ev T (.code b s') R) (hs:∀ o,R1 (.out o)→o.stop=true→R (.out o)):Ev T (.code (.seq a b) s) R
 | cond {c a b s x R} (hc:ev s.env.get c = .val (.bool x)) (h:Ev T (.code (if x then a else b) s) R):Ev T (.code (.cond c a b) s) R
 | block {id live a s R1 R} (h:Ev T (.code a s) R1) (k:∀ o,R1 (.out o)→R (.out (blk id s.H.length live o))):Ev T (.code (.block id live a) s) R
 | loop {live a s R} (h:Ev T (.loop s.H.length live a { s with env:=forget live s.env }) R):Ev T (.code (.loop live a) s) R
 | loopI {n live a s R1 R} (h:Ev T (.code a s) R1) (k:∀ s',R1 (.out (.norm s'))→Ev T (.loop n live a (cut n live s')) R) (hs:∀ o,R1 (.out o)→o.stop=true→R (.out o)):Ev T (.loop n live a s) R
 | rangeF {rf live x s f first cap fn R1 R} (hr:s.rnd=false) (hx:ev s.env.get x = .fn (.func f) first cap) (hf:T.fn f=some fn) (hp:fn.full=true)
   (h:Ev T (.call f (first ++ [.yld (s.H.length+1)]++cap) (s.H ++ [.dfr,.rcd rf (forget live s.env) .ready])) R1)
   (k:∀ d H',R1 (.val d H')→∃ env st o,H'[s.H.length+1]? = some (.rcd rf env st)∧rangeOut { s with H:=H'.set (s.H.length+1) .dead,marks:=s.H.length::s.marks } st=some o∧R (.out o)):Ev T (.code (.rangeF rf live x) s) R
 | exit {id s R} (h:R (.out (.exit id s))):Ev T (.code (.exit id) s) R
 | ret {s R} (h:R (.out (.ret s))):Ev T (.code .ret s) R
 | call {f args H fn R1 R} (own:Nat) (hf:T.fn f=some fn) (hl:args.length≤fn.ntmps) (h:Ev T (.code fn.body { env:=mkEnv args,H:=H }) R1)
   (k:∀ o,R1 (.out o)→∃ d H',finish fn own H.length o=some (d,H')∧R (.val d H')):Ev T (.call f args H) R
 | sort {f g fn sz v gen t H R} {α:Type} (fc:α→List D) (l:List α) (cf:α→α→Int) (hs:T.sort f=some sz) (hg:T.fn g=some fn) (hl:∀ a∈l,(fc a).length=sz) (hcl:∀ a∈l,closedL (fc a)=true) (h0:0<l.length) (h62:l.length<4611686018427387904)
   (irr:∀ x∈l,¬ cf x x<0) (tr:∀ x∈l,∀ y∈l,∀ z∈l,cf x y<0→cf y z<0→cf x z<0) (nt:∀ x∈l,∀ y∈l,∀ z∈l,¬ cf x y<0→¬ cf y z<0→¬ cf x z<0)
   (hc:∀ x∈l,∀ y∈l,Ev T (.call g [.agg (fc x),.agg (fc y)] []) (fun r=>∃ H',r = .val (.i (cf x y)) H')) (hv:H[v]? = some (.row t gen (l.map fc).flatten))
   (k:∀ l':List α,l'.Perm l→l'.Pairwise (fun x y=>¬ cf y x<0)→R (.val (.tup []) (H.set v (.row t gen (l'.map fc).flatten)))):Ev T (.call f [.osl v gen sz 0 l.length,.fn (.func g) [] []] H) R
 | sortE {f sz x H R} (hs:T.sort f=some sz) (k:R (.val (.tup []) H)):Ev T (.call f [.emp,x] H) R
 | sortI {f v gen t H R} (l:List Int) (hs:T.sortI f=true) (h0:0<l.length) (h62:l.length<4611686018427387904) (hv:H[v]? = some (.row t gen (l.map fun n=>D.i n)))
   (k:R (.val (.tup []) (H.set v (.row t gen ((l.mergeSort fun x y=>decide (x≤y)).map fun n=>D.i n))))):Ev T (.call f [.osl v gen 1 0 l.length] H) R
end Go.AL
namespace Go.AL
open Go
def updF(f:EnvF):Option Nat→D→EnvF
 | some k,d=>fun t=>if k=t then d else f t
 | none,_=>f
theorem put_get(env:Env)(dst:Option Nat)(d:D):(put env dst d).get=updF env.get dst d:=by
 cases dst with
 | none=>rfl
 | some k=>funext t;simp[put,Env.get_cons,updF]
def gslot:Option (Nat×Bool)→List Nat
 | some (t,_)=>[t]
 | none=>[]
def looks(e:IEnt):List Nat:=uses e.op++gslot e.guard
inductive Ef(C:FuncId→List D→D→Heap→Prop)(f:EnvF)(H:Heap)(e:IEnt)(n:Nat):Rc→D→Dl→Prop
 | op {d δ} (hg:guardOf f e.guard=some true) (h:aopO f H n e.op=some (d,δ)) (hf:Fits n δ H):Ef C f H e n ⟨fpR f H e.op,fpW n δ⟩ d δ
 | off (hg:guardOf f e.guard=some false):Ef C f H e n ⟨[],[]⟩ (.val undef) .no
 | call {g args d} (hg:guardOf f e.guard=some true) (hc:calleeOf f e.op=some (g,args))
   (h:C g (args.map (shed (fun _=>none) H 40)) d []) (hr:(if closedL args then closed d else flat d)=true):Ef C f H e n ⟨fpR f H e.op,[]⟩ d .no
 | callN {g as args d ob} (hg:guardOf f e.guard=some true) (hop:e.op = .callN g as) (ha:args=as.map (ev f))
   (h:C g (args.map (shed (fun _=>none) H 40)) d [ob]) (hr:(if closedL args then okRes d&&closedOb ob else okFlat d&&flatOb ob)=true) (hf:Fits n (.new ob) H):Ef C f H e n ⟨fpR f H e.op,fpW n (.new ob)⟩ (lift1 n d) (.new ob)
 | callZ {g as args d v} (hg:guardOf f e.guard=some true) (hop:e.op = .callN g as) (ha:args=as.map (ev f)) (hS:∀ u∈(args.map (refsD H 40)).flatten,u=v) (hv:v∈(args.map (refsD H 40)).flatten) (hrow:(rowsOf H v).isSome=true)
   (h:C g (args.map (shed (fun _=>none) H 40)) d []) (hcl:closedL (args.map (shed (fun _=>none) H 40))=true) (hr:closed d=true):Ef C f H e n ⟨fpR f H e.op,[(v,none)]⟩ d (.obj v .dead)
theorem guard_congr{f f':EnvF}{g:Option (Nat×Bool)}(h:∀ t∈gslot g,f t=f' t):guardOf f g=guardOf f' g:=by
 cases g with
 | none=>rfl
 | some p=>simp only[guardOf,h p.1 (by simp[gslot])]
theorem alike_symm{x:Fp}{H1 H2:Heap}(h:Alike x H1 H2):Alike x H2 H1:=by
 obtain⟨v,r⟩:=x
 cases r with
 | none=>exact h.symm
 | some q=>
  rcases h with h|⟨t,g,cs,ds,h1,h2,h3,h4⟩
  ·exact .inl h.symm
  ·exact .inr ⟨t,g,ds,cs,h2,h1,h3.symm,fun i a b=>(h4 i a b).symm⟩
theorem fits_alike{n:Nat}{δ:Dl}{H H':Heap}(h:AlikeL (fpW n δ) H H')(hf:Fits n δ H):Fits n δ H':=by
 cases δ with
 | no=>trivial
 | obj v ob=>trivial
 | new ob=>
  have e:H[n]? = H'[n]? := h (n,none) (by simp[fpW])
  show H'[n]? = some .hole
  rw[← e];exact hf
 | cells v o xs=>
  obtain⟨t,g,cs,h1,h2⟩:=hf
  rcases h (v,some (o,xs.length)) (by simp[fpW])with h|⟨t',g',cs',ds,h3,h4,h5,h6⟩
  ·exact⟨t,g,cs,h▸h1,h2⟩
  ·rw[h1]at h3;cases h3
   exact⟨t,g,ds,h4,by omega⟩
theorem rows_alike{H H':Heap}{v:Nat}(h:Alike (v,none) H H'):rowsOf H v=rowsOf H' v:=by
 have e:H[v]? = H'[v]? := h
 simp only[rowsOf,e]
theorem calleeRefs{f:EnvF}{H:Heap}{op:IOp}{g:FuncId}{args:List D}(hc:calleeOf f op=some (g,args)){H':Heap}(h:AlikeL (fpR f H op) H H') :
  fpR f H' op=fpR f H op∧args.map (shed (fun _=>none) H' 40)=args.map (shed (fun _=>none) H 40):=by
 have key:∀ args:List D,(∀ v∈(args.map (refsD H 40)).flatten,rowsOf H v=rowsOf H' v)→args.map (refsD H' 40)=args.map (refsD H 40)∧args.map (shed (fun _=>none) H' 40)=args.map (shed (fun _=>none) H 40):=by
  intro args ha
  have h1:∀ d∈args,∀ v∈refsD H 40 d,rowsOf H v=rowsOf H' v:=fun d hd v hv=>ha v (List.mem_flatten.2 ⟨_,List.mem_map.2 ⟨d,hd,rfl⟩,hv⟩)
  exact⟨List.map_congr_left fun d hd=>(refs_local 40 d (h1 d hd)).1,List.map_congr_left fun d hd=>(refs_local 40 d (h1 d hd)).2⟩
 cases op<;>first|(cases hc;done)|skip
 case call k as=>
  cases hc
  obtain⟨a,b⟩:=key (as.map (ev f)) fun v hv=>rows_alike (h (v,none) (List.mem_map.2 ⟨v,hv,rfl⟩))
  exact⟨by simp only[fpR,a],b⟩
 case callN k as=>
  cases hc
  obtain⟨a,b⟩:=key (as.map (ev f)) fun v hv=>rows_alike (h (v,none) (List.mem_map.2 ⟨v,hv,rfl⟩))
  exact⟨by simp only[fpR,a],b⟩
 case callv k as=>
  simp only[fpR,hc]at h ⊢
  obtain⟨a,b⟩:=key args fun v hv=>rows_alike (h (v,none) (List.mem_map.2 ⟨v,hv,rfl⟩))
  exact⟨by rw[a],b⟩
theorem fpR_local{f:EnvF}{H H':Heap}{op:IOp}(hn:calleeOf f op=none):fpR f H' op=fpR f H op:=by
 cases op<;>first|rfl|(cases hn;done)|skip
 case callv=>simp only[fpR,hn]
 case len k x=>cases k<;>rfl
theorem callee_none_of{f:EnvF}{H:Heap}{n:Nat}{op:IOp}{r:D×Dl}(h:aopO f H n op=some r):calleeOf f op=none:=by
 cases op<;>first|rfl|cases h
variable{C:FuncId→List D→D→Heap→Prop}
theorem Ef.local{f f':EnvF}{H H':Heap}{e:IEnt}{n:Nat}{rc:Rc}{d:D}{δ:Dl}(h:Ef C f H e n rc d δ)(hf:∀ t∈looks e,f t=f' t)(hH:AlikeL (rc.R++rc.W) H H'):Ef C f' H' e n rc d δ:=by
 have h1:∀ t∈uses e.op,f t=f' t:=fun t ht=>hf t (List.mem_append_left _ ht)
 have h2:guardOf f e.guard=guardOf f' e.guard:=guard_congr fun t ht=>hf t (List.mem_append_right _ ht)
 cases h with
 | op hg ho hfit=>
  have e1:fpR f H e.op=fpR f' H' e.op:=by rw[fpR_congr h1,fpR_local (callee_none_of (by rw[← aopO_congr h1];exact ho))]
  rw[e1]
  refine .op (h2▸hg) ?_ (fits_alike hH.right hfit)
  rw[← aopO_congr h1,← aopO_local (H1:=H) hH.left]
  exact ho
 | off hg=>exact .off (h2▸hg)
 | call hg hc hev hr=>
  obtain⟨a,b⟩:=calleeRefs hc hH.left
  have e1:fpR f H e.op=fpR f' H' e.op:=by rw[← a,fpR_congr h1]
  rw[e1]
  exact .call (h2▸hg) (by rw[← callee_congr h1];exact hc) (by rw[b];exact hev) hr
 | @callN g as args _ _ hg hop ha hev hr hfit=>
  have hc:calleeOf f e.op=some (g,args):=by rw[hop,ha];rfl
  obtain⟨a,b⟩:=calleeRefs hc hH.left
  have e1:fpR f H e.op=fpR f' H' e.op:=by rw[← a,fpR_congr h1]
  rw[e1]
  have hc':calleeOf f' e.op=some (g,args):=by rw[← callee_congr h1];exact hc
  have ha':args=as.map (ev f'):=by
   rw[hop]at hc'
   cases hc';rfl
  exact .callN (h2▸hg) hop ha' (by rw[b];exact hev) hr (fits_alike hH.right hfit)
 | @callZ g as args _ v hg hop ha hS hv hrow hev hcl hr=>
  have hc:calleeOf f e.op=some (g,args):=by rw[hop,ha];rfl
  obtain⟨a,b⟩:=calleeRefs hc hH.left
  have e1:fpR f H e.op=fpR f' H' e.op:=by rw[← a,fpR_congr h1]
  rw[e1]
  have hc':calleeOf f' e.op=some (g,args):=by rw[← callee_congr h1];exact hc
  have ha':args=as.map (ev f'):=by
   rw[hop]at hc'
   cases hc';rfl
  have hfl:(args.map (refsD H' 40)).flatten=(args.map (refsD H 40)).flatten:=by
   have a2:=a
   rw[hop]at a2
   simp only[fpR,← ha]at a2
   exact(List.map_inj_right (fun x y h=>(Prod.mk.inj h).1)).1 a2
  have hrv:rowsOf H v=rowsOf H' v:=rows_alike (hH.right (v,none) (by simp))
  exact .callZ (h2▸hg) hop ha' (by rw[hfl];exact hS) (by rw[hfl];exact hv) (by rw[← hrv];exact hrow) (by rw[b];exact hev) (by rw[b];exact hcl) hr
theorem Ef.fits{f:EnvF}{H:Heap}{e:IEnt}{n:Nat}{rc:Rc}{d:D}{δ:Dl}(h:Ef C f H e n rc d δ):Fits n δ H∧rc.W=fpW n δ:=by
 cases h with
 | op _ _ hf=>exact⟨hf,rfl⟩
 | off=>exact⟨trivial,rfl⟩
 | call=>exact⟨trivial,rfl⟩
 | callN _ _ _ _ _ hf=>exact⟨hf,rfl⟩
 | callZ=>exact⟨trivial,rfl⟩
def slotsApart(a b:IEnt):Bool:=
 (match a.dst with|some k => !(looks b).contains k&&b.dst != some k|none=>true)&&(match b.dst with|some k => !(looks a).contains k|none=>true)
def rcApart(a b:Rc):Bool:=apartL a.W (b.R++b.W)&&apartL b.W (a.R++a.W)
theorem updF_looks{f:EnvF}{dst:Option Nat}{d:D}{l:List Nat}(h:∀ k,dst=some k→k ∉ l):∀ t∈l,updF f dst d t=f t:=by
 intro t ht
 cases dst with
 | none=>rfl
 | some k=>
  simp only[updF]
  rw[if_neg]
  rintro rfl
  exact h _ rfl ht
theorem updF_comm{f:EnvF}{a b:Option Nat}{x y:D}(h:∀ k,a=some k→b≠some k):updF (updF f a x) b y=updF (updF f b y) a x:=by
 cases a with
 | none=>rfl
 | some k=>
  cases b with
  | none=>rfl
  | some j=>
   have hne:j≠k:=fun e=>h k rfl (by rw[e])
   funext t
   simp only[updF]
   by_cases h1:j=t<;>by_cases h2:k=t<;>simp[h1,h2]
   exact absurd (h1.trans h2.symm) hne
theorem slotsApart_spec{a b:IEnt}(h:slotsApart a b=true):(∀ k,a.dst=some k→k ∉ looks b)∧(∀ k,b.dst=some k→k ∉ looks a)∧(∀ k,a.dst=some k→b.dst≠some k):=by
 unfold slotsApart at h
 simp only[Bool.and_eq_true]at h
 refine⟨fun k hk=>?_,fun k hk=>?_,fun k hk=>?_⟩
 ·have:=h.1
  rw[hk]at this
  simp at this
  exact this.1
 ·have:=h.2
  rw[hk]at this
  simpa using this
 ·have:=h.1
  rw[hk]at this
  simp at this
  exact this.2
theorem swap{f:EnvF}{H:Heap}{a b:IEnt}{n m:Nat}{ra rb:Rc}{x y:D}{δ ε:Dl}(ha:Ef C f H a n ra x δ)(hb:Ef C (updF f a.dst x) (appH n δ H) b m rb y ε)
  (hs:slotsApart a b=true) (hr:rcApart ra rb=true) :
  Ef C f H b m rb y ε∧Ef C (updF f b.dst y) (appH m ε H) a n ra x δ∧updF (updF f a.dst x) b.dst y=updF (updF f b.dst y) a.dst x∧appH m ε (appH n δ H)=appH n δ (appH m ε H):=by
 obtain⟨s1,s2,s3⟩:=slotsApart_spec hs
 simp only[rcApart,Bool.and_eq_true]at hr
 obtain⟨fa,wa⟩:=ha.fits
 have hb':Ef C f H b m rb y ε:=hb.local (updF_looks s1) (alike_write fa (by rw[← wa];exact hr.1))
 obtain⟨fb,wb⟩:=hb'.fits
 refine⟨hb',ha.local (fun t ht=>(updF_looks s2 t ht).symm) fun z hz=>alike_symm (alike_write fb (by rw[← wb];exact hr.2) z hz),updF_comm s3,write_comm fa fb ?_⟩
 rw[← wa,← wb]
 simp only[apartL,List.all_eq_true]at hr ⊢
 exact fun u hu z hz=>hr.1 u hu z (List.mem_append_right _ hz)
theorem lift_no{o:Option D}{d:D}{δ:Dl}(h:lift o=some (d,δ)):δ = .no:=by
 cases o<;>simp[lift]at h
 exact h.2.symm
theorem pure_rc{f:EnvF}{H:Heap}{e:IEnt}{n:Nat}{rc:Rc}{d:D}{δ:Dl}(h:Ef C f H e n rc d δ)(hp:pureOp e.op=true):rc.R = []∧rc.W = []:=by
 cases h with
 | op hg ho hf=>
  cases hop:e.op<;>rw[hop]at ho hp<;>simp only[aopO]at ho<;>first|(cases hp;done)|skip
  case len k x=>
   have:=lift_no ho
   subst this
   cases k<;>first|(cases hp;done)|exact⟨rfl,rfl⟩
  all_goals
   have:=lift_no ho
   subst this
   exact⟨rfl,rfl⟩
 | off hg=>exact⟨rfl,rfl⟩
 | call hg hc h hr=>cases hop:e.op<;>rw[hop]at hc hp<;>first|(cases hp;done)|(cases hc;done)
 | callN _ hop=>rw[hop]at hp;cases hp
 | callZ _ hop=>rw[hop]at hp;cases hp
theorem read_rc{f:EnvF}{H:Heap}{e:IEnt}{n:Nat}{rc:Rc}{d:D}{δ:Dl}(h:Ef C f H e n rc d δ)(hp:readOp e.op=true):rc.W = []:=by
 by_cases hq:pureOp e.op=true
 ·exact(pure_rc h hq).2
 ·cases h with
  | op hg ho hf=>
   cases hop:e.op<;>rw[hop]at ho hp hq<;>simp only[aopO]at ho<;>first|(cases hp;done)|(exact absurd rfl hq)|skip
   case call=>cases ho
   case callv=>cases ho
   all_goals
    have:=lift_no ho
    subst this
    rfl
  | off hg=>rfl
  | call=>rfl
  | callN _ hop=>rw[hop]at hp;cases hp
  | callZ _ hop=>rw[hop]at hp;cases hp
theorem still_rc{f f':EnvF}{H H':Heap}{a b:IEnt}{n m:Nat}{ra rb:Rc}{x y:D}{δ ε:Dl}(ha:Ef C f H a n ra x δ)(hb:Ef C f' H' b m rb y ε)(h:stillApart a.op b.op=true):rcApart ra rb=true:=by
 simp only[stillApart,Bool.or_eq_true,Bool.and_eq_true]at h
 rcases h with(h|h)|⟨h1,h2⟩
 ·obtain⟨e1,e2⟩:=pure_rc ha h
  simp[rcApart,e1,e2,apartL]
 ·obtain⟨e1,e2⟩:=pure_rc hb h
  simp[rcApart,e1,e2,apartL]
 ·simp[rcApart,read_rc ha h1,read_rc hb h2,apartL]
structure TItem where
 k:Nat
 e:IEnt
 n:Nat
 rc:Rc
inductive Tx(C:FuncId→List D→D→Heap→Prop):EnvF→Heap→List TItem→EnvF→Heap→Prop
 | nil {f H}:Tx C f H [] f H
 | cons {f H it r d δ f' H'} (h:Ef C f H it.e it.n it.rc d δ) (t:Tx C (updF f it.e.dst d) (appH it.n δ H) r f' H'):Tx C f H (it::r) f' H'
theorem Tx.each{f:EnvF}{H:Heap}{l:List TItem}{f':EnvF}{H':Heap}(h:Tx C f H l f' H'):∀ it∈l,∃ f H d δ,Ef C f H it.e it.n it.rc d δ:=by
 induction h with
 | nil=>intro it hit;cases hit
 | cons h t ih=>
  intro it hit
  rcases List.mem_cons.1 hit with rfl|hit
  ·exact⟨_,_,_,_,h⟩
  ·exact ih it hit
theorem Tx.front{it:TItem}{post:List TItem}{f':EnvF}{H':Heap}:∀ {pre:List TItem} {f:EnvF} {H:Heap},Tx C f H (pre++it::post) f' H'→(∀ p∈pre,slotsApart p.e it.e=true∧rcApart p.rc it.rc=true) →
  ∃ d δ,Ef C f H it.e it.n it.rc d δ∧Tx C (updF f it.e.dst d) (appH it.n δ H) (pre++post) f' H'
 | [],f,H,h,_=>by
  cases h with
  | cons h t=>exact⟨_,_,h,t⟩
 | p::pre,f,H,h,ha=>by
  cases h with
  | @cons _ _ _ _ d δ _ _ h t=>
   obtain⟨y,ε,hy,ht⟩:=Tx.front (pre:=pre) t fun q hq=>ha q (by simp[hq])
   obtain⟨s1,s2,s3,s4⟩:=swap h hy (ha p (by simp)).1 (ha p (by simp)).2
   refine⟨y,ε,s1,.cons s2 ?_⟩
   rw[← s3,← s4]
   exact ht
end Go.AL
namespace Go.AL
open Go
structure SX(G:GT)(N:Nat)(c:Ctx)(w:World)(f:EnvF)(H:Heap)(ms:List Nat)(a:Act):Prop where
 hok:HOK G c H w
 env:RepEnv c w f a
 size:N≤a.tmps.size
 marks:MOK c ms a.defers
section
variable{P:Program}{G:GT}{c:Ctx}{w:World}{f:EnvF}{H:Heap}{ms:List Nat}{a:Act}{N:Nat}
theorem putF_eval{f:EnvF}{a:Act}{c:Ctx}{w:World}(he:RepEnv c w f a)(hN:N≤a.tmps.size){dst:Option Tmp}(hd:dstOK N dst=true){v:Value}{d:D}(hr:Rep c w v d) :
  RepEnv c w (updF f dst d) (a.put dst v):=by
 cases dst with
 | none=>exact he
 | some t=>
  have ht:t<a.tmps.size:=Nat.lt_of_lt_of_le (by simpa[dstOK]using hd) hN
  intro k
  simp only[updF,Act.put]
  split
  ·rename_i e
   subst e
   have:(a.tmps.setIfInBounds t v).getD t undef=v:=by simp[Array.getD,ht]
   rw[this];exact hr
  ·rename_i e
   have:(a.tmps.setIfInBounds t v).getD k undef=a.tmps.getD k undef:=by
    simp only[Array.getD_eq_getD_getElem?,Array.getElem?_setIfInBounds_ne e]
   rw[this];exact he k
theorem SX.next{c':Ctx}{w':World}{H':Heap}(hs:SX G N c w f H ms a)(hok:HOK G c' H' w')(hst:Step H.length c H w c' H' w'){dst:Option Tmp}(hd:dstOK N dst=true)
  {v:Value} {d:D} (hr:Rep c' w' v d):SX G N c' w' (updF f dst d) H' ms (a.put dst v) where
 hok:=hok
 env:=putF_eval (RepEnv.carry (fun _ _ h=>h.step0 hs.hok.toHeapOK hst) hs.env) hs.size hd hr
 size:=by rw[put_size];exact hs.size
 marks:=by
  rw[put_defers]
  refine hs.marks.mono fun v L h=>hst.old v 0 L ?_ h
  rcases Nat.lt_or_ge v H.length with h'|h'
  ·exact h'
  ·rw[hs.hok.out v 0 h']at h;cases h
theorem aopO_pos{op:IOp}{n n':Nat}{d:D}{δ:Dl}(h:aopO f H n op=some (d,δ))(hn:∀ ob,δ≠.new ob):aopO f H n' op=some (d,δ):=by
 cases op<;>simp only[aopO]at h ⊢ <;> first|exact h|skip
 case box=>
  unfold boxO at h
  split at h
  ·cases h;exact absurd rfl (hn _)
  ·cases h
 case alloc=>cases h;exact absurd rfl (hn _)
 case buildSl=>
  unfold buildSlO at h
  split at h
  ·split at h
   ·cases h;exact absurd rfl (hn _)
   ·cases h
  ·cases h
 case mkmap=>cases h;exact absurd rfl (hn _)
 case mksl=>
  unfold mkslO at h
  split at h
  ·split at h
   ·cases h;exact absurd rfl (hn _)
   ·cases h
  ·cases h
 case app=>
  unfold appO at h ⊢
  split at h
  ·split at h
   ·exact h
   ·rename_i m _ _ _
    by_cases hm:m=0
    ·rw[if_pos hm]at h ⊢;exact h
    ·rw[if_neg hm]at h
     split at h
     ·cases h;exact absurd rfl (hn _)
     ·cases h
   ·cases h
  ·cases h
theorem closed_res{d:D}(h:closed d=true):okRes d=true∧lift1 H.length d=d:=by
 cases d<;>first|(cases h;done)|skip
 case tup ds=>
  have hc:=closedL_of h
  refine⟨?_,?_⟩
  ·simp only[okRes,okResP,List.all_eq_true]
   intro d hd
   have:=hc d hd
   cases d<;>first|rfl|exact this
  ·simp only[lift1]
   congr 1
   conv=>rhs;rw[← List.map_id ds]
   refine List.map_congr_left fun d hd=>?_
   have:=hc d hd
   cases d<;>first|(cases this;done)|rfl
 case agg ds=>
  have hc:=closedL_of h
  refine⟨?_,?_⟩
  ·simp only[okRes,okResP,List.all_eq_true]
   intro d hd
   have:=hc d hd
   cases d<;>first|rfl|exact this
  ·simp only[lift1]
   congr 1
   conv=>rhs;rw[← List.map_id ds]
   refine List.map_congr_left fun d hd=>?_
   have:=hc d hd
   cases d<;>first|(cases this;done)|rfl
 all_goals exact⟨h,rfl⟩
theorem flat_res{d:D}(h:flat d=true):okFlat d=true∧lift1 H.length d=d:=by
 cases d<;>first|(cases h;done)|skip
 case tup ds=>
  have hc:∀ d∈ds,flat d=true:=fun d hd=>by
   obtain⟨i,hi⟩:=List.mem_iff_getElem?.1 hd
   exact flatL_get h hi
  refine⟨?_,?_⟩
  ·simp only[okFlat,okResP,List.all_eq_true]
   intro d hd
   have:=hc d hd
   cases d<;>first|rfl|exact this
  ·simp only[lift1]
   congr 1
   conv=>rhs;rw[← List.map_id ds]
   refine List.map_congr_left fun d hd=>?_
   have:=hc d hd
   cases d<;>first|(cases this;done)|rfl
 case agg ds=>
  have hc:∀ d∈ds,flat d=true:=fun d hd=>by
   obtain⟨i,hi⟩:=List.mem_iff_getElem?.1 hd
   exact flatL_get h hi
  refine⟨?_,?_⟩
  ·simp only[okFlat,okResP,List.all_eq_true]
   intro d hd
   have:=hc d hd
   cases d<;>first|rfl|exact this
  ·simp only[lift1]
   congr 1
   conv=>rhs;rw[← List.map_id ds]
   refine List.map_congr_left fun d hd=>?_
   have:=hc d hd
   cases d<;>first|(cases this;done)|rfl
 all_goals exact⟨h,rfl⟩
variable{C:FuncId→List D→D→Heap→Prop}
theorem ef_wp(hC:∀ g args d Hn,C g args d Hn→entersB P g=true∧CallOK P G g args [] d Hn)(hs:SX G N c w f H ms a){A:Array Oper}{o:Oper}{e:IEnt}{i:Nat}(hA:A[i]? = some o)
  (ho:compileOper P G N A o=some e) {n:Nat} {rc:Rc} {d:D} {δ:Dl} (hE:Ef C f H e n rc d δ) {ro:Option Nat} {m:Nat} {Q:Exit→Act→World→Prop} {K:Act→World→Prop}
  (k:∀ c' w' a',SX G N c' w' (updF f e.dst d) (appH n δ H) ms a'→Step H.length c H w c' (appH n δ H) w'→K a' w'):wpOpIn (FW ro) m P A Q i K a w:=by
 obtain⟨s1,s2,s3,s4⟩:=compileOper_spec ho
 unfold wpOpIn
 simp only[hA]
 cases hE with
 | op hg h hfit=>
  have hw:=wanted_ok hs.env s4 hg
  have s1:=comp_plain s1 h
  simp only[hw,if_true]
  have main:∀ {al:Al},AlOK H al→aopO f H al.1 e.op=some (d,δ)→δ.app H al=appH n δ H→o.wpIn (FW ro) m P a w K Q:=by
   intro al hal h hδ
   obtain⟨v,w',hy,d',H',c',⟨rfl,rfl⟩,hok,hr,hst⟩:=plain_ok (P:=P) (K:=fun d' H'=>d'=d∧H'=δ.app H al) hs.hok hs.env hal s1 (aop_of_aopO h ⟨rfl,rfl⟩)
   refine⟨fun _ _=>trivial,?_⟩
   rw[Oper.semAt_plain (FW ro) a.eval o (no_defer s1)]
   rw[hδ]at hok hst
   have hx:=hs.next hok hst s3 hr
   rw[← s2]at hx
   have hn:=k c' w' _ hx hst
   rw[s2]at hn
   rcases hy with hy|⟨hy,rfl⟩
   ·rw[hy];exact hn
   ·rw[hy];exact hn
  by_cases hnew:∃ ob,δ = .new ob
  ·obtain⟨ob,rfl⟩:=hnew
   exact main (al:=Al.hole H n) (AlOK.hole hfit) h rfl
  ·have hnn:∀ ob,δ≠.new ob:=fun ob e=>hnew ⟨ob,e⟩
   refine main (al:=Al.last H) (AlOK.last H) (aopO_pos h hnn) ?_
   cases δ<;>first|rfl|exact absurd rfl (hnn _)
 | off hg=>
  have hw:=wanted_ok hs.env s4 hg
  simp only[hw,Bool.false_eq_true,if_false]
  refine⟨fun _ _=>trivial,?_⟩
  have hx:=hs.next hs.hok (Step.refl _ _ _ _) s3 (v:=undef) (d:=.val undef) (.val _)
  rw[← s2]at hx
  have:=k c w _ hx (Step.refl _ _ _ _)
  rw[s2]at this
  exact this
 | @call g args d hg hc h hr=>
  have hw:=wanted_ok hs.env s4 hg
  have s1:=comp_callee s1 hc
  simp only[hw,if_true]
  obtain⟨hent,hcall⟩:=hC _ _ _ _ h
  obtain⟨vs,hrun,hrl⟩:=run_callee hs.hok hs.env s1 hc hent
  have hcond:(if closedL args then okRes d&&([]:Heap).all closedOb else okFlat d&&([]:Heap).all flatOb)=true∧lift1 H.length d=d:=by
   by_cases hcl:closedL args=true
   ·rw[if_pos hcl]at hr ⊢
    obtain⟨a,b⟩:=closed_res (H:=H) hr
    exact⟨by simp[a],b⟩
   ·rw[if_neg hcl]at hr ⊢
    obtain⟨a,b⟩:=flat_res (H:=H) hr
    exact⟨by simp[a],b⟩
  have hp:=pure_ok hs.hok hrl hcall hcond.1
  rw[hcond.2,List.append_nil]at hp
  refine⟨fun _ _=>trivial,?_⟩
  rw[Oper.semAt_plain (FW ro) a.eval o (no_defer s1),hrun]
  refine⟨fun h=>by simp[Fence.wide]at h,callsIn_FW.2 (hp.mono ?_)⟩
  rintro e' w' ⟨v,c',rfl,hok,hr',hst⟩
  have hx:=hs.next hok hst s3 hr'
  rw[← s2]at hx
  have:=k c' w' _ hx hst
  rw[s2]at this
  exact this
 | @callN g as args d ob hg hop ha h hr hfit=>
  have hw:=wanted_ok hs.env s4 hg
  simp only[hw,if_true]
  have hc:calleeOf f e.op=some (g,args):=by rw[hop,ha];rfl
  have s1:=comp_callee s1 hc
  obtain⟨hent,hcall⟩:=hC _ _ _ _ h
  obtain⟨vs,hrun,hrl⟩:=run_callee hs.hok hs.env s1 hc hent
  have hp:=pure_hole hs.hok hrl hcall hr hfit
  refine⟨fun _ _=>trivial,?_⟩
  rw[Oper.semAt_plain (FW ro) a.eval o (no_defer s1),hrun]
  refine⟨fun h=>by simp[Fence.wide]at h,callsIn_FW.2 (hp.mono ?_)⟩
  rintro e' w' ⟨v,c',rfl,hok,hr',hst⟩
  have hx:=hs.next hok hst s3 hr'
  rw[← s2]at hx
  have:=k c' w' _ hx hst
  rw[s2]at this
  exact this
 | @callZ g as args d v hg hop ha hS hv hrow h hcl hr=>
  have hw:=wanted_ok hs.env s4 hg
  simp only[hw,if_true]
  have hc:calleeOf f e.op=some (g,args):=by rw[hop,ha];rfl
  have s1:=comp_callee s1 hc
  obtain⟨hent,hcall⟩:=hC _ _ _ _ h
  obtain⟨vs,hrun,hrl⟩:=run_callee hs.hok hs.env s1 hc hent
  have hp:=pure_freeze hs.hok hrl hS hrow hcall hcl hr
  refine⟨fun _ _=>trivial,?_⟩
  rw[Oper.semAt_plain (FW ro) a.eval o (no_defer s1),hrun]
  refine⟨fun h=>by simp[Fence.wide]at h,callsIn_FW.2 (hp.mono ?_)⟩
  rintro e' w' ⟨u,c',rfl,hok,hr',hst⟩
  have hx:=hs.next hok hst s3 hr'
  rw[← s2]at hx
  have:=k c' w' _ hx hst
  rw[s2]at this
  exact this
end
end Go.AL
