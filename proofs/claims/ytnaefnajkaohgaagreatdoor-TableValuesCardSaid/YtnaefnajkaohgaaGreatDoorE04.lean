/- Part 4 of the proof of skewer.skewerlaw15.TableValues. -/
import Derived.Test.YtnaefnajkaohgaaGreatDoorE03
set_option linter.all false
namespace Go.AL
open Go
section
variable{P:Program}{G:GT}{c:Ctx}{w:World}{env:fO}{a:Act}{N:Nat}
theorem MQ{o:Oper}{io:gC}(hc:ly P G o=some io)(h:A3 io=true):∃ cl,o.op = .call cl:=by
 unfold ly at hc
 split at hc
 all_goals first|exact⟨_,by assumption⟩|skip
 all_goals exfalso
 all_goals try simp only[ay,af,aH]at hc
 all_goals (repeat' first|(obtain⟨_,_,hc⟩:=hc)|split at hc|simp only[af]at hc)
 all_goals first|(simp[A3]at h;done)|(cases hc<;>simp[A3]at h)
theorem G4{H:U}(eX:fj G c H w)(he:jt c w env a){o:Oper}{io:gC}(hc:ly P G o=some io){f:FuncId}{args:List D}(iz:iW env io=some (f,args))(jS:o5 P f=true) :
  ∃ vs:List Value,(execOp a.eval o).run P w = .ok (.enter f vs.toArray) w∧ig c w vs args:=by
 have Fw:=hc
 unfold ly at hc
 cases ho:o.op with
 | call cl=>
  simp only[ho,ay,af]at hc
  obtain⟨xs,pD,hc⟩:=hc
  have gX:=vj eX he cl.args.toList pD
  split at hc
  ·rename_i g vN
   split at hc
   ·have UT:g=f∧List.map (ev env) xs=args:=by
     cases hc
     have hb:iW env (if G.nw g=true then gC.callN g xs else gC.call g xs)=some (g,xs.map (ev env)):=by split<;>rfl
     rw[hb]at iz
     simpa using iz
    obtain⟨rfl,rfl⟩:=UT
    refine⟨_,?_,gX⟩
    have e:cl.args.map a.eval=(cl.args.toList.map a.eval).toArray:=by cases cl.args;simp
    simp only[execOp,ho,resolve,vN,Act.eval,Deferred.ofValue,Sem.run_bind,Sem.run_pure,Result.andThen_ok,invoke]
    rw[← e]
    have h2:=G5 (P:=P) jS (cl.args.map a.eval) w
    simpa using h2
   ·cases hc
  ·rename_i x gd vN
   simp only[af,aH,av]at hc
   obtain⟨X,hX,rfl⟩:=hc
   simp only[iW]at iz
   split at iz
   ·rename_i k first cap nL
    cases iz
    have hr:=gJ eX he hX
    rw[nL]at hr
    generalize hv:a.eval x=v at hr
    cases hr with
    | fn _ fs cs _ _ e1 e2 e3 e4=>
     refine⟨fs++cl.args.toList.map a.eval++cs,?_,((ig.Bo e1 e3).append gX).append (ig.Bo e2 e4)⟩
     simp only[execOp,ho,resolve,vN,hv,Deferred.ofValue,Sem.run_bind,Sem.run_pure,Result.andThen_ok,invoke]
     have h2:=G5 (P:=P) jS (fs.toArray++cl.args.map a.eval++cs.toArray) w
     have e2:fs.toArray++cl.args.map a.eval++cs.toArray=(fs++cl.args.toList.map a.eval++cs).toArray:=by cases cl.args;simp
     rw[e2]at h2 ⊢
     exact h2
   ·cases iz
  ·split at hc
   ·simp only[af]at hc
    obtain⟨td,_,hc⟩:=hc
    split at hc
    ·simp only[af]at hc
     obtain⟨i,_,z,_,ud,_,hc⟩:=hc
     split at hc
     ·split at hc
      ·cases hc;cases iz
      ·cases hc
     ·cases hc
    ·cases hc
   ·cases hc
  ·split at hc
   ·simp only[af]at hc
    obtain⟨td,_,hc⟩:=hc
    split at hc
    ·simp only[af]at hc
     obtain⟨ud,_,hc⟩:=hc
     split at hc
     ·simp only[af]at hc
      obtain⟨n,_,hc⟩:=hc
      split at hc
      ·cases hc;cases iz
      ·cases hc
     ·cases hc
    ·cases hc
   ·cases hc
  ·split at hc
   ·split at hc
    ·cases hc;cases iz
    ·cases hc;cases iz
    ·cases hc;cases iz
    ·cases hc
   ·cases hc
  ·cases hc;cases iz
  ·cases hc;cases iz
  ·cases hc
 | _=>
  have h1:A3 io=true:=by unfold iW at iz;unfold A3;split at iz<;>first|rfl|cases iz
  obtain⟨cl,h2⟩:=MQ Fw h1
  rw[ho]at h2
  cases h2
end
end Go.AL
namespace Go.AL
open Go
abbrev Fp:=Nat×Option (Nat×Nat)
def lK:D→List Fp
 | .eT v _ _ _ _=>[(v,none)]
 | .omap v=>[(v,none)]
 | _=>[]
def sE(n:Nat):D→List Fp
 | .ptr v _ o=>[(v,some (o,n))]
 | _=>[]
def fJ(f:fO)(H:U):gC→List Fp
 | .ld1 x=>sE 1 (ev f x)
 | .ldN n x=>sE n (ev f x)
 | .st1 a _=>sE 1 (ev f a)
 | .stN n a _=>sE n (ev f a)
 | .lookup _ _ _ m _=>lK (ev f m)
 | .mapUpd _ m _ _=>lK (ev f m)
 | .len .map x=>lK (ev f x)
 | .b2s x=>lK (ev f x)
 | .app _ _ _ x y=>lK (ev f x)++lK (ev f y)
 | .copy _ x y=>lK (ev f x)++lK (ev f y)
 | .call g args=>((args.map (ev f)).map (gh H 40)).flatten.map fun v=>(v,none)
 | .callN g args=>((args.map (ev f)).map (gh H 40)).flatten.map fun v=>(v,none)
 | .callv g args=>match iW f (.callv g args)with
  | some (_,ds)=>(ds.map (gh H 40)).flatten.map fun v=>(v,none)
  | none=>[]
 | _=>[]
def iy(n:Nat):Dl→List Fp
 | .no=>[]
 | .cells v o xs=>[(v,some (o,xs.length))]
 | .obj v _=>[(v,none)]
 | .new _=>[(n,none)]
def pZ:Fp→Fp→Bool
 | (v,none),(u,_)=>v != u
 | (v,some _),(u,none)=>v != u
 | (v,some (o,n)),(u,some (p,m))=>v != u||decide (o+n≤p)||decide (p+m≤o)
def p5(a b:List Fp):Bool:=a.all fun x=>b.all fun y=>pZ x y
def Alike(x:Fp)(H1 H2:U):Prop:=
 match x with
 | (v,none)=>H1[v]? = H2[v]?
 | (v,some (o,n))=>H1[v]? = H2[v]?∨∃ t g cs ds,H1[v]? = some (.row t g cs)∧H2[v]? = some (.row t g ds)∧cs.length=ds.length∧∀ i,o≤i→i<o+n→cs[i]? = ds[i]?
def pV(l:List Fp)(H1 H2:U):Prop:=∀ x∈l,Alike x H1 H2
def gO:X→List Nat
 | .t k=>[k]
 | .c _=>[]
def sh(l:List X):List Nat:=(l.map gO).flatten
def B5:Option X→List Nat
 | some x=>gO x
 | none=>[]
def ga:gC→List Nat
 | .mv x=>gO x
 | .pick c a b=>gO c++gO a++gO b
 | .box _ x=>gO x
 | .alloc _ _=>[]
 | .build _ ps=>(ps.map fun p=>gO p.2.2).flatten
 | .buildSl _ _ _ _ ps=>(ps.map fun p=>gO p.2).flatten
 | .ld1 x=>gO x
 | .ldN _ x=>gO x
 | .st1 a x=>gO a++gO x
 | .stN _ a x=>gO a++gO x
 | .nilck x=>gO x
 | .arith _ x y=>gO x++gO y
 | .eqS _ _ _ x y=>gO x++gO y
 | .un _ x=>gO x
 | .conv _ x=>gO x
 | .b2s x=>gO x
 | .mkfn _ a b=>sh a++sh b
 | .mkmap _=>[]
 | .mksl _ _ _ _ l c=>gO l++gO c
 | .slc _ x lo hi=>gO x++B5 lo++B5 hi
 | .slcS x lo hi=>gO x++B5 lo++B5 hi
 | .fieldA _ x=>gO x
 | .field _ _ _ x=>gO x
 | .idxA _ x i=>gO x++gO i
 | .idxArr _ _ x i=>gO x++gO i
 | .idx _ _ _ x i=>gO x++gO i
 | .idxStr x i=>gO x++gO i
 | .lookup _ _ _ m k=>gO m++gO k
 | .mapUpd _ m k x=>gO m++gO k++gO x
 | .ext x _=>gO x
 | .call _ args=>sh args
 | .callN _ args=>sh args
 | .callv f args=>gO f++sh args
 | .app _ _ _ x y=>gO x++gO y
 | .copy _ x y=>gO x++gO y
 | .len _ x=>gO x
 | .minmax _ xs=>sh xs
 | .nilS _ x | .capE x | .clr _ _ x | .rangeS x | .nextS x | .rangeM x | .nextM x | .entry x=>gO x
 | .appZ _ _ _ _ x n=>gO x++gO n
def Bt:gC→Bool
 | .mv _ | .pick .. | .build .. | .nilck _ | .arith .. | .eqS .. | .un .. | .conv .. | .mkfn .. | .slc .. | .slcS .. | .fieldA .. | .field .. | .idxA .. | .idxArr .. | .idx .. | .idxStr .. | .ext .. | .minmax ..
 | .len .slice _ | .len .string _=>true
 | _=>false
def KC:gC→Bool
 | .ld1 _ | .ldN .. | .b2s _ | .lookup .. | .len .. | .call .. | .callv .. => true
 | op=>Bt op
def Hi(a b:gC):Bool:=Bt a||Bt b||(KC a&&KC b)
section
variable{f f':fO}
theorem vz{x:X}(h:∀ t∈gO x,f t=f' t):ev f x=ev f' x:=by
 cases x with
 | t k=>exact h k (by simp[gO])
 | c d=>rfl
theorem vA{l:List X}(h:∀ t∈sh l,f t=f' t):l.map (ev f)=l.map (ev f'):=
 aj fun x hx=>vz fun t ht=>h t (aQ.2 ⟨_,ao.2 ⟨x,hx,rfl⟩,ht⟩)
theorem Ky:∀ {l:List (Nat×Nat×X)},(∀ t∈(l.map fun p=>gO p.2.2).flatten,f t=f' t)→partsOf f l=partsOf f' l
 | [],_=>rfl
 | (o,n,x)::r,h=>by
  have h1:ev f x=ev f' x:=vz fun t ht=>h t (by simp[ht])
  have h2:=Ky (l:=r) fun t ht=>h t (by simp only[List.map_cons,aN,List.mem_append];exact .inr ht)
  simp only[partsOf,h1,h2]
theorem Eu{x:Option X}{n:Int}(h:∀ t∈B5 x,f t=f' t):ij f x n=ij f' x n:=by
 cases x with
 | none=>rfl
 | some x=>simp only[ij,vz (x:=x) h]
theorem O3:∀ {l:List X},(∀ t∈sh l,f t=f' t)→om f l=om f' l
 | [],_=>rfl
 | x::r,h=>by
  have h1:ev f x=ev f' x:=vz fun t ht=>h t (by simp[sh,ht])
  have h2:=O3 (l:=r) fun t ht=>h t (by simp only[sh,List.map_cons,aN,List.mem_append];exact .inr ht)
  simp only[om,h1,h2]
theorem Mi{op:gC}(h:∀ t∈ga op,f t=f' t)(H:U)(n:Nat):fH f H n op=fH f' H n op:=by
 have hx:∀ {x:X},(∀ t∈gO x,t∈ga op)→ev f x=ev f' x:=fun hm=>vz fun t ht=>h t (hm t ht)
 cases op<;>simp only[fH]<;>first|rfl|skip
 case mv x=>rw[hx (x:=x) (fun t ht=>by simpa[ga]using ht)]
 case pick c a b=>rw[hx (x:=c) (fun t ht=>by simp[ga,ht]),hx (x:=a) (fun t ht=>by simp[ga,ht]),hx (x:=b) (fun t ht=>by simp[ga,ht])]
 case box x=>rw[hx (x:=x) (fun t ht=>by simpa[ga]using ht)]
 case build z ps=>simp only[xt,Ky (f:=f) (f':=f') (l:=ps) (fun t ht=>h t (by simpa[ga]using ht))]
 case buildSl t sz z m ps=>
  have:=Ky (f:=f) (f':=f') (l:=ps.map fun p=>(p.1*sz,sz,p.2)) (fun t ht=>h t (by simpa[ga,bA,ej]using ht))
  simp only[tO,this]
 case ld1 x=>rw[hx (x:=x) (fun t ht=>by simpa[ga]using ht)]
 case ldN n x=>rw[hx (x:=x) (fun t ht=>by simpa[ga]using ht)]
 case st1 a x=>rw[hx (x:=a) (fun t ht=>by simp[ga,ht]),hx (x:=x) (fun t ht=>by simp[ga,ht])]
 case stN n a x=>rw[hx (x:=a) (fun t ht=>by simp[ga,ht]),hx (x:=x) (fun t ht=>by simp[ga,ht])]
 case nilck x=>rw[hx (x:=x) (fun t ht=>by simpa[ga]using ht)]
 case arith op x y=>rw[hx (x:=x) (fun t ht=>by simp[ga,ht]),hx (x:=y) (fun t ht=>by simp[ga,ht])]
 case eqS b ls neg x y=>rw[hx (x:=x) (fun t ht=>by simp[ga,ht]),hx (x:=y) (fun t ht=>by simp[ga,ht])]
 case un op x=>rw[hx (x:=x) (fun t ht=>by simpa[ga]using ht)]
 case conv k x=>rw[hx (x:=x) (fun t ht=>by simpa[ga]using ht)]
 case b2s x=>rw[hx (x:=x) (fun t ht=>by simpa[ga]using ht)]
 case mkfn g a b=>rw[vA (f:=f) (f':=f') (l:=a) (fun t ht=>h t (by simp[ga,ht])),vA (f:=f) (f':=f') (l:=b) (fun t ht=>h t (by simp[ga,ht]))]
 case mksl t sz HJ z l c=>rw[hx (x:=l) (fun t ht=>by simp[ga,ht]),hx (x:=c) (fun t ht=>by simp[ga,ht])]
 case slc sz x lo hi=>
  have e1:∀ n,ij f lo n=ij f' lo n:=fun n=>Eu fun t ht=>h t (by simp[ga,ht])
  have e2:∀ n,ij f hi n=ij f' hi n:=fun n=>Eu fun t ht=>h t (by simp[ga,ht])
  simp only[q6,e1,e2,hx (x:=x) (fun t ht=>by simp[ga,ht])]
 case slcS x lo hi=>
  have e1:∀ n,ij f lo n=ij f' lo n:=fun n=>Eu fun t ht=>h t (by simp[ga,ht])
  have e2:∀ n,ij f hi n=ij f' hi n:=fun n=>Eu fun t ht=>h t (by simp[ga,ht])
  simp only[Hc,e1,e2,hx (x:=x) (fun t ht=>by simp[ga,ht])]
 case fieldA o x=>rw[hx (x:=x) (fun t ht=>by simpa[ga]using ht)]
 case field o n b x=>rw[hx (x:=x) (fun t ht=>by simpa[ga]using ht)]
 case idxA sz x i=>rw[hx (x:=x) (fun t ht=>by simp[ga,ht]),hx (x:=i) (fun t ht=>by simp[ga,ht])]
 case idxArr sz n x i=>rw[hx (x:=x) (fun t ht=>by simp[ga,ht]),hx (x:=i) (fun t ht=>by simp[ga,ht])]
 case idx sz n b x i=>rw[hx (x:=x) (fun t ht=>by simp[ga,ht]),hx (x:=i) (fun t ht=>by simp[ga,ht])]
 case idxStr x i=>rw[hx (x:=x) (fun t ht=>by simp[ga,ht]),hx (x:=i) (fun t ht=>by simp[ga,ht])]
 case lookup kk z ok m k=>rw[hx (x:=m) (fun t ht=>by simp[ga,ht]),hx (x:=k) (fun t ht=>by simp[ga,ht])]
 case mapUpd kk m k x=>rw[hx (x:=m) (fun t ht=>by simp[ga,ht]),hx (x:=k) (fun t ht=>by simp[ga,ht]),hx (x:=x) (fun t ht=>by simp[ga,ht])]
 case ext x i=>rw[hx (x:=x) (fun t ht=>by simpa[ga]using ht)]
 case app t sz HJ x y=>rw[hx (x:=x) (fun t ht=>by simp[ga,ht]),hx (x:=y) (fun t ht=>by simp[ga,ht])]
 case copy sz x y=>rw[hx (x:=x) (fun t ht=>by simp[ga,ht]),hx (x:=y) (fun t ht=>by simp[ga,ht])]
 case len k x=>rw[hx (x:=x) (fun t ht=>by simpa[ga]using ht)]
 case minmax b xs=>simp only[yp,O3 (f:=f) (f':=f') (l:=xs) (fun t ht=>h t (by simpa[ga]using ht))]
end
end Go.AL
namespace Go.AL
open Go
theorem EC{f f':fO}{op:gC}(h:∀ t∈ga op,f t=f' t):iW f op=iW f' op:=by
 cases op<;>first|rfl|skip
 case call g args=>simp only[iW,vA (f:=f) (f':=f') (l:=args) (fun t ht=>h t (by simpa[ga]using ht))]
 case callN g args=>simp only[iW,vA (f:=f) (f':=f') (l:=args) (fun t ht=>h t (by simpa[ga]using ht))]
 case callv g args=>
  simp only[iW,vA (f:=f) (f':=f') (l:=args) (fun t ht=>h t (by simp[ga,ht])),vz (f:=f) (f':=f') (x:=g) (fun t ht=>h t (by simp[ga,ht]))]
theorem Fe{f f':fO}{op:gC}(h:∀ t∈ga op,f t=f' t)(H:U):fJ f H op=fJ f' H op:=by
 have hx:∀ {x:X},(∀ t∈gO x,t∈ga op)→ev f x=ev f' x:=fun hm=>vz fun t ht=>h t (hm t ht)
 have hc:=EC h
 cases op<;>simp only[fJ]<;>first|rfl|skip
 case ld1 x=>rw[hx (x:=x) (fun t ht=>by simpa[ga]using ht)]
 case ldN n x=>rw[hx (x:=x) (fun t ht=>by simpa[ga]using ht)]
 case b2s x=>rw[hx (x:=x) (fun t ht=>by simpa[ga]using ht)]
 case st1 a x=>rw[hx (x:=a) (fun t ht=>by simp[ga,ht])]
 case stN n a x=>rw[hx (x:=a) (fun t ht=>by simp[ga,ht])]
 case lookup kk z ok m k=>rw[hx (x:=m) (fun t ht=>by simp[ga,ht])]
 case mapUpd kk m k x=>rw[hx (x:=m) (fun t ht=>by simp[ga,ht])]
 case app t sz HJ x y=>rw[hx (x:=x) (fun t ht=>by simp[ga,ht]),hx (x:=y) (fun t ht=>by simp[ga,ht])]
 case copy sz x y=>rw[hx (x:=x) (fun t ht=>by simp[ga,ht]),hx (x:=y) (fun t ht=>by simp[ga,ht])]
 case len k x=>cases k<;>simp only[fJ]<;>rw[hx (x:=x) (fun t ht=>by simpa[ga]using ht)]
 case call g args=>rw[vA (f:=f) (f':=f') (l:=args) (fun t ht=>h t (by simpa[ga]using ht))]
 case callN g args=>rw[vA (f:=f) (f':=f') (l:=args) (fun t ht=>h t (by simpa[ga]using ht))]
 case callv g args=>rw[hc]
section
variable{H1 H2:U}
theorem GZ{v:Nat}(h:H1[v]? = H2[v]?)(g:Nat):rowAt H1 v g=rowAt H2 v g:=by simp only[rowAt,h]
theorem Ka{v:Nat}(h:H1[v]? = H2[v]?):jU H1 v=jU H2 v:=by simp only[jU,h]
theorem G0{v o n:Nat}(h:Alike (v,some (o,n)) H1 H2)(g:Nat) :
  (rowAt H1 v g=none∧rowAt H2 v g=none)∨∃ t cs ds,rowAt H1 v g=some (t,cs)∧rowAt H2 v g=some (t,ds)∧cs.length=ds.length∧∀ i,o≤i→i<o+n→cs[i]? = ds[i]? := by
 rcases h with h|⟨t,g',cs,ds,h1,h2,h3,h4⟩
 ·rw[GZ h g]
  cases hr:rowAt H2 v g with
  | none=>exact .inl ⟨rfl,rfl⟩
  | some p=>exact .inr ⟨p.1,p.2,p.2,rfl,rfl,rfl,fun _ _ _=>rfl⟩
 ·by_cases e:g'=g
  ·exact .inr ⟨t,cs,ds,by simp[rowAt,h1,e],by simp[rowAt,h2,e],h3,h4⟩
  ·exact .inl ⟨by simp[rowAt,h1,e],by simp[rowAt,h2,e]⟩
theorem KZ{sz:Nat}{d:D}(h:pV (lK d) H1 H2):jM sz H1 d=jM sz H2 d:=by
 unfold jM
 split<;>first|rfl|skip
 rename_i v g fV off len
 have:=h (v,none) (by simp[lK])
 rw[GZ this]
theorem pV.left{a b:List Fp}(h:pV (a++b) H1 H2):pV a H1 H2:=fun x hx=>h x (aR _ hx)
theorem pV.right{a b:List Fp}(h:pV (a++b) H1 H2):pV b H1 H2:=fun x hx=>h x (bw _ hx)
theorem RM{f:fO}{op:gC}(h:pV (fJ f H1 op) H1 H2)(n:Nat):fH f H1 n op=fH f H2 n op:=by
 cases op<;>simp only[fH]<;>first|rfl|skip
 case ld1 x=>
  congr 1
  simp only[fJ]at h
  unfold rX
  split<;>first|rfl|skip
  rename_i v g o hx
  rw[hx]at h
  rcases G0 (h (v,some (o,1)) (by simp[sE])) g with⟨e1,e2⟩|⟨t,cs,ds,e1,e2,e3,e4⟩
  ·rw[e1,e2]
  ·rw[e1,e2];exact e4 o (Nat.le_refl _) (by omega)
 case ldN m x=>
  congr 1
  simp only[fJ]at h
  unfold rY
  split<;>first|rfl|skip
  rename_i v g o hx
  rw[hx]at h
  rcases G0 (h (v,some (o,m)) (by simp[sE])) g with⟨e1,e2⟩|⟨t,cs,ds,e1,e2,e3,e4⟩
  ·rw[e1,e2]
  ·rw[e1,e2]
   have:(cs.drop o).take m=(ds.drop o).take m:=by
    apply bM
    intro i
    simp only[aA,aB]
    split
    ·exact e4 _ (by omega) (by omega)
    ·rfl
   simp only[e3,this]
 case st1 a x=>
  simp only[fJ]at h
  unfold wY
  split<;>first|rfl|skip
  rename_i v g o hx
  rw[hx]at h
  rcases G0 (h (v,some (o,1)) (by simp[sE])) g with⟨e1,e2⟩|⟨t,cs,ds,e1,e2,e3,e4⟩
  ·rw[e1,e2]
  ·rw[e1,e2];simp only[e3]
 case stN m a x=>
  simp only[fJ]at h
  unfold wZ
  split<;>first|rfl|skip
  rename_i v g o xs hx _
  rw[hx]at h
  rcases G0 (h (v,some (o,m)) (by simp[sE])) g with⟨e1,e2⟩|⟨t,cs,ds,e1,e2,e3,e4⟩
  ·rw[e1,e2]
  ·rw[e1,e2];simp only[e3]
 case lookup kk z ok m k=>
  congr 1
  simp only[fJ]at h
  unfold wy
  split<;>first|rfl|skip
  rename_i v kv hx _
  rw[hx]at h
  rw[Ka (h (v,none) (by simp[lK]))]
 case mapUpd kk m k x=>
  simp only[fJ]at h
  unfold uK
  split<;>first|rfl|skip
  rename_i v kv hx _
  rw[hx]at h
  rw[Ka (h (v,none) (by simp[lK]))]
 case b2s x=>
  congr 1
  simp only[fJ]at h
  unfold xm
  rw[KZ (sz:=1) h]
 case len k x=>
  congr 1
  unfold na
  split<;>first|rfl|skip
  rename_i v hx
  simp only[fJ]at h
  rw[hx]at h
  rw[Ka (h (v,none) (by simp[lK]))]
 case app t sz HJ x y=>
  simp only[fJ]at h
  unfold py
  rw[KZ (sz:=sz) h.right]
  split<;>first|rfl|skip
  split<;>first|rfl|skip
  rename_i v g fV off len hx
  rw[hx]at h
  rw[GZ (h (v,none) (by simp[lK]))]
 case copy sz x y=>
  simp only[fJ]at h
  unfold xx
  rw[KZ (sz:=sz) h.right]
  split<;>first|rfl|skip
  rename_i v g fV off len ys n hx _
  rw[hx]at h
  rw[GZ (h (v,none) (by simp[lK]))]
theorem uP(H:U)(v g:Nat):rowAt H v g=match rowsOf H v with|some (t,g',cs)=>if g'=g then some (t,cs)else none|none=>none:=by
 unfold rowAt rowsOf
 cases H[v]? with
 | none=>rfl
 | some o=>cases o<;>rfl
theorem BC:∀ (k:Nat) (d:D),(∀ v∈gh H1 k d,rowsOf H1 v=rowsOf H2 v)→gh H2 k d=gh H1 k d∧eZ (fun _=>none) H2 k d=eZ (fun _=>none) H1 k d
 | 0,d,_=>⟨rfl,rfl⟩
 | k+1,d,h=>by
  have nV:∀ (ds:List D),(∀ v∈(ds.map (gh H1 k)).flatten,rowsOf H1 v=rowsOf H2 v)→ds.map (gh H2 k)=ds.map (gh H1 k)∧ds.map (eZ (fun _=>none) H2 k)=ds.map (eZ (fun _=>none) H1 k):=by
   intro ds lh
   have h1:∀ d∈ds,∀ v∈gh H1 k d,rowsOf H1 v=rowsOf H2 v:=fun d hd v hv=>lh v (aQ.2 ⟨_,ao.2 ⟨d,hd,rfl⟩,hv⟩)
   exact⟨aj fun d hd=>(BC k d (h1 d hd)).1,aj fun d hd=>(BC k d (h1 d hd)).2⟩
  unfold gh at h
  unfold gh eZ
  by_cases hc:closed d=true
  ·simp only[if_pos hc,and_self]
  ·simp only[if_neg hc]at h ⊢
   cases d with
   | agg cs=>obtain⟨a,b⟩:=nV cs h;simp only[a,b,and_self]
   | tup cs=>obtain⟨a,b⟩:=nV cs h;simp only[a,b,and_self]
   | fh cs=>obtain⟨a,b⟩:=nV cs h;simp only[a,b,and_self]
   | sl sz es=>
    have h1:∀ e∈es,e.map (gh H2 k)=e.map (gh H1 k)∧e.map (eZ (fun _=>none) H2 k)=e.map (eZ (fun _=>none) H1 k):=fun e he=>nV e fun v hv=>h v (aQ.2 ⟨_,ao.2 ⟨e,he,rfl⟩,hv⟩)
    have a:es.map (fun e=>(e.map (gh H2 k)).flatten)=es.map (fun e=>(e.map (gh H1 k)).flatten):=aj fun e he=>by rw[(h1 e he).1]
    have b:es.map (fun x=>x.map (eZ (fun _=>none) H2 k))=es.map (fun x=>x.map (eZ (fun _=>none) H1 k)):=aj fun e he=>(h1 e he).2
    simp only[a,b,and_self]
   | fn g x y=>
    obtain⟨a,b⟩:=nV x fun v hv=>h v (aR _ hv)
    obtain⟨a',b'⟩:=nV y fun v hv=>h v (bw _ hv)
    simp only[a,b,a',b',and_self]
   | eT v g sz off len=>
    have hv:rowsOf H1 v=rowsOf H2 v:=h v (by simp)
    simp only[uP,← hv]
    cases gf:rowsOf H1 v with
    | none=>exact⟨rfl,rfl⟩
    | some p=>
     obtain⟨t,g',cs⟩:=p
     obtain⟨l1,l2⟩:=nV cs fun u hu=>h u (by simp only[gf];exact aW _ hu)
     refine⟨by simp only[l1],?_⟩
     by_cases hg:g'=g
     ·simp only[hg,if_true,eP,l2]
     ·simp only[if_neg hg]
   | ptr v g off=>
    have hv:rowsOf H1 v=rowsOf H2 v:=h v (by simp)
    simp only[uP,← hv]
    cases gf:rowsOf H1 v with
    | none=>exact⟨rfl,rfl⟩
    | some p=>
     obtain⟨t,g',cs⟩:=p
     obtain⟨l1,l2⟩:=nV cs fun u hu=>h u (by simp only[gf];exact aW _ hu)
     refine⟨by simp only[l1],?_⟩
     by_cases hg:g'=g
     ·simp only[hg,if_true,eP,l2]
     ·simp only[if_neg hg]
   | _=>exact⟨rfl,rfl⟩
end
end Go.AL
namespace Go.AL
open Go
section
variable{P:Program}{G:GT}{c c2:Ctx}{H Hn:U}{w w2:World}{N:Nat}
theorem kE{ds:List D}(h:fy ds=true):∀ d∈ds,closed d=true:=fun d hd=>by
 obtain⟨i,hi⟩:=aD.1 hd
 exact sI h hi
theorem lI{ρ:Nat→Option Nat}{k:Nat}{d:D}(h:closed d=true):eZ ρ H k d=d:=by
 cases k<;>(unfold eZ;simp[h])
def Ctx.join(c c2:Ctx)(n:Nat)(F:Nat→Prop):Ctx where
 ι:=fun v g=>if v<n then c.ι v g else c2.ι (v-n) g
 F:=F
 RT:=c.RT
theorem A4{F:Nat→Prop}{v:Nat}{L:Loc}(h:jN (c.join c2 H.length F) (H++Hn) v L):(v<H.length∧jN c H v L)∨(H.length≤v∧jN c2 Hn (v-H.length) L):=by
 obtain⟨o,ho,ha,e7⟩:=h
 rcases bq v H.length with hv|hv
 ·rw[ag hv]at ho
  simp only[Ctx.join,if_pos hv]at e7
  exact .inl ⟨hv,o,ho,ha,e7⟩
 ·rw[ak hv]at ho
  simp only[Ctx.join,if_neg (eO.2 hv)]at e7
  exact .inr ⟨hv,o,ho,ha,e7⟩
structure tG(G:GT)(c c2:Ctx)(H Hn:U)(w w2:World)(F:Nat→Prop):Prop where
 eX:fj G c H w
 lk:fj G c2 Hn w2
 nq:iM w w2
 fresh:∀ b,kj c2 Hn b→w.heap.size≤b
 le:∀ b,c.F b→F b
 lt:∀ b,F b→b<w2.heap.size
 n1:∀ b,F b→¬ kj c H b
 n2:∀ b,F b→¬ kj c2 Hn b
 new:∀ b,F b→c.F b∨w.heap.size≤b
 rows:∀ (v:Nat) (o:Ob),Hn[v]? = some o→∃ t g cs,o = .row t g cs∧∀ d∈cs,∀ u,eV c2 w2 u d→eV (c.join c2 H.length F) w2 u d
variable{F:Nat→Prop}
theorem O4(j:tG G c c2 H Hn w w2 F){u:Value}{d:D}(h:eV c w u d):eV (c.join c2 H.length F) w2 u d:=by
 refine h.carry (fun v k L hL=>?_) j.le (fun b o hF=>zI (j.nq.kept b (j.eX.iZ b hF)))
 have hv:v<H.length:=by
  rcases bq v H.length with h|h
  ·exact h
  ·rw[j.eX.out v k h]at hL;cases hL
 simp only[Ctx.join,if_pos hv];exact hL
theorem Gd(j:tG G c c2 H Hn w w2 F):fj G (c.join c2 H.length F) (H++Hn) w2 where
 inj v v' L L' h1 h2 h3 h4 he:=by
  rcases A4 h1 with⟨a,b⟩|⟨a,b⟩<;>rcases A4 h2 with⟨a',b'⟩|⟨a',b'⟩
  ·exact j.eX.inj v v' L L' b b' h3 h4 he
  ·have:=j.eX.lt _ ⟨v,L,b,h3,rfl⟩
   have:=j.fresh _ ⟨_,L',b',h4,rfl⟩
   omega
  ·have:=j.eX.lt _ ⟨v',L',b',h4,rfl⟩
   have:=j.fresh _ ⟨_,L,b,h3,rfl⟩
   omega
  ·have:=j.lk.inj _ _ L L' b b' h3 h4 he
   omega
 lt b hb:=by
  obtain⟨v,L,hl,hv,e⟩:=hb
  rcases A4 hl with⟨_,hl⟩|⟨_,hl⟩
  ·exact aL (j.eX.lt b ⟨v,L,hl,hv,e⟩) j.nq.size
  ·exact j.lk.lt b ⟨_,L,hl,hv,e⟩
 nF b hb hF:=by
  obtain⟨v,L,hl,hv,e⟩:=hb
  rcases A4 hl with⟨_,hl⟩|⟨_,hl⟩
  ·exact j.n1 b hF ⟨v,L,hl,hv,e⟩
  ·exact j.n2 b hF ⟨_,L,hl,hv,e⟩
 iZ b hb:=j.lt b hb
 out v k hv:=by
  simp only[ax]at hv
  simp only[Ctx.join,if_neg (show ¬ v<H.length by omega)]
  exact j.lk.out _ k (by omega)
 km v o k ho hk:=by
  rcases bq v H.length with hv|hv
  ·rw[ag hv]at ho
   simp only[Ctx.join,if_pos hv]
   exact j.eX.km v o k ho hk
  ·rw[ak hv]at ho
   simp only[Ctx.join,if_neg (eO.2 hv)]
   exact j.lk.km _ o k ho hk
 ob v o ho:=by
  rcases bq v H.length with hv|hv
  ·rw[ag hv]at ho
   simp only[Ctx.join,if_pos hv]
   exact fX.mZ (c:=c) (c':=c.join c2 H.length F) rfl (fun _ _ h=>O4 j h) (fun l hl kd hd=>j.nq.kept _ (j.eX.lt _ ⟨v,l,⟨o,ho,hd,hl⟩,kd,rfl⟩)) (j.eX.ob v o ho)
  ·rw[ak hv]at ho
   simp only[Ctx.join,if_neg (eO.2 hv)]
   have h0:=j.lk.ob _ o ho
   obtain⟨t,g,cs,rfl,hr⟩:=j.rows _ o ho
   simp only[Ob.gen]at h0 ⊢
   cases hL:c2.ι (v-H.length) g with
   | none=>rw[hL]at h0;simp[fX]at h0
   | some L=>
    rw[hL]at h0
    simp only[fX]at h0 ⊢
    split
    ·rename_i kV;simp only[kV,if_true]at h0;exact h0
    ·rename_i kV
     simp only[kV]at h0
     obtain⟨arr,h1,h2,h3,h4⟩:=h0
     refine⟨arr,h1,h2,h3,fun i d hd=>?_⟩
     obtain⟨x,nQ,kf,s8⟩:=h4 i d hd
     exact⟨x,nQ,kf,hr d (a7 hd) _ s8⟩
 gl g cs hg:=by
  obtain⟨h1,h2⟩:=j.eX.gl g cs hg
  exact⟨h1,O4 j h2⟩
 rt:=j.eX.rt
theorem Ge(j:tG G c c2 H Hn w w2 F):Step H.length c H w (c.join c2 H.length F) (H++Hn) w2 where
 os:=j.nq.os
 tape:=j.nq.tape
 output:=j.nq.output
 size:=j.nq.size
 RT:=rfl
 Fm b hb:=j.le b hb
 Fn b hb:=(j.new b hb).imp id .inl
 kept b hb _:=j.nq.kept b hb
 old v k L hv h:=by simp only[Ctx.join,if_pos hv];exact h
 own b hb:=by
  obtain⟨v,L,hl,hv,e⟩:=hb
  rcases A4 hl with⟨_,hl⟩|⟨_,hl⟩
  ·exact .inr ⟨v,L,hl,hv,e⟩
  ·exact .inl (j.fresh b ⟨_,L,hl,hv,e⟩)
theorem GR(j:tG G c c2 H Hn w w2 F){p:D→Bool}(hp:∀ d u,p d=true→eV c2 w2 u d→eV (c.join c2 H.length F) w2 u d){u:Value}{r:D}
  (hr:eV c2 w2 u r) (h:r9 p r=true):eV (c.join c2 H.length F) w2 u (iX H.length r):=by
 have AK:∀ v g sz off len u,eV c2 w2 u (.eT v g sz off len)→eV (c.join c2 H.length F) w2 u (.eT (v+H.length) g sz off len):=by
  intro v g sz off len u hr
  cases hr with
  | eT _ _ _ _ _ cap L e7 hv iQ ji kc=>exact .eT _ g sz off len cap L (by simp only[Ctx.join];rw[if_neg (by omega),Nat.add_sub_cancel];exact e7) hv iQ ji kc
  | lu _ _ _ _ L e7 a=>exact .lu _ g sz off L (by simp only[Ctx.join];rw[if_neg (by omega),Nat.add_sub_cancel];exact e7) a
 have h1:∀ (d:D) (u:Value),th p d=true→eV c2 w2 u d→eV (c.join c2 H.length F) w2 u (te H.length d):=by
  intro d u hd hr
  cases d<;>first|exact AK _ _ _ _ _ _ hr|exact hp _ _ hd hr
 cases r with
 | tup ds=>
  cases hr with
  | tup vs _ hl s6=>
   simp only[iX]
   refine .tup vs _ (by simpa using hl) fun i v d hv hd=>?_
   simp only[au,ai]at hd
   obtain⟨d0,jq,rfl⟩:=hd
   exact h1 d0 v (ar.1 h d0 (a7 jq)) (s6 i v d0 hv jq)
 | agg ds=>
  cases hr with
  | agg vs _ hl ho s6=>
   simp only[iX]
   refine .agg vs _ (by simpa using hl) ho fun i v d hv hd=>?_
   simp only[au,ai]at hd
   obtain⟨d0,jq,rfl⟩:=hd
   exact h1 d0 v (ar.1 h d0 (a7 jq)) (s6 i v d0 hv jq)
 | eT v g sz off len=>exact AK _ _ _ _ _ _ hr
 | _=>exact hp _ _ h hr
def Ctx.data(c:Ctx)(F:Nat→Prop):Ctx where
 ι:=fun _ _=>none
 F:=F
 RT:=c.RT
theorem ES(h:fj G c H w):fj G (c.data c.F) [] w where
 inj v v' L L' h1:=by obtain⟨o,ho,_⟩:=h1;simp at ho
 lt b hb:=by obtain⟨v,L,⟨o,ho,_⟩,_⟩:=hb;simp at ho
 nF b hb:=by obtain⟨v,L,⟨o,ho,_⟩,_⟩:=hb;simp at ho
 iZ b hb:=h.iZ b hb
 out _ _ _:=rfl
 km _ _ _ _ _:=rfl
 ob v o ho:=by simp at ho
 gl g cs hg:=by
  obtain⟨h1,h2⟩:=h.gl g cs hg
  exact⟨h1,eV.closed (c:=c) (c':=c.data c.F) (fun b hb=>hb) h2 (by simpa[AL.closed]using h1)⟩
 rt:=h.rt
theorem pP{c:Ctx}{b:Nat}:¬ kj c [] b:=by
 rintro⟨v,L,⟨o,ho,_⟩,_⟩
 simp at ho
theorem vG{n:Nat}{c0:Ctx}(hs:Step n c0 [] w c2 Hn w2):iM w w2:=
 ⟨hs.os,hs.tape,hs.output,hs.size,fun b hb=>hs.kept b hb pP⟩
theorem MF(h:Hn.all l9=true){v:Nat}{o:Ob}(ho:Hn[v]? = some o):∃ t g cs,o = .row t g cs∧∀ d∈cs,closed d=true:=by
 have:=ar.1 h o (a7 ho)
 cases o<;>simp only[l9]at this<;>first|cases this;done|skip
 exact⟨_,_,_,rfl,kE this⟩
theorem Nx(h:Hn.all nk=true){v:Nat}{o:Ob}(ho:Hn[v]? = some o):∃ t g cs,o = .row t g cs∧∀ d∈cs,flat d=true:=by
 have:=ar.1 h o (a7 ho)
 cases o<;>simp only[nk]at this<;>first|cases this;done|skip
 refine⟨_,_,_,rfl,fun d hd=>?_⟩
 obtain⟨i,hi⟩:=aD.1 hd
 exact xE this hi
def tA(P:Program)(G:GT)(f:FuncId)(args:List D)(H:U)(d:D)(H':U):Prop:=
 ∀ (c:Ctx) (w:World) (vs:List Value),fj G c H w→ig c w vs args →
  Calls P f vs.toArray w fun e w'=>∃ v c',e = .returned v∧fj G c' H' w'∧eV c' w' v d∧Step H.length c H w c' H' w'
def re(P:Program)(G:GT)(f:FuncId)(args:List D)(H:U)(R:D→U→Prop):Prop:=
 ∀ (c:Ctx) (w:World) (vs:List Value),fj G c H w→ig c w vs args →
  Calls P f vs.toArray w fun e w'=>∃ v c' d H',e = .returned v∧R d H'∧H.length≤H'.length∧fj G c' H' w'∧eV c' w' v d∧Step H.length c H w c' H' w'
theorem re.one{f:FuncId}{args:List D}{H:U}{R:D→U→Prop}{d:D}{H':U}(h:re P G f args H R)(h1:∀ d' Hn,R d' Hn→d'=d∧Hn=H'):tA P G f args H d H':=
 fun c w vs h2 h3=>(h c w vs h2 h3).mono fun _ _ ⟨v,c',_,_,he,hR,_,a,b,e⟩=>by
  obtain⟨rfl,rfl⟩:=h1 _ _ hR
  exact⟨v,c',he,a,b,e⟩
theorem KT:eZ (fun _=>none) H 40=eZ (fL []) H 40:=rfl
theorem ig.map{c c':Ctx}{f:D→D}(hr:∀ v d,eV c w v d→eV c' w v (f d)){vs:List Value}{ds:List D}(h:ig c w vs ds):ig c' w vs (ds.map f):=by
 induction h with
 | nil=>exact .nil
 | cons h _ ih=>exact .cons (hr _ _ h) ih
theorem Qn(eX:fj G c H w){f:FuncId}{vs:List Value}{args:List D}{d:D}(hr:ig c w vs args)(ix:tA P G f (args.map (eZ (fun _=>none) H 40)) [] d Hn)
  (hc:(if fy args then kW d&&Hn.all l9 else mN d&&Hn.all nk)=true) :
  Calls P f vs.toArray w fun e w'=>∃ v c',e = .returned v∧fj G c' (H++Hn) w'∧eV c' w' v (iX H.length d)∧Step H.length c H w c' (H++Hn) w':=by
 by_cases fQ:fy args=true
 ·rw[if_pos fQ]at hc
  simp only[ah]at hc
  have e:args.map (eZ (fun _=>none) H 40)=args:=by
   conv=>rhs;rw[← aT args]
   exact aj fun d hd=>lI (kE fQ d hd)
  rw[e]at ix
  have qN:ig (c.data c.F) w vs args:=by
   clear ix hc e
   induction hr with
   | nil=>exact .nil
   | cons h _ ih=>
    simp only[fy,ah]at fQ
    exact .cons (eV.closed (c:=c) (c':=c.data c.F) (fun b hb=>hb) h fQ.1) (ih fQ.2)
  refine(ix _ w vs (ES eX) qN).mono ?_
  rintro e w' ⟨v,c2,he,h2,hv,fg⟩
  have hg:=vG fg
  have hF:∀ b,c2.F b→c.F b∨w.heap.size≤b:=fun b hb=>by
   rcases fg.Fn b hb with h|h|h
   ·exact .inl h
   ·exact .inr h
   ·exact absurd h pP
  have j:tG G c c2 H Hn w w' c2.F:={
   eX:=eX
   lk:=h2
   nq:=hg
   fresh:=fun b hb=>by
    rcases fg.own b hb with h|h
    ·exact h
    ·exact absurd h pP
   le:=fun b hb=>fg.Fm b hb
   lt:=h2.iZ
   n1:=fun b hb ho=>by
    rcases hF b hb with h|h
    ·exact eX.nF b ho h
    ·have:=eX.lt b ho;omega
   n2:=fun b hb ho=>h2.nF b ho hb
   new:=hF
   rows:=fun v o ho=>by
    obtain⟨t,g,cs,rfl,ic⟩:=MF hc.2 ho
    exact⟨t,g,cs,rfl,fun d hd u hu=>eV.closed (c:=c2) (c':=c.join c2 H.length c2.F) (fun b hb=>hb) hu (ic d hd)⟩ }
  exact⟨v,_,he,Gd j,GR j (p:=AL.closed) (fun d u hd hu=>eV.closed (c:=c2) (c':=c.join c2 H.length c2.F) (fun b hb=>hb) hu hd) hv hc.1,Ge j⟩
 ·rw[if_neg fQ]at hc
  simp only[ah]at hc
  have qN:ig (c.eZ [] H) w vs (args.map (eZ (fun _=>none) H 40)):=hr.map fun v d h=>by
   rw[KT];exact uN eX 40 h
  have AI:fj G (c.eZ [] H) [] w:=yI (ks:=[]) eX (fun i j p q hp=>by simp at hp)
  refine(ix _ w vs AI qN).mono ?_
  rintro e w' ⟨v,c2,he,h2,hv,fg⟩
  have hg:=vG fg
  have j:tG G c c2 H Hn w w' c.F:={
   eX:=eX
   lk:=h2
   nq:=hg
   fresh:=fun b hb=>by
    rcases fg.own b hb with h|h
    ·exact h
    ·exact absurd h pP
   le:=fun b hb=>hb
   lt:=fun b hb=>aL (eX.iZ b hb) hg.size
   n1:=fun b hb ho=>eX.nF b ho hb
   n2:=fun b hb ho=>by
    rcases fg.own b ho with h|h
    ·have:=eX.iZ b hb;omega
    ·exact absurd h pP
   new:=fun b hb=>.inl hb
   rows:=fun v o ho=>by
    obtain⟨t,g,cs,rfl,ic⟩:=Nx hc.2 ho
    exact⟨t,g,cs,rfl,fun d hd u hu=>eV.flat hu (ic d hd)⟩ }
  exact⟨v,_,he,Gd j,GR j (p:=AL.flat) (fun d u hd hu=>eV.flat hu hd) hv hc.1,Ge j⟩
theorem ac1(eX:fj G c H w){f:FuncId}{vs:List Value}{args:List D}{R:D→U→Prop}(hr:ig c w vs args)(ix:re P G f (args.map (eZ (fun _=>none) H 40)) [] R)
  (hc:∀ d Hn,R d Hn→(if fy args then kW d&&Hn.all l9 else mN d&&Hn.all nk)=true) :
  Calls P f vs.toArray w fun e w'=>∃ v c' d Hn,e = .returned v∧R d Hn∧fj G c' (H++Hn) w'∧eV c' w' v (iX H.length d)∧Step H.length c H w c' (H++Hn) w':=by
 by_cases fQ:fy args=true
 ·simp only[if_pos fQ,ah]at hc
  have e:args.map (eZ (fun _=>none) H 40)=args:=by
   conv=>rhs;rw[← aT args]
   exact aj fun d hd=>lI (kE fQ d hd)
  rw[e]at ix
  have qN:ig (c.data c.F) w vs args:=by
   clear ix hc e
   induction hr with
   | nil=>exact .nil
   | cons h _ ih=>
    simp only[fy,ah]at fQ
    exact .cons (eV.closed (c:=c) (c':=c.data c.F) (fun b hb=>hb) h fQ.1) (ih fQ.2)
  refine(ix _ w vs (ES eX) qN).mono ?_
  rintro e w' ⟨v,c2,d,Hn,he,hR,_,h2,hv,fg⟩
  have hc:=hc d Hn hR
  have hg:=vG fg
  have hF:∀ b,c2.F b→c.F b∨w.heap.size≤b:=fun b hb=>by
   rcases fg.Fn b hb with h|h|h
   ·exact .inl h
   ·exact .inr h
   ·exact absurd h pP
  have j:tG G c c2 H Hn w w' c2.F:={
   eX:=eX
   lk:=h2
   nq:=hg
   fresh:=fun b hb=>by
    rcases fg.own b hb with h|h
    ·exact h
    ·exact absurd h pP
   le:=fun b hb=>fg.Fm b hb
   lt:=h2.iZ
   n1:=fun b hb ho=>by
    rcases hF b hb with h|h
    ·exact eX.nF b ho h
    ·have:=eX.lt b ho;omega
   n2:=fun b hb ho=>h2.nF b ho hb
   new:=hF
   rows:=fun v o ho=>by
    obtain⟨t,g,cs,rfl,ic⟩:=MF hc.2 ho
    exact⟨t,g,cs,rfl,fun d hd u hu=>eV.closed (c:=c2) (c':=c.join c2 H.length c2.F) (fun b hb=>hb) hu (ic d hd)⟩ }
  exact⟨v,_,d,Hn,he,hR,Gd j,GR j (p:=AL.closed) (fun d u hd hu=>eV.closed (c:=c2) (c':=c.join c2 H.length c2.F) (fun b hb=>hb) hu hd) hv hc.1,Ge j⟩
 ·simp only[if_neg fQ,ah]at hc
  have qN:ig (c.eZ [] H) w vs (args.map (eZ (fun _=>none) H 40)):=hr.map fun v d h=>by
   rw[KT];exact uN eX 40 h
  have AI:fj G (c.eZ [] H) [] w:=yI (ks:=[]) eX (fun i j p q hp=>by simp at hp)
  refine(ix _ w vs AI qN).mono ?_
  rintro e w' ⟨v,c2,d,Hn,he,hR,_,h2,hv,fg⟩
  have hc:=hc d Hn hR
  have hg:=vG fg
  have j:tG G c c2 H Hn w w' c.F:={
   eX:=eX
   lk:=h2
   nq:=hg
   fresh:=fun b hb=>by
    rcases fg.own b hb with h|h
    ·exact h
    ·exact absurd h pP
   le:=fun b hb=>hb
   lt:=fun b hb=>aL (eX.iZ b hb) hg.size
   n1:=fun b hb ho=>eX.nF b ho hb
   n2:=fun b hb ho=>by
    rcases fg.own b ho with h|h
    ·have:=eX.iZ b hb;omega
    ·exact absurd h pP
   new:=fun b hb=>.inl hb
   rows:=fun v o ho=>by
    obtain⟨t,g,cs,rfl,ic⟩:=Nx hc.2 ho
    exact⟨t,g,cs,rfl,fun d hd u hu=>eV.flat hu (ic d hd)⟩ }
  exact⟨v,_,d,Hn,he,hR,Gd j,GR j (p:=AL.flat) (fun d u hd hu=>eV.flat hu hd) hv hc.1,Ge j⟩
def Ctx.mj(c c2:Ctx)(n:Nat)(F:Nat→Prop):Ctx where
 ι:=fun v g=>if v=n then c2.ι 0 g else c.ι v g
 F:=F
 RT:=c.RT
theorem Bu{n:Nat}{ob:Ob}(hn:H[n]? = some .hole){F:Nat→Prop}{v:Nat}{L:Loc}(h:jN (c.mj c2 n F) (H.set n ob) v L):(v≠n∧jN c H v L)∨(v=n∧jN c2 [ob] 0 L):=by
 obtain⟨o,ho,ha,e7⟩:=h
 rw[oQ (ae.1 hn).1]at ho
 by_cases hv:v=n
 ·subst hv
  rw[if_pos rfl]at ho
  cases ho
  simp only[Ctx.mj,if_true]at e7
  exact .inr ⟨rfl,ob,rfl,ha,e7⟩
 ·rw[if_neg hv]at ho
  simp only[Ctx.mj,if_neg hv]at e7
  exact .inl ⟨hv,o,ho,ha,e7⟩
theorem ac0(eX:fj G c H w){f:FuncId}{vs:List Value}{args:List D}{d:D}{ob:Ob}{n:Nat}(hr:ig c w vs args)(ix:tA P G f (args.map (eZ (fun _=>none) H 40)) [] d [ob])
  (hc:(if fy args then kW d&&l9 ob else mN d&&nk ob)=true) (hn:H[n]? = some .hole) :
  Calls P f vs.toArray w fun e w'=>∃ v c',e = .returned v∧fj G c' (H.set n ob) w'∧eV c' w' v (iX n d)∧Step H.length c H w c' (H.set n ob) w':=by
 have ft:=(ae.1 hn).1
 have N0:∀ k,c.ι n k=none:=fun k=>eX.km n _ k hn (.inl rfl)
 have main:∀ (c2:Ctx) (w':World) (v:Value) (F:Nat→Prop),fj G c2 [ob] w'→eV c2 w' v d→iM w w'→(∀ b,kj c2 [ob] b→w.heap.size≤b)→(∀ b,c.F b→F b)→(∀ b,F b→b<w'.heap.size) →
   (∀ b,F b→¬ kj c H b)→(∀ b,F b→¬ kj c2 [ob] b)→(∀ b,F b→c.F b∨w.heap.size≤b)→∀ (p:D→Bool),(∀ d u,p d=true→eV c2 w' u d→eV (c.mj c2 n F) w' u d)→r9 p d=true →
   (∃ t g cs,ob = .row t g cs∧∀ d∈cs,p d=true) →
   fj G (c.mj c2 n F) (H.set n ob) w'∧eV (c.mj c2 n F) w' v (iX n d)∧Step H.length c H w (c.mj c2 n F) (H.set n ob) w':=by
  intro c2 w' v F lk hv hg I7 hle VD VI VJ kT p hp hd gi
  have carry:∀ {u:Value} {d:D},eV c w u d→eV (c.mj c2 n F) w' u d:=fun h=>by
   refine h.carry (fun v k L hL=>?_) hle (fun b o hF=>zI (hg.kept b (eX.iZ b hF)))
   have gd:v≠n:=fun e=>by rw[e,N0]at hL;cases hL
   simp only[Ctx.mj,if_neg gd];exact hL
  have AK:∀ v g sz off len u,eV c2 w' u (.eT v g sz off len)→(v=0)→eV (c.mj c2 n F) w' u (.eT (v+n) g sz off len):=by
   intro v g sz off len u hr h0
   subst h0
   cases hr with
   | eT _ _ _ _ _ cap L e7 hv iQ ji kc=>exact .eT _ g sz off len cap L (by simp only[Ctx.mj,aY,if_true];exact e7) hv iQ ji kc
   | lu _ _ _ _ L e7 a=>exact .lu _ g sz off L (by simp only[Ctx.mj,aY,if_true];exact e7) a
  have hz:∀ v g sz off len u,eV c2 w' u (.eT v g sz off len)→v=0:=by
   intro v g sz off len u hr
   have:∃ L,c2.ι v g=some L:=by
    cases hr with
    | eT _ _ _ _ _ cap L e7=>exact⟨L,e7⟩
    | lu _ _ _ _ L e7=>exact⟨L,e7⟩
   obtain⟨L,hL⟩:=this
   rcases ea v with h|h
   ·exact h
   ·rw[lk.out v g (by show 1≤v;exact h)]at hL;cases hL
  have h1:∀ (d:D) (u:Value),th p d=true→eV c2 w' u d→eV (c.mj c2 n F) w' u (te n d):=by
   intro d u hd hr
   cases d<;>first|exact AK _ _ _ _ _ _ hr (hz _ _ _ _ _ _ hr)|exact hp _ _ hd hr
  refine⟨{
   inj:=fun v v' L L' h1 h2 h3 h4 he=>by
    rcases Bu hn h1 with⟨a,b⟩|⟨a,b⟩<;>rcases Bu hn h2 with⟨a',b'⟩|⟨a',b'⟩
    ·exact eX.inj v v' L L' b b' h3 h4 he
    ·have:=eX.lt _ ⟨v,L,b,h3,rfl⟩
     have:=I7 _ ⟨_,L',b',h4,rfl⟩
     omega
    ·have:=eX.lt _ ⟨v',L',b',h4,rfl⟩
     have:=I7 _ ⟨_,L,b,h3,rfl⟩
     omega
    ·rw[a,a']
   lt:=fun b hb=>by
    obtain⟨v,L,hl,hv,e⟩:=hb
    rcases Bu hn hl with⟨_,hl⟩|⟨_,hl⟩
    ·exact aL (eX.lt b ⟨v,L,hl,hv,e⟩) hg.size
    ·exact lk.lt b ⟨_,L,hl,hv,e⟩
   nF:=fun b hb hF=>by
    obtain⟨v,L,hl,hv,e⟩:=hb
    rcases Bu hn hl with⟨_,hl⟩|⟨_,hl⟩
    ·exact VI b hF ⟨v,L,hl,hv,e⟩
    ·exact VJ b hF ⟨_,L,hl,hv,e⟩
   iZ:=VD
   out:=fun v k hv=>by
    simp only[bP]at hv
    simp only[Ctx.mj,if_neg (show ¬ v=n by omega)]
    exact eX.out _ k hv
   km:=fun v o k ho hk=>by
    rw[oQ ft]at ho
    by_cases hv:v=n
    ·subst hv
     rw[if_pos rfl]at ho
     cases ho
     simp only[Ctx.mj,if_true]
     exact lk.km 0 _ k rfl hk
    ·rw[if_neg hv]at ho
     simp only[Ctx.mj,if_neg hv]
     exact eX.km v o k ho hk
   ob:=fun v o ho=>by
    rw[oQ ft]at ho
    by_cases hv:v=n
    ·subst hv
     rw[if_pos rfl]at ho
     cases ho
     simp only[Ctx.mj,if_true]
     have h0:=lk.ob 0 _ rfl
     obtain⟨t,g,cs,rfl,ic⟩:=gi
     simp only[Ob.gen]at h0 ⊢
     cases hL:c2.ι 0 g with
     | none=>rw[hL]at h0;simp[fX]at h0
     | some L=>
      rw[hL]at h0
      simp only[fX]at h0 ⊢
      split
      ·rename_i kV;simp only[kV,if_true]at h0;exact h0
      ·rename_i kV
       simp only[kV]at h0
       obtain⟨arr,h1,h2,h3,h4⟩:=h0
       refine⟨arr,h1,h2,h3,fun i d hd=>?_⟩
       obtain⟨x,nQ,kf,s8⟩:=h4 i d hd
       exact⟨x,nQ,kf,hp d _ (ic d (a7 hd)) s8⟩
    ·rw[if_neg hv]at ho
     simp only[Ctx.mj,if_neg hv]
     exact fX.mZ (c:=c) (c':=c.mj c2 n F) rfl (fun _ _ h=>carry h) (fun l hl kd hd=>hg.kept _ (eX.lt _ ⟨v,l,⟨o,ho,hd,hl⟩,kd,rfl⟩)) (eX.ob v o ho)
   gl:=fun g cs hg=>by
    obtain⟨h1,h2⟩:=eX.gl g cs hg
    exact⟨h1,carry h2⟩
   rt:=eX.rt },?_,?_⟩
  ·cases d with
   | tup ds=>
    cases hv with
    | tup vs _ hl s6=>
     simp only[iX]
     refine .tup vs _ (by simpa using hl) fun i v d hv mE=>?_
     simp only[au,ai]at mE
     obtain⟨d0,jq,rfl⟩:=mE
     exact h1 d0 v (ar.1 hd d0 (a7 jq)) (s6 i v d0 hv jq)
   | agg ds=>
    cases hv with
    | agg vs _ hl ho s6=>
     simp only[iX]
     refine .agg vs _ (by simpa using hl) ho fun i v d hv mE=>?_
     simp only[au,ai]at mE
     obtain⟨d0,jq,rfl⟩:=mE
     exact h1 d0 v (ar.1 hd d0 (a7 jq)) (s6 i v d0 hv jq)
   | eT v g sz off len=>exact AK _ _ _ _ _ _ hv (hz _ _ _ _ _ _ hv)
   | _=>exact hp _ _ hd hv
  ·exact{
    os:=hg.os
    tape:=hg.tape
    output:=hg.output
    size:=hg.size
    RT:=rfl
    Fm:=hle
    Fn:=fun b hb=>(kT b hb).imp id .inl
    kept:=fun b hb _=>hg.kept b hb
    old:=fun v k L hv h=>by
     have gd:v≠n:=fun e=>by rw[e,N0]at h;cases h
     simp only[Ctx.mj,if_neg gd];exact h
    own:=fun b hb=>by
     obtain⟨v,L,hl,hv,e⟩:=hb
     rcases Bu hn hl with⟨_,hl⟩|⟨_,hl⟩
     ·exact .inr ⟨v,L,hl,hv,e⟩
     ·exact .inl (I7 b ⟨_,L,hl,hv,e⟩) }
 by_cases fQ:fy args=true
 ·simp only[if_pos fQ,ah]at hc
  have e:args.map (eZ (fun _=>none) H 40)=args:=by
   conv=>rhs;rw[← aT args]
   exact aj fun d hd=>lI (kE fQ d hd)
  rw[e]at ix
  have qN:ig (c.data c.F) w vs args:=by
   clear ix hc e
   induction hr with
   | nil=>exact .nil
   | cons h _ ih=>
    simp only[fy,ah]at fQ
    exact .cons (eV.closed (c:=c) (c':=c.data c.F) (fun b hb=>hb) h fQ.1) (ih fQ.2)
  refine(ix _ w vs (ES eX) qN).mono ?_
  rintro e w' ⟨v,c2,he,h2,hv,fg⟩
  have hg:=vG fg
  have hF:∀ b,c2.F b→c.F b∨w.heap.size≤b:=fun b hb=>by
   rcases fg.Fn b hb with h|h|h
   ·exact .inl h
   ·exact .inr h
   ·exact absurd h pP
  obtain⟨m1,m2,m3⟩:=main c2 w' v c2.F h2 hv hg (fun b hb=>by
    rcases fg.own b hb with h|h
    ·exact h
    ·exact absurd h pP) (fun b hb=>fg.Fm b hb) h2.iZ (fun b hb ho=>by
    rcases hF b hb with h|h
    ·exact eX.nF b ho h
    ·have:=eX.lt b ho;omega) (fun b hb ho=>h2.nF b ho hb) hF AL.closed (fun d u hd hu=>eV.closed (c:=c2) (c':=c.mj c2 n c2.F) (fun b hb=>hb) hu hd) hc.1 (by
    have:=hc.2
    cases ob<;>simp only[l9]at this<;>first|(cases this;done)|skip
    exact⟨_,_,_,rfl,kE this⟩)
  exact⟨v,_,he,m1,m2,m3⟩
 ·simp only[if_neg fQ,ah]at hc
  have qN:ig (c.eZ [] H) w vs (args.map (eZ (fun _=>none) H 40)):=hr.map fun v d h=>by
   rw[KT];exact uN eX 40 h
  have AI:fj G (c.eZ [] H) [] w:=yI (ks:=[]) eX (fun i j p q hp=>by simp at hp)
  refine(ix _ w vs AI qN).mono ?_
  rintro e w' ⟨v,c2,he,h2,hv,fg⟩
  have hg:=vG fg
  obtain⟨m1,m2,m3⟩:=main c2 w' v c.F h2 hv hg (fun b hb=>by
    rcases fg.own b hb with h|h
    ·exact h
    ·exact absurd h pP) (fun b hb=>hb) (fun b hb=>aL (eX.iZ b hb) hg.size) (fun b hb ho=>eX.nF b ho hb) (fun b hb ho=>by
    rcases fg.own b ho with h|h
    ·have:=eX.iZ b hb;omega
    ·exact absurd h pP) (fun b hb=>.inl hb) AL.flat (fun d u hd hu=>eV.flat hu hd) hc.1 (by
    have:=hc.2
    cases ob<;>simp only[nk]at this<;>first|(cases this;done)|skip
    refine⟨_,_,_,rfl,fun d hd=>?_⟩
    obtain⟨i,hi⟩:=aD.1 hd
    exact xE this hi)
  exact⟨v,_,he,m1,m2,m3⟩
theorem adl{S:List Nat}{v:Nat}(hv:v∈S):fL (jR H S) v=none:=by
 unfold fL jR
 rw[cp]
 intro p hp
 obtain⟨u,_,rfl⟩:=ao.1 hp
 by_cases hu:u=v
 ·subst hu;simp[hv]
 ·simp[hu]
theorem Q1{v:Nat}:∀ (k:Nat) (d:D),(∀ u∈gh H k d,u=v)→AL.eZ (fL (jR H [v])) H k d=AL.eZ (fun _=>none) H k d
 | 0,d,_=>rfl
 | k+1,d,h=>by
  have hv:fL (jR H [v]) v=none:=adl (by simp)
  have nV:∀ (ds:List D),(∀ u∈(ds.map (gh H k)).flatten,u=v)→ds.map (AL.eZ (fL (jR H [v])) H k)=ds.map (AL.eZ (fun _=>none) H k):=fun ds lh=>
   aj fun d hd=>Q1 k d fun u hu=>lh u (aQ.2 ⟨_,ao.2 ⟨d,hd,rfl⟩,hu⟩)
  unfold gh at h
  unfold AL.eZ
  by_cases hc:AL.closed d=true
  ·simp only[if_pos hc]
  ·simp only[if_neg hc]at h ⊢
   cases d with
   | agg cs=>simp only[nV cs h]
   | tup cs=>simp only[nV cs h]
   | fh cs=>simp only[nV cs h]
   | sl sz es=>
    have:es.map (fun x=>x.map (AL.eZ (fL (jR H [v])) H k))=es.map (fun x=>x.map (AL.eZ (fun _=>none) H k)):=aj fun e he=>nV e fun u hu=>h u (aQ.2 ⟨_,ao.2 ⟨e,he,rfl⟩,hu⟩)
    simp only[this]
   | fn g x y=>
    have h1:=nV x fun u hu=>h u (aR _ hu)
    have h2:=nV y fun u hu=>h u (bw _ hu)
    simp only[h1,h2]
   | eT u g sz off len=>
    have hu:u=v:=h u (by simp)
    subst hu
    simp only[hv]
    cases gf:rowsOf H u with
    | none=>simp only[uP,gf]
    | some p=>
     obtain⟨t,g',cs⟩:=p
     simp only[uP,gf]
     by_cases hg:g'=g
     ·simp only[hg,if_true]
      have:=nV (cs.drop (off*sz)) fun w hw=>by
       obtain⟨l,hl,JM⟩:=aQ.1 hw
       obtain⟨d,hd,rfl⟩:=ao.1 hl
       exact h w (by simp only[gf];exact aW _ (aQ.2 ⟨_,ao.2 ⟨d,bX hd,rfl⟩,JM⟩))
      rw[this]
     ·simp only[if_neg hg]
   | ptr u g off=>
    have hu:u=v:=h u (by simp)
    subst hu
    simp only[hv]
    cases gf:rowsOf H u with
    | none=>simp only[uP,gf]
    | some p=>
     obtain⟨t,g',cs⟩:=p
     simp only[uP,gf]
     by_cases hg:g'=g
     ·simp only[hg,if_true]
      have:=nV (cs.drop off) fun w hw=>by
       obtain⟨l,hl,JM⟩:=aQ.1 hw
       obtain⟨d,hd,rfl⟩:=ao.1 hl
       exact h w (by simp only[gf];exact aW _ (aQ.2 ⟨_,ao.2 ⟨d,bX hd,rfl⟩,JM⟩))
      rw[this]
     ·simp only[if_neg hg]
   | omap u=>
    have hu:u=v:=h u (by simp)
    subst hu
    simp only[hv]
   | gP u=>
    have hu:u=v:=h u (by simp)
    subst hu
    simp only[hv]
   | _=>rfl
theorem Xx(h:fj G c H w){v:Nat}{t:TypeId}{g:Nat}{cs:List D}(hv:H[v]? = some (.row t g cs)) :
  ∃ c',fj G c' (H.set v .dead) w∧Step H.length c H w c' (H.set v .dead) w∧(∀ u d,eV c w u d→eV c' w u d)∧∀ b,(c.eZ (jR H [v]) H).F b→c'.F b:=by
 have ft:=(ae.1 hv).1
 have hL:∀ c':Ctx,(∀ u k,c'.ι u k=c.ι u k)→∀ u l,jN c' (H.set v .dead) u l→u≠v∧jN c H u l:=by
  rintro c' e7 u l ⟨o,ho,fZ,hi⟩
  rw[oQ ft]at ho
  split at ho
  ·cases ho;cases fZ
  ·rename_i gd;exact⟨gd,o,ho,fZ,by rw[← e7];exact hi⟩
 let c':Ctx:={ c with F:=fun b=>c.F b∨∃ L,c.ι v g=some L∧L.iv=false∧L.b=b }
 have e7:∀ u k,c'.ι u k=c.ι u k:=fun _ _=>rfl
 have hr:∀ u d,eV c w u d→eV c' w u d:=fun u d hd=>eV.carry (c:=c) (c':=c') (w:=w) (w':=w) (fun _ _ _ h=>h) (fun b hb=>Or.inl hb) (fun _ _ _=>rfl) hd
 have o6:∀ b,kj c' (H.set v .dead) b→kj c H b:=fun b ⟨u,l,hl,r⟩=>⟨u,l,(hL c' e7 u l hl).2,r⟩
 refine⟨c',{
  inj:=fun u u' l l' h1 h2=>h.inj u u' l l' (hL c' e7 _ _ h1).2 (hL c' e7 _ _ h2).2
  lt:=fun b hb=>h.lt b (o6 b hb)
  nF:=fun b hb hF=>by
   obtain⟨u,l,hl,gT,e⟩:=hb
   obtain⟨gd,lj⟩:=hL c' e7 u l hl
   rcases hF with hF|⟨L,Ai,gw,eL⟩
   ·exact h.nF b ⟨u,l,lj,gT,e⟩ hF
   ·exact gd (h.inj u v l L lj ⟨_,hv,rfl,Ai⟩ gT gw (e.trans eL.symm))
  iZ:=fun b hb=>by
   rcases hb with hb|⟨L,Ai,gw,eL⟩
   ·exact h.iZ b hb
   ·exact eL▸h.lt _ ⟨v,L,⟨_,hv,rfl,Ai⟩,gw,rfl⟩
  out:=fun u k hu=>h.out u k (by simpa using hu)
  km:=fun u o k ho hk=>by
   rw[oQ ft]at ho
   split at ho
   ·cases ho
    rcases hk with hk|⟨hk,_⟩<;>cases hk
   ·exact h.km u o k ho hk
  ob:=fun u o ho=>by
   rw[oQ ft]at ho
   split at ho
   ·cases ho;simp[fX]
   ·exact fX.mZ (c:=c) (c':=c') rfl hr (fun _ _ _ _=>rfl) (h.ob u o ho)
  gl:=fun g cs hg=>let ⟨a,b⟩:=h.gl g cs hg;⟨a,hr _ _ b⟩
  rt:=h.rt },?_,hr,fun b hb=>?_⟩
 ·exact{
   os:=⟨rfl,Nat.le_refl _⟩,tape:=rfl,output:=rfl,size:=Nat.le_refl _,RT:=rfl
   Fm:=fun b hb=>Or.inl hb
   Fn:=fun b hb=>by
    rcases hb with hb|⟨L,Ai,gw,eL⟩
    ·exact .inl hb
    ·exact .inr (.inr ⟨v,L,⟨_,hv,rfl,Ai⟩,gw,eL⟩)
   kept:=fun _ _ _=>rfl
   old:=fun _ _ _ _ h=>h
   own:=fun b hb=>.inr (o6 b hb) }
 ·rcases hb with hb|⟨u,L,⟨o,ho,fZ,WO⟩,OD,gw,e⟩
  ·exact .inl hb
  ·have hu:u=v:=by
    by_cases gd:u=v
    ·exact gd
    ·exfalso
     have Wi:=(ae.1 ho).1
     have:fL (jR H [v]) u=some u:=KH NG (by
      unfold jR
      simp[Wi,gd])
     rw[this]at OD;cases OD
   subst hu
   rw[hv]at ho
   cases ho
   exact .inr ⟨L,WO,gw,e⟩
theorem acZ(eX:fj G c H w){f:FuncId}{vs:List Value}{args:List D}{d:D}{v:Nat}(hr:ig c w vs args)(hS:∀ u∈(args.map (gh H 40)).flatten,u=v)(gf:(rowsOf H v).isSome=true)
  (ix:tA P G f (args.map (AL.eZ (fun _=>none) H 40)) [] d []) (fQ:fy (args.map (AL.eZ (fun _=>none) H 40))=true) (hd:AL.closed d=true) :
  Calls P f vs.toArray w fun e w'=>∃ u c',e = .returned u∧fj G c' (H.set v .dead) w'∧eV c' w' u d∧Step H.length c H w c' (H.set v .dead) w':=by
 have hv:∃ t g cs,H[v]? = some (.row t g cs):=by
  unfold rowsOf at gf
  split at gf
  ·exact⟨_,_,_,by assumption⟩
  ·cases gf
 obtain⟨t,g,cs,hv⟩:=hv
 obtain⟨c1,k1,k2,k3,k4⟩:=Xx eX hv
 have V2:ig c1 w vs (args.map (AL.eZ (fun _=>none) H 40)):=by
  have e:args.map (AL.eZ (fun _=>none) H 40)=args.map (AL.eZ (fL (jR H [v])) H 40):=
   aj fun d hd=>(Q1 40 d fun u hu=>hS u (aQ.2 ⟨_,ao.2 ⟨d,hd,rfl⟩,hu⟩)).symm
  have Am:=fQ
  rw[e]at Am ⊢
  have h0:=hr.map (c':=c.eZ (jR H [v]) H) (f:=AL.eZ (fL (jR H [v])) H 40) fun _ _ h=>uN eX 40 h
  generalize args.map (AL.eZ (fL (jR H [v])) H 40)=as at h0 Am
  clear e fQ hS ix hr
  induction h0 with
  | nil=>exact .nil
  | cons h _ ih=>
   simp only[fy,ah]at Am
   exact .cons (eV.closed (c:=c.eZ (jR H [v]) H) (c':=c1) k4 h Am.1) (ih Am.2)
 have e2:(args.map (AL.eZ (fun _=>none) H 40)).map (AL.eZ (fun _=>none) (H.set v .dead) 40)=args.map (AL.eZ (fun _=>none) H 40):=by
  conv=>rhs;rw[← aT (args.map (AL.eZ (fun _=>none) H 40))]
  exact aj fun d hd=>lI (kE fQ d hd)
 have x8:kW d=true∧iX (H.set v .dead).length d=d:=by
  cases d<;>first|(cases hd;done)|skip
  case tup ds=>
   simp only[AL.closed]at hd
   refine⟨?_,?_⟩
   ·simp only[kW,r9,ar]
    intro x hx
    have:=kE hd x hx
    cases x<;>first|rfl|exact this
   ·simp only[iX]
    congr 1
    conv=>rhs;rw[← aT ds]
    refine aj fun x hx=>?_
    have:=kE hd x hx
    cases x<;>first|rfl|(cases this;done)
  case agg ds=>
   simp only[AL.closed]at hd
   refine⟨?_,?_⟩
   ·simp only[kW,r9,ar]
    intro x hx
    have:=kE hd x hx
    cases x<;>first|rfl|exact this
   ·simp only[iX]
    congr 1
    conv=>rhs;rw[← aT ds]
    refine aj fun x hx=>?_
    have:=kE hd x hx
    cases x<;>first|rfl|(cases this;done)
  all_goals exact⟨hd,rfl⟩
 refine(Qn k1 V2 (by rw[e2];exact ix) (by rw[if_pos fQ];simp[x8.1])).mono ?_
 rintro e w' ⟨u,c2,he,m1,m2,m3⟩
 rw[aw]at m1 m3
 rw[x8.2]at m2
 exact⟨u,c2,he,m1,m2,k2.trans m3 (by simp)⟩
end
end Go.AL
namespace Go.AL
open Go
def oR(o:Nat)(xs cs:List D):List D:=cs.take o++xs++cs.drop (o+xs.length)
theorem K3{o:Nat}{xs cs:List D}(h:o+xs.length≤cs.length):(oR o xs cs).length=cs.length:=by simp[oR];omega
theorem BT{o:Nat}{xs cs:List D}(h:o+xs.length≤cs.length)(i:Nat):(oR o xs cs)[i]? = if o≤i∧i<o+xs.length then xs[i-o]? else cs[i]? := by
 unfold oR
 have hl:(cs.take o).length=o:=by simp;omega
 by_cases h1:i<o
 ·rw[ag (by simp;omega),ag (by omega),aA,if_pos h1,if_neg (by omega)]
 ·by_cases h2:i<o+xs.length
  ·rw[ag (by simp;omega),ak (by omega),hl,if_pos ⟨by omega,h2⟩]
  ·rw[ak (by simp;omega),aB,if_neg (by omega)]
   congr 1
   simp;omega
def tv(n:Nat):Dl→Option Nat
 | .no=>none
 | .cells v _ _=>some v
 | .obj v _=>some v
 | .new _=>some n
def K9:Dl→Ob→Ob
 | .no,o=>o
 | .cells _ o xs,.row t g cs=>.row t g (oR o xs cs)
 | .cells _ _ _,o=>o
 | .obj _ ob,_=>ob
 | .new ob,_=>ob
abbrev jD(n:Nat)(δ:Dl)(H:U):U:=δ.app H (Al.hole H n)
theorem xl(n:Nat)(δ:Dl)(H:U)(x:Nat):(jD n δ H)[x]? = if tv n δ=some x then(H[x]?).map (K9 δ)else H[x]? := by
 have mg:∀ (v:Nat) (ob:Ob) (f:Ob→Ob),(∀ o,f o=ob)→(H.set v ob)[x]? = if some v=some x then(H[x]?).map f else H[x]? := by
  intro v ob f hf
  rw[bF]
  by_cases e:v=x
  ·subst e
   rw[if_pos rfl,if_pos rfl]
   split
   ·rename_i ft;simp[ft,hf]
   ·rename_i ft;rw[aI (by omega)];rfl
  ·rw[if_neg e,if_neg (by simpa using e)]
 cases δ with
 | no=>simp[jD,Dl.app,tv]
 | obj v ob=>exact mg v ob _ fun _=>rfl
 | new ob=>exact mg n ob _ fun _=>rfl
 | cells v o xs=>
  have ht:tv n (.cells v o xs)=some v:=rfl
  by_cases e:v=x
  ·subst e
   rw[if_pos ht]
   simp only[jD,Dl.app]
   split
   ·rename_i t g cs hv
    rw[bF,if_pos rfl,if_pos (ae.1 hv).1,hv]
    rfl
   ·rename_i gd
    cases hx:H[v]? with
    | none=>rfl
    | some ob=>
     cases ob<;>first|rfl|skip
     exact absurd hx (gd _ _ _)
  ·rw[if_neg (by rw[ht];simpa using e)]
   simp only[jD,Dl.app]
   split
   ·rw[bF,if_neg e]
   ·rfl
def Fits(n:Nat)(δ:Dl)(H:U):Prop:=match δ with
 | .cells v o xs=>∃ t g cs,H[v]? = some (.row t g cs)∧o+xs.length≤cs.length
 | .new _=>H[n]? = some .hole
 | _=>True
theorem tL{a b:List Fp}(h:p5 a b=true){x y:Fp}(hx:x∈a)(hy:y∈b):pZ x y=true:=
 ar.1 (ar.1 h x hx) y hy
theorem Mb{n:Nat}{δ:Dl}{H:U}{fp:List Fp}(hf:Fits n δ H)(h:p5 (iy n δ) fp=true):pV fp (jD n δ H) H:=by
 intro x hx
 obtain⟨u,r⟩:=x
 have gd:∀ v q,(v,q)∈iy n δ→tv n δ=some v:=by
  intro v q hm
  cases δ<;>simp only[iy,List.mem_singleton,c8]at hm<;>first|(cases hm;rfl)|cases hm
 have main:tv n δ≠some u→(jD n δ H)[u]? = H[u]? := fun hn=>by rw[xl,if_neg hn]
 by_cases ht:tv n δ=some u
 ·cases r with
  | none=>
   exfalso
   cases δ with
   | no=>cases ht
   | cells v o xs=>cases ht;have:=tL h (x:=(u,some (o,xs.length))) (by simp[iy]) hx;simp[pZ]at this
   | obj v ob=>cases ht;have:=tL h (x:=(u,none)) (by simp[iy]) hx;simp[pZ]at this
   | new ob=>cases ht;have:=tL h (x:=(n,none)) (by simp[iy]) hx;simp[pZ]at this
  | some q=>
   obtain⟨p,m⟩:=q
   cases δ with
   | no=>cases ht
   | obj v ob=>cases ht;exfalso;have:=tL h (x:=(u,none)) (by simp[iy]) hx;simp[pZ]at this
   | new ob=>cases ht;exfalso;have:=tL h (x:=(n,none)) (by simp[iy]) hx;simp[pZ]at this
   | cells v o xs=>
    cases ht
    obtain⟨t,g,cs,h1,h2⟩:=hf
    have ha:=tL h (x:=(u,some (o,xs.length))) (by simp[iy]) hx
    simp only[pZ,bne_self_eq_false,ec,cu,decide_eq_true_eq]at ha
    refine .inr ⟨t,g,oR o xs cs,cs,?_,h1,K3 h2,fun i Vl ka=>?_⟩
    ·simp[xl,tv,h1,K9]
    ·rw[BT h2,if_neg (by omega)]
 ·have e:=main ht
  cases r with
  | none=>exact e
  | some q=>exact .inl e
theorem aeh{o p:Nat}{xs ys cs:List D}(h1:o+xs.length≤cs.length)(h2:p+ys.length≤cs.length)(h:o+xs.length≤p∨p+ys.length≤o) :
  oR o xs (oR p ys cs)=oR p ys (oR o xs cs):=by
 apply bM
 intro i
 rw[BT (by rw[K3 h2];exact h1),BT h2,BT (by rw[K3 h1];exact h2),BT h1]
 by_cases a:o≤i∧i<o+xs.length<;>by_cases b:p≤i∧i<p+ys.length
 ·omega
 ·rw[if_pos a,if_neg b,if_pos a]
 ·rw[if_neg a,if_pos b,if_pos b]
 ·rw[if_neg a,if_neg b,if_neg b,if_neg a]
theorem aeI{n m:Nat}{δ ε:Dl}{H:U}(hf:Fits n δ H)(hg:Fits m ε H)(h:p5 (iy n δ) (iy m ε)=true):jD m ε (jD n δ H)=jD n δ (jD m ε H):=by
 apply bM
 intro x
 rw[xl,xl,xl,xl]
 by_cases a:tv n δ=some x<;>by_cases b:tv m ε=some x
 ·rw[if_pos a,if_pos b,if_pos b,if_pos a]
  have bad:∀ {P:Prop},(∃ q r,(x,q)∈iy n δ∧(x,r)∈iy m ε∧(q=none∨r=none))→P:=by
   rintro P ⟨q,r,h1,h2,h3⟩
   have:=tL h h1 h2
   rcases h3 with rfl|rfl
   ·simp[pZ]at this
   ·cases q<;>simp[pZ]at this
  cases δ with
  | no=>cases a
  | obj v ob=>
   cases a
   cases ε with
   | no=>cases b
   | cells v o xs=>cases b;exact bad ⟨none,some (o,xs.length),by simp[iy],by simp[iy],.inl rfl⟩
   | obj v ob=>cases b;exact bad ⟨none,none,by simp[iy],by simp[iy],.inl rfl⟩
   | new ob=>cases b;exact bad ⟨none,none,by simp[iy],by simp[iy],.inl rfl⟩
  | new ob=>
   cases a
   cases ε with
   | no=>cases b
   | cells v o xs=>cases b;exact bad ⟨none,some (o,xs.length),by simp[iy],by simp[iy],.inl rfl⟩
   | obj v ob=>cases b;exact bad ⟨none,none,by simp[iy],by simp[iy],.inl rfl⟩
   | new ob=>cases b;exact bad ⟨none,none,by simp[iy],by simp[iy],.inl rfl⟩
  | cells v o xs=>
   cases a
   cases ε with
   | no=>cases b
   | obj v ob=>cases b;exact bad ⟨some (o,xs.length),none,by simp[iy],by simp[iy],.inr rfl⟩
   | new ob=>cases b;exact bad ⟨some (o,xs.length),none,by simp[iy],by simp[iy],.inr rfl⟩
   | cells v p ys=>
    cases b
    obtain⟨t,g,cs,h1,h2⟩:=hf
    obtain⟨t',g',lz,xL,IJ⟩:=hg
    rw[h1]at xL
    cases xL
    have ha:=tL h (x:=(x,some (o,xs.length))) (y:=(x,some (p,ys.length))) (by simp[iy]) (by simp[iy])
    simp only[pZ,bne_self_eq_false,ec,cu,decide_eq_true_eq]at ha
    simp only[h1,a8,K9]
    rw[aeh h2 IJ ha]
 ·rw[if_pos a,if_neg b,if_neg b,if_pos a]
 ·rw[if_neg a,if_pos b,if_neg a]
 ·rw[if_neg a,if_neg b,if_neg a]
structure Rc where
 R:List Fp
 W:List Fp
inductive Out where
 | norm (s:St)
 | exit (id:Nat) (s:St)
 | ret (s:St)
inductive uZ where
 | ops (l:List fC) (s:St)
 | code (c:IR) (s:St)
 | loop (n:Nat) (live:List Nat) (a:IR) (s:St)
 | call (f:FuncId) (args:List D) (H:U)
 | trace (l:List fC) (s:St)
inductive mS where
 | out (o:Out)
 | tr (rs:List Rc) (s:St)
 | val (d:D) (H:U)
def Out.stop:Out→Bool
 | .norm _=>false
 | _=>true
def qX(im:List (Nat×Nat))(rs:List Rc):Bool:=im.all fun p=>match rs[p.1]?,rs[p.2]? with
 | some a,some b=>p5 a.W (b.R++b.W)&&p5 b.W (a.R++a.W)
 | _,_=>false
def yieldOf(env:fO):gC→Option (Nat×List D)
 | .callv f args=>match ev env f with
  | .gP v=>some (v,args.map (ev env))
  | _=>none
 | _=>none
def Out.st:Out→St
 | .norm s=>s
 | .exit _ s=>s
 | .ret s=>s
def Out.uR:Out→oV
 | .norm _=>.ready
 | .exit id _=>.tV id
 | .ret _=>.vr
def wL(s:St):oV→Option Out
 | .ready=>some (.norm s)
 | .busy=>none
 | .vr=>some (.ret s)
 | .tV id=>some (.exit id s)
def kill:List Nat→U→Option U
 | [],H=>some H
 | v::vs,H=>match H[v]? with
  | some .jv=>kill vs (H.set v .dead)
  | _=>none
def finish(fn:eW)(own n:Nat):Out→Option (D×U)
 | .norm s | .ret s=>match kill s.marks s.H with
  | some H=>match results fn { s with H:=H }with
   | some d=>some (leave own n H d)
   | none=>none
  | none=>none
 | .exit _ _=>none
def k8(id n:Nat)(live:List Nat):Out→Out
 | .norm s=>.norm (cut n live s)
 | .exit uE s=>if uE=id then .norm (cut n live s)else .exit uE s
 | .ret s=>.ret s
inductive Ev(T:gj):uZ→(mS→Prop)→Prop
 | mono {j R R'} (h:Ev T j R) (hi:∀ r,R r→R' r):Ev T j R'
 | nil {s R} (h:R (.out (.norm s))):Ev T (.ops [] s) R
 | op {e r s d δ R} (hg:guardOf s.env.get e.guard=some true) (h:fH s.env.get s.H s.H.length e.op=some (d,δ))
   (t:Ev T (.ops r { s with env:=put s.env e.dst d,H:=δ.app s.H (Al.last s.H) }) R):Ev T (.ops (e::r) s) R
 | wU {e r s d δ R} (hg:guardOf s.env.get e.guard=some true) (h:kY s.env.get s.H s.H.length e.op=some (d,δ))
   (t:Ev T (.ops r { s with env:=put s.env e.dst d,H:=δ.app s.H (Al.last s.H) }) R):Ev T (.ops (e::r) s) R
 | off {e r s R} (hg:guardOf s.env.get e.guard=some false) (t:Ev T (.ops r { s with env:=put s.env e.dst (.val undef) }) R):Ev T (.ops (e::r) s) R
 | jx {l s R} (S:List Nat) (hm:s.marks.all (fun v => !S.contains v)=true) (t:Ev T (.ops l (jx S s)) R):Ev T (.ops l s) R
 | Ab {c s R} (S:List Nat) (hm:s.marks.all (fun v => !S.contains v)=true) (t:Ev T (.code c (jx S s)) R):Ev T (.code c s) R
 | IA {l s R} (live:List Nat) (t:Ev T (.ops l { s with env:=forget live s.env }) R):Ev T (.ops l s) R
 | Aa {c s R} (live:List Nat) (t:Ev T (.code c { s with env:=forget live s.env }) R):Ev T (.code c s) R
 | zG {e r s f args fn R1 R} (hg:guardOf s.env.get e.guard=some true) (hc:iW s.env.get e.op=some (f,args)) (hf:T.fn f=some fn) (hp:fn.full=false)
   (h:Ev T (.call f (args.map (eZ (fun _=>none) s.H 40)) []) R1) (ha:∀ d Hn,R1 (.val d Hn)→(after s e.dst args d Hn).isSome=true)
   (t:∀ d Hn s',R1 (.val d Hn)→after s e.dst args d Hn=some s'→Ev T (.ops r s') R):Ev T (.ops (e::r) s) R
 | zF {e r s f args fn R1 R} (hg:guardOf s.env.get e.guard=some true) (hc:iW s.env.get e.op=some (f,args)) (hf:T.fn f=some fn) (hp:fn.full=true)
   (h:Ev T (.call f args s.H) R1) (t:∀ d H',R1 (.val d H')→Ev T (.ops r { s with env:=put s.env e.dst d,H:=H' }) R):Ev T (.ops (e::r) s) R
 | EA {e r s v args rf env0 Rd Ra Rb R} (hg:guardOf s.env.get e.guard=some true) (hc:yieldOf s.env.get e.op=some (v,args)) (hv:s.H[v]? = some (.gg rf env0 .ready)) (hR:T.round rf=some Rd) (hl:args.length=Rd.params.length)
   (ha:Ev T (.code Rd.a { env:=pS Rd.params args env0,H:=s.H,fG:=true }) Ra) (hn:∀ o,Ra (.out o)→o.stop=false∧∃ jw,o.st.H[v]? = some (.gg rf jw .ready))
   (hb:∀ s1 jw,Ra (.out (.norm s1))→s1.H[v]? = some (.gg rf jw .ready)→Ev T (.code Rd.b { s1 with H:=s1.H.set v (.gg rf jw .busy) }) Rb)
   (hm:∀ o,Rb (.out o)→∃ jo,o.st.H[v]? = some (.gg rf jo .busy))
   (t:∀ o jo,Rb (.out o)→o.st.H[v]? = some (.gg rf jo .busy)→Ev T (.ops r { s with env:=put s.env e.dst (.b !o.stop),H:=o.st.H.set v (.gg rf jo o.uR) }) R):Ev T (.ops (e::r) s) R
 | next {e r s x v m since seen kk es R} (hg:guardOf s.env.get e.guard=some true) (gv:e.op = .nextM x) (hx:ev s.env.get x = .ptr v 0 0) (hv:s.H[v]? = some (.jd (.omap m) since seen)) (hm:s.H[m]? = some (.map kk es)) (hs:es.length=since)
   (h0:(∀ i,i<es.length→i∈seen)→Ev T (.ops r { s with env:=put s.env e.dst (.tup [.b false]) }) R)
   (h1:∀ i k d,es[i]? = some (k,d)→i ∉ seen→Ev T (.ops r { s with env:=put s.env e.dst (.tup [.b true,.val k,d]),H:=s.H.set v (.jd (.omap m) since (seen ++ [i])) }) R):Ev T (.ops (e::r) s) R
 | BZ {s R} (h:R (.tr [] s)):Ev T (.trace [] s) R
 | B1 {e r s d δ R1 R} (hg:guardOf s.env.get e.guard=some true) (h:fH s.env.get s.H s.H.length e.op=some (d,δ))
   (t:Ev T (.trace r { s with env:=put s.env e.dst d,H:=δ.app s.H (Al.last s.H) }) R1) (k:∀ rs s',R1 (.tr rs s')→R (.tr (⟨fJ s.env.get s.H e.op,iy s.H.length δ⟩::rs) s')):Ev T (.trace (e::r) s) R
 | B0 {e r s R1 R} (hg:guardOf s.env.get e.guard=some false) (t:Ev T (.trace r { s with env:=put s.env e.dst (.val undef) }) R1) (k:∀ rs s',R1 (.tr rs s')→R (.tr (⟨[],[]⟩::rs) s')):Ev T (.trace (e::r) s) R
 | BW {e r s f args fn d R0 R1 R} (hg:guardOf s.env.get e.guard=some true) (hc:iW s.env.get e.op=some (f,args)) (hf:T.fn f=some fn) (hp:fn.full=false)
   (h:Ev T (.call f (args.map (eZ (fun _=>none) s.H 40)) []) R0) (h0:∀ d' Hn,R0 (.val d' Hn)→d'=d∧Hn = []) (hr:(if fy args then closed d else flat d)=true)
   (t:Ev T (.trace r { s with env:=put s.env e.dst d }) R1) (k:∀ rs s',R1 (.tr rs s')→R (.tr (⟨fJ s.env.get s.H e.op,[]⟩::rs) s')):Ev T (.trace (e::r) s) R
 | BX {e r s f as args fn d ob R0 R1 R} (hg:guardOf s.env.get e.guard=some true) (gv:e.op = .callN f as) (ha:args=as.map (ev s.env.get)) (hf:T.fn f=some fn) (hp:fn.full=false)
   (h:Ev T (.call f (args.map (eZ (fun _=>none) s.H 40)) []) R0) (h0:∀ d' Hn,R0 (.val d' Hn)→d'=d∧Hn = [ob]) (hr:(if fy args then kW d&&l9 ob else mN d&&nk ob)=true)
   (t:Ev T (.trace r { s with env:=put s.env e.dst (iX s.H.length d),H:=s.H ++ [ob] }) R1) (k:∀ rs s',R1 (.tr rs s')→R (.tr (⟨fJ s.env.get s.H e.op,[(s.H.length,none)]⟩::rs) s')):Ev T (.trace (e::r) s) R
 | BY {e r s f as args fn d v R0 R1 R} (hg:guardOf s.env.get e.guard=some true) (gv:e.op = .callN f as) (ha:args=as.map (ev s.env.get)) (hf:T.fn f=some fn) (hp:fn.full=false)
   (hS:∀ u∈(args.map (gh s.H 40)).flatten,u=v) (hv:v∈(args.map (gh s.H 40)).flatten) (gf:(rowsOf s.H v).isSome=true) (fQ:fy (args.map (eZ (fun _=>none) s.H 40))=true)
   (h:Ev T (.call f (args.map (eZ (fun _=>none) s.H 40)) []) R0) (h0:∀ d' Hn,R0 (.val d' Hn)→d'=d∧Hn = []) (hr:closed d=true)
   (t:Ev T (.trace r { s with env:=put s.env e.dst d,H:=s.H.set v .dead }) R1) (k:∀ rs s',R1 (.tr rs s')→R (.tr (⟨fJ s.env.get s.H e.op,[(v,none)]⟩::rs) s')):Ev T (.trace (e::r) s) R
 | draw {im l s R1 R} (t:Ev T (.trace l s) R1) (hp:∀ rs s',R1 (.tr rs s')→qX im rs=true∧R (.out (.norm s'))):Ev T (.code (.draw im l) s) R
 | kF {im l es s R1 R} (t:Ev T (.trace l s) R1) (hp:∀ rs s',R1 (.tr rs s')→qX im rs=true) (k:∀ rs s',R1 (.tr rs s')→Ev T (.ops es s') R):Ev T (.code (.kF im l es) s) R
 | skip {s R} (h:R (.out (.norm s))):Ev T (.code .skip s) R
 | zS {l s R} (h:Ev T (.ops l s) R):Ev T (.code (.ops l) s) R
 | seq {a b s R1 R} (h:Ev T (.code a s) R1) (k:∀ s',R1 (.out (.norm s'))→Ev T (.code b s') R) (hs:∀ o,R1 (.out o)→o.stop=true→R (.out o)):Ev T (.code (.seq a b) s) R
 | cond {c a b s x R} (hc:ev s.env.get c = .val (.bool x)) (h:Ev T (.code (if x then a else b) s) R):Ev T (.code (.cond c a b) s) R
 | block {id live a s R1 R} (h:Ev T (.code a s) R1) (k:∀ o,R1 (.out o)→R (.out (k8 id s.H.length live o))):Ev T (.code (.block id live a) s) R
 | loop {live a s R} (h:Ev T (.loop s.H.length live a { s with env:=forget live s.env }) R):Ev T (.code (.loop live a) s) R
 | uH {n live a s R1 R} (h:Ev T (.code a s) R1) (k:∀ s',R1 (.out (.norm s'))→Ev T (.loop n live a (cut n live s')) R) (hs:∀ o,R1 (.out o)→o.stop=true→R (.out o)):Ev T (.loop n live a s) R
 | kX {rf live x s f first cap fn R1 R} (hr:s.fG=false) (hx:ev s.env.get x = .fn (.func f) first cap) (hf:T.fn f=some fn) (hp:fn.full=true)
   (h:Ev T (.call f (first ++ [.gP (s.H.length+1)]++cap) (s.H ++ [.jv,.gg rf (forget live s.env) .ready])) R1)
   (k:∀ d H',R1 (.val d H')→∃ env st o,H'[s.H.length+1]? = some (.gg rf env st)∧wL { s with H:=H'.set (s.H.length+1) .dead,marks:=s.H.length::s.marks } st=some o∧R (.out o)):Ev T (.code (.kX rf live x) s) R
 | exit {id s R} (h:R (.out (.exit id s))):Ev T (.code (.exit id) s) R
 | ret {s R} (h:R (.out (.ret s))):Ev T (.code .ret s) R
 | call {f args H fn R1 R} (own:Nat) (hf:T.fn f=some fn) (hl:args.length≤fn.ntmps) (h:Ev T (.code fn.body { env:=pL args,H:=H }) R1)
   (k:∀ o,R1 (.out o)→∃ d H',finish fn own H.length o=some (d,H')∧R (.val d H')):Ev T (.call f args H) R
 | sort {f g fn sz v gen t H R} {α:Type} (fc:α→List D) (l:List α) (cf:α→α→Int) (hs:T.sort f=some sz) (hg:T.fn g=some fn) (hl:∀ a∈l,(fc a).length=sz) (fQ:∀ a∈l,fy (fc a)=true) (h0:0<l.length) (rF:l.length<4611686018427387904)
   (yi:∀ x∈l,¬ cf x x<0) (tr:∀ x∈l,∀ y∈l,∀ z∈l,cf x y<0→cf y z<0→cf x z<0) (nt:∀ x∈l,∀ y∈l,∀ z∈l,¬ cf x y<0→¬ cf y z<0→¬ cf x z<0)
   (hc:∀ x∈l,∀ y∈l,Ev T (.call g [.agg (fc x),.agg (fc y)] []) (fun r=>∃ H',r = .val (.i (cf x y)) H')) (hv:H[v]? = some (.row t gen (l.map fc).flatten))
   (k:∀ l':List α,l'.Perm l→l'.Pairwise (fun x y=>¬ cf y x<0)→R (.val (.tup []) (H.set v (.row t gen (l'.map fc).flatten)))):Ev T (.call f [.eT v gen sz 0 l.length,.fn (.func g) [] []] H) R
 | yN {f sz x H R} (hs:T.sort f=some sz) (k:R (.val (.tup []) H)):Ev T (.call f [.emp,x] H) R
 | po {f v gen t H R} (l:List Int) (hs:T.po f=true) (h0:0<l.length) (rF:l.length<4611686018427387904) (hv:H[v]? = some (.row t gen (l.map fun n=>D.i n)))
   (k:R (.val (.tup []) (H.set v (.row t gen ((l.mergeSort fun x y=>decide (x≤y)).map fun n=>D.i n))))):Ev T (.call f [.eT v gen 1 0 l.length] H) R
end Go.AL
namespace Go.AL
open Go
def kD(f:fO):Option Nat→D→fO
 | some k,d=>fun t=>if k=t then d else f t
 | none,_=>f
theorem Bv(env:Env)(dst:Option Nat)(d:D):(put env dst d).get=kD env.get dst d:=by
 cases dst with
 | none=>rfl
 | some k=>funext t;simp[put,Env.rE,kD]
def IH:Option (Nat×Bool)→List Nat
 | some (t,_)=>[t]
 | none=>[]
def looks(e:fC):List Nat:=ga e.op++IH e.guard
inductive Ef(C:FuncId→List D→D→U→Prop)(f:fO)(H:U)(e:fC)(n:Nat):Rc→D→Dl→Prop
 | op {d δ} (hg:guardOf f e.guard=some true) (h:fH f H n e.op=some (d,δ)) (hf:Fits n δ H):Ef C f H e n ⟨fJ f H e.op,iy n δ⟩ d δ
 | off (hg:guardOf f e.guard=some false):Ef C f H e n ⟨[],[]⟩ (.val undef) .no
 | call {g args d} (hg:guardOf f e.guard=some true) (hc:iW f e.op=some (g,args))
   (h:C g (args.map (eZ (fun _=>none) H 40)) d []) (hr:(if fy args then closed d else flat d)=true):Ef C f H e n ⟨fJ f H e.op,[]⟩ d .no
 | callN {g as args d ob} (hg:guardOf f e.guard=some true) (gv:e.op = .callN g as) (ha:args=as.map (ev f))
   (h:C g (args.map (eZ (fun _=>none) H 40)) d [ob]) (hr:(if fy args then kW d&&l9 ob else mN d&&nk ob)=true) (hf:Fits n (.new ob) H):Ef C f H e n ⟨fJ f H e.op,iy n (.new ob)⟩ (iX n d) (.new ob)
 | vm {g as args d v} (hg:guardOf f e.guard=some true) (gv:e.op = .callN g as) (ha:args=as.map (ev f)) (hS:∀ u∈(args.map (gh H 40)).flatten,u=v) (hv:v∈(args.map (gh H 40)).flatten) (gf:(rowsOf H v).isSome=true)
   (h:C g (args.map (eZ (fun _=>none) H 40)) d []) (fQ:fy (args.map (eZ (fun _=>none) H 40))=true) (hr:closed d=true):Ef C f H e n ⟨fJ f H e.op,[(v,none)]⟩ d (.obj v .dead)
theorem guard_congr{f f':fO}{g:Option (Nat×Bool)}(h:∀ t∈IH g,f t=f' t):guardOf f g=guardOf f' g:=by
 cases g with
 | none=>rfl
 | some p=>simp only[guardOf,h p.1 (by simp[IH])]
theorem RK{x:Fp}{H1 H2:U}(h:Alike x H1 H2):Alike x H2 H1:=by
 obtain⟨v,r⟩:=x
 cases r with
 | none=>exact h.symm
 | some q=>
  rcases h with h|⟨t,g,cs,ds,h1,h2,h3,h4⟩
  ·exact .inl h.symm
  ·exact .inr ⟨t,g,ds,cs,h2,h1,h3.symm,fun i a b=>(h4 i a b).symm⟩
theorem Nv{n:Nat}{δ:Dl}{H H':U}(h:pV (iy n δ) H H')(hf:Fits n δ H):Fits n δ H':=by
 cases δ with
 | no=>trivial
 | obj v ob=>trivial
 | new ob=>
  have e:H[n]? = H'[n]? := h (n,none) (by simp[iy])
  show H'[n]? = some .hole
  rw[← e];exact hf
 | cells v o xs=>
  obtain⟨t,g,cs,h1,h2⟩:=hf
  rcases h (v,some (o,xs.length)) (by simp[iy])with h|⟨t',g',lz,ds,h3,h4,h5,h6⟩
  ·exact⟨t,g,cs,h▸h1,h2⟩
  ·rw[h1]at h3;cases h3
   exact⟨t,g,ds,h4,by omega⟩
theorem G1{H H':U}{v:Nat}(h:Alike (v,none) H H'):rowsOf H v=rowsOf H' v:=by
 have e:H[v]? = H'[v]? := h
 simp only[rowsOf,e]
theorem HO{f:fO}{H:U}{op:gC}{g:FuncId}{args:List D}(hc:iW f op=some (g,args)){H':U}(h:pV (fJ f H op) H H') :
  fJ f H' op=fJ f H op∧args.map (eZ (fun _=>none) H' 40)=args.map (eZ (fun _=>none) H 40):=by
 have key:∀ args:List D,(∀ v∈(args.map (gh H 40)).flatten,rowsOf H v=rowsOf H' v)→args.map (gh H' 40)=args.map (gh H 40)∧args.map (eZ (fun _=>none) H' 40)=args.map (eZ (fun _=>none) H 40):=by
  intro args ha
  have h1:∀ d∈args,∀ v∈gh H 40 d,rowsOf H v=rowsOf H' v:=fun d hd v hv=>ha v (aQ.2 ⟨_,ao.2 ⟨d,hd,rfl⟩,hv⟩)
  exact⟨aj fun d hd=>(BC 40 d (h1 d hd)).1,aj fun d hd=>(BC 40 d (h1 d hd)).2⟩
 cases op<;>first|(cases hc;done)|skip
 case call k as=>
  cases hc
  obtain⟨a,b⟩:=key (as.map (ev f)) fun v hv=>G1 (h (v,none) (ao.2 ⟨v,hv,rfl⟩))
  exact⟨by simp only[fJ,a],b⟩
 case callN k as=>
  cases hc
  obtain⟨a,b⟩:=key (as.map (ev f)) fun v hv=>G1 (h (v,none) (ao.2 ⟨v,hv,rfl⟩))
  exact⟨by simp only[fJ,a],b⟩
 case callv k as=>
  simp only[fJ,hc]at h ⊢
  obtain⟨a,b⟩:=key args fun v hv=>G1 (h (v,none) (ao.2 ⟨v,hv,rfl⟩))
  exact⟨by rw[a],b⟩
theorem T9{f:fO}{H H':U}{op:gC}(hn:iW f op=none):fJ f H' op=fJ f H op:=by
 cases op<;>first|rfl|(cases hn;done)|skip
 case callv=>simp only[fJ,hn]
 case len k x=>cases k<;>rfl
theorem Sh{f:fO}{H:U}{n:Nat}{op:gC}{r:D×Dl}(h:fH f H n op=some r):iW f op=none:=by
 cases op<;>first|rfl|cases h
variable{C:FuncId→List D→D→U→Prop}
theorem Ef.local{f f':fO}{H H':U}{e:fC}{n:Nat}{rc:Rc}{d:D}{δ:Dl}(h:Ef C f H e n rc d δ)(hf:∀ t∈looks e,f t=f' t)(hH:pV (rc.R++rc.W) H H'):Ef C f' H' e n rc d δ:=by
 have h1:∀ t∈ga e.op,f t=f' t:=fun t ht=>hf t (aR _ ht)
 have h2:guardOf f e.guard=guardOf f' e.guard:=guard_congr fun t ht=>hf t (bw _ ht)
 cases h with
 | op hg ho kS=>
  have e1:fJ f H e.op=fJ f' H' e.op:=by rw[Fe h1,T9 (Sh (by rw[← Mi h1];exact ho))]
  rw[e1]
  refine .op (h2▸hg) ?_ (Nv hH.right kS)
  rw[← Mi h1,← RM (H1:=H) hH.left]
  exact ho
 | off hg=>exact .off (h2▸hg)
 | call hg hc nL hr=>
  obtain⟨a,b⟩:=HO hc hH.left
  have e1:fJ f H e.op=fJ f' H' e.op:=by rw[← a,Fe h1]
  rw[e1]
  exact .call (h2▸hg) (by rw[← EC h1];exact hc) (by rw[b];exact nL) hr
 | @callN g as args _ _ hg gv ha nL hr kS=>
  have hc:iW f e.op=some (g,args):=by rw[gv,ha];rfl
  obtain⟨a,b⟩:=HO hc hH.left
  have e1:fJ f H e.op=fJ f' H' e.op:=by rw[← a,Fe h1]
  rw[e1]
  have mC:iW f' e.op=some (g,args):=by rw[← EC h1];exact hc
  have oE:args=as.map (ev f'):=by
   rw[gv]at mC
   cases mC;rfl
  exact .callN (h2▸hg) gv oE (by rw[b];exact nL) hr (Nv hH.right kS)
 | @vm g as args _ v hg gv ha hS hv gf nL fQ hr=>
  have hc:iW f e.op=some (g,args):=by rw[gv,ha];rfl
  obtain⟨a,b⟩:=HO hc hH.left
  have e1:fJ f H e.op=fJ f' H' e.op:=by rw[← a,Fe h1]
  rw[e1]
  have mC:iW f' e.op=some (g,args):=by rw[← EC h1];exact hc
  have oE:args=as.map (ev f'):=by
   rw[gv]at mC
   cases mC;rfl
  have oh:(args.map (gh H' 40)).flatten=(args.map (gh H 40)).flatten:=by
   have a2:=a
   rw[gv]at a2
   simp only[fJ,← ha]at a2
   exact(List.map_inj_right (fun x y h=>(Prod.mk.inj h).1)).1 a2
  have V5:rowsOf H v=rowsOf H' v:=G1 (hH.right (v,none) (by simp))
  exact .vm (h2▸hg) gv oE (by rw[oh];exact hS) (by rw[oh];exact hv) (by rw[← V5];exact gf) (by rw[b];exact nL) (by rw[b];exact fQ) hr
theorem Ef.fits{f:fO}{H:U}{e:fC}{n:Nat}{rc:Rc}{d:D}{δ:Dl}(h:Ef C f H e n rc d δ):Fits n δ H∧rc.W=iy n δ:=by
 cases h with
 | op _ _ hf=>exact⟨hf,rfl⟩
 | off=>exact⟨trivial,rfl⟩
 | call=>exact⟨trivial,rfl⟩
 | callN _ _ _ _ _ hf=>exact⟨hf,rfl⟩
 | vm=>exact⟨trivial,rfl⟩
def tt(a b:fC):Bool:=
 (match a.dst with|some k => !(looks b).contains k&&b.dst != some k|none=>true)&&(match b.dst with|some k => !(looks a).contains k|none=>true)
def qY(a b:Rc):Bool:=p5 a.W (b.R++b.W)&&p5 b.W (a.R++a.W)
theorem Ro{f:fO}{dst:Option Nat}{d:D}{l:List Nat}(h:∀ k,dst=some k→k ∉ l):∀ t∈l,kD f dst d t=f t:=by
 intro t ht
 cases dst with
 | none=>rfl
 | some k=>
  simp only[kD]
  rw[if_neg]
  rintro rfl
  exact h _ rfl ht
theorem aex{f:fO}{a b:Option Nat}{x y:D}(h:∀ k,a=some k→b≠some k):kD (kD f a x) b y=kD (kD f b y) a x:=by
 cases a with
 | none=>rfl
 | some k=>
  cases b with
  | none=>rfl
  | some j=>
   have gd:j≠k:=fun e=>h k rfl (by rw[e])
   funext t
   simp only[kD]
   by_cases h1:j=t<;>by_cases h2:k=t<;>simp[h1,h2]
   exact absurd (h1.trans h2.symm) gd
theorem ad2{a b:fC}(h:tt a b=true):(∀ k,a.dst=some k→k ∉ looks b)∧(∀ k,b.dst=some k→k ∉ looks a)∧(∀ k,a.dst=some k→b.dst≠some k):=by
 unfold tt at h
 simp only[ah]at h
 refine⟨fun k hk=>?_,fun k hk=>?_,fun k hk=>?_⟩
 ·have:=h.1
  rw[hk]at this
  simp at this
  exact this.1
 ·have:=h.2
  rw[hk]at this
  simpa using this
 ·have:=h.1
  rw[hk]at this
  simp at this
  exact this.2
theorem swap{f:fO}{H:U}{a b:fC}{n m:Nat}{ra rb:Rc}{x y:D}{δ ε:Dl}(ha:Ef C f H a n ra x δ)(hb:Ef C (kD f a.dst x) (jD n δ H) b m rb y ε)
  (hs:tt a b=true) (hr:qY ra rb=true) :
  Ef C f H b m rb y ε∧Ef C (kD f b.dst y) (jD m ε H) a n ra x δ∧kD (kD f a.dst x) b.dst y=kD (kD f b.dst y) a.dst x∧jD m ε (jD n δ H)=jD n δ (jD m ε H):=by
 obtain⟨s1,s2,s3⟩:=ad2 hs
 simp only[qY,ah]at hr
 obtain⟨fa,wa⟩:=ha.fits
 have mB:Ef C f H b m rb y ε:=hb.local (Ro s1) (Mb fa (by rw[← wa];exact hr.1))
 obtain⟨fb,wb⟩:=mB.fits
 refine⟨mB,ha.local (fun t ht=>(Ro s2 t ht).symm) fun z hz=>RK (Mb fb (by rw[← wb];exact hr.2) z hz),aex s3,aeI fa fb ?_⟩
 rw[← wa,← wb]
 simp only[p5,ar]at hr ⊢
 exact fun u hu z hz=>hr.1 u hu z (bw _ hz)
theorem J0{o:Option D}{d:D}{δ:Dl}(h:lift o=some (d,δ)):δ = .no:=by
 cases o<;>simp[lift]at h
 exact h.2.symm
theorem Kz{f:fO}{H:U}{e:fC}{n:Nat}{rc:Rc}{d:D}{δ:Dl}(h:Ef C f H e n rc d δ)(hp:Bt e.op=true):rc.R = []∧rc.W = []:=by
 cases h with
 | op hg ho hf=>
  cases gv:e.op<;>rw[gv]at ho hp<;>simp only[fH]at ho<;>first|(cases hp;done)|skip
  case len k x=>
   have:=J0 ho
   subst this
   cases k<;>first|(cases hp;done)|exact⟨rfl,rfl⟩
  all_goals
   have:=J0 ho
   subst this
   exact⟨rfl,rfl⟩
 | off hg=>exact⟨rfl,rfl⟩
 | call hg hc h hr=>cases gv:e.op<;>rw[gv]at hc hp<;>first|(cases hp;done)|(cases hc;done)
 | callN _ gv=>rw[gv]at hp;cases hp
 | vm _ gv=>rw[gv]at hp;cases hp
theorem Qt{f:fO}{H:U}{e:fC}{n:Nat}{rc:Rc}{d:D}{δ:Dl}(h:Ef C f H e n rc d δ)(hp:KC e.op=true):rc.W = []:=by
 by_cases hq:Bt e.op=true
 ·exact(Kz h hq).2
 ·cases h with
  | op hg ho hf=>
   cases gv:e.op<;>rw[gv]at ho hp hq<;>simp only[fH]at ho<;>first|(cases hp;done)|(exact absurd rfl hq)|skip
   case call=>cases ho
   case callv=>cases ho
   all_goals
    have:=J0 ho
    subst this
    rfl
  | off hg=>rfl
  | call=>rfl
  | callN _ gv=>rw[gv]at hp;cases hp
  | vm _ gv=>rw[gv]at hp;cases hp
theorem Rf{f f':fO}{H H':U}{a b:fC}{n m:Nat}{ra rb:Rc}{x y:D}{δ ε:Dl}(ha:Ef C f H a n ra x δ)(hb:Ef C f' H' b m rb y ε)(h:Hi a.op b.op=true):qY ra rb=true:=by
 simp only[Hi,cu,ah]at h
 rcases h with(h|h)|⟨h1,h2⟩
 ·obtain⟨e1,e2⟩:=Kz ha h
  simp[qY,e1,e2,p5]
 ·obtain⟨e1,e2⟩:=Kz hb h
  simp[qY,e1,e2,p5]
 ·simp[qY,Qt ha h1,Qt hb h2,p5]
structure k7 where
 k:Nat
 e:fC
 n:Nat
 rc:Rc
inductive Tx(C:FuncId→List D→D→U→Prop):fO→U→List k7→fO→U→Prop
 | nil {f H}:Tx C f H [] f H
 | cons {f H it r d δ f' H'} (h:Ef C f H it.e it.n it.rc d δ) (t:Tx C (kD f it.e.dst d) (jD it.n δ H) r f' H'):Tx C f H (it::r) f' H'
theorem Tx.each{f:fO}{H:U}{l:List k7}{f':fO}{H':U}(h:Tx C f H l f' H'):∀ it∈l,∃ f H d δ,Ef C f H it.e it.n it.rc d δ:=by
 induction h with
 | nil=>intro it iH;cases iH
 | cons h t ih=>
  intro it iH
  rcases aq.1 iH with rfl|iH
  ·exact⟨_,_,_,_,h⟩
  ·exact ih it iH
theorem Tx.front{it:k7}{post:List k7}{f':fO}{H':U}:∀ {pre:List k7} {f:fO} {H:U},Tx C f H (pre++it::post) f' H'→(∀ p∈pre,tt p.e it.e=true∧qY p.rc it.rc=true) →
  ∃ d δ,Ef C f H it.e it.n it.rc d δ∧Tx C (kD f it.e.dst d) (jD it.n δ H) (pre++post) f' H'
 | [],f,H,h,_=>by
  cases h with
  | cons h t=>exact⟨_,_,h,t⟩
 | p::pre,f,H,h,ha=>by
  cases h with
  | @cons _ _ _ _ d δ _ _ h t=>
   obtain⟨y,ε,hy,ht⟩:=Tx.front (pre:=pre) t fun q hq=>ha q (by simp[hq])
   obtain⟨s1,s2,s3,s4⟩:=swap h hy (ha p (by simp)).1 (ha p (by simp)).2
   refine⟨y,ε,s1,.cons s2 ?_⟩
   rw[← s3,← s4]
   exact ht
end Go.AL
namespace Go.AL
open Go
structure SX(G:GT)(N:Nat)(c:Ctx)(w:World)(f:fO)(H:U)(ms:List Nat)(a:Act):Prop where
 eX:fj G c H w
 env:jt c w f a
 size:N≤a.tmps.size
 marks:ko c ms a.defers
section
variable{P:Program}{G:GT}{c:Ctx}{w:World}{f:fO}{H:U}{ms:List Nat}{a:Act}{N:Nat}
theorem ac2{f:fO}{a:Act}{c:Ctx}{w:World}(he:jt c w f a)(hN:N≤a.tmps.size){dst:Option Tmp}(hd:pA N dst=true){v:Value}{d:D}(hr:eV c w v d) :
  jt c w (kD f dst d) (a.put dst v):=by
 cases dst with
 | none=>exact he
 | some t=>
  have ht:t<a.tmps.size:=aL (by simpa[pA]using hd) hN
  intro k
  simp only[kD,Act.put]
  split
  ·rename_i e
   subst e
   have:(a.tmps.setIfInBounds t v).getD t undef=v:=by simp[Array.getD,ht]
   rw[this];exact hr
  ·rename_i e
   have:(a.tmps.setIfInBounds t v).getD k undef=a.tmps.getD k undef:=by
    simp only[bR,bG e]
   rw[this];exact he k
theorem SX.next{c':Ctx}{w':World}{H':U}(hs:SX G N c w f H ms a)(eX:fj G c' H' w')(fg:Step H.length c H w c' H' w'){dst:Option Tmp}(hd:pA N dst=true)
  {v:Value} {d:D} (hr:eV c' w' v d):SX G N c' w' (kD f dst d) H' ms (a.put dst v) where
 eX:=eX
 env:=ac2 (jt.carry (fun _ _ h=>h.nX hs.eX.toHeapOK fg) hs.env) hs.size hd hr
 size:=by rw[Qo];exact hs.size
 marks:=by
  rw[put_defers]
  refine hs.marks.mono fun v L h=>fg.old v 0 L ?_ h
  rcases bq v H.length with h'|h'
  ·exact h'
  ·rw[hs.eX.out v 0 h']at h;cases h
theorem RN{op:gC}{n n':Nat}{d:D}{δ:Dl}(h:fH f H n op=some (d,δ))(hn:∀ ob,δ≠.new ob):fH f H n' op=some (d,δ):=by
 cases op<;>simp only[fH]at h ⊢ <;> first|exact h|skip
 case box=>
  unfold p6 at h
  split at h
  ·cases h;exact absurd rfl (hn _)
  ·cases h
 case alloc=>cases h;exact absurd rfl (hn _)
 case buildSl=>
  unfold tO at h
  split at h
  ·split at h
   ·cases h;exact absurd rfl (hn _)
   ·cases h
  ·cases h
 case mkmap=>cases h;exact absurd rfl (hn _)
 case mksl=>
  unfold yq at h
  split at h
  ·split at h
   ·cases h;exact absurd rfl (hn _)
   ·cases h
  ·cases h
 case app=>
  unfold py at h ⊢
  split at h
  ·split at h
   ·exact h
   ·rename_i m _ _ _
    by_cases hm:m=0
    ·rw[if_pos hm]at h ⊢;exact h
    ·rw[if_neg hm]at h
     split at h
     ·cases h;exact absurd rfl (hn _)
     ·cases h
   ·cases h
  ·cases h
theorem zM{d:D}(h:closed d=true):kW d=true∧iX H.length d=d:=by
 cases d<;>first|(cases h;done)|skip
 case tup ds=>
  have hc:=kE h
  refine⟨?_,?_⟩
  ·simp only[kW,r9,ar]
   intro d hd
   have:=hc d hd
   cases d<;>first|rfl|exact this
  ·simp only[iX]
   congr 1
   conv=>rhs;rw[← aT ds]
   refine aj fun d hd=>?_
   have:=hc d hd
   cases d<;>first|(cases this;done)|rfl
 case agg ds=>
  have hc:=kE h
  refine⟨?_,?_⟩
  ·simp only[kW,r9,ar]
   intro d hd
   have:=hc d hd
   cases d<;>first|rfl|exact this
  ·simp only[iX]
   congr 1
   conv=>rhs;rw[← aT ds]
   refine aj fun d hd=>?_
   have:=hc d hd
   cases d<;>first|(cases this;done)|rfl
 all_goals exact⟨h,rfl⟩
theorem Iz{d:D}(h:flat d=true):mN d=true∧iX H.length d=d:=by
 cases d<;>first|(cases h;done)|skip
 case tup ds=>
  have hc:∀ d∈ds,flat d=true:=fun d hd=>by
   obtain⟨i,hi⟩:=aD.1 hd
   exact xE h hi
  refine⟨?_,?_⟩
  ·simp only[mN,r9,ar]
   intro d hd
   have:=hc d hd
   cases d<;>first|rfl|exact this
  ·simp only[iX]
   congr 1
   conv=>rhs;rw[← aT ds]
   refine aj fun d hd=>?_
   have:=hc d hd
   cases d<;>first|(cases this;done)|rfl
 case agg ds=>
  have hc:∀ d∈ds,flat d=true:=fun d hd=>by
   obtain⟨i,hi⟩:=aD.1 hd
   exact xE h hi
  refine⟨?_,?_⟩
  ·simp only[mN,r9,ar]
   intro d hd
   have:=hc d hd
   cases d<;>first|rfl|exact this
  ·simp only[iX]
   congr 1
   conv=>rhs;rw[← aT ds]
   refine aj fun d hd=>?_
   have:=hc d hd
   cases d<;>first|(cases this;done)|rfl
 all_goals exact⟨h,rfl⟩
variable{C:FuncId→List D→D→U→Prop}
theorem M1(hC:∀ g args d Hn,C g args d Hn→o5 P g=true∧tA P G g args [] d Hn)(hs:SX G N c w f H ms a){A:Array Oper}{o:Oper}{e:fC}{i:Nat}(hA:A[i]? = some o)
  (ho:rz P G N A o=some e) {n:Nat} {rc:Rc} {d:D} {δ:Dl} (hE:Ef C f H e n rc d δ) {ro:Option Nat} {m:Nat} {Q:Exit→Act→World→Prop} {K:Act→World→Prop}
  (k:∀ c' w' a',SX G N c' w' (kD f e.dst d) (jD n δ H) ms a'→Step H.length c H w c' (jD n δ H) w'→K a' w'):wpOpIn (FW ro) m P A Q i K a w:=by
 obtain⟨s1,s2,s3,s4⟩:=tU ho
 unfold wpOpIn
 simp only[hA]
 cases hE with
 | op hg h kS=>
  have hw:=qv hs.env s4 hg
  have s1:=ML s1 h
  simp only[hw,if_true]
  have main:∀ {al:Al},kZ H al→fH f H al.1 e.op=some (d,δ)→δ.app H al=jD n δ H→o.wpIn (FW ro) m P a w K Q:=by
   intro al fZ h WN
   obtain⟨v,w',hy,d',H',c',⟨rfl,rfl⟩,eX,hr,fg⟩:=Ql (P:=P) (K:=fun d' H'=>d'=d∧H'=δ.app H al) hs.eX hs.env fZ s1 (Mj h ⟨rfl,rfl⟩)
   refine⟨fun _ _=>trivial,?_⟩
   rw[Oper.semAt_plain (FW ro) a.eval o (wG s1)]
   rw[WN]at eX fg
   have hx:=hs.next eX fg s3 hr
   rw[← s2]at hx
   have hn:=k c' w' _ hx fg
   rw[s2]at hn
   rcases hy with hy|⟨hy,rfl⟩
   ·rw[hy];exact hn
   ·rw[hy];exact hn
  by_cases kT:∃ ob,δ = .new ob
  ·obtain⟨ob,rfl⟩:=kT
   exact main (al:=Al.hole H n) (kZ.hole kS) h rfl
  ·have sX:∀ ob,δ≠.new ob:=fun ob e=>kT ⟨ob,e⟩
   refine main (al:=Al.last H) (kZ.last H) (RN h sX) ?_
   cases δ<;>first|rfl|exact absurd rfl (sX _)
 | off hg=>
  have hw:=qv hs.env s4 hg
  simp only[hw,bH,if_false]
  refine⟨fun _ _=>trivial,?_⟩
  have hx:=hs.next hs.eX (Step.refl _ _ _ _) s3 (v:=undef) (d:=.val undef) (.val _)
  rw[← s2]at hx
  have:=k c w _ hx (Step.refl _ _ _ _)
  rw[s2]at this
  exact this
 | @call g args d hg hc h hr=>
  have hw:=qv hs.env s4 hg
  have s1:=zP s1 hc
  simp only[hw,if_true]
  obtain⟨jS,ix⟩:=hC _ _ _ _ h
  obtain⟨vs,gS,gX⟩:=G4 hs.eX hs.env s1 hc jS
  have il:(if fy args then kW d&&([]:U).all l9 else mN d&&([]:U).all nk)=true∧iX H.length d=d:=by
   by_cases fQ:fy args=true
   ·rw[if_pos fQ]at hr ⊢
    obtain⟨a,b⟩:=zM (H:=H) hr
    exact⟨by simp[a],b⟩
   ·rw[if_neg fQ]at hr ⊢
    obtain⟨a,b⟩:=Iz (H:=H) hr
    exact⟨by simp[a],b⟩
  have hp:=Qn hs.eX gX ix il.1
  rw[il.2,aw]at hp
  refine⟨fun _ _=>trivial,?_⟩
  rw[Oper.semAt_plain (FW ro) a.eval o (wG s1),gS]
  refine⟨fun h=>by simp[Fence.wide]at h,zH.2 (hp.mono ?_)⟩
  rintro e' w' ⟨v,c',rfl,eX,lG,fg⟩
  have hx:=hs.next eX fg s3 lG
  rw[← s2]at hx
  have:=k c' w' _ hx fg
  rw[s2]at this
  exact this
 | @callN g as args d ob hg gv ha h hr kS=>
  have hw:=qv hs.env s4 hg
  simp only[hw,if_true]
  have hc:iW f e.op=some (g,args):=by rw[gv,ha];rfl
  have s1:=zP s1 hc
  obtain⟨jS,ix⟩:=hC _ _ _ _ h
  obtain⟨vs,gS,gX⟩:=G4 hs.eX hs.env s1 hc jS
  have hp:=ac0 hs.eX gX ix hr kS
  refine⟨fun _ _=>trivial,?_⟩
  rw[Oper.semAt_plain (FW ro) a.eval o (wG s1),gS]
  refine⟨fun h=>by simp[Fence.wide]at h,zH.2 (hp.mono ?_)⟩
  rintro e' w' ⟨v,c',rfl,eX,lG,fg⟩
  have hx:=hs.next eX fg s3 lG
  rw[← s2]at hx
  have:=k c' w' _ hx fg
  rw[s2]at this
  exact this
 | @vm g as args d v hg gv ha hS hv gf h fQ hr=>
  have hw:=qv hs.env s4 hg
  simp only[hw,if_true]
  have hc:iW f e.op=some (g,args):=by rw[gv,ha];rfl
  have s1:=zP s1 hc
  obtain⟨jS,ix⟩:=hC _ _ _ _ h
  obtain⟨vs,gS,gX⟩:=G4 hs.eX hs.env s1 hc jS
  have hp:=acZ hs.eX gX hS gf ix fQ hr
  refine⟨fun _ _=>trivial,?_⟩
  rw[Oper.semAt_plain (FW ro) a.eval o (wG s1),gS]
  refine⟨fun h=>by simp[Fence.wide]at h,zH.2 (hp.mono ?_)⟩
  rintro e' w' ⟨u,c',rfl,eX,lG,fg⟩
  have hx:=hs.next eX fg s3 lG
  rw[← s2]at hx
  have:=k c' w' _ hx fg
  rw[s2]at this
  exact this
