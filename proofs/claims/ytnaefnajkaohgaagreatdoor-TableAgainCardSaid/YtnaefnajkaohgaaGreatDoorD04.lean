/- Part 4 of the proof of skewer.skewerlaw15.TableAgain. -/
import Derived.Test.YtnaefnajkaohgaaGreatDoorD03
set_option linter.all false
namespace Go.AL
open Go
section
variable{P:Program}{G:GT}{c:Ctx}{w:World}{env:fD}{a:Act}{N:Nat}
theorem Mh{o:Oper}{io:gp}(hc:kV P G o=some io)(h:Am io=true):∃ cl,o.op = .call cl:=by
 unfold kV at hc
 split at hc
 all_goals first|exact⟨_,by assumption⟩|skip
 all_goals exfalso
 all_goals try simp only[ax,af,aF]at hc
 all_goals (repeat' first|(obtain⟨_,_,hc⟩:=hc)|split at hc|simp only[af]at hc)
 all_goals first|(simp[Am]at h;done)|(cases hc<;>simp[Am]at h)
theorem Gd{H:U}(eR:e9 G c H w)(he:jh c w env a){o:Oper}{io:gp}(hc:kV P G o=some io){f:FuncId}{args:List D}(iq:iM env io=some (f,args))(jG:oL P f=true) :
  ∃ vs:List Value,(execOp a.eval o).run P w = .ok (.enter f vs.toArray) w∧gY c w vs args:=by
 have EF:=hc
 unfold kV at hc
 cases ho:o.op with
 | call cl=>
  simp only[ho,ax,af]at hc
  obtain⟨xs,o8,hc⟩:=hc
  have gT:=uN eR he cl.args.toList o8
  split at hc
  ·rename_i g vg
   split at hc
   ·have TP:g=f∧List.map (ev env) xs=args:=by
     cases hc
     have hb:iM env (if G.nw g=true then gp.callN g xs else gp.call g xs)=some (g,xs.map (ev env)):=by split<;>rfl
     rw[hb]at iq
     simpa using iq
    obtain⟨rfl,rfl⟩:=TP
    refine⟨_,?_,gT⟩
    have e:cl.args.map a.eval=(cl.args.toList.map a.eval).toArray:=by cases cl.args;simp
    simp only[execOp,ho,resolve,vg,Act.eval,Deferred.ofValue,Sem.run_bind,Sem.run_pure,Result.andThen_ok,invoke]
    rw[← e]
    have h2:=Ge (P:=P) jG (cl.args.map a.eval) w
    simpa using h2
   ·cases hc
  ·rename_i x fY vg
   simp only[af,aF,aq]at hc
   obtain⟨X,hX,rfl⟩:=hc
   simp only[iM]at iq
   split at iq
   ·rename_i k first cap na
    cases iq
    have hr:=gD eR he hX
    rw[na]at hr
    generalize hv:a.eval x=v at hr
    cases hr with
    | fn _ fs cs _ _ e1 e2 e3 e4=>
     refine⟨fs++cl.args.toList.map a.eval++cs,?_,((gY.AH e1 e3).append gT).append (gY.AH e2 e4)⟩
     simp only[execOp,ho,resolve,vg,hv,Deferred.ofValue,Sem.run_bind,Sem.run_pure,Result.andThen_ok,invoke]
     have h2:=Ge (P:=P) jG (fs.toArray++cl.args.map a.eval++cs.toArray) w
     have e2:fs.toArray++cl.args.map a.eval++cs.toArray=(fs++cl.args.toList.map a.eval++cs).toArray:=by cases cl.args;simp
     rw[e2]at h2 ⊢
     exact h2
   ·cases iq
  ·split at hc
   ·simp only[af]at hc
    obtain⟨td,_,hc⟩:=hc
    split at hc
    ·simp only[af]at hc
     obtain⟨i,_,z,_,ud,_,hc⟩:=hc
     split at hc
     ·split at hc
      ·cases hc;cases iq
      ·cases hc
     ·cases hc
    ·cases hc
   ·cases hc
  ·split at hc
   ·simp only[af]at hc
    obtain⟨td,_,hc⟩:=hc
    split at hc
    ·simp only[af]at hc
     obtain⟨ud,_,hc⟩:=hc
     split at hc
     ·simp only[af]at hc
      obtain⟨n,_,hc⟩:=hc
      split at hc
      ·cases hc;cases iq
      ·cases hc
     ·cases hc
    ·cases hc
   ·cases hc
  ·split at hc
   ·split at hc
    ·cases hc;cases iq
    ·cases hc;cases iq
    ·cases hc;cases iq
    ·cases hc
   ·cases hc
  ·cases hc;cases iq
  ·cases hc;cases iq
  ·cases hc
 | _=>
  have h1:Am io=true:=by unfold iM at iq;unfold Am;split at iq<;>first|rfl|cases iq
  obtain⟨cl,h2⟩:=Mh EF h1
  rw[ho]at h2
  cases h2
end
end Go.AL
namespace Go.AL
open Go
abbrev Fp:=Nat×Option (Nat×Nat)
def lg:D→List Fp
 | .eN v _ _ _ _=>[(v,none)]
 | .omap v=>[(v,none)]
 | _=>[]
def rW(n:Nat):D→List Fp
 | .ptr v _ o=>[(v,some (o,n))]
 | _=>[]
def fu(f:fD)(H:U):gp→List Fp
 | .ld1 x=>rW 1 (ev f x)
 | .ldN n x=>rW n (ev f x)
 | .st1 a _=>rW 1 (ev f a)
 | .stN n a _=>rW n (ev f a)
 | .lookup _ _ _ m _=>lg (ev f m)
 | .mapUpd _ m _ _=>lg (ev f m)
 | .len .map x=>lg (ev f x)
 | .b2s x=>lg (ev f x)
 | .app _ _ _ x y=>lg (ev f x)++lg (ev f y)
 | .copy _ x y=>lg (ev f x)++lg (ev f y)
 | .call g args=>((args.map (ev f)).map (fX H 40)).flatten.map fun v=>(v,none)
 | .callN g args=>((args.map (ev f)).map (fX H 40)).flatten.map fun v=>(v,none)
 | .callv g args=>match iM f (.callv g args)with
  | some (_,ds)=>(ds.map (fX H 40)).flatten.map fun v=>(v,none)
  | none=>[]
 | _=>[]
def im(n:Nat):Dl→List Fp
 | .no=>[]
 | .cells v o xs=>[(v,some (o,xs.length))]
 | .obj v _=>[(v,none)]
 | .new _=>[(n,none)]
def pE:Fp→Fp→Bool
 | (v,none),(u,_)=>v != u
 | (v,some _),(u,none)=>v != u
 | (v,some (o,n)),(u,some (p,m))=>v != u||decide (o+n≤p)||decide (p+m≤o)
def pF(a b:List Fp):Bool:=a.all fun x=>b.all fun y=>pE x y
def Alike(x:Fp)(H1 H2:U):Prop:=
 match x with
 | (v,none)=>H1[v]? = H2[v]?
 | (v,some (o,n))=>H1[v]? = H2[v]?∨∃ t g cs ds,H1[v]? = some (.row t g cs)∧H2[v]? = some (.row t g ds)∧cs.length=ds.length∧∀ i,o≤i→i<o+n→cs[i]? = ds[i]?
def pB(l:List Fp)(H1 H2:U):Prop:=∀ x∈l,Alike x H1 H2
def gI:X→List Nat
 | .t k=>[k]
 | .c _=>[]
def rD(l:List X):List Nat:=(l.map gI).flatten
def Bo:Option X→List Nat
 | some x=>gI x
 | none=>[]
def fQ:gp→List Nat
 | .mv x=>gI x
 | .pick c a b=>gI c++gI a++gI b
 | .box _ x=>gI x
 | .alloc _ _=>[]
 | .build _ ps=>(ps.map fun p=>gI p.2.2).flatten
 | .buildSl _ _ _ _ ps=>(ps.map fun p=>gI p.2).flatten
 | .ld1 x=>gI x
 | .ldN _ x=>gI x
 | .st1 a x=>gI a++gI x
 | .stN _ a x=>gI a++gI x
 | .nilck x=>gI x
 | .arith _ x y=>gI x++gI y
 | .eqS _ _ _ x y=>gI x++gI y
 | .un _ x=>gI x
 | .conv _ x=>gI x
 | .b2s x=>gI x
 | .mkfn _ a b=>rD a++rD b
 | .mkmap _=>[]
 | .mksl _ _ _ _ l c=>gI l++gI c
 | .slc _ x lo hi=>gI x++Bo lo++Bo hi
 | .slcS x lo hi=>gI x++Bo lo++Bo hi
 | .fieldA _ x=>gI x
 | .field _ _ _ x=>gI x
 | .idxA _ x i=>gI x++gI i
 | .idxArr _ _ x i=>gI x++gI i
 | .idx _ _ _ x i=>gI x++gI i
 | .idxStr x i=>gI x++gI i
 | .lookup _ _ _ m k=>gI m++gI k
 | .mapUpd _ m k x=>gI m++gI k++gI x
 | .ext x _=>gI x
 | .call _ args=>rD args
 | .callN _ args=>rD args
 | .callv f args=>gI f++rD args
 | .app _ _ _ x y=>gI x++gI y
 | .copy _ x y=>gI x++gI y
 | .len _ x=>gI x
 | .minmax _ xs=>rD xs
 | .nilS _ x | .capE x | .clr _ _ x | .rangeS x | .nextS x | .rangeM x | .nextM x | .entry x=>gI x
 | .appZ _ _ _ _ x n=>gI x++gI n
def AN:gp→Bool
 | .mv _ | .pick .. | .build .. | .nilck _ | .arith .. | .eqS .. | .un .. | .conv .. | .mkfn .. | .slc .. | .slcS .. | .fieldA .. | .field .. | .idxA .. | .idxArr .. | .idx .. | .idxStr .. | .ext .. | .minmax ..
 | .len .slice _ | .len .string _=>true
 | _=>false
def JW:gp→Bool
 | .ld1 _ | .ldN .. | .b2s _ | .lookup .. | .len .. | .call .. | .callv .. => true
 | op=>AN op
def Gs(a b:gp):Bool:=AN a||AN b||(JW a&&JW b)
section
variable{f f':fD}
theorem uX{x:X}(h:∀ t∈gI x,f t=f' t):ev f x=ev f' x:=by
 cases x with
 | t k=>exact h k (by simp[gI])
 | c d=>rfl
theorem uY{l:List X}(h:∀ t∈rD l,f t=f' t):l.map (ev f)=l.map (ev f'):=
 aj fun x hx=>uX fun t ht=>h t (aO.2 ⟨_,av.2 ⟨x,hx,rfl⟩,ht⟩)
theorem JS:∀ {l:List (Nat×Nat×X)},(∀ t∈(l.map fun p=>gI p.2.2).flatten,f t=f' t)→partsOf f l=partsOf f' l
 | [],_=>rfl
 | (o,n,x)::r,h=>by
  have h1:ev f x=ev f' x:=uX fun t ht=>h t (by simp[ht])
  have h2:=JS (l:=r) fun t ht=>h t (by simp only[List.map_cons,aQ,List.mem_append];exact .inr ht)
  simp only[partsOf,h1,h2]
theorem DF{x:Option X}{n:Int}(h:∀ t∈Bo x,f t=f' t):gZ f x n=gZ f' x n:=by
 cases x with
 | none=>rfl
 | some x=>simp only[gZ,uX (x:=x) h]
theorem Og:∀ {l:List X},(∀ t∈rD l,f t=f' t)→nQ f l=nQ f' l
 | [],_=>rfl
 | x::r,h=>by
  have h1:ev f x=ev f' x:=uX fun t ht=>h t (by simp[rD,ht])
  have h2:=Og (l:=r) fun t ht=>h t (by simp only[rD,List.map_cons,aQ,List.mem_append];exact .inr ht)
  simp only[nQ,h1,h2]
theorem Lz{op:gp}(h:∀ t∈fQ op,f t=f' t)(H:U)(n:Nat):ft f H n op=ft f' H n op:=by
 have hx:∀ {x:X},(∀ t∈gI x,t∈fQ op)→ev f x=ev f' x:=fun hm=>uX fun t ht=>h t (hm t ht)
 cases op<;>simp only[ft]<;>first|rfl|skip
 case mv x=>rw[hx (x:=x) (fun t ht=>by simpa[fQ]using ht)]
 case pick c a b=>rw[hx (x:=c) (fun t ht=>by simp[fQ,ht]),hx (x:=a) (fun t ht=>by simp[fQ,ht]),hx (x:=b) (fun t ht=>by simp[fQ,ht])]
 case box x=>rw[hx (x:=x) (fun t ht=>by simpa[fQ]using ht)]
 case build z ps=>simp only[wJ,JS (f:=f) (f':=f') (l:=ps) (fun t ht=>h t (by simpa[fQ]using ht))]
 case buildSl t sz z m ps=>
  have:=JS (f:=f) (f':=f') (l:=ps.map fun p=>(p.1*sz,sz,p.2)) (fun t ht=>h t (by simpa[fQ,cd,dT]using ht))
  simp only[tg,this]
 case ld1 x=>rw[hx (x:=x) (fun t ht=>by simpa[fQ]using ht)]
 case ldN n x=>rw[hx (x:=x) (fun t ht=>by simpa[fQ]using ht)]
 case st1 a x=>rw[hx (x:=a) (fun t ht=>by simp[fQ,ht]),hx (x:=x) (fun t ht=>by simp[fQ,ht])]
 case stN n a x=>rw[hx (x:=a) (fun t ht=>by simp[fQ,ht]),hx (x:=x) (fun t ht=>by simp[fQ,ht])]
 case nilck x=>rw[hx (x:=x) (fun t ht=>by simpa[fQ]using ht)]
 case arith op x y=>rw[hx (x:=x) (fun t ht=>by simp[fQ,ht]),hx (x:=y) (fun t ht=>by simp[fQ,ht])]
 case eqS b ls neg x y=>rw[hx (x:=x) (fun t ht=>by simp[fQ,ht]),hx (x:=y) (fun t ht=>by simp[fQ,ht])]
 case un op x=>rw[hx (x:=x) (fun t ht=>by simpa[fQ]using ht)]
 case conv k x=>rw[hx (x:=x) (fun t ht=>by simpa[fQ]using ht)]
 case b2s x=>rw[hx (x:=x) (fun t ht=>by simpa[fQ]using ht)]
 case mkfn g a b=>rw[uY (f:=f) (f':=f') (l:=a) (fun t ht=>h t (by simp[fQ,ht])),uY (f:=f) (f':=f') (l:=b) (fun t ht=>h t (by simp[fQ,ht]))]
 case mksl t sz GY z l c=>rw[hx (x:=l) (fun t ht=>by simp[fQ,ht]),hx (x:=c) (fun t ht=>by simp[fQ,ht])]
 case slc sz x lo hi=>
  have e1:∀ n,gZ f lo n=gZ f' lo n:=fun n=>DF fun t ht=>h t (by simp[fQ,ht])
  have e2:∀ n,gZ f hi n=gZ f' hi n:=fun n=>DF fun t ht=>h t (by simp[fQ,ht])
  simp only[qD,e1,e2,hx (x:=x) (fun t ht=>by simp[fQ,ht])]
 case slcS x lo hi=>
  have e1:∀ n,gZ f lo n=gZ f' lo n:=fun n=>DF fun t ht=>h t (by simp[fQ,ht])
  have e2:∀ n,gZ f hi n=gZ f' hi n:=fun n=>DF fun t ht=>h t (by simp[fQ,ht])
  simp only[Gn,e1,e2,hx (x:=x) (fun t ht=>by simp[fQ,ht])]
 case fieldA o x=>rw[hx (x:=x) (fun t ht=>by simpa[fQ]using ht)]
 case field o n b x=>rw[hx (x:=x) (fun t ht=>by simpa[fQ]using ht)]
 case idxA sz x i=>rw[hx (x:=x) (fun t ht=>by simp[fQ,ht]),hx (x:=i) (fun t ht=>by simp[fQ,ht])]
 case idxArr sz n x i=>rw[hx (x:=x) (fun t ht=>by simp[fQ,ht]),hx (x:=i) (fun t ht=>by simp[fQ,ht])]
 case idx sz n b x i=>rw[hx (x:=x) (fun t ht=>by simp[fQ,ht]),hx (x:=i) (fun t ht=>by simp[fQ,ht])]
 case idxStr x i=>rw[hx (x:=x) (fun t ht=>by simp[fQ,ht]),hx (x:=i) (fun t ht=>by simp[fQ,ht])]
 case lookup kk z ok m k=>rw[hx (x:=m) (fun t ht=>by simp[fQ,ht]),hx (x:=k) (fun t ht=>by simp[fQ,ht])]
 case mapUpd kk m k x=>rw[hx (x:=m) (fun t ht=>by simp[fQ,ht]),hx (x:=k) (fun t ht=>by simp[fQ,ht]),hx (x:=x) (fun t ht=>by simp[fQ,ht])]
 case ext x i=>rw[hx (x:=x) (fun t ht=>by simpa[fQ]using ht)]
 case app t sz GY x y=>rw[hx (x:=x) (fun t ht=>by simp[fQ,ht]),hx (x:=y) (fun t ht=>by simp[fQ,ht])]
 case copy sz x y=>rw[hx (x:=x) (fun t ht=>by simp[fQ,ht]),hx (x:=y) (fun t ht=>by simp[fQ,ht])]
 case len k x=>rw[hx (x:=x) (fun t ht=>by simpa[fQ]using ht)]
 case minmax b xs=>simp only[xE,Og (f:=f) (f':=f') (l:=xs) (fun t ht=>h t (by simpa[fQ]using ht))]
end
end Go.AL
namespace Go.AL
open Go
theorem DK{f f':fD}{op:gp}(h:∀ t∈fQ op,f t=f' t):iM f op=iM f' op:=by
 cases op<;>first|rfl|skip
 case call g args=>simp only[iM,uY (f:=f) (f':=f') (l:=args) (fun t ht=>h t (by simpa[fQ]using ht))]
 case callN g args=>simp only[iM,uY (f:=f) (f':=f') (l:=args) (fun t ht=>h t (by simpa[fQ]using ht))]
 case callv g args=>
  simp only[iM,uY (f:=f) (f':=f') (l:=args) (fun t ht=>h t (by simp[fQ,ht])),uX (f:=f) (f':=f') (x:=g) (fun t ht=>h t (by simp[fQ,ht]))]
theorem Em{f f':fD}{op:gp}(h:∀ t∈fQ op,f t=f' t)(H:U):fu f H op=fu f' H op:=by
 have hx:∀ {x:X},(∀ t∈gI x,t∈fQ op)→ev f x=ev f' x:=fun hm=>uX fun t ht=>h t (hm t ht)
 have hc:=DK h
 cases op<;>simp only[fu]<;>first|rfl|skip
 case ld1 x=>rw[hx (x:=x) (fun t ht=>by simpa[fQ]using ht)]
 case ldN n x=>rw[hx (x:=x) (fun t ht=>by simpa[fQ]using ht)]
 case b2s x=>rw[hx (x:=x) (fun t ht=>by simpa[fQ]using ht)]
 case st1 a x=>rw[hx (x:=a) (fun t ht=>by simp[fQ,ht])]
 case stN n a x=>rw[hx (x:=a) (fun t ht=>by simp[fQ,ht])]
 case lookup kk z ok m k=>rw[hx (x:=m) (fun t ht=>by simp[fQ,ht])]
 case mapUpd kk m k x=>rw[hx (x:=m) (fun t ht=>by simp[fQ,ht])]
 case app t sz GY x y=>rw[hx (x:=x) (fun t ht=>by simp[fQ,ht]),hx (x:=y) (fun t ht=>by simp[fQ,ht])]
 case copy sz x y=>rw[hx (x:=x) (fun t ht=>by simp[fQ,ht]),hx (x:=y) (fun t ht=>by simp[fQ,ht])]
 case len k x=>cases k<;>simp only[fu]<;>rw[hx (x:=x) (fun t ht=>by simpa[fQ]using ht)]
 case call g args=>rw[uY (f:=f) (f':=f') (l:=args) (fun t ht=>h t (by simpa[fQ]using ht))]
 case callN g args=>rw[uY (f:=f) (f':=f') (l:=args) (fun t ht=>h t (by simpa[fQ]using ht))]
 case callv g args=>rw[hc]
section
variable{H1 H2:U}
theorem F8{v:Nat}(h:H1[v]? = H2[v]?)(g:Nat):rowAt H1 v g=rowAt H2 v g:=by simp only[rowAt,h]
theorem Jv{v:Nat}(h:H1[v]? = H2[v]?):jW H1 v=jW H2 v:=by simp only[jW,h]
theorem F'{v o n:Nat}(h:Alike (v,some (o,n)) H1 H2)(g:Nat) :
  (rowAt H1 v g=none∧rowAt H2 v g=none)∨∃ t cs ds,rowAt H1 v g=some (t,cs)∧rowAt H2 v g=some (t,ds)∧cs.length=ds.length∧∀ i,o≤i→i<o+n→cs[i]? = ds[i]? := by
 rcases h with h|⟨t,g',cs,ds,h1,h2,h3,h4⟩
 ·rw[F8 h g]
  cases hr:rowAt H2 v g with
  | none=>exact .inl ⟨rfl,rfl⟩
  | some p=>exact .inr ⟨p.1,p.2,p.2,rfl,rfl,rfl,fun _ _ _=>rfl⟩
 ·by_cases e:g'=g
  ·exact .inr ⟨t,cs,ds,by simp[rowAt,h1,e],by simp[rowAt,h2,e],h3,h4⟩
  ·exact .inl ⟨by simp[rowAt,h1,e],by simp[rowAt,h2,e]⟩
theorem Kf{sz:Nat}{d:D}(h:pB (lg d) H1 H2):jx sz H1 d=jx sz H2 d:=by
 unfold jx
 split<;>first|rfl|skip
 rename_i v g fG off len
 have:=h (v,none) (by simp[lg])
 rw[F8 this]
theorem pB.left{a b:List Fp}(h:pB (a++b) H1 H2):pB a H1 H2:=fun x hx=>h x (aP _ hx)
theorem pB.right{a b:List Fp}(h:pB (a++b) H1 H2):pB b H1 H2:=fun x hx=>h x (bq _ hx)
theorem QT{f:fD}{op:gp}(h:pB (fu f H1 op) H1 H2)(n:Nat):ft f H1 n op=ft f H2 n op:=by
 cases op<;>simp only[ft]<;>first|rfl|skip
 case ld1 x=>
  congr 1
  simp only[fu]at h
  unfold rn
  split<;>first|rfl|skip
  rename_i v g o hx
  rw[hx]at h
  rcases F' (h (v,some (o,1)) (by simp[rW])) g with⟨e1,e2⟩|⟨t,cs,ds,e1,e2,e3,e4⟩
  ·rw[e1,e2]
  ·rw[e1,e2];exact e4 o (Nat.le_refl _) (by omega)
 case ldN m x=>
  congr 1
  simp only[fu]at h
  unfold rp
  split<;>first|rfl|skip
  rename_i v g o hx
  rw[hx]at h
  rcases F' (h (v,some (o,m)) (by simp[rW])) g with⟨e1,e2⟩|⟨t,cs,ds,e1,e2,e3,e4⟩
  ·rw[e1,e2]
  ·rw[e1,e2]
   have:(cs.drop o).take m=(ds.drop o).take m:=by
    apply bK
    intro i
    simp only[az,aB]
    split
    ·exact e4 _ (by omega) (by omega)
    ·rfl
   simp only[e3,this]
 case st1 a x=>
  simp only[fu]at h
  unfold wh
  split<;>first|rfl|skip
  rename_i v g o hx
  rw[hx]at h
  rcases F' (h (v,some (o,1)) (by simp[rW])) g with⟨e1,e2⟩|⟨t,cs,ds,e1,e2,e3,e4⟩
  ·rw[e1,e2]
  ·rw[e1,e2];simp only[e3]
 case stN m a x=>
  simp only[fu]at h
  unfold wi
  split<;>first|rfl|skip
  rename_i v g o xs hx _
  rw[hx]at h
  rcases F' (h (v,some (o,m)) (by simp[rW])) g with⟨e1,e2⟩|⟨t,cs,ds,e1,e2,e3,e4⟩
  ·rw[e1,e2]
  ·rw[e1,e2];simp only[e3]
 case lookup kk z ok m k=>
  congr 1
  simp only[fu]at h
  unfold vI
  split<;>first|rfl|skip
  rename_i v kv hx _
  rw[hx]at h
  rw[Jv (h (v,none) (by simp[lg]))]
 case mapUpd kk m k x=>
  simp only[fu]at h
  unfold ub
  split<;>first|rfl|skip
  rename_i v kv hx _
  rw[hx]at h
  rw[Jv (h (v,none) (by simp[lg]))]
 case b2s x=>
  congr 1
  simp only[fu]at h
  unfold wI
  rw[Kf (sz:=1) h]
 case len k x=>
  congr 1
  unfold nq
  split<;>first|rfl|skip
  rename_i v hx
  simp only[fu]at h
  rw[hx]at h
  rw[Jv (h (v,none) (by simp[lg]))]
 case app t sz GY x y=>
  simp only[fu]at h
  unfold o3
  rw[Kf (sz:=sz) h.right]
  split<;>first|rfl|skip
  split<;>first|rfl|skip
  rename_i v g fG off len hx
  rw[hx]at h
  rw[F8 (h (v,none) (by simp[lg]))]
 case copy sz x y=>
  simp only[fu]at h
  unfold wN
  rw[Kf (sz:=sz) h.right]
  split<;>first|rfl|skip
  rename_i v g fG off len ys n hx _
  rw[hx]at h
  rw[F8 (h (v,none) (by simp[lg]))]
theorem um(H:U)(v g:Nat):rowAt H v g=match rowsOf H v with|some (t,g',cs)=>if g'=g then some (t,cs)else none|none=>none:=by
 unfold rowAt rowsOf
 cases H[v]? with
 | none=>rfl
 | some o=>cases o<;>rfl
theorem AX:∀ (k:Nat) (d:D),(∀ v∈fX H1 k d,rowsOf H1 v=rowsOf H2 v)→fX H2 k d=fX H1 k d∧eS (fun _=>none) H2 k d=eS (fun _=>none) H1 k d
 | 0,d,_=>⟨rfl,rfl⟩
 | k+1,d,h=>by
  have nu:∀ (ds:List D),(∀ v∈(ds.map (fX H1 k)).flatten,rowsOf H1 v=rowsOf H2 v)→ds.map (fX H2 k)=ds.map (fX H1 k)∧ds.map (eS (fun _=>none) H2 k)=ds.map (eS (fun _=>none) H1 k):=by
   intro ds mu
   have h1:∀ d∈ds,∀ v∈fX H1 k d,rowsOf H1 v=rowsOf H2 v:=fun d hd v hv=>mu v (aO.2 ⟨_,av.2 ⟨d,hd,rfl⟩,hv⟩)
   exact⟨aj fun d hd=>(AX k d (h1 d hd)).1,aj fun d hd=>(AX k d (h1 d hd)).2⟩
  unfold fX at h
  unfold fX eS
  by_cases hc:closed d=true
  ·simp only[if_pos hc,and_self]
  ·simp only[if_neg hc]at h ⊢
   cases d with
   | agg cs=>obtain⟨a,b⟩:=nu cs h;simp only[a,b,and_self]
   | tup cs=>obtain⟨a,b⟩:=nu cs h;simp only[a,b,and_self]
   | eZ cs=>obtain⟨a,b⟩:=nu cs h;simp only[a,b,and_self]
   | sl sz es=>
    have h1:∀ e∈es,e.map (fX H2 k)=e.map (fX H1 k)∧e.map (eS (fun _=>none) H2 k)=e.map (eS (fun _=>none) H1 k):=fun e he=>nu e fun v hv=>h v (aO.2 ⟨_,av.2 ⟨e,he,rfl⟩,hv⟩)
    have a:es.map (fun e=>(e.map (fX H2 k)).flatten)=es.map (fun e=>(e.map (fX H1 k)).flatten):=aj fun e he=>by rw[(h1 e he).1]
    have b:es.map (fun x=>x.map (eS (fun _=>none) H2 k))=es.map (fun x=>x.map (eS (fun _=>none) H1 k)):=aj fun e he=>(h1 e he).2
    simp only[a,b,and_self]
   | fn g x y=>
    obtain⟨a,b⟩:=nu x fun v hv=>h v (aP _ hv)
    obtain⟨a',b'⟩:=nu y fun v hv=>h v (bq _ hv)
    simp only[a,b,a',b',and_self]
   | eN v g sz off len=>
    have hv:rowsOf H1 v=rowsOf H2 v:=h v (by simp)
    simp only[um,← hv]
    cases fR:rowsOf H1 v with
    | none=>exact⟨rfl,rfl⟩
    | some p=>
     obtain⟨t,g',cs⟩:=p
     obtain⟨l1,l2⟩:=nu cs fun u hu=>h u (by simp only[fR];exact aU _ hu)
     refine⟨by simp only[l1],?_⟩
     by_cases hg:g'=g
     ·simp only[hg,if_true,eH,l2]
     ·simp only[if_neg hg]
   | ptr v g off=>
    have hv:rowsOf H1 v=rowsOf H2 v:=h v (by simp)
    simp only[um,← hv]
    cases fR:rowsOf H1 v with
    | none=>exact⟨rfl,rfl⟩
    | some p=>
     obtain⟨t,g',cs⟩:=p
     obtain⟨l1,l2⟩:=nu cs fun u hu=>h u (by simp only[fR];exact aU _ hu)
     refine⟨by simp only[l1],?_⟩
     by_cases hg:g'=g
     ·simp only[hg,if_true,eH,l2]
     ·simp only[if_neg hg]
   | _=>exact⟨rfl,rfl⟩
end
end Go.AL
namespace Go.AL
open Go
section
variable{P:Program}{G:GT}{c c2:Ctx}{H Hn:U}{w w2:World}{N:Nat}
theorem jX{ds:List D}(h:fm ds=true):∀ d∈ds,closed d=true:=fun d hd=>by
 obtain⟨i,hi⟩:=aD.1 hd
 exact r7 h hi
theorem mf{ρ:Nat→Option Nat}{k:Nat}{d:D}(h:closed d=true):eS ρ H k d=d:=by
 cases k<;>(unfold eS;simp[h])
def Ctx.join(c c2:Ctx)(n:Nat)(F:Nat→Prop):Ctx where
 ι:=fun v g=>if v<n then c.ι v g else c2.ι (v-n) g
 F:=F
 RT:=c.RT
theorem An{F:Nat→Prop}{v:Nat}{L:Loc}(h:jB (c.join c2 H.length F) (H++Hn) v L):(v<H.length∧jB c H v L)∨(H.length≤v∧jB c2 Hn (v-H.length) L):=by
 obtain⟨o,ho,ha,eU⟩:=h
 rcases bh v H.length with hv|hv
 ·rw[ag hv]at ho
  simp only[Ctx.join,if_pos hv]at eU
  exact .inl ⟨hv,o,ho,ha,eU⟩
 ·rw[ak hv]at ho
  simp only[Ctx.join,if_neg (eG.2 hv)]at eU
  exact .inr ⟨hv,o,ho,ha,eU⟩
structure s6(G:GT)(c c2:Ctx)(H Hn:U)(w w2:World)(F:Nat→Prop):Prop where
 eR:e9 G c H w
 kQ:e9 G c2 Hn w2
 mL:iC w w2
 fresh:∀ b,jS c2 Hn b→w.heap.size≤b
 le:∀ b,c.F b→F b
 lt:∀ b,F b→b<w2.heap.size
 n1:∀ b,F b→¬ jS c H b
 n2:∀ b,F b→¬ jS c2 Hn b
 new:∀ b,F b→c.F b∨w.heap.size≤b
 rows:∀ (v:Nat) (o:Ob),Hn[v]? = some o→∃ t g cs,o = .row t g cs∧∀ d∈cs,∀ u,eP c2 w2 u d→eP (c.join c2 H.length F) w2 u d
variable{F:Nat→Prop}
theorem Oh(j:s6 G c c2 H Hn w w2 F){u:Value}{d:D}(h:eP c w u d):eP (c.join c2 H.length F) w2 u d:=by
 refine h.carry (fun v k L hL=>?_) j.le (fun b o hF=>yW (j.mL.kept b (j.eR.iQ b hF)))
 have hv:v<H.length:=by
  rcases bh v H.length with h|h
  ·exact h
  ·rw[j.eR.out v k h]at hL;cases hL
 simp only[Ctx.join,if_pos hv];exact hL
theorem Fo(j:s6 G c c2 H Hn w w2 F):e9 G (c.join c2 H.length F) (H++Hn) w2 where
 inj v v' L L' h1 h2 h3 h4 he:=by
  rcases An h1 with⟨a,b⟩|⟨a,b⟩<;>rcases An h2 with⟨a',b'⟩|⟨a',b'⟩
  ·exact j.eR.inj v v' L L' b b' h3 h4 he
  ·have:=j.eR.lt _ ⟨v,L,b,h3,rfl⟩
   have:=j.fresh _ ⟨_,L',b',h4,rfl⟩
   omega
  ·have:=j.eR.lt _ ⟨v',L',b',h4,rfl⟩
   have:=j.fresh _ ⟨_,L,b,h3,rfl⟩
   omega
  ·have:=j.kQ.inj _ _ L L' b b' h3 h4 he
   omega
 lt b hb:=by
  obtain⟨v,L,hl,hv,e⟩:=hb
  rcases An hl with⟨_,hl⟩|⟨_,hl⟩
  ·exact aK (j.eR.lt b ⟨v,L,hl,hv,e⟩) j.mL.size
  ·exact j.kQ.lt b ⟨_,L,hl,hv,e⟩
 nF b hb hF:=by
  obtain⟨v,L,hl,hv,e⟩:=hb
  rcases An hl with⟨_,hl⟩|⟨_,hl⟩
  ·exact j.n1 b hF ⟨v,L,hl,hv,e⟩
  ·exact j.n2 b hF ⟨_,L,hl,hv,e⟩
 iQ b hb:=j.lt b hb
 out v k hv:=by
  simp only[ay]at hv
  simp only[Ctx.join,if_neg (show ¬ v<H.length by omega)]
  exact j.kQ.out _ k (by omega)
 jU v o k ho hk:=by
  rcases bh v H.length with hv|hv
  ·rw[ag hv]at ho
   simp only[Ctx.join,if_pos hv]
   exact j.eR.jU v o k ho hk
  ·rw[ak hv]at ho
   simp only[Ctx.join,if_neg (eG.2 hv)]
   exact j.kQ.jU _ o k ho hk
 ob v o ho:=by
  rcases bh v H.length with hv|hv
  ·rw[ag hv]at ho
   simp only[Ctx.join,if_pos hv]
   exact fJ.mz (c:=c) (c':=c.join c2 H.length F) rfl (fun _ _ h=>Oh j h) (fun l hl jm hd=>j.mL.kept _ (j.eR.lt _ ⟨v,l,⟨o,ho,hd,hl⟩,jm,rfl⟩)) (j.eR.ob v o ho)
  ·rw[ak hv]at ho
   simp only[Ctx.join,if_neg (eG.2 hv)]
   have h0:=j.kQ.ob _ o ho
   obtain⟨t,g,cs,rfl,hr⟩:=j.rows _ o ho
   simp only[Ob.gen]at h0 ⊢
   cases hL:c2.ι (v-H.length) g with
   | none=>rw[hL]at h0;simp[fJ]at h0
   | some L=>
    rw[hL]at h0
    simp only[fJ]at h0 ⊢
    split
    ·rename_i kD;simp only[kD,if_true]at h0;exact h0
    ·rename_i kD
     simp only[kD]at h0
     obtain⟨arr,h1,h2,h3,h4⟩:=h0
     refine⟨arr,h1,h2,h3,fun i d hd=>?_⟩
     obtain⟨x,ni,kj,sD⟩:=h4 i d hd
     exact⟨x,ni,kj,hr d (aW hd) _ sD⟩
 gl g cs hg:=by
  obtain⟨h1,h2⟩:=j.eR.gl g cs hg
  exact⟨h1,Oh j h2⟩
 rt:=j.eR.rt
theorem Fq(j:s6 G c c2 H Hn w w2 F):Step H.length c H w (c.join c2 H.length F) (H++Hn) w2 where
 os:=j.mL.os
 tape:=j.mL.tape
 output:=j.mL.output
 size:=j.mL.size
 RT:=rfl
 Fm b hb:=j.le b hb
 Fn b hb:=(j.new b hb).imp id .inl
 kept b hb _:=j.mL.kept b hb
 old v k L hv h:=by simp only[Ctx.join,if_pos hv];exact h
 own b hb:=by
  obtain⟨v,L,hl,hv,e⟩:=hb
  rcases An hl with⟨_,hl⟩|⟨_,hl⟩
  ·exact .inr ⟨v,L,hl,hv,e⟩
  ·exact .inl (j.fresh b ⟨_,L,hl,hv,e⟩)
theorem F1(j:s6 G c c2 H Hn w w2 F){p:D→Bool}(hp:∀ d u,p d=true→eP c2 w2 u d→eP (c.join c2 H.length F) w2 u d){u:Value}{r:D}
  (hr:eP c2 w2 u r) (h:ry p r=true):eP (c.join c2 H.length F) w2 u (iO H.length r):=by
 have zW:∀ v g sz off len u,eP c2 w2 u (.eN v g sz off len)→eP (c.join c2 H.length F) w2 u (.eN (v+H.length) g sz off len):=by
  intro v g sz off len u hr
  cases hr with
  | eN _ _ _ _ _ cap L eU hv iE iW jO=>exact .eN _ g sz off len cap L (by simp only[Ctx.join];rw[if_neg (by omega),Nat.add_sub_cancel];exact eU) hv iE iW jO
  | kT _ _ _ _ L eU a=>exact .kT _ g sz off L (by simp only[Ctx.join];rw[if_neg (by omega),Nat.add_sub_cancel];exact eU) a
 have h1:∀ (d:D) (u:Value),sN p d=true→eP c2 w2 u d→eP (c.join c2 H.length F) w2 u (sI H.length d):=by
  intro d u hd hr
  cases d<;>first|exact zW _ _ _ _ _ _ hr|exact hp _ _ hd hr
 cases r with
 | tup ds=>
  cases hr with
  | tup vs _ hl sB=>
   simp only[iO]
   refine .tup vs _ (by simpa using hl) fun i v d hv hd=>?_
   simp only[ar,ai]at hd
   obtain⟨d0,jb,rfl⟩:=hd
   exact h1 d0 v (ao.1 h d0 (aW jb)) (sB i v d0 hv jb)
 | agg ds=>
  cases hr with
  | agg vs _ hl ho sB=>
   simp only[iO]
   refine .agg vs _ (by simpa using hl) ho fun i v d hv hd=>?_
   simp only[ar,ai]at hd
   obtain⟨d0,jb,rfl⟩:=hd
   exact h1 d0 v (ao.1 h d0 (aW jb)) (sB i v d0 hv jb)
 | eN v g sz off len=>exact zW _ _ _ _ _ _ hr
 | _=>exact hp _ _ h hr
def Ctx.data(c:Ctx)(F:Nat→Prop):Ctx where
 ι:=fun _ _=>none
 F:=F
 RT:=c.RT
theorem DZ(h:e9 G c H w):e9 G (c.data c.F) [] w where
 inj v v' L L' h1:=by obtain⟨o,ho,_⟩:=h1;simp at ho
 lt b hb:=by obtain⟨v,L,⟨o,ho,_⟩,_⟩:=hb;simp at ho
 nF b hb:=by obtain⟨v,L,⟨o,ho,_⟩,_⟩:=hb;simp at ho
 iQ b hb:=h.iQ b hb
 out _ _ _:=rfl
 jU _ _ _ _ _:=rfl
 ob v o ho:=by simp at ho
 gl g cs hg:=by
  obtain⟨h1,h2⟩:=h.gl g cs hg
  exact⟨h1,eP.closed (c:=c) (c':=c.data c.F) (fun b hb=>hb) h2 (by simpa[AL.closed]using h1)⟩
 rt:=h.rt
theorem po{c:Ctx}{b:Nat}:¬ jS c [] b:=by
 rintro⟨v,L,⟨o,ho,_⟩,_⟩
 simp at ho
theorem u9{n:Nat}{c0:Ctx}(hs:Step n c0 [] w c2 Hn w2):iC w w2:=
 ⟨hs.os,hs.tape,hs.output,hs.size,fun b hb=>hs.kept b hb po⟩
theorem L7(h:Hn.all lG=true){v:Nat}{o:Ob}(ho:Hn[v]? = some o):∃ t g cs,o = .row t g cs∧∀ d∈cs,closed d=true:=by
 have:=ao.1 h o (aW ho)
 cases o<;>simp only[lG]at this<;>first|cases this;done|skip
 exact⟨_,_,_,rfl,jX this⟩
theorem MS(h:Hn.all mJ=true){v:Nat}{o:Ob}(ho:Hn[v]? = some o):∃ t g cs,o = .row t g cs∧∀ d∈cs,flat d=true:=by
 have:=ao.1 h o (aW ho)
 cases o<;>simp only[mJ]at this<;>first|cases this;done|skip
 refine⟨_,_,_,rfl,fun d hd=>?_⟩
 obtain⟨i,hi⟩:=aD.1 hd
 exact wS this hi
def sV(P:Program)(G:GT)(f:FuncId)(args:List D)(H:U)(d:D)(H':U):Prop:=
 ∀ (c:Ctx) (w:World) (vs:List Value),e9 G c H w→gY c w vs args →
  Calls P f vs.toArray w fun e w'=>∃ v c',e = .returned v∧e9 G c' H' w'∧eP c' w' v d∧Step H.length c H w c' H' w'
def qH(P:Program)(G:GT)(f:FuncId)(args:List D)(H:U)(R:D→U→Prop):Prop:=
 ∀ (c:Ctx) (w:World) (vs:List Value),e9 G c H w→gY c w vs args →
  Calls P f vs.toArray w fun e w'=>∃ v c' d H',e = .returned v∧R d H'∧H.length≤H'.length∧e9 G c' H' w'∧eP c' w' v d∧Step H.length c H w c' H' w'
theorem qH.one{f:FuncId}{args:List D}{H:U}{R:D→U→Prop}{d:D}{H':U}(h:qH P G f args H R)(h1:∀ d' Hn,R d' Hn→d'=d∧Hn=H'):sV P G f args H d H':=
 fun c w vs h2 h3=>(h c w vs h2 h3).mono fun _ _ ⟨v,c',_,_,he,hR,_,a,b,e⟩=>by
  obtain⟨rfl,rfl⟩:=h1 _ _ hR
  exact⟨v,c',he,a,b,e⟩
theorem J':eS (fun _=>none) H 40=eS (fM []) H 40:=rfl
theorem gY.map{c c':Ctx}{f:D→D}(hr:∀ v d,eP c w v d→eP c' w v (f d)){vs:List Value}{ds:List D}(h:gY c w vs ds):gY c' w vs (ds.map f):=by
 induction h with
 | nil=>exact .nil
 | cons h _ ih=>exact .cons (hr _ _ h) ih
theorem PC(eR:e9 G c H w){f:FuncId}{vs:List Value}{args:List D}{d:D}(hr:gY c w vs args)(il:sV P G f (args.map (eS (fun _=>none) H 40)) [] d Hn)
  (hc:(if fm args then kE d&&Hn.all lG else mD d&&Hn.all mJ)=true) :
  Calls P f vs.toArray w fun e w'=>∃ v c',e = .returned v∧e9 G c' (H++Hn) w'∧eP c' w' v (iO H.length d)∧Step H.length c H w c' (H++Hn) w':=by
 by_cases fE:fm args=true
 ·rw[if_pos fE]at hc
  simp only[ah]at hc
  have e:args.map (eS (fun _=>none) H 40)=args:=by
   conv=>rhs;rw[← aR args]
   exact aj fun d hd=>mf (jX fE d hd)
  rw[e]at il
  have qn:gY (c.data c.F) w vs args:=by
   clear il hc e
   induction hr with
   | nil=>exact .nil
   | cons h _ ih=>
    simp only[fm,ah]at fE
    exact .cons (eP.closed (c:=c) (c':=c.data c.F) (fun b hb=>hb) h fE.1) (ih fE.2)
  refine(il _ w vs (DZ eR) qn).mono ?_
  rintro e w' ⟨v,c2,he,h2,hv,eX⟩
  have hg:=u9 eX
  have hF:∀ b,c2.F b→c.F b∨w.heap.size≤b:=fun b hb=>by
   rcases eX.Fn b hb with h|h|h
   ·exact .inl h
   ·exact .inr h
   ·exact absurd h po
  have j:s6 G c c2 H Hn w w' c2.F:={
   eR:=eR
   kQ:=h2
   mL:=hg
   fresh:=fun b hb=>by
    rcases eX.own b hb with h|h
    ·exact h
    ·exact absurd h po
   le:=fun b hb=>eX.Fm b hb
   lt:=h2.iQ
   n1:=fun b hb ho=>by
    rcases hF b hb with h|h
    ·exact eR.nF b ho h
    ·have:=eR.lt b ho;omega
   n2:=fun b hb ho=>h2.nF b ho hb
   new:=hF
   rows:=fun v o ho=>by
    obtain⟨t,g,cs,rfl,gQ⟩:=L7 hc.2 ho
    exact⟨t,g,cs,rfl,fun d hd u hu=>eP.closed (c:=c2) (c':=c.join c2 H.length c2.F) (fun b hb=>hb) hu (gQ d hd)⟩ }
  exact⟨v,_,he,Fo j,F1 j (p:=AL.closed) (fun d u hd hu=>eP.closed (c:=c2) (c':=c.join c2 H.length c2.F) (fun b hb=>hb) hu hd) hv hc.1,Fq j⟩
 ·rw[if_neg fE]at hc
  simp only[ah]at hc
  have qn:gY (c.eS [] H) w vs (args.map (eS (fun _=>none) H 40)):=hr.map fun v d h=>by
   rw[J'];exact uj eR 40 h
  have zU:e9 G (c.eS [] H) [] w:=xX (ks:=[]) eR (fun i j p q hp=>by simp at hp)
  refine(il _ w vs zU qn).mono ?_
  rintro e w' ⟨v,c2,he,h2,hv,eX⟩
  have hg:=u9 eX
  have j:s6 G c c2 H Hn w w' c.F:={
   eR:=eR
   kQ:=h2
   mL:=hg
   fresh:=fun b hb=>by
    rcases eX.own b hb with h|h
    ·exact h
    ·exact absurd h po
   le:=fun b hb=>hb
   lt:=fun b hb=>aK (eR.iQ b hb) hg.size
   n1:=fun b hb ho=>eR.nF b ho hb
   n2:=fun b hb ho=>by
    rcases eX.own b ho with h|h
    ·have:=eR.iQ b hb;omega
    ·exact absurd h po
   new:=fun b hb=>.inl hb
   rows:=fun v o ho=>by
    obtain⟨t,g,cs,rfl,gQ⟩:=MS hc.2 ho
    exact⟨t,g,cs,rfl,fun d hd u hu=>eP.flat hu (gQ d hd)⟩ }
  exact⟨v,_,he,Fo j,F1 j (p:=AL.flat) (fun d u hd hu=>eP.flat hu hd) hv hc.1,Fq j⟩
theorem abE(eR:e9 G c H w){f:FuncId}{vs:List Value}{args:List D}{R:D→U→Prop}(hr:gY c w vs args)(il:qH P G f (args.map (eS (fun _=>none) H 40)) [] R)
  (hc:∀ d Hn,R d Hn→(if fm args then kE d&&Hn.all lG else mD d&&Hn.all mJ)=true) :
  Calls P f vs.toArray w fun e w'=>∃ v c' d Hn,e = .returned v∧R d Hn∧e9 G c' (H++Hn) w'∧eP c' w' v (iO H.length d)∧Step H.length c H w c' (H++Hn) w':=by
 by_cases fE:fm args=true
 ·simp only[if_pos fE,ah]at hc
  have e:args.map (eS (fun _=>none) H 40)=args:=by
   conv=>rhs;rw[← aR args]
   exact aj fun d hd=>mf (jX fE d hd)
  rw[e]at il
  have qn:gY (c.data c.F) w vs args:=by
   clear il hc e
   induction hr with
   | nil=>exact .nil
   | cons h _ ih=>
    simp only[fm,ah]at fE
    exact .cons (eP.closed (c:=c) (c':=c.data c.F) (fun b hb=>hb) h fE.1) (ih fE.2)
  refine(il _ w vs (DZ eR) qn).mono ?_
  rintro e w' ⟨v,c2,d,Hn,he,hR,_,h2,hv,eX⟩
  have hc:=hc d Hn hR
  have hg:=u9 eX
  have hF:∀ b,c2.F b→c.F b∨w.heap.size≤b:=fun b hb=>by
   rcases eX.Fn b hb with h|h|h
   ·exact .inl h
   ·exact .inr h
   ·exact absurd h po
  have j:s6 G c c2 H Hn w w' c2.F:={
   eR:=eR
   kQ:=h2
   mL:=hg
   fresh:=fun b hb=>by
    rcases eX.own b hb with h|h
    ·exact h
    ·exact absurd h po
   le:=fun b hb=>eX.Fm b hb
   lt:=h2.iQ
   n1:=fun b hb ho=>by
    rcases hF b hb with h|h
    ·exact eR.nF b ho h
    ·have:=eR.lt b ho;omega
   n2:=fun b hb ho=>h2.nF b ho hb
   new:=hF
   rows:=fun v o ho=>by
    obtain⟨t,g,cs,rfl,gQ⟩:=L7 hc.2 ho
    exact⟨t,g,cs,rfl,fun d hd u hu=>eP.closed (c:=c2) (c':=c.join c2 H.length c2.F) (fun b hb=>hb) hu (gQ d hd)⟩ }
  exact⟨v,_,d,Hn,he,hR,Fo j,F1 j (p:=AL.closed) (fun d u hd hu=>eP.closed (c:=c2) (c':=c.join c2 H.length c2.F) (fun b hb=>hb) hu hd) hv hc.1,Fq j⟩
 ·simp only[if_neg fE,ah]at hc
  have qn:gY (c.eS [] H) w vs (args.map (eS (fun _=>none) H 40)):=hr.map fun v d h=>by
   rw[J'];exact uj eR 40 h
  have zU:e9 G (c.eS [] H) [] w:=xX (ks:=[]) eR (fun i j p q hp=>by simp at hp)
  refine(il _ w vs zU qn).mono ?_
  rintro e w' ⟨v,c2,d,Hn,he,hR,_,h2,hv,eX⟩
  have hc:=hc d Hn hR
  have hg:=u9 eX
  have j:s6 G c c2 H Hn w w' c.F:={
   eR:=eR
   kQ:=h2
   mL:=hg
   fresh:=fun b hb=>by
    rcases eX.own b hb with h|h
    ·exact h
    ·exact absurd h po
   le:=fun b hb=>hb
   lt:=fun b hb=>aK (eR.iQ b hb) hg.size
   n1:=fun b hb ho=>eR.nF b ho hb
   n2:=fun b hb ho=>by
    rcases eX.own b ho with h|h
    ·have:=eR.iQ b hb;omega
    ·exact absurd h po
   new:=fun b hb=>.inl hb
   rows:=fun v o ho=>by
    obtain⟨t,g,cs,rfl,gQ⟩:=MS hc.2 ho
    exact⟨t,g,cs,rfl,fun d hd u hu=>eP.flat hu (gQ d hd)⟩ }
  exact⟨v,_,d,Hn,he,hR,Fo j,F1 j (p:=AL.flat) (fun d u hd hu=>eP.flat hu hd) hv hc.1,Fq j⟩
def Ctx.lP(c c2:Ctx)(n:Nat)(F:Nat→Prop):Ctx where
 ι:=fun v g=>if v=n then c2.ι 0 g else c.ι v g
 F:=F
 RT:=c.RT
theorem AO{n:Nat}{ob:Ob}(hn:H[n]? = some .hole){F:Nat→Prop}{v:Nat}{L:Loc}(h:jB (c.lP c2 n F) (H.set n ob) v L):(v≠n∧jB c H v L)∨(v=n∧jB c2 [ob] 0 L):=by
 obtain⟨o,ho,ha,eU⟩:=h
 rw[oB (ae.1 hn).1]at ho
 by_cases hv:v=n
 ·subst hv
  rw[if_pos rfl]at ho
  cases ho
  simp only[Ctx.lP,if_true]at eU
  exact .inr ⟨rfl,ob,rfl,ha,eU⟩
 ·rw[if_neg hv]at ho
  simp only[Ctx.lP,if_neg hv]at eU
  exact .inl ⟨hv,o,ho,ha,eU⟩
theorem abD(eR:e9 G c H w){f:FuncId}{vs:List Value}{args:List D}{d:D}{ob:Ob}{n:Nat}(hr:gY c w vs args)(il:sV P G f (args.map (eS (fun _=>none) H 40)) [] d [ob])
  (hc:(if fm args then kE d&&lG ob else mD d&&mJ ob)=true) (hn:H[n]? = some .hole) :
  Calls P f vs.toArray w fun e w'=>∃ v c',e = .returned v∧e9 G c' (H.set n ob) w'∧eP c' w' v (iO n d)∧Step H.length c H w c' (H.set n ob) w':=by
 have fj:=(ae.1 hn).1
 have Ni:∀ k,c.ι n k=none:=fun k=>eR.jU n _ k hn (.inl rfl)
 have main:∀ (c2:Ctx) (w':World) (v:Value) (F:Nat→Prop),e9 G c2 [ob] w'→eP c2 w' v d→iC w w'→(∀ b,jS c2 [ob] b→w.heap.size≤b)→(∀ b,c.F b→F b)→(∀ b,F b→b<w'.heap.size) →
   (∀ b,F b→¬ jS c H b)→(∀ b,F b→¬ jS c2 [ob] b)→(∀ b,F b→c.F b∨w.heap.size≤b)→∀ (p:D→Bool),(∀ d u,p d=true→eP c2 w' u d→eP (c.lP c2 n F) w' u d)→ry p d=true →
   (∃ t g cs,ob = .row t g cs∧∀ d∈cs,p d=true) →
   e9 G (c.lP c2 n F) (H.set n ob) w'∧eP (c.lP c2 n F) w' v (iO n d)∧Step H.length c H w (c.lP c2 n F) (H.set n ob) w':=by
  intro c2 w' v F kQ hv hg Ik hle Uw UB UC kC p hp hd ga
  have carry:∀ {u:Value} {d:D},eP c w u d→eP (c.lP c2 n F) w' u d:=fun h=>by
   refine h.carry (fun v k L hL=>?_) hle (fun b o hF=>yW (hg.kept b (eR.iQ b hF)))
   have fY:v≠n:=fun e=>by rw[e,Ni]at hL;cases hL
   simp only[Ctx.lP,if_neg fY];exact hL
  have zW:∀ v g sz off len u,eP c2 w' u (.eN v g sz off len)→(v=0)→eP (c.lP c2 n F) w' u (.eN (v+n) g sz off len):=by
   intro v g sz off len u hr h0
   subst h0
   cases hr with
   | eN _ _ _ _ _ cap L eU hv iE iW jO=>exact .eN _ g sz off len cap L (by simp only[Ctx.lP,bj,if_true];exact eU) hv iE iW jO
   | kT _ _ _ _ L eU a=>exact .kT _ g sz off L (by simp only[Ctx.lP,bj,if_true];exact eU) a
  have hz:∀ v g sz off len u,eP c2 w' u (.eN v g sz off len)→v=0:=by
   intro v g sz off len u hr
   have:∃ L,c2.ι v g=some L:=by
    cases hr with
    | eN _ _ _ _ _ cap L eU=>exact⟨L,eU⟩
    | kT _ _ _ _ L eU=>exact⟨L,eU⟩
   obtain⟨L,hL⟩:=this
   rcases dO v with h|h
   ·exact h
   ·rw[kQ.out v g (by show 1≤v;exact h)]at hL;cases hL
  have h1:∀ (d:D) (u:Value),sN p d=true→eP c2 w' u d→eP (c.lP c2 n F) w' u (sI n d):=by
   intro d u hd hr
   cases d<;>first|exact zW _ _ _ _ _ _ hr (hz _ _ _ _ _ _ hr)|exact hp _ _ hd hr
  refine⟨{
   inj:=fun v v' L L' h1 h2 h3 h4 he=>by
    rcases AO hn h1 with⟨a,b⟩|⟨a,b⟩<;>rcases AO hn h2 with⟨a',b'⟩|⟨a',b'⟩
    ·exact eR.inj v v' L L' b b' h3 h4 he
    ·have:=eR.lt _ ⟨v,L,b,h3,rfl⟩
     have:=Ik _ ⟨_,L',b',h4,rfl⟩
     omega
    ·have:=eR.lt _ ⟨v',L',b',h4,rfl⟩
     have:=Ik _ ⟨_,L,b,h3,rfl⟩
     omega
    ·rw[a,a']
   lt:=fun b hb=>by
    obtain⟨v,L,hl,hv,e⟩:=hb
    rcases AO hn hl with⟨_,hl⟩|⟨_,hl⟩
    ·exact aK (eR.lt b ⟨v,L,hl,hv,e⟩) hg.size
    ·exact kQ.lt b ⟨_,L,hl,hv,e⟩
   nF:=fun b hb hF=>by
    obtain⟨v,L,hl,hv,e⟩:=hb
    rcases AO hn hl with⟨_,hl⟩|⟨_,hl⟩
    ·exact UB b hF ⟨v,L,hl,hv,e⟩
    ·exact UC b hF ⟨_,L,hl,hv,e⟩
   iQ:=Uw
   out:=fun v k hv=>by
    simp only[bN]at hv
    simp only[Ctx.lP,if_neg (show ¬ v=n by omega)]
    exact eR.out _ k hv
   jU:=fun v o k ho hk=>by
    rw[oB fj]at ho
    by_cases hv:v=n
    ·subst hv
     rw[if_pos rfl]at ho
     cases ho
     simp only[Ctx.lP,if_true]
     exact kQ.jU 0 _ k rfl hk
    ·rw[if_neg hv]at ho
     simp only[Ctx.lP,if_neg hv]
     exact eR.jU v o k ho hk
   ob:=fun v o ho=>by
    rw[oB fj]at ho
    by_cases hv:v=n
    ·subst hv
     rw[if_pos rfl]at ho
     cases ho
     simp only[Ctx.lP,if_true]
     have h0:=kQ.ob 0 _ rfl
     obtain⟨t,g,cs,rfl,gQ⟩:=ga
     simp only[Ob.gen]at h0 ⊢
     cases hL:c2.ι 0 g with
     | none=>rw[hL]at h0;simp[fJ]at h0
     | some L=>
      rw[hL]at h0
      simp only[fJ]at h0 ⊢
      split
      ·rename_i kD;simp only[kD,if_true]at h0;exact h0
      ·rename_i kD
       simp only[kD]at h0
       obtain⟨arr,h1,h2,h3,h4⟩:=h0
       refine⟨arr,h1,h2,h3,fun i d hd=>?_⟩
       obtain⟨x,ni,kj,sD⟩:=h4 i d hd
       exact⟨x,ni,kj,hp d _ (gQ d (aW hd)) sD⟩
    ·rw[if_neg hv]at ho
     simp only[Ctx.lP,if_neg hv]
     exact fJ.mz (c:=c) (c':=c.lP c2 n F) rfl (fun _ _ h=>carry h) (fun l hl jm hd=>hg.kept _ (eR.lt _ ⟨v,l,⟨o,ho,hd,hl⟩,jm,rfl⟩)) (eR.ob v o ho)
   gl:=fun g cs hg=>by
    obtain⟨h1,h2⟩:=eR.gl g cs hg
    exact⟨h1,carry h2⟩
   rt:=eR.rt },?_,?_⟩
  ·cases d with
   | tup ds=>
    cases hv with
    | tup vs _ hl sB=>
     simp only[iO]
     refine .tup vs _ (by simpa using hl) fun i v d hv l6=>?_
     simp only[ar,ai]at l6
     obtain⟨d0,jb,rfl⟩:=l6
     exact h1 d0 v (ao.1 hd d0 (aW jb)) (sB i v d0 hv jb)
   | agg ds=>
    cases hv with
    | agg vs _ hl ho sB=>
     simp only[iO]
     refine .agg vs _ (by simpa using hl) ho fun i v d hv l6=>?_
     simp only[ar,ai]at l6
     obtain⟨d0,jb,rfl⟩:=l6
     exact h1 d0 v (ao.1 hd d0 (aW jb)) (sB i v d0 hv jb)
   | eN v g sz off len=>exact zW _ _ _ _ _ _ hv (hz _ _ _ _ _ _ hv)
   | _=>exact hp _ _ hd hv
  ·exact{
    os:=hg.os
    tape:=hg.tape
    output:=hg.output
    size:=hg.size
    RT:=rfl
    Fm:=hle
    Fn:=fun b hb=>(kC b hb).imp id .inl
    kept:=fun b hb _=>hg.kept b hb
    old:=fun v k L hv h=>by
     have fY:v≠n:=fun e=>by rw[e,Ni]at h;cases h
     simp only[Ctx.lP,if_neg fY];exact h
    own:=fun b hb=>by
     obtain⟨v,L,hl,hv,e⟩:=hb
     rcases AO hn hl with⟨_,hl⟩|⟨_,hl⟩
     ·exact .inr ⟨v,L,hl,hv,e⟩
     ·exact .inl (Ik b ⟨_,L,hl,hv,e⟩) }
 by_cases fE:fm args=true
 ·simp only[if_pos fE,ah]at hc
  have e:args.map (eS (fun _=>none) H 40)=args:=by
   conv=>rhs;rw[← aR args]
   exact aj fun d hd=>mf (jX fE d hd)
  rw[e]at il
  have qn:gY (c.data c.F) w vs args:=by
   clear il hc e
   induction hr with
   | nil=>exact .nil
   | cons h _ ih=>
    simp only[fm,ah]at fE
    exact .cons (eP.closed (c:=c) (c':=c.data c.F) (fun b hb=>hb) h fE.1) (ih fE.2)
  refine(il _ w vs (DZ eR) qn).mono ?_
  rintro e w' ⟨v,c2,he,h2,hv,eX⟩
  have hg:=u9 eX
  have hF:∀ b,c2.F b→c.F b∨w.heap.size≤b:=fun b hb=>by
   rcases eX.Fn b hb with h|h|h
   ·exact .inl h
   ·exact .inr h
   ·exact absurd h po
  obtain⟨m1,m2,m3⟩:=main c2 w' v c2.F h2 hv hg (fun b hb=>by
    rcases eX.own b hb with h|h
    ·exact h
    ·exact absurd h po) (fun b hb=>eX.Fm b hb) h2.iQ (fun b hb ho=>by
    rcases hF b hb with h|h
    ·exact eR.nF b ho h
    ·have:=eR.lt b ho;omega) (fun b hb ho=>h2.nF b ho hb) hF AL.closed (fun d u hd hu=>eP.closed (c:=c2) (c':=c.lP c2 n c2.F) (fun b hb=>hb) hu hd) hc.1 (by
    have:=hc.2
    cases ob<;>simp only[lG]at this<;>first|(cases this;done)|skip
    exact⟨_,_,_,rfl,jX this⟩)
  exact⟨v,_,he,m1,m2,m3⟩
 ·simp only[if_neg fE,ah]at hc
  have qn:gY (c.eS [] H) w vs (args.map (eS (fun _=>none) H 40)):=hr.map fun v d h=>by
   rw[J'];exact uj eR 40 h
  have zU:e9 G (c.eS [] H) [] w:=xX (ks:=[]) eR (fun i j p q hp=>by simp at hp)
  refine(il _ w vs zU qn).mono ?_
  rintro e w' ⟨v,c2,he,h2,hv,eX⟩
  have hg:=u9 eX
  obtain⟨m1,m2,m3⟩:=main c2 w' v c.F h2 hv hg (fun b hb=>by
    rcases eX.own b hb with h|h
    ·exact h
    ·exact absurd h po) (fun b hb=>hb) (fun b hb=>aK (eR.iQ b hb) hg.size) (fun b hb ho=>eR.nF b ho hb) (fun b hb ho=>by
    rcases eX.own b ho with h|h
    ·have:=eR.iQ b hb;omega
    ·exact absurd h po) (fun b hb=>.inl hb) AL.flat (fun d u hd hu=>eP.flat hu hd) hc.1 (by
    have:=hc.2
    cases ob<;>simp only[mJ]at this<;>first|(cases this;done)|skip
    refine⟨_,_,_,rfl,fun d hd=>?_⟩
    obtain⟨i,hi⟩:=aD.1 hd
    exact wS this hi)
  exact⟨v,_,he,m1,m2,m3⟩
theorem abU{S:List Nat}{v:Nat}(hv:v∈S):fM (jT H S) v=none:=by
 unfold fM jT
 rw[cV]
 intro p hp
 obtain⟨u,_,rfl⟩:=av.1 hp
 by_cases hu:u=v
 ·subst hu;simp[hv]
 ·simp[hu]
theorem Qf{v:Nat}:∀ (k:Nat) (d:D),(∀ u∈fX H k d,u=v)→AL.eS (fM (jT H [v])) H k d=AL.eS (fun _=>none) H k d
 | 0,d,_=>rfl
 | k+1,d,h=>by
  have hv:fM (jT H [v]) v=none:=abU (by simp)
  have nu:∀ (ds:List D),(∀ u∈(ds.map (fX H k)).flatten,u=v)→ds.map (AL.eS (fM (jT H [v])) H k)=ds.map (AL.eS (fun _=>none) H k):=fun ds mu=>
   aj fun d hd=>Qf k d fun u hu=>mu u (aO.2 ⟨_,av.2 ⟨d,hd,rfl⟩,hu⟩)
  unfold fX at h
  unfold AL.eS
  by_cases hc:AL.closed d=true
  ·simp only[if_pos hc]
  ·simp only[if_neg hc]at h ⊢
   cases d with
   | agg cs=>simp only[nu cs h]
   | tup cs=>simp only[nu cs h]
   | eZ cs=>simp only[nu cs h]
   | sl sz es=>
    have:es.map (fun x=>x.map (AL.eS (fM (jT H [v])) H k))=es.map (fun x=>x.map (AL.eS (fun _=>none) H k)):=aj fun e he=>nu e fun u hu=>h u (aO.2 ⟨_,av.2 ⟨e,he,rfl⟩,hu⟩)
    simp only[this]
   | fn g x y=>
    have h1:=nu x fun u hu=>h u (aP _ hu)
    have h2:=nu y fun u hu=>h u (bq _ hu)
    simp only[h1,h2]
   | eN u g sz off len=>
    have hu:u=v:=h u (by simp)
    subst hu
    simp only[hv]
    cases fR:rowsOf H u with
    | none=>simp only[um,fR]
    | some p=>
     obtain⟨t,g',cs⟩:=p
     simp only[um,fR]
     by_cases hg:g'=g
     ·simp only[hg,if_true]
      have:=nu (cs.drop (off*sz)) fun w hw=>by
       obtain⟨l,hl,I7⟩:=aO.1 hw
       obtain⟨d,hd,rfl⟩:=av.1 hl
       exact h w (by simp only[fR];exact aU _ (aO.2 ⟨_,av.2 ⟨d,bV hd,rfl⟩,I7⟩))
      rw[this]
     ·simp only[if_neg hg]
   | ptr u g off=>
    have hu:u=v:=h u (by simp)
    subst hu
    simp only[hv]
    cases fR:rowsOf H u with
    | none=>simp only[um,fR]
    | some p=>
     obtain⟨t,g',cs⟩:=p
     simp only[um,fR]
     by_cases hg:g'=g
     ·simp only[hg,if_true]
      have:=nu (cs.drop off) fun w hw=>by
       obtain⟨l,hl,I7⟩:=aO.1 hw
       obtain⟨d,hd,rfl⟩:=av.1 hl
       exact h w (by simp only[fR];exact aU _ (aO.2 ⟨_,av.2 ⟨d,bV hd,rfl⟩,I7⟩))
      rw[this]
     ·simp only[if_neg hg]
   | omap u=>
    have hu:u=v:=h u (by simp)
    subst hu
    simp only[hv]
   | gO u=>
    have hu:u=v:=h u (by simp)
    subst hu
    simp only[hv]
   | _=>rfl
theorem V9(h:e9 G c H w){v:Nat}{t:TypeId}{g:Nat}{cs:List D}(hv:H[v]? = some (.row t g cs)) :
  ∃ c',e9 G c' (H.set v .dead) w∧Step H.length c H w c' (H.set v .dead) w∧(∀ u d,eP c w u d→eP c' w u d)∧∀ b,(c.eS (jT H [v]) H).F b→c'.F b:=by
 have fj:=(ae.1 hv).1
 have hL:∀ c':Ctx,(∀ u k,c'.ι u k=c.ι u k)→∀ u l,jB c' (H.set v .dead) u l→u≠v∧jB c H u l:=by
  rintro c' eU u l ⟨o,ho,fO,hi⟩
  rw[oB fj]at ho
  split at ho
  ·cases ho;cases fO
  ·rename_i fY;exact⟨fY,o,ho,fO,by rw[← eU];exact hi⟩
 let c':Ctx:={ c with F:=fun b=>c.F b∨∃ L,c.ι v g=some L∧L.ij=false∧L.b=b }
 have eU:∀ u k,c'.ι u k=c.ι u k:=fun _ _=>rfl
 have hr:∀ u d,eP c w u d→eP c' w u d:=fun u d hd=>eP.carry (c:=c) (c':=c') (w:=w) (w':=w) (fun _ _ _ h=>h) (fun b hb=>Or.inl hb) (fun _ _ _=>rfl) hd
 have oM:∀ b,jS c' (H.set v .dead) b→jS c H b:=fun b ⟨u,l,hl,r⟩=>⟨u,l,(hL c' eU u l hl).2,r⟩
 refine⟨c',{
  inj:=fun u u' l l' h1 h2=>h.inj u u' l l' (hL c' eU _ _ h1).2 (hL c' eU _ _ h2).2
  lt:=fun b hb=>h.lt b (oM b hb)
  nF:=fun b hb hF=>by
   obtain⟨u,l,hl,gL,e⟩:=hb
   obtain⟨fY,kO⟩:=hL c' eU u l hl
   rcases hF with hF|⟨L,zu,gg,eL⟩
   ·exact h.nF b ⟨u,l,kO,gL,e⟩ hF
   ·exact fY (h.inj u v l L kO ⟨_,hv,rfl,zu⟩ gL gg (e.trans eL.symm))
  iQ:=fun b hb=>by
   rcases hb with hb|⟨L,zu,gg,eL⟩
   ·exact h.iQ b hb
   ·exact eL▸h.lt _ ⟨v,L,⟨_,hv,rfl,zu⟩,gg,rfl⟩
  out:=fun u k hu=>h.out u k (by simpa using hu)
  jU:=fun u o k ho hk=>by
   rw[oB fj]at ho
   split at ho
   ·cases ho
    rcases hk with hk|⟨hk,_⟩<;>cases hk
   ·exact h.jU u o k ho hk
  ob:=fun u o ho=>by
   rw[oB fj]at ho
   split at ho
   ·cases ho;simp[fJ]
   ·exact fJ.mz (c:=c) (c':=c') rfl hr (fun _ _ _ _=>rfl) (h.ob u o ho)
  gl:=fun g cs hg=>let ⟨a,b⟩:=h.gl g cs hg;⟨a,hr _ _ b⟩
  rt:=h.rt },?_,hr,fun b hb=>?_⟩
 ·exact{
   os:=⟨rfl,Nat.le_refl _⟩,tape:=rfl,output:=rfl,size:=Nat.le_refl _,RT:=rfl
   Fm:=fun b hb=>Or.inl hb
   Fn:=fun b hb=>by
    rcases hb with hb|⟨L,zu,gg,eL⟩
    ·exact .inl hb
    ·exact .inr (.inr ⟨v,L,⟨_,hv,rfl,zu⟩,gg,eL⟩)
   kept:=fun _ _ _=>rfl
   old:=fun _ _ _ _ h=>h
   own:=fun b hb=>.inr (oM b hb) }
 ·rcases hb with hb|⟨u,L,⟨o,ho,fO,Vu⟩,NQ,gg,e⟩
  ·exact .inl hb
  ·have hu:u=v:=by
    by_cases fY:u=v
    ·exact fY
    ·exfalso
     have N7:=(ae.1 ho).1
     have:fM (jT H [v]) u=some u:=J1 M0 (by
      unfold jT
      simp[N7,fY])
     rw[this]at NQ;cases NQ
   subst hu
   rw[hv]at ho
   cases ho
   exact .inr ⟨L,Vu,gg,e⟩
theorem abC(eR:e9 G c H w){f:FuncId}{vs:List Value}{args:List D}{d:D}{v:Nat}(hr:gY c w vs args)(hS:∀ u∈(args.map (fX H 40)).flatten,u=v)(fR:(rowsOf H v).isSome=true)
  (il:sV P G f (args.map (AL.eS (fun _=>none) H 40)) [] d []) (fE:fm (args.map (AL.eS (fun _=>none) H 40))=true) (hd:AL.closed d=true) :
  Calls P f vs.toArray w fun e w'=>∃ u c',e = .returned u∧e9 G c' (H.set v .dead) w'∧eP c' w' u d∧Step H.length c H w c' (H.set v .dead) w':=by
 have hv:∃ t g cs,H[v]? = some (.row t g cs):=by
  unfold rowsOf at fR
  split at fR
  ·exact⟨_,_,_,by assumption⟩
  ·cases fR
 obtain⟨t,g,cs,hv⟩:=hv
 obtain⟨c1,k1,k2,k3,k4⟩:=V9 eR hv
 have UR:gY c1 w vs (args.map (AL.eS (fun _=>none) H 40)):=by
  have e:args.map (AL.eS (fun _=>none) H 40)=args.map (AL.eS (fM (jT H [v])) H 40):=
   aj fun d hd=>(Qf 40 d fun u hu=>hS u (aO.2 ⟨_,av.2 ⟨d,hd,rfl⟩,hu⟩)).symm
  have zy:=fE
  rw[e]at zy ⊢
  have h0:=hr.map (c':=c.eS (jT H [v]) H) (f:=AL.eS (fM (jT H [v])) H 40) fun _ _ h=>uj eR 40 h
  generalize args.map (AL.eS (fM (jT H [v])) H 40)=as at h0 zy
  clear e fE hS il hr
  induction h0 with
  | nil=>exact .nil
  | cons h _ ih=>
   simp only[fm,ah]at zy
   exact .cons (eP.closed (c:=c.eS (jT H [v]) H) (c':=c1) k4 h zy.1) (ih zy.2)
 have e2:(args.map (AL.eS (fun _=>none) H 40)).map (AL.eS (fun _=>none) (H.set v .dead) 40)=args.map (AL.eS (fun _=>none) H 40):=by
  conv=>rhs;rw[← aR (args.map (AL.eS (fun _=>none) H 40))]
  exact aj fun d hd=>mf (jX fE d hd)
 have xn:kE d=true∧iO (H.set v .dead).length d=d:=by
  cases d<;>first|(cases hd;done)|skip
  case tup ds=>
   simp only[AL.closed]at hd
   refine⟨?_,?_⟩
   ·simp only[kE,ry,ao]
    intro x hx
    have:=jX hd x hx
    cases x<;>first|rfl|exact this
   ·simp only[iO]
    congr 1
    conv=>rhs;rw[← aR ds]
    refine aj fun x hx=>?_
    have:=jX hd x hx
    cases x<;>first|rfl|(cases this;done)
  case agg ds=>
   simp only[AL.closed]at hd
   refine⟨?_,?_⟩
   ·simp only[kE,ry,ao]
    intro x hx
    have:=jX hd x hx
    cases x<;>first|rfl|exact this
   ·simp only[iO]
    congr 1
    conv=>rhs;rw[← aR ds]
    refine aj fun x hx=>?_
    have:=jX hd x hx
    cases x<;>first|rfl|(cases this;done)
  all_goals exact⟨hd,rfl⟩
 refine(PC k1 UR (by rw[e2];exact il) (by rw[if_pos fE];simp[xn.1])).mono ?_
 rintro e w' ⟨u,c2,he,m1,m2,m3⟩
 rw[aw]at m1 m3
 rw[xn.2]at m2
 exact⟨u,c2,he,m1,m2,k2.trans m3 (by simp)⟩
end
end Go.AL
namespace Go.AL
open Go
def oC(o:Nat)(xs cs:List D):List D:=cs.take o++xs++cs.drop (o+xs.length)
theorem Ki{o:Nat}{xs cs:List D}(h:o+xs.length≤cs.length):(oC o xs cs).length=cs.length:=by simp[oC];omega
theorem Bb{o:Nat}{xs cs:List D}(h:o+xs.length≤cs.length)(i:Nat):(oC o xs cs)[i]? = if o≤i∧i<o+xs.length then xs[i-o]? else cs[i]? := by
 unfold oC
 have hl:(cs.take o).length=o:=by simp;omega
 by_cases h1:i<o
 ·rw[ag (by simp;omega),ag (by omega),az,if_pos h1,if_neg (by omega)]
 ·by_cases h2:i<o+xs.length
  ·rw[ag (by simp;omega),ak (by omega),hl,if_pos ⟨by omega,h2⟩]
  ·rw[ak (by simp;omega),aB,if_neg (by omega)]
   congr 1
   simp;omega
def sS(n:Nat):Dl→Option Nat
 | .no=>none
 | .cells v _ _=>some v
 | .obj v _=>some v
 | .new _=>some n
def Kp:Dl→Ob→Ob
 | .no,o=>o
 | .cells _ o xs,.row t g cs=>.row t g (oC o xs cs)
 | .cells _ _ _,o=>o
 | .obj _ ob,_=>ob
 | .new ob,_=>ob
abbrev js(n:Nat)(δ:Dl)(H:U):U:=δ.app H (Al.hole H n)
theorem wH(n:Nat)(δ:Dl)(H:U)(x:Nat):(js n δ H)[x]? = if sS n δ=some x then(H[x]?).map (Kp δ)else H[x]? := by
 have nO:∀ (v:Nat) (ob:Ob) (f:Ob→Ob),(∀ o,f o=ob)→(H.set v ob)[x]? = if some v=some x then(H[x]?).map f else H[x]? := by
  intro v ob f hf
  rw[bC]
  by_cases e:v=x
  ·subst e
   rw[if_pos rfl,if_pos rfl]
   split
   ·rename_i fj;simp[fj,hf]
   ·rename_i fj;rw[aG (by omega)];rfl
  ·rw[if_neg e,if_neg (by simpa using e)]
 cases δ with
 | no=>simp[js,Dl.app,sS]
 | obj v ob=>exact nO v ob _ fun _=>rfl
 | new ob=>exact nO n ob _ fun _=>rfl
 | cells v o xs=>
  have ht:sS n (.cells v o xs)=some v:=rfl
  by_cases e:v=x
  ·subst e
   rw[if_pos ht]
   simp only[js,Dl.app]
   split
   ·rename_i t g cs hv
    rw[bC,if_pos rfl,if_pos (ae.1 hv).1,hv]
    rfl
   ·rename_i fY
    cases hx:H[v]? with
    | none=>rfl
    | some ob=>
     cases ob<;>first|rfl|skip
     exact absurd hx (fY _ _ _)
  ·rw[if_neg (by rw[ht];simpa using e)]
   simp only[js,Dl.app]
   split
   ·rw[bC,if_neg e]
   ·rfl
def Fits(n:Nat)(δ:Dl)(H:U):Prop:=match δ with
 | .cells v o xs=>∃ t g cs,H[v]? = some (.row t g cs)∧o+xs.length≤cs.length
 | .new _=>H[n]? = some .hole
 | _=>True
theorem tc{a b:List Fp}(h:pF a b=true){x y:Fp}(hx:x∈a)(hy:y∈b):pE x y=true:=
 ao.1 (ao.1 h x hx) y hy
theorem Ls{n:Nat}{δ:Dl}{H:U}{fp:List Fp}(hf:Fits n δ H)(h:pF (im n δ) fp=true):pB fp (js n δ H) H:=by
 intro x hx
 obtain⟨u,r⟩:=x
 have fY:∀ v q,(v,q)∈im n δ→sS n δ=some v:=by
  intro v q hm
  cases δ<;>simp only[im,List.mem_singleton,cQ]at hm<;>first|(cases hm;rfl)|cases hm
 have main:sS n δ≠some u→(js n δ H)[u]? = H[u]? := fun hn=>by rw[wH,if_neg hn]
 by_cases ht:sS n δ=some u
 ·cases r with
  | none=>
   exfalso
   cases δ with
   | no=>cases ht
   | cells v o xs=>cases ht;have:=tc h (x:=(u,some (o,xs.length))) (by simp[im]) hx;simp[pE]at this
   | obj v ob=>cases ht;have:=tc h (x:=(u,none)) (by simp[im]) hx;simp[pE]at this
   | new ob=>cases ht;have:=tc h (x:=(n,none)) (by simp[im]) hx;simp[pE]at this
  | some q=>
   obtain⟨p,m⟩:=q
   cases δ with
   | no=>cases ht
   | obj v ob=>cases ht;exfalso;have:=tc h (x:=(u,none)) (by simp[im]) hx;simp[pE]at this
   | new ob=>cases ht;exfalso;have:=tc h (x:=(n,none)) (by simp[im]) hx;simp[pE]at this
   | cells v o xs=>
    cases ht
    obtain⟨t,g,cs,h1,h2⟩:=hf
    have ha:=tc h (x:=(u,some (o,xs.length))) (by simp[im]) hx
    simp only[pE,bne_self_eq_false,dQ,cg,decide_eq_true_eq]at ha
    refine .inr ⟨t,g,oC o xs cs,cs,?_,h1,Ki h2,fun i Uf kZ=>?_⟩
    ·simp[wH,sS,h1,Kp]
    ·rw[Bb h2,if_neg (by omega)]
 ·have e:=main ht
  cases r with
  | none=>exact e
  | some q=>exact .inl e
theorem acO{o p:Nat}{xs ys cs:List D}(h1:o+xs.length≤cs.length)(h2:p+ys.length≤cs.length)(h:o+xs.length≤p∨p+ys.length≤o) :
  oC o xs (oC p ys cs)=oC p ys (oC o xs cs):=by
 apply bK
 intro i
 rw[Bb (by rw[Ki h2];exact h1),Bb h2,Bb (by rw[Ki h1];exact h2),Bb h1]
 by_cases a:o≤i∧i<o+xs.length<;>by_cases b:p≤i∧i<p+ys.length
 ·omega
 ·rw[if_pos a,if_neg b,if_pos a]
 ·rw[if_neg a,if_pos b,if_pos b]
 ·rw[if_neg a,if_neg b,if_neg b,if_neg a]
theorem adg{n m:Nat}{δ ε:Dl}{H:U}(hf:Fits n δ H)(hg:Fits m ε H)(h:pF (im n δ) (im m ε)=true):js m ε (js n δ H)=js n δ (js m ε H):=by
 apply bK
 intro x
 rw[wH,wH,wH,wH]
 by_cases a:sS n δ=some x<;>by_cases b:sS m ε=some x
 ·rw[if_pos a,if_pos b,if_pos b,if_pos a]
  have bad:∀ {P:Prop},(∃ q r,(x,q)∈im n δ∧(x,r)∈im m ε∧(q=none∨r=none))→P:=by
   rintro P ⟨q,r,h1,h2,h3⟩
   have:=tc h h1 h2
   rcases h3 with rfl|rfl
   ·simp[pE]at this
   ·cases q<;>simp[pE]at this
  cases δ with
  | no=>cases a
  | obj v ob=>
   cases a
   cases ε with
   | no=>cases b
   | cells v o xs=>cases b;exact bad ⟨none,some (o,xs.length),by simp[im],by simp[im],.inl rfl⟩
   | obj v ob=>cases b;exact bad ⟨none,none,by simp[im],by simp[im],.inl rfl⟩
   | new ob=>cases b;exact bad ⟨none,none,by simp[im],by simp[im],.inl rfl⟩
  | new ob=>
   cases a
   cases ε with
   | no=>cases b
   | cells v o xs=>cases b;exact bad ⟨none,some (o,xs.length),by simp[im],by simp[im],.inl rfl⟩
   | obj v ob=>cases b;exact bad ⟨none,none,by simp[im],by simp[im],.inl rfl⟩
   | new ob=>cases b;exact bad ⟨none,none,by simp[im],by simp[im],.inl rfl⟩
  | cells v o xs=>
   cases a
   cases ε with
   | no=>cases b
   | obj v ob=>cases b;exact bad ⟨some (o,xs.length),none,by simp[im],by simp[im],.inr rfl⟩
   | new ob=>cases b;exact bad ⟨some (o,xs.length),none,by simp[im],by simp[im],.inr rfl⟩
   | cells v p ys=>
    cases b
    obtain⟨t,g,cs,h1,h2⟩:=hf
    obtain⟨t',g',kW,wV,HP⟩:=hg
    rw[h1]at wV
    cases wV
    have ha:=tc h (x:=(x,some (o,xs.length))) (y:=(x,some (p,ys.length))) (by simp[im]) (by simp[im])
    simp only[pE,bne_self_eq_false,dQ,cg,decide_eq_true_eq]at ha
    simp only[h1,aX,Kp]
    rw[acO h2 HP ha]
 ·rw[if_pos a,if_neg b,if_neg b,if_pos a]
 ·rw[if_neg a,if_pos b,if_neg a]
 ·rw[if_neg a,if_neg b,if_neg a]
structure Rc where
 R:List Fp
 W:List Fp
inductive Out where
 | norm (s:St)
 | exit (id:Nat) (s:St)
 | ret (s:St)
inductive uD where
 | ops (l:List fo) (s:St)
 | code (c:IR) (s:St)
 | loop (n:Nat) (live:List Nat) (a:IR) (s:St)
 | call (f:FuncId) (args:List D) (H:U)
 | trace (l:List fo) (s:St)
inductive ml where
 | out (o:Out)
 | tr (rs:List Rc) (s:St)
 | val (d:D) (H:U)
def Out.stop:Out→Bool
 | .norm _=>false
 | _=>true
def qz(ic:List (Nat×Nat))(rs:List Rc):Bool:=ic.all fun p=>match rs[p.1]?,rs[p.2]? with
 | some a,some b=>pF a.W (b.R++b.W)&&pF b.W (a.R++a.W)
 | _,_=>false
def yieldOf(env:fD):gp→Option (Nat×List D)
 | .callv f args=>match ev env f with
  | .gO v=>some (v,args.map (ev env))
  | _=>none
 | _=>none
def Out.st:Out→St
 | .norm s=>s
 | .exit _ s=>s
 | .ret s=>s
def Out.uq:Out→oZ
 | .norm _=>.ready
 | .exit id _=>.tt id
 | .ret _=>.uS
def vT(s:St):oZ→Option Out
 | .ready=>some (.norm s)
 | .busy=>none
 | .uS=>some (.ret s)
 | .tt id=>some (.exit id s)
def kill:List Nat→U→Option U
 | [],H=>some H
 | v::vs,H=>match H[v]? with
  | some .jL=>kill vs (H.set v .dead)
  | _=>none
def finish(fn:eQ)(own n:Nat):Out→Option (D×U)
 | .norm s | .ret s=>match kill s.marks s.H with
  | some H=>match results fn { s with H:=H }with
   | some d=>some (leave own n H d)
   | none=>none
  | none=>none
 | .exit _ _=>none
def kJ(id n:Nat)(live:List Nat):Out→Out
 | .norm s=>.norm (cut n live s)
 | .exit tW s=>if tW=id then .norm (cut n live s)else .exit tW s
 | .ret s=>.ret s
inductive Ev(T:gb):uD→(ml→Prop)→Prop
 | mono {j R R'} (h:Ev T j R) (hi:∀ r,R r→R' r):Ev T j R'
 | nil {s R} (h:R (.out (.norm s))):Ev T (.ops [] s) R
 | op {e r s d δ R} (hg:guardOf s.env.get e.guard=some true) (h:ft s.env.get s.H s.H.length e.op=some (d,δ))
   (t:Ev T (.ops r { s with env:=put s.env e.dst d,H:=δ.app s.H (Al.last s.H) }) R):Ev T (.ops (e::r) s) R
 | v8 {e r s d δ R} (hg:guardOf s.env.get e.guard=some true) (h:kG s.env.get s.H s.H.length e.op=some (d,δ))
   (t:Ev T (.ops r { s with env:=put s.env e.dst d,H:=δ.app s.H (Al.last s.H) }) R):Ev T (.ops (e::r) s) R
 | off {e r s R} (hg:guardOf s.env.get e.guard=some false) (t:Ev T (.ops r { s with env:=put s.env e.dst (.val undef) }) R):Ev T (.ops (e::r) s) R
 | jF {l s R} (S:List Nat) (hm:s.marks.all (fun v => !S.contains v)=true) (t:Ev T (.ops l (jF S s)) R):Ev T (.ops l s) R
 | zl {c s R} (S:List Nat) (hm:s.marks.all (fun v => !S.contains v)=true) (t:Ev T (.code c (jF S s)) R):Ev T (.code c s) R
 | HE {l s R} (live:List Nat) (t:Ev T (.ops l { s with env:=forget live s.env }) R):Ev T (.ops l s) R
 | Ek {c s R} (live:List Nat) (t:Ev T (.code c { s with env:=forget live s.env }) R):Ev T (.code c s) R
 | yU {e r s f args fn R1 R} (hg:guardOf s.env.get e.guard=some true) (hc:iM s.env.get e.op=some (f,args)) (hf:T.fn f=some fn) (hp:fn.full=false)
   (h:Ev T (.call f (args.map (eS (fun _=>none) s.H 40)) []) R1) (ha:∀ d Hn,R1 (.val d Hn)→(after s e.dst args d Hn).isSome=true)
   (t:∀ d Hn s',R1 (.val d Hn)→after s e.dst args d Hn=some s'→Ev T (.ops r s') R):Ev T (.ops (e::r) s) R
 | yT {e r s f args fn R1 R} (hg:guardOf s.env.get e.guard=some true) (hc:iM s.env.get e.op=some (f,args)) (hf:T.fn f=some fn) (hp:fn.full=true)
   (h:Ev T (.call f args s.H) R1) (t:∀ d H',R1 (.val d H')→Ev T (.ops r { s with env:=put s.env e.dst d,H:=H' }) R):Ev T (.ops (e::r) s) R
 | DI {e r s v args rf env0 Rd Ra Rb R} (hg:guardOf s.env.get e.guard=some true) (hc:yieldOf s.env.get e.op=some (v,args)) (hv:s.H[v]? = some (.fZ rf env0 .ready)) (hR:T.round rf=some Rd) (hl:args.length=Rd.params.length)
   (ha:Ev T (.code Rd.a { env:=px Rd.params args env0,H:=s.H,fL:=true }) Ra) (hn:∀ o,Ra (.out o)→o.stop=false∧∃ jj,o.st.H[v]? = some (.fZ rf jj .ready))
   (hb:∀ s1 jj,Ra (.out (.norm s1))→s1.H[v]? = some (.fZ rf jj .ready)→Ev T (.code Rd.b { s1 with H:=s1.H.set v (.fZ rf jj .busy) }) Rb)
   (hm:∀ o,Rb (.out o)→∃ ja,o.st.H[v]? = some (.fZ rf ja .busy))
   (t:∀ o ja,Rb (.out o)→o.st.H[v]? = some (.fZ rf ja .busy)→Ev T (.ops r { s with env:=put s.env e.dst (.b !o.stop),H:=o.st.H.set v (.fZ rf ja o.uq) }) R):Ev T (.ops (e::r) s) R
 | next {e r s x v m since seen kk es R} (hg:guardOf s.env.get e.guard=some true) (gf:e.op = .nextM x) (hx:ev s.env.get x = .ptr v 0 0) (hv:s.H[v]? = some (.jt (.omap m) since seen)) (hm:s.H[m]? = some (.map kk es)) (hs:es.length=since)
   (h0:(∀ i,i<es.length→i∈seen)→Ev T (.ops r { s with env:=put s.env e.dst (.tup [.b false]) }) R)
   (h1:∀ i k d,es[i]? = some (k,d)→i ∉ seen→Ev T (.ops r { s with env:=put s.env e.dst (.tup [.b true,.val k,d]),H:=s.H.set v (.jt (.omap m) since (seen ++ [i])) }) R):Ev T (.ops (e::r) s) R
 | Bi {s R} (h:R (.tr [] s)):Ev T (.trace [] s) R
 | Bk {e r s d δ R1 R} (hg:guardOf s.env.get e.guard=some true) (h:ft s.env.get s.H s.H.length e.op=some (d,δ))
   (t:Ev T (.trace r { s with env:=put s.env e.dst d,H:=δ.app s.H (Al.last s.H) }) R1) (k:∀ rs s',R1 (.tr rs s')→R (.tr (⟨fu s.env.get s.H e.op,im s.H.length δ⟩::rs) s')):Ev T (.trace (e::r) s) R
 | Bj {e r s R1 R} (hg:guardOf s.env.get e.guard=some false) (t:Ev T (.trace r { s with env:=put s.env e.dst (.val undef) }) R1) (k:∀ rs s',R1 (.tr rs s')→R (.tr (⟨[],[]⟩::rs) s')):Ev T (.trace (e::r) s) R
 | Bf {e r s f args fn d R0 R1 R} (hg:guardOf s.env.get e.guard=some true) (hc:iM s.env.get e.op=some (f,args)) (hf:T.fn f=some fn) (hp:fn.full=false)
   (h:Ev T (.call f (args.map (eS (fun _=>none) s.H 40)) []) R0) (h0:∀ d' Hn,R0 (.val d' Hn)→d'=d∧Hn = []) (hr:(if fm args then closed d else flat d)=true)
   (t:Ev T (.trace r { s with env:=put s.env e.dst d }) R1) (k:∀ rs s',R1 (.tr rs s')→R (.tr (⟨fu s.env.get s.H e.op,[]⟩::rs) s')):Ev T (.trace (e::r) s) R
 | Bg {e r s f as args fn d ob R0 R1 R} (hg:guardOf s.env.get e.guard=some true) (gf:e.op = .callN f as) (ha:args=as.map (ev s.env.get)) (hf:T.fn f=some fn) (hp:fn.full=false)
   (h:Ev T (.call f (args.map (eS (fun _=>none) s.H 40)) []) R0) (h0:∀ d' Hn,R0 (.val d' Hn)→d'=d∧Hn = [ob]) (hr:(if fm args then kE d&&lG ob else mD d&&mJ ob)=true)
   (t:Ev T (.trace r { s with env:=put s.env e.dst (iO s.H.length d),H:=s.H ++ [ob] }) R1) (k:∀ rs s',R1 (.tr rs s')→R (.tr (⟨fu s.env.get s.H e.op,[(s.H.length,none)]⟩::rs) s')):Ev T (.trace (e::r) s) R
 | Bh {e r s f as args fn d v R0 R1 R} (hg:guardOf s.env.get e.guard=some true) (gf:e.op = .callN f as) (ha:args=as.map (ev s.env.get)) (hf:T.fn f=some fn) (hp:fn.full=false)
   (hS:∀ u∈(args.map (fX s.H 40)).flatten,u=v) (hv:v∈(args.map (fX s.H 40)).flatten) (fR:(rowsOf s.H v).isSome=true) (fE:fm (args.map (eS (fun _=>none) s.H 40))=true)
   (h:Ev T (.call f (args.map (eS (fun _=>none) s.H 40)) []) R0) (h0:∀ d' Hn,R0 (.val d' Hn)→d'=d∧Hn = []) (hr:closed d=true)
   (t:Ev T (.trace r { s with env:=put s.env e.dst d,H:=s.H.set v .dead }) R1) (k:∀ rs s',R1 (.tr rs s')→R (.tr (⟨fu s.env.get s.H e.op,[(v,none)]⟩::rs) s')):Ev T (.trace (e::r) s) R
 | draw {ic l s R1 R} (t:Ev T (.trace l s) R1) (hp:∀ rs s',R1 (.tr rs s')→qz ic rs=true∧R (.out (.norm s'))):Ev T (.code (.draw ic l) s) R
 | kh {ic l es s R1 R} (t:Ev T (.trace l s) R1) (hp:∀ rs s',R1 (.tr rs s')→qz ic rs=true) (k:∀ rs s',R1 (.tr rs s')→Ev T (.ops es s') R):Ev T (.code (.kh ic l es) s) R
 | skip {s R} (h:R (.out (.norm s))):Ev T (.code .skip s) R
 | y9 {l s R} (h:Ev T (.ops l s) R):Ev T (.code (.ops l) s) R
 | seq {a b s R1 R} (h:Ev T (.code a s) R1) (k:∀ s',R1 (.out (.norm s'))→Ev T (.code b s') R) (hs:∀ o,R1 (.out o)→o.stop=true→R (.out o)):Ev T (.code (.seq a b) s) R
 | cond {c a b s x R} (hc:ev s.env.get c = .val (.bool x)) (h:Ev T (.code (if x then a else b) s) R):Ev T (.code (.cond c a b) s) R
 | block {id live a s R1 R} (h:Ev T (.code a s) R1) (k:∀ o,R1 (.out o)→R (.out (kJ id s.H.length live o))):Ev T (.code (.block id live a) s) R
 | loop {live a s R} (h:Ev T (.loop s.H.length live a { s with env:=forget live s.env }) R):Ev T (.code (.loop live a) s) R
 | tZ {n live a s R1 R} (h:Ev T (.code a s) R1) (k:∀ s',R1 (.out (.norm s'))→Ev T (.loop n live a (cut n live s')) R) (hs:∀ o,R1 (.out o)→o.stop=true→R (.out o)):Ev T (.loop n live a s) R
 | kF {rf live x s f first cap fn R1 R} (hr:s.fL=false) (hx:ev s.env.get x = .fn (.func f) first cap) (hf:T.fn f=some fn) (hp:fn.full=true)
   (h:Ev T (.call f (first ++ [.gO (s.H.length+1)]++cap) (s.H ++ [.jL,.fZ rf (forget live s.env) .ready])) R1)
   (k:∀ d H',R1 (.val d H')→∃ env st o,H'[s.H.length+1]? = some (.fZ rf env st)∧vT { s with H:=H'.set (s.H.length+1) .dead,marks:=s.H.length::s.marks } st=some o∧R (.out o)):Ev T (.code (.kF rf live x) s) R
 | exit {id s R} (h:R (.out (.exit id s))):Ev T (.code (.exit id) s) R
 | ret {s R} (h:R (.out (.ret s))):Ev T (.code .ret s) R
 | call {f args H fn R1 R} (own:Nat) (hf:T.fn f=some fn) (hl:args.length≤fn.ntmps) (h:Ev T (.code fn.body { env:=pj args,H:=H }) R1)
   (k:∀ o,R1 (.out o)→∃ d H',finish fn own H.length o=some (d,H')∧R (.val d H')):Ev T (.call f args H) R
 | sort {f g fn sz v gen t H R} {α:Type} (fc:α→List D) (l:List α) (cf:α→α→Int) (hs:T.sort f=some sz) (hg:T.fn g=some fn) (hl:∀ a∈l,(fc a).length=sz) (fE:∀ a∈l,fm (fc a)=true) (h0:0<l.length) (tD:l.length<4611686018427387904)
   (xA:∀ x∈l,¬ cf x x<0) (tr:∀ x∈l,∀ y∈l,∀ z∈l,cf x y<0→cf y z<0→cf x z<0) (nt:∀ x∈l,∀ y∈l,∀ z∈l,¬ cf x y<0→¬ cf y z<0→¬ cf x z<0)
   (hc:∀ x∈l,∀ y∈l,Ev T (.call g [.agg (fc x),.agg (fc y)] []) (fun r=>∃ H',r = .val (.i (cf x y)) H')) (hv:H[v]? = some (.row t gen (l.map fc).flatten))
   (k:∀ l':List α,l'.Perm l→l'.Pairwise (fun x y=>¬ cf y x<0)→R (.val (.tup []) (H.set v (.row t gen (l'.map fc).flatten)))):Ev T (.call f [.eN v gen sz 0 l.length,.fn (.func g) [] []] H) R
 | x5 {f sz x H R} (hs:T.sort f=some sz) (k:R (.val (.tup []) H)):Ev T (.call f [.emp,x] H) R
 | pA {f v gen t H R} (l:List Int) (hs:T.pA f=true) (h0:0<l.length) (tD:l.length<4611686018427387904) (hv:H[v]? = some (.row t gen (l.map fun n=>D.i n)))
   (k:R (.val (.tup []) (H.set v (.row t gen ((l.mergeSort fun x y=>decide (x≤y)).map fun n=>D.i n))))):Ev T (.call f [.eN v gen 1 0 l.length] H) R
end Go.AL
namespace Go.AL
open Go
def kd(f:fD):Option Nat→D→fD
 | some k,d=>fun t=>if k=t then d else f t
 | none,_=>f
theorem AP(env:Env)(dst:Option Nat)(d:D):(put env dst d).get=kd env.get dst d:=by
 cases dst with
 | none=>rfl
 | some k=>funext t;simp[put,Env.qX,kd]
def HM:Option (Nat×Bool)→List Nat
 | some (t,_)=>[t]
 | none=>[]
def looks(e:fo):List Nat:=fQ e.op++HM e.guard
inductive Ef(C:FuncId→List D→D→U→Prop)(f:fD)(H:U)(e:fo)(n:Nat):Rc→D→Dl→Prop
 | op {d δ} (hg:guardOf f e.guard=some true) (h:ft f H n e.op=some (d,δ)) (hf:Fits n δ H):Ef C f H e n ⟨fu f H e.op,im n δ⟩ d δ
 | off (hg:guardOf f e.guard=some false):Ef C f H e n ⟨[],[]⟩ (.val undef) .no
 | call {g args d} (hg:guardOf f e.guard=some true) (hc:iM f e.op=some (g,args))
   (h:C g (args.map (eS (fun _=>none) H 40)) d []) (hr:(if fm args then closed d else flat d)=true):Ef C f H e n ⟨fu f H e.op,[]⟩ d .no
 | callN {g as args d ob} (hg:guardOf f e.guard=some true) (gf:e.op = .callN g as) (ha:args=as.map (ev f))
   (h:C g (args.map (eS (fun _=>none) H 40)) d [ob]) (hr:(if fm args then kE d&&lG ob else mD d&&mJ ob)=true) (hf:Fits n (.new ob) H):Ef C f H e n ⟨fu f H e.op,im n (.new ob)⟩ (iO n d) (.new ob)
 | uO {g as args d v} (hg:guardOf f e.guard=some true) (gf:e.op = .callN g as) (ha:args=as.map (ev f)) (hS:∀ u∈(args.map (fX H 40)).flatten,u=v) (hv:v∈(args.map (fX H 40)).flatten) (fR:(rowsOf H v).isSome=true)
   (h:C g (args.map (eS (fun _=>none) H 40)) d []) (fE:fm (args.map (eS (fun _=>none) H 40))=true) (hr:closed d=true):Ef C f H e n ⟨fu f H e.op,[(v,none)]⟩ d (.obj v .dead)
theorem guard_congr{f f':fD}{g:Option (Nat×Bool)}(h:∀ t∈HM g,f t=f' t):guardOf f g=guardOf f' g:=by
 cases g with
 | none=>rfl
 | some p=>simp only[guardOf,h p.1 (by simp[HM])]
theorem QR{x:Fp}{H1 H2:U}(h:Alike x H1 H2):Alike x H2 H1:=by
 obtain⟨v,r⟩:=x
 cases r with
 | none=>exact h.symm
 | some q=>
  rcases h with h|⟨t,g,cs,ds,h1,h2,h3,h4⟩
  ·exact .inl h.symm
  ·exact .inr ⟨t,g,ds,cs,h2,h1,h3.symm,fun i a b=>(h4 i a b).symm⟩
theorem MQ{n:Nat}{δ:Dl}{H H':U}(h:pB (im n δ) H H')(hf:Fits n δ H):Fits n δ H':=by
 cases δ with
 | no=>trivial
 | obj v ob=>trivial
 | new ob=>
  have e:H[n]? = H'[n]? := h (n,none) (by simp[im])
  show H'[n]? = some .hole
  rw[← e];exact hf
 | cells v o xs=>
  obtain⟨t,g,cs,h1,h2⟩:=hf
  rcases h (v,some (o,xs.length)) (by simp[im])with h|⟨t',g',kW,ds,h3,h4,h5,h6⟩
  ·exact⟨t,g,cs,h▸h1,h2⟩
  ·rw[h1]at h3;cases h3
   exact⟨t,g,ds,h4,by omega⟩
theorem Ga{H H':U}{v:Nat}(h:Alike (v,none) H H'):rowsOf H v=rowsOf H' v:=by
 have e:H[v]? = H'[v]? := h
 simp only[rowsOf,e]
theorem G2{f:fD}{H:U}{op:gp}{g:FuncId}{args:List D}(hc:iM f op=some (g,args)){H':U}(h:pB (fu f H op) H H') :
  fu f H' op=fu f H op∧args.map (eS (fun _=>none) H' 40)=args.map (eS (fun _=>none) H 40):=by
 have key:∀ args:List D,(∀ v∈(args.map (fX H 40)).flatten,rowsOf H v=rowsOf H' v)→args.map (fX H' 40)=args.map (fX H 40)∧args.map (eS (fun _=>none) H' 40)=args.map (eS (fun _=>none) H 40):=by
  intro args ha
  have h1:∀ d∈args,∀ v∈fX H 40 d,rowsOf H v=rowsOf H' v:=fun d hd v hv=>ha v (aO.2 ⟨_,av.2 ⟨d,hd,rfl⟩,hv⟩)
  exact⟨aj fun d hd=>(AX 40 d (h1 d hd)).1,aj fun d hd=>(AX 40 d (h1 d hd)).2⟩
 cases op<;>first|(cases hc;done)|skip
 case call k as=>
  cases hc
  obtain⟨a,b⟩:=key (as.map (ev f)) fun v hv=>Ga (h (v,none) (av.2 ⟨v,hv,rfl⟩))
  exact⟨by simp only[fu,a],b⟩
 case callN k as=>
  cases hc
  obtain⟨a,b⟩:=key (as.map (ev f)) fun v hv=>Ga (h (v,none) (av.2 ⟨v,hv,rfl⟩))
  exact⟨by simp only[fu,a],b⟩
 case callv k as=>
  simp only[fu,hc]at h ⊢
  obtain⟨a,b⟩:=key args fun v hv=>Ga (h (v,none) (av.2 ⟨v,hv,rfl⟩))
  exact⟨by rw[a],b⟩
theorem S4{f:fD}{H H':U}{op:gp}(hn:iM f op=none):fu f H' op=fu f H op:=by
 cases op<;>first|rfl|(cases hn;done)|skip
 case callv=>simp only[fu,hn]
 case len k x=>cases k<;>rfl
theorem Ro{f:fD}{H:U}{n:Nat}{op:gp}{r:D×Dl}(h:ft f H n op=some r):iM f op=none:=by
 cases op<;>first|rfl|cases h
variable{C:FuncId→List D→D→U→Prop}
theorem Ef.local{f f':fD}{H H':U}{e:fo}{n:Nat}{rc:Rc}{d:D}{δ:Dl}(h:Ef C f H e n rc d δ)(hf:∀ t∈looks e,f t=f' t)(hH:pB (rc.R++rc.W) H H'):Ef C f' H' e n rc d δ:=by
 have h1:∀ t∈fQ e.op,f t=f' t:=fun t ht=>hf t (aP _ ht)
 have h2:guardOf f e.guard=guardOf f' e.guard:=guard_congr fun t ht=>hf t (bq _ ht)
 cases h with
 | op hg ho kB=>
  have e1:fu f H e.op=fu f' H' e.op:=by rw[Em h1,S4 (Ro (by rw[← Lz h1];exact ho))]
  rw[e1]
  refine .op (h2▸hg) ?_ (MQ hH.right kB)
  rw[← Lz h1,← QT (H1:=H) hH.left]
  exact ho
 | off hg=>exact .off (h2▸hg)
 | call hg hc na hr=>
  obtain⟨a,b⟩:=G2 hc hH.left
  have e1:fu f H e.op=fu f' H' e.op:=by rw[← a,Em h1]
  rw[e1]
  exact .call (h2▸hg) (by rw[← DK h1];exact hc) (by rw[b];exact na) hr
 | @callN g as args _ _ hg gf ha na hr kB=>
  have hc:iM f e.op=some (g,args):=by rw[gf,ha];rfl
  obtain⟨a,b⟩:=G2 hc hH.left
  have e1:fu f H e.op=fu f' H' e.op:=by rw[← a,Em h1]
  rw[e1]
  have l4:iM f' e.op=some (g,args):=by rw[← DK h1];exact hc
  have od:args=as.map (ev f'):=by
   rw[gf]at l4
   cases l4;rfl
  exact .callN (h2▸hg) gf od (by rw[b];exact na) hr (MQ hH.right kB)
 | @uO g as args _ v hg gf ha hS hv fR na fE hr=>
  have hc:iM f e.op=some (g,args):=by rw[gf,ha];rfl
  obtain⟨a,b⟩:=G2 hc hH.left
  have e1:fu f H e.op=fu f' H' e.op:=by rw[← a,Em h1]
  rw[e1]
  have l4:iM f' e.op=some (g,args):=by rw[← DK h1];exact hc
  have od:args=as.map (ev f'):=by
   rw[gf]at l4
   cases l4;rfl
  have pa:(args.map (fX H' 40)).flatten=(args.map (fX H 40)).flatten:=by
   have a2:=a
   rw[gf]at a2
   simp only[fu,← ha]at a2
   exact(List.map_inj_right (fun x y h=>(Prod.mk.inj h).1)).1 a2
  have UW:rowsOf H v=rowsOf H' v:=Ga (hH.right (v,none) (by simp))
  exact .uO (h2▸hg) gf od (by rw[pa];exact hS) (by rw[pa];exact hv) (by rw[← UW];exact fR) (by rw[b];exact na) (by rw[b];exact fE) hr
theorem Ef.fits{f:fD}{H:U}{e:fo}{n:Nat}{rc:Rc}{d:D}{δ:Dl}(h:Ef C f H e n rc d δ):Fits n δ H∧rc.W=im n δ:=by
 cases h with
 | op _ _ hf=>exact⟨hf,rfl⟩
 | off=>exact⟨trivial,rfl⟩
 | call=>exact⟨trivial,rfl⟩
 | callN _ _ _ _ _ hf=>exact⟨hf,rfl⟩
 | uO=>exact⟨trivial,rfl⟩
def sR(a b:fo):Bool:=
 (match a.dst with|some k => !(looks b).contains k&&b.dst != some k|none=>true)&&(match b.dst with|some k => !(looks a).contains k|none=>true)
def qA(a b:Rc):Bool:=pF a.W (b.R++b.W)&&pF b.W (a.R++a.W)
theorem QB{f:fD}{dst:Option Nat}{d:D}{l:List Nat}(h:∀ k,dst=some k→k ∉ l):∀ t∈l,kd f dst d t=f t:=by
 intro t ht
 cases dst with
 | none=>rfl
 | some k=>
  simp only[kd]
  rw[if_neg]
  rintro rfl
  exact h _ rfl ht
theorem ac3{f:fD}{a b:Option Nat}{x y:D}(h:∀ k,a=some k→b≠some k):kd (kd f a x) b y=kd (kd f b y) a x:=by
 cases a with
 | none=>rfl
 | some k=>
  cases b with
  | none=>rfl
  | some j=>
   have fY:j≠k:=fun e=>h k rfl (by rw[e])
   funext t
   simp only[kd]
   by_cases h1:j=t<;>by_cases h2:k=t<;>simp[h1,h2]
   exact absurd (h1.trans h2.symm) fY
theorem acz{a b:fo}(h:sR a b=true):(∀ k,a.dst=some k→k ∉ looks b)∧(∀ k,b.dst=some k→k ∉ looks a)∧(∀ k,a.dst=some k→b.dst≠some k):=by
 unfold sR at h
 simp only[ah]at h
 refine⟨fun k hk=>?_,fun k hk=>?_,fun k hk=>?_⟩
 ·have:=h.1
  rw[hk]at this
  simp at this
  exact this.1
 ·have:=h.2
  rw[hk]at this
  simpa using this
 ·have:=h.1
  rw[hk]at this
  simp at this
  exact this.2
theorem swap{f:fD}{H:U}{a b:fo}{n m:Nat}{ra rb:Rc}{x y:D}{δ ε:Dl}(ha:Ef C f H a n ra x δ)(hb:Ef C (kd f a.dst x) (js n δ H) b m rb y ε)
  (hs:sR a b=true) (hr:qA ra rb=true) :
  Ef C f H b m rb y ε∧Ef C (kd f b.dst y) (js m ε H) a n ra x δ∧kd (kd f a.dst x) b.dst y=kd (kd f b.dst y) a.dst x∧js m ε (js n δ H)=js n δ (js m ε H):=by
 obtain⟨s1,s2,s3⟩:=acz hs
 simp only[qA,ah]at hr
 obtain⟨fa,wa⟩:=ha.fits
 have l3:Ef C f H b m rb y ε:=hb.local (QB s1) (Ls fa (by rw[← wa];exact hr.1))
 obtain⟨fb,wb⟩:=l3.fits
 refine⟨l3,ha.local (fun t ht=>(QB s2 t ht).symm) fun z hz=>QR (Ls fb (by rw[← wb];exact hr.2) z hz),ac3 s3,adg fa fb ?_⟩
 rw[← wa,← wb]
 simp only[pF,ao]at hr ⊢
 exact fun u hu z hz=>hr.1 u hu z (bq _ hz)
theorem Jk{o:Option D}{d:D}{δ:Dl}(h:lift o=some (d,δ)):δ = .no:=by
 cases o<;>simp[lift]at h
 exact h.2.symm
theorem JT{f:fD}{H:U}{e:fo}{n:Nat}{rc:Rc}{d:D}{δ:Dl}(h:Ef C f H e n rc d δ)(hp:AN e.op=true):rc.R = []∧rc.W = []:=by
 cases h with
 | op hg ho hf=>
  cases gf:e.op<;>rw[gf]at ho hp<;>simp only[ft]at ho<;>first|(cases hp;done)|skip
  case len k x=>
   have:=Jk ho
   subst this
   cases k<;>first|(cases hp;done)|exact⟨rfl,rfl⟩
  all_goals
   have:=Jk ho
   subst this
   exact⟨rfl,rfl⟩
 | off hg=>exact⟨rfl,rfl⟩
 | call hg hc h hr=>cases gf:e.op<;>rw[gf]at hc hp<;>first|(cases hp;done)|(cases hc;done)
 | callN _ gf=>rw[gf]at hp;cases hp
 | uO _ gf=>rw[gf]at hp;cases hp
theorem PG{f:fD}{H:U}{e:fo}{n:Nat}{rc:Rc}{d:D}{δ:Dl}(h:Ef C f H e n rc d δ)(hp:JW e.op=true):rc.W = []:=by
 by_cases hq:AN e.op=true
 ·exact(JT h hq).2
 ·cases h with
  | op hg ho hf=>
   cases gf:e.op<;>rw[gf]at ho hp hq<;>simp only[ft]at ho<;>first|(cases hp;done)|(exact absurd rfl hq)|skip
   case call=>cases ho
   case callv=>cases ho
   all_goals
    have:=Jk ho
    subst this
    rfl
  | off hg=>rfl
  | call=>rfl
  | callN _ gf=>rw[gf]at hp;cases hp
  | uO _ gf=>rw[gf]at hp;cases hp
theorem Qr{f f':fD}{H H':U}{a b:fo}{n m:Nat}{ra rb:Rc}{x y:D}{δ ε:Dl}(ha:Ef C f H a n ra x δ)(hb:Ef C f' H' b m rb y ε)(h:Gs a.op b.op=true):qA ra rb=true:=by
 simp only[Gs,cg,ah]at h
 rcases h with(h|h)|⟨h1,h2⟩
 ·obtain⟨e1,e2⟩:=JT ha h
  simp[qA,e1,e2,pF]
 ·obtain⟨e1,e2⟩:=JT hb h
  simp[qA,e1,e2,pF]
 ·simp[qA,PG ha h1,PG hb h2,pF]
structure kI where
 k:Nat
 e:fo
 n:Nat
 rc:Rc
inductive Tx(C:FuncId→List D→D→U→Prop):fD→U→List kI→fD→U→Prop
 | nil {f H}:Tx C f H [] f H
 | cons {f H it r d δ f' H'} (h:Ef C f H it.e it.n it.rc d δ) (t:Tx C (kd f it.e.dst d) (js it.n δ H) r f' H'):Tx C f H (it::r) f' H'
theorem Tx.each{f:fD}{H:U}{l:List kI}{f':fD}{H':U}(h:Tx C f H l f' H'):∀ it∈l,∃ f H d δ,Ef C f H it.e it.n it.rc d δ:=by
 induction h with
 | nil=>intro it iA;cases iA
 | cons h t ih=>
  intro it iA
  rcases au.1 iA with rfl|iA
  ·exact⟨_,_,_,_,h⟩
  ·exact ih it iA
theorem Tx.front{it:kI}{post:List kI}{f':fD}{H':U}:∀ {pre:List kI} {f:fD} {H:U},Tx C f H (pre++it::post) f' H'→(∀ p∈pre,sR p.e it.e=true∧qA p.rc it.rc=true) →
  ∃ d δ,Ef C f H it.e it.n it.rc d δ∧Tx C (kd f it.e.dst d) (js it.n δ H) (pre++post) f' H'
 | [],f,H,h,_=>by
  cases h with
  | cons h t=>exact⟨_,_,h,t⟩
 | p::pre,f,H,h,ha=>by
  cases h with
  | @cons _ _ _ _ d δ _ _ h t=>
   obtain⟨y,ε,hy,ht⟩:=Tx.front (pre:=pre) t fun q hq=>ha q (by simp[hq])
   obtain⟨s1,s2,s3,s4⟩:=swap h hy (ha p (by simp)).1 (ha p (by simp)).2
   refine⟨y,ε,s1,.cons s2 ?_⟩
   rw[← s3,← s4]
   exact ht
end Go.AL
namespace Go.AL
open Go
structure SX(G:GT)(N:Nat)(c:Ctx)(w:World)(f:fD)(H:U)(ms:List Nat)(a:Act):Prop where
 eR:e9 G c H w
 env:jh c w f a
 size:N≤a.tmps.size
 marks:ko c ms a.defers
section
variable{P:Program}{G:GT}{c:Ctx}{w:World}{f:fD}{H:U}{ms:List Nat}{a:Act}{N:Nat}
theorem abF{f:fD}{a:Act}{c:Ctx}{w:World}(he:jh c w f a)(hN:N≤a.tmps.size){dst:Option Tmp}(hd:o5 N dst=true){v:Value}{d:D}(hr:eP c w v d) :
  jh c w (kd f dst d) (a.put dst v):=by
 cases dst with
 | none=>exact he
 | some t=>
  have ht:t<a.tmps.size:=aK (by simpa[o5]using hd) hN
  intro k
  simp only[kd,Act.put]
  split
  ·rename_i e
   subst e
   have:(a.tmps.setIfInBounds t v).getD t undef=v:=by simp[Array.getD,ht]
   rw[this];exact hr
  ·rename_i e
   have:(a.tmps.setIfInBounds t v).getD k undef=a.tmps.getD k undef:=by
    simp only[bO,bE e]
   rw[this];exact he k
theorem SX.next{c':Ctx}{w':World}{H':U}(hs:SX G N c w f H ms a)(eR:e9 G c' H' w')(eX:Step H.length c H w c' H' w'){dst:Option Tmp}(hd:o5 N dst=true)
  {v:Value} {d:D} (hr:eP c' w' v d):SX G N c' w' (kd f dst d) H' ms (a.put dst v) where
 eR:=eR
 env:=abF (jh.carry (fun _ _ h=>h.nA hs.eR.toHeapOK eX) hs.env) hs.size hd hr
 size:=by rw[PD];exact hs.size
 marks:=by
  rw[put_defers]
  refine hs.marks.mono fun v L h=>eX.old v 0 L ?_ h
  rcases bh v H.length with h'|h'
  ·exact h'
  ·rw[hs.eR.out v 0 h']at h;cases h
theorem QU{op:gp}{n n':Nat}{d:D}{δ:Dl}(h:ft f H n op=some (d,δ))(hn:∀ ob,δ≠.new ob):ft f H n' op=some (d,δ):=by
 cases op<;>simp only[ft]at h ⊢ <;> first|exact h|skip
 case box=>
  unfold pG at h
  split at h
  ·cases h;exact absurd rfl (hn _)
  ·cases h
 case alloc=>cases h;exact absurd rfl (hn _)
 case buildSl=>
  unfold tg at h
  split at h
  ·split at h
   ·cases h;exact absurd rfl (hn _)
   ·cases h
  ·cases h
 case mkmap=>cases h;exact absurd rfl (hn _)
 case mksl=>
  unfold xF at h
  split at h
  ·split at h
   ·cases h;exact absurd rfl (hn _)
   ·cases h
  ·cases h
 case app=>
  unfold o3 at h ⊢
  split at h
  ·split at h
   ·exact h
   ·rename_i m _ _ _
    by_cases hm:m=0
    ·rw[if_pos hm]at h ⊢;exact h
    ·rw[if_neg hm]at h
     split at h
     ·cases h;exact absurd rfl (hn _)
     ·cases h
   ·cases h
  ·cases h
theorem DR{d:D}(h:closed d=true):kE d=true∧iO H.length d=d:=by
 cases d<;>first|(cases h;done)|skip
 case tup ds=>
  have hc:=jX h
  refine⟨?_,?_⟩
  ·simp only[kE,ry,ao]
   intro d hd
   have:=hc d hd
   cases d<;>first|rfl|exact this
  ·simp only[iO]
   congr 1
   conv=>rhs;rw[← aR ds]
   refine aj fun d hd=>?_
   have:=hc d hd
   cases d<;>first|(cases this;done)|rfl
 case agg ds=>
  have hc:=jX h
  refine⟨?_,?_⟩
  ·simp only[kE,ry,ao]
   intro d hd
   have:=hc d hd
   cases d<;>first|rfl|exact this
  ·simp only[iO]
   congr 1
   conv=>rhs;rw[← aR ds]
   refine aj fun d hd=>?_
   have:=hc d hd
   cases d<;>first|(cases this;done)|rfl
 all_goals exact⟨h,rfl⟩
theorem MU{d:D}(h:flat d=true):mD d=true∧iO H.length d=d:=by
 cases d<;>first|(cases h;done)|skip
 case tup ds=>
  have hc:∀ d∈ds,flat d=true:=fun d hd=>by
   obtain⟨i,hi⟩:=aD.1 hd
   exact wS h hi
  refine⟨?_,?_⟩
  ·simp only[mD,ry,ao]
   intro d hd
   have:=hc d hd
   cases d<;>first|rfl|exact this
  ·simp only[iO]
   congr 1
   conv=>rhs;rw[← aR ds]
   refine aj fun d hd=>?_
   have:=hc d hd
   cases d<;>first|(cases this;done)|rfl
 case agg ds=>
  have hc:∀ d∈ds,flat d=true:=fun d hd=>by
   obtain⟨i,hi⟩:=aD.1 hd
   exact wS h hi
  refine⟨?_,?_⟩
  ·simp only[mD,ry,ao]
   intro d hd
   have:=hc d hd
   cases d<;>first|rfl|exact this
  ·simp only[iO]
   congr 1
   conv=>rhs;rw[← aR ds]
   refine aj fun d hd=>?_
   have:=hc d hd
   cases d<;>first|(cases this;done)|rfl
 all_goals exact⟨h,rfl⟩
variable{C:FuncId→List D→D→U→Prop}
theorem Ms(hC:∀ g args d Hn,C g args d Hn→oL P g=true∧sV P G g args [] d Hn)(hs:SX G N c w f H ms a){A:Array Oper}{o:Oper}{e:fo}{i:Nat}(hA:A[i]? = some o)
  (ho:qT P G N A o=some e) {n:Nat} {rc:Rc} {d:D} {δ:Dl} (hE:Ef C f H e n rc d δ) {ro:Option Nat} {m:Nat} {Q:Exit→Act→World→Prop} {K:Act→World→Prop}
  (k:∀ c' w' a',SX G N c' w' (kd f e.dst d) (js n δ H) ms a'→Step H.length c H w c' (js n δ H) w'→K a' w'):wpOpIn (FW ro) m P A Q i K a w:=by
 obtain⟨s1,s2,s3,s4⟩:=tq ho
 unfold wpOpIn
 simp only[hA]
 cases hE with
 | op hg h kB=>
  have hw:=pY hs.env s4 hg
  have s1:=Md s1 h
  simp only[hw,if_true]
  have main:∀ {al:Al},kH H al→ft f H al.1 e.op=some (d,δ)→δ.app H al=js n δ H→o.wpIn (FW ro) m P a w K Q:=by
   intro al fO h Vt
   obtain⟨v,w',hy,d',H',c',⟨rfl,rfl⟩,eR,hr,eX⟩:=Py (P:=P) (K:=fun d' H'=>d'=d∧H'=δ.app H al) hs.eR hs.env fO s1 (LA h ⟨rfl,rfl⟩)
   refine⟨fun _ _=>trivial,?_⟩
   rw[Oper.semAt_plain (FW ro) a.eval o (vO s1)]
   rw[Vt]at eR eX
   have hx:=hs.next eR eX s3 hr
   rw[← s2]at hx
   have hn:=k c' w' _ hx eX
   rw[s2]at hn
   rcases hy with hy|⟨hy,rfl⟩
   ·rw[hy];exact hn
   ·rw[hy];exact hn
  by_cases kC:∃ ob,δ = .new ob
  ·obtain⟨ob,rfl⟩:=kC
   exact main (al:=Al.hole H n) (kH.hole kB) h rfl
  ·have sx:∀ ob,δ≠.new ob:=fun ob e=>kC ⟨ob,e⟩
   refine main (al:=Al.last H) (kH.last H) (QU h sx) ?_
   cases δ<;>first|rfl|exact absurd rfl (sx _)
 | off hg=>
  have hw:=pY hs.env s4 hg
  simp only[hw,bF,if_false]
  refine⟨fun _ _=>trivial,?_⟩
  have hx:=hs.next hs.eR (Step.refl _ _ _ _) s3 (v:=undef) (d:=.val undef) (.val _)
  rw[← s2]at hx
  have:=k c w _ hx (Step.refl _ _ _ _)
  rw[s2]at this
  exact this
 | @call g args d hg hc h hr=>
  have hw:=pY hs.env s4 hg
  have s1:=y6 s1 hc
  simp only[hw,if_true]
  obtain⟨jG,il⟩:=hC _ _ _ _ h
  obtain⟨vs,gK,gT⟩:=Gd hs.eR hs.env s1 hc jG
  have hJ:(if fm args then kE d&&([]:U).all lG else mD d&&([]:U).all mJ)=true∧iO H.length d=d:=by
   by_cases fE:fm args=true
   ·rw[if_pos fE]at hr ⊢
    obtain⟨a,b⟩:=DR (H:=H) hr
    exact⟨by simp[a],b⟩
   ·rw[if_neg fE]at hr ⊢
    obtain⟨a,b⟩:=MU (H:=H) hr
    exact⟨by simp[a],b⟩
  have hp:=PC hs.eR gT il hJ.1
  rw[hJ.2,aw]at hp
  refine⟨fun _ _=>trivial,?_⟩
  rw[Oper.semAt_plain (FW ro) a.eval o (vO s1),gK]
  refine⟨fun h=>by simp[Fence.wide]at h,yV.2 (hp.mono ?_)⟩
  rintro e' w' ⟨v,c',rfl,eR,k9,eX⟩
  have hx:=hs.next eR eX s3 k9
  rw[← s2]at hx
  have:=k c' w' _ hx eX
  rw[s2]at this
  exact this
 | @callN g as args d ob hg gf ha h hr kB=>
  have hw:=pY hs.env s4 hg
  simp only[hw,if_true]
  have hc:iM f e.op=some (g,args):=by rw[gf,ha];rfl
  have s1:=y6 s1 hc
  obtain⟨jG,il⟩:=hC _ _ _ _ h
  obtain⟨vs,gK,gT⟩:=Gd hs.eR hs.env s1 hc jG
  have hp:=abD hs.eR gT il hr kB
  refine⟨fun _ _=>trivial,?_⟩
  rw[Oper.semAt_plain (FW ro) a.eval o (vO s1),gK]
  refine⟨fun h=>by simp[Fence.wide]at h,yV.2 (hp.mono ?_)⟩
  rintro e' w' ⟨v,c',rfl,eR,k9,eX⟩
  have hx:=hs.next eR eX s3 k9
  rw[← s2]at hx
  have:=k c' w' _ hx eX
  rw[s2]at this
  exact this
 | @uO g as args d v hg gf ha hS hv fR h fE hr=>
  have hw:=pY hs.env s4 hg
  simp only[hw,if_true]
  have hc:iM f e.op=some (g,args):=by rw[gf,ha];rfl
  have s1:=y6 s1 hc
  obtain⟨jG,il⟩:=hC _ _ _ _ h
  obtain⟨vs,gK,gT⟩:=Gd hs.eR hs.env s1 hc jG
  have hp:=abC hs.eR gT hS fR il fE hr
  refine⟨fun _ _=>trivial,?_⟩
  rw[Oper.semAt_plain (FW ro) a.eval o (vO s1),gK]
  refine⟨fun h=>by simp[Fence.wide]at h,yV.2 (hp.mono ?_)⟩
  rintro e' w' ⟨u,c',rfl,eR,k9,eX⟩
  have hx:=hs.next eR eX s3 k9
  rw[← s2]at hx
  have:=k c' w' _ hx eX
  rw[s2]at this
  exact this
