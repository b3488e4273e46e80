/- Part 4 of the proof of skewer.skewerlaw15.TableZero. -/
import Derived.Test.YtnaefnajkaohgaaGreatDoorF03
set_option linter.all false
namespace Go.AL
open Go
section
variable{P:Program}{G:GT}{c:Ctx}{w:World}{env:e9}{a:Act}{N:Nat}
theorem JW{o:Oper}{io:fR}(hc:kg P G o=some io)(h:yE io=true):∃ cl,o.op = .call cl:=by
 unfold kg at hc
 split at hc
 all_goals first|exact⟨_,by assumption⟩|skip
 all_goals exfalso
 all_goals try simp only[au,ae,aF]at hc
 all_goals (repeat' first|(obtain⟨_,_,hc⟩:=hc)|split at hc|simp only[ae]at hc)
 all_goals first|(simp[yE]at h;done)|(cases hc<;>simp[yE]at h)
theorem Ei{H:U}(eA:eN G c H w)(he:iP c w env a){o:Oper}{io:fR}(hc:kg P G o=some io){f:FuncId}{args:List D}(gQ:im env io=some (f,args))(ji:nB P f=true) :
  ∃ vs:List Value,(execOp a.eval o).run P w = .ok (.enter f vs.toArray) w∧gD c w vs args:=by
 have C8:=hc
 unfold kg at hc
 cases ho:o.op with
 | call cl=>
  simp only[ho,au,ae]at hc
  obtain⟨xs,nW,hc⟩:=hc
  have gw:=tf eA he cl.args.toList nW
  split at hc
  ·rename_i g tL
   split at hc
   ·have QQ:g=f∧List.map (ev env) xs=args:=by
     cases hc
     have hb:im env (if G.nw g=true then fR.callN g xs else fR.call g xs)=some (g,xs.map (ev env)):=by split<;>rfl
     rw[hb]at gQ
     simpa using gQ
    obtain⟨rfl,rfl⟩:=QQ
    refine⟨_,?_,gw⟩
    have e:cl.args.map a.eval=(cl.args.toList.map a.eval).toArray:=by cases cl.args;simp
    simp only[execOp,ho,resolve,tL,Act.eval,Deferred.ofValue,Sem.run_bind,Sem.run_pure,Result.andThen_ok,invoke]
    rw[← e]
    have h2:=Ej (P:=P) ji (cl.args.map a.eval) w
    simpa using h2
   ·cases hc
  ·rename_i x fF tL
   simp only[ae,aF,aq]at hc
   obtain⟨X,hX,rfl⟩:=hc
   simp only[im]at gQ
   split at gQ
   ·rename_i k first cap mf
    cases gQ
    have hr:=fY eA he hX
    rw[mf]at hr
    generalize hv:a.eval x=v at hr
    cases hr with
    | fn _ fs cs _ _ e1 e2 e3 e4=>
     refine⟨fs++cl.args.toList.map a.eval++cs,?_,((gD.y6 e1 e3).append gw).append (gD.y6 e2 e4)⟩
     simp only[execOp,ho,resolve,tL,hv,Deferred.ofValue,Sem.run_bind,Sem.run_pure,Result.andThen_ok,invoke]
     have h2:=Ej (P:=P) ji (fs.toArray++cl.args.map a.eval++cs.toArray) w
     have e2:fs.toArray++cl.args.map a.eval++cs.toArray=(fs++cl.args.toList.map a.eval++cs).toArray:=by cases cl.args;simp
     rw[e2]at h2 ⊢
     exact h2
   ·cases gQ
  ·split at hc
   ·simp only[ae]at hc
    obtain⟨td,_,hc⟩:=hc
    split at hc
    ·simp only[ae]at hc
     obtain⟨i,_,z,_,ud,_,hc⟩:=hc
     split at hc
     ·split at hc
      ·cases hc;cases gQ
      ·cases hc
     ·cases hc
    ·cases hc
   ·cases hc
  ·split at hc
   ·simp only[ae]at hc
    obtain⟨td,_,hc⟩:=hc
    split at hc
    ·simp only[ae]at hc
     obtain⟨ud,_,hc⟩:=hc
     split at hc
     ·simp only[ae]at hc
      obtain⟨n,_,hc⟩:=hc
      split at hc
      ·cases hc;cases gQ
      ·cases hc
     ·cases hc
    ·cases hc
   ·cases hc
  ·split at hc
   ·split at hc
    ·cases hc;cases gQ
    ·cases hc;cases gQ
    ·cases hc;cases gQ
    ·cases hc
   ·cases hc
  ·cases hc;cases gQ
  ·cases hc;cases gQ
  ·cases hc
 | _=>
  have h1:yE io=true:=by unfold im at gQ;unfold yE;split at gQ<;>first|rfl|cases gQ
  obtain⟨cl,h2⟩:=JW C8 h1
  rw[ho]at h2
  cases h2
end
end Go.AL
namespace Go.AL
open Go
abbrev Fp:=Nat×Option (Nat×Nat)
def ko:D→List Fp
 | .et v _ _ _ _=>[(v,none)]
 | .omap v=>[(v,none)]
 | _=>[]
def qP(n:Nat):D→List Fp
 | .ptr v _ o=>[(v,some (o,n))]
 | _=>[]
def eY(f:e9)(H:U):fR→List Fp
 | .ld1 x=>qP 1 (ev f x)
 | .ldN n x=>qP n (ev f x)
 | .st1 a _=>qP 1 (ev f a)
 | .stN n a _=>qP n (ev f a)
 | .lookup _ _ _ m _=>ko (ev f m)
 | .mapUpd _ m _ _=>ko (ev f m)
 | .len .map x=>ko (ev f x)
 | .b2s x=>ko (ev f x)
 | .app _ _ _ x y=>ko (ev f x)++ko (ev f y)
 | .copy _ x y=>ko (ev f x)++ko (ev f y)
 | .call g args=>((args.map (ev f)).map (fw H 40)).flatten.map fun v=>(v,none)
 | .callN g args=>((args.map (ev f)).map (fw H 40)).flatten.map fun v=>(v,none)
 | .callv g args=>match im f (.callv g args)with
  | some (_,ds)=>(ds.map (fw H 40)).flatten.map fun v=>(v,none)
  | none=>[]
 | _=>[]
def gP(n:Nat):Dl→List Fp
 | .no=>[]
 | .cells v o xs=>[(v,some (o,xs.length))]
 | .obj v _=>[(v,none)]
 | .new _=>[(n,none)]
def oF:Fp→Fp→Bool
 | (v,none),(u,_)=>v != u
 | (v,some _),(u,none)=>v != u
 | (v,some (o,n)),(u,some (p,m))=>v != u||decide (o+n≤p)||decide (p+m≤o)
def oG(a b:List Fp):Bool:=a.all fun x=>b.all fun y=>oF x y
def Alike(x:Fp)(H1 H2:U):Prop:=
 match x with
 | (v,none)=>H1[v]? = H2[v]?
 | (v,some (o,n))=>H1[v]? = H2[v]?∨∃ t g cs ds,H1[v]? = some (.row t g cs)∧H2[v]? = some (.row t g ds)∧cs.length=ds.length∧∀ i,o≤i→i<o+n→cs[i]? = ds[i]?
def oD(l:List Fp)(H1 H2:U):Prop:=∀ x∈l,Alike x H1 H2
def gd:X→List Nat
 | .t k=>[k]
 | .c _=>[]
def qA(l:List X):List Nat:=(l.map gd).flatten
def zP:Option X→List Nat
 | some x=>gd x
 | none=>[]
def ft:fR→List Nat
 | .mv x=>gd x
 | .pick c a b=>gd c++gd a++gd b
 | .box _ x=>gd x
 | .alloc _ _=>[]
 | .build _ ps=>(ps.map fun p=>gd p.2.2).flatten
 | .buildSl _ _ _ _ ps=>(ps.map fun p=>gd p.2).flatten
 | .ld1 x=>gd x
 | .ldN _ x=>gd x
 | .st1 a x=>gd a++gd x
 | .stN _ a x=>gd a++gd x
 | .nilck x=>gd x
 | .arith _ x y=>gd x++gd y
 | .eqS _ _ _ x y=>gd x++gd y
 | .un _ x=>gd x
 | .conv _ x=>gd x
 | .b2s x=>gd x
 | .mkfn _ a b=>qA a++qA b
 | .mkmap _=>[]
 | .mksl _ _ _ _ l c=>gd l++gd c
 | .slc _ x lo hi=>gd x++zP lo++zP hi
 | .slcS x lo hi=>gd x++zP lo++zP hi
 | .fieldA _ x=>gd x
 | .field _ _ _ x=>gd x
 | .idxA _ x i=>gd x++gd i
 | .idxArr _ _ x i=>gd x++gd i
 | .idx _ _ _ x i=>gd x++gd i
 | .idxStr x i=>gd x++gd i
 | .lookup _ _ _ m k=>gd m++gd k
 | .mapUpd _ m k x=>gd m++gd k++gd x
 | .ext x _=>gd x
 | .call _ args=>qA args
 | .callN _ args=>qA args
 | .callv f args=>gd f++qA args
 | .app _ _ _ x y=>gd x++gd y
 | .copy _ x y=>gd x++gd y
 | .len _ x=>gd x
 | .minmax _ xs=>qA xs
 | .nilS _ x | .capE x | .clr _ _ x | .rangeS x | .nextS x | .rangeM x | .nextM x | .entry x=>gd x
 | .appZ _ _ _ _ x n=>gd x++gd n
def zc:fR→Bool
 | .mv _ | .pick .. | .build .. | .nilck _ | .arith .. | .eqS .. | .un .. | .conv .. | .mkfn .. | .slc .. | .slcS .. | .fieldA .. | .field .. | .idxA .. | .idxArr .. | .idx .. | .idxStr .. | .ext .. | .minmax ..
 | .len .slice _ | .len .string _=>true
 | _=>false
def HJ:fR→Bool
 | .ld1 _ | .ldN .. | .b2s _ | .lookup .. | .len .. | .call .. | .callv .. => true
 | op=>zc op
def EB(a b:fR):Bool:=zc a||zc b||(HJ a&&HJ b)
section
variable{f f':e9}
theorem tw{x:X}(h:∀ t∈gd x,f t=f' t):ev f x=ev f' x:=by
 cases x with
 | t k=>exact h k (by simp[gd])
 | c d=>rfl
theorem tz{l:List X}(h:∀ t∈qA l,f t=f' t):l.map (ev f)=l.map (ev f'):=
 ak fun x hx=>tw fun t ht=>h t (aM.2 ⟨_,aw.2 ⟨x,hx,rfl⟩,ht⟩)
theorem HD:∀ {l:List (Nat×Nat×X)},(∀ t∈(l.map fun p=>gd p.2.2).flatten,f t=f' t)→partsOf f l=partsOf f' l
 | [],_=>rfl
 | (o,n,x)::r,h=>by
  have h1:ev f x=ev f' x:=tw fun t ht=>h t (by simp[ht])
  have h2:=HD (l:=r) fun t ht=>h t (by simp only[List.map_cons,aL,List.mem_append];exact .inr ht)
  simp only[partsOf,h1,h2]
theorem Cg{x:Option X}{n:Int}(h:∀ t∈zP x,f t=f' t):gE f x n=gE f' x n:=by
 cases x with
 | none=>rfl
 | some x=>simp only[gE,tw (x:=x) h]
theorem LV:∀ {l:List X},(∀ t∈qA l,f t=f' t)→mK f l=mK f' l
 | [],_=>rfl
 | x::r,h=>by
  have h1:ev f x=ev f' x:=tw fun t ht=>h t (by simp[qA,ht])
  have h2:=LV (l:=r) fun t ht=>h t (by simp only[qA,List.map_cons,aL,List.mem_append];exact .inr ht)
  simp only[mK,h1,h2]
theorem Js{op:fR}(h:∀ t∈ft op,f t=f' t)(H:U)(n:Nat):eX f H n op=eX f' H n op:=by
 have hx:∀ {x:X},(∀ t∈gd x,t∈ft op)→ev f x=ev f' x:=fun hm=>tw fun t ht=>h t (hm t ht)
 cases op<;>simp only[eX]<;>first|rfl|skip
 case mv x=>rw[hx (x:=x) (fun t ht=>by simpa[ft]using ht)]
 case pick c a b=>rw[hx (x:=c) (fun t ht=>by simp[ft,ht]),hx (x:=a) (fun t ht=>by simp[ft,ht]),hx (x:=b) (fun t ht=>by simp[ft,ht])]
 case box x=>rw[hx (x:=x) (fun t ht=>by simpa[ft]using ht)]
 case build z ps=>simp only[ve,HD (f:=f) (f':=f') (l:=ps) (fun t ht=>h t (by simpa[ft]using ht))]
 case buildSl t sz z m ps=>
  have:=HD (f:=f) (f':=f') (l:=ps.map fun p=>(p.1*sz,sz,p.2)) (fun t ht=>h t (by simpa[ft,cD,dz]using ht))
  simp only[rS,this]
 case ld1 x=>rw[hx (x:=x) (fun t ht=>by simpa[ft]using ht)]
 case ldN n x=>rw[hx (x:=x) (fun t ht=>by simpa[ft]using ht)]
 case st1 a x=>rw[hx (x:=a) (fun t ht=>by simp[ft,ht]),hx (x:=x) (fun t ht=>by simp[ft,ht])]
 case stN n a x=>rw[hx (x:=a) (fun t ht=>by simp[ft,ht]),hx (x:=x) (fun t ht=>by simp[ft,ht])]
 case nilck x=>rw[hx (x:=x) (fun t ht=>by simpa[ft]using ht)]
 case arith op x y=>rw[hx (x:=x) (fun t ht=>by simp[ft,ht]),hx (x:=y) (fun t ht=>by simp[ft,ht])]
 case eqS b ls neg x y=>rw[hx (x:=x) (fun t ht=>by simp[ft,ht]),hx (x:=y) (fun t ht=>by simp[ft,ht])]
 case un op x=>rw[hx (x:=x) (fun t ht=>by simpa[ft]using ht)]
 case conv k x=>rw[hx (x:=x) (fun t ht=>by simpa[ft]using ht)]
 case b2s x=>rw[hx (x:=x) (fun t ht=>by simpa[ft]using ht)]
 case mkfn g a b=>rw[tz (f:=f) (f':=f') (l:=a) (fun t ht=>h t (by simp[ft,ht])),tz (f:=f) (f':=f') (l:=b) (fun t ht=>h t (by simp[ft,ht]))]
 case mksl t sz EZ z l c=>rw[hx (x:=l) (fun t ht=>by simp[ft,ht]),hx (x:=c) (fun t ht=>by simp[ft,ht])]
 case slc sz x lo hi=>
  have e1:∀ n,gE f lo n=gE f' lo n:=fun n=>Cg fun t ht=>h t (by simp[ft,ht])
  have e2:∀ n,gE f hi n=gE f' hi n:=fun n=>Cg fun t ht=>h t (by simp[ft,ht])
  simp only[pI,e1,e2,hx (x:=x) (fun t ht=>by simp[ft,ht])]
 case slcS x lo hi=>
  have e1:∀ n,gE f lo n=gE f' lo n:=fun n=>Cg fun t ht=>h t (by simp[ft,ht])
  have e2:∀ n,gE f hi n=gE f' hi n:=fun n=>Cg fun t ht=>h t (by simp[ft,ht])
  simp only[Et,e1,e2,hx (x:=x) (fun t ht=>by simp[ft,ht])]
 case fieldA o x=>rw[hx (x:=x) (fun t ht=>by simpa[ft]using ht)]
 case field o n b x=>rw[hx (x:=x) (fun t ht=>by simpa[ft]using ht)]
 case idxA sz x i=>rw[hx (x:=x) (fun t ht=>by simp[ft,ht]),hx (x:=i) (fun t ht=>by simp[ft,ht])]
 case idxArr sz n x i=>rw[hx (x:=x) (fun t ht=>by simp[ft,ht]),hx (x:=i) (fun t ht=>by simp[ft,ht])]
 case idx sz n b x i=>rw[hx (x:=x) (fun t ht=>by simp[ft,ht]),hx (x:=i) (fun t ht=>by simp[ft,ht])]
 case idxStr x i=>rw[hx (x:=x) (fun t ht=>by simp[ft,ht]),hx (x:=i) (fun t ht=>by simp[ft,ht])]
 case lookup kk z ok m k=>rw[hx (x:=m) (fun t ht=>by simp[ft,ht]),hx (x:=k) (fun t ht=>by simp[ft,ht])]
 case mapUpd kk m k x=>rw[hx (x:=m) (fun t ht=>by simp[ft,ht]),hx (x:=k) (fun t ht=>by simp[ft,ht]),hx (x:=x) (fun t ht=>by simp[ft,ht])]
 case ext x i=>rw[hx (x:=x) (fun t ht=>by simpa[ft]using ht)]
 case app t sz EZ x y=>rw[hx (x:=x) (fun t ht=>by simp[ft,ht]),hx (x:=y) (fun t ht=>by simp[ft,ht])]
 case copy sz x y=>rw[hx (x:=x) (fun t ht=>by simp[ft,ht]),hx (x:=y) (fun t ht=>by simp[ft,ht])]
 case len k x=>rw[hx (x:=x) (fun t ht=>by simpa[ft]using ht)]
 case minmax b xs=>simp only[vY,LV (f:=f) (f':=f') (l:=xs) (fun t ht=>h t (by simpa[ft]using ht))]
end
end Go.AL
namespace Go.AL
open Go
theorem Cl{f f':e9}{op:fR}(h:∀ t∈ft op,f t=f' t):im f op=im f' op:=by
 cases op<;>first|rfl|skip
 case call g args=>simp only[im,tz (f:=f) (f':=f') (l:=args) (fun t ht=>h t (by simpa[ft]using ht))]
 case callN g args=>simp only[im,tz (f:=f) (f':=f') (l:=args) (fun t ht=>h t (by simpa[ft]using ht))]
 case callv g args=>
  simp only[im,tz (f:=f) (f':=f') (l:=args) (fun t ht=>h t (by simp[ft,ht])),tw (f:=f) (f':=f') (x:=g) (fun t ht=>h t (by simp[ft,ht]))]
theorem CX{f f':e9}{op:fR}(h:∀ t∈ft op,f t=f' t)(H:U):eY f H op=eY f' H op:=by
 have hx:∀ {x:X},(∀ t∈gd x,t∈ft op)→ev f x=ev f' x:=fun hm=>tw fun t ht=>h t (hm t ht)
 have hc:=Cl h
 cases op<;>simp only[eY]<;>first|rfl|skip
 case ld1 x=>rw[hx (x:=x) (fun t ht=>by simpa[ft]using ht)]
 case ldN n x=>rw[hx (x:=x) (fun t ht=>by simpa[ft]using ht)]
 case b2s x=>rw[hx (x:=x) (fun t ht=>by simpa[ft]using ht)]
 case st1 a x=>rw[hx (x:=a) (fun t ht=>by simp[ft,ht])]
 case stN n a x=>rw[hx (x:=a) (fun t ht=>by simp[ft,ht])]
 case lookup kk z ok m k=>rw[hx (x:=m) (fun t ht=>by simp[ft,ht])]
 case mapUpd kk m k x=>rw[hx (x:=m) (fun t ht=>by simp[ft,ht])]
 case app t sz EZ x y=>rw[hx (x:=x) (fun t ht=>by simp[ft,ht]),hx (x:=y) (fun t ht=>by simp[ft,ht])]
 case copy sz x y=>rw[hx (x:=x) (fun t ht=>by simp[ft,ht]),hx (x:=y) (fun t ht=>by simp[ft,ht])]
 case len k x=>cases k<;>simp only[eY]<;>rw[hx (x:=x) (fun t ht=>by simpa[ft]using ht)]
 case call g args=>rw[tz (f:=f) (f':=f') (l:=args) (fun t ht=>h t (by simpa[ft]using ht))]
 case callN g args=>rw[tz (f:=f) (f':=f') (l:=args) (fun t ht=>h t (by simpa[ft]using ht))]
 case callv g args=>rw[hc]
section
variable{H1 H2:U}
theorem Ec{v:Nat}(h:H1[v]? = H2[v]?)(g:Nat):rowAt H1 v g=rowAt H2 v g:=by simp only[rowAt,h]
theorem Hh{v:Nat}(h:H1[v]? = H2[v]?):kc H1 v=kc H2 v:=by simp only[kc,h]
theorem Ed{v o n:Nat}(h:Alike (v,some (o,n)) H1 H2)(g:Nat) :
  (rowAt H1 v g=none∧rowAt H2 v g=none)∨∃ t cs ds,rowAt H1 v g=some (t,cs)∧rowAt H2 v g=some (t,ds)∧cs.length=ds.length∧∀ i,o≤i→i<o+n→cs[i]? = ds[i]? := by
 rcases h with h|⟨t,g',cs,ds,h1,h2,h3,h4⟩
 ·rw[Ec h g]
  cases hr:rowAt H2 v g with
  | none=>exact .inl ⟨rfl,rfl⟩
  | some p=>exact .inr ⟨p.1,p.2,p.2,rfl,rfl,rfl,fun _ _ _=>rfl⟩
 ·by_cases e:g'=g
  ·exact .inr ⟨t,cs,ds,by simp[rowAt,h1,e],by simp[rowAt,h2,e],h3,h4⟩
  ·exact .inl ⟨by simp[rowAt,h1,e],by simp[rowAt,h2,e]⟩
theorem H9{sz:Nat}{d:D}(h:oD (ko d) H1 H2):jt sz H1 d=jt sz H2 d:=by
 unfold jt
 split<;>first|rfl|skip
 rename_i v g fh off len
 have:=h (v,none) (by simp[ko])
 rw[Ec this]
theorem oD.left{a b:List Fp}(h:oD (a++b) H1 H2):oD a H1 H2:=fun x hx=>h x (aS _ hx)
theorem oD.right{a b:List Fp}(h:oD (a++b) H1 H2):oD b H1 H2:=fun x hx=>h x (br _ hx)
theorem N4{f:e9}{op:fR}(h:oD (eY f H1 op) H1 H2)(n:Nat):eX f H1 n op=eX f H2 n op:=by
 cases op<;>simp only[eX]<;>first|rfl|skip
 case ld1 x=>
  congr 1
  simp only[eY]at h
  unfold qp
  split<;>first|rfl|skip
  rename_i v g o hx
  rw[hx]at h
  rcases Ed (h (v,some (o,1)) (by simp[qP])) g with⟨e1,e2⟩|⟨t,cs,ds,e1,e2,e3,e4⟩
  ·rw[e1,e2]
  ·rw[e1,e2];exact e4 o (Nat.le_refl _) (by omega)
 case ldN m x=>
  congr 1
  simp only[eY]at h
  unfold qq
  split<;>first|rfl|skip
  rename_i v g o hx
  rw[hx]at h
  rcases Ed (h (v,some (o,m)) (by simp[qP])) g with⟨e1,e2⟩|⟨t,cs,ds,e1,e2,e3,e4⟩
  ·rw[e1,e2]
  ·rw[e1,e2]
   have:(cs.drop o).take m=(ds.drop o).take m:=by
    apply bI
    intro i
    simp only[ay,aC]
    split
    ·exact e4 _ (by omega) (by omega)
    ·rfl
   simp only[e3,this]
 case st1 a x=>
  simp only[eY]at h
  unfold uQ
  split<;>first|rfl|skip
  rename_i v g o hx
  rw[hx]at h
  rcases Ed (h (v,some (o,1)) (by simp[qP])) g with⟨e1,e2⟩|⟨t,cs,ds,e1,e2,e3,e4⟩
  ·rw[e1,e2]
  ·rw[e1,e2];simp only[e3]
 case stN m a x=>
  simp only[eY]at h
  unfold uR
  split<;>first|rfl|skip
  rename_i v g o xs hx _
  rw[hx]at h
  rcases Ed (h (v,some (o,m)) (by simp[qP])) g with⟨e1,e2⟩|⟨t,cs,ds,e1,e2,e3,e4⟩
  ·rw[e1,e2]
  ·rw[e1,e2];simp only[e3]
 case lookup kk z ok m k=>
  congr 1
  simp only[eY]at h
  unfold um
  split<;>first|rfl|skip
  rename_i v kv hx _
  rw[hx]at h
  rw[Hh (h (v,none) (by simp[ko]))]
 case mapUpd kk m k x=>
  simp only[eY]at h
  unfold sN
  split<;>first|rfl|skip
  rename_i v kv hx _
  rw[hx]at h
  rw[Hh (h (v,none) (by simp[ko]))]
 case b2s x=>
  congr 1
  simp only[eY]at h
  unfold vd
  rw[H9 (sz:=1) h]
 case len k x=>
  congr 1
  unfold mn
  split<;>first|rfl|skip
  rename_i v hx
  simp only[eY]at h
  rw[hx]at h
  rw[Hh (h (v,none) (by simp[ko]))]
 case app t sz EZ x y=>
  simp only[eY]at h
  unfold o4
  rw[H9 (sz:=sz) h.right]
  split<;>first|rfl|skip
  split<;>first|rfl|skip
  rename_i v g fh off len hx
  rw[hx]at h
  rw[Ec (h (v,none) (by simp[ko]))]
 case copy sz x y=>
  simp only[eY]at h
  unfold vi
  rw[H9 (sz:=sz) h.right]
  split<;>first|rfl|skip
  rename_i v g fh off len ys n hx _
  rw[hx]at h
  rw[Ec (h (v,none) (by simp[ko]))]
theorem sQ(H:U)(v g:Nat):rowAt H v g=match rowsOf H v with|some (t,g',cs)=>if g'=g then some (t,cs)else none|none=>none:=by
 unfold rowAt rowsOf
 cases H[v]? with
 | none=>rfl
 | some o=>cases o<;>rfl
theorem zk:∀ (k:Nat) (d:D),(∀ v∈fw H1 k d,rowsOf H1 v=rowsOf H2 v)→fw H2 k d=fw H1 k d∧eB (fun _=>none) H2 k d=eB (fun _=>none) H1 k d
 | 0,d,_=>⟨rfl,rfl⟩
 | k+1,d,h=>by
  have mo:∀ (ds:List D),(∀ v∈(ds.map (fw H1 k)).flatten,rowsOf H1 v=rowsOf H2 v)→ds.map (fw H2 k)=ds.map (fw H1 k)∧ds.map (eB (fun _=>none) H2 k)=ds.map (eB (fun _=>none) H1 k):=by
   intro ds pd
   have h1:∀ d∈ds,∀ v∈fw H1 k d,rowsOf H1 v=rowsOf H2 v:=fun d hd v hv=>pd v (aM.2 ⟨_,aw.2 ⟨d,hd,rfl⟩,hv⟩)
   exact⟨ak fun d hd=>(zk k d (h1 d hd)).1,ak fun d hd=>(zk k d (h1 d hd)).2⟩
  unfold fw at h
  unfold fw eB
  by_cases hc:closed d=true
  ·simp only[if_pos hc,and_self]
  ·simp only[if_neg hc]at h ⊢
   cases d with
   | agg cs=>obtain⟨a,b⟩:=mo cs h;simp only[a,b,and_self]
   | tup cs=>obtain⟨a,b⟩:=mo cs h;simp only[a,b,and_self]
   | eF cs=>obtain⟨a,b⟩:=mo cs h;simp only[a,b,and_self]
   | sl sz es=>
    have h1:∀ e∈es,e.map (fw H2 k)=e.map (fw H1 k)∧e.map (eB (fun _=>none) H2 k)=e.map (eB (fun _=>none) H1 k):=fun e he=>mo e fun v hv=>h v (aM.2 ⟨_,aw.2 ⟨e,he,rfl⟩,hv⟩)
    have a:es.map (fun e=>(e.map (fw H2 k)).flatten)=es.map (fun e=>(e.map (fw H1 k)).flatten):=ak fun e he=>by rw[(h1 e he).1]
    have b:es.map (fun x=>x.map (eB (fun _=>none) H2 k))=es.map (fun x=>x.map (eB (fun _=>none) H1 k)):=ak fun e he=>(h1 e he).2
    simp only[a,b,and_self]
   | fn g x y=>
    obtain⟨a,b⟩:=mo x fun v hv=>h v (aS _ hv)
    obtain⟨a',b'⟩:=mo y fun v hv=>h v (br _ hv)
    simp only[a,b,a',b',and_self]
   | et v g sz off len=>
    have hv:rowsOf H1 v=rowsOf H2 v:=h v (by simp)
    simp only[sQ,← hv]
    cases fu:rowsOf H1 v with
    | none=>exact⟨rfl,rfl⟩
    | some p=>
     obtain⟨t,g',cs⟩:=p
     obtain⟨l1,l2⟩:=mo cs fun u hu=>h u (by simp only[fu];exact aO _ hu)
     refine⟨by simp only[l1],?_⟩
     by_cases hg:g'=g
     ·simp only[hg,if_true,ec,l2]
     ·simp only[if_neg hg]
   | ptr v g off=>
    have hv:rowsOf H1 v=rowsOf H2 v:=h v (by simp)
    simp only[sQ,← hv]
    cases fu:rowsOf H1 v with
    | none=>exact⟨rfl,rfl⟩
    | some p=>
     obtain⟨t,g',cs⟩:=p
     obtain⟨l1,l2⟩:=mo cs fun u hu=>h u (by simp only[fu];exact aO _ hu)
     refine⟨by simp only[l1],?_⟩
     by_cases hg:g'=g
     ·simp only[hg,if_true,ec,l2]
     ·simp only[if_neg hg]
   | _=>exact⟨rfl,rfl⟩
end
end Go.AL
namespace Go.AL
open Go
section
variable{P:Program}{G:GT}{c c2:Ctx}{H Hn:U}{w w2:World}{N:Nat}
theorem jF{ds:List D}(h:eT ds=true):∀ d∈ds,closed d=true:=fun d hd=>by
 obtain⟨i,hi⟩:=aD.1 hd
 exact qR h hi
theorem lQ{ρ:Nat→Option Nat}{k:Nat}{d:D}(h:closed d=true):eB ρ H k d=d:=by
 cases k<;>(unfold eB;simp[h])
def Ctx.join(c c2:Ctx)(n:Nat)(F:Nat→Prop):Ctx where
 ι:=fun v g=>if v<n then c.ι v g else c2.ι (v-n) g
 F:=F
 RT:=c.RT
theorem yF{F:Nat→Prop}{v:Nat}{L:Loc}(h:jc (c.join c2 H.length F) (H++Hn) v L):(v<H.length∧jc c H v L)∨(H.length≤v∧jc c2 Hn (v-H.length) L):=by
 obtain⟨o,ho,ha,eC⟩:=h
 rcases aW v H.length with hv|hv
 ·rw[ag hv]at ho
  simp only[Ctx.join,if_pos hv]at eC
  exact .inl ⟨hv,o,ho,ha,eC⟩
 ·rw[aj hv]at ho
  simp only[Ctx.join,if_neg (ea.2 hv)]at eC
  exact .inr ⟨hv,o,ho,ha,eC⟩
structure rK(G:GT)(c c2:Ctx)(H Hn:U)(w w2:World)(F:Nat→Prop):Prop where
 eA:eN G c H w
 ka:eN G c2 Hn w2
 lV:ia w w2
 fresh:∀ b,ju c2 Hn b→w.heap.size≤b
 le:∀ b,c.F b→F b
 lt:∀ b,F b→b<w2.heap.size
 n1:∀ b,F b→¬ ju c H b
 n2:∀ b,F b→¬ ju c2 Hn b
 new:∀ b,F b→c.F b∨w.heap.size≤b
 rows:∀ (v:Nat) (o:Ob),Hn[v]? = some o→∃ t g cs,o = .row t g cs∧∀ d∈cs,∀ u,eu c2 w2 u d→eu (c.join c2 H.length F) w2 u d
variable{F:Nat→Prop}
theorem LW(j:rK G c c2 H Hn w w2 F){u:Value}{d:D}(h:eu c w u d):eu (c.join c2 H.length F) w2 u d:=by
 refine h.carry (fun v k L hL=>?_) j.le (fun b o hF=>xp (j.lV.kept b (j.eA.iz b hF)))
 have hv:v<H.length:=by
  rcases aW v H.length with h|h
  ·exact h
  ·rw[j.eA.out v k h]at hL;cases hL
 simp only[Ctx.join,if_pos hv];exact hL
theorem DE(j:rK G c c2 H Hn w w2 F):eN G (c.join c2 H.length F) (H++Hn) w2 where
 inj v v' L L' h1 h2 h3 h4 he:=by
  rcases yF h1 with⟨a,b⟩|⟨a,b⟩<;>rcases yF h2 with⟨a',b'⟩|⟨a',b'⟩
  ·exact j.eA.inj v v' L L' b b' h3 h4 he
  ·have:=j.eA.lt _ ⟨v,L,b,h3,rfl⟩
   have:=j.fresh _ ⟨_,L',b',h4,rfl⟩
   omega
  ·have:=j.eA.lt _ ⟨v',L',b',h4,rfl⟩
   have:=j.fresh _ ⟨_,L,b,h3,rfl⟩
   omega
  ·have:=j.ka.inj _ _ L L' b b' h3 h4 he
   omega
 lt b hb:=by
  obtain⟨v,L,hl,hv,e⟩:=hb
  rcases yF hl with⟨_,hl⟩|⟨_,hl⟩
  ·exact aH (j.eA.lt b ⟨v,L,hl,hv,e⟩) j.lV.size
  ·exact j.ka.lt b ⟨_,L,hl,hv,e⟩
 nF b hb hF:=by
  obtain⟨v,L,hl,hv,e⟩:=hb
  rcases yF hl with⟨_,hl⟩|⟨_,hl⟩
  ·exact j.n1 b hF ⟨v,L,hl,hv,e⟩
  ·exact j.n2 b hF ⟨_,L,hl,hv,e⟩
 iz b hb:=j.lt b hb
 out v k hv:=by
  simp only[az]at hv
  simp only[Ctx.join,if_neg (show ¬ v<H.length by omega)]
  exact j.ka.out _ k (by omega)
 jx v o k ho hk:=by
  rcases aW v H.length with hv|hv
  ·rw[ag hv]at ho
   simp only[Ctx.join,if_pos hv]
   exact j.eA.jx v o k ho hk
  ·rw[aj hv]at ho
   simp only[Ctx.join,if_neg (ea.2 hv)]
   exact j.ka.jx _ o k ho hk
 ob v o ho:=by
  rcases aW v H.length with hv|hv
  ·rw[ag hv]at ho
   simp only[Ctx.join,if_pos hv]
   exact fo.nh (c:=c) (c':=c.join c2 H.length F) rfl (fun _ _ h=>LW j h) (fun l hl jB hd=>j.lV.kept _ (j.eA.lt _ ⟨v,l,⟨o,ho,hd,hl⟩,jB,rfl⟩)) (j.eA.ob v o ho)
  ·rw[aj hv]at ho
   simp only[Ctx.join,if_neg (ea.2 hv)]
   have h0:=j.ka.ob _ o ho
   obtain⟨t,g,cs,rfl,hr⟩:=j.rows _ o ho
   simp only[Ob.gen]at h0 ⊢
   cases hL:c2.ι (v-H.length) g with
   | none=>rw[hL]at h0;simp[fo]at h0
   | some L=>
    rw[hL]at h0
    simp only[fo]at h0 ⊢
    split
    ·rename_i jO;simp only[jO,if_true]at h0;exact h0
    ·rename_i jO
     simp only[jO]at h0
     obtain⟨arr,h1,h2,h3,h4⟩:=h0
     refine⟨arr,h1,h2,h3,fun i d hd=>?_⟩
     obtain⟨x,mi,jH,ri⟩:=h4 i d hd
     exact⟨x,mi,jH,hr d (aY hd) _ ri⟩
 gl g cs hg:=by
  obtain⟨h1,h2⟩:=j.eA.gl g cs hg
  exact⟨h1,LW j h2⟩
 rt:=j.eA.rt
theorem DF(j:rK G c c2 H Hn w w2 F):Step H.length c H w (c.join c2 H.length F) (H++Hn) w2 where
 os:=j.lV.os
 tape:=j.lV.tape
 output:=j.lV.output
 size:=j.lV.size
 RT:=rfl
 Fm b hb:=j.le b hb
 Fn b hb:=(j.new b hb).imp id .inl
 kept b hb _:=j.lV.kept b hb
 old v k L hv h:=by simp only[Ctx.join,if_pos hv];exact h
 own b hb:=by
  obtain⟨v,L,hl,hv,e⟩:=hb
  rcases yF hl with⟨_,hl⟩|⟨_,hl⟩
  ·exact .inr ⟨v,L,hl,hv,e⟩
  ·exact .inl (j.fresh b ⟨_,L,hl,hv,e⟩)
theorem D8(j:rK G c c2 H Hn w w2 F){p:D→Bool}(hp:∀ d u,p d=true→eu c2 w2 u d→eu (c.join c2 H.length F) w2 u d){u:Value}{r:D}
  (hr:eu c2 w2 u r) (h:qv p r=true):eu (c.join c2 H.length F) w2 u (ix H.length r):=by
 have yi:∀ v g sz off len u,eu c2 w2 u (.et v g sz off len)→eu (c.join c2 H.length F) w2 u (.et (v+H.length) g sz off len):=by
  intro v g sz off len u hr
  cases hr with
  | et _ _ _ _ _ cap L eC hv ie iF jN=>exact .et _ g sz off len cap L (by simp only[Ctx.join];rw[if_neg (by omega),Nat.add_sub_cancel];exact eC) hv ie iF jN
  | kd _ _ _ _ L eC a=>exact .kd _ g sz off L (by simp only[Ctx.join];rw[if_neg (by omega),Nat.add_sub_cancel];exact eC) a
 have h1:∀ (d:D) (u:Value),ry p d=true→eu c2 w2 u d→eu (c.join c2 H.length F) w2 u (rn H.length d):=by
  intro d u hd hr
  cases d<;>first|exact yi _ _ _ _ _ _ hr|exact hp _ _ hd hr
 cases r with
 | tup ds=>
  cases hr with
  | tup vs _ hl re=>
   simp only[ix]
   refine .tup vs _ (by simpa using hl) fun i v d hv hd=>?_
   simp only[ar,ai]at hd
   obtain⟨d0,iI,rfl⟩:=hd
   exact h1 d0 v (ao.1 h d0 (aY iI)) (re i v d0 hv iI)
 | agg ds=>
  cases hr with
  | agg vs _ hl ho re=>
   simp only[ix]
   refine .agg vs _ (by simpa using hl) ho fun i v d hv hd=>?_
   simp only[ar,ai]at hd
   obtain⟨d0,iI,rfl⟩:=hd
   exact h1 d0 v (ao.1 h d0 (aY iI)) (re i v d0 hv iI)
 | et v g sz off len=>exact yi _ _ _ _ _ _ hr
 | _=>exact hp _ _ h hr
def Ctx.data(c:Ctx)(F:Nat→Prop):Ctx where
 ι:=fun _ _=>none
 F:=F
 RT:=c.RT
theorem Cz(h:eN G c H w):eN G (c.data c.F) [] w where
 inj v v' L L' h1:=by obtain⟨o,ho,_⟩:=h1;simp at ho
 lt b hb:=by obtain⟨v,L,⟨o,ho,_⟩,_⟩:=hb;simp at ho
 nF b hb:=by obtain⟨v,L,⟨o,ho,_⟩,_⟩:=hb;simp at ho
 iz b hb:=h.iz b hb
 out _ _ _:=rfl
 jx _ _ _ _ _:=rfl
 ob v o ho:=by simp at ho
 gl g cs hg:=by
  obtain⟨h1,h2⟩:=h.gl g cs hg
  exact⟨h1,eu.closed (c:=c) (c':=c.data c.F) (fun b hb=>hb) h2 (by simpa[AL.closed]using h1)⟩
 rt:=h.rt
theorem ot{c:Ctx}{b:Nat}:¬ ju c [] b:=by
 rintro⟨v,L,⟨o,ho,_⟩,_⟩
 simp at ho
theorem tF{n:Nat}{c0:Ctx}(hs:Step n c0 [] w c2 Hn w2):ia w w2:=
 ⟨hs.os,hs.tape,hs.output,hs.size,fun b hb=>hs.kept b hb ot⟩
theorem JM(h:Hn.all kO=true){v:Nat}{o:Ob}(ho:Hn[v]? = some o):∃ t g cs,o = .row t g cs∧∀ d∈cs,closed d=true:=by
 have:=ao.1 h o (aY ho)
 cases o<;>simp only[kO]at this<;>first|cases this;done|skip
 exact⟨_,_,_,rfl,jF this⟩
theorem Kq(h:Hn.all lT=true){v:Nat}{o:Ob}(ho:Hn[v]? = some o):∃ t g cs,o = .row t g cs∧∀ d∈cs,flat d=true:=by
 have:=ao.1 h o (aY ho)
 cases o<;>simp only[lT]at this<;>first|cases this;done|skip
 refine⟨_,_,_,rfl,fun d hd=>?_⟩
 obtain⟨i,hi⟩:=aD.1 hd
 exact vr this hi
def rF(P:Program)(G:GT)(f:FuncId)(args:List D)(H:U)(d:D)(H':U):Prop:=
 ∀ (c:Ctx) (w:World) (vs:List Value),eN G c H w→gD c w vs args →
  Calls P f vs.toArray w fun e w'=>∃ v c',e = .returned v∧eN G c' H' w'∧eu c' w' v d∧Step H.length c H w c' H' w'
def pL(P:Program)(G:GT)(f:FuncId)(args:List D)(H:U)(R:D→U→Prop):Prop:=
 ∀ (c:Ctx) (w:World) (vs:List Value),eN G c H w→gD c w vs args →
  Calls P f vs.toArray w fun e w'=>∃ v c' d H',e = .returned v∧R d H'∧H.length≤H'.length∧eN G c' H' w'∧eu c' w' v d∧Step H.length c H w c' H' w'
theorem pL.one{f:FuncId}{args:List D}{H:U}{R:D→U→Prop}{d:D}{H':U}(h:pL P G f args H R)(h1:∀ d' Hn,R d' Hn→d'=d∧Hn=H'):rF P G f args H d H':=
 fun c w vs h2 h3=>(h c w vs h2 h3).mono fun _ _ ⟨v,c',_,_,he,hR,_,a,b,e⟩=>by
  obtain⟨rfl,rfl⟩:=h1 _ _ hR
  exact⟨v,c',he,a,b,e⟩
theorem H0:eB (fun _=>none) H 40=eB (fO []) H 40:=rfl
theorem gD.map{c c':Ctx}{f:D→D}(hr:∀ v d,eu c w v d→eu c' w v (f d)){vs:List Value}{ds:List D}(h:gD c w vs ds):gD c' w vs (ds.map f):=by
 induction h with
 | nil=>exact .nil
 | cons h _ ih=>exact .cons (hr _ _ h) ih
theorem M3(eA:eN G c H w){f:FuncId}{vs:List Value}{args:List D}{d:D}(hr:gD c w vs args)(gO:rF P G f (args.map (eB (fun _=>none) H 40)) [] d Hn)
  (hc:(if eT args then jP d&&Hn.all kO else lN d&&Hn.all lT)=true) :
  Calls P f vs.toArray w fun e w'=>∃ v c',e = .returned v∧eN G c' (H++Hn) w'∧eu c' w' v (ix H.length d)∧Step H.length c H w c' (H++Hn) w':=by
 by_cases ff:eT args=true
 ·rw[if_pos ff]at hc
  simp only[ah]at hc
  have e:args.map (eB (fun _=>none) H 40)=args:=by
   conv=>rhs;rw[← aQ args]
   exact ak fun d hd=>lQ (jF ff d hd)
  rw[e]at gO
  have ph:gD (c.data c.F) w vs args:=by
   clear gO hc e
   induction hr with
   | nil=>exact .nil
   | cons h _ ih=>
    simp only[eT,ah]at ff
    exact .cons (eu.closed (c:=c) (c':=c.data c.F) (fun b hb=>hb) h ff.1) (ih ff.2)
  refine(gO _ w vs (Cz eA) ph).mono ?_
  rintro e w' ⟨v,c2,he,h2,hv,eH⟩
  have hg:=tF eH
  have hF:∀ b,c2.F b→c.F b∨w.heap.size≤b:=fun b hb=>by
   rcases eH.Fn b hb with h|h|h
   ·exact .inl h
   ·exact .inr h
   ·exact absurd h ot
  have j:rK G c c2 H Hn w w' c2.F:={
   eA:=eA
   ka:=h2
   lV:=hg
   fresh:=fun b hb=>by
    rcases eH.own b hb with h|h
    ·exact h
    ·exact absurd h ot
   le:=fun b hb=>eH.Fm b hb
   lt:=h2.iz
   n1:=fun b hb ho=>by
    rcases hF b hb with h|h
    ·exact eA.nF b ho h
    ·have:=eA.lt b ho;omega
   n2:=fun b hb ho=>h2.nF b ho hb
   new:=hF
   rows:=fun v o ho=>by
    obtain⟨t,g,cs,rfl,gC⟩:=JM hc.2 ho
    exact⟨t,g,cs,rfl,fun d hd u hu=>eu.closed (c:=c2) (c':=c.join c2 H.length c2.F) (fun b hb=>hb) hu (gC d hd)⟩ }
  exact⟨v,_,he,DE j,D8 j (p:=AL.closed) (fun d u hd hu=>eu.closed (c:=c2) (c':=c.join c2 H.length c2.F) (fun b hb=>hb) hu hd) hv hc.1,DF j⟩
 ·rw[if_neg ff]at hc
  simp only[ah]at hc
  have ph:gD (c.eB [] H) w vs (args.map (eB (fun _=>none) H 40)):=hr.map fun v d h=>by
   rw[H0];exact sO eA 40 h
  have yh:eN G (c.eB [] H) [] w:=wx (ks:=[]) eA (fun i j p q hp=>by simp at hp)
  refine(gO _ w vs yh ph).mono ?_
  rintro e w' ⟨v,c2,he,h2,hv,eH⟩
  have hg:=tF eH
  have j:rK G c c2 H Hn w w' c.F:={
   eA:=eA
   ka:=h2
   lV:=hg
   fresh:=fun b hb=>by
    rcases eH.own b hb with h|h
    ·exact h
    ·exact absurd h ot
   le:=fun b hb=>hb
   lt:=fun b hb=>aH (eA.iz b hb) hg.size
   n1:=fun b hb ho=>eA.nF b ho hb
   n2:=fun b hb ho=>by
    rcases eH.own b ho with h|h
    ·have:=eA.iz b hb;omega
    ·exact absurd h ot
   new:=fun b hb=>.inl hb
   rows:=fun v o ho=>by
    obtain⟨t,g,cs,rfl,gC⟩:=Kq hc.2 ho
    exact⟨t,g,cs,rfl,fun d hd u hu=>eu.flat hu (gC d hd)⟩ }
  exact⟨v,_,he,DE j,D8 j (p:=AL.flat) (fun d u hd hu=>eu.flat hu hd) hv hc.1,DF j⟩
theorem YN(eA:eN G c H w){f:FuncId}{vs:List Value}{args:List D}{R:D→U→Prop}(hr:gD c w vs args)(gO:pL P G f (args.map (eB (fun _=>none) H 40)) [] R)
  (hc:∀ d Hn,R d Hn→(if eT args then jP d&&Hn.all kO else lN d&&Hn.all lT)=true) :
  Calls P f vs.toArray w fun e w'=>∃ v c' d Hn,e = .returned v∧R d Hn∧eN G c' (H++Hn) w'∧eu c' w' v (ix H.length d)∧Step H.length c H w c' (H++Hn) w':=by
 by_cases ff:eT args=true
 ·simp only[if_pos ff,ah]at hc
  have e:args.map (eB (fun _=>none) H 40)=args:=by
   conv=>rhs;rw[← aQ args]
   exact ak fun d hd=>lQ (jF ff d hd)
  rw[e]at gO
  have ph:gD (c.data c.F) w vs args:=by
   clear gO hc e
   induction hr with
   | nil=>exact .nil
   | cons h _ ih=>
    simp only[eT,ah]at ff
    exact .cons (eu.closed (c:=c) (c':=c.data c.F) (fun b hb=>hb) h ff.1) (ih ff.2)
  refine(gO _ w vs (Cz eA) ph).mono ?_
  rintro e w' ⟨v,c2,d,Hn,he,hR,_,h2,hv,eH⟩
  have hc:=hc d Hn hR
  have hg:=tF eH
  have hF:∀ b,c2.F b→c.F b∨w.heap.size≤b:=fun b hb=>by
   rcases eH.Fn b hb with h|h|h
   ·exact .inl h
   ·exact .inr h
   ·exact absurd h ot
  have j:rK G c c2 H Hn w w' c2.F:={
   eA:=eA
   ka:=h2
   lV:=hg
   fresh:=fun b hb=>by
    rcases eH.own b hb with h|h
    ·exact h
    ·exact absurd h ot
   le:=fun b hb=>eH.Fm b hb
   lt:=h2.iz
   n1:=fun b hb ho=>by
    rcases hF b hb with h|h
    ·exact eA.nF b ho h
    ·have:=eA.lt b ho;omega
   n2:=fun b hb ho=>h2.nF b ho hb
   new:=hF
   rows:=fun v o ho=>by
    obtain⟨t,g,cs,rfl,gC⟩:=JM hc.2 ho
    exact⟨t,g,cs,rfl,fun d hd u hu=>eu.closed (c:=c2) (c':=c.join c2 H.length c2.F) (fun b hb=>hb) hu (gC d hd)⟩ }
  exact⟨v,_,d,Hn,he,hR,DE j,D8 j (p:=AL.closed) (fun d u hd hu=>eu.closed (c:=c2) (c':=c.join c2 H.length c2.F) (fun b hb=>hb) hu hd) hv hc.1,DF j⟩
 ·simp only[if_neg ff,ah]at hc
  have ph:gD (c.eB [] H) w vs (args.map (eB (fun _=>none) H 40)):=hr.map fun v d h=>by
   rw[H0];exact sO eA 40 h
  have yh:eN G (c.eB [] H) [] w:=wx (ks:=[]) eA (fun i j p q hp=>by simp at hp)
  refine(gO _ w vs yh ph).mono ?_
  rintro e w' ⟨v,c2,d,Hn,he,hR,_,h2,hv,eH⟩
  have hc:=hc d Hn hR
  have hg:=tF eH
  have j:rK G c c2 H Hn w w' c.F:={
   eA:=eA
   ka:=h2
   lV:=hg
   fresh:=fun b hb=>by
    rcases eH.own b hb with h|h
    ·exact h
    ·exact absurd h ot
   le:=fun b hb=>hb
   lt:=fun b hb=>aH (eA.iz b hb) hg.size
   n1:=fun b hb ho=>eA.nF b ho hb
   n2:=fun b hb ho=>by
    rcases eH.own b ho with h|h
    ·have:=eA.iz b hb;omega
    ·exact absurd h ot
   new:=fun b hb=>.inl hb
   rows:=fun v o ho=>by
    obtain⟨t,g,cs,rfl,gC⟩:=Kq hc.2 ho
    exact⟨t,g,cs,rfl,fun d hd u hu=>eu.flat hu (gC d hd)⟩ }
  exact⟨v,_,d,Hn,he,hR,DE j,D8 j (p:=AL.flat) (fun d u hd hu=>eu.flat hu hd) hv hc.1,DF j⟩
def Ctx.kW(c c2:Ctx)(n:Nat)(F:Nat→Prop):Ctx where
 ι:=fun v g=>if v=n then c2.ι 0 g else c.ι v g
 F:=F
 RT:=c.RT
theorem zd{n:Nat}{ob:Ob}(hn:H[n]? = some .hole){F:Nat→Prop}{v:Nat}{L:Loc}(h:jc (c.kW c2 n F) (H.set n ob) v L):(v≠n∧jc c H v L)∨(v=n∧jc c2 [ob] 0 L):=by
 obtain⟨o,ho,ha,eC⟩:=h
 rw[nj (af.1 hn).1]at ho
 by_cases hv:v=n
 ·subst hv
  rw[if_pos rfl]at ho
  cases ho
  simp only[Ctx.kW,if_true]at eC
  exact .inr ⟨rfl,ob,rfl,ha,eC⟩
 ·rw[if_neg hv]at ho
  simp only[Ctx.kW,if_neg hv]at eC
  exact .inl ⟨hv,o,ho,ha,eC⟩
theorem YM(eA:eN G c H w){f:FuncId}{vs:List Value}{args:List D}{d:D}{ob:Ob}{n:Nat}(hr:gD c w vs args)(gO:rF P G f (args.map (eB (fun _=>none) H 40)) [] d [ob])
  (hc:(if eT args then jP d&&kO ob else lN d&&lT ob)=true) (hn:H[n]? = some .hole) :
  Calls P f vs.toArray w fun e w'=>∃ v c',e = .returned v∧eN G c' (H.set n ob) w'∧eu c' w' v (ix n d)∧Step H.length c H w c' (H.set n ob) w':=by
 have e7:=(af.1 hn).1
 have KQ:∀ k,c.ι n k=none:=fun k=>eA.jx n _ k hn (.inl rfl)
 have main:∀ (c2:Ctx) (w':World) (v:Value) (F:Nat→Prop),eN G c2 [ob] w'→eu c2 w' v d→ia w w'→(∀ b,ju c2 [ob] b→w.heap.size≤b)→(∀ b,c.F b→F b)→(∀ b,F b→b<w'.heap.size) →
   (∀ b,F b→¬ ju c H b)→(∀ b,F b→¬ ju c2 [ob] b)→(∀ b,F b→c.F b∨w.heap.size≤b)→∀ (p:D→Bool),(∀ d u,p d=true→eu c2 w' u d→eu (c.kW c2 n F) w' u d)→qv p d=true →
   (∃ t g cs,ob = .row t g cs∧∀ d∈cs,p d=true) →
   eN G (c.kW c2 n F) (H.set n ob) w'∧eu (c.kW c2 n F) w' v (ix n d)∧Step H.length c H w (c.kW c2 n F) (H.set n ob) w':=by
  intro c2 w' v F ka hv hg Ge hle Rt Rz RA jM p hp hd fC
  have carry:∀ {u:Value} {d:D},eu c w u d→eu (c.kW c2 n F) w' u d:=fun h=>by
   refine h.carry (fun v k L hL=>?_) hle (fun b o hF=>xp (hg.kept b (eA.iz b hF)))
   have fF:v≠n:=fun e=>by rw[e,KQ]at hL;cases hL
   simp only[Ctx.kW,if_neg fF];exact hL
  have yi:∀ v g sz off len u,eu c2 w' u (.et v g sz off len)→(v=0)→eu (c.kW c2 n F) w' u (.et (v+n) g sz off len):=by
   intro v g sz off len u hr h0
   subst h0
   cases hr with
   | et _ _ _ _ _ cap L eC hv ie iF jN=>exact .et _ g sz off len cap L (by simp only[Ctx.kW,aX,if_true];exact eC) hv ie iF jN
   | kd _ _ _ _ L eC a=>exact .kd _ g sz off L (by simp only[Ctx.kW,aX,if_true];exact eC) a
  have hz:∀ v g sz off len u,eu c2 w' u (.et v g sz off len)→v=0:=by
   intro v g sz off len u hr
   have:∃ L,c2.ι v g=some L:=by
    cases hr with
    | et _ _ _ _ _ cap L eC=>exact⟨L,eC⟩
    | kd _ _ _ _ L eC=>exact⟨L,eC⟩
   obtain⟨L,hL⟩:=this
   rcases dv v with h|h
   ·exact h
   ·rw[ka.out v g (by show 1≤v;exact h)]at hL;cases hL
  have h1:∀ (d:D) (u:Value),ry p d=true→eu c2 w' u d→eu (c.kW c2 n F) w' u (rn n d):=by
   intro d u hd hr
   cases d<;>first|exact yi _ _ _ _ _ _ hr (hz _ _ _ _ _ _ hr)|exact hp _ _ hd hr
  refine⟨{
   inj:=fun v v' L L' h1 h2 h3 h4 he=>by
    rcases zd hn h1 with⟨a,b⟩|⟨a,b⟩<;>rcases zd hn h2 with⟨a',b'⟩|⟨a',b'⟩
    ·exact eA.inj v v' L L' b b' h3 h4 he
    ·have:=eA.lt _ ⟨v,L,b,h3,rfl⟩
     have:=Ge _ ⟨_,L',b',h4,rfl⟩
     omega
    ·have:=eA.lt _ ⟨v',L',b',h4,rfl⟩
     have:=Ge _ ⟨_,L,b,h3,rfl⟩
     omega
    ·rw[a,a']
   lt:=fun b hb=>by
    obtain⟨v,L,hl,hv,e⟩:=hb
    rcases zd hn hl with⟨_,hl⟩|⟨_,hl⟩
    ·exact aH (eA.lt b ⟨v,L,hl,hv,e⟩) hg.size
    ·exact ka.lt b ⟨_,L,hl,hv,e⟩
   nF:=fun b hb hF=>by
    obtain⟨v,L,hl,hv,e⟩:=hb
    rcases zd hn hl with⟨_,hl⟩|⟨_,hl⟩
    ·exact Rz b hF ⟨v,L,hl,hv,e⟩
    ·exact RA b hF ⟨_,L,hl,hv,e⟩
   iz:=Rt
   out:=fun v k hv=>by
    simp only[bV]at hv
    simp only[Ctx.kW,if_neg (show ¬ v=n by omega)]
    exact eA.out _ k hv
   jx:=fun v o k ho hk=>by
    rw[nj e7]at ho
    by_cases hv:v=n
    ·subst hv
     rw[if_pos rfl]at ho
     cases ho
     simp only[Ctx.kW,if_true]
     exact ka.jx 0 _ k rfl hk
    ·rw[if_neg hv]at ho
     simp only[Ctx.kW,if_neg hv]
     exact eA.jx v o k ho hk
   ob:=fun v o ho=>by
    rw[nj e7]at ho
    by_cases hv:v=n
    ·subst hv
     rw[if_pos rfl]at ho
     cases ho
     simp only[Ctx.kW,if_true]
     have h0:=ka.ob 0 _ rfl
     obtain⟨t,g,cs,rfl,gC⟩:=fC
     simp only[Ob.gen]at h0 ⊢
     cases hL:c2.ι 0 g with
     | none=>rw[hL]at h0;simp[fo]at h0
     | some L=>
      rw[hL]at h0
      simp only[fo]at h0 ⊢
      split
      ·rename_i jO;simp only[jO,if_true]at h0;exact h0
      ·rename_i jO
       simp only[jO]at h0
       obtain⟨arr,h1,h2,h3,h4⟩:=h0
       refine⟨arr,h1,h2,h3,fun i d hd=>?_⟩
       obtain⟨x,mi,jH,ri⟩:=h4 i d hd
       exact⟨x,mi,jH,hp d _ (gC d (aY hd)) ri⟩
    ·rw[if_neg hv]at ho
     simp only[Ctx.kW,if_neg hv]
     exact fo.nh (c:=c) (c':=c.kW c2 n F) rfl (fun _ _ h=>carry h) (fun l hl jB hd=>hg.kept _ (eA.lt _ ⟨v,l,⟨o,ho,hd,hl⟩,jB,rfl⟩)) (eA.ob v o ho)
   gl:=fun g cs hg=>by
    obtain⟨h1,h2⟩:=eA.gl g cs hg
    exact⟨h1,carry h2⟩
   rt:=eA.rt },?_,?_⟩
  ·cases d with
   | tup ds=>
    cases hv with
    | tup vs _ hl re=>
     simp only[ix]
     refine .tup vs _ (by simpa using hl) fun i v d hv lr=>?_
     simp only[ar,ai]at lr
     obtain⟨d0,iI,rfl⟩:=lr
     exact h1 d0 v (ao.1 hd d0 (aY iI)) (re i v d0 hv iI)
   | agg ds=>
    cases hv with
    | agg vs _ hl ho re=>
     simp only[ix]
     refine .agg vs _ (by simpa using hl) ho fun i v d hv lr=>?_
     simp only[ar,ai]at lr
     obtain⟨d0,iI,rfl⟩:=lr
     exact h1 d0 v (ao.1 hd d0 (aY iI)) (re i v d0 hv iI)
   | et v g sz off len=>exact yi _ _ _ _ _ _ hv (hz _ _ _ _ _ _ hv)
   | _=>exact hp _ _ hd hv
  ·exact{
    os:=hg.os
    tape:=hg.tape
    output:=hg.output
    size:=hg.size
    RT:=rfl
    Fm:=hle
    Fn:=fun b hb=>(jM b hb).imp id .inl
    kept:=fun b hb _=>hg.kept b hb
    old:=fun v k L hv h=>by
     have fF:v≠n:=fun e=>by rw[e,KQ]at h;cases h
     simp only[Ctx.kW,if_neg fF];exact h
    own:=fun b hb=>by
     obtain⟨v,L,hl,hv,e⟩:=hb
     rcases zd hn hl with⟨_,hl⟩|⟨_,hl⟩
     ·exact .inr ⟨v,L,hl,hv,e⟩
     ·exact .inl (Ge b ⟨_,L,hl,hv,e⟩) }
 by_cases ff:eT args=true
 ·simp only[if_pos ff,ah]at hc
  have e:args.map (eB (fun _=>none) H 40)=args:=by
   conv=>rhs;rw[← aQ args]
   exact ak fun d hd=>lQ (jF ff d hd)
  rw[e]at gO
  have ph:gD (c.data c.F) w vs args:=by
   clear gO hc e
   induction hr with
   | nil=>exact .nil
   | cons h _ ih=>
    simp only[eT,ah]at ff
    exact .cons (eu.closed (c:=c) (c':=c.data c.F) (fun b hb=>hb) h ff.1) (ih ff.2)
  refine(gO _ w vs (Cz eA) ph).mono ?_
  rintro e w' ⟨v,c2,he,h2,hv,eH⟩
  have hg:=tF eH
  have hF:∀ b,c2.F b→c.F b∨w.heap.size≤b:=fun b hb=>by
   rcases eH.Fn b hb with h|h|h
   ·exact .inl h
   ·exact .inr h
   ·exact absurd h ot
  obtain⟨m1,m2,m3⟩:=main c2 w' v c2.F h2 hv hg (fun b hb=>by
    rcases eH.own b hb with h|h
    ·exact h
    ·exact absurd h ot) (fun b hb=>eH.Fm b hb) h2.iz (fun b hb ho=>by
    rcases hF b hb with h|h
    ·exact eA.nF b ho h
    ·have:=eA.lt b ho;omega) (fun b hb ho=>h2.nF b ho hb) hF AL.closed (fun d u hd hu=>eu.closed (c:=c2) (c':=c.kW c2 n c2.F) (fun b hb=>hb) hu hd) hc.1 (by
    have:=hc.2
    cases ob<;>simp only[kO]at this<;>first|(cases this;done)|skip
    exact⟨_,_,_,rfl,jF this⟩)
  exact⟨v,_,he,m1,m2,m3⟩
 ·simp only[if_neg ff,ah]at hc
  have ph:gD (c.eB [] H) w vs (args.map (eB (fun _=>none) H 40)):=hr.map fun v d h=>by
   rw[H0];exact sO eA 40 h
  have yh:eN G (c.eB [] H) [] w:=wx (ks:=[]) eA (fun i j p q hp=>by simp at hp)
  refine(gO _ w vs yh ph).mono ?_
  rintro e w' ⟨v,c2,he,h2,hv,eH⟩
  have hg:=tF eH
  obtain⟨m1,m2,m3⟩:=main c2 w' v c.F h2 hv hg (fun b hb=>by
    rcases eH.own b hb with h|h
    ·exact h
    ·exact absurd h ot) (fun b hb=>hb) (fun b hb=>aH (eA.iz b hb) hg.size) (fun b hb ho=>eA.nF b ho hb) (fun b hb ho=>by
    rcases eH.own b ho with h|h
    ·have:=eA.iz b hb;omega
    ·exact absurd h ot) (fun b hb=>.inl hb) AL.flat (fun d u hd hu=>eu.flat hu hd) hc.1 (by
    have:=hc.2
    cases ob<;>simp only[lT]at this<;>first|(cases this;done)|skip
    refine⟨_,_,_,rfl,fun d hd=>?_⟩
    obtain⟨i,hi⟩:=aD.1 hd
    exact vr this hi)
  exact⟨v,_,he,m1,m2,m3⟩
theorem Y5{S:List Nat}{v:Nat}(hv:v∈S):fO (jw H S) v=none:=by
 unfold fO jw
 rw[dD]
 intro p hp
 obtain⟨u,_,rfl⟩:=aw.1 hp
 by_cases hu:u=v
 ·subst hu;simp[hv]
 ·simp[hu]
theorem Ny{v:Nat}:∀ (k:Nat) (d:D),(∀ u∈fw H k d,u=v)→AL.eB (fO (jw H [v])) H k d=AL.eB (fun _=>none) H k d
 | 0,d,_=>rfl
 | k+1,d,h=>by
  have hv:fO (jw H [v]) v=none:=Y5 (by simp)
  have mo:∀ (ds:List D),(∀ u∈(ds.map (fw H k)).flatten,u=v)→ds.map (AL.eB (fO (jw H [v])) H k)=ds.map (AL.eB (fun _=>none) H k):=fun ds pd=>
   ak fun d hd=>Ny k d fun u hu=>pd u (aM.2 ⟨_,aw.2 ⟨d,hd,rfl⟩,hu⟩)
  unfold fw at h
  unfold AL.eB
  by_cases hc:AL.closed d=true
  ·simp only[if_pos hc]
  ·simp only[if_neg hc]at h ⊢
   cases d with
   | agg cs=>simp only[mo cs h]
   | tup cs=>simp only[mo cs h]
   | eF cs=>simp only[mo cs h]
   | sl sz es=>
    have:es.map (fun x=>x.map (AL.eB (fO (jw H [v])) H k))=es.map (fun x=>x.map (AL.eB (fun _=>none) H k)):=ak fun e he=>mo e fun u hu=>h u (aM.2 ⟨_,aw.2 ⟨e,he,rfl⟩,hu⟩)
    simp only[this]
   | fn g x y=>
    have h1:=mo x fun u hu=>h u (aS _ hu)
    have h2:=mo y fun u hu=>h u (br _ hu)
    simp only[h1,h2]
   | et u g sz off len=>
    have hu:u=v:=h u (by simp)
    subst hu
    simp only[hv]
    cases fu:rowsOf H u with
    | none=>simp only[sQ,fu]
    | some p=>
     obtain⟨t,g',cs⟩:=p
     simp only[sQ,fu]
     by_cases hg:g'=g
     ·simp only[hg,if_true]
      have:=mo (cs.drop (off*sz)) fun w hw=>by
       obtain⟨l,hl,uh⟩:=aM.1 hw
       obtain⟨d,hd,rfl⟩:=aw.1 hl
       exact h w (by simp only[fu];exact aO _ (aM.2 ⟨_,aw.2 ⟨d,bN hd,rfl⟩,uh⟩))
      rw[this]
     ·simp only[if_neg hg]
   | ptr u g off=>
    have hu:u=v:=h u (by simp)
    subst hu
    simp only[hv]
    cases fu:rowsOf H u with
    | none=>simp only[sQ,fu]
    | some p=>
     obtain⟨t,g',cs⟩:=p
     simp only[sQ,fu]
     by_cases hg:g'=g
     ·simp only[hg,if_true]
      have:=mo (cs.drop off) fun w hw=>by
       obtain⟨l,hl,uh⟩:=aM.1 hw
       obtain⟨d,hd,rfl⟩:=aw.1 hl
       exact h w (by simp only[fu];exact aO _ (aM.2 ⟨_,aw.2 ⟨d,bN hd,rfl⟩,uh⟩))
      rw[this]
     ·simp only[if_neg hg]
   | omap u=>
    have hu:u=v:=h u (by simp)
    subst hu
    simp only[hv]
   | gv u=>
    have hu:u=v:=h u (by simp)
    subst hu
    simp only[hv]
   | _=>rfl
theorem Tf(h:eN G c H w){v:Nat}{t:TypeId}{g:Nat}{cs:List D}(hv:H[v]? = some (.row t g cs)) :
  ∃ c',eN G c' (H.set v .dead) w∧Step H.length c H w c' (H.set v .dead) w∧(∀ u d,eu c w u d→eu c' w u d)∧∀ b,(c.eB (jw H [v]) H).F b→c'.F b:=by
 have e7:=(af.1 hv).1
 have hL:∀ c':Ctx,(∀ u k,c'.ι u k=c.ι u k)→∀ u l,jc c' (H.set v .dead) u l→u≠v∧jc c H u l:=by
  rintro c' eC u l ⟨o,ho,fr,hi⟩
  rw[nj e7]at ho
  split at ho
  ·cases ho;cases fr
  ·rename_i fF;exact⟨fF,o,ho,fr,by rw[← eC];exact hi⟩
 let c':Ctx:={ c with F:=fun b=>c.F b∨∃ L,c.ι v g=some L∧L.gM=false∧L.b=b }
 have eC:∀ u k,c'.ι u k=c.ι u k:=fun _ _=>rfl
 have hr:∀ u d,eu c w u d→eu c' w u d:=fun u d hd=>eu.carry (c:=c) (c':=c') (w:=w) (w':=w) (fun _ _ _ h=>h) (fun b hb=>Or.inl hb) (fun _ _ _=>rfl) hd
 have nC:∀ b,ju c' (H.set v .dead) b→ju c H b:=fun b ⟨u,l,hl,r⟩=>⟨u,l,(hL c' eC u l hl).2,r⟩
 refine⟨c',{
  inj:=fun u u' l l' h1 h2=>h.inj u u' l l' (hL c' eC _ _ h1).2 (hL c' eC _ _ h2).2
  lt:=fun b hb=>h.lt b (nC b hb)
  nF:=fun b hb hF=>by
   obtain⟨u,l,hl,gq,e⟩:=hb
   obtain⟨fF,jZ⟩:=hL c' eC u l hl
   rcases hF with hF|⟨L,xR,fH,eL⟩
   ·exact h.nF b ⟨u,l,jZ,gq,e⟩ hF
   ·exact fF (h.inj u v l L jZ ⟨_,hv,rfl,xR⟩ gq fH (e.trans eL.symm))
  iz:=fun b hb=>by
   rcases hb with hb|⟨L,xR,fH,eL⟩
   ·exact h.iz b hb
   ·exact eL▸h.lt _ ⟨v,L,⟨_,hv,rfl,xR⟩,fH,rfl⟩
  out:=fun u k hu=>h.out u k (by simpa using hu)
  jx:=fun u o k ho hk=>by
   rw[nj e7]at ho
   split at ho
   ·cases ho
    rcases hk with hk|⟨hk,_⟩<;>cases hk
   ·exact h.jx u o k ho hk
  ob:=fun u o ho=>by
   rw[nj e7]at ho
   split at ho
   ·cases ho;simp[fo]
   ·exact fo.nh (c:=c) (c':=c') rfl hr (fun _ _ _ _=>rfl) (h.ob u o ho)
  gl:=fun g cs hg=>let ⟨a,b⟩:=h.gl g cs hg;⟨a,hr _ _ b⟩
  rt:=h.rt },?_,hr,fun b hb=>?_⟩
 ·exact{
   os:=⟨rfl,Nat.le_refl _⟩,tape:=rfl,output:=rfl,size:=Nat.le_refl _,RT:=rfl
   Fm:=fun b hb=>Or.inl hb
   Fn:=fun b hb=>by
    rcases hb with hb|⟨L,xR,fH,eL⟩
    ·exact .inl hb
    ·exact .inr (.inr ⟨v,L,⟨_,hv,rfl,xR⟩,fH,eL⟩)
   kept:=fun _ _ _=>rfl
   old:=fun _ _ _ _ h=>h
   own:=fun b hb=>.inr (nC b hb) }
 ·rcases hb with hb|⟨u,L,⟨o,ho,fr,SA⟩,Ls,fH,e⟩
  ·exact .inl hb
  ·have hu:u=v:=by
    by_cases fF:u=v
    ·exact fF
    ·exfalso
     have R8:=(af.1 ho).1
     have:fO (jw H [v]) u=some u:=HP Kz (by
      unfold jw
      simp[R8,fF])
     rw[this]at Ls;cases Ls
   subst hu
   rw[hv]at ho
   cases ho
   exact .inr ⟨L,SA,fH,e⟩
theorem YL(eA:eN G c H w){f:FuncId}{vs:List Value}{args:List D}{d:D}{v:Nat}(hr:gD c w vs args)(hS:∀ u∈(args.map (fw H 40)).flatten,u=v)(fu:(rowsOf H v).isSome=true)
  (gO:rF P G f (args.map (AL.eB (fun _=>none) H 40)) [] d []) (ff:eT (args.map (AL.eB (fun _=>none) H 40))=true) (hd:AL.closed d=true) :
  Calls P f vs.toArray w fun e w'=>∃ u c',e = .returned u∧eN G c' (H.set v .dead) w'∧eu c' w' u d∧Step H.length c H w c' (H.set v .dead) w':=by
 have hv:∃ t g cs,H[v]? = some (.row t g cs):=by
  unfold rowsOf at fu
  split at fu
  ·exact⟨_,_,_,by assumption⟩
  ·cases fu
 obtain⟨t,g,cs,hv⟩:=hv
 obtain⟨c1,k1,k2,k3,k4⟩:=Tf eA hv
 have RR:gD c1 w vs (args.map (AL.eB (fun _=>none) H 40)):=by
  have e:args.map (AL.eB (fun _=>none) H 40)=args.map (AL.eB (fO (jw H [v])) H 40):=
   ak fun d hd=>(Ny 40 d fun u hu=>hS u (aM.2 ⟨_,aw.2 ⟨d,hd,rfl⟩,hu⟩)).symm
  have xV:=ff
  rw[e]at xV ⊢
  have h0:=hr.map (c':=c.eB (jw H [v]) H) (f:=AL.eB (fO (jw H [v])) H 40) fun _ _ h=>sO eA 40 h
  generalize args.map (AL.eB (fO (jw H [v])) H 40)=as at h0 xV
  clear e ff hS gO hr
  induction h0 with
  | nil=>exact .nil
  | cons h _ ih=>
   simp only[eT,ah]at xV
   exact .cons (eu.closed (c:=c.eB (jw H [v]) H) (c':=c1) k4 h xV.1) (ih xV.2)
 have e2:(args.map (AL.eB (fun _=>none) H 40)).map (AL.eB (fun _=>none) (H.set v .dead) 40)=args.map (AL.eB (fun _=>none) H 40):=by
  conv=>rhs;rw[← aQ (args.map (AL.eB (fun _=>none) H 40))]
  exact ak fun d hd=>lQ (jF ff d hd)
 have vP:jP d=true∧ix (H.set v .dead).length d=d:=by
  cases d<;>first|(cases hd;done)|skip
  case tup ds=>
   simp only[AL.closed]at hd
   refine⟨?_,?_⟩
   ·simp only[jP,qv,ao]
    intro x hx
    have:=jF hd x hx
    cases x<;>first|rfl|exact this
   ·simp only[ix]
    congr 1
    conv=>rhs;rw[← aQ ds]
    refine ak fun x hx=>?_
    have:=jF hd x hx
    cases x<;>first|rfl|(cases this;done)
  case agg ds=>
   simp only[AL.closed]at hd
   refine⟨?_,?_⟩
   ·simp only[jP,qv,ao]
    intro x hx
    have:=jF hd x hx
    cases x<;>first|rfl|exact this
   ·simp only[ix]
    congr 1
    conv=>rhs;rw[← aQ ds]
    refine ak fun x hx=>?_
    have:=jF hd x hx
    cases x<;>first|rfl|(cases this;done)
  all_goals exact⟨hd,rfl⟩
 refine(M3 k1 RR (by rw[e2];exact gO) (by rw[if_pos ff];simp[vP.1])).mono ?_
 rintro e w' ⟨u,c2,he,m1,m2,m3⟩
 rw[av]at m1 m3
 rw[vP.2]at m2
 exact⟨u,c2,he,m1,m2,k2.trans m3 (by simp)⟩
end
end Go.AL
namespace Go.AL
open Go
def nk(o:Nat)(xs cs:List D):List D:=cs.take o++xs++cs.drop (o+xs.length)
theorem Ic{o:Nat}{xs cs:List D}(h:o+xs.length≤cs.length):(nk o xs cs).length=cs.length:=by simp[nk];omega
theorem zB{o:Nat}{xs cs:List D}(h:o+xs.length≤cs.length)(i:Nat):(nk o xs cs)[i]? = if o≤i∧i<o+xs.length then xs[i-o]? else cs[i]? := by
 unfold nk
 have hl:(cs.take o).length=o:=by simp;omega
 by_cases h1:i<o
 ·rw[ag (by simp;omega),ag (by omega),ay,if_pos h1,if_neg (by omega)]
 ·by_cases h2:i<o+xs.length
  ·rw[ag (by simp;omega),aj (by omega),hl,if_pos ⟨by omega,h2⟩]
  ·rw[aj (by simp;omega),aC,if_neg (by omega)]
   congr 1
   simp;omega
def rD(n:Nat):Dl→Option Nat
 | .no=>none
 | .cells v _ _=>some v
 | .obj v _=>some v
 | .new _=>some n
def Ij:Dl→Ob→Ob
 | .no,o=>o
 | .cells _ o xs,.row t g cs=>.row t g (nk o xs cs)
 | .cells _ _ _,o=>o
 | .obj _ ob,_=>ob
 | .new ob,_=>ob
abbrev iW(n:Nat)(δ:Dl)(H:U):U:=δ.app H (Al.hole H n)
theorem vc(n:Nat)(δ:Dl)(H:U)(x:Nat):(iW n δ H)[x]? = if rD n δ=some x then(H[x]?).map (Ij δ)else H[x]? := by
 have pk:∀ (v:Nat) (ob:Ob) (f:Ob→Ob),(∀ o,f o=ob)→(H.set v ob)[x]? = if some v=some x then(H[x]?).map f else H[x]? := by
  intro v ob f hf
  rw[bH]
  by_cases e:v=x
  ·subst e
   rw[if_pos rfl,if_pos rfl]
   split
   ·rename_i e7;simp[e7,hf]
   ·rename_i e7;rw[aK (by omega)];rfl
  ·rw[if_neg e,if_neg (by simpa using e)]
 cases δ with
 | no=>simp[iW,Dl.app,rD]
 | obj v ob=>exact pk v ob _ fun _=>rfl
 | new ob=>exact pk n ob _ fun _=>rfl
 | cells v o xs=>
  have ht:rD n (.cells v o xs)=some v:=rfl
  by_cases e:v=x
  ·subst e
   rw[if_pos ht]
   simp only[iW,Dl.app]
   split
   ·rename_i t g cs hv
    rw[bH,if_pos rfl,if_pos (af.1 hv).1,hv]
    rfl
   ·rename_i fF
    cases hx:H[v]? with
    | none=>rfl
    | some ob=>
     cases ob<;>first|rfl|skip
     exact absurd hx (fF _ _ _)
  ·rw[if_neg (by rw[ht];simpa using e)]
   simp only[iW,Dl.app]
   split
   ·rw[bH,if_neg e]
   ·rfl
def Fits(n:Nat)(δ:Dl)(H:U):Prop:=match δ with
 | .cells v o xs=>∃ t g cs,H[v]? = some (.row t g cs)∧o+xs.length≤cs.length
 | .new _=>H[n]? = some .hole
 | _=>True
theorem rP{a b:List Fp}(h:oG a b=true){x y:Fp}(hx:x∈a)(hy:y∈b):oF x y=true:=
 ao.1 (ao.1 h x hx) y hy
theorem Jl{n:Nat}{δ:Dl}{H:U}{fp:List Fp}(hf:Fits n δ H)(h:oG (gP n δ) fp=true):oD fp (iW n δ H) H:=by
 intro x hx
 obtain⟨u,r⟩:=x
 have fF:∀ v q,(v,q)∈gP n δ→rD n δ=some v:=by
  intro v q hm
  cases δ<;>simp only[gP,List.mem_singleton,cG]at hm<;>first|(cases hm;rfl)|cases hm
 have main:rD n δ≠some u→(iW n δ H)[u]? = H[u]? := fun hn=>by rw[vc,if_neg hn]
 by_cases ht:rD n δ=some u
 ·cases r with
  | none=>
   exfalso
   cases δ with
   | no=>cases ht
   | cells v o xs=>cases ht;have:=rP h (x:=(u,some (o,xs.length))) (by simp[gP]) hx;simp[oF]at this
   | obj v ob=>cases ht;have:=rP h (x:=(u,none)) (by simp[gP]) hx;simp[oF]at this
   | new ob=>cases ht;have:=rP h (x:=(n,none)) (by simp[gP]) hx;simp[oF]at this
  | some q=>
   obtain⟨p,m⟩:=q
   cases δ with
   | no=>cases ht
   | obj v ob=>cases ht;exfalso;have:=rP h (x:=(u,none)) (by simp[gP]) hx;simp[oF]at this
   | new ob=>cases ht;exfalso;have:=rP h (x:=(n,none)) (by simp[gP]) hx;simp[oF]at this
   | cells v o xs=>
    cases ht
    obtain⟨t,g,cs,h1,h2⟩:=hf
    have ha:=rP h (x:=(u,some (o,xs.length))) (by simp[gP]) hx
    simp only[oF,bne_self_eq_false,dw,bW,decide_eq_true_eq]at ha
    refine .inr ⟨t,g,nk o xs cs,cs,?_,h1,Ic h2,fun i hi1 iJ=>?_⟩
    ·simp[vc,rD,h1,Ij]
    ·rw[zB h2,if_neg (by omega)]
 ·have e:=main ht
  cases r with
  | none=>exact e
  | some q=>exact .inl e
theorem ZY{o p:Nat}{xs ys cs:List D}(h1:o+xs.length≤cs.length)(h2:p+ys.length≤cs.length)(h:o+xs.length≤p∨p+ys.length≤o) :
  nk o xs (nk p ys cs)=nk p ys (nk o xs cs):=by
 apply bI
 intro i
 rw[zB (by rw[Ic h2];exact h1),zB h2,zB (by rw[Ic h1];exact h2),zB h1]
 by_cases a:o≤i∧i<o+xs.length<;>by_cases b:p≤i∧i<p+ys.length
 ·omega
 ·rw[if_pos a,if_neg b,if_pos a]
 ·rw[if_neg a,if_pos b,if_pos b]
 ·rw[if_neg a,if_neg b,if_neg b,if_neg a]
theorem aai{n m:Nat}{δ ε:Dl}{H:U}(hf:Fits n δ H)(hg:Fits m ε H)(h:oG (gP n δ) (gP m ε)=true):iW m ε (iW n δ H)=iW n δ (iW m ε H):=by
 apply bI
 intro x
 rw[vc,vc,vc,vc]
 by_cases a:rD n δ=some x<;>by_cases b:rD m ε=some x
 ·rw[if_pos a,if_pos b,if_pos b,if_pos a]
  have bad:∀ {P:Prop},(∃ q r,(x,q)∈gP n δ∧(x,r)∈gP m ε∧(q=none∨r=none))→P:=by
   rintro P ⟨q,r,h1,h2,h3⟩
   have:=rP h h1 h2
   rcases h3 with rfl|rfl
   ·simp[oF]at this
   ·cases q<;>simp[oF]at this
  cases δ with
  | no=>cases a
  | obj v ob=>
   cases a
   cases ε with
   | no=>cases b
   | cells v o xs=>cases b;exact bad ⟨none,some (o,xs.length),by simp[gP],by simp[gP],.inl rfl⟩
   | obj v ob=>cases b;exact bad ⟨none,none,by simp[gP],by simp[gP],.inl rfl⟩
   | new ob=>cases b;exact bad ⟨none,none,by simp[gP],by simp[gP],.inl rfl⟩
  | new ob=>
   cases a
   cases ε with
   | no=>cases b
   | cells v o xs=>cases b;exact bad ⟨none,some (o,xs.length),by simp[gP],by simp[gP],.inl rfl⟩
   | obj v ob=>cases b;exact bad ⟨none,none,by simp[gP],by simp[gP],.inl rfl⟩
   | new ob=>cases b;exact bad ⟨none,none,by simp[gP],by simp[gP],.inl rfl⟩
  | cells v o xs=>
   cases a
   cases ε with
   | no=>cases b
   | obj v ob=>cases b;exact bad ⟨some (o,xs.length),none,by simp[gP],by simp[gP],.inr rfl⟩
   | new ob=>cases b;exact bad ⟨some (o,xs.length),none,by simp[gP],by simp[gP],.inr rfl⟩
   | cells v p ys=>
    cases b
    obtain⟨t,g,cs,h1,h2⟩:=hf
    obtain⟨t',g',kh,C4,FR⟩:=hg
    rw[h1]at C4
    cases C4
    have ha:=rP h (x:=(x,some (o,xs.length))) (y:=(x,some (p,ys.length))) (by simp[gP]) (by simp[gP])
    simp only[oF,bne_self_eq_false,dw,bW,decide_eq_true_eq]at ha
    simp only[h1,a8,Ij]
    rw[ZY h2 FR ha]
 ·rw[if_pos a,if_neg b,if_neg b,if_pos a]
 ·rw[if_neg a,if_pos b,if_neg a]
 ·rw[if_neg a,if_neg b,if_neg a]
structure Rc where
 R:List Fp
 W:List Fp
inductive Out where
 | norm (s:St)
 | exit (id:Nat) (s:St)
 | ret (s:St)
inductive s5 where
 | ops (l:List eV) (s:St)
 | code (c:IR) (s:St)
 | loop (n:Nat) (live:List Nat) (a:IR) (s:St)
 | call (f:FuncId) (args:List D) (H:U)
 | trace (l:List eV) (s:St)
inductive lD where
 | out (o:Out)
 | tr (rs:List Rc) (s:St)
 | val (d:D) (H:U)
def Out.stop:Out→Bool
 | .norm _=>false
 | _=>true
def pD(gJ:List (Nat×Nat))(rs:List Rc):Bool:=gJ.all fun p=>match rs[p.1]?,rs[p.2]? with
 | some a,some b=>oG a.W (b.R++b.W)&&oG b.W (a.R++a.W)
 | _,_=>false
def yieldOf(env:e9):fR→Option (Nat×List D)
 | .callv f args=>match ev env f with
  | .gv v=>some (v,args.map (ev env))
  | _=>none
 | _=>none
def Out.st:Out→St
 | .norm s=>s
 | .exit _ s=>s
 | .ret s=>s
def Out.sS:Out→nP
 | .norm _=>.ready
 | .exit id _=>.r9 id
 | .ret _=>.tm
def uF(s:St):nP→Option Out
 | .ready=>some (.norm s)
 | .busy=>none
 | .tm=>some (.ret s)
 | .r9 id=>some (.exit id s)
def kill:List Nat→U→Option U
 | [],H=>some H
 | v::vs,H=>match H[v]? with
  | some .jv=>kill vs (H.set v .dead)
  | _=>none
def finish(fn:ey)(own n:Nat):Out→Option (D×U)
 | .norm s | .ret s=>match kill s.marks s.H with
  | some H=>match results fn { s with H:=H }with
   | some d=>some (leave own n H d)
   | none=>none
  | none=>none
 | .exit _ _=>none
def jU(id n:Nat)(live:List Nat):Out→Out
 | .norm s=>.norm (cut n live s)
 | .exit sK s=>if sK=id then .norm (cut n live s)else .exit sK s
 | .ret s=>.ret s
inductive Ev(T:fE):s5→(lD→Prop)→Prop
 | mono {j R R'} (h:Ev T j R) (hi:∀ r,R r→R' r):Ev T j R'
 | nil {s R} (h:R (.out (.norm s))):Ev T (.ops [] s) R
 | op {e r s d δ R} (hg:guardOf s.env.get e.guard=some true) (h:eX s.env.get s.H s.H.length e.op=some (d,δ))
   (t:Ev T (.ops r { s with env:=put s.env e.dst d,H:=δ.app s.H (Al.last s.H) }) R):Ev T (.ops (e::r) s) R
 | uO {e r s d δ R} (hg:guardOf s.env.get e.guard=some true) (h:jR s.env.get s.H s.H.length e.op=some (d,δ))
   (t:Ev T (.ops r { s with env:=put s.env e.dst d,H:=δ.app s.H (Al.last s.H) }) R):Ev T (.ops (e::r) s) R
 | off {e r s R} (hg:guardOf s.env.get e.guard=some false) (t:Ev T (.ops r { s with env:=put s.env e.dst (.val undef) }) R):Ev T (.ops (e::r) s) R
 | jh {l s R} (S:List Nat) (hm:s.marks.all (fun v => !S.contains v)=true) (t:Ev T (.ops l (jh S s)) R):Ev T (.ops l s) R
 | xM {c s R} (S:List Nat) (hm:s.marks.all (fun v => !S.contains v)=true) (t:Ev T (.code c (jh S s)) R):Ev T (.code c s) R
 | FG {l s R} (live:List Nat) (t:Ev T (.ops l { s with env:=forget live s.env }) R):Ev T (.ops l s) R
 | CW {c s R} (live:List Nat) (t:Ev T (.code c { s with env:=forget live s.env }) R):Ev T (.code c s) R
 | xm {e r s f args fn R1 R} (hg:guardOf s.env.get e.guard=some true) (hc:im s.env.get e.op=some (f,args)) (hf:T.fn f=some fn) (hp:fn.full=false)
   (h:Ev T (.call f (args.map (eB (fun _=>none) s.H 40)) []) R1) (ha:∀ d Hn,R1 (.val d Hn)→(after s e.dst args d Hn).isSome=true)
   (t:∀ d Hn s',R1 (.val d Hn)→after s e.dst args d Hn=some s'→Ev T (.ops r s') R):Ev T (.ops (e::r) s) R
 | xl {e r s f args fn R1 R} (hg:guardOf s.env.get e.guard=some true) (hc:im s.env.get e.op=some (f,args)) (hf:T.fn f=some fn) (hp:fn.full=true)
   (h:Ev T (.call f args s.H) R1) (t:∀ d H',R1 (.val d H')→Ev T (.ops r { s with env:=put s.env e.dst d,H:=H' }) R):Ev T (.ops (e::r) s) R
 | Cj {e r s v args rf env0 Rd Ra Rb R} (hg:guardOf s.env.get e.guard=some true) (hc:yieldOf s.env.get e.op=some (v,args)) (hv:s.H[v]? = some (.fy rf env0 .ready)) (hR:T.round rf=some Rd) (hl:args.length=Rd.params.length)
   (ha:Ev T (.code Rd.a { env:=oz Rd.params args env0,H:=s.H,fM:=true }) Ra) (hn:∀ o,Ra (.out o)→o.stop=false∧∃ iS,o.st.H[v]? = some (.fy rf iS .ready))
   (hb:∀ s1 iS,Ra (.out (.norm s1))→s1.H[v]? = some (.fy rf iS .ready)→Ev T (.code Rd.b { s1 with H:=s1.H.set v (.fy rf iS .busy) }) Rb)
   (hm:∀ o,Rb (.out o)→∃ iH,o.st.H[v]? = some (.fy rf iH .busy))
   (t:∀ o iH,Rb (.out o)→o.st.H[v]? = some (.fy rf iH .busy)→Ev T (.ops r { s with env:=put s.env e.dst (.b !o.stop),H:=o.st.H.set v (.fy rf iH o.sS) }) R):Ev T (.ops (e::r) s) R
 | next {e r s x v m since seen kk es R} (hg:guardOf s.env.get e.guard=some true) (fG:e.op = .nextM x) (hx:ev s.env.get x = .ptr v 0 0) (hv:s.H[v]? = some (.jD (.omap m) since seen)) (hm:s.H[m]? = some (.map kk es)) (hs:es.length=since)
   (h0:(∀ i,i<es.length→i∈seen)→Ev T (.ops r { s with env:=put s.env e.dst (.tup [.b false]) }) R)
   (h1:∀ i k d,es[i]? = some (k,d)→i ∉ seen→Ev T (.ops r { s with env:=put s.env e.dst (.tup [.b true,.val k,d]),H:=s.H.set v (.jD (.omap m) since (seen ++ [i])) }) R):Ev T (.ops (e::r) s) R
 | zJ {s R} (h:R (.tr [] s)):Ev T (.trace [] s) R
 | zL {e r s d δ R1 R} (hg:guardOf s.env.get e.guard=some true) (h:eX s.env.get s.H s.H.length e.op=some (d,δ))
   (t:Ev T (.trace r { s with env:=put s.env e.dst d,H:=δ.app s.H (Al.last s.H) }) R1) (k:∀ rs s',R1 (.tr rs s')→R (.tr (⟨eY s.env.get s.H e.op,gP s.H.length δ⟩::rs) s')):Ev T (.trace (e::r) s) R
 | zK {e r s R1 R} (hg:guardOf s.env.get e.guard=some false) (t:Ev T (.trace r { s with env:=put s.env e.dst (.val undef) }) R1) (k:∀ rs s',R1 (.tr rs s')→R (.tr (⟨[],[]⟩::rs) s')):Ev T (.trace (e::r) s) R
 | zG {e r s f args fn d R0 R1 R} (hg:guardOf s.env.get e.guard=some true) (hc:im s.env.get e.op=some (f,args)) (hf:T.fn f=some fn) (hp:fn.full=false)
   (h:Ev T (.call f (args.map (eB (fun _=>none) s.H 40)) []) R0) (h0:∀ d' Hn,R0 (.val d' Hn)→d'=d∧Hn = []) (hr:(if eT args then closed d else flat d)=true)
   (t:Ev T (.trace r { s with env:=put s.env e.dst d }) R1) (k:∀ rs s',R1 (.tr rs s')→R (.tr (⟨eY s.env.get s.H e.op,[]⟩::rs) s')):Ev T (.trace (e::r) s) R
 | zH {e r s f as args fn d ob R0 R1 R} (hg:guardOf s.env.get e.guard=some true) (fG:e.op = .callN f as) (ha:args=as.map (ev s.env.get)) (hf:T.fn f=some fn) (hp:fn.full=false)
   (h:Ev T (.call f (args.map (eB (fun _=>none) s.H 40)) []) R0) (h0:∀ d' Hn,R0 (.val d' Hn)→d'=d∧Hn = [ob]) (hr:(if eT args then jP d&&kO ob else lN d&&lT ob)=true)
   (t:Ev T (.trace r { s with env:=put s.env e.dst (ix s.H.length d),H:=s.H ++ [ob] }) R1) (k:∀ rs s',R1 (.tr rs s')→R (.tr (⟨eY s.env.get s.H e.op,[(s.H.length,none)]⟩::rs) s')):Ev T (.trace (e::r) s) R
 | zI {e r s f as args fn d v R0 R1 R} (hg:guardOf s.env.get e.guard=some true) (fG:e.op = .callN f as) (ha:args=as.map (ev s.env.get)) (hf:T.fn f=some fn) (hp:fn.full=false)
   (hS:∀ u∈(args.map (fw s.H 40)).flatten,u=v) (hv:v∈(args.map (fw s.H 40)).flatten) (fu:(rowsOf s.H v).isSome=true) (ff:eT (args.map (eB (fun _=>none) s.H 40))=true)
   (h:Ev T (.call f (args.map (eB (fun _=>none) s.H 40)) []) R0) (h0:∀ d' Hn,R0 (.val d' Hn)→d'=d∧Hn = []) (hr:closed d=true)
   (t:Ev T (.trace r { s with env:=put s.env e.dst d,H:=s.H.set v .dead }) R1) (k:∀ rs s',R1 (.tr rs s')→R (.tr (⟨eY s.env.get s.H e.op,[(v,none)]⟩::rs) s')):Ev T (.trace (e::r) s) R
 | draw {gJ l s R1 R} (t:Ev T (.trace l s) R1) (hp:∀ rs s',R1 (.tr rs s')→pD gJ rs=true∧R (.out (.norm s'))):Ev T (.code (.draw gJ l) s) R
 | jG {gJ l es s R1 R} (t:Ev T (.trace l s) R1) (hp:∀ rs s',R1 (.tr rs s')→pD gJ rs=true) (k:∀ rs s',R1 (.tr rs s')→Ev T (.ops es s') R):Ev T (.code (.jG gJ l es) s) R
 | skip {s R} (h:R (.out (.norm s))):Ev T (.code .skip s) R
 | xA {l s R} (h:Ev T (.ops l s) R):Ev T (.code (.ops l) s) R
 | seq {a b s R1 R} (h:Ev T (.code a s) R1) (k:∀ s',R1 (.out (.norm s'))→Ev T (.code b s') R) (hs:∀ o,R1 (.out o)→o.stop=true→R (.out o)):Ev T (.code (.seq a b) s) R
 | cond {c a b s x R} (hc:ev s.env.get c = .val (.bool x)) (h:Ev T (.code (if x then a else b) s) R):Ev T (.code (.cond c a b) s) R
 | block {id live a s R1 R} (h:Ev T (.code a s) R1) (k:∀ o,R1 (.out o)→R (.out (jU id s.H.length live o))):Ev T (.code (.block id live a) s) R
 | loop {live a s R} (h:Ev T (.loop s.H.length live a { s with env:=forget live s.env }) R):Ev T (.code (.loop live a) s) R
 | sL {n live a s R1 R} (h:Ev T (.code a s) R1) (k:∀ s',R1 (.out (.norm s'))→Ev T (.loop n live a (cut n live s')) R) (hs:∀ o,R1 (.out o)→o.stop=true→R (.out o)):Ev T (.loop n live a s) R
 | jQ {rf live x s f first cap fn R1 R} (hr:s.fM=false) (hx:ev s.env.get x = .fn (.func f) first cap) (hf:T.fn f=some fn) (hp:fn.full=true)
   (h:Ev T (.call f (first ++ [.gv (s.H.length+1)]++cap) (s.H ++ [.jv,.fy rf (forget live s.env) .ready])) R1)
   (k:∀ d H',R1 (.val d H')→∃ env st o,H'[s.H.length+1]? = some (.fy rf env st)∧uF { s with H:=H'.set (s.H.length+1) .dead,marks:=s.H.length::s.marks } st=some o∧R (.out o)):Ev T (.code (.jQ rf live x) s) R
 | exit {id s R} (h:R (.out (.exit id s))):Ev T (.code (.exit id) s) R
 | ret {s R} (h:R (.out (.ret s))):Ev T (.code .ret s) R
 | call {f args H fn R1 R} (own:Nat) (hf:T.fn f=some fn) (hl:args.length≤fn.ntmps) (h:Ev T (.code fn.body { env:=om args,H:=H }) R1)
   (k:∀ o,R1 (.out o)→∃ d H',finish fn own H.length o=some (d,H')∧R (.val d H')):Ev T (.call f args H) R
 | sort {f g fn sz v gen t H R} {α:Type} (fc:α→List D) (l:List α) (cf:α→α→Int) (hs:T.sort f=some sz) (hg:T.fn g=some fn) (hl:∀ a∈l,(fc a).length=sz) (ff:∀ a∈l,eT (fc a)=true) (h0:0<l.length) (sk:l.length<4611686018427387904)
   (vV:∀ x∈l,¬ cf x x<0) (tr:∀ x∈l,∀ y∈l,∀ z∈l,cf x y<0→cf y z<0→cf x z<0) (nt:∀ x∈l,∀ y∈l,∀ z∈l,¬ cf x y<0→¬ cf y z<0→¬ cf x z<0)
   (hc:∀ x∈l,∀ y∈l,Ev T (.call g [.agg (fc x),.agg (fc y)] []) (fun r=>∃ H',r = .val (.i (cf x y)) H')) (hv:H[v]? = some (.row t gen (l.map fc).flatten))
   (k:∀ l':List α,l'.Perm l→l'.Pairwise (fun x y=>¬ cf y x<0)→R (.val (.tup []) (H.set v (.row t gen (l'.map fc).flatten)))):Ev T (.call f [.et v gen sz 0 l.length,.fn (.func g) [] []] H) R
 | wB {f sz x H R} (hs:T.sort f=some sz) (k:R (.val (.tup []) H)):Ev T (.call f [.emp,x] H) R
 | oC {f v gen t H R} (l:List Int) (hs:T.oC f=true) (h0:0<l.length) (sk:l.length<4611686018427387904) (hv:H[v]? = some (.row t gen (l.map fun n=>D.i n)))
   (k:R (.val (.tup []) (H.set v (.row t gen ((l.mergeSort fun x y=>decide (x≤y)).map fun n=>D.i n))))):Ev T (.call f [.et v gen 1 0 l.length] H) R
end Go.AL
namespace Go.AL
open Go
def jE(f:e9):Option Nat→D→e9
 | some k,d=>fun t=>if k=t then d else f t
 | none,_=>f
theorem ze(env:Env)(dst:Option Nat)(d:D):(put env dst d).get=jE env.get dst d:=by
 cases dst with
 | none=>rfl
 | some k=>funext t;simp[put,Env.p9,jE]
def FP:Option (Nat×Bool)→List Nat
 | some (t,_)=>[t]
 | none=>[]
def looks(e:eV):List Nat:=ft e.op++FP e.guard
inductive Ef(C:FuncId→List D→D→U→Prop)(f:e9)(H:U)(e:eV)(n:Nat):Rc→D→Dl→Prop
 | op {d δ} (hg:guardOf f e.guard=some true) (h:eX f H n e.op=some (d,δ)) (hf:Fits n δ H):Ef C f H e n ⟨eY f H e.op,gP n δ⟩ d δ
 | off (hg:guardOf f e.guard=some false):Ef C f H e n ⟨[],[]⟩ (.val undef) .no
 | call {g args d} (hg:guardOf f e.guard=some true) (hc:im f e.op=some (g,args))
   (h:C g (args.map (eB (fun _=>none) H 40)) d []) (hr:(if eT args then closed d else flat d)=true):Ef C f H e n ⟨eY f H e.op,[]⟩ d .no
 | callN {g as args d ob} (hg:guardOf f e.guard=some true) (fG:e.op = .callN g as) (ha:args=as.map (ev f))
   (h:C g (args.map (eB (fun _=>none) H 40)) d [ob]) (hr:(if eT args then jP d&&kO ob else lN d&&lT ob)=true) (hf:Fits n (.new ob) H):Ef C f H e n ⟨eY f H e.op,gP n (.new ob)⟩ (ix n d) (.new ob)
 | tg {g as args d v} (hg:guardOf f e.guard=some true) (fG:e.op = .callN g as) (ha:args=as.map (ev f)) (hS:∀ u∈(args.map (fw H 40)).flatten,u=v) (hv:v∈(args.map (fw H 40)).flatten) (fu:(rowsOf H v).isSome=true)
   (h:C g (args.map (eB (fun _=>none) H 40)) d []) (ff:eT (args.map (eB (fun _=>none) H 40))=true) (hr:closed d=true):Ef C f H e n ⟨eY f H e.op,[(v,none)]⟩ d (.obj v .dead)
theorem guard_congr{f f':e9}{g:Option (Nat×Bool)}(h:∀ t∈FP g,f t=f' t):guardOf f g=guardOf f' g:=by
 cases g with
 | none=>rfl
 | some p=>simp only[guardOf,h p.1 (by simp[FP])]
theorem N3{x:Fp}{H1 H2:U}(h:Alike x H1 H2):Alike x H2 H1:=by
 obtain⟨v,r⟩:=x
 cases r with
 | none=>exact h.symm
 | some q=>
  rcases h with h|⟨t,g,cs,ds,h1,h2,h3,h4⟩
  ·exact .inl h.symm
  ·exact .inr ⟨t,g,ds,cs,h2,h1,h3.symm,fun i a b=>(h4 i a b).symm⟩
theorem Kp{n:Nat}{δ:Dl}{H H':U}(h:oD (gP n δ) H H')(hf:Fits n δ H):Fits n δ H':=by
 cases δ with
 | no=>trivial
 | obj v ob=>trivial
 | new ob=>
  have e:H[n]? = H'[n]? := h (n,none) (by simp[gP])
  show H'[n]? = some .hole
  rw[← e];exact hf
 | cells v o xs=>
  obtain⟨t,g,cs,h1,h2⟩:=hf
  rcases h (v,some (o,xs.length)) (by simp[gP])with h|⟨t',g',kh,ds,h3,h4,h5,h6⟩
  ·exact⟨t,g,cs,h▸h1,h2⟩
  ·rw[h1]at h3;cases h3
   exact⟨t,g,ds,h4,by omega⟩
theorem Ee{H H':U}{v:Nat}(h:Alike (v,none) H H'):rowsOf H v=rowsOf H' v:=by
 have e:H[v]? = H'[v]? := h
 simp only[rowsOf,e]
theorem E4{f:e9}{H:U}{op:fR}{g:FuncId}{args:List D}(hc:im f op=some (g,args)){H':U}(h:oD (eY f H op) H H') :
  eY f H' op=eY f H op∧args.map (eB (fun _=>none) H' 40)=args.map (eB (fun _=>none) H 40):=by
 have key:∀ args:List D,(∀ v∈(args.map (fw H 40)).flatten,rowsOf H v=rowsOf H' v)→args.map (fw H' 40)=args.map (fw H 40)∧args.map (eB (fun _=>none) H' 40)=args.map (eB (fun _=>none) H 40):=by
  intro args ha
  have h1:∀ d∈args,∀ v∈fw H 40 d,rowsOf H v=rowsOf H' v:=fun d hd v hv=>ha v (aM.2 ⟨_,aw.2 ⟨d,hd,rfl⟩,hv⟩)
  exact⟨ak fun d hd=>(zk 40 d (h1 d hd)).1,ak fun d hd=>(zk 40 d (h1 d hd)).2⟩
 cases op<;>first|(cases hc;done)|skip
 case call k as=>
  cases hc
  obtain⟨a,b⟩:=key (as.map (ev f)) fun v hv=>Ee (h (v,none) (aw.2 ⟨v,hv,rfl⟩))
  exact⟨by simp only[eY,a],b⟩
 case callN k as=>
  cases hc
  obtain⟨a,b⟩:=key (as.map (ev f)) fun v hv=>Ee (h (v,none) (aw.2 ⟨v,hv,rfl⟩))
  exact⟨by simp only[eY,a],b⟩
 case callv k as=>
  simp only[eY,hc]at h ⊢
  obtain⟨a,b⟩:=key args fun v hv=>Ee (h (v,none) (aw.2 ⟨v,hv,rfl⟩))
  exact⟨by rw[a],b⟩
theorem P8{f:e9}{H H':U}{op:fR}(hn:im f op=none):eY f H' op=eY f H op:=by
 cases op<;>first|rfl|(cases hn;done)|skip
 case callv=>simp only[eY,hn]
 case len k x=>cases k<;>rfl
theorem Oz{f:e9}{H:U}{n:Nat}{op:fR}{r:D×Dl}(h:eX f H n op=some r):im f op=none:=by
 cases op<;>first|rfl|cases h
variable{C:FuncId→List D→D→U→Prop}
theorem Ef.local{f f':e9}{H H':U}{e:eV}{n:Nat}{rc:Rc}{d:D}{δ:Dl}(h:Ef C f H e n rc d δ)(hf:∀ t∈looks e,f t=f' t)(hH:oD (rc.R++rc.W) H H'):Ef C f' H' e n rc d δ:=by
 have h1:∀ t∈ft e.op,f t=f' t:=fun t ht=>hf t (aS _ ht)
 have h2:guardOf f e.guard=guardOf f' e.guard:=guard_congr fun t ht=>hf t (br _ ht)
 cases h with
 | op hg ho jL=>
  have e1:eY f H e.op=eY f' H' e.op:=by rw[CX h1,P8 (Oz (by rw[← Js h1];exact ho))]
  rw[e1]
  refine .op (h2▸hg) ?_ (Kp hH.right jL)
  rw[← Js h1,← N4 (H1:=H) hH.left]
  exact ho
 | off hg=>exact .off (h2▸hg)
 | call hg hc mf hr=>
  obtain⟨a,b⟩:=E4 hc hH.left
  have e1:eY f H e.op=eY f' H' e.op:=by rw[← a,CX h1]
  rw[e1]
  exact .call (h2▸hg) (by rw[← Cl h1];exact hc) (by rw[b];exact mf) hr
 | @callN g as args _ _ hg fG ha mf hr jL=>
  have hc:im f e.op=some (g,args):=by rw[fG,ha];rfl
  obtain⟨a,b⟩:=E4 hc hH.left
  have e1:eY f H e.op=eY f' H' e.op:=by rw[← a,CX h1]
  rw[e1]
  have mE:im f' e.op=some (g,args):=by rw[← Cl h1];exact hc
  have nG:args=as.map (ev f'):=by
   rw[fG]at mE
   cases mE;rfl
  exact .callN (h2▸hg) fG nG (by rw[b];exact mf) hr (Kp hH.right jL)
 | @tg g as args _ v hg fG ha hS hv fu mf ff hr=>
  have hc:im f e.op=some (g,args):=by rw[fG,ha];rfl
  obtain⟨a,b⟩:=E4 hc hH.left
  have e1:eY f H e.op=eY f' H' e.op:=by rw[← a,CX h1]
  rw[e1]
  have mE:im f' e.op=some (g,args):=by rw[← Cl h1];exact hc
  have nG:args=as.map (ev f'):=by
   rw[fG]at mE
   cases mE;rfl
  have n4:(args.map (fw H' 40)).flatten=(args.map (fw H 40)).flatten:=by
   have a2:=a
   rw[fG]at a2
   simp only[eY,← ha]at a2
   exact(List.map_inj_right (fun x y h=>(Prod.mk.inj h).1)).1 a2
  have RV:rowsOf H v=rowsOf H' v:=Ee (hH.right (v,none) (by simp))
  exact .tg (h2▸hg) fG nG (by rw[n4];exact hS) (by rw[n4];exact hv) (by rw[← RV];exact fu) (by rw[b];exact mf) (by rw[b];exact ff) hr
theorem Ef.fits{f:e9}{H:U}{e:eV}{n:Nat}{rc:Rc}{d:D}{δ:Dl}(h:Ef C f H e n rc d δ):Fits n δ H∧rc.W=gP n δ:=by
 cases h with
 | op _ _ hf=>exact⟨hf,rfl⟩
 | off=>exact⟨trivial,rfl⟩
 | call=>exact⟨trivial,rfl⟩
 | callN _ _ _ _ _ hf=>exact⟨hf,rfl⟩
 | tg=>exact⟨trivial,rfl⟩
def rC(a b:eV):Bool:=
 (match a.dst with|some k => !(looks b).contains k&&b.dst != some k|none=>true)&&(match b.dst with|some k => !(looks a).contains k|none=>true)
def pF(a b:Rc):Bool:=oG a.W (b.R++b.W)&&oG b.W (a.R++a.W)
theorem NS{f:e9}{dst:Option Nat}{d:D}{l:List Nat}(h:∀ k,dst=some k→k ∉ l):∀ t∈l,jE f dst d t=f t:=by
 intro t ht
 cases dst with
 | none=>rfl
 | some k=>
  simp only[jE]
  rw[if_neg]
  rintro rfl
  exact h _ rfl ht
theorem Z8{f:e9}{a b:Option Nat}{x y:D}(h:∀ k,a=some k→b≠some k):jE (jE f a x) b y=jE (jE f b y) a x:=by
 cases a with
 | none=>rfl
 | some k=>
  cases b with
  | none=>rfl
  | some j=>
   have fF:j≠k:=fun e=>h k rfl (by rw[e])
   funext t
   simp only[jE]
   by_cases h1:j=t<;>by_cases h2:k=t<;>simp[h1,h2]
   exact absurd (h1.trans h2.symm) fF
theorem ZH{a b:eV}(h:rC a b=true):(∀ k,a.dst=some k→k ∉ looks b)∧(∀ k,b.dst=some k→k ∉ looks a)∧(∀ k,a.dst=some k→b.dst≠some k):=by
 unfold rC at h
 simp only[ah]at h
 refine⟨fun k hk=>?_,fun k hk=>?_,fun k hk=>?_⟩
 ·have:=h.1
  rw[hk]at this
  simp at this
  exact this.1
 ·have:=h.2
  rw[hk]at this
  simpa using this
 ·have:=h.1
  rw[hk]at this
  simp at this
  exact this.2
theorem swap{f:e9}{H:U}{a b:eV}{n m:Nat}{ra rb:Rc}{x y:D}{δ ε:Dl}(ha:Ef C f H a n ra x δ)(hb:Ef C (jE f a.dst x) (iW n δ H) b m rb y ε)
  (hs:rC a b=true) (hr:pF ra rb=true) :
  Ef C f H b m rb y ε∧Ef C (jE f b.dst y) (iW m ε H) a n ra x δ∧jE (jE f a.dst x) b.dst y=jE (jE f b.dst y) a.dst x∧iW m ε (iW n δ H)=iW n δ (iW m ε H):=by
 obtain⟨s1,s2,s3⟩:=ZH hs
 simp only[pF,ah]at hr
 obtain⟨fa,wa⟩:=ha.fits
 have nY:Ef C f H b m rb y ε:=hb.local (NS s1) (Jl fa (by rw[← wa];exact hr.1))
 obtain⟨fb,wb⟩:=nY.fits
 refine⟨nY,ha.local (fun t ht=>(NS s2 t ht).symm) fun z hz=>N3 (Jl fb (by rw[← wb];exact hr.2) z hz),Z8 s3,aai fa fb ?_⟩
 rw[← wa,← wb]
 simp only[oG,ao]at hr ⊢
 exact fun u hu z hz=>hr.1 u hu z (br _ hz)
theorem G8{o:Option D}{d:D}{δ:Dl}(h:lift o=some (d,δ)):δ = .no:=by
 cases o<;>simp[lift]at h
 exact h.2.symm
theorem HE{f:e9}{H:U}{e:eV}{n:Nat}{rc:Rc}{d:D}{δ:Dl}(h:Ef C f H e n rc d δ)(hp:zc e.op=true):rc.R = []∧rc.W = []:=by
 cases h with
 | op hg ho hf=>
  cases fG:e.op<;>rw[fG]at ho hp<;>simp only[eX]at ho<;>first|(cases hp;done)|skip
  case len k x=>
   have:=G8 ho
   subst this
   cases k<;>first|(cases hp;done)|exact⟨rfl,rfl⟩
  all_goals
   have:=G8 ho
   subst this
   exact⟨rfl,rfl⟩
 | off hg=>exact⟨rfl,rfl⟩
 | call hg hc h hr=>cases fG:e.op<;>rw[fG]at hc hp<;>first|(cases hp;done)|(cases hc;done)
 | callN _ fG=>rw[fG]at hp;cases hp
 | tg _ fG=>rw[fG]at hp;cases hp
theorem M7{f:e9}{H:U}{e:eV}{n:Nat}{rc:Rc}{d:D}{δ:Dl}(h:Ef C f H e n rc d δ)(hp:HJ e.op=true):rc.W = []:=by
 by_cases hq:zc e.op=true
 ·exact(HE h hq).2
 ·cases h with
  | op hg ho hf=>
   cases fG:e.op<;>rw[fG]at ho hp hq<;>simp only[eX]at ho<;>first|(cases hp;done)|(exact absurd rfl hq)|skip
   case call=>cases ho
   case callv=>cases ho
   all_goals
    have:=G8 ho
    subst this
    rfl
  | off hg=>rfl
  | call=>rfl
  | callN _ fG=>rw[fG]at hp;cases hp
  | tg _ fG=>rw[fG]at hp;cases hp
theorem NJ{f f':e9}{H H':U}{a b:eV}{n m:Nat}{ra rb:Rc}{x y:D}{δ ε:Dl}(ha:Ef C f H a n ra x δ)(hb:Ef C f' H' b m rb y ε)(h:EB a.op b.op=true):pF ra rb=true:=by
 simp only[EB,bW,ah]at h
 rcases h with(h|h)|⟨h1,h2⟩
 ·obtain⟨e1,e2⟩:=HE ha h
  simp[pF,e1,e2,oG]
 ·obtain⟨e1,e2⟩:=HE hb h
  simp[pF,e1,e2,oG]
 ·simp[pF,M7 ha h1,M7 hb h2,oG]
structure jT where
 k:Nat
 e:eV
 n:Nat
 rc:Rc
inductive Tx(C:FuncId→List D→D→U→Prop):e9→U→List jT→e9→U→Prop
 | nil {f H}:Tx C f H [] f H
 | cons {f H it r d δ f' H'} (h:Ef C f H it.e it.n it.rc d δ) (t:Tx C (jE f it.e.dst d) (iW it.n δ H) r f' H'):Tx C f H (it::r) f' H'
theorem Tx.each{f:e9}{H:U}{l:List jT}{f':e9}{H':U}(h:Tx C f H l f' H'):∀ it∈l,∃ f H d δ,Ef C f H it.e it.n it.rc d δ:=by
 induction h with
 | nil=>intro it gX;cases gX
 | cons h t ih=>
  intro it gX
  rcases ax.1 gX with rfl|gX
  ·exact⟨_,_,_,_,h⟩
  ·exact ih it gX
theorem Tx.front{it:jT}{post:List jT}{f':e9}{H':U}:∀ {pre:List jT} {f:e9} {H:U},Tx C f H (pre++it::post) f' H'→(∀ p∈pre,rC p.e it.e=true∧pF p.rc it.rc=true) →
  ∃ d δ,Ef C f H it.e it.n it.rc d δ∧Tx C (jE f it.e.dst d) (iW it.n δ H) (pre++post) f' H'
 | [],f,H,h,_=>by
  cases h with
  | cons h t=>exact⟨_,_,h,t⟩
 | p::pre,f,H,h,ha=>by
  cases h with
  | @cons _ _ _ _ d δ _ _ h t=>
   obtain⟨y,ε,hy,ht⟩:=Tx.front (pre:=pre) t fun q hq=>ha q (by simp[hq])
   obtain⟨s1,s2,s3,s4⟩:=swap h hy (ha p (by simp)).1 (ha p (by simp)).2
   refine⟨y,ε,s1,.cons s2 ?_⟩
   rw[← s3,← s4]
   exact ht
end Go.AL
namespace Go.AL
open Go
structure SX(G:GT)(N:Nat)(c:Ctx)(w:World)(f:e9)(H:U)(ms:List Nat)(a:Act):Prop where
 eA:eN G c H w
 env:iP c w f a
 size:N≤a.tmps.size
 marks:kf c ms a.defers
section
variable{P:Program}{G:GT}{c:Ctx}{w:World}{f:e9}{H:U}{ms:List Nat}{a:Act}{N:Nat}
theorem YO{f:e9}{a:Act}{c:Ctx}{w:World}(he:iP c w f a)(hN:N≤a.tmps.size){dst:Option Tmp}(hd:nR N dst=true){v:Value}{d:D}(hr:eu c w v d) :
  iP c w (jE f dst d) (a.put dst v):=by
 cases dst with
 | none=>exact he
 | some t=>
  have ht:t<a.tmps.size:=aH (by simpa[nR]using hd) hN
  intro k
  simp only[jE,Act.put]
  split
  ·rename_i e
   subst e
   have:(a.tmps.setIfInBounds t v).getD t undef=v:=by simp[Array.getD,ht]
   rw[this];exact hr
  ·rename_i e
   have:(a.tmps.setIfInBounds t v).getD k undef=a.tmps.getD k undef:=by
    simp only[bE,bt e]
   rw[this];exact he k
theorem SX.next{c':Ctx}{w':World}{H':U}(hs:SX G N c w f H ms a)(eA:eN G c' H' w')(eH:Step H.length c H w c' H' w'){dst:Option Tmp}(hd:nR N dst=true)
  {v:Value} {d:D} (hr:eu c' w' v d):SX G N c' w' (jE f dst d) H' ms (a.put dst v) where
 eA:=eA
 env:=YO (iP.carry (fun _ _ h=>h.mr hs.eA.toHeapOK eH) hs.env) hs.size hd hr
 size:=by rw[M4];exact hs.size
 marks:=by
  rw[put_defers]
  refine hs.marks.mono fun v L h=>eH.old v 0 L ?_ h
  rcases aW v H.length with h'|h'
  ·exact h'
  ·rw[hs.eA.out v 0 h']at h;cases h
theorem N5{op:fR}{n n':Nat}{d:D}{δ:Dl}(h:eX f H n op=some (d,δ))(hn:∀ ob,δ≠.new ob):eX f H n' op=some (d,δ):=by
 cases op<;>simp only[eX]at h ⊢ <;> first|exact h|skip
 case box=>
  unfold mT at h
  split at h
  ·cases h;exact absurd rfl (hn _)
  ·cases h
 case alloc=>cases h;exact absurd rfl (hn _)
 case buildSl=>
  unfold rS at h
  split at h
  ·split at h
   ·cases h;exact absurd rfl (hn _)
   ·cases h
  ·cases h
 case mkmap=>cases h;exact absurd rfl (hn _)
 case mksl=>
  unfold vZ at h
  split at h
  ·split at h
   ·cases h;exact absurd rfl (hn _)
   ·cases h
  ·cases h
 case app=>
  unfold o4 at h ⊢
  split at h
  ·split at h
   ·exact h
   ·rename_i m _ _ _
    by_cases hm:m=0
    ·rw[if_pos hm]at h ⊢;exact h
    ·rw[if_neg hm]at h
     split at h
     ·cases h;exact absurd rfl (hn _)
     ·cases h
   ·cases h
  ·cases h
theorem Ct{d:D}(h:closed d=true):jP d=true∧ix H.length d=d:=by
 cases d<;>first|(cases h;done)|skip
 case tup ds=>
  have hc:=jF h
  refine⟨?_,?_⟩
  ·simp only[jP,qv,ao]
   intro d hd
   have:=hc d hd
   cases d<;>first|rfl|exact this
  ·simp only[ix]
   congr 1
   conv=>rhs;rw[← aQ ds]
   refine ak fun d hd=>?_
   have:=hc d hd
   cases d<;>first|(cases this;done)|rfl
 case agg ds=>
  have hc:=jF h
  refine⟨?_,?_⟩
  ·simp only[jP,qv,ao]
   intro d hd
   have:=hc d hd
   cases d<;>first|rfl|exact this
  ·simp only[ix]
   congr 1
   conv=>rhs;rw[← aQ ds]
   refine ak fun d hd=>?_
   have:=hc d hd
   cases d<;>first|(cases this;done)|rfl
 all_goals exact⟨h,rfl⟩
theorem Ks{d:D}(h:flat d=true):lN d=true∧ix H.length d=d:=by
 cases d<;>first|(cases h;done)|skip
 case tup ds=>
  have hc:∀ d∈ds,flat d=true:=fun d hd=>by
   obtain⟨i,hi⟩:=aD.1 hd
   exact vr h hi
  refine⟨?_,?_⟩
  ·simp only[lN,qv,ao]
   intro d hd
   have:=hc d hd
   cases d<;>first|rfl|exact this
  ·simp only[ix]
   congr 1
   conv=>rhs;rw[← aQ ds]
   refine ak fun d hd=>?_
   have:=hc d hd
   cases d<;>first|(cases this;done)|rfl
 case agg ds=>
  have hc:∀ d∈ds,flat d=true:=fun d hd=>by
   obtain⟨i,hi⟩:=aD.1 hd
   exact vr h hi
  refine⟨?_,?_⟩
  ·simp only[lN,qv,ao]
   intro d hd
   have:=hc d hd
   cases d<;>first|rfl|exact this
  ·simp only[ix]
   congr 1
   conv=>rhs;rw[← aQ ds]
   refine ak fun d hd=>?_
   have:=hc d hd
   cases d<;>first|(cases this;done)|rfl
 all_goals exact⟨h,rfl⟩
variable{C:FuncId→List D→D→U→Prop}
theorem J7(hC:∀ g args d Hn,C g args d Hn→nB P g=true∧rF P G g args [] d Hn)(hs:SX G N c w f H ms a){A:Array Oper}{o:Oper}{e:eV}{i:Nat}(hA:A[i]? = some o)
  (ho:pY P G N A o=some e) {n:Nat} {rc:Rc} {d:D} {δ:Dl} (hE:Ef C f H e n rc d δ) {ro:Option Nat} {m:Nat} {Q:Exit→Act→World→Prop} {K:Act→World→Prop}
  (k:∀ c' w' a',SX G N c' w' (jE f e.dst d) (iW n δ H) ms a'→Step H.length c H w c' (iW n δ H) w'→K a' w'):wpOpIn (FW ro) m P A Q i K a w:=by
 obtain⟨s1,s2,s3,s4⟩:=r8 ho
 unfold wpOpIn
 simp only[hA]
 cases hE with
 | op hg h jL=>
  have hw:=oZ hs.env s4 hg
  have s1:=JS s1 h
  simp only[hw,if_true]
  have main:∀ {al:Al},jS H al→eX f H al.1 e.op=some (d,δ)→δ.app H al=iW n δ H→o.wpIn (FW ro) m P a w K Q:=by
   intro al fr h Sz
   obtain⟨v,w',hy,d',H',c',⟨rfl,rfl⟩,eA,hr,eH⟩:=M0 (P:=P) (K:=fun d' H'=>d'=d∧H'=δ.app H al) hs.eA hs.env fr s1 (Jt h ⟨rfl,rfl⟩)
   refine⟨fun _ _=>trivial,?_⟩
   rw[Oper.semAt_plain (FW ro) a.eval o (uA s1)]
   rw[Sz]at eA eH
   have hx:=hs.next eA eH s3 hr
   rw[← s2]at hx
   have hn:=k c' w' _ hx eH
   rw[s2]at hn
   rcases hy with hy|⟨hy,rfl⟩
   ·rw[hy];exact hn
   ·rw[hy];exact hn
  by_cases jM:∃ ob,δ = .new ob
  ·obtain⟨ob,rfl⟩:=jM
   exact main (al:=Al.hole H n) (jS.hole jL) h rfl
  ·have n5:∀ ob,δ≠.new ob:=fun ob e=>jM ⟨ob,e⟩
   refine main (al:=Al.last H) (jS.last H) (N5 h n5) ?_
   cases δ<;>first|rfl|exact absurd rfl (n5 _)
 | off hg=>
  have hw:=oZ hs.env s4 hg
  simp only[hw,bw,if_false]
  refine⟨fun _ _=>trivial,?_⟩
  have hx:=hs.next hs.eA (Step.refl _ _ _ _) s3 (v:=undef) (d:=.val undef) (.val _)
  rw[← s2]at hx
  have:=k c w _ hx (Step.refl _ _ _ _)
  rw[s2]at this
  exact this
 | @call g args d hg hc h hr=>
  have hw:=oZ hs.env s4 hg
  have s1:=xw s1 hc
  simp only[hw,if_true]
  obtain⟨ji,gO⟩:=hC _ _ _ _ h
  obtain⟨vs,gf,gw⟩:=Ei hs.eA hs.env s1 hc ji
  have gG:(if eT args then jP d&&([]:U).all kO else lN d&&([]:U).all lT)=true∧ix H.length d=d:=by
   by_cases ff:eT args=true
   ·rw[if_pos ff]at hr ⊢
    obtain⟨a,b⟩:=Ct (H:=H) hr
    exact⟨by simp[a],b⟩
   ·rw[if_neg ff]at hr ⊢
    obtain⟨a,b⟩:=Ks (H:=H) hr
    exact⟨by simp[a],b⟩
  have hp:=M3 hs.eA gw gO gG.1
  rw[gG.2,av]at hp
  refine⟨fun _ _=>trivial,?_⟩
  rw[Oper.semAt_plain (FW ro) a.eval o (uA s1),gf]
  refine⟨fun h=>by simp[Fence.wide]at h,xn.2 (hp.mono ?_)⟩
  rintro e' w' ⟨v,c',rfl,eA,ja,eH⟩
  have hx:=hs.next eA eH s3 ja
  rw[← s2]at hx
  have:=k c' w' _ hx eH
  rw[s2]at this
  exact this
 | @callN g as args d ob hg fG ha h hr jL=>
  have hw:=oZ hs.env s4 hg
  simp only[hw,if_true]
  have hc:im f e.op=some (g,args):=by rw[fG,ha];rfl
  have s1:=xw s1 hc
  obtain⟨ji,gO⟩:=hC _ _ _ _ h
  obtain⟨vs,gf,gw⟩:=Ei hs.eA hs.env s1 hc ji
  have hp:=YM hs.eA gw gO hr jL
  refine⟨fun _ _=>trivial,?_⟩
  rw[Oper.semAt_plain (FW ro) a.eval o (uA s1),gf]
  refine⟨fun h=>by simp[Fence.wide]at h,xn.2 (hp.mono ?_)⟩
  rintro e' w' ⟨v,c',rfl,eA,ja,eH⟩
  have hx:=hs.next eA eH s3 ja
  rw[← s2]at hx
  have:=k c' w' _ hx eH
  rw[s2]at this
  exact this
 | @tg g as args d v hg fG ha hS hv fu h ff hr=>
  have hw:=oZ hs.env s4 hg
  simp only[hw,if_true]
  have hc:im f e.op=some (g,args):=by rw[fG,ha];rfl
  have s1:=xw s1 hc
  obtain⟨ji,gO⟩:=hC _ _ _ _ h
  obtain⟨vs,gf,gw⟩:=Ei hs.eA hs.env s1 hc ji
  have hp:=YL hs.eA gw hS fu gO ff hr
  refine⟨fun _ _=>trivial,?_⟩
  rw[Oper.semAt_plain (FW ro) a.eval o (uA s1),gf]
  refine⟨fun h=>by simp[Fence.wide]at h,xn.2 (hp.mono ?_)⟩
  rintro e' w' ⟨u,c',rfl,eA,ja,eH⟩
  have hx:=hs.next eA eH s3 ja
  rw[← s2]at hx
  have:=k c' w' _ hx eH
  rw[s2]at this
  exact this
