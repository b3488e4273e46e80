/- Part 21 of TableHurry. -/
import Derived.Test.YtnaefnajkaohgaaGreatDoorG20
import Derived.Test.YtnaefnajkaohgaaGreatDoorG18
set_option linter.all false
namespace Go.Proofs.YtnaefnajkaohgaaGreatDoor
open Go Go.AL Classical
set_option maxRecDepth 100000
set_option maxHeartbeats 4000000
def xP(n:Int):ByteArray:=⟨#[UInt8.ofNat (48+n.toNat)]⟩
theorem f209(n:Int)(hn:0≤n∧n≤9):Wf T 209 [.i n] [] (Is (.val (.string (xP n)))):=by
 rcases(show n=0∨n=1∨n=2∨n=3∨n=4∨n=5∨n=6∨n=7∨n=8∨n=9 by omega)with rfl|rfl|rfl|rfl|rfl|rfl|rfl|rfl|rfl|rfl
 all_goals exact mS (k:=100) (by kernel_rfl)
def sc(b:Bool):ByteArray:=if b then⟨#[116,114,117,101]⟩else⟨#[102,97,108,115,101]⟩
theorem f210(b:Bool):Wf T 210 [.b b] [] (Is (.val (.string (sc b)))):=by
 cases b
 ·exact mS (k:=100) (by kernel_rfl)
 ·exact mS (k:=100) (by kernel_rfl)
@[simp] theorem ajO(a b:ByteArray):wQ .add a b=if mu ((a.size+b.size:Nat):Int) 9223372036854775807 then some (.val (.string (a++b)))else none:=rfl
theorem foldl_push(l:List Int):∀ r:ByteArray,(l.foldl (fun r n=>r.push (UInt8.ofNat n.toNat)) r).data.toList=r.data.toList++l.map fun n=>UInt8.ofNat n.toNat:=by
 induction l with
 | nil=>intro r;simp
 | cons a l ih=>intro r;rw[cg,ih];simp[ByteArray.push]
theorem Mt(p:Pos):(kS p).data.toList=(kM p).map fun n=>UInt8.ofNat (IntKind.u8.wrap n).toNat:=by
 unfold kS
 rw[foldl_push]
 simp[ByteArray.empty,ByteArray.emptyWithCapacity]
 rfl
@[simp] theorem agb(p:Pos):(kS p).size=(kM p).length:=by
 show(kS p).data.size=_
 rw[← cv,Mt,List.length_map]
@[simp] theorem ajs(a:Array UInt8):ByteArray.size ⟨a⟩=a.size:=rfl
@[simp] theorem aeN(n:Int):(xP n).size=1:=rfl
@[simp] theorem OL(b:Bool):(sc b).size≤5:=by cases b<;>decide
def kZ(s:eE):ByteArray:=xP s.kind++⟨#[32]⟩++xP s.cur++⟨#[32]⟩++sc s.gO++⟨#[32]⟩++kS s.p
theorem f165(s:eE)(h1:0≤s.kind∧s.kind≤9)(h2:0≤s.cur∧s.cur≤9)(h:0<s.p.cs.length)(hl:(kM s.p).length<1000):Wf T 165 [.agg s.cells] [] (Is (.val (.string (kZ s)))):=by
 have hb:=OL s.gO
 refine Yg AS ?_
 simp[AS,eE.cells]
 refine Yt (f209 s.kind h1) ?_
 simp
 (with_reducible repeat' first|refine Xk ?_<;>try simp|refine Xs ?_ ?_<;>intro h<;>(try intro h')<;>(try simp[h])<;>(try omega)|refine Xg ?_|omega)
 refine Yt (f209 s.cur h2) ?_
 simp
 (with_reducible repeat' first|refine Xk ?_<;>try simp|refine Xs ?_ ?_<;>intro h<;>(try intro h')<;>(try simp[h])<;>(try omega)|refine Xg ?_|omega)
 refine Yt (f210 s.gO) ?_
 simp
 (with_reducible repeat' first|refine Xk ?_<;>try simp|refine Xs ?_ ?_<;>intro h<;>(try intro h')<;>(try simp[h])<;>(try omega)|refine Xg ?_|omega)
 refine Yt (f101 s.p h hl) ?_
 simp
 (with_reducible repeat' first|refine Xk ?_<;>try simp|refine Xs ?_ ?_<;>intro h<;>(try intro h')<;>(try simp[h])<;>(try omega)|refine Xg ?_|omega)
 rfl
theorem ofNat_inj{m n:Nat}(hm:m<256)(hn:n<256)(h:UInt8.ofNat m=UInt8.ofNat n):m=n:=by
 have:=congrArg UInt8.toNat h
 simp only[UInt8.toNat_ofNat']at this
 omega
theorem Og{n:Int}(h:0≤n∧n<256):IntKind.u8.wrap n=n:=by
 simp only[IntKind.wrap,IntKind.bits,IntKind.signed]
 simp
 omega
theorem MQ:∀ {a b:List Int},(∀ n∈a,0≤n∧n<256)→(∀ n∈b,0≤n∧n<256)→(a.map fun n=>UInt8.ofNat (IntKind.u8.wrap n).toNat)=(b.map fun n=>UInt8.ofNat (IntKind.u8.wrap n).toNat)→a=b
 | [],[],_,_,_=>rfl
 | [],_::_,_,_,h=>by simp at h
 | _::_,[],_,_,h=>by simp at h
 | x::a,y::b,ha,hb,h=>by
  simp only[List.map_cons,cz]at h
  have hx:=ha x (by simp)
  have hy:=hb y (by simp)
  rw[Og hx,Og hy]at h
  have e:=ofNat_inj (by omega) (by omega) h.1
  rw[MQ (fun n hn=>ha n (by simp[hn])) (fun n hn=>hb n (by simp[hn])) h.2,show x=y by omega]
theorem Hi{g:ey}(hg:eW g){p:Pos}(hp:fo g p):∀ n∈kM p,0≤n∧n<256:=by
 have hk:=hg.kinds
 have hr:=hg.eR
 have h5:=wC hr.1 (by omega)
 have hh:∀ {l:List Int},mW g l→∀ n∈l,0≤n∧n<256:=fun{l} h n hn=>by
  obtain⟨i,h0,h1,rfl⟩:=oB.1 hn
  have:=h.at_ i h0 h1
  omega
 intro n hn
 rw[uD,sC]at hn
 simp only[aL,cH,List.mem_append,ax,cG,or_false]at hn
 have GV:=hp.eR
 have sU:=hp.side
 rcases hn with hn|hn|hn|rfl|rfl
 ·have:=hp.cs n hn;omega
 ·exact hh hp.h0 n hn
 ·exact hh hp.h1 n hn
 ·omega
 ·omega
theorem Tz{g:ey}{p q:Pos}(hp:fo g p)(hq:fo g q)(h:kM p=kM q):p=q:=by
 rw[uD,uD,sC,sC]at h
 simp only[aL,cH,av]at h
 have a1:=hp.size;have a2:=hq.size
 have b1:=hp.h0.len;have b2:=hq.h0.len
 have c1:=hp.h1.len;have c2:=hq.h1.len
 obtain⟨e1,h⟩:=dO h (by omega)
 obtain⟨e2,h⟩:=dO h (by omega)
 obtain⟨e3,h⟩:=dO h (by omega)
 simp only[cz,and_true]at h
 cases p;cases q
 simp_all
theorem Ms{g:ey}(hg:eW g){p q:Pos}(hp:fo g p)(hq:fo g q)(h:kS p=kS q):p=q:=by
 have h2:=congrArg (fun b:ByteArray=>b.data.toList) h
 simp only[Mt]at h2
 exact Tz hp hq (MQ (Hi hg hp) (Hi hg hq) h2)
theorem TA(s:eE):(kZ s).data.toList=UInt8.ofNat (48+s.kind.toNat)::32::UInt8.ofNat (48+s.cur.toNat)::32::((sc s.gO).data.toList++32::(kS s.p).data.toList):=by
 unfold kZ xP
 simp
theorem Mv{g:ey}(hg:eW g){s t:eE}(hs:ic g s)(ht:ic g t)(h:kZ s=kZ t):s=t:=by
 have h2:=congrArg (fun b:ByteArray=>b.data.toList) h
 simp only[TA,cz,true_and]at h2
 obtain⟨e1,e2,h3⟩:=h2
 have hk:=hg.kinds
 have hb:=hg.gH.size
 have k1:=hs.kind;have k2:=ht.kind
 have u1:=hs.cur;have u2:=ht.cur
 have f1:=ofNat_inj (by omega) (by omega) e1
 have f2:=ofNat_inj (by omega) (by omega) e2
 obtain⟨p,k,c,b⟩:=s
 obtain⟨p',k',c',b'⟩:=t
 dsimp only at *
 have oS:b=b'∧kS p=kS p':=by
  cases b<;>cases b'
  ·simp[sc]at h3
   exact⟨rfl,by cases hx:kS p;cases hy:kS p';simp_all [dK]⟩
  ·simp[sc]at h3
  ·simp[sc]at h3
  ·simp[sc]at h3
   exact⟨rfl,by cases hx:kS p;cases hy:kS p';simp_all [dK]⟩
 have ep:p=p':=Ms hg hs.p ht.p oS.2
 rw[oS.1,ep,show k=k' by omega,show c=c' by omega]
theorem DQ(a b:ByteArray):ot (.string a) (.string b)=decide (a=b):=by
 obtain⟨a⟩:=a
 obtain⟨b⟩:=b
 show(a == b)=_
 rw[Bool.eq_iff_iff,beq_iff_eq,decide_eq_true_iff,ByteArray.mk.injEq]
theorem Hz{g:ey}(hg:eW g){t:eE}(ht:ic g t):∀ {l:List eE},(∀ s∈l,ic g s)→mz (l.map fun s=>((.string (kZ s):Value),D.b true)) (.string (kZ t))=if t∈l then some (.b true)else none
 | [],_=>by simp[mz]
 | a::l,h=>by
  rw[List.map_cons,mz,DQ,Hz hg ht fun s hs=>h s (by simp[hs])]
  by_cases e:t=a
  ·subst e;simp
  ·have:¬ kZ t=kZ a:=fun k=>e (Mv hg ht (h a (by simp)) k)
   simp[this,e]
theorem HC{g:ey}(hg:eW g){t:eE}(ht:ic g t):∀ {l:List eE},(∀ s∈l,ic g s)→t ∉ l→kN (l.map fun s=>((.string (kZ s):Value),D.b true)) (.string (kZ t)) (.b true)=(l ++ [t]).map fun s=>((.string (kZ s):Value),D.b true)
 | [],_,_=>by simp[kN]
 | a::l,h,hn=>by
  simp only[ax,not_or]at hn
  have:¬ kZ t=kZ a:=fun k=>hn.1 (Mv hg ht (h a (by simp)) k)
  rw[List.map_cons,kN,DQ,HC hg ht (fun s hs=>h s (by simp[hs])) hn.2]
  simp[this]
set_option maxRecDepth 10000
set_option maxHeartbeats 8000000
theorem eU.inl{T:fH}{f:FuncId}{args:List D}{dst:Option Nat}{s:St}{K:St→Prop}(fn:eA)(hf:T.fn f=some fn)(hp:fn.full=true)(hl:args.length≤fn.ntmps)(hz:oE fn.body=true)
  (h:XC T fn.body { env:=oC args,H:=s.H } (sB fn.results fn.own s.H.length fun d H'=>K { s with env:=put s.env dst d,H:=H' })):eU T f args dst s K .mk:=.inr ⟨fn,hf,hp,Wf.x hf hl h hz⟩
abbrev rh(g:ey)(p:Pos)(st:eE)(outs:D):et:=[.row 41 0 g.cells,.row 44 0 p.cells,.row 164 0 [outs],.row 41 0 g.cells,.row 44 0 p.cells,.dead,.dead,.dead,.row 171 0 st.cells,.dead]
theorem PW(g:ey)(hg:eW g)(p:Pos)(hp:fo g p)(st t:eE)(ht:ic g t):Wf T 122 [.agg t.cells,.agg [.i 0,.i 0],.ptr 1 0 0,.ptr 2 0 0] (rh g p st .U ++ [.row 171 0 t.cells])
  (fun _ H'=>match kQ p.side t with
   | none=>H'=rh g p st .U ++ [.row 171 0 t.cells]
   | some o=>H'=rh g p st (.eu 11 0 6 0 1) ++ [.row 171 0 t.cells,.row 113 0 (cl eY.cells [o])]):=by
 have fO:=ht.p.size
 have lA:=ht.cur
 have iz:=ht.p.small hg
 have vP:=hg.gH.size
 have hk:=hg.kinds
 have l0:=ht.p.h0.len
 have l1:=ht.p.h1.len
 have gv:=hp.side
 have Sk:=ht.p.side
 refine Yz nA (gu 37 [13,14,15] nA.body) ?_
 simp[nA,gu,iA,kG,kI,kR,jE,rh,eE.cells]
 by_cases h0:gt t.p.cs t.cur=0
 ·simp[h0]
  (with_reducible repeat' first|refine Xk ?_<;>try simp|refine Xs ?_ ?_<;>intro h<;>(try intro h')<;>(try simp[h])<;>(try omega)|refine Xg ?_|omega)
  refine Yn (f91 t iz (by omega)) ?_
  simp
  (with_reducible repeat' first|refine Xk ?_<;>try simp|refine Xs ?_ ?_<;>intro h<;>(try intro h')<;>(try simp[h])<;>(try omega)|refine Xg ?_|omega)
  refine Yt (f92 (k:=t.kind) (s:=p.side) ht.kind.1 (by have:=ht.kind;omega) gv.1 gv.2) ?_
  simp
  (with_reducible repeat' first|refine Xk ?_<;>try simp|refine Xs ?_ ?_<;>intro h<;>(try intro h')<;>(try simp[h])<;>(try omega)|refine Xg ?_|omega)
  have q0:=ga (l:=t.p.cs) (n:=t.cur) (v:=1+2*t.kind+p.side) lA.1 (by omega)
  simp[kQ,h0,ju,gZ,q0]
 ·simp[h0,kQ]
  (with_reducible repeat' first|refine Xk ?_<;>try simp|refine Xs ?_ ?_<;>intro h<;>(try intro h')<;>(try simp[h])<;>(try omega)|refine Xg ?_|omega)
theorem PX(g:ey)(hg:eW g)(p:Pos)(hp:fo g p)(st t:eE)(ht:ic g t)(outs:List eY)(ho:outs.length<2 ^ 39)(LA:0<outs.length):Wf T 122 [.agg t.cells,.agg [.i 0,.i 0],.ptr 1 0 0,.ptr 2 0 0] (rh g p st (.eu 10 (outs.length-1) 6 0 outs.length) ++ [.row 113 (outs.length-1) (cl eY.cells outs),.row 171 0 t.cells])
  (fun _ H'=>match kQ p.side t with
   | none=>H'=rh g p st (.eu 10 (outs.length-1) 6 0 outs.length) ++ [.row 113 (outs.length-1) (cl eY.cells outs),.row 171 0 t.cells]
   | some o=>H'=rh g p st (.eu 10 (outs ++ [o]).length.pred 6 0 (outs ++ [o]).length) ++ [.row 113 (outs ++ [o]).length.pred (cl eY.cells (outs ++ [o])),.row 171 0 t.cells]):=by
 have fO:=ht.p.size
 have lA:=ht.cur
 have iz:=ht.p.small hg
 have vP:=hg.gH.size
 have hk:=hg.kinds
 have l0:=ht.p.h0.len
 have l1:=ht.p.h1.len
 have gv:=hp.side
 have Sk:=ht.p.side
 refine Yz nA (gu 37 [14,15,16] nA.body) ?_
 simp[nA,gu,iA,kG,kI,kR,jE,rh,eE.cells]
 by_cases h0:gt t.p.cs t.cur=0
 ·simp[h0]
  (with_reducible repeat' first|refine Xk ?_<;>try simp|refine Xs ?_ ?_<;>intro h<;>(try intro h')<;>(try simp[h])<;>(try omega)|refine Xg ?_|omega)
  refine Yn (f91 t iz (by omega)) ?_
  simp
  (with_reducible repeat' first|refine Xk ?_<;>try simp|refine Xs ?_ ?_<;>intro h<;>(try intro h')<;>(try simp[h])<;>(try omega)|refine Xg ?_|omega)
  refine Yt (f92 (k:=t.kind) (s:=p.side) ht.kind.1 (by have:=ht.kind;omega) gv.1 gv.2) ?_
  simp
  (with_reducible repeat' first|refine Xk ?_<;>try simp|refine Xs ?_ ?_<;>intro h<;>(try intro h')<;>(try simp[h])<;>(try omega)|refine Xg ?_|omega)
  have q0:=ga (l:=t.p.cs) (n:=t.cur) (v:=1+2*t.kind+p.side) lA.1 (by omega)
  simp[kQ,h0,ju,q0]
  (with_reducible repeat' first|refine Xk ?_<;>try simp[show outs.length-1+1=outs.length by omega]|refine Xs ?_ ?_<;>intro h<;>(try intro h')<;>(try simp[h,show outs.length-1+1=outs.length by omega])<;>(try omega)|refine Xg ?_|omega)
 ·simp[h0,kQ]
  (with_reducible repeat' first|refine Xk ?_<;>try simp|refine Xs ?_ ?_<;>intro h<;>(try intro h')<;>(try simp[h])<;>(try omega)|refine Xg ?_|omega)
