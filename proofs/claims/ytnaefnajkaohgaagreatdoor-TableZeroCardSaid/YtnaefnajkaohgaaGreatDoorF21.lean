/- Part 21 of the proof of skewer.skewerlaw15.TableZero. -/
import Derived.Test.YtnaefnajkaohgaaGreatDoorF20
import Derived.Test.YtnaefnajkaohgaaGreatDoorF18
set_option linter.all false
namespace Go.Proofs.YtnaefnajkaohgaaGreatDoor
open Go Go.AL Classical
set_option maxRecDepth 100000
set_option maxHeartbeats 4000000
def xD(n:Int):ByteArray:=⟨#[UInt8.ofNat (48+n.toNat)]⟩
theorem f209(n:Int)(hn:0≤n∧n≤9):Wf T 209 [.i n] [] (Is (.val (.string (xD n)))):=by
 rcases(show n=0∨n=1∨n=2∨n=3∨n=4∨n=5∨n=6∨n=7∨n=8∨n=9 by omega)with rfl|rfl|rfl|rfl|rfl|rfl|rfl|rfl|rfl|rfl
 all_goals exact mO (k:=100) (by kernel_rfl)
def rQ(b:Bool):ByteArray:=if b then⟨#[116,114,117,101]⟩else⟨#[102,97,108,115,101]⟩
theorem f210(b:Bool):Wf T 210 [.b b] [] (Is (.val (.string (rQ b)))):=by
 cases b
 ·exact mO (k:=100) (by kernel_rfl)
 ·exact mO (k:=100) (by kernel_rfl)
@[simp] theorem ajy(a b:ByteArray):wE .add a b=if mm ((a.size+b.size:Nat):Int) 9223372036854775807 then some (.val (.string (a++b)))else none:=rfl
theorem foldl_push(l:List Int):∀ r:ByteArray,(l.foldl (fun r n=>r.push (UInt8.ofNat n.toNat)) r).data.toList=r.data.toList++l.map fun n=>UInt8.ofNat n.toNat:=by
 induction l with
 | nil=>intro r;simp
 | cons a l ih=>intro r;rw[cd,ih];simp[ByteArray.push]
theorem L8(p:Pos):(kM p).data.toList=(kF p).map fun n=>UInt8.ofNat (IntKind.u8.wrap n).toNat:=by
 unfold kM
 rw[foldl_push]
 simp[ByteArray.empty,ByteArray.emptyWithCapacity]
 rfl
@[simp] theorem afS(p:Pos):(kM p).size=(kF p).length:=by
 show(kM p).data.size=_
 rw[← cu,L8,List.length_map]
@[simp] theorem ajc(a:Array UInt8):ByteArray.size ⟨a⟩=a.size:=rfl
@[simp] theorem aev(n:Int):(xD n).size=1:=rfl
@[simp] theorem Om(b:Bool):(rQ b).size≤5:=by cases b<;>decide
def kS(s:eD):ByteArray:=xD s.kind++⟨#[32]⟩++xD s.cur++⟨#[32]⟩++rQ s.gL++⟨#[32]⟩++kM s.p
theorem f165(s:eD)(h1:0≤s.kind∧s.kind≤9)(h2:0≤s.cur∧s.cur≤9)(h:0<s.p.cs.length)(hl:(kF s.p).length<1000):Wf T 165 [.agg s.cells] [] (Is (.val (.string (kS s)))):=by
 have hb:=Om s.gL
 refine Yg AI ?_
 simp[AI,eD.cells]
 refine Yt (f209 s.kind h1) ?_
 simp
 (with_reducible repeat' first|refine Xk ?_<;>try simp|refine Xs ?_ ?_<;>intro h<;>(try intro h')<;>(try simp[h])<;>(try omega)|refine Xg ?_|omega)
 refine Yt (f209 s.cur h2) ?_
 simp
 (with_reducible repeat' first|refine Xk ?_<;>try simp|refine Xs ?_ ?_<;>intro h<;>(try intro h')<;>(try simp[h])<;>(try omega)|refine Xg ?_|omega)
 refine Yt (f210 s.gL) ?_
 simp
 (with_reducible repeat' first|refine Xk ?_<;>try simp|refine Xs ?_ ?_<;>intro h<;>(try intro h')<;>(try simp[h])<;>(try omega)|refine Xg ?_|omega)
 refine Yt (f101 s.p h hl) ?_
 simp
 (with_reducible repeat' first|refine Xk ?_<;>try simp|refine Xs ?_ ?_<;>intro h<;>(try intro h')<;>(try simp[h])<;>(try omega)|refine Xg ?_|omega)
 rfl
theorem ofNat_inj{m n:Nat}(hm:m<256)(hn:n<256)(h:UInt8.ofNat m=UInt8.ofNat n):m=n:=by
 have:=congrArg UInt8.toNat h
 simp only[UInt8.toNat_ofNat']at this
 omega
theorem NV{n:Int}(h:0≤n∧n<256):IntKind.u8.wrap n=n:=by
 simp only[IntKind.wrap,IntKind.bits,IntKind.signed]
 simp
 omega
theorem Mu:∀ {a b:List Int},(∀ n∈a,0≤n∧n<256)→(∀ n∈b,0≤n∧n<256)→(a.map fun n=>UInt8.ofNat (IntKind.u8.wrap n).toNat)=(b.map fun n=>UInt8.ofNat (IntKind.u8.wrap n).toNat)→a=b
 | [],[],_,_,_=>rfl
 | [],_::_,_,_,h=>by simp at h
 | _::_,[],_,_,h=>by simp at h
 | x::a,y::b,ha,hb,h=>by
  simp only[List.map_cons,cz]at h
  have hx:=ha x (by simp)
  have hy:=hb y (by simp)
  rw[NV hx,NV hy]at h
  have e:=ofNat_inj (by omega) (by omega) h.1
  rw[Mu (fun n hn=>ha n (by simp[hn])) (fun n hn=>hb n (by simp[hn])) h.2,show x=y by omega]
theorem G5{g:ew}(hg:eU g){p:Pos}(hp:fj g p):∀ n∈kF p,0≤n∧n<256:=by
 have hk:=hg.kinds
 have hr:=hg.eQ
 have h5:=wh hr.1 (by omega)
 have hh:∀ {l:List Int},mS g l→∀ n∈l,0≤n∧n<256:=fun{l} h n hn=>by
  obtain⟨i,h0,h1,rfl⟩:=oj.1 hn
  have:=h.at_ i h0 h1
  omega
 intro n hn
 rw[uj,sh]at hn
 simp only[aL,cH,List.mem_append,ax,cG,or_false]at hn
 have GC:=hp.eQ
 have sH:=hp.side
 rcases hn with hn|hn|hn|rfl|rfl
 ·have:=hp.cs n hn;omega
 ·exact hh hp.h0 n hn
 ·exact hh hp.h1 n hn
 ·omega
 ·omega
theorem Td{g:ew}{p q:Pos}(hp:fj g p)(hq:fj g q)(h:kF p=kF q):p=q:=by
 rw[uj,uj,sh,sh]at h
 simp only[aL,cH,av]at h
 have a1:=hp.size;have a2:=hq.size
 have b1:=hp.h0.len;have b2:=hq.h0.len
 have c1:=hp.h1.len;have c2:=hq.h1.len
 obtain⟨e1,h⟩:=dO h (by omega)
 obtain⟨e2,h⟩:=dO h (by omega)
 obtain⟨e3,h⟩:=dO h (by omega)
 simp only[cz,and_true]at h
 cases p;cases q
 simp_all
theorem L7{g:ew}(hg:eU g){p q:Pos}(hp:fj g p)(hq:fj g q)(h:kM p=kM q):p=q:=by
 have h2:=congrArg (fun b:ByteArray=>b.data.toList) h
 simp only[L8]at h2
 exact Td hp hq (Mu (G5 hg hp) (G5 hg hq) h2)
theorem Te(s:eD):(kS s).data.toList=UInt8.ofNat (48+s.kind.toNat)::32::UInt8.ofNat (48+s.cur.toNat)::32::((rQ s.gL).data.toList++32::(kM s.p).data.toList):=by
 unfold kS xD
 simp
theorem Ma{g:ew}(hg:eU g){s t:eD}(hs:gZ g s)(ht:gZ g t)(h:kS s=kS t):s=t:=by
 have h2:=congrArg (fun b:ByteArray=>b.data.toList) h
 simp only[Te,cz,true_and]at h2
 obtain⟨e1,e2,h3⟩:=h2
 have hk:=hg.kinds
 have hb:=hg.gF.size
 have k1:=hs.kind;have k2:=ht.kind
 have u1:=hs.cur;have u2:=ht.cur
 have f1:=ofNat_inj (by omega) (by omega) e1
 have f2:=ofNat_inj (by omega) (by omega) e2
 obtain⟨p,k,c,b⟩:=s
 obtain⟨p',k',c',b'⟩:=t
 dsimp only at *
 have oJ:b=b'∧kM p=kM p':=by
  cases b<;>cases b'
  ·simp[rQ]at h3
   exact⟨rfl,by cases hx:kM p;cases hy:kM p';simp_all [dK]⟩
  ·simp[rQ]at h3
  ·simp[rQ]at h3
  ·simp[rQ]at h3
   exact⟨rfl,by cases hx:kM p;cases hy:kM p';simp_all [dK]⟩
 have ep:p=p':=L7 hg hs.p ht.p oJ.2
 rw[oJ.1,ep,show k=k' by omega,show c=c' by omega]
theorem DG(a b:ByteArray):oh (.string a) (.string b)=decide (a=b):=by
 obtain⟨a⟩:=a
 obtain⟨b⟩:=b
 show(a == b)=_
 rw[Bool.eq_iff_iff,beq_iff_eq,decide_eq_true_iff,ByteArray.mk.injEq]
theorem Hj{g:ew}(hg:eU g){t:eD}(ht:gZ g t):∀ {l:List eD},(∀ s∈l,gZ g s)→mq (l.map fun s=>((.string (kS s):Value),D.b true)) (.string (kS t))=if t∈l then some (.b true)else none
 | [],_=>by simp[mq]
 | a::l,h=>by
  rw[List.map_cons,mq,DG,Hj hg ht fun s hs=>h s (by simp[hs])]
  by_cases e:t=a
  ·subst e;simp
  ·have:¬ kS t=kS a:=fun k=>e (Ma hg ht (h a (by simp)) k)
   simp[this,e]
theorem Hm{g:ew}(hg:eU g){t:eD}(ht:gZ g t):∀ {l:List eD},(∀ s∈l,gZ g s)→t ∉ l→kG (l.map fun s=>((.string (kS s):Value),D.b true)) (.string (kS t)) (.b true)=(l ++ [t]).map fun s=>((.string (kS s):Value),D.b true)
 | [],_,_=>by simp[kG]
 | a::l,h,hn=>by
  simp only[ax,not_or]at hn
  have:¬ kS t=kS a:=fun k=>hn.1 (Ma hg ht (h a (by simp)) k)
  rw[List.map_cons,kG,DG,Hm hg ht (fun s hs=>h s (by simp[hs])) hn.2]
  simp[this]
set_option maxRecDepth 10000
set_option maxHeartbeats 8000000
theorem eS.inl{T:fE}{f:FuncId}{args:List D}{dst:Option Nat}{s:St}{K:St→Prop}(fn:ey)(hf:T.fn f=some fn)(hp:fn.full=true)(hl:args.length≤fn.ntmps)(hz:oq fn.body=true)
  (h:XC T fn.body { env:=om args,H:=s.H } (sg fn.results fn.own s.H.length fun d H'=>K { s with env:=put s.env dst d,H:=H' })):eS T f args dst s K .mk:=.inr ⟨fn,hf,hp,Wf.x hf hl h hz⟩
abbrev qX(g:ew)(p:Pos)(st:eD)(outs:D):U:=[.row 41 0 g.cells,.row 44 0 p.cells,.row 164 0 [outs],.row 41 0 g.cells,.row 44 0 p.cells,.dead,.dead,.dead,.row 171 0 st.cells,.dead]
theorem Px(g:ew)(hg:eU g)(p:Pos)(hp:fj g p)(st t:eD)(ht:gZ g t):Wf T 122 [.agg t.cells,.agg [.i 0,.i 0],.ptr 1 0 0,.ptr 2 0 0] (qX g p st .emp ++ [.row 171 0 t.cells])
  (fun _ H'=>match kJ p.side t with
   | none=>H'=qX g p st .emp ++ [.row 171 0 t.cells]
   | some o=>H'=qX g p st (.et 11 0 6 0 1) ++ [.row 171 0 t.cells,.row 113 0 (cl eW.cells [o])]):=by
 have fL:=ht.p.size
 have lq:=ht.cur
 have iv:=ht.p.small hg
 have xT:=hg.gF.size
 have hk:=hg.kinds
 have l0:=ht.p.h0.len
 have l1:=ht.p.h1.len
 have gp:=hp.side
 have RX:=ht.p.side
 refine Yz np (gj 37 [13,14,15] np.body) ?_
 simp[np,gj,iw,ky,kA,kK,jy,qX,eD.cells]
 by_cases h0:gt t.p.cs t.cur=0
 ·simp[h0]
  (with_reducible repeat' first|refine Xk ?_<;>try simp|refine Xs ?_ ?_<;>intro h<;>(try intro h')<;>(try simp[h])<;>(try omega)|refine Xg ?_|omega)
  refine Yn (f91 t iv (by omega)) ?_
  simp
  (with_reducible repeat' first|refine Xk ?_<;>try simp|refine Xs ?_ ?_<;>intro h<;>(try intro h')<;>(try simp[h])<;>(try omega)|refine Xg ?_|omega)
  refine Yt (f92 (k:=t.kind) (s:=p.side) ht.kind.1 (by have:=ht.kind;omega) gp.1 gp.2) ?_
  simp
  (with_reducible repeat' first|refine Xk ?_<;>try simp|refine Xs ?_ ?_<;>intro h<;>(try intro h')<;>(try simp[h])<;>(try omega)|refine Xg ?_|omega)
  have q0:=fX (l:=t.p.cs) (n:=t.cur) (v:=1+2*t.kind+p.side) lq.1 (by omega)
  simp[kJ,h0,jq,gV,q0]
 ·simp[h0,kJ]
  (with_reducible repeat' first|refine Xk ?_<;>try simp|refine Xs ?_ ?_<;>intro h<;>(try intro h')<;>(try simp[h])<;>(try omega)|refine Xg ?_|omega)
theorem Py(g:ew)(hg:eU g)(p:Pos)(hp:fj g p)(st t:eD)(ht:gZ g t)(outs:List eW)(ho:outs.length<2 ^ 39)(Li:0<outs.length):Wf T 122 [.agg t.cells,.agg [.i 0,.i 0],.ptr 1 0 0,.ptr 2 0 0] (qX g p st (.et 10 (outs.length-1) 6 0 outs.length) ++ [.row 113 (outs.length-1) (cl eW.cells outs),.row 171 0 t.cells])
  (fun _ H'=>match kJ p.side t with
   | none=>H'=qX g p st (.et 10 (outs.length-1) 6 0 outs.length) ++ [.row 113 (outs.length-1) (cl eW.cells outs),.row 171 0 t.cells]
   | some o=>H'=qX g p st (.et 10 (outs ++ [o]).length.pred 6 0 (outs ++ [o]).length) ++ [.row 113 (outs ++ [o]).length.pred (cl eW.cells (outs ++ [o])),.row 171 0 t.cells]):=by
 have fL:=ht.p.size
 have lq:=ht.cur
 have iv:=ht.p.small hg
 have xT:=hg.gF.size
 have hk:=hg.kinds
 have l0:=ht.p.h0.len
 have l1:=ht.p.h1.len
 have gp:=hp.side
 have RX:=ht.p.side
 refine Yz np (gj 37 [14,15,16] np.body) ?_
 simp[np,gj,iw,ky,kA,kK,jy,qX,eD.cells]
 by_cases h0:gt t.p.cs t.cur=0
 ·simp[h0]
  (with_reducible repeat' first|refine Xk ?_<;>try simp|refine Xs ?_ ?_<;>intro h<;>(try intro h')<;>(try simp[h])<;>(try omega)|refine Xg ?_|omega)
  refine Yn (f91 t iv (by omega)) ?_
  simp
  (with_reducible repeat' first|refine Xk ?_<;>try simp|refine Xs ?_ ?_<;>intro h<;>(try intro h')<;>(try simp[h])<;>(try omega)|refine Xg ?_|omega)
  refine Yt (f92 (k:=t.kind) (s:=p.side) ht.kind.1 (by have:=ht.kind;omega) gp.1 gp.2) ?_
  simp
  (with_reducible repeat' first|refine Xk ?_<;>try simp|refine Xs ?_ ?_<;>intro h<;>(try intro h')<;>(try simp[h])<;>(try omega)|refine Xg ?_|omega)
  have q0:=fX (l:=t.p.cs) (n:=t.cur) (v:=1+2*t.kind+p.side) lq.1 (by omega)
  simp[kJ,h0,jq,q0]
  (with_reducible repeat' first|refine Xk ?_<;>try simp[show outs.length-1+1=outs.length by omega]|refine Xs ?_ ?_<;>intro h<;>(try intro h')<;>(try simp[h,show outs.length-1+1=outs.length by omega])<;>(try omega)|refine Xg ?_|omega)
 ·simp[h0,kJ]
  (with_reducible repeat' first|refine Xk ?_<;>try simp|refine Xs ?_ ?_<;>intro h<;>(try intro h')<;>(try simp[h])<;>(try omega)|refine Xg ?_|omega)
