/- Part 21 of DisputeLocal. -/
import Derived.Test.YtmehofoficaelaaGreatDoorL20
set_option linter.all false
namespace Go.Proofs.YtmehofoficaelaaGreatDoor
open Go Go.AL Classical
set_option maxRecDepth 100000
set_option maxHeartbeats 4000000
def Br(n:Int):ByteArray:=⟨#[UInt8.ofNat (48+n.toNat)]⟩
def f209(n:Int)(hn:0≤n∧n≤9):Wf T 310 [.i n] [] (Is (.val (.string (Br n)))):=by
 rcases(show n=0∨n=1∨n=2∨n=3∨n=4∨n=5∨n=6∨n=7∨n=8∨n=9 by omega)with rfl|rfl|rfl|rfl|rfl|rfl|rfl|rfl|rfl|rfl
 all_goals exact nV (k:=100) (by kernel_rfl)
def vf(b:Bool):ByteArray:=if b then⟨#[116,114,117,101]⟩else⟨#[102,97,108,115,101]⟩
def f210(b:Bool):Wf T 311 [.b b] [] (Is (.val (.string (vf b)))):=by
 cases b
 ·exact nV (k:=100) (by kernel_rfl)
 ·exact nV (k:=100) (by kernel_rfl)
@[simp] theorem aqD(a b:ByteArray):Av .add a b=if oZ ((a.size+b.size:Nat):Int) 9223372036854775807 then some (.val (.string (a++b)))else none:=rfl
theorem foldl_push(l:List Int):∀ r:ByteArray,(l.foldl (fun r n=>r.push (UInt8.ofNat n.toNat)) r).data.toList=r.data.toList++l.map fun n=>UInt8.ofNat n.toNat:=by
 induction l with
 | nil=>intro r;simp
 | cons a l ih=>intro r;rw[bV,ih];simp[ByteArray.push]
def Ru(p:Pos):(mU p).data.toList=(mJ p).map fun n=>UInt8.ofNat (IntKind.u8.wrap n).toNat:=by
 unfold mU
 rw[foldl_push]
 simp[ByteArray.empty,ByteArray.emptyWithCapacity]
 rfl
@[simp] theorem amH(p:Pos):(mU p).size=(mJ p).length:=by
 show(mU p).data.size=_
 rw[← cM,Ru,List.length_map]
@[simp] theorem aqa(a:Array UInt8):ByteArray.size ⟨a⟩=a.size:=rfl
@[simp] theorem alh(n:Int):(Br n).size=1:=rfl
@[simp] theorem Us(b:Bool):(vf b).size≤5:=by cases b<;>decide
def ni(s:fg):ByteArray:=Br s.kind++⟨#[32]⟩++Br s.cur++⟨#[32]⟩++vf s.jb++⟨#[32]⟩++mU s.p
def f165(s:fg)(h1:0≤s.kind∧s.kind≤9)(h2:0≤s.cur∧s.cur≤9)(h:0<s.p.cs.length)(hl:(mJ s.p).length<1000):Wf T 287 [.agg s.cells] [] (Is (.val (.string (ni s)))):=by
 have hb:=Us s.jb
 refine Yg EP ?_
 simp[EP,fg.cells]
 refine Yt (f209 s.kind h1) ?_
 simp
 (with_reducible repeat' first|refine Xk ?_<;>try simp|refine Xs ?_ ?_<;>intro h<;>(try intro h')<;>(try simp[h])<;>try omega|refine Xg ?_|omega)
 refine Yt (f209 s.cur h2) ?_
 simp
 (with_reducible repeat' first|refine Xk ?_<;>try simp|refine Xs ?_ ?_<;>intro h<;>(try intro h')<;>(try simp[h])<;>try omega|refine Xg ?_|omega)
 refine Yt (f210 s.jb) ?_
 simp
 (with_reducible repeat' first|refine Xk ?_<;>try simp|refine Xs ?_ ?_<;>intro h<;>(try intro h')<;>(try simp[h])<;>try omega|refine Xg ?_|omega)
 refine Yt (f101 s.p h hl) ?_
 simp
 (with_reducible repeat' first|refine Xk ?_<;>try simp|refine Xs ?_ ?_<;>intro h<;>(try intro h')<;>(try simp[h])<;>try omega|refine Xg ?_|omega)
 rfl
def ofNat_inj{m n:Nat}(hm:m<256)(hn:n<256)(h:UInt8.ofNat m=UInt8.ofNat n):m=n:=by
 have:=congrArg UInt8.toNat h
 simp only[UInt8.toNat_ofNat']at this
 omega
def TV{n:Int}(h:0≤n∧n<256):IntKind.u8.wrap n=n:=by
 simp only[IntKind.wrap,IntKind.bits,IntKind.signed]
 simp
 omega
theorem RY:∀ {a b:List Int},(∀ n∈a,0≤n∧n<256)→(∀ n∈b,0≤n∧n<256)→(a.map fun n=>UInt8.ofNat (IntKind.u8.wrap n).toNat)=(b.map fun n=>UInt8.ofNat (IntKind.u8.wrap n).toNat)→a=b
 | [],[],_,_,_=>rfl
 | [],_::_,_,_,h=>by simp at h
 | _::_,[],_,_,h=>by simp at h
 | x::a,y::b,ha,hb,h=>by
  simp only[List.map_cons,cQ]at h
  have hx:=ha x (by simp)
  have hy:=hb y (by simp)
  rw[TV hx,TV hy]at h
  have e:=ofNat_inj (by omega) (by omega) h.1
  rw[RY (fun n hn=>ha n (by simp[hn])) (fun n hn=>hb n (by simp[hn])) h.2,show x=y by omega]
def LL{g:eY}(hg:gh g){p:Pos}(hp:gG g p):∀ n∈mJ p,0≤n∧n<256:=by
 have hk:=hg.kinds
 have hr:=hg.fH
 have h5:=Af hr.1 (by omega)
 have hh:∀ {l:List Int},pD g l→∀ n∈l,0≤n∧n<256:=fun{l} h n hn=>by
  obtain⟨i,h0,h1,rfl⟩:=z8.1 hn
  have:=h.at_ i h0 h1
  omega
 intro n hn
 rw[xY,vB]at hn
 simp only[aU,dA,List.mem_append,av,cZ,or_false]at hn
 have Ll:=hp.fH
 have vT:=hp.side
 rcases hn with hn|hn|hn|rfl|rfl
 ·have:=hp.cs n hn;omega
 ·exact hh hp.h0 n hn
 ·exact hh hp.h1 n hn
 ·omega
 ·omega
def ZC{g:eY}{p q:Pos}(hp:gG g p)(hq:gG g q)(h:mJ p=mJ q):p=q:=by
 rw[xY,xY,vB,vB]at h
 simp only[aU,dA,aA]at h
 have a1:=hp.size;have a2:=hq.size
 have b1:=hp.h0.len;have b2:=hq.h0.len
 have c1:=hp.h1.len;have c2:=hq.h1.len
 obtain⟨e1,h⟩:=eC h (by omega)
 obtain⟨e2,h⟩:=eC h (by omega)
 obtain⟨e3,h⟩:=eC h (by omega)
 simp only[cQ,and_true]at h
 cases p;cases q
 simp_all
def Rt{g:eY}(hg:gh g){p q:Pos}(hp:gG g p)(hq:gG g q)(h:mU p=mU q):p=q:=by
 have h2:=congrArg (fun b:ByteArray=>b.data.toList) h
 simp only[Ru]at h2
 exact ZC hp hq (RY (LL hg hp) (LL hg hq) h2)
def ZD(s:fg):(ni s).data.toList=UInt8.ofNat (48+s.kind.toNat)::32::UInt8.ofNat (48+s.cur.toNat)::32::((vf s.jb).data.toList++32::(mU s.p).data.toList):=by
 unfold ni Br
 simp
def Rw{g:eY}(hg:gh g){s t:fg}(hs:jA g s)(ht:jA g t)(h:ni s=ni t):s=t:=by
 have h2:=congrArg (fun b:ByteArray=>b.data.toList) h
 simp only[ZD,cQ,true_and]at h2
 obtain⟨e1,e2,h3⟩:=h2
 have hk:=hg.kinds
 have hb:=hg.iY.size
 have k1:=hs.kind;have k2:=ht.kind
 have u1:=hs.cur;have u2:=ht.cur
 have f1:=ofNat_inj (by omega) (by omega) e1
 have f2:=ofNat_inj (by omega) (by omega) e2
 obtain⟨p,k,c,b⟩:=s
 obtain⟨p',k',c',b'⟩:=t
 dsimp only at *
 have s5:b=b'∧mU p=mU p':=by
  cases b<;>cases b'
  ·simp[vf]at h3
   exact⟨rfl,by cases hx:mU p;cases hy:mU p';simp_all [ew]⟩
  ·simp[vf]at h3
  ·simp[vf]at h3
  ·simp[vf]at h3
   exact⟨rfl,by cases hx:mU p;cases hy:mU p';simp_all [ew]⟩
 have ep:p=p':=Rt hg hs.p ht.p s5.2
 rw[s5.1,ep,show k=k' by omega,show c=c' by omega]
def H4(a b:ByteArray):mV (.string a) (.string b)=decide (a=b):=by
 obtain⟨a⟩:=a
 obtain⟨b⟩:=b
 show(a == b)=_
 rw[Bool.eq_iff_iff,beq_iff_eq,decide_eq_true_iff,ByteArray.mk.injEq]
theorem L6{g:eY}(hg:gh g){t:fg}(ht:jA g t):∀ {l:List fg},(∀ s∈l,jA g s)→o4 (l.map fun s=>((.string (ni s):Value),D.b true)) (.string (ni t))=if t∈l then some (.b true)else none
 | [],_=>by simp[o4]
 | a::l,h=>by
  rw[List.map_cons,o4,H4,L6 hg ht fun s hs=>h s (by simp[hs])]
  by_cases e:t=a
  ·subst e;simp
  ·have:¬ ni t=ni a:=fun k=>e (Rw hg ht (h a (by simp)) k)
   simp[this,e]
theorem Ma{g:eY}(hg:gh g){t:fg}(ht:jA g t):∀ {l:List fg},(∀ s∈l,jA g s)→t ∉ l→lK (l.map fun s=>((.string (ni s):Value),D.b true)) (.string (ni t)) (.b true)=(l ++ [t]).map fun s=>((.string (ni s):Value),D.b true)
 | [],_,_=>by simp[lK]
 | a::l,h,hn=>by
  simp only[av,not_or]at hn
  have:¬ ni t=ni a:=fun k=>hn.1 (Rw hg ht (h a (by simp)) k)
  rw[List.map_cons,lK,H4,Ma hg ht (fun s hs=>h s (by simp[hs])) hn.2]
  simp[this]
set_option maxRecDepth 10000
set_option maxHeartbeats 8000000
def fG.inl{T:gP}{f:FuncId}{args:List D}{dst:Option Nat}{s:St}{K:St→Prop}(fn:eV)(hf:T.fn f=some fn)(hp:fn.full=true)(hl:args.length≤fn.ntmps)(hz:qK fn.body=true)
  (h:XC T fn.body { env:=qI args,H:=s.H } (vA fn.results fn.own s.H.length fun d H'=>K { s with env:=put s.env dst d,H:=H' })):fG T f args dst s K .mk:=.inr ⟨fn,hf,hp,Wf.x hf hl h hz⟩
abbrev uf(g:eY)(p:Pos)(st:fg)(outs:D):U:=[.row 43 0 g.cells,.row 46 0 p.cells,.row 256 0 [outs],.row 43 0 g.cells,.row 46 0 p.cells,.dead,.dead,.dead,.row 330 0 st.cells,.dead]
def V6(g:eY)(hg:gh g)(p:Pos)(hp:gG g p)(st t:fg)(ht:jA g t):Wf T 260 [.agg t.cells,.agg [.i 0,.i 0],.ptr 1 0 0,.ptr 2 0 0] (uf g p st .eU ++ [.row 330 0 t.cells])
  (fun _ H'=>match mN p.side t with
   | none=>H'=uf g p st .eU ++ [.row 330 0 t.cells]
   | some o=>H'=uf g p st (.eX 11 0 6 0 1) ++ [.row 330 0 t.cells,.row 259 0 (cl fV.cells [o])]):=by
 have gV:=ht.p.size
 have nQ:=ht.cur
 have jR:=ht.p.small hg
 have Ht:=hg.iY.size
 have hk:=hg.kinds
 have l0:=ht.p.h0.len
 have l1:=ht.p.h1.len
 have iE:=hp.side
 have Yy:=ht.p.side
 refine Yz pS (iu 37 [13,14,15] pS.body) ?_
 simp[pS,iu,jJ,mj,mn,mG,ln,uf,fg.cells]
 by_cases h0:gt t.p.cs t.cur=0
 ·simp[h0]
  (with_reducible repeat' first|refine Xk ?_<;>try simp|refine Xs ?_ ?_<;>intro h<;>(try intro h')<;>(try simp[h])<;>try omega|refine Xg ?_|omega)
  refine Yn (f91 t jR (by omega)) ?_
  simp
  (with_reducible repeat' first|refine Xk ?_<;>try simp|refine Xs ?_ ?_<;>intro h<;>(try intro h')<;>(try simp[h])<;>try omega|refine Xg ?_|omega)
  refine Yt (f92 (k:=t.kind) (s:=p.side) ht.kind.1 (by have:=ht.kind;omega) iE.1 iE.2) ?_
  simp
  (with_reducible repeat' first|refine Xk ?_<;>try simp|refine Xs ?_ ?_<;>intro h<;>(try intro h')<;>(try simp[h])<;>try omega|refine Xg ?_|omega)
  have q0:=il (l:=t.p.cs) (n:=t.cur) (v:=1+2*t.kind+p.side) nQ.1 (by omega)
  simp[mN,h0,kO,jg,q0]
 ·simp[h0,mN]
  (with_reducible repeat' first|refine Xk ?_<;>try simp|refine Xs ?_ ?_<;>intro h<;>(try intro h')<;>(try simp[h])<;>try omega|refine Xg ?_|omega)
def V7(g:eY)(hg:gh g)(p:Pos)(hp:gG g p)(st t:fg)(ht:jA g t)(outs:List fV)(ho:outs.length<2 ^ 39)(QO:0<outs.length):Wf T 260 [.agg t.cells,.agg [.i 0,.i 0],.ptr 1 0 0,.ptr 2 0 0] (uf g p st (.eX 10 (outs.length-1) 6 0 outs.length) ++ [.row 259 (outs.length-1) (cl fV.cells outs),.row 330 0 t.cells])
  (fun _ H'=>match mN p.side t with
   | none=>H'=uf g p st (.eX 10 (outs.length-1) 6 0 outs.length) ++ [.row 259 (outs.length-1) (cl fV.cells outs),.row 330 0 t.cells]
   | some o=>H'=uf g p st (.eX 10 (outs ++ [o]).length.pred 6 0 (outs ++ [o]).length) ++ [.row 259 (outs ++ [o]).length.pred (cl fV.cells (outs ++ [o])),.row 330 0 t.cells]):=by
 have gV:=ht.p.size
 have nQ:=ht.cur
 have jR:=ht.p.small hg
 have Ht:=hg.iY.size
 have hk:=hg.kinds
 have l0:=ht.p.h0.len
 have l1:=ht.p.h1.len
 have iE:=hp.side
 have Yy:=ht.p.side
 refine Yz pS (iu 37 [14,15,16] pS.body) ?_
 simp[pS,iu,jJ,mj,mn,mG,ln,uf,fg.cells]
 by_cases h0:gt t.p.cs t.cur=0
 ·simp[h0]
  (with_reducible repeat' first|refine Xk ?_<;>try simp|refine Xs ?_ ?_<;>intro h<;>(try intro h')<;>(try simp[h])<;>try omega|refine Xg ?_|omega)
  refine Yn (f91 t jR (by omega)) ?_
  simp
  (with_reducible repeat' first|refine Xk ?_<;>try simp|refine Xs ?_ ?_<;>intro h<;>(try intro h')<;>(try simp[h])<;>try omega|refine Xg ?_|omega)
  refine Yt (f92 (k:=t.kind) (s:=p.side) ht.kind.1 (by have:=ht.kind;omega) iE.1 iE.2) ?_
  simp
  (with_reducible repeat' first|refine Xk ?_<;>try simp|refine Xs ?_ ?_<;>intro h<;>(try intro h')<;>(try simp[h])<;>try omega|refine Xg ?_|omega)
  have q0:=il (l:=t.p.cs) (n:=t.cur) (v:=1+2*t.kind+p.side) nQ.1 (by omega)
  simp[mN,h0,kO,q0]
  (with_reducible repeat' first|refine Xk ?_<;>try simp[show outs.length-1+1=outs.length by omega]|refine Xs ?_ ?_<;>intro h<;>(try intro h')<;>(try simp[h,show outs.length-1+1=outs.length by omega])<;>try omega|refine Xg ?_|omega)
 ·simp[h0,mN]
  (with_reducible repeat' first|refine Xk ?_<;>try simp|refine Xs ?_ ?_<;>intro h<;>(try intro h')<;>(try simp[h])<;>try omega|refine Xg ?_|omega)
