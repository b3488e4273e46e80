/- Part 18 of the proof of skewer.skewerlaw15.TableValues. -/
import Derived.Test.YtnaefnajkaohgaaGreatDoorE17
import Derived.Test.YtnaefnajkaohgaaGreatDoorE11
import Derived.Test.YtnaefnajkaohgaaGreatDoorE12
import Derived.Test.YtnaefnajkaohgaaGreatDoorE16
set_option linter.all false
namespace Go.Proofs.YtnaefnajkaohgaaGreatDoor
open Go Go.AL Classical
set_option maxRecDepth 10000
set_option maxHeartbeats 4000000
theorem f164(g:eU)(hg:fr g)(s:e9)(hs:iD g s)(x:eY)(hx:vg g x):Wf T 164 [dG g,.agg s.cells,.agg [.i x.1,.i x.2]] [] (Is (mz (gF g s x))):=by
 obtain⟨k,n⟩:=x
 have kf:=hx.ok
 dsimp only at kf ⊢
 rcases(show k=1∨k=2∨k=3∨k=4∨k=5∨k=6∨k=7∨k=8∨k=9∨k=10 by omega)with rfl|rfl|rfl|rfl|rfl|rfl|rfl|rfl|rfl|rfl
 all_goals
  refine Yg CU ?_
  simp[CU,e9.cells]
 ·refine gZ.c rfl rfl (f199 g hg s hs n) (by simp) (by simp) ?_
  simp
 ·refine gZ.c rfl rfl (f200 g hg s hs n) (by simp) (by simp) ?_
  simp
 ·refine gZ.c rfl rfl (f201 g hg s hs n) (by simp) (by simp) ?_
  simp
 ·refine gZ.c rfl rfl (f202 g hg s hs n) (by simp) (by simp) ?_
  simp
 ·refine gZ.c rfl rfl (f203 g hg s hs n) (by simp) (by simp) ?_
  simp
 ·refine gZ.c rfl rfl (f204 g hg s hs n) (by simp) (by simp) ?_
  simp
 ·refine gZ.c rfl rfl (f205 g hg s hs n) (by simp) (by simp) ?_
  simp
 ·refine gZ.c rfl rfl (f206 g s n) (by simp) (by simp) ?_
  simp
 ·refine gZ.c rfl rfl (f207 g hg s hs n (by omega)) (by simp) (by simp) ?_
  simp
 ·refine gZ.c rfl rfl (f208 g hg s hs n (by omega)) (by simp) (by simp) ?_
  simp
set_option maxRecDepth 10000
set_option maxHeartbeats 4000000
@[simp] theorem agP(t sz bytes:Nat)(z:List D)(m:Int)(vn:Nat):Ep t sz bytes z .emp (.val (.int .i64 m)) vn=if 0<m∧nU (m*bytes) 140737488355328∧nU m 9223372036854775807 then some (.eT vn 0 sz 0 m.toNat,.new (.row t 0 (List.replicate m.toNat z).flatten))else none:=rfl
theorem f191(n:Int)(hn:0<n∧n<1000):Wf T 191 [.emp,.i n] [] (fun d H=>d = .eT 0 0 1 0 0∧H = [.row 3 0 (cl f1 (List.replicate n.toNat 0))]):=by
 refine Yg C7 ?_
 simp[C7]
 (with_reducible repeat' first|refine Xk ?_<;>try simp|refine Xs ?_ ?_<;>intro h<;>(try intro h')<;>(try simp[h])<;>(try omega)|refine Xg ?_|omega)
@[irreducible] def fl(l:List (List Int)):List Int:=l.flatten
theorem uc(l:List (List Int)):fl l=l.flatten:=by unfold fl;rfl
@[simp] theorem ajc:fl [] = []:=by simp[uc]
theorem Nz{l:List (List Int)}{i:Int}(h0:0≤i)(h:i<l.length):fl (l.take (i+1).toNat)=fl (l.take i.toNat)++gt l i:=by
 rw[gE h0 h];simp[uc]
theorem Ny(l:List (List Int))(n:Nat):(fl (l.take n)).length≤(fl l).length:=by
 simp only[uc]
 conv=>rhs;rw[← bO n l]
 simp only[dX,ax]
 omega
theorem f148(l:List (List Int))(hl:l.length≤10)(hn:0<(fl l).length∧(fl l).length<1000):Wf T 148 [.sl 1 (l.map fI)] [] (fun d H=>d = .eT 0 l.length 1 0 (fl l).length∧H = [.row 3 l.length (cl f1 (fl l))]):=by
 have gd:0<l.length:=by
  cases l with
  | nil=>simp at hn
  | cons a r=>simp
 refine Yg CN ?_
 simp[CN]
 refine fe.e (0:Int) (fun i=>[(0,.sl 1 (l.map fI)),(3,.i (fl (l.take i.toNat)).length),(9,.sl 1 (l.map fI)),(10,.i l.length),(11,.i i)]) (fun i=>[]) (fun i=>0≤i∧i≤l.length) (fun i=>(l.length-i).toNat) ?_ ?_
 ·simp
 rintro i ⟨i0,i1⟩
 by_cases hi:i<l.length
 ·have h1:=Nz i0 hi
  have h2:=Ny l (i+1).toNat
  rw[h1,ax]at h2
  simp[hi]
  (with_reducible repeat' first|refine Xk ?_<;>try simp|refine Xs ?_ ?_<;>intro h<;>(try intro h')<;>(try simp[h])<;>(try omega)|refine Xg ?_|omega)
  refine LJ.i (i+1) (by first|rfl|simp[h1]) (by first|rfl|simp[h1]) rfl rfl ?_
  exact⟨by omega,by omega,by omega⟩
 ·have e1:(l.take i.toNat)=l:=js (by omega)
  simp[hi,e1]
  refine Yn (f191 (fl l).length (by omega)) ?_
  simp
  refine fe.e (0:Int) (fun j=>[(6,.eT 0 j.toNat 1 0 (fl (l.take j.toNat)).length),(25,.sl 1 (l.map fI)),(26,.i l.length),(27,.i j)]) (fun j=>[.row 3 j.toNat (if j=0 then cl f1 (List.replicate (fl l).length 0)else cl f1 (fl (l.take j.toNat)))]) (fun j=>0≤j∧j≤l.length) (fun j=>(l.length-j).toNat) ?_ ?_
  ·simp
  rintro j ⟨j0,j1⟩
  by_cases hj:j<l.length
  ·have h1:=Nz j0 hj
   have h2:=Ny l (j+1).toNat
   rw[h1,ax]at h2
   by_cases hz:j=0
   ·subst hz
    simp at h1 h2
    simp[hj]
    (with_reducible repeat' first|refine Xk ?_<;>try simp|refine Xs ?_ ?_<;>intro h<;>(try intro h')<;>(try simp[h])<;>(try omega)|refine Xg ?_|omega)
    refine LJ.i (1) (by first|rfl|simp[h1]) (by first|rfl|simp[h1]) rfl rfl ?_
    exact⟨by omega,by omega,by omega⟩
   ·rw[if_neg hz]
    simp[hj]
    (with_reducible repeat' first|refine Xk ?_<;>try simp|refine Xs ?_ ?_<;>intro h<;>(try intro h')<;>(try simp[h])<;>(try omega)|refine Xg ?_|omega)
    have e2:(j+1).toNat=j.toNat+1:=by omega
    rw[e2]at h1
    refine LJ.i (j+1) (by first|rfl|simp[h1,e2,show ¬ (j+1=0)by omega]) (by first|rfl|simp[h1,e2,show ¬ (j+1=0)by omega]) rfl rfl ?_
    exact⟨by omega,by omega,by omega⟩
  ·have e1:(l.take j.toNat)=l:=js (by omega)
   have mF:j.toNat=l.length:=by omega
   rw[if_neg (by omega)]
   simp[hj,e1,mF]
@[irreducible] def lS(p:Pos):List Int:=fl [p.cs,p.h0,p.h1,[p.fq,p.side]]
theorem wv(p:Pos):lS p=fl [p.cs,p.h0,p.h1,[p.fq,p.side]]:=by unfold lS;rfl
def l5(p:Pos):ByteArray:=((lS p).map fun n=>IntKind.u8.wrap n).foldl (fun r n=>r.push (UInt8.ofNat n.toNat)) ByteArray.empty
@[simp] theorem aic(l:List Int)(n:Int):cl fU l ++ [.val (.int .u8 n)]=cl fU (l ++ [n]):=by rw[← oZ,Iv]
@[simp] theorem Sd:∀ l:List Int,bytesOf (cl fU l)=some l
 | []=>by simp[bytesOf]
 | a::r=>by rw[ni,Iv,dO,bytesOf,Sd r]
theorem f101(p:Pos)(h:0<p.cs.length)(hl:(lS p).length<1000):Wf T 101 [dP p] [] (Is (.val (.string (l5 p)))):=by
 have hk:0<(lS p).length:=by simp[wv,uc];omega
 have hc:=f148 [p.cs,p.h0,p.h1,[p.fq,p.side]] (by simp) (by rw[← wv];exact⟨hk,hl⟩)
 rw[← wv]at hc
 refine Yg Cf ?_
 simp[Cf]
 refine fw.nr rfl rfl hc (by simp[lY,chunks];unfold dI;simp only[List.map_cons,List.map_nil,rC]) (by simp) (by simp) ?_
 simp
 refine fe.e (0:Int) (fun y=>[(3,if y=0 then .emp else .eT 4 (y.toNat-1) 1 0 y.toNat),(20,.eT 3 4 1 0 (lS p).length),(21,.i (lS p).length),(22,.i y)]) (fun y=>[.row 44 0 p.cells,.row 3 0 [.i p.fq,.i p.side],.row 33 0 [dI p.cs,dI p.h0,dI p.h1,.eT 1 0 1 0 2],.row 3 4 (cl f1 (lS p))]++(if y=0 then []else [.row 5 (y.toNat-1) (cl fU (((lS p).take y.toNat).map fun n=>IntKind.u8.wrap n))])) (fun y=>0≤y∧y≤(lS p).length) (fun y=>((lS p).length-y).toNat) ?_ ?_
 ·simp
 rintro i ⟨i0,i1⟩
 by_cases hi:i<(lS p).length
 ·have hT:(List.take (i.toNat+1) (lS p)).map (fun n=>IntKind.u8.wrap n)=(List.take i.toNat (lS p)).map (fun n=>IntKind.u8.wrap n) ++ [IntKind.u8.wrap (gt (lS p) i)]:=by
   rw[← show(i+1).toNat=i.toNat+1 by omega,gE i0 hi];simp
  have e1:(i+1).toNat=i.toNat+1:=by omega
  by_cases hz:i=0
  ·rw[if_pos hz,if_pos hz]
   have ez:i.toNat=0:=by omega
   rw[ez]at hT e1
   simp at hT
   simp[hi]
   (with_reducible repeat' first|refine Xk ?_<;>try simp|refine Xs ?_ ?_<;>intro h<;>(try intro h')<;>(try simp[h])<;>(try omega)|refine Xg ?_|omega)
   refine LJ.i (i+1) (by first|rfl|simp[show ¬ (i+1=0)by omega,e1,hT,gL]) (by first|rfl|simp[show ¬ (i+1=0)by omega,e1,hT,gL]) rfl rfl ?_
   exact⟨by omega,by omega,by omega⟩
  ·rw[if_neg hz,if_neg hz]
   simp[hi]
   (with_reducible repeat' first|refine Xk ?_<;>try simp|refine Xs ?_ ?_<;>intro h<;>(try intro h')<;>(try simp[h])<;>(try omega)|refine Xg ?_|omega)
   have e2:i.toNat-1+1=i.toNat:=by omega
   simp at hT
   refine LJ.i (i+1) (by first|rfl|simp[show ¬ (i+1=0)by omega,e1,hT,e2,cP]) (by first|rfl|simp[show ¬ (i+1=0)by omega,e1,hT,e2,cP]) rfl rfl ?_
   exact⟨by omega,by omega,by omega⟩
 ·rw[if_neg (by omega),if_neg (by omega)]
  have e3:i.toNat=(lS p).length:=by omega
  simp[hi,xm,e3]
  rfl
set_option maxRecDepth 100000
set_option maxHeartbeats 4000000
def zW(n:Int):ByteArray:=⟨#[UInt8.ofNat (48+n.toNat)]⟩
theorem f209(n:Int)(hn:0≤n∧n≤9):Wf T 209 [.i n] [] (Is (.val (.string (zW n)))):=by
 rcases(show n=0∨n=1∨n=2∨n=3∨n=4∨n=5∨n=6∨n=7∨n=8∨n=9 by omega)with rfl|rfl|rfl|rfl|rfl|rfl|rfl|rfl|rfl|rfl
 all_goals exact oz (k:=100) (by kernel_rfl)
def tM(b:Bool):ByteArray:=if b then⟨#[116,114,117,101]⟩else⟨#[102,97,108,115,101]⟩
theorem f210(b:Bool):Wf T 210 [.b b] [] (Is (.val (.string (tM b)))):=by
 cases b
 ·exact oz (k:=100) (by kernel_rfl)
 ·exact oz (k:=100) (by kernel_rfl)
@[simp] theorem anR(a b:ByteArray):yR .add a b=if nU ((a.size+b.size:Nat):Int) 9223372036854775807 then some (.val (.string (a++b)))else none:=rfl
theorem foldl_push(l:List Int):∀ r:ByteArray,(l.foldl (fun r n=>r.push (UInt8.ofNat n.toNat)) r).data.toList=r.data.toList++l.map fun n=>UInt8.ofNat n.toNat:=by
 induction l with
 | nil=>intro r;simp
 | cons a l ih=>intro r;rw[cH,ih];simp[ByteArray.push]
theorem Pa(p:Pos):(l5 p).data.toList=(lS p).map fun n=>UInt8.ofNat (IntKind.u8.wrap n).toNat:=by
 unfold l5
 rw[foldl_push]
 simp[ByteArray.empty,ByteArray.emptyWithCapacity]
 rfl
@[simp] theorem akg(p:Pos):(l5 p).size=(lS p).length:=by
 show(l5 p).data.size=_
 rw[← cU,Pa,List.length_map]
@[simp] theorem anu(a:Array UInt8):ByteArray.size ⟨a⟩=a.size:=rfl
@[simp] theorem aiP(n:Int):(zW n).size=1:=rfl
@[simp] theorem R7(b:Bool):(tM b).size≤5:=by cases b<;>decide
def mh(s:e9):ByteArray:=zW s.kind++⟨#[32]⟩++zW s.cur++⟨#[32]⟩++tM s.iu++⟨#[32]⟩++l5 s.p
theorem f165(s:e9)(h1:0≤s.kind∧s.kind≤9)(h2:0≤s.cur∧s.cur≤9)(h:0<s.p.cs.length)(hl:(lS s.p).length<1000):Wf T 165 [.agg s.cells] [] (Is (.val (.string (mh s)))):=by
 have hb:=R7 s.iu
 refine Yg CV ?_
 simp[CV,e9.cells]
 refine Yt (f209 s.kind h1) ?_
 simp
 (with_reducible repeat' first|refine Xk ?_<;>try simp|refine Xs ?_ ?_<;>intro h<;>(try intro h')<;>(try simp[h])<;>(try omega)|refine Xg ?_|omega)
 refine Yt (f209 s.cur h2) ?_
 simp
 (with_reducible repeat' first|refine Xk ?_<;>try simp|refine Xs ?_ ?_<;>intro h<;>(try intro h')<;>(try simp[h])<;>(try omega)|refine Xg ?_|omega)
 refine Yt (f210 s.iu) ?_
 simp
 (with_reducible repeat' first|refine Xk ?_<;>try simp|refine Xs ?_ ?_<;>intro h<;>(try intro h')<;>(try simp[h])<;>(try omega)|refine Xg ?_|omega)
 refine Yt (f101 s.p h hl) ?_
 simp
 (with_reducible repeat' first|refine Xk ?_<;>try simp|refine Xs ?_ ?_<;>intro h<;>(try intro h')<;>(try simp[h])<;>(try omega)|refine Xg ?_|omega)
 rfl
theorem ofNat_inj{m n:Nat}(hm:m<256)(hn:n<256)(h:UInt8.ofNat m=UInt8.ofNat n):m=n:=by
 have:=congrArg UInt8.toNat h
 simp only[UInt8.toNat_ofNat']at this
 omega
theorem Rv{n:Int}(h:0≤n∧n<256):IntKind.u8.wrap n=n:=by
 simp only[IntKind.wrap,IntKind.bits,IntKind.signed]
 simp
 omega
theorem PL:∀ {a b:List Int},(∀ n∈a,0≤n∧n<256)→(∀ n∈b,0≤n∧n<256)→(a.map fun n=>UInt8.ofNat (IntKind.u8.wrap n).toNat)=(b.map fun n=>UInt8.ofNat (IntKind.u8.wrap n).toNat)→a=b
 | [],[],_,_,_=>rfl
 | [],_::_,_,_,h=>by simp at h
 | _::_,[],_,_,h=>by simp at h
 | x::a,y::b,ha,hb,h=>by
  simp only[List.map_cons,bY]at h
  have hx:=ha x (by simp)
  have hy:=hb y (by simp)
  rw[Rv hx,Rv hy]at h
  have e:=ofNat_inj (by omega) (by omega) h.1
  rw[PL (fun n hn=>ha n (by simp[hn])) (fun n hn=>hb n (by simp[hn])) h.2,show x=y by omega]
theorem JX{g:eU}(hg:fr g){p:Pos}(hp:fR g p):∀ n∈lS p,0≤n∧n<256:=by
 have hk:=hg.kinds
 have hr:=hg.fq
 have h5:=yA hr.1 (by omega)
 have hh:∀ {l:List Int},oC g l→∀ n∈l,0≤n∧n<256:=fun{l} h n hn=>by
  obtain⟨i,h0,h1,rfl⟩:=qm.1 hn
  have:=h.at_ i h0 h1
  omega
 intro n hn
 rw[wv,uc]at hn
 simp only[aN,cT,List.mem_append,aq,c8,or_false]at hn
 have Jz:=hp.fq
 have uA:=hp.side
 rcases hn with hn|hn|hn|rfl|rfl
 ·have:=hp.cs n hn;omega
 ·exact hh hp.h0 n hn
 ·exact hh hp.h1 n hn
 ·omega
 ·omega
theorem Xv{g:eU}{p q:Pos}(hp:fR g p)(hq:fR g q)(h:lS p=lS q):p=q:=by
 rw[wv,wv,uc,uc]at h
 simp only[aN,cT,aw]at h
 have a1:=hp.size;have a2:=hq.size
 have b1:=hp.h0.len;have b2:=hq.h0.len
 have c1:=hp.h1.len;have c2:=hq.h1.len
 obtain⟨e1,h⟩:=eH h (by omega)
 obtain⟨e2,h⟩:=eH h (by omega)
 obtain⟨e3,h⟩:=eH h (by omega)
 simp only[bY,and_true]at h
 cases p;cases q
 simp_all
theorem O'{g:eU}(hg:fr g){p q:Pos}(hp:fR g p)(hq:fR g q)(h:l5 p=l5 q):p=q:=by
 have h2:=congrArg (fun b:ByteArray=>b.data.toList) h
 simp only[Pa]at h2
 exact Xv hp hq (PL (JX hg hp) (JX hg hq) h2)
theorem Xw(s:e9):(mh s).data.toList=UInt8.ofNat (48+s.kind.toNat)::32::UInt8.ofNat (48+s.cur.toNat)::32::((tM s.iu).data.toList++32::(l5 s.p).data.toList):=by
 unfold mh zW
 simp
theorem Pc{g:eU}(hg:fr g){s t:e9}(hs:iD g s)(ht:iD g t)(h:mh s=mh t):s=t:=by
 have h2:=congrArg (fun b:ByteArray=>b.data.toList) h
 simp only[Xw,bY,true_and]at h2
 obtain⟨e1,e2,h3⟩:=h2
 have hk:=hg.kinds
 have hb:=hg.ib.size
 have k1:=hs.kind;have k2:=ht.kind
 have u1:=hs.cur;have u2:=ht.cur
 have f1:=ofNat_inj (by omega) (by omega) e1
 have f2:=ofNat_inj (by omega) (by omega) e2
 obtain⟨p,k,c,b⟩:=s
 obtain⟨p',k',c',b'⟩:=t
 dsimp only at *
 have rI:b=b'∧l5 p=l5 p':=by
  cases b<;>cases b'
  ·simp[tM]at h3
   exact⟨rfl,by cases hx:l5 p;cases hy:l5 p';simp_all [eD]⟩
  ·simp[tM]at h3
  ·simp[tM]at h3
  ·simp[tM]at h3
   exact⟨rfl,by cases hx:l5 p;cases hy:l5 p';simp_all [eD]⟩
 have ep:p=p':=O' hg hs.p ht.p rI.2
 rw[rI.1,ep,show k=k' by omega,show c=c' by omega]
theorem Gf(a b:ByteArray):nS (.string a) (.string b)=decide (a=b):=by
 obtain⟨a⟩:=a
 obtain⟨b⟩:=b
 show(a == b)=_
 rw[Bool.eq_iff_iff,beq_iff_eq,decide_eq_true_iff,ByteArray.mk.injEq]
theorem Kc{g:eU}(hg:fr g){t:e9}(ht:iD g t):∀ {l:List e9},(∀ s∈l,iD g s)→kI (l.map fun s=>((.string (mh s):Value),D.b true)) (.string (mh t))=if t∈l then some (.b true)else none
 | [],_=>by simp[kI]
 | a::l,h=>by
  rw[List.map_cons,kI,Gf,Kc hg ht fun s hs=>h s (by simp[hs])]
  by_cases e:t=a
  ·subst e;simp
  ·have:¬ mh t=mh a:=fun k=>e (Pc hg ht (h a (by simp)) k)
   simp[this,e]
theorem Kf{g:eU}(hg:fr g){t:e9}(ht:iD g t):∀ {l:List e9},(∀ s∈l,iD g s)→t ∉ l→jA (l.map fun s=>((.string (mh s):Value),D.b true)) (.string (mh t)) (.b true)=(l ++ [t]).map fun s=>((.string (mh s):Value),D.b true)
 | [],_,_=>by simp[jA]
 | a::l,h,hn=>by
  simp only[aq,not_or]at hn
  have:¬ mh t=mh a:=fun k=>hn.1 (Pc hg ht (h a (by simp)) k)
  rw[List.map_cons,jA,Gf,Kf hg ht (fun s hs=>h s (by simp[hs])) hn.2]
  simp[this]
set_option maxRecDepth 10000
set_option maxHeartbeats 8000000
theorem fw.inl{T:gj}{f:FuncId}{args:List D}{dst:Option Nat}{s:St}{K:St→Prop}(fn:eW)(hf:T.fn f=some fn)(hp:fn.full=true)(hl:args.length≤fn.ntmps)(hz:pO fn.body=true)
  (h:XC T fn.body { env:=pL args,H:=s.H } (ub fn.results fn.own s.H.length fun d H'=>K { s with env:=put s.env dst d,H:=H' })):fw T f args dst s K .mk:=.inr ⟨fn,hf,hp,Wf.x hf hl h hz⟩
abbrev sQ(g:eU)(p:Pos)(st:e9)(outs:D):U:=[.row 41 0 g.cells,.row 44 0 p.cells,.row 164 0 [outs],.row 41 0 g.cells,.row 44 0 p.cells,.dead,.dead,.dead,.row 171 0 st.cells,.dead]
theorem Tu(g:eU)(hg:fr g)(p:Pos)(hp:fR g p)(st t:e9)(ht:iD g t):Wf T 122 [.agg t.cells,.agg [.i 0,.i 0],.ptr 1 0 0,.ptr 2 0 0] (sQ g p st .emp ++ [.row 171 0 t.cells])
  (fun _ H'=>match lO p.side t with
   | none=>H'=sQ g p st .emp ++ [.row 171 0 t.cells]
   | some o=>H'=sQ g p st (.eT 11 0 6 0 1) ++ [.row 171 0 t.cells,.row 113 0 (cl fD.cells [o])]):=by
 have gy:=ht.p.size
 have kQ:=ht.cur
 have jy:=ht.p.small hg
 have oG:=hg.ib.size
 have hk:=hg.kinds
 have l0:=ht.p.h0.len
 have l1:=ht.p.h1.len
 have gH:=hp.side
 have V7:=ht.p.side
 refine Yz oU (gY 37 [13,14,15] oU.body) ?_
 simp[oU,gY,jc,lW,lX,me,ky,sQ,e9.cells]
 by_cases h0:gt t.p.cs t.cur=0
 ·simp[h0]
  (with_reducible repeat' first|refine Xk ?_<;>try simp|refine Xs ?_ ?_<;>intro h<;>(try intro h')<;>(try simp[h])<;>(try omega)|refine Xg ?_|omega)
  refine Yn (f91 t jy (by omega)) ?_
  simp
  (with_reducible repeat' first|refine Xk ?_<;>try simp|refine Xs ?_ ?_<;>intro h<;>(try intro h')<;>(try simp[h])<;>(try omega)|refine Xg ?_|omega)
  refine Yt (f92 (k:=t.kind) (s:=p.side) ht.kind.1 (by have:=ht.kind;omega) gH.1 gH.2) ?_
  simp
  (with_reducible repeat' first|refine Xk ?_<;>try simp|refine Xs ?_ ?_<;>intro h<;>(try intro h')<;>(try simp[h])<;>(try omega)|refine Xg ?_|omega)
  have q0:=gI (l:=t.p.cs) (n:=t.cur) (v:=1+2*t.kind+p.side) kQ.1 (by omega)
  simp[lO,h0,iS,gL,q0]
 ·simp[h0,lO]
  (with_reducible repeat' first|refine Xk ?_<;>try simp|refine Xs ?_ ?_<;>intro h<;>(try intro h')<;>(try simp[h])<;>(try omega)|refine Xg ?_|omega)
theorem Tv(g:eU)(hg:fr g)(p:Pos)(hp:fR g p)(st t:e9)(ht:iD g t)(outs:List fD)(ho:outs.length<2 ^ 39)(Ox:0<outs.length):Wf T 122 [.agg t.cells,.agg [.i 0,.i 0],.ptr 1 0 0,.ptr 2 0 0] (sQ g p st (.eT 10 (outs.length-1) 6 0 outs.length) ++ [.row 113 (outs.length-1) (cl fD.cells outs),.row 171 0 t.cells])
  (fun _ H'=>match lO p.side t with
   | none=>H'=sQ g p st (.eT 10 (outs.length-1) 6 0 outs.length) ++ [.row 113 (outs.length-1) (cl fD.cells outs),.row 171 0 t.cells]
   | some o=>H'=sQ g p st (.eT 10 (outs ++ [o]).length.pred 6 0 (outs ++ [o]).length) ++ [.row 113 (outs ++ [o]).length.pred (cl fD.cells (outs ++ [o])),.row 171 0 t.cells]):=by
 have gy:=ht.p.size
 have kQ:=ht.cur
 have jy:=ht.p.small hg
 have oG:=hg.ib.size
 have hk:=hg.kinds
 have l0:=ht.p.h0.len
 have l1:=ht.p.h1.len
 have gH:=hp.side
 have V7:=ht.p.side
 refine Yz oU (gY 37 [14,15,16] oU.body) ?_
 simp[oU,gY,jc,lW,lX,me,ky,sQ,e9.cells]
 by_cases h0:gt t.p.cs t.cur=0
 ·simp[h0]
  (with_reducible repeat' first|refine Xk ?_<;>try simp|refine Xs ?_ ?_<;>intro h<;>(try intro h')<;>(try simp[h])<;>(try omega)|refine Xg ?_|omega)
  refine Yn (f91 t jy (by omega)) ?_
  simp
  (with_reducible repeat' first|refine Xk ?_<;>try simp|refine Xs ?_ ?_<;>intro h<;>(try intro h')<;>(try simp[h])<;>(try omega)|refine Xg ?_|omega)
  refine Yt (f92 (k:=t.kind) (s:=p.side) ht.kind.1 (by have:=ht.kind;omega) gH.1 gH.2) ?_
  simp
  (with_reducible repeat' first|refine Xk ?_<;>try simp|refine Xs ?_ ?_<;>intro h<;>(try intro h')<;>(try simp[h])<;>(try omega)|refine Xg ?_|omega)
  have q0:=gI (l:=t.p.cs) (n:=t.cur) (v:=1+2*t.kind+p.side) kQ.1 (by omega)
  simp[lO,h0,iS,q0]
  (with_reducible repeat' first|refine Xk ?_<;>try simp[show outs.length-1+1=outs.length by omega]|refine Xs ?_ ?_<;>intro h<;>(try intro h')<;>(try simp[h,show outs.length-1+1=outs.length by omega])<;>(try omega)|refine Xg ?_|omega)
 ·simp[h0,lO]
  (with_reducible repeat' first|refine Xk ?_<;>try simp|refine Xs ?_ ?_<;>intro h<;>(try intro h')<;>(try simp[h])<;>(try omega)|refine Xg ?_|omega)
