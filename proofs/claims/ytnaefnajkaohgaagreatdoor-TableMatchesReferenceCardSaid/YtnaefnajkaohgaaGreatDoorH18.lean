/- 18 -/
import Derived.Test.YtnaefnajkaohgaaGreatDoorH17
set_option linter.all false
namespace Go.Proofs.YtnaefnajkaohgaaGreatDoor
open Go Go.AL Classical
set_option maxRecDepth 10000
set_option maxHeartbeats 4000000
@[simp] theorem aje(t sz bytes:Nat)(z:List D)(m:Int)(vn:Nat):Gu t sz bytes z .eG (.val (.int .i64 m)) vn=if 0<m∧pa (m*bytes) 140737488355328∧pa m 9223372036854775807 then some (.eF vn 0 sz 0 m.toNat,.new (.row t 0 (List.replicate m.toNat z).flatten))else none:=rfl
theorem f191(n:Int)(hn:0<n∧n<1000):Wf T 191 [.eG,.i n] [] (fun d H=>d = .eF 0 0 1 0 0∧H = [.row 3 0 (cl f1 (List.replicate n.toNat 0))]):=by
 refine Yg EN ?_
 simp[EN]
 (with_reducible repeat' first|refine Xk ?_<;>try simp|refine Xs ?_ ?_<;>intro h<;>(try intro h')<;>(try simp[h])<;>try omega|refine Xg ?_|omega)
@[irreducible] def fl(l:List (List Int)):List Int:=l.flatten
theorem vM(l:List (List Int)):fl l=l.flatten:=by unfold fl;rfl
@[simp] theorem alA:fl [] = []:=by simp[vM]
theorem Pm{l:List (List Int)}{i:Int}(h0:0≤i)(h:i<l.length):fl (l.take (i+1).toNat)=fl (l.take i.toNat)++gt l i:=by
 rw[gx h0 h];simp[vM]
def Pj(l:List (List Int))(n:Nat):(fl (l.take n)).length≤(fl l).length:=by
 simp only[vM]
 conv=>rhs;rw[← bC n l]
 simp only[dD,ay]
 omega
def f148(l:List (List Int))(hl:l.length≤10)(hn:0<(fl l).length∧(fl l).length<1000):Wf T 148 [.sl 1 (l.map fI)] [] (fun d H=>d = .eF 0 l.length 1 0 (fl l).length∧H = [.row 3 l.length (cl f1 (fl l))]):=by
 have gw:0<l.length:=by
  cases l with
  | nil=>simp at hn
  | cons a r=>simp
 refine Yg En ?_
 simp[En]
 refine eN.e (0:Int) (fun i=>[(0,.sl 1 (l.map fI)),(3,.i (fl (l.take i.toNat)).length),(9,.sl 1 (l.map fI)),(10,.i l.length),(11,.i i)]) (fun i=>[]) (fun i=>0≤i∧i≤l.length) (fun i=>(l.length-i).toNat) ?_ ?_
 ·simp
 rintro i ⟨i0,i1⟩
 by_cases hi:i<l.length
 ·have h1:=Pm i0 hi
  have h2:=Pj l (i+1).toNat
  rw[h1,ay]at h2
  simp[hi]
  (with_reducible repeat' first|refine Xk ?_<;>try simp|refine Xs ?_ ?_<;>intro h<;>(try intro h')<;>(try simp[h])<;>try omega|refine Xg ?_|omega)
  refine LJ.i (i+1) (by first|rfl|simp[h1]) (by first|rfl|simp[h1]) rfl rfl ?_
  exact l4
 ·have e1:(l.take i.toNat)=l:=jh (by omega)
  simp[hi,e1]
  refine Yn (f191 (fl l).length (by omega)) ?_
  simp
  refine eN.e (0:Int) (fun j=>[(6,.eF 0 j.toNat 1 0 (fl (l.take j.toNat)).length),(25,.sl 1 (l.map fI)),(26,.i l.length),(27,.i j)]) (fun j=>[.row 3 j.toNat (if j=0 then cl f1 (List.replicate (fl l).length 0)else cl f1 (fl (l.take j.toNat)))]) (fun j=>0≤j∧j≤l.length) (fun j=>(l.length-j).toNat) ?_ ?_
  ·simp
  rintro j ⟨j0,j1⟩
  by_cases hj:j<l.length
  ·have h1:=Pm j0 hj
   have h2:=Pj l (j+1).toNat
   rw[h1,ay]at h2
   by_cases hz:j=0
   ·subst hz
    simp at h1 h2
    simp[hj]
    (with_reducible repeat' first|refine Xk ?_<;>try simp|refine Xs ?_ ?_<;>intro h<;>(try intro h')<;>(try simp[h])<;>try omega|refine Xg ?_|omega)
    refine LJ.i (1) (by first|rfl|simp[h1]) (by first|rfl|simp[h1]) rfl rfl ?_
    exact l4
   ·rw[if_neg hz]
    simp[hj]
    (with_reducible repeat' first|refine Xk ?_<;>try simp|refine Xs ?_ ?_<;>intro h<;>(try intro h')<;>(try simp[h])<;>try omega|refine Xg ?_|omega)
    have e2:(j+1).toNat=j.toNat+1:=by omega
    rw[e2]at h1
    refine LJ.i (j+1) (by first|rfl|simp[h1,e2,show ¬ (j+1=0)by omega]) (by first|rfl|simp[h1,e2,show ¬ (j+1=0)by omega]) rfl rfl ?_
    exact l4
  ·have e1:(l.take j.toNat)=l:=jh (by omega)
   have oG:j.toNat=l.length:=by omega
   rw[if_neg (by omega)]
   simp[hj,e1,oG]
@[irreducible] def mL(p:Pos):List Int:=fl [p.cs,p.h0,p.h1,[p.ff,p.side]]
theorem xY(p:Pos):mL p=fl [p.cs,p.h0,p.h1,[p.ff,p.side]]:=by unfold mL;rfl
def mS(p:Pos):ByteArray:=((mL p).map fun n=>IntKind.u8.wrap n).foldl (fun r n=>r.push (UInt8.ofNat n.toNat)) ByteArray.empty
@[simp] theorem akB(l:List Int)(n:Int):cl fU l ++ [.val (.int .u8 n)]=cl fU (l ++ [n]):=by rw[← pR,Ki]
@[simp] theorem T9:∀ l:List Int,bytesOf (cl fU l)=some l
 | []=>by simp[bytesOf]
 | a::r=>by rw[mY,Ki,et,bytesOf,T9 r]
def f101(p:Pos)(h:0<p.cs.length)(hl:(mL p).length<1000):Wf T 101 [dP p] [] (Is (.val (.string (mS p)))):=by
 have hk:0<(mL p).length:=by simp[xY,vM];omega
 have hc:=f148 [p.cs,p.h0,p.h1,[p.ff,p.side]] (by simp) (by rw[← xY];exact⟨hk,hl⟩)
 rw[← xY]at hc
 refine Yg DO ?_
 simp[DO]
 refine fg.nr rfl rfl hc (by simp[ng,chunks];unfold dI;simp only[List.map_cons,List.map_nil,vK]) (by simp) (by simp) ?_
 simp
 refine eN.e (0:Int) (fun y=>[(3,if y=0 then .eG else .eF 4 (y.toNat-1) 1 0 y.toNat),(20,.eF 3 4 1 0 (mL p).length),(21,.i (mL p).length),(22,.i y)]) (fun y=>[.row 44 0 p.cells,.row 3 0 [.i p.ff,.i p.side],.row 33 0 [dI p.cs,dI p.h0,dI p.h1,.eF 1 0 1 0 2],.row 3 4 (cl f1 (mL p))]++(if y=0 then []else [.row 5 (y.toNat-1) (cl fU (((mL p).take y.toNat).map fun n=>IntKind.u8.wrap n))])) (fun y=>0≤y∧y≤(mL p).length) (fun y=>((mL p).length-y).toNat) ?_ ?_
 ·simp
 rintro i ⟨i0,i1⟩
 by_cases hi:i<(mL p).length
 ·have hT:(List.take (i.toNat+1) (mL p)).map (fun n=>IntKind.u8.wrap n)=(List.take i.toNat (mL p)).map (fun n=>IntKind.u8.wrap n) ++ [IntKind.u8.wrap (gt (mL p) i)]:=by
   rw[← show(i+1).toNat=i.toNat+1 by omega,gx i0 hi];simp
  have e1:(i+1).toNat=i.toNat+1:=by omega
  by_cases hz:i=0
  ·rw[if_pos hz,if_pos hz]
   have ez:i.toNat=0:=by omega
   rw[ez]at hT e1
   simp at hT
   simp[hi]
   (with_reducible repeat' first|refine Xk ?_<;>try simp|refine Xs ?_ ?_<;>intro h<;>(try intro h')<;>(try simp[h])<;>try omega|refine Xg ?_|omega)
   refine LJ.i (i+1) (by first|rfl|simp[show ¬ (i+1=0)by omega,e1,hT,ix]) (by first|rfl|simp[show ¬ (i+1=0)by omega,e1,hT,ix]) rfl rfl ?_
   exact l4
  ·rw[if_neg hz,if_neg hz]
   simp[hi]
   (with_reducible repeat' first|refine Xk ?_<;>try simp|refine Xs ?_ ?_<;>intro h<;>(try intro h')<;>(try simp[h])<;>try omega|refine Xg ?_|omega)
   have e2:i.toNat-1+1=i.toNat:=by omega
   simp at hT
   refine LJ.i (i+1) (by first|rfl|simp[show ¬ (i+1=0)by omega,e1,hT,e2,cJ]) (by first|rfl|simp[show ¬ (i+1=0)by omega,e1,hT,e2,cJ]) rfl rfl ?_
   exact l4
 ·rw[if_neg (by omega),if_neg (by omega)]
  have e3:i.toNat=(mL p).length:=by omega
  simp[hi,y8,e3]
  rfl
set_option maxRecDepth 100000
def Bz(n:Int):ByteArray:=⟨#[UInt8.ofNat (48+n.toNat)]⟩
def f209(n:Int)(hn:0≤n∧n≤9):Wf T 209 [.i n] [] (Is (.val (.string (Bz n)))):=by
 rcases(show n=0∨n=1∨n=2∨n=3∨n=4∨n=5∨n=6∨n=7∨n=8∨n=9 by omega)with rfl|rfl|rfl|rfl|rfl|rfl|rfl|rfl|rfl|rfl
 all_goals exact pM (k:=100) (by kernel_rfl)
def vz(b:Bool):ByteArray:=if b then⟨#[116,114,117,101]⟩else⟨#[102,97,108,115,101]⟩
def f210(b:Bool):Wf T 210 [.b b] [] (Is (.val (.string (vz b)))):=by
 cases b
 ·exact pM (k:=100) (by kernel_rfl)
 ·exact pM (k:=100) (by kernel_rfl)
@[simp] theorem aqp(a b:ByteArray):Aw .add a b=if pa ((a.size+b.size:Nat):Int) 9223372036854775807 then some (.val (.string (a++b)))else none:=rfl
theorem foldl_push(l:List Int):∀ r:ByteArray,(l.foldl (fun r n=>r.push (UInt8.ofNat n.toNat)) r).data.toList=r.data.toList++l.map fun n=>UInt8.ofNat n.toNat:=by
 induction l with
 | nil=>intro r;simp
 | cons a l ih=>intro r;rw[cz,ih];simp[ByteArray.push]
def Q7(p:Pos):(mS p).data.toList=(mL p).map fun n=>UInt8.ofNat (IntKind.u8.wrap n).toNat:=by
 unfold mS
 rw[foldl_push]
 simp[ByteArray.empty,ByteArray.emptyWithCapacity]
 rfl
@[simp] theorem amJ(p:Pos):(mS p).size=(mL p).length:=by
 show(mS p).data.size=_
 rw[← cM,Q7,List.length_map]
@[simp] theorem ap2(a:Array UInt8):ByteArray.size ⟨a⟩=a.size:=rfl
@[simp] theorem alc(n:Int):(Bz n).size=1:=rfl
@[simp] theorem T1(b:Bool):(vz b).size≤5:=by cases b<;>decide
def nh(s:eU):ByteArray:=Bz s.kind++⟨#[32]⟩++Bz s.cur++⟨#[32]⟩++vz s.iL++⟨#[32]⟩++mS s.p
def f165(s:eU)(h1:0≤s.kind∧s.kind≤9)(h2:0≤s.cur∧s.cur≤9)(h:0<s.p.cs.length)(hl:(mL s.p).length<1000):Wf T 165 [.agg s.cells] [] (Is (.val (.string (nh s)))):=by
 have hb:=T1 s.iL
 refine Yg EC ?_
 simp[EC,eU.cells]
 refine Yt (f209 s.kind h1) ?_
 simp
 (with_reducible repeat' first|refine Xk ?_<;>try simp|refine Xs ?_ ?_<;>intro h<;>(try intro h')<;>(try simp[h])<;>try omega|refine Xg ?_|omega)
 refine Yt (f209 s.cur h2) ?_
 simp
 (with_reducible repeat' first|refine Xk ?_<;>try simp|refine Xs ?_ ?_<;>intro h<;>(try intro h')<;>(try simp[h])<;>try omega|refine Xg ?_|omega)
 refine Yt (f210 s.iL) ?_
 simp
 (with_reducible repeat' first|refine Xk ?_<;>try simp|refine Xs ?_ ?_<;>intro h<;>(try intro h')<;>(try simp[h])<;>try omega|refine Xg ?_|omega)
 refine Yt (f101 s.p h hl) ?_
 simp
 (with_reducible repeat' first|refine Xk ?_<;>try simp|refine Xs ?_ ?_<;>intro h<;>(try intro h')<;>(try simp[h])<;>try omega|refine Xg ?_|omega)
 rfl
def ofNat_inj{m n:Nat}(hm:m<256)(hn:n<256)(h:UInt8.ofNat m=UInt8.ofNat n):m=n:=by
 have:=congrArg UInt8.toNat h
 simp only[UInt8.toNat_ofNat']at this
 omega
def Tu{n:Int}(h:0≤n∧n<256):IntKind.u8.wrap n=n:=by
 simp only[IntKind.wrap,IntKind.bits,IntKind.signed]
 simp
 omega
theorem RD:∀ {a b:List Int},(∀ n∈a,0≤n∧n<256)→(∀ n∈b,0≤n∧n<256)→(a.map fun n=>UInt8.ofNat (IntKind.u8.wrap n).toNat)=(b.map fun n=>UInt8.ofNat (IntKind.u8.wrap n).toNat)→a=b
 | [],[],_,_,_=>rfl
 | [],_::_,_,_,h=>by simp at h
 | _::_,[],_,_,h=>by simp at h
 | x::a,y::b,ha,hb,h=>by
  simp only[List.map_cons,cD]at h
  have hx:=ha x (by simp)
  have hy:=hb y (by simp)
  rw[Tu hx,Tu hy]at h
  have e:=ofNat_inj (by omega) (by omega) h.1
  rw[RD (fun n hn=>ha n (by simp[hn])) (fun n hn=>hb n (by simp[hn])) h.2,show x=y by omega]
def LU{g:eH}(hg:fe g){p:Pos}(hp:fO g p):∀ n∈mL p,0≤n∧n<256:=by
 have hk:=hg.kinds
 have hr:=hg.ff
 have h5:=Af hr.1
 have hh:∀ {l:List Int},pP g l→∀ n∈l,0≤n∧n<256:=fun{l} h n hn=>by
  obtain⟨i,h0,h1,rfl⟩:=pc.1 hn
  have:=h.at_ i h0 h1
  omega
 intro n hn
 rw[xY,vM]at hn
 simp only[aL,c6,List.mem_append,au,cZ,or_false]at hn
 have Cg:=hp.ff
 have v8:=hp.side
 rcases hn with hn|hn|hn|rfl|rfl
 ·have:=hp.cs n hn;omega
 ·exact hh hp.h0 n hn
 ·exact hh hp.h1 n hn
 ·omega
 ·omega
def ZX{g:eH}{p q:Pos}(hp:fO g p)(hq:fO g q)(h:mL p=mL q):p=q:=by
 rw[xY,xY,vM,vM]at h
 simp only[aL,c6,aw]at h
 have a1:=hp.size;have a2:=hq.size
 have b1:=hp.h0.len;have b2:=hq.h0.len
 have c1:=hp.h1.len;have c2:=hq.h1.len
 obtain⟨e1,h⟩:=ef h (by omega)
 obtain⟨e2,h⟩:=ef h (by omega)
 obtain⟨e3,h⟩:=ef h (by omega)
 simp only[cD,and_true]at h
 cases p;cases q
 simp_all
def Q6{g:eH}(hg:fe g){p q:Pos}(hp:fO g p)(hq:fO g q)(h:mS p=mS q):p=q:=by
 have h2:=congrArg (fun b:ByteArray=>b.data.toList) h
 simp only[Q7]at h2
 exact ZX hp hq (RD (LU hg hp) (LU hg hq) h2)
def ZY(s:eU):(nh s).data.toList=UInt8.ofNat (48+s.kind.toNat)::32::UInt8.ofNat (48+s.cur.toNat)::32::((vz s.iL).data.toList++32::(mS s.p).data.toList):=by
 unfold nh Bz
 simp
def Q9{g:eH}(hg:fe g){s t:eU}(hs:jk g s)(ht:jk g t)(h:nh s=nh t):s=t:=by
 have h2:=congrArg (fun b:ByteArray=>b.data.toList) h
 simp only[ZY,cD,true_and]at h2
 obtain⟨e1,e2,h3⟩:=h2
 have hk:=hg.kinds
 have hb:=hg.iw.size
 have k1:=hs.kind;have k2:=ht.kind
 have u1:=hs.cur;have u2:=ht.cur
 have f1:=ofNat_inj (by omega) (by omega) e1
 have f2:=ofNat_inj (by omega) (by omega) e2
 obtain⟨p,k,c,b⟩:=s
 obtain⟨p',k',c',b'⟩:=t
 dsimp only at *
 have rD:b=b'∧mS p=mS p':=by
  cases b<;>cases b'
  ·simp[vz]at h3
   exact⟨rfl,by cases hx:mS p;cases hy:mS p';simp_all [dY]⟩
  ·simp[vz]at h3
  ·simp[vz]at h3
  ·simp[vz]at h3
   exact⟨rfl,by cases hx:mS p;cases hy:mS p';simp_all [dY]⟩
 have ep:p=p':=Q6 hg hs.p ht.p rD.2
 rw[rD.1,ep,show k=k' by omega,show c=c' by omega]
def Im(a b:ByteArray):o9 (.string a) (.string b)=decide (a=b):=by
 obtain⟨a⟩:=a
 obtain⟨b⟩:=b
 show(a == b)=_
 rw[Bool.eq_iff_iff,beq_iff_eq,decide_eq_true_iff,ByteArray.mk.injEq]
theorem Md{g:eH}(hg:fe g){t:eU}(ht:jk g t):∀ {l:List eU},(∀ s∈l,jk g s)→lL (l.map fun s=>((.string (nh s):Value),D.b true)) (.string (nh t))=if t∈l then some (.b true)else none
 | [],_=>by simp[lL]
 | a::l,h=>by
  rw[List.map_cons,lL,Im,Md hg ht fun s hs=>h s (by simp[hs])]
  by_cases e:t=a
  ·subst e;simp
  ·have:¬ nh t=nh a:=fun k=>e (Q9 hg ht (h a (by simp)) k)
   simp[this,e]
theorem Mg{g:eH}(hg:fe g){t:eU}(ht:jk g t):∀ {l:List eU},(∀ s∈l,jk g s)→t ∉ l→ke (l.map fun s=>((.string (nh s):Value),D.b true)) (.string (nh t)) (.b true)=(l ++ [t]).map fun s=>((.string (nh s):Value),D.b true)
 | [],_,_=>by simp[ke]
 | a::l,h,hn=>by
  simp only[au,not_or]at hn
  have:¬ nh t=nh a:=fun k=>hn.1 (Q9 hg ht (h a (by simp)) k)
  rw[List.map_cons,ke,Im,Mg hg ht (fun s hs=>h s (by simp[hs])) hn.2]
  simp[this]
set_option maxRecDepth 10000
set_option maxHeartbeats 8000000
def fg.inl{T:gy}{f:FuncId}{args:List D}{dst:Option Nat}{s:St}{K:St→Prop}(fn:eI)(hf:T.fn f=some fn)(hp:fn.full=true)(hl:args.length≤fn.ntmps)(hz:q6 fn.body=true)
  (h:XC T fn.body { env:=qY args,H:=s.H } (vL fn.results fn.own s.H.length fun d H'=>K { s with env:=put s.env dst d,H:=H' })):fg T f args dst s K .mk:=.inr ⟨fn,hf,hp,Wf.x hf hl h hz⟩
abbrev uI(g:eH)(p:Pos)(st:eU)(outs:D):U:=[.row 41 0 g.cells,.row 44 0 p.cells,.row 164 0 [outs],.row 41 0 g.cells,.row 44 0 p.cells,.dead,.dead,.dead,.row 171 0 st.cells,.dead]
def Vp(g:eH)(hg:fe g)(p:Pos)(hp:fO g p)(st t:eU)(ht:jk g t):Wf T 122 [.agg t.cells,.agg [.i 0,.i 0],.ptr 1 0 0,.ptr 2 0 0] (uI g p st .eG ++ [.row 171 0 t.cells])
  (fun _ H'=>match mQ p.side t with
   | none=>H'=uI g p st .eG ++ [.row 171 0 t.cells]
   | some o=>H'=uI g p st (.eF 11 0 6 0 1) ++ [.row 171 0 t.cells,.row 113 0 (cl fD.cells [o])]):=by
 have gH:=ht.p.size
 have nN:=ht.cur
 have jB:=ht.p.small hg
 have zA:=hg.iw.size
 have hk:=hg.kinds
 have l0:=ht.p.h0.len
 have l1:=ht.p.h1.len
 have ik:=hp.side
 have YF:=ht.p.side
 refine Yz p9 (gL 37 [13,14,15] p9.body) ?_
 simp[p9,gL,jg,lD,lH,lS,ku,uI,eU.cells]
 by_cases h0:gt t.p.cs t.cur=0
 ·simp[h0]
  (with_reducible repeat' first|refine Xk ?_<;>try simp|refine Xs ?_ ?_<;>intro h<;>(try intro h')<;>(try simp[h])<;>try omega|refine Xg ?_|omega)
  refine Yn (f91 t jB (by omega)) ?_
  simp
  (with_reducible repeat' first|refine Xk ?_<;>try simp|refine Xs ?_ ?_<;>intro h<;>(try intro h')<;>(try simp[h])<;>try omega|refine Xg ?_|omega)
  refine Yt (f92 (k:=t.kind) (s:=p.side) ht.kind.1 (by have:=ht.kind;omega) ik.1 ik.2) ?_
  simp
  (with_reducible repeat' first|refine Xk ?_<;>try simp|refine Xs ?_ ?_<;>intro h<;>(try intro h')<;>(try simp[h])<;>try omega|refine Xg ?_|omega)
  have q0:=gN (l:=t.p.cs) (n:=t.cur) (v:=1+2*t.kind+p.side) nN.1 (by omega)
  simp[mQ,h0,kF,ix,q0]
 ·simp[h0,mQ]
  (with_reducible repeat' first|refine Xk ?_<;>try simp|refine Xs ?_ ?_<;>intro h<;>(try intro h')<;>(try simp[h])<;>try omega|refine Xg ?_|omega)
def Vq(g:eH)(hg:fe g)(p:Pos)(hp:fO g p)(st t:eU)(ht:jk g t)(outs:List fD)(ho:outs.length<2 ^ 39)(Ql:0<outs.length):Wf T 122 [.agg t.cells,.agg [.i 0,.i 0],.ptr 1 0 0,.ptr 2 0 0] (uI g p st (.eF 10 (outs.length-1) 6 0 outs.length) ++ [.row 113 (outs.length-1) (cl fD.cells outs),.row 171 0 t.cells])
  (fun _ H'=>match mQ p.side t with
   | none=>H'=uI g p st (.eF 10 (outs.length-1) 6 0 outs.length) ++ [.row 113 (outs.length-1) (cl fD.cells outs),.row 171 0 t.cells]
   | some o=>H'=uI g p st (.eF 10 (outs ++ [o]).length.pred 6 0 (outs ++ [o]).length) ++ [.row 113 (outs ++ [o]).length.pred (cl fD.cells (outs ++ [o])),.row 171 0 t.cells]):=by
 have gH:=ht.p.size
 have nN:=ht.cur
 have jB:=ht.p.small hg
 have zA:=hg.iw.size
 have hk:=hg.kinds
 have l0:=ht.p.h0.len
 have l1:=ht.p.h1.len
 have ik:=hp.side
 have YF:=ht.p.side
 refine Yz p9 (gL 37 [14,15,16] p9.body) ?_
 simp[p9,gL,jg,lD,lH,lS,ku,uI,eU.cells]
 by_cases h0:gt t.p.cs t.cur=0
 ·simp[h0]
  (with_reducible repeat' first|refine Xk ?_<;>try simp|refine Xs ?_ ?_<;>intro h<;>(try intro h')<;>(try simp[h])<;>try omega|refine Xg ?_|omega)
  refine Yn (f91 t jB (by omega)) ?_
  simp
  (with_reducible repeat' first|refine Xk ?_<;>try simp|refine Xs ?_ ?_<;>intro h<;>(try intro h')<;>(try simp[h])<;>try omega|refine Xg ?_|omega)
  refine Yt (f92 (k:=t.kind) (s:=p.side) ht.kind.1 (by have:=ht.kind;omega) ik.1 ik.2) ?_
  simp
  (with_reducible repeat' first|refine Xk ?_<;>try simp|refine Xs ?_ ?_<;>intro h<;>(try intro h')<;>(try simp[h])<;>try omega|refine Xg ?_|omega)
  have q0:=gN (l:=t.p.cs) (n:=t.cur) (v:=1+2*t.kind+p.side) nN.1 (by omega)
  simp[mQ,h0,kF,q0]
  (with_reducible repeat' first|refine Xk ?_<;>try simp[show outs.length-1+1=outs.length by omega]|refine Xs ?_ ?_<;>intro h<;>(try intro h')<;>(try simp[h,show outs.length-1+1=outs.length by omega])<;>try omega|refine Xg ?_|omega)
 ·simp[h0,mQ]
  (with_reducible repeat' first|refine Xk ?_<;>try simp|refine Xs ?_ ?_<;>intro h<;>(try intro h')<;>(try simp[h])<;>try omega|refine Xg ?_|omega)
