/- Part 20 of the proof of skewer.skewerlaw15.TableSlices. -/
import Derived.Test.YtnaefnajkaohgaaGreatDoorC19
import Derived.Test.YtnaefnajkaohgaaGreatDoorC17
set_option linter.all false
namespace Go.Proofs.YtnaefnajkaohgaaGreatDoor
open Go Go.AL Classical
set_option maxRecDepth 100000
set_option maxHeartbeats 4000000
def digB(n:Int):ByteArray:=⟨#[UInt8.ofNat (48+n.toNat)]⟩
theorem f209(n:Int)(hn:0≤n∧n≤9):Wf T 209 [.i n] [] (Is (.val (.string (digB n)))):=by
 rcases(show n=0∨n=1∨n=2∨n=3∨n=4∨n=5∨n=6∨n=7∨n=8∨n=9 by omega)with rfl|rfl|rfl|rfl|rfl|rfl|rfl|rfl|rfl|rfl
 all_goals exact run_one (k:=100) (by kernel_rfl)
def boolB(b:Bool):ByteArray:=if b then⟨#[116,114,117,101]⟩else⟨#[102,97,108,115,101]⟩
theorem f210(b:Bool):Wf T 210 [.b b] [] (Is (.val (.string (boolB b)))):=by
 cases b
 ·exact run_one (k:=100) (by kernel_rfl)
 ·exact run_one (k:=100) (by kernel_rfl)
@[simp] theorem strO_add(a b:ByteArray):strO .add a b=if leK ((a.size+b.size:Nat):Int) 9223372036854775807 then some (.val (.string (a++b)))else none:=rfl
theorem foldl_push(l:List Int):∀ r:ByteArray,(l.foldl (fun r n=>r.push (UInt8.ofNat n.toNat)) r).data.toList=r.data.toList++l.map fun n=>UInt8.ofNat n.toNat:=by
 induction l with
 | nil=>intro r;simp
 | cons a l ih=>intro r;rw[List.foldl_cons,ih];simp[ByteArray.push]
theorem keyB_list(p:Pos):(keyB p).data.toList=(keyL p).map fun n=>UInt8.ofNat (IntKind.u8.wrap n).toNat:=by
 unfold keyB
 rw[foldl_push]
 simp[ByteArray.empty,ByteArray.emptyWithCapacity]
 rfl
@[simp] theorem keyB_size(p:Pos):(keyB p).size=(keyL p).length:=by
 show(keyB p).data.size=_
 rw[← Array.length_toList,keyB_list,List.length_map]
@[simp] theorem size_mk(a:Array UInt8):ByteArray.size ⟨a⟩=a.size:=rfl
@[simp] theorem digB_size(n:Int):(digB n).size=1:=rfl
@[simp] theorem boolB_size(b:Bool):(boolB b).size≤5:=by cases b<;>decide
def keyS(s:Sta):ByteArray:=digB s.kind++⟨#[32]⟩++digB s.cur++⟨#[32]⟩++boolB s.took++⟨#[32]⟩++keyB s.p
theorem f165(s:Sta)(h1:0≤s.kind∧s.kind≤9)(h2:0≤s.cur∧s.cur≤9)(h:0<s.p.cs.length)(hl:(keyL s.p).length<1000):Wf T 165 [.agg s.cells] [] (Is (.val (.string (keyS s)))):=by
 have hb:=boolB_size s.took
 refine Yg F165 ?_
 simp[F165,Sta.cells]
 refine Yt (f209 s.kind h1) ?_
 simp
 (with_reducible repeat' first|refine Xk ?_<;>try simp|refine Xs ?_ ?_<;>intro h<;>(try intro h')<;>(try simp[h])<;>(try omega)|refine Xg ?_|omega)
 refine Yt (f209 s.cur h2) ?_
 simp
 (with_reducible repeat' first|refine Xk ?_<;>try simp|refine Xs ?_ ?_<;>intro h<;>(try intro h')<;>(try simp[h])<;>(try omega)|refine Xg ?_|omega)
 refine Yt (f210 s.took) ?_
 simp
 (with_reducible repeat' first|refine Xk ?_<;>try simp|refine Xs ?_ ?_<;>intro h<;>(try intro h')<;>(try simp[h])<;>(try omega)|refine Xg ?_|omega)
 refine Yt (f101 s.p h hl) ?_
 simp
 (with_reducible repeat' first|refine Xk ?_<;>try simp|refine Xs ?_ ?_<;>intro h<;>(try intro h')<;>(try simp[h])<;>(try omega)|refine Xg ?_|omega)
 rfl
theorem ofNat_inj{m n:Nat}(hm:m<256)(hn:n<256)(h:UInt8.ofNat m=UInt8.ofNat n):m=n:=by
 have:=congrArg UInt8.toNat h
 simp only[UInt8.toNat_ofNat']at this
 omega
theorem wrapU8_id{n:Int}(h:0≤n∧n<256):IntKind.u8.wrap n=n:=by
 simp only[IntKind.wrap,IntKind.bits,IntKind.signed]
 simp
 omega
theorem map_byte_inj:∀ {a b:List Int},(∀ n∈a,0≤n∧n<256)→(∀ n∈b,0≤n∧n<256)→(a.map fun n=>UInt8.ofNat (IntKind.u8.wrap n).toNat)=(b.map fun n=>UInt8.ofNat (IntKind.u8.wrap n).toNat)→a=b
 | [],[],_,_,_=>rfl
 | [],_::_,_,_,h=>by simp at h
 | _::_,[],_,_,h=>by simp at h
 | x::a,y::b,ha,hb,h=>by
  simp only[List.map_cons,List.cons.injEq]at h
  have hx:=ha x (by simp)
  have hy:=hb y (by simp)
  rw[wrapU8_id hx,wrapU8_id hy]at h
  have e:=ofNat_inj (by omega) (by omega) h.1
  rw[map_byte_inj (fun n hn=>ha n (by simp[hn])) (fun n hn=>hb n (by simp[hn])) h.2,show x=y by omega]
theorem keyL_in{g:Game}(hg:GameOK g){p:Pos}(hp:PosOK g p):∀ n∈keyL p,0≤n∧n<256:=by
 have hk:=hg.kinds
 have hr:=hg.rights
 have h5:=pow_small hr.1 (by omega)
 have hh:∀ {l:List Int},HandOK g l→∀ n∈l,0≤n∧n<256:=fun{l} h n hn=>by
  obtain⟨i,h0,h1,rfl⟩:=mem_gt.1 hn
  have:=h.at_ i h0 h1
  omega
 intro n hn
 rw[keyL_def,fl_def]at hn
 simp only[List.flatten_cons,List.flatten_nil,List.mem_append,List.mem_cons,List.not_mem_nil,or_false]at hn
 have hrr:=hp.rights
 have hss:=hp.side
 rcases hn with hn|hn|hn|rfl|rfl
 ·have:=hp.cs n hn;omega
 ·exact hh hp.h0 n hn
 ·exact hh hp.h1 n hn
 ·omega
 ·omega
theorem keyL_inj{g:Game}{p q:Pos}(hp:PosOK g p)(hq:PosOK g q)(h:keyL p=keyL q):p=q:=by
 rw[keyL_def,keyL_def,fl_def,fl_def]at h
 simp only[List.flatten_cons,List.flatten_nil,List.append_nil]at h
 have a1:=hp.size;have a2:=hq.size
 have b1:=hp.h0.len;have b2:=hq.h0.len
 have c1:=hp.h1.len;have c2:=hq.h1.len
 obtain⟨e1,h⟩:=List.append_inj h (by omega)
 obtain⟨e2,h⟩:=List.append_inj h (by omega)
 obtain⟨e3,h⟩:=List.append_inj h (by omega)
 simp only[List.cons.injEq,and_true]at h
 cases p;cases q
 simp_all
theorem keyB_inj{g:Game}(hg:GameOK g){p q:Pos}(hp:PosOK g p)(hq:PosOK g q)(h:keyB p=keyB q):p=q:=by
 have h2:=congrArg (fun b:ByteArray=>b.data.toList) h
 simp only[keyB_list]at h2
 exact keyL_inj hp hq (map_byte_inj (keyL_in hg hp) (keyL_in hg hq) h2)
theorem keyS_list(s:Sta):(keyS s).data.toList=UInt8.ofNat (48+s.kind.toNat)::32::UInt8.ofNat (48+s.cur.toNat)::32::((boolB s.took).data.toList++32::(keyB s.p).data.toList):=by
 unfold keyS digB
 simp
theorem keyS_inj{g:Game}(hg:GameOK g){s t:Sta}(hs:StaOK g s)(ht:StaOK g t)(h:keyS s=keyS t):s=t:=by
 have h2:=congrArg (fun b:ByteArray=>b.data.toList) h
 simp only[keyS_list,List.cons.injEq,true_and]at h2
 obtain⟨e1,e2,h3⟩:=h2
 have hk:=hg.kinds
 have hb:=hg.board.size
 have k1:=hs.kind;have k2:=ht.kind
 have u1:=hs.cur;have u2:=ht.cur
 have f1:=ofNat_inj (by omega) (by omega) e1
 have f2:=ofNat_inj (by omega) (by omega) e2
 obtain⟨p,k,c,b⟩:=s
 obtain⟨p',k',c',b'⟩:=t
 dsimp only at *
 have hbb:b=b'∧keyB p=keyB p':=by
  cases b<;>cases b'
  ·simp[boolB]at h3
   exact⟨rfl,by cases hx:keyB p;cases hy:keyB p';simp_all [Array.toList_inj]⟩
  ·simp[boolB]at h3
  ·simp[boolB]at h3
  ·simp[boolB]at h3
   exact⟨rfl,by cases hx:keyB p;cases hy:keyB p';simp_all [Array.toList_inj]⟩
 have ep:p=p':=keyB_inj hg hs.p ht.p hbb.2
 rw[hbb.1,ep,show k=k' by omega,show c=c' by omega]
theorem keyEq_str(a b:ByteArray):keyEq (.string a) (.string b)=decide (a=b):=by
 obtain⟨a⟩:=a
 obtain⟨b⟩:=b
 show(a == b)=_
 rw[Bool.eq_iff_iff,beq_iff_eq,decide_eq_true_iff,ByteArray.mk.injEq]
theorem mapGet_keys{g:Game}(hg:GameOK g){t:Sta}(ht:StaOK g t):∀ {l:List Sta},(∀ s∈l,StaOK g s)→mapGet (l.map fun s=>((.string (keyS s):Value),D.b true)) (.string (keyS t))=if t∈l then some (.b true)else none
 | [],_=>by simp[mapGet]
 | a::l,h=>by
  rw[List.map_cons,mapGet,keyEq_str,mapGet_keys hg ht fun s hs=>h s (by simp[hs])]
  by_cases e:t=a
  ·subst e;simp
  ·have:¬ keyS t=keyS a:=fun k=>e (keyS_inj hg ht (h a (by simp)) k)
   simp[this,e]
theorem mapSet_keys{g:Game}(hg:GameOK g){t:Sta}(ht:StaOK g t):∀ {l:List Sta},(∀ s∈l,StaOK g s)→t ∉ l→mapSet (l.map fun s=>((.string (keyS s):Value),D.b true)) (.string (keyS t)) (.b true)=(l ++ [t]).map fun s=>((.string (keyS s):Value),D.b true)
 | [],_,_=>by simp[mapSet]
 | a::l,h,hn=>by
  simp only[List.mem_cons,not_or]at hn
  have:¬ keyS t=keyS a:=fun k=>hn.1 (keyS_inj hg ht (h a (by simp)) k)
  rw[List.map_cons,mapSet,keyEq_str,mapSet_keys hg ht (fun s hs=>h s (by simp[hs])) hn.2]
  simp[this]
set_option maxRecDepth 10000
set_option maxHeartbeats 8000000
theorem XCall.inl{T:Tab}{f:FuncId}{args:List D}{dst:Option Nat}{s:St}{K:St→Prop}(fn:FnA)(hf:T.fn f=some fn)(hp:fn.full=true)(hl:args.length≤fn.ntmps)(hz:noFz fn.body=true)
  (h:XC T fn.body { env:=mkEnv args,H:=s.H } (finK fn.results fn.own s.H.length fun d H'=>K { s with env:=put s.env dst d,H:=H' })):XCall T f args dst s K .mk:=.inr ⟨fn,hf,hp,Wf.x hf hl h hz⟩
abbrev hd31(g:Game)(p:Pos)(st:Sta)(outs:D):Heap:=[.row 41 0 g.cells,.row 44 0 p.cells,.row 164 0 [outs],.row 41 0 g.cells,.row 44 0 p.cells,.dead,.dead,.dead,.row 171 0 st.cells,.dead]
theorem f122A(g:Game)(hg:GameOK g)(p:Pos)(hp:PosOK g p)(st t:Sta)(ht:StaOK g t):Wf T 122 [.agg t.cells,.agg [.i 0,.i 0],.ptr 1 0 0,.ptr 2 0 0] (hd31 g p st .emp ++ [.row 171 0 t.cells])
  (fun _ H'=>match finS p.side t with
   | none=>H'=hd31 g p st .emp ++ [.row 171 0 t.cells]
   | some o=>H'=hd31 g p st (.osl 11 0 6 0 1) ++ [.row 171 0 t.cells,.row 113 0 (cl Outc.cells [o])]):=by
 have hsz:=ht.p.size
 have hcur:=ht.cur
 have hsm:=ht.p.small hg
 have hbs:=hg.board.size
 have hk:=hg.kinds
 have l0:=ht.p.h0.len
 have l1:=ht.p.h1.len
 have hsd:=hp.side
 have hsd2:=ht.p.side
 refine Yz F122 (insB 37 [13,14,15] F122.body) ?_
 simp[F122,insB,insC,befK,froK,hasK,headIs,hd31,Sta.cells]
 by_cases h0:gt t.p.cs t.cur=0
 ·simp[h0]
  (with_reducible repeat' first|refine Xk ?_<;>try simp|refine Xs ?_ ?_<;>intro h<;>(try intro h')<;>(try simp[h])<;>(try omega)|refine Xg ?_|omega)
  refine Yn (f91 t hsm (by omega)) ?_
  simp
  (with_reducible repeat' first|refine Xk ?_<;>try simp|refine Xs ?_ ?_<;>intro h<;>(try intro h')<;>(try simp[h])<;>(try omega)|refine Xg ?_|omega)
  refine Yt (f92 (k:=t.kind) (s:=p.side) ht.kind.1 (by have:=ht.kind;omega) hsd.1 hsd.2) ?_
  simp
  (with_reducible repeat' first|refine Xk ?_<;>try simp|refine Xs ?_ ?_<;>intro h<;>(try intro h')<;>(try simp[h])<;>(try omega)|refine Xg ?_|omega)
  have q0:=pt_len (l:=t.p.cs) (n:=t.cur) (v:=1+2*t.kind+p.side) hcur.1 (by omega)
  simp[finS,h0,codeM,cl_one,q0]
 ·simp[h0,finS]
  (with_reducible repeat' first|refine Xk ?_<;>try simp|refine Xs ?_ ?_<;>intro h<;>(try intro h')<;>(try simp[h])<;>(try omega)|refine Xg ?_|omega)
theorem f122B(g:Game)(hg:GameOK g)(p:Pos)(hp:PosOK g p)(st t:Sta)(ht:StaOK g t)(outs:List Outc)(ho:outs.length<2 ^ 39)(ho0:0<outs.length):Wf T 122 [.agg t.cells,.agg [.i 0,.i 0],.ptr 1 0 0,.ptr 2 0 0] (hd31 g p st (.osl 10 (outs.length-1) 6 0 outs.length) ++ [.row 113 (outs.length-1) (cl Outc.cells outs),.row 171 0 t.cells])
  (fun _ H'=>match finS p.side t with
   | none=>H'=hd31 g p st (.osl 10 (outs.length-1) 6 0 outs.length) ++ [.row 113 (outs.length-1) (cl Outc.cells outs),.row 171 0 t.cells]
   | some o=>H'=hd31 g p st (.osl 10 (outs ++ [o]).length.pred 6 0 (outs ++ [o]).length) ++ [.row 113 (outs ++ [o]).length.pred (cl Outc.cells (outs ++ [o])),.row 171 0 t.cells]):=by
 have hsz:=ht.p.size
 have hcur:=ht.cur
 have hsm:=ht.p.small hg
 have hbs:=hg.board.size
 have hk:=hg.kinds
 have l0:=ht.p.h0.len
 have l1:=ht.p.h1.len
 have hsd:=hp.side
 have hsd2:=ht.p.side
 refine Yz F122 (insB 37 [14,15,16] F122.body) ?_
 simp[F122,insB,insC,befK,froK,hasK,headIs,hd31,Sta.cells]
 by_cases h0:gt t.p.cs t.cur=0
 ·simp[h0]
  (with_reducible repeat' first|refine Xk ?_<;>try simp|refine Xs ?_ ?_<;>intro h<;>(try intro h')<;>(try simp[h])<;>(try omega)|refine Xg ?_|omega)
  refine Yn (f91 t hsm (by omega)) ?_
  simp
  (with_reducible repeat' first|refine Xk ?_<;>try simp|refine Xs ?_ ?_<;>intro h<;>(try intro h')<;>(try simp[h])<;>(try omega)|refine Xg ?_|omega)
  refine Yt (f92 (k:=t.kind) (s:=p.side) ht.kind.1 (by have:=ht.kind;omega) hsd.1 hsd.2) ?_
  simp
  (with_reducible repeat' first|refine Xk ?_<;>try simp|refine Xs ?_ ?_<;>intro h<;>(try intro h')<;>(try simp[h])<;>(try omega)|refine Xg ?_|omega)
  have q0:=pt_len (l:=t.p.cs) (n:=t.cur) (v:=1+2*t.kind+p.side) hcur.1 (by omega)
  simp[finS,h0,codeM,q0]
  (with_reducible repeat' first|refine Xk ?_<;>try simp[show outs.length-1+1=outs.length by omega]|refine Xs ?_ ?_<;>intro h<;>(try intro h')<;>(try simp[h,show outs.length-1+1=outs.length by omega])<;>(try omega)|refine Xg ?_|omega)
 ·simp[h0,finS]
  (with_reducible repeat' first|refine Xk ?_<;>try simp|refine Xs ?_ ?_<;>intro h<;>(try intro h')<;>(try simp[h])<;>(try omega)|refine Xg ?_|omega)
end Go.Proofs.YtnaefnajkaohgaaGreatDoor
