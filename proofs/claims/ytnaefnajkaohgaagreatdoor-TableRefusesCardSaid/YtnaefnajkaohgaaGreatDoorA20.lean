/- Part 20 of the proof of skewer.skewerlaw15.TableRefuses. -/
import Derived.Test.YtnaefnajkaohgaaGreatDoorA16
import Derived.Test.YtnaefnajkaohgaaGreatDoorA19
set_option linter.all false
namespace Go.AL
open Go
abbrev Kn:=Int×Int×Bool
@[irreducible] def fK(x:Kn):List D:=[.i x.1,.i x.2.1,.b x.2.2]
@[simp] theorem fK_def(x:Kn):fK x = [.i x.1,.i x.2.1,.b x.2.2]:=by unfold fK;rfl
instance:Fl fK 3:=⟨fun _=>by simp,fun _=>by simp[closedL]⟩
@[simp] theorem clK_snoc(l:List Kn)(a b:Int)(c:Bool):cl fK l ++ [.i a,.i b,.b c]=cl fK (l ++ [(a,b,c)]):=by rw[← cl_snoc,fK_def]
@[simp] theorem clB_snoc(l:List Bool)(c:Bool):cl fB l ++ [.b c]=cl fB (l ++ [c]):=by rw[← cl_snoc,fB_def]
theorem cl_atE{α:Type}[Inhabited α]{f:α→List D}{sz:Nat}[F:Fl f sz]{l:List α}{n:Int}{j:Nat}(hj:j<sz){P:D→Prop}:oA (cl f l)[n.toNat*sz+j]? P .mk=(n.toNat<l.length∧oA (f (gt l n))[j]? P .mk):=by
 rw[cl_at (f:=f) l n.toNat j hj]
 by_cases hn:n.toNat<l.length
 ·rw[List.getElem?_eq_getElem hn]
  have e:gt l n=l[n.toNat]:=by unfold gt;rw[List.getD_eq_getElem?_getD,List.getElem?_eq_getElem hn];rfl
  simp[hn,e]
 ·rw[List.getElem?_eq_none (by omega)];simp[hn]
@[simp] theorem oA_K0{l:List Kn}{n:Int}{P:D→Prop}:oA (cl fK l)[n.toNat*3]? P .mk=(n.toNat<l.length∧P (.i (gt l n).1)):=by
 have:=cl_atE (f:=fK) (l:=l) (n:=n) (j:=0) (by decide) (P:=P)
 simpa using this
@[simp] theorem oA_K2{l:List Kn}{n:Int}{P:D→Prop}:oA (cl fK l)[n.toNat*3+2]? P .mk=(n.toNat<l.length∧P (.b (gt l n).2.2)):=by
 have:=cl_atE (f:=fK) (l:=l) (n:=n) (j:=2) (by decide) (P:=P)
 simpa using this
@[simp] theorem oA_B{l:List Bool}{n:Int}{P:D→Prop}:oA (cl fB l)[n.toNat]? P .mk=(n.toNat<l.length∧P (.b (gt l n))):=by
 have:=cl_atE (f:=fB) (l:=l) (n:=n) (j:=0) (by decide) (P:=P)
 simpa using this
theorem clK_drop{l:List Kn}{n:Int}(h:n.toNat<l.length):(cl fK l).drop (n.toNat*3)=fK (gt l n)++cl fK (l.drop (n.toNat+1)):=by
 rw[cl_drop,List.drop_eq_getElem_cons h,cl_cons]
 congr 1
 unfold gt;rw[List.getD_eq_getElem?_getD,List.getElem?_eq_getElem h];rfl
theorem clK_pt{l:List Kn}{n:Int}(h:n.toNat<l.length)(a b:Int):(cl fK l).take (n.toNat*3) ++ .i a :: .i b::(cl fK l).drop (n.toNat*3+2)=cl fK (pt l n (a,b,(gt l n).2.2)):=by
 have e:(cl fK l).drop (n.toNat*3+2) = .b (gt l n).2.2::cl fK (l.drop (n.toNat+1)):=by
  rw[← List.drop_drop,clK_drop h,fK_def];rfl
 rw[e,cl_take]
 unfold pt
 rw[← cl_app,cl_cons,fK_def]
 rfl
@[simp] theorem ldR_K2{l:List Kn}{t:TypeId}{n:Int}:ldR 2 (n.toNat*3) (some (t,cl fK l))=if n.toNat<l.length then some (.agg [.i (gt l n).1,.i (gt l n).2.1])else none:=by
 unfold ldR
 dsimp only
 by_cases h:n.toNat<l.length
 ·rw[if_pos h,if_pos (by rw[cl_len];omega),clK_drop h,fK_def];rfl
 ·rw[if_neg h,if_neg (by rw[cl_len];omega)]
theorem cl_pt{α:Type}{f:α→List D}{sz:Nat}[F:Fl f sz](l:List α)(n:Int)(h1:n.toNat<l.length)(a:α):(cl f l).take (n.toNat*sz)++(f a++(cl f l).drop (n.toNat*sz+sz))=cl f (pt l n a):=by
 have:=cl_put (f:=f) l n.toNat a h1
 rw[List.append_assoc]at this
 exact this
theorem rep_cl{α:Type}{f:α→List D}(a:α):∀ n:Nat,(List.replicate n (f a)).flatten=cl f (List.replicate n a)
 | 0=>by simp
 | n+1=>by rw[List.replicate_succ,List.flatten_cons,rep_cl a n,List.replicate_succ,cl_cons]
@[simp] theorem rep_B(b:Bool)(n:Nat):(List.replicate n [D.b b]).flatten=cl fB (List.replicate n b):=by rw[← rep_cl,fB_def]
@[simp] theorem rep_I(b:Int)(n:Nat):(List.replicate n [D.i b]).flatten=cl f1 (List.replicate n b):=by rw[← rep_cl,f1_def]
@[simp] theorem rep_S(a b:Int)(n:Nat):(List.replicate n [D.i a,D.i b]).flatten=cl fS (List.replicate n (a,b)):=by rw[← rep_cl,fS_def]
@[simp] theorem rep_B1(b:Bool)(n:Nat):List.replicate n (D.b b)=cl fB (List.replicate n b):=by rw[← rep_B];simp
@[simp] theorem rep_I1(b:Int)(n:Nat):List.replicate n (D.i b)=cl f1 (List.replicate n b):=by rw[← rep_I];simp
@[simp] theorem clB_put(a b:List Bool)(n:Bool):cl fB a ++ .b n::cl fB b=cl fB (a++n::b):=by rw[← cl_app,cl_cons,fB_def];rfl
def falses(l:List Bool):Nat:=l.countP fun b => !b
theorem pt_pt{α:Type}[Inhabited α]{l:List α}{n:Int}{a b:α}(h0:0≤n)(h:n<l.length):pt (pt l n a) n b=pt l n b:=by
 rw[pt_set (l:=pt l n a) h0 (by rw[pt_len h0 h];exact h),pt_set h0 h,pt_set h0 h,List.set_set]
theorem falses_pt{l:List Bool}{n:Int}(h0:0≤n)(h:n<l.length)(hf:gt l n=false)(b:Bool):falses (pt l n b)+(if b then 1 else 0)=falses l:=by
 have e:l=l.take n.toNat++gt l n::l.drop (n.toNat+1):=by
  rw[← drop_gt h0 h,List.take_append_drop]
 unfold pt
 conv=>rhs;rw[e]
 unfold falses
 rw[List.countP_append,List.countP_append,List.countP_cons,List.countP_cons,hf]
 cases b<;>simp<;>omega
end Go.AL
namespace Go.Proofs.YtnaefnajkaohgaaGreatDoor
open Go Go.AL Classical
set_option maxRecDepth 10000
set_option maxHeartbeats 1000000
structure Closed2(g:Game)(l:List Pos):Prop where
 srt:Sorted l
 ok:∀ q∈l,PosOK g q
 cl:∀ q∈l,∀ m,IsMove g q m→m∈l
 len:l.length≤4000
theorem Closed.c2{g:Game}{l:List Pos}(h:Closed g l):Closed2 g l:=⟨h.srt,h.ok,h.cl,by have:=h.len;omega⟩
noncomputable def nextI(g:Game)(l:List Pos):List (List Int):=l.map fun p=>(mvL g p).map (findP l)
theorem f37(g:Game)(hg:GameOK g)(l:List Pos)(hl:Closed2 g l):Wf T 37 [dG g,dPs l] [] (Is (.tup [.sl 1 ((nextI g l).map fI),.b true])):=by
 have hlen:=hl.len
 have hsm:∀ q∈l,Small q:=fun q hq=>(hl.ok q hq).small hg
 refine Wf.xz (fn:=F37) (F37.own) (insB 59 [2] F37.body) rfl (by simp[F37]) (by simp only[unfz_ins,unfz_insC];exact unfz_no rfl) ?_
 simp[F37,insB,insC,befK,froK,hasK,headIs]
 (with_reducible repeat' first|(first|refine Xy ?_|refine Xz ?_|refine Xu ?_|refine Xv ?_)<;>try simp|(first|refine Xa (fun h h'=>?_) (fun h=>?_)|(first|refine Xd ?_ ?_|refine Xo ?_ ?_|refine Xb ?_ ?_)<;>intro h)<;>(try simp[h])<;>(try (exfalso;omega))|refine Xg ?_|omega)
 refine XCall.c rfl rfl (f64 l (by omega) hsm) (by simp) (by simp) ?_
 simp
 have hs:=hl.srt
 (with_reducible repeat' first|(first|refine Xy ?_|refine Xz ?_|refine Xu ?_|refine Xv ?_)<;>try simp|(first|refine Xa (fun h h'=>?_) (fun h=>?_)|(first|refine Xd ?_ ?_|refine Xo ?_ ?_|refine Xb ?_ ?_)<;>intro h)<;>(try simp[h])<;>(try (exfalso;omega))|refine Xg ?_|omega)
 refine XLoop.e ((0,0,[]):Int×Nat×List (List Int)) (fun y=>[(1,dPs l),(2,.ptr 0 0 0),(6,.osl 1 y.2.1 1 0 y.2.2.length),(7,.i y.1)]) (fun y=>[.row 41 0 g.cells,.row 33 y.2.1 (cl fI y.2.2)]) (fun y=>0≤y.1∧y.1≤l.length∧y.2.2=(l.take y.1.toNat).map fun p=>(mvL g p).map (findP l)) (fun y=>l.length-y.1.toNat) ?_ ?_
 ·simp
 rintro⟨i,gn,out⟩ ⟨i0,i1,i2⟩
 dsimp only at i0 i1 i2 ⊢
 simp
 have hol:out.length≤4000:=by rw[i2];simp;omega
 (with_reducible repeat' first|(first|refine Xy ?_|refine Xz ?_|refine Xu ?_|refine Xv ?_)<;>try simp|(first|refine Xa (fun h h'=>?_) (fun h=>?_)|(first|refine Xd ?_ ?_|refine Xo ?_ ?_|refine Xb ?_ ?_)<;>intro h)<;>(try simp[h])<;>(try (exfalso;omega))|refine Xg ?_|omega)
 ·have hp:=hl.ok _ (gt_mem i0 ‹_›)
  refine XTCall.c rfl rfl (f65 g _ hg hp) (by simp) (by simp) ?_
  simp
  (with_reducible repeat' first|(first|refine Xy ?_|refine Xz ?_|refine Xu ?_|refine Xv ?_)<;>try simp|(first|refine Xa (fun h h'=>?_) (fun h=>?_)|(first|refine Xd ?_ ?_|refine Xo ?_ ?_|refine Xb ?_ ?_)<;>intro h)<;>(try simp[h])<;>(try (exfalso;omega))|refine Xg ?_|omega)
  refine XTCall.c rfl rfl (f60 g hg _ hp) (by simp) (by simp) ?_
  simp
  have hml:=mvL_len hg hp
  have hmem:∀ q∈mvL g (gt l i),q∈l:=fun q hq=>hl.cl _ (gt_mem i0 ‹_›) q (mvL_mem.1 hq)
  refine XLoop.e ((0,0,[]):Int×Nat×List Int) (fun y=>[(1,dPs l),(2,.ptr 0 0 0),(6,.osl 1 gn 1 0 out.length),(7,.i i),(8,mvD g (gt l i)),(9,.osl 2 y.2.1 1 0 y.2.2.length),(10,.i y.1)]) (fun y=>[.row 41 0 g.cells,.row 33 gn (cl fI out),.row 3 y.2.1 (cl f1 y.2.2)]) (fun y=>0≤y.1∧y.1≤(mvL g (gt l i)).length∧y.2.2=((mvL g (gt l i)).take y.1.toNat).map (findP l)) (fun y=>(mvL g (gt l i)).length-y.1.toNat) ?_ ?_
  ·simp
  rintro⟨j,gm,row⟩ ⟨j0,j1,j2⟩
  dsimp only at j0 j1 j2 ⊢
  have hrl:row.length≤j.toNat:=by rw[j2];simp;omega
  simp
  (with_reducible repeat' first|(first|refine Xy ?_|refine Xz ?_|refine Xu ?_|refine Xv ?_)<;>try simp|(first|refine Xa (fun h h'=>?_) (fun h=>?_)|(first|refine Xd ?_ ?_|refine Xo ?_ ?_|refine Xb ?_ ?_)<;>intro h)<;>(try simp[h])<;>(try (exfalso;omega))|refine Xg ?_|omega)
  ·have hm:=hmem _ (gt_mem j0 ‹_›)
   refine XCall.c rfl rfl (f27 l _ (by omega) hsm (hsm _ hm) hs) (by simp) (by simp) ?_
   simp
   have hf:=findP_gt hm
   (with_reducible repeat' first|(first|refine Xy ?_|refine Xz ?_|refine Xu ?_|refine Xv ?_)<;>try simp|(first|refine Xa (fun h h'=>?_) (fun h=>?_)|(first|refine Xd ?_ ?_|refine Xo ?_ ?_|refine Xb ?_ ?_)<;>intro h)<;>(try simp[h])<;>(try (exfalso;omega))|refine Xg ?_|omega)
   refine LJ.e (j+1,gm+1,row ++ [findP l (gt (mvL g (gt l i)) j)]) ?_
   dsimp only
   refine⟨by omega,by omega,by omega,?_⟩
   rw[take_gt j0 ‹_›,List.map_append,j2];rfl
  ·(with_reducible repeat' first|(first|refine Xy ?_|refine Xz ?_|refine Xu ?_|refine Xv ?_)<;>try simp|(first|refine Xa (fun h h'=>?_) (fun h=>?_)|(first|refine Xd ?_ ?_|refine Xo ?_ ?_|refine Xb ?_ ?_)<;>intro h)<;>(try simp[h])<;>(try (exfalso;omega))|refine Xg ?_|omega)
   refine LJ.e (i+1,gn+1,out ++ [row]) ?_
   dsimp only
   refine⟨by omega,by omega,by omega,?_⟩
   rw[take_gt i0 ‹_›,List.map_append,i2]
   rw[take_all (by omega)]at j2
   rw[j2];rfl
 ·rw[i2,take_all (by omega)];rfl
end Go.Proofs.YtnaefnajkaohgaaGreatDoor
