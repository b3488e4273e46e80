/- Part 29 of the proof of skewer.skewerlaw15.TableRefuses. -/
import Derived.Test.YtnaefnajkaohgaaGreatDoorA24
import Derived.Test.YtnaefnajkaohgaaGreatDoorA27
set_option linter.all false
namespace Go.AL
open Go
@[simp] theorem shed_fn(ρ:Nat→Option Nat)(H:Heap)(k:Nat)(f:Fn)(a b:List D):shed ρ H (k+1) (.fn f a b) = .fn f (a.map (shed ρ H k)) (b.map (shed ρ H k)):=by
 by_cases h:closed (.fn f a b)=true
 ·have h':=h
  simp only[closed_fn,Bool.and_eq_true]at h'
  rw[shed_closed h,map_shed_closed h'.1,map_shed_closed h'.2]
 ·rw[shed,if_neg h]
@[simp] theorem shed_fptr(ρ:Nat→Option Nat)(H:Heap)(k:Nat)(cs:List D):shed ρ H (k+1) (.fptr cs) = .fptr (cs.map (shed ρ H k)):=by
 by_cases h:closed (.fptr cs)=true
 ·rw[shed_closed h,map_shed_closed (by simpa using h)]
 ·rw[shed,if_neg h]
theorem cl_I(l:List Int):cl f1 l=l.map fun n=>D.i n:=by
 rw[cl_def]
 induction l with
 | nil=>rfl
 | cons a r ih=>simp[← ih]
theorem dI_lit{ρ:Nat→Option Nat}{H:Heap}{k n:Nat}{t:TypeId}{cs:List D}(l:List Int)(h:cs=l.map fun n=>D.i n)(hn:n=l.length):fzR ρ H (k+1) 1 0 n (some (t,cs))=dI l:=by
 rw[h,← cl_I,fzR_cl hn]
 rfl
@[simp] theorem strO_eql(a b:ByteArray):strO .eql a b=some (.b (decide (a=b))):=by
 have:(a.data.toList == b.data.toList)=decide (a=b):=by
  rw[Bool.eq_iff_iff,beq_iff_eq,decide_eq_true_iff]
  constructor
  ·intro h;cases a;cases b;congr 1;exact Array.toList_inj.1 h
  ·rintro rfl;rfl
 show some (D.val (.bool _))=_
 rw[this]
@[simp] theorem box_str(t:TypeId)(s:ByteArray)(n:Nat):boxO t (.val (.string s)) n=some (.ptr n 0 0,.new (.row t 0 [.val (.string s)])):=rfl
@[simp] theorem box_i(t:TypeId)(m:Int)(n:Nat):boxO t (.i m) n=some (.ptr n 0 0,.new (.row t 0 [.i m])):=rfl
@[simp] theorem closed_dNP(l:List (List Stp)):closed (dN 1 fP l)=true:=closed_dN (fun a=>by simp[closedL]) l
def rcdA(rf:Nat)(st:RSt)(x:Option Ob)(P:Env→Prop):Prop:=∃ env,x=some (.rcd rf env st)∧P env
@[simp] theorem rcdA_some{rf:Nat}{st:RSt}{env:Env}{P:Env→Prop}:rcdA rf st (some (.rcd rf env st)) P=P env:=propext ⟨fun⟨_,h,k⟩=>by cases h;exact k,fun k=>⟨_,rfl,k⟩⟩
section
variable{T:Tab}{v rf:Nat}{b:IR}{dst:Option Nat}{s s1:St}{K:St→Prop}
@[simp] theorem rndA_norm:rndA T v rf b dst s K (.norm s1)=rcdA rf .ready s1.H[v]? fun env1=>XC T b { s1 with H:=s1.H.set v (.rcd rf env1 .busy) } (rndB v rf dst s K):=rfl
@[simp] theorem rndB_norm:rndB v rf dst s K (.norm s1)=rcdA rf .busy s1.H[v]? fun env2=>K { s with env:=put s.env dst (.b true),H:=s1.H.set v (.rcd rf env2 .ready) }:=rfl
@[simp] theorem rndB_exit{id:Nat}:rndB v rf dst s K (.exit id s1)=rcdA rf .busy s1.H[v]? fun env2=>K { s with env:=put s.env dst (.b false),H:=s1.H.set v (.rcd rf env2 (.doneExit id)) }:=rfl
@[simp] theorem rndB_ret:rndB v rf dst s K (.ret s1)=rcdA rf .busy s1.H[v]? fun env2=>K { s with env:=put s.env dst (.b false),H:=s1.H.set v (.rcd rf env2 .doneRet) }:=rfl
@[simp] theorem setP_nil{l:List D}{e:Env}:setParams [] l e=e:=by cases l<;>rfl
@[simp] theorem setP_cons{k:Nat}{d:D}{ks:List Nat}{l:List D}{e:Env}:setParams (k::ks) (d::l) e=setParams ks l ((k,d)::e):=rfl
@[simp] theorem rangeOut_ready{s:St}:rangeOut s .ready=some (.norm s):=rfl
@[simp] theorem rangeOut_exit{s:St}{id:Nat}:rangeOut s (.doneExit id)=some (.exit id s):=rfl
@[simp] theorem rangeOut_ret{s:St}:rangeOut s .doneRet=some (.ret s):=rfl
end
@[simp] theorem obRefs_dfr(n:Nat):obRefs n .dfr = []:=rfl
@[simp] theorem obRefs_rcd(n rf:Nat)(e:Env)(st:RSt):obRefs n (.rcd rf e st) = []:=rfl
theorem XCall.nr{T:Tab}{f:FuncId}{args args':List D}{dst:Option Nat}{s:St}{K:St→Prop}{fn:FnA}{d:D}{Hn:Heap}(hf:T.fn f=some fn)(hp:fn.full=false)(h:Wf T f args' [] fun d' H'=>d'=d∧H'=Hn)
  (hs:args.map (shed (fun _=>none) s.H 40)=args') (hr:(okFlat d&&Hn.all flatOb)=true) (hr2:(okRes d&&Hn.all closedOb)=true) (k:K { s with env:=put s.env dst (lift1 s.H.length d),H:=s.H++Hn }):XCall T f args dst s K .mk:=by
 refine XCall.is hf hp (K0:=fun d' H'=>d'=d∧H'=Hn) (by rw[hs];exact h) ?_
 rintro d' Hn' ⟨rfl,rfl⟩
 refine⟨_,?_,k⟩
 unfold after
 by_cases hc:closedL args=true
 ·rw[if_pos hc,if_pos hr2]
 ·rw[if_neg hc,if_pos hr]
@[simp] theorem okFlat_osl(v g sz off n:Nat):okFlat (.osl v g sz off n)=true:=rfl
@[simp] theorem flatOb_row(t g:Nat)(cs:List D):flatOb (.row t g cs)=flatL cs:=rfl
@[simp] theorem flatL_clI(l:List Int):flatL (cl f1 l)=true:=by
 rw[cl_I]
 induction l with
 | nil=>rfl
 | cons a r ih=>simpa[flatL,flat]using ih
end Go.AL
namespace Go.Proofs.YtnaefnajkaohgaaGreatDoor
open Go Go.AL Classical
set_option maxRecDepth 10000
set_option maxHeartbeats 4000000
theorem f133(g:Game)(hg:GameOK g)(n:Int)(hn:0≤n∧n≤2*g.kinds.length):Wf T 133 [dG g,.i n] [] (Is (.b true)):=by
 have hk:=hg.kinds
 refine Wf.x (fn:=F133) rfl (by simp[F133]) ?_
 simp[F133]
 (with_reducible repeat' first|(first|refine Xy ?_|refine Xz ?_|refine Xu ?_|refine Xv ?_)<;>try simp|(first|refine Xa (fun h h'=>?_) (fun h=>?_)|(first|refine Xd ?_ ?_|refine Xo ?_ ?_|refine Xb ?_ ?_)<;>intro h)<;>(try simp[h])<;>(try (exfalso;omega))|refine Xg ?_|omega)
theorem f134(g:Game)(hg:GameOK g)(n:Int)(hn:0≤n∧n≤2*g.kinds.length):Wf T 134 [.i n,.fptr [.fn (.func 133) [dG g] []]] [] (Is (.b false)):=by
 refine Wf.x (fn:=F134) rfl (by simp[F134]) ?_
 simp[F134]
 refine XCall.c rfl rfl (f133 g hg n hn) (by simp) (by simp) ?_
 simp
theorem f178(g:Game)(hg:GameOK g)(l:List Int)(hl:∀ n∈l,0≤n∧n≤2*g.kinds.length)(h9:l.length≤9):Wf T 178 [dI l,.fn (.func 134) [] [.fptr [.fn (.func 133) [dG g] []]]] [] (Is (.i (-1))):=by
 refine Wf.x (fn:=F178) rfl (by simp[F178]) ?_
 simp[F178]
 refine XLoop.e (0:Int) (fun y=>[(0,dI l),(1,.fn (.func 134) [] [.fptr [.fn (.func 133) [dG g] []]]),(7,.i l.length),(8,.i y)]) (fun y=>[]) (fun y=>0≤y∧y≤l.length) (fun y=>(l.length-y).toNat) ?_ ?_
 ·simp
 rintro i ⟨i0,i1⟩
 dsimp only at i0 i1 ⊢
 by_cases hi:i<l.length
 ·simp[hi]
  (with_reducible repeat' first|(first|refine Xy ?_|refine Xz ?_|refine Xu ?_|refine Xv ?_)<;>try simp|(first|refine Xa (fun h h'=>?_) (fun h=>?_)|(first|refine Xd ?_ ?_|refine Xo ?_ ?_|refine Xb ?_ ?_)<;>intro h)<;>(try simp[h])<;>(try (exfalso;omega))|refine Xg ?_|omega)
  refine XCall.c rfl rfl (f134 g hg (gt l i) (hl _ (gt_mem i0 hi))) (by simp) (by simp) ?_
  simp
  (with_reducible repeat' first|(first|refine Xy ?_|refine Xz ?_|refine Xu ?_|refine Xv ?_)<;>try simp|(first|refine Xa (fun h h'=>?_) (fun h=>?_)|(first|refine Xd ?_ ?_|refine Xo ?_ ?_|refine Xb ?_ ?_)<;>intro h)<;>(try simp[h])<;>(try (exfalso;omega))|refine Xg ?_|omega)
  refine LJ.e (i+1) ?_
  exact⟨by omega,by omega,by omega⟩
 ·simp[hi]
theorem f135(g:Game)(hg:GameOK g)(l:List Int)(hl:∀ n∈l,0≤n∧n≤2*g.kinds.length)(h9:l.length≤9):Wf T 135 [dI l,.fn (.func 134) [] [.fptr [.fn (.func 133) [dG g] []]]] [] (Is (.b false)):=by
 refine Wf.x (fn:=F135) rfl (by simp[F135]) ?_
 simp[F135]
 refine XCall.c rfl rfl (f178 g hg l hl h9) (by simp) (by simp) ?_
 simp
theorem f136(g:Game)(hg:GameOK g)(l:List Int)(hl:HandOK g l):Wf T 136 [dG g,dI l] [] (Is (.b true)):=by
 have hk:=hg.kinds
 have hn:=hl.len
 refine Wf.x (fn:=F136) rfl (by simp[F136]) ?_
 simp[F136]
 (with_reducible repeat' first|(first|refine Xy ?_|refine Xz ?_|refine Xu ?_|refine Xv ?_)<;>try simp[hn]|(first|refine Xa (fun h h'=>?_) (fun h=>?_)|(first|refine Xd ?_ ?_|refine Xo ?_ ?_|refine Xb ?_ ?_)<;>intro h)<;>(try simp[h,hn])<;>(try (exfalso;omega))|refine Xg ?_|omega)
 refine XLoop.e (0:Int) (fun y=>[(2,.ptr 0 0 0),(14,dI l),(15,.i g.kinds.length),(16,.i y)]) (fun y=>[.row 214 0 g.cells]) (fun y=>0≤y∧y≤l.length) (fun y=>(l.length-y).toNat) ?_ ?_
 ·simp
 rintro i ⟨i0,i1⟩
 dsimp only at i0 i1 ⊢
 by_cases hi:i<l.length
 ·have ha:=hl.at_ i i0 hi
  have hik:i<g.kinds.length:=by omega
  by_cases hp:0<gt l i
  ·have hkp:=ha.2.2 hp
   simp[hi]
   (with_reducible repeat' first|(first|refine Xy ?_|refine Xz ?_|refine Xu ?_|refine Xv ?_)<;>try simp[hkp,hp]|(first|refine Xa (fun h h'=>?_) (fun h=>?_)|(first|refine Xd ?_ ?_|refine Xo ?_ ?_|refine Xb ?_ ?_)<;>intro h)<;>(try simp[h,hkp,hp])<;>(try (exfalso;omega))|refine Xg ?_|omega)
   refine LJ.e (i+1) ?_
   exact⟨by omega,by omega,by omega⟩
  ·simp[hi]
   (with_reducible repeat' first|(first|refine Xy ?_|refine Xz ?_|refine Xu ?_|refine Xv ?_)<;>try simp[hp]|(first|refine Xa (fun h h'=>?_) (fun h=>?_)|(first|refine Xd ?_ ?_|refine Xo ?_ ?_|refine Xb ?_ ?_)<;>intro h)<;>(try simp[h,hp])<;>(try (exfalso;omega))|refine Xg ?_|omega)
   refine LJ.e (i+1) ?_
   exact⟨by omega,by omega,by omega⟩
 ·simp[show ¬ i<g.kinds.length by omega]
theorem f97(g:Game)(hg:GameOK g)(p:Pos)(hp:PosOK g p):Wf T 97 [dG g,dP p] [] (Is (.b true)):=by
 have hk:=hg.kinds
 have hr:=hg.rights
 have hr2:=hp.rights
 have hs:=hp.side
 have hz:=hp.size
 have hb:=hg.board.size
 have h4:=shl_small hr.1 (by omega)
 refine Wf.x (fn:=F97) rfl (by simp[F97]) ?_
 simp[F97,h4,hz]
 refine XTCall.r rfl rfl (f135 g hg p.cs hp.cs (by omega)) (by simp) (by simp[flat]) (by simp) ?_
 simp
 refine XTCall.c rfl rfl (f136 g hg p.h0 hp.h0) (by simp) (by simp) ?_
 simp
 refine XTCall.c rfl rfl (f136 g hg p.h1 hp.h1) (by simp) (by simp) ?_
 simp
 (with_reducible repeat' first|(first|refine Xy ?_|refine Xz ?_|refine Xu ?_|refine Xv ?_)<;>try simp[h4]|(first|refine Xa (fun h h'=>?_) (fun h=>?_)|(first|refine Xd ?_ ?_|refine Xo ?_ ?_|refine Xb ?_ ?_)<;>intro h)<;>(try simp[h,h4])<;>(try (exfalso;omega))|refine Xg ?_|omega)
 ·simp[*]
 ·have:p.side=1:=by omega
  simp[*]
set_option maxRecDepth 10000
set_option maxHeartbeats 4000000
theorem f177(n:Int):Wf T 177 [.i n] [] (Is (.b false)):=by
 refine Wf.x (fn:=F177) rfl (by simp[F177]) ?_
 simp[F177]
theorem f131(a b:Int):Wf T 131 [.i a,.i b] [] (Is (.i (numberC a b))):=by
 refine Wf.x (fn:=F131) rfl (by simp[F131]) ?_
 simp[F131]
 refine XCall.c rfl rfl (f177 a) (by simp) (by simp) ?_
 simp
 refine XCall.c rfl rfl (f177 b) (by simp) (by simp) ?_
 simp
 (with_reducible repeat' first|(first|refine Xy ?_|refine Xz ?_|refine Xu ?_|refine Xv ?_)<;>try simp|(first|refine Xa (fun h h'=>?_) (fun h=>?_)|(first|refine Xd ?_ ?_|refine Xo ?_ ?_|refine Xb ?_ ?_)<;>intro h)<;>(try simp[h])<;>(try (exfalso;omega))|refine Xg ?_|omega)
 all_goals
  unfold numberC
  (repeat' split)<;>(first|rfl|(exfalso;omega))
theorem f130(a b:List Int)(ha:a.length<2 ^ 40)(hb:b.length<2 ^ 40):Wf T 130 [dI a,dI b] [] (Is (.i (listC a b))):=by
 refine Wf.x (fn:=F130) rfl (by simp[F130]) ?_
 simp[F130]
 refine XLoop.e (0:Int) (fun i=>[(0,dI a),(1,dI b),(9,dI a),(10,.i a.length),(11,.i i)]) (fun i=>[]) (fun i=>0≤i∧i≤a.length∧i≤b.length∧a.take i.toNat=b.take i.toNat) (fun i=>a.length-i.toNat) ?_ ?_
 ·simp
 rintro i ⟨h0,h1,h1',h2⟩
 have e:=listC_take h2 (by omega) (by omega)
 by_cases hi:i<a.length
 ·by_cases hj:i<b.length
  ·simp[hi,hj]
   (with_reducible repeat' first|(first|refine Xy ?_|refine Xz ?_|refine Xu ?_|refine Xv ?_)<;>try simp|(first|refine Xa (fun h h'=>?_) (fun h=>?_)|(first|refine Xd ?_ ?_|refine Xo ?_ ?_|refine Xb ?_ ?_)<;>intro h)<;>(try simp[h])<;>(try (exfalso;omega))|refine Xg ?_|omega)
   refine XCall.c rfl rfl (f131 (gt a i) (gt b i)) (by simp) (by simp) ?_
   simp
   by_cases hz:numberC (gt a i) (gt b i)=0
   ·simp[hz]
    (with_reducible repeat' first|(first|refine Xy ?_|refine Xz ?_|refine Xu ?_|refine Xv ?_)<;>try simp|(first|refine Xa (fun h h'=>?_) (fun h=>?_)|(first|refine Xd ?_ ?_|refine Xo ?_ ?_|refine Xb ?_ ?_)<;>intro h)<;>(try simp[h])<;>(try (exfalso;omega))|refine Xg ?_|omega)
    refine LJ.e (i+1) ?_
    refine⟨by omega,by omega,by omega,by omega,?_⟩
    rw[take_gt h0 hi,take_gt h0 hj,h2,numberC_zero.1 hz]
   ·simp[hz]
    rw[e,drop_gt h0 hi,drop_gt h0 hj,listC,if_neg (fun h=>hz (numberC_zero.2 h))]
  ·simp[hi,hj]
   (with_reducible repeat' first|(first|refine Xy ?_|refine Xz ?_|refine Xu ?_|refine Xv ?_)<;>try simp|(first|refine Xa (fun h h'=>?_) (fun h=>?_)|(first|refine Xd ?_ ?_|refine Xo ?_ ?_|refine Xb ?_ ?_)<;>intro h)<;>(try simp[h])<;>(try (exfalso;omega))|refine Xg ?_|omega)
   have h5:numberC ((a.drop i.toNat).length) ((b.drop i.toNat).length)=1:=by
    simp only[List.length_drop,numberC]
    rw[if_neg (by omega),if_pos (by omega)]
   rw[e,listC_end (by simp only[List.length_drop];omega),h5]
 ·simp[hi]
  (with_reducible repeat' first|(first|refine Xy ?_|refine Xz ?_|refine Xu ?_|refine Xv ?_)<;>try simp|(first|refine Xa (fun h h'=>?_) (fun h=>?_)|(first|refine Xd ?_ ?_|refine Xo ?_ ?_|refine Xb ?_ ?_)<;>intro h)<;>(try simp[h])<;>(try (exfalso;omega))|refine Xg ?_|omega)
  all_goals
   rw[e,listC_end (by simp only[List.length_drop];omega)]
   simp only[List.length_drop,numberC]
   (repeat' split)<;>omega
theorem f129(l:List Int)(hl:l.length<2 ^ 40):Wf T 129 [dI l] [] (Is (.i (firstNZ l))):=by
 refine Wf.x (fn:=F129) rfl (by simp[F129]) ?_
 simp[F129]
 refine XLoop.e (0:Int) (fun i=>[(3,.i 0),(6,dI l),(7,.i l.length),(8,.i i)]) (fun i=>[]) (fun i=>0≤i∧i≤l.length∧firstNZ l=firstNZ (l.drop i.toNat)) (fun i=>l.length-i.toNat) ?_ ?_
 ·simp
 rintro i ⟨h0,h1,h2⟩
 by_cases hi:i<l.length
 ·rw[drop_gt h0 hi]at h2
  by_cases hz:gt l i=0
  ·simp[hi,hz]
   (with_reducible repeat' first|(first|refine Xy ?_|refine Xz ?_|refine Xu ?_|refine Xv ?_)<;>try simp|(first|refine Xa (fun h h'=>?_) (fun h=>?_)|(first|refine Xd ?_ ?_|refine Xo ?_ ?_|refine Xb ?_ ?_)<;>intro h)<;>(try simp[h])<;>(try (exfalso;omega))|refine Xg ?_|omega)
   refine LJ.e (i+1) ?_
   refine⟨by omega,by omega,by omega,?_⟩
   rw[h2]
   simp only[firstNZ,hz]
   rw[if_neg (by simp),show(i+1).toNat=i.toNat+1 by omega]
  ·simp[hi,hz]
   (with_reducible repeat' first|(first|refine Xy ?_|refine Xz ?_|refine Xu ?_|refine Xv ?_)<;>try simp|(first|refine Xa (fun h h'=>?_) (fun h=>?_)|(first|refine Xd ?_ ?_|refine Xo ?_ ?_|refine Xb ?_ ?_)<;>intro h)<;>(try simp[h])<;>(try (exfalso;omega))|refine Xg ?_|omega)
   rw[h2]
   simp[firstNZ,hz]
 ·simp[hi]
  rw[h2,List.drop_eq_nil_of_le (by omega)]
  rfl
theorem f88(p q:Pos)(hp:Small p)(hq:Small q):Wf T 88 [dP p,dP q] [] (Is (.i (cmpP p q))):=by
 refine Wf.x (fn:=F88) rfl (by simp[F88]) ?_
 simp[F88]
 refine XTCall.c rfl rfl (f130 _ _ hp.1 hq.1) (by simp) (by simp) ?_
 simp
 refine XTCall.c rfl rfl (f130 _ _ hp.2.1 hq.2.1) (by simp) (by simp) ?_
 simp
 refine XTCall.c rfl rfl (f130 _ _ hp.2.2 hq.2.2) (by simp) (by simp) ?_
 simp
 refine XTCall.c rfl rfl (f131 _ _) (by simp) (by simp) ?_
 simp
 refine XTCall.c rfl rfl (f131 _ _) (by simp) (by simp) ?_
 simp
 refine XTCall.r rfl rfl (f129 [listC p.cs q.cs,listC p.h0 q.h0,listC p.h1 q.h1,numberC p.rights q.rights,numberC p.side q.side] (by simp)) (by simp;exact dI_lit _ rfl rfl) (by simp[flat]) (by simp) ?_
 simp
 rfl
theorem f100(l:List Pos)(hl:l.length<2 ^ 40)(hs:∀ p∈l,Small p)(hso:Sorted l):Wf T 100 [dPs l] [] (Is (.b true)):=by
 refine Wf.x (fn:=F100) rfl (by simp[F100]) ?_
 simp[F100]
 (with_reducible repeat' first|(first|refine Xy ?_|refine Xz ?_|refine Xu ?_|refine Xv ?_)<;>try simp|(first|refine Xa (fun h h'=>?_) (fun h=>?_)|(first|refine Xd ?_ ?_|refine Xo ?_ ?_|refine Xb ?_ ?_)<;>intro h)<;>(try simp[h])<;>(try (exfalso;omega))|refine Xg ?_|omega)
 refine XLoop.e (0:Int) (fun i=>[(0,dPs l),(6,.i (l.length-1)),(7,.i i)]) (fun i=>[]) (fun i=>0≤i) (fun i=>l.length-i.toNat) ?_ ?_
 ·simp
 rintro i h0
 by_cases hi:i<l.length-1
 ·simp[hi]
  (with_reducible repeat' first|(first|refine Xy ?_|refine Xz ?_|refine Xu ?_|refine Xv ?_)<;>try simp|(first|refine Xa (fun h h'=>?_) (fun h=>?_)|(first|refine Xd ?_ ?_|refine Xo ?_ ?_|refine Xb ?_ ?_)<;>intro h)<;>(try simp[h])<;>(try (exfalso;omega))|refine Xg ?_|omega)
  refine XTCall.c rfl rfl (f88 _ _ (hs _ (gt_mem h0 (by omega))) (hs _ (gt_mem (n:=i+1) (by omega) (by omega)))) (by simp) (by simp) ?_
  simp
  have:=hso (i+1) (by omega) (by omega)
  rw[Int.add_sub_cancel]at this
  simp[show ¬ 0≤cmpP (gt l i) (gt l (i+1))by omega]
  (with_reducible repeat' first|(first|refine Xy ?_|refine Xz ?_|refine Xu ?_|refine Xv ?_)<;>try simp|(first|refine Xa (fun h h'=>?_) (fun h=>?_)|(first|refine Xd ?_ ?_|refine Xo ?_ ?_|refine Xb ?_ ?_)<;>intro h)<;>(try simp[h])<;>(try (exfalso;omega))|refine Xg ?_|omega)
  refine LJ.e (i+1) ?_
  exact⟨by omega,by omega⟩
 ·simp[hi]
theorem f96(g:Game)(hg:GameOK g)(p:Pos)(hp:PosOK g p):Wf T 96 [dP p,.fptr g.cells] [] (Is (.b false)):=by
 refine Wf.x (fn:=F96) rfl (by simp[F96]) ?_
 simp[F96]
 refine XCall.c rfl rfl (f97 g hg p hp) (by simp) (by simp) ?_
 simp
theorem f147(g:Game)(hg:GameOK g)(l:List Pos)(hl:∀ p∈l,PosOK g p)(h9:l.length<2 ^ 40):Wf T 147 [dPs l,.fn (.func 96) [] [.fptr g.cells]] [] (Is (.i (-1))):=by
 refine Wf.x (fn:=F147) rfl (by simp[F147]) ?_
 simp[F147]
 refine XLoop.e (0:Int) (fun y=>[(0,dPs l),(1,.fn (.func 96) [] [.fptr g.cells]),(7,.i l.length),(8,.i y)]) (fun y=>[]) (fun y=>0≤y∧y≤l.length) (fun y=>(l.length-y).toNat) ?_ ?_
 ·simp
 rintro i ⟨i0,i1⟩
 by_cases hi:i<l.length
 ·simp[hi]
  (with_reducible repeat' first|(first|refine Xy ?_|refine Xz ?_|refine Xu ?_|refine Xv ?_)<;>try simp|(first|refine Xa (fun h h'=>?_) (fun h=>?_)|(first|refine Xd ?_ ?_|refine Xo ?_ ?_|refine Xb ?_ ?_)<;>intro h)<;>(try simp[h])<;>(try (exfalso;omega))|refine Xg ?_|omega)
  refine XCall.c rfl rfl (f96 g hg (gt l i) (hl _ (gt_mem i0 hi))) (by simp) (by simp) ?_
  simp
  (with_reducible repeat' first|(first|refine Xy ?_|refine Xz ?_|refine Xu ?_|refine Xv ?_)<;>try simp|(first|refine Xa (fun h h'=>?_) (fun h=>?_)|(first|refine Xd ?_ ?_|refine Xo ?_ ?_|refine Xb ?_ ?_)<;>intro h)<;>(try simp[h])<;>(try (exfalso;omega))|refine Xg ?_|omega)
  refine LJ.e (i+1) ?_
  exact⟨by omega,by omega,by omega⟩
 ·simp[hi]
theorem f99(g:Game)(hg:GameOK g)(l:List Pos)(hl:∀ p∈l,PosOK g p)(h9:l.length<2 ^ 40):Wf T 99 [dPs l,.fn (.func 96) [] [.fptr g.cells]] [] (Is (.b false)):=by
 refine Wf.x (fn:=F99) rfl (by simp[F99]) ?_
 simp[F99]
 refine XCall.c rfl rfl (f147 g hg l hl h9) (by simp) (by simp) ?_
 simp
end Go.Proofs.YtnaefnajkaohgaaGreatDoor
