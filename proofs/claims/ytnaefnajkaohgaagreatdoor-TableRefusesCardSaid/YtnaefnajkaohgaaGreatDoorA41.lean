/- Part 41 of the proof of skewer.skewerlaw15.TableRefuses. -/
import Derived.Test.YtnaefnajkaohgaaGreatDoorA40
import Derived.Test.YtnaefnajkaohgaaGreatDoorA08
import Derived.Test.YtnaefnajkaohgaaGreatDoorA28
set_option linter.all false
namespace Go.Proofs.YtnaefnajkaohgaaGreatDoor
open Go Go.AL Classical
set_option maxRecDepth 10000
set_option maxHeartbeats 8000000
theorem f42a(g:Game)(hg:GameOK g)(l:List Pos)(hc:Closed2 g l)(h0:0<l.length)(m:List Int)(n:Int)(hn:n<1):Wf T 42 [dG g,.agg [dI m],dPs l,.i n] [] (Is (.tup [.emp,.i 0,.i 150])):=by
 have h9:=hc.len
 refine Wf.x (fn:=F42) rfl (by simp[F42]) ?_
 simp[F42]
 refine XCall.inl F70 rfl rfl (by simp[F70]) rfl ?_
 simp[F70]
 refine XCall.c rfl rfl (f52 g hg l hc h0) (by simp) (by simp) ?_
 simp
 (with_reducible repeat' first|(first|refine Xy ?_|refine Xz ?_|refine Xu ?_|refine Xv ?_)<;>try simp|(first|refine Xa (fun h h'=>?_) (fun h=>?_)|(first|refine Xd ?_ ?_|refine Xo ?_ ?_|refine Xb ?_ ?_)<;>intro h)<;>(try simp[h])<;>(try (exfalso;omega))|refine Xg ?_|omega)
theorem sorted_no{l:List Pos}(hs:Sorted l)(h0:0<l.length){i:Int}(i0:0≤i)(i1:i<l.length):0≤cmpP (gt (l ++ [gt l (l.length-1)]) i) (gt (l ++ [gt l (l.length-1)]) (i+1))↔i=l.length-1:=by
 have e1:gt (l ++ [gt l (l.length-1)]) i=gt l i:=by
  rw[gt_eq i0 (by simp;omega),gt_eq i0 i1,List.getElem_append_left (by omega)]
 rw[e1]
 by_cases h:i=l.length-1
 ·subst h
  have e2:gt (l ++ [gt l (l.length-1)]) (l.length-1+1)=gt l (l.length-1):=by
   rw[gt_eq (by omega) (by simp;omega),List.getElem_append_right (by omega)];simp
  rw[e2,cmpP_refl];simp
 ·have e2:gt (l ++ [gt l (l.length-1)]) (i+1)=gt l (i+1):=by
   rw[gt_eq (by omega) (by simp;omega),List.getElem_append_left (by omega)]
   exact(gt_eq (by omega) (by omega)).symm
  have:=hs (i+1) (by omega) (by omega)
  rw[Int.add_sub_cancel]at this
  rw[e2]
  constructor
  ·intro;omega
  ·intro;omega
theorem f100n(g:Game)(hg:GameOK g)(l:List Pos)(hc:Closed2 g l)(h0:0<l.length):Wf T 100 [dPs (l ++ [gt l (l.length-1)])] [] (Is (.b false)):=by
 have h9:=hc.len
 have hl:((l ++ [gt l (l.length-1)]).length:Int)=l.length+1:=by simp
 have hsm:∀ p∈l ++ [gt l (l.length-1)],Small p:=fun p hp=>by
  rcases List.mem_append.1 hp with hp|hp
  ·exact(hc.ok p hp).small hg
  ·rw[List.mem_singleton.1 hp];exact(hc.ok _ (gt_mem (by omega) (by omega))).small hg
 have hno:=fun{i:Int}=>sorted_no hc.srt h0 (i:=i)
 generalize l ++ [gt l (l.length-1)]=l2 at *
 refine Wf.x (fn:=F100) rfl (by simp[F100]) ?_
 simp[F100]
 (with_reducible repeat' first|(first|refine Xy ?_|refine Xz ?_|refine Xu ?_|refine Xv ?_)<;>try simp|(first|refine Xa (fun h h'=>?_) (fun h=>?_)|(first|refine Xd ?_ ?_|refine Xo ?_ ?_|refine Xb ?_ ?_)<;>intro h)<;>(try simp[h])<;>(try (exfalso;omega))|refine Xg ?_|omega)
 refine XLoop.e (0:Int) (fun i=>[(0,dPs l2),(6,.i (l2.length-1)),(7,.i i)]) (fun i=>[]) (fun i=>0≤i∧i<l.length) (fun i=>l2.length-i.toNat) ?_ ?_
 ·simp
  omega
 rintro i ⟨i0,i1⟩
 simp[show i<l2.length-1 by omega]
 (with_reducible repeat' first|(first|refine Xy ?_|refine Xz ?_|refine Xu ?_|refine Xv ?_)<;>try simp|(first|refine Xa (fun h h'=>?_) (fun h=>?_)|(first|refine Xd ?_ ?_|refine Xo ?_ ?_|refine Xb ?_ ?_)<;>intro h)<;>(try simp[h])<;>(try (exfalso;omega))|refine Xg ?_|omega)
 refine XTCall.c rfl rfl (f88 _ _ (hsm _ (gt_mem i0 (by omega))) (hsm _ (gt_mem (n:=i+1) (by omega) (by omega)))) (by simp) (by simp) ?_
 simp
 have hn:=hno i0 i1
 by_cases h:i=l.length-1
 ·simp[hn.2 h]
 ·simp[show ¬ 0≤cmpP (gt l2 i) (gt l2 (i+1))from fun e=>h (hn.1 e)]
  (with_reducible repeat' first|(first|refine Xy ?_|refine Xz ?_|refine Xu ?_|refine Xv ?_)<;>try simp|(first|refine Xa (fun h h'=>?_) (fun h=>?_)|(first|refine Xd ?_ ?_|refine Xo ?_ ?_|refine Xb ?_ ?_)<;>intro h)<;>(try simp[h])<;>(try (exfalso;omega))|refine Xg ?_|omega)
  refine LJ.e (i+1) ?_
  exact⟨by omega,by omega,by omega⟩
theorem f52n(g:Game)(hg:GameOK g)(l:List Pos)(hc:Closed2 g l)(h0:0<l.length)(h80:l.length≤80):Wf T 52 [dG g,dPs (l ++ [gt l (l.length-1)])] [] (Is (.tup [.emp,.i 70])):=by
 have hl:((l ++ [gt l (l.length-1)]).length:Int)=l.length+1:=by simp
 have hok:∀ p∈l ++ [gt l (l.length-1)],PosOK g p:=fun p hp=>by
  rcases List.mem_append.1 hp with hp|hp
  ·exact hc.ok p hp
  ·rw[List.mem_singleton.1 hp];exact hc.ok _ (gt_mem (by omega) (by omega))
 have c:=f100n g hg l hc h0
 generalize l ++ [gt l (l.length-1)]=l2 at *
 refine Wf.x (fn:=F52) rfl (by simp[F52]) ?_
 simp[F52]
 refine XCall.c rfl rfl (f98 g hg) (by simp) (by simp) ?_
 simp
 (with_reducible repeat' first|(first|refine Xy ?_|refine Xz ?_|refine Xu ?_|refine Xv ?_)<;>try simp|(first|refine Xa (fun h h'=>?_) (fun h=>?_)|(first|refine Xd ?_ ?_|refine Xo ?_ ?_|refine Xb ?_ ?_)<;>intro h)<;>(try simp[h])<;>(try (exfalso;omega))|refine Xg ?_|omega)
 refine XCall.r rfl rfl (f99 g hg l2 hok (by omega)) (by simp) (by simp[flat]) (by simp) ?_
 simp
 (with_reducible repeat' first|(first|refine Xy ?_|refine Xz ?_|refine Xu ?_|refine Xv ?_)<;>try simp|(first|refine Xa (fun h h'=>?_) (fun h=>?_)|(first|refine Xd ?_ ?_|refine Xo ?_ ?_|refine Xb ?_ ?_)<;>intro h)<;>(try simp[h])<;>(try (exfalso;omega))|refine Xg ?_|omega)
 refine XCall.c rfl rfl (c) (by simp) (by simp) ?_
 simp
 (with_reducible repeat' first|(first|refine Xy ?_|refine Xz ?_|refine Xu ?_|refine Xv ?_)<;>try simp|(first|refine Xa (fun h h'=>?_) (fun h=>?_)|(first|refine Xd ?_ ?_|refine Xo ?_ ?_|refine Xb ?_ ?_)<;>intro h)<;>(try simp[h])<;>(try (exfalso;omega))|refine Xg ?_|omega)
theorem f42b(g:Game)(hg:GameOK g)(l:List Pos)(hc:Closed2 g l)(h0:0<l.length)(h80:l.length≤80)(m:List Int)(n:Int):Wf T 42 [dG g,.agg [dI m],dPs (l ++ [gt l (l.length-1)]),.i n] [] (Is (.tup [.emp,.i 0,.i 70])):=by
 refine Wf.x (fn:=F42) rfl (by simp[F42]) ?_
 simp[F42]
 refine XCall.inl F70 rfl rfl (by simp[F70]) rfl ?_
 simp[F70]
 refine XCall.c rfl rfl (f52n g hg l hc h0 h80) (by simp) (by simp) ?_
 simp
@[simp] theorem box_dPs(t:TypeId)(l:List Pos)(n:Nat):boxO t (dPs l) n=some (.ptr n 0 0,.new (.row t 0 [dPs l])):=by unfold boxO;rw[cellsOf_dPs]
@[simp] theorem box_dProg(t:TypeId)(l:List Stp)(n:Nat):boxO t (dProg l) n=some (.ptr n 0 0,.new (.row t 0 [dProg l])):=by unfold boxO;rw[cellsOf_dProg]
theorem f40a(g:Game)(hg:GameOK g)(l:List Pos)(hc:Closed2 g l)(h0:0<l.length)(m:List Int)(v:List Stp)(hv:v.length≠l.length):Wf T 40 [dG g,.agg [dI m],dPs l,dProg v] [] (Is (.tup [.emp,.i 70])):=by
 have h9:=hc.len
 refine Wf.x (fn:=F40) rfl (by simp[F40]) ?_
 simp[F40]
 refine XCall.inl F70 rfl rfl (by simp[F70]) rfl ?_
 simp[F70]
 refine XCall.c rfl rfl (f52 g hg l hc h0) (by simp) (by simp) ?_
 simp
 (with_reducible repeat' first|(first|refine Xy ?_|refine Xz ?_|refine Xu ?_|refine Xv ?_)<;>try simp|(first|refine Xa (fun h h'=>?_) (fun h=>?_)|(first|refine Xd ?_ ?_|refine Xo ?_ ?_|refine Xb ?_ ?_)<;>intro h)<;>(try simp[h])<;>(try (exfalso;omega))|refine Xg ?_|omega)
theorem f45a(g:Game)(hg:GameOK g)(l:List Pos)(hc:Closed2 g l)(h0:0<l.length)(v:List Stp)(hv:v.length≠l.length)(n:Int):Wf T 45 [dG g,dPs l,dProg v,.emp,.i n] [] (Is (.tup [.emp,.i 0,.i 70])):=by
 have h9:=hc.len
 refine Wf.x (fn:=F45) rfl (by simp[F45]) ?_
 simp[F45]
 refine XCall.inl F70 rfl rfl (by simp[F70]) rfl ?_
 simp[F70]
 refine XCall.c rfl rfl (f52 g hg l hc h0) (by simp) (by simp) ?_
 simp
 (with_reducible repeat' first|(first|refine Xy ?_|refine Xz ?_|refine Xu ?_|refine Xv ?_)<;>try simp|(first|refine Xa (fun h h'=>?_) (fun h=>?_)|(first|refine Xd ?_ ?_|refine Xo ?_ ?_|refine Xb ?_ ?_)<;>intro h)<;>(try simp[h])<;>(try (exfalso;omega))|refine Xg ?_|omega)
def prevP(part:List Int)(k:Int):Int:=if k=0 then -1 else gt part (k-1)
@[simp] theorem prevP_0(part:List Int):prevP part 0 = -1:=rfl
theorem prevP_s{part:List Int}{k:Int}(h:0≤k):prevP part (k+1)=gt part k:=by
 unfold prevP;rw[if_neg (by omega),Int.add_sub_cancel]
def PartOK(n:Nat)(part:List Int):Prop:=∀ k:Int,0≤k→k<part.length→prevP part k<gt part k∧gt part k<n
theorem f45b(g:Game)(hg:GameOK g)(l:List Pos)(hc:Closed2 g l)(h0:0<l.length)(v:List Stp)(hv:v.length=l.length)(part:List Int)(hp9:part.length<2 ^ 40)(n:Int)(hbad:n<1∨¬ PartOK l.length part):Wf T 45 [dG g,dPs l,dProg v,dI part,.i n] [] (Is (.tup [.emp,.i 0,.i 150])):=by
 have h9:=hc.len
 refine Wf.x (fn:=F45) rfl (by simp[F45]) ?_
 simp[F45]
 refine XCall.inl F70 rfl rfl (by simp[F70]) rfl ?_
 simp[F70]
 refine XCall.c rfl rfl (f52 g hg l hc h0) (by simp) (by simp) ?_
 simp
 (with_reducible repeat' first|(first|refine Xy ?_|refine Xz ?_|refine Xu ?_|refine Xv ?_)<;>try simp|(first|refine Xa (fun h h'=>?_) (fun h=>?_)|(first|refine Xd ?_ ?_|refine Xo ?_ ?_|refine Xb ?_ ?_)<;>intro h)<;>(try simp[h])<;>(try (exfalso;omega))|refine Xg ?_|omega)
 all_goals
  refine XLoop.e (0:Int) (fun y=>[(1,dPs l),(2,dProg v),(3,dI part),(4,.i n),(13,.ptr 1 0 0),(15,.i (prevP part y)),(34,dI part),(35,.i part.length),(36,.i y)]) (fun y=>[.row 41 0 g.cells,.row 148 0 [.osl 2 0 2 0 l.length,.osl 3 0 1 0 l.length,.i g.size,.sl 1 (g.next.map fI),dI g.turn,.sl 3 (g.kinds.map Kind.cells),.i g.rights,.b g.must,dN 4 Clause.cells g.clauses,.i g.blocked,.i g.endless,dPs l,.sl 1 ((nextI g l).map fN)],.row 58 0 (cl fS (List.replicate l.length (0,0))),.row 4 0 (cl fB (List.replicate l.length false))]) (fun y=>0≤y∧y≤part.length∧∀ k:Int,0≤k→k<y→prevP part k<gt part k∧gt part k<l.length) (fun y=>(part.length-y).toNat) ?_ ?_
  ·simp
   intro k k0 k1;omega
  rintro y ⟨y0,y1,y2⟩
  by_cases hy:y<part.length
  ·simp[hy]
   (with_reducible repeat' first|(first|refine Xy ?_|refine Xz ?_|refine Xu ?_|refine Xv ?_)<;>try simp|(first|refine Xa (fun h h'=>?_) (fun h=>?_)|(first|refine Xd ?_ ?_|refine Xo ?_ ?_|refine Xb ?_ ?_)<;>intro h)<;>(try simp[h])<;>(try (exfalso;omega))|refine Xg ?_|omega)
   rename_i h1 h2
   refine LJ.i (y+1) (by first|rfl|simp[prevP_s y0]) (by first|rfl|simp[prevP_s y0]) rfl rfl ?_
   refine⟨by omega,by omega,by omega,fun k k0 k1=>?_⟩
   by_cases e:k=y
   ·subst e;exact⟨by omega,by omega⟩
   ·exact y2 k k0 (by omega)
  ·have hok:PartOK l.length part:=fun k k0 k1=>y2 k k0 (by omega)
   have hn:n<1:=hbad.resolve_right fun h=>h hok
   simp[hy,hn]
end Go.Proofs.YtnaefnajkaohgaaGreatDoor
namespace Go.Proofs.YtnaefnajkaohgaaGreatDoor
open Go Go.AL
theorem k0:Ev T (.call 26 [(.agg [(.i 3),(.sl 1 [[(.sl 1 [[(.i 1)],[(.i 2)],[(.i (-1))]])],[(.sl 1 [[(.i (-1))],[(.i 0)],[(.i 1)]])]]),(.sl 1 [[(.i 1)],[(.i 0)]]),(.sl 3 [[(.val (.string ⟨#[97]⟩)),(.sl 1 [[(.sl 2 [[(.i 1),(.i 0)],[(.i 3),(.i 0)]])],[(.sl 2 [[(.i 1),(.i 0)],[(.i 4),(.i 0)],[(.i 6),(.i 0)]])]]),(.b false)]]),(.i 0),(.b false),.emp,(.i 3),(.i 2)]),(.agg [(.sl 1 [[(.i 0)],[(.i 1)],[(.i 2)]]),(.sl 1 [[(.i 0)]]),(.sl 1 [[(.i 0)]]),(.i 0),(.i 1)])] []) (InV [((.sl 5 [[(.sl 1 [[(.i 0)],[(.i 2)],[(.i 0)]]),(.sl 1 [[(.i 0)]]),(.sl 1 [[(.i 0)]]),(.i 0),(.i 0)]]),[])]):=
 run_ev (k:=60) (.nil _) (by kernel_rfl)
theorem k1:Ev T (.call 26 [(.agg [(.i 3),(.sl 1 [[(.sl 1 [[(.i 1)],[(.i 2)],[(.i (-1))]])],[(.sl 1 [[(.i (-1))],[(.i 0)],[(.i 1)]])]]),(.sl 1 [[(.i 1)],[(.i 0)]]),(.sl 3 [[(.val (.string ⟨#[97]⟩)),(.sl 1 [[(.sl 2 [[(.i 1),(.i 0)],[(.i 3),(.i 0)]])],[(.sl 2 [[(.i 1),(.i 0)],[(.i 4),(.i 0)],[(.i 6),(.i 0)]])]]),(.b false)]]),(.i 0),(.b false),.emp,(.i 3),(.i 2)]),(.agg [(.sl 1 [[(.i 0)],[(.i 2)],[(.i 0)]]),(.sl 1 [[(.i 0)]]),(.sl 1 [[(.i 0)]]),(.i 0),(.i 0)])] []) (InV [(.emp,[])]):=
 run_ev (k:=60) (.cons k0 (.nil _)) (by kernel_rfl)
theorem k2:Ev T (.call 26 [(.agg [(.i 3),(.sl 1 [[(.sl 1 [[(.i 1)],[(.i 2)],[(.i (-1))]])],[(.sl 1 [[(.i (-1))],[(.i 0)],[(.i 1)]])]]),(.sl 1 [[(.i 1)],[(.i 0)]]),(.sl 3 [[(.val (.string ⟨#[97]⟩)),(.sl 1 [[(.sl 2 [[(.i 1),(.i 0)],[(.i 3),(.i 0)]])],[(.sl 2 [[(.i 1),(.i 0)],[(.i 4),(.i 0)],[(.i 6),(.i 0)]])]]),(.b false)]]),(.i 0),(.b false),.emp,(.i 3),(.i 2)]),(.agg [(.sl 1 [[(.i 1)],[(.i 0)],[(.i 2)]]),(.sl 1 [[(.i 0)]]),(.sl 1 [[(.i 0)]]),(.i 0),(.i 0)])] []) (InV [((.sl 5 [[(.sl 1 [[(.i 0)],[(.i 1)],[(.i 2)]]),(.sl 1 [[(.i 0)]]),(.sl 1 [[(.i 0)]]),(.i 0),(.i 1)]]),[])]):=
 run_ev (k:=60) (.cons k0 (.cons k1 (.nil _))) (by kernel_rfl)
theorem k3:Ev T (.call 52 [(.agg [(.i 3),(.sl 1 [[(.sl 1 [[(.i 1)],[(.i 2)],[(.i (-1))]])],[(.sl 1 [[(.i (-1))],[(.i 0)],[(.i 1)]])]]),(.sl 1 [[(.i 1)],[(.i 0)]]),(.sl 3 [[(.val (.string ⟨#[97]⟩)),(.sl 1 [[(.sl 2 [[(.i 1),(.i 0)],[(.i 3),(.i 0)]])],[(.sl 2 [[(.i 1),(.i 0)],[(.i 4),(.i 0)],[(.i 6),(.i 0)]])]]),(.b false)]]),(.i 0),(.b false),.emp,(.i 3),(.i 2)]),(.sl 5 [[(.sl 1 [[(.i 0)],[(.i 1)],[(.i 2)]]),(.sl 1 [[(.i 0)]]),(.sl 1 [[(.i 0)]]),(.i 0),(.i 1)],[(.sl 1 [[(.i 0)],[(.i 2)],[(.i 0)]]),(.sl 1 [[(.i 0)]]),(.sl 1 [[(.i 0)]]),(.i 0),(.i 0)],[(.sl 1 [[(.i 1)],[(.i 0)],[(.i 2)]]),(.sl 1 [[(.i 0)]]),(.sl 1 [[(.i 0)]]),(.i 0),(.i 0)]])] []) (InV [((.tup [(.sl 1 [[(.sl 1 [[(.i 1)]])],[.emp],[(.sl 1 [[(.i 0)]])]]),(.i 0)]),[])]):=
 run_ev (k:=60) (.cons k0 (.cons k1 (.cons k2 (.nil _)))) (by kernel_rfl)
theorem k4:Ev T (.call 52 [(.agg [(.i 3),(.sl 1 [[(.sl 1 [[(.i 1)],[(.i 2)],[(.i (-1))]])],[(.sl 1 [[(.i (-1))],[(.i 0)],[(.i 1)]])]]),(.sl 1 [[(.i 1)],[(.i 0)]]),(.sl 3 [[(.val (.string ⟨#[97]⟩)),(.sl 1 [[(.sl 2 [[(.i 1),(.i 0)],[(.i 3),(.i 0)]])],[(.sl 2 [[(.i 1),(.i 0)],[(.i 4),(.i 0)],[(.i 6),(.i 0)]])]]),(.b false)]]),(.i 0),(.b false),.emp,(.i 3),(.i 2)]),(.sl 5 [[(.sl 1 [[(.i 0)],[(.i 1)],[(.i 2)]]),(.sl 1 [[(.i 0)]]),(.sl 1 [[(.i 0)]]),(.i 0),(.i 1)]])] []) (InV [((.tup [.emp,(.i 70)]),[])]):=
 run_ev (k:=60) (.cons k0 (.cons k1 (.cons k2 (.cons k3 (.nil _))))) (by kernel_rfl)
theorem k5:Ev T (.call 11 [] []) (InV [((.b true),[])]):=
 run_ev (k:=60) (.cons k0 (.cons k1 (.cons k2 (.cons k3 (.cons k4 (.nil _)))))) (by kernel_rfl)
end Go.Proofs.YtnaefnajkaohgaaGreatDoor
namespace Go.Proofs.YtnaefnajkaohgaaGreatDoor
open Go Go.AL Classical
set_option maxRecDepth 10000
set_option maxHeartbeats 8000000
theorem f11:Wf T 11 [] [] (Is (.b true)):=by
 refine Ev.mono k5 fun r hr=>?_
 obtain⟨x,hx,hr⟩:=hr
 rw[List.mem_singleton]at hx
 subst hx
 exact⟨_,_,hr,rfl,rfl⟩
theorem f24e:Wf T 24 [.emp,.emp] [] (Is (.b true)):=by
 refine Wf.x (fn:=F24) rfl (by simp[F24]) ?_
 simp[F24]
 refine XLoop.un ?_
 refine XLoopN.u ?_
 simp
theorem f17e(a b c d:Int):Wf T 17 [.agg [.emp,.i a,.i b],.agg [.emp,.i c,.i d]] [] (Is (.b (decide (a=c)&&decide (b=d)))):=by
 refine Wf.x (fn:=F17) rfl (by simp[F17]) ?_
 simp[F17]
 refine XCall.c rfl rfl (f24e) (by simp) (by simp) ?_
 simp
 by_cases h:a=c
 ·simp[h]
 ·simp[h]
theorem f18(g:Game)(m:List Int)(l:List Pos)(n e:Int)(h:Wf T 42 [dG g,.agg [dI m],dPs l,.i n] [] (Is (.tup [.emp,.i 0,.i e]))):Wf T 18 [dG g,.agg [dI m],dPs l,.i n] [] (Is (.agg [.emp,.i 0,.i e])):=by
 refine Wf.x (fn:=F18) rfl (by simp[F18]) ?_
 simp[F18]
 refine XCall.c rfl rfl (h) (by simp) (by simp) ?_
 simp
theorem f20(g:Game)(l:List Pos)(v:List Stp)(p:D)(hp:closed p=true)(n e:Int)(h:Wf T 45 [dG g,dPs l,dProg v,p,.i n] [] (Is (.tup [.emp,.i 0,.i e]))):Wf T 20 [dG g,dPs l,dProg v,p,.i n] [] (Is (.agg [.emp,.i 0,.i e])):=by
 refine Wf.x (fn:=F20) rfl (by simp[F20]) ?_
 simp[F20]
 refine XCall.c rfl rfl h (by simp[hp]) (by simp) ?_
 simp
theorem f15(g:Game)(m:List Int)(l:List Pos)(v:List Stp)(e:Int)(h:Wf T 40 [dG g,.agg [dI m],dPs l,dProg v] [] (Is (.tup [.emp,.i e]))):Wf T 15 [dG g,.agg [dI m],dPs l,dProg v] [] (Is (.agg [.emp,.i e])):=by
 refine Wf.x (fn:=F15) rfl (by simp[F15]) ?_
 simp[F15]
 refine XCall.c rfl rfl (h) (by simp) (by simp) ?_
 simp
end Go.Proofs.YtnaefnajkaohgaaGreatDoor
