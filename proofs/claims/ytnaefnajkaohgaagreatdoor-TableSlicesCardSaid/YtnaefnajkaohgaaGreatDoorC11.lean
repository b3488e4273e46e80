/- Part 11 of the proof of skewer.skewerlaw15.TableSlices. -/
import Derived.Test.YtnaefnajkaohgaaGreatDoorC10
set_option linter.all false
namespace Go.Proofs.YtnaefnajkaohgaaGreatDoor
open Go Go.AL Classical
set_option maxRecDepth 10000
set_option maxHeartbeats 1000000
theorem f27(l:List Pos)(p:Pos)(hl:l.length<2 ^ 40)(hs:∀ p∈l,Small p)(hp:Small p)(hso:Sorted l):Wf T 27 [dPs l,dP p] [] (Is (.i (findP l p))):=by
 refine Yg F27 ?_
 simp[F27]
 refine XLoop.j ((0,(l.length:Int)):Int×Int) (fun x=>[(0,dPs l),(3,.ptr 0 0 0),(5,.i x.1),(6,.i x.2)]) (fun _=>[.row 44 0 p.cells]) (fun x=>0≤x.1∧x.1≤x.2∧x.2≤l.length∧∀ k:Int,0≤k→k<l.length→gt l k=p→x.1≤k∧k<x.2) (fun x=>(x.2-x.1).toNat) ?_ (by simp) rfl rfl ?_
 ·simp;omega
 rintro⟨a,b⟩ ⟨h0,h1,h2,h3⟩
 simp at h0 h1 h2 h3
 simp
 (with_reducible repeat' first|refine Xk ?_<;>try simp|refine Xs ?_ ?_<;>intro h<;>(try intro h')<;>(try simp[h])<;>(try omega)|refine Xg ?_|omega)
 ·rw[quoI_eq (by omega) (by omega) (by omega)]
  (with_reducible repeat' first|refine Xk ?_<;>try simp|refine Xs ?_ ?_<;>intro h<;>(try intro h')<;>(try simp[h])<;>(try omega)|refine Xg ?_|omega)
  refine Yt (f50 p (gt l ((a+b) / 2)) hp (hs _ (gt_mem (by omega) (by omega)))) ?_
  simp
  (with_reducible repeat' first|refine Xk ?_<;>try simp|refine Xs ?_ ?_<;>intro h<;>(try intro h')<;>(try simp[h])<;>(try omega)|refine Xg ?_|omega)
  ·rw[cmpP_zero]at h
   rw[h,findP_eq hso (by omega) (by omega)]
  ·have hlt:∀ k:Int,(a+b) / 2≤k→k<l.length→gt l k≠p:=fun k hk hk2 e=>by
    by_cases e2:k=(a+b) / 2
    ·subst e2;rw[e,cmpP_refl]at h;omega
    ·have:=cmpP_trans h (hso.le (by omega) (show(a+b) / 2<k by omega) hk2)
     rw[e,cmpP_refl]at this;omega
   intro k hk hk2 e
   have:=h3 k hk hk2 e
   by_cases hk3:(a+b) / 2≤k
   ·exact absurd e (hlt k hk3 hk2)
   ·omega
  ·have h6:cmpP (gt l ((a+b) / 2)) p<0:=by rw[cmpP_swap];omega
   have hlt:∀ k:Int,0≤k→k≤(a+b) / 2→gt l k≠p:=fun k hk hk2 e=>by
    by_cases e2:k=(a+b) / 2
    ·subst e2;rw[e,cmpP_refl]at h6;omega
    ·have:=cmpP_trans (hso.le hk (show k<(a+b) / 2 by omega) (by omega)) h6
     rw[e,cmpP_refl]at this;omega
   intro k hk hk2 e
   have:=h3 k hk hk2 e
   by_cases hk3:k≤(a+b) / 2
   ·exact absurd e (hlt k hk hk3)
   ·omega
 ·rw[findP_no]
  intro hm
  obtain⟨k,hk,hk2,e⟩:=mem_gt.1 hm
  have:=h3 k hk hk2 e
  omega
theorem f111(g:Game)(l:List Int)(hg:GameOK g)(hl:HandOK g l):Wf T 111 [dG g,dI l] [] (Is (.b true)):=by
 have hk:=hg.kinds
 have hn:=hl.len
 refine Yg F111 ?_
 simp[F111]
 (with_reducible repeat' first|refine Xk ?_<;>try simp|refine Xs ?_ ?_<;>intro h<;>(try intro h')<;>(try simp[h])<;>(try omega)|refine Xg ?_|omega)
 refine XLoop.j (0:Int) (fun i=>[(1,dI l),(2,.ptr 0 0 0),(5,.i i)]) (fun i=>[.row 41 0 g.cells]) (fun i=>0≤i∧i≤l.length) (fun i=>l.length-i.toNat) ?_ (by simp) (by first|rfl|simp) rfl ?_
 ·simp
 rintro i ⟨h0,h1⟩
 simp
 (with_reducible refine Xs ?_ ?_<;>intro h<;>(try intro h')<;>(try simp[h])<;>(try omega))
 ·have h2:=hl.at_ i h0 ‹_›
  (with_reducible repeat' first|refine Xk ?_<;>try simp|refine Xs ?_ ?_<;>intro h<;>(try intro h')<;>(try simp[h])<;>(try omega)|refine Xg ?_|omega)
  have:=h2.2.2
  all_goals simp_all
  all_goals omega
theorem f65(g:Game)(p:Pos)(hg:GameOK g)(hp:PosOK g p):Wf T 65 [dG g,dP p] [] (Is (.b true)):=by
 have hk:=hg.kinds
 have hr:=hg.rights
 have h1:=hp.size
 have h2:=hp.rights
 have h3:=hp.side
 have hb:=hg.board.size
 have h4:=shl_small hr.1 (by omega)
 refine Yg F65 ?_
 simp[F65,h1]
 refine Yt (f111 g _ hg hp.h0) ?_
 simp[h1]
 refine Yt (f111 g _ hg hp.h1) ?_
 simp[h1]
 (with_reducible repeat' first|refine Xk ?_<;>try simp[h4]|refine Xs ?_ ?_<;>intro h<;>(try intro h')<;>(try simp[h,h4])<;>(try omega)|refine Xg ?_|omega)
 refine XLoop.j (0:Int) (fun i=>[(2,.ptr 0 0 0),(3,.ptr 1 0 0),(5,.i i)]) (fun i=>[.row 41 0 g.cells,.row 44 0 p.cells]) (fun i=>0≤i∧i≤p.cs.length) (fun i=>p.cs.length-i.toNat) ?_ (by simp) (by first|rfl|simp) rfl ?_
 ·simp
 rintro i ⟨h0,h5⟩
 simp
 (with_reducible refine Xs ?_ ?_<;>intro h<;>(try intro h')<;>(try simp[h])<;>(try omega))
 have h4:=hp.cs _ (gt_mem h0 ‹_›)
 (with_reducible repeat' first|refine Xk ?_<;>try simp|refine Xs ?_ ?_<;>intro h<;>(try intro h')<;>(try simp[h])<;>(try omega)|refine Xg ?_|omega)
end Go.Proofs.YtnaefnajkaohgaaGreatDoor
namespace Go.AL
open Go
def Ex{α:Type}(g:α→D)(Q:α→Prop):D→Heap→Prop:=fun d H=>∃ r,d=g r∧H = []∧Q r
@[simp] theorem Ex_def{α:Type}(g:α→D)(Q:α→Prop)(d:D)(H:Heap):Ex g Q d H = ∃ r,d=g r∧H = []∧Q r:=(rfl)
section
variable{T:Tab}{f:FuncId}{args args':List D}{dst:Option Nat}{s:St}{K:St→Prop}{fn:FnA}
theorem XCall.q{α:Type}{g:α→D}{Q:α→Prop}(hf:T.fn f=some fn)(hp:fn.full=false)(h:Wf T f args [] (Ex g Q))
  (hc:closedL args=true) (hx:∀ r,closed (g r)=true) (k:∀ r,Q r→K { s with env:=put s.env dst (g r) }):XCall T f args dst s K .mk:=by
 refine XCall.is hf hp (K0:=Ex g Q) ?_ ?_
 ·have e0:args.map (shed (fun _=>none) s.H 40)=args:=by
   conv=>rhs;rw[← List.map_id args]
   exact List.map_congr_left fun d hd=>shed_closed (closedL_of hc d hd)
  rw[e0];exact h
 ·rintro d Hn ⟨r,rfl,rfl,hr⟩
  obtain⟨k1,k2⟩:=closed_res (H:=s.H) (hx r)
  refine⟨{ s with env:=put s.env dst (g r) },?_,k r hr⟩
  unfold after
  rw[if_pos hc,k1,k2]
  simp
end
section
variable{T:Tab}{f:FuncId}{args:List D}{dst:Option Nat}{s:St}{K:St→Prop}{fn:FnA}
theorem XCall.n{d:D}{Hn:Heap}(hf:T.fn f=some fn)(hp:fn.full=false)(h:Wf T f args [] fun d' H'=>d'=d∧H'=Hn)
  (hc:closedL args=true) (hr:(okRes d&&Hn.all closedOb)=true) (k:K { s with env:=put s.env dst (lift1 s.H.length d),H:=s.H++Hn }):XCall T f args dst s K .mk:=by
 refine XCall.is hf hp (K0:=fun d' H'=>d'=d∧H'=Hn) ?_ ?_
 ·have e0:args.map (shed (fun _=>none) s.H 40)=args:=by
   conv=>rhs;rw[← List.map_id args]
   exact List.map_congr_left fun d hd=>shed_closed (closedL_of hc d hd)
  rw[e0];exact h
 ·rintro d' Hn' ⟨rfl,rfl⟩
  refine⟨_,?_,k⟩
  unfold after
  rw[if_pos hc,if_pos hr]
theorem XTCallN.n{R:List Fp}{Q:Rc→St→Prop}{d:D}{ob:Ob}(hf:T.fn f=some fn)(hp:fn.full=false)(h:Wf T f args [] fun d' H'=>d'=d∧H' = [ob])
  (hc:closedL args=true) (hr:(okRes d&&closedOb ob)=true) (k:Q ⟨R,[(s.H.length,none)]⟩ { s with env:=put s.env dst (lift1 s.H.length d),H:=s.H ++ [ob] }):XTCallZ T f args R dst s Q .mk:=by
 have e0:args.map (shed (fun _=>none) s.H 40)=args:=by
  conv=>rhs;rw[← List.map_id args]
  exact List.map_congr_left fun d hd=>shed_closed (closedL_of hc d hd)
 exact .inl (.inr ⟨fn,d,ob,hf,hp,by rw[e0];exact h,by rw[if_pos hc];exact hr,k⟩)
theorem XTCallN.c{R:List Fp}{Q:Rc→St→Prop}{x:D}(hf:T.fn f=some fn)(hp:fn.full=false)(h:Wf T f args [] fun d H'=>d=x∧H' = [])
  (hc:closedL args=true) (hx:closed x=true) (k:Q ⟨R,[]⟩ { s with env:=put s.env dst x }):XTCallZ T f args R dst s Q .mk:=.inl (.inl (XTCall.c hf hp h hc hx k))
theorem XTCallZ.z{args':List D}{R:List Fp}{Q:Rc→St→Prop}{d:D}(v:Nat)(hf:T.fn f=some fn)(hp:fn.full=false)(h:Wf T f args' [] (Is d))(hs:args.map (shed (fun _=>none) s.H 40)=args')
  (hr:(args.map (refsD s.H 40)).flatten = [v]) (hrow:(rowsOf s.H v).isSome=true) (hc:closedL args'=true) (hx:closed d=true) (k:Q ⟨R,[(v,none)]⟩ { s with env:=put s.env dst d,H:=s.H.set v .dead }):XTCallZ T f args R dst s Q .mk:=
 .inr ⟨fn,d,v,hf,hp,by rw[hr];simp,by rw[hr];simp,hrow,by rw[hs];exact hc,by rw[hs];exact h,hx,k⟩
@[simp] theorem okRes_agg(ds:List D):okRes (.agg ds)=ds.all (okElt closed):=rfl
@[simp] theorem okRes_osl(v g sz off n:Nat):okRes (.osl v g sz off n)=true:=rfl
@[simp] theorem okElt_osl(p:D→Bool)(v g sz off n:Nat):okElt p (.osl v g sz off n)=true:=rfl
@[simp] theorem okElt_dI(l:List Int):okElt closed (dI l)=true:=by show closed (dI l)=true;simp
@[simp] theorem okElt_val(v:Value):okElt closed (.val v)=true:=by show closed (.val v)=true;simp
@[simp] theorem closedOb_row(t g:Nat)(cs:List D):closedOb (.row t g cs)=closedL cs:=rfl
@[simp] theorem lift1_agg(n:Nat)(ds:List D):lift1 n (.agg ds) = .agg (ds.map (liftElt n)):=rfl
@[simp] theorem lift1_osl(n v g sz off k:Nat):lift1 n (.osl v g sz off k) = .osl (v+n) g sz off k:=rfl
@[simp] theorem liftElt_osl(n v g sz off k:Nat):liftElt n (.osl v g sz off k) = .osl (v+n) g sz off k:=rfl
@[simp] theorem liftElt_dI(n:Nat)(l:List Int):liftElt n (dI l)=dI l:=by unfold dI;rfl
@[simp] theorem liftElt_val(n:Nat)(v:Value):liftElt n (.val v) = .val v:=rfl
end
instance:Fl Sta.cells 8:=⟨fun _=>rfl,fun s=>by simp[Sta.cells,closedL]⟩
instance:Fl Outc.cells 6:=⟨fun _=>rfl,fun s=>by simp[Outc.cells,closedL]⟩
@[simp] theorem clSta_snoc(l:List Sta)(a b c:List Int)(r q k u:Int)(t:Bool):cl Sta.cells l ++ [dI a,dI b,dI c,.i r,.i q,.i k,.i u,.b t]=cl Sta.cells (l ++ [⟨⟨a,b,c,r,q⟩,k,u,t⟩]):=by rw[← cl_snoc];rfl
@[simp] theorem clOutc_snoc(l:List Outc)(a b c:List Int)(r q:Int)(t:Bool):cl Outc.cells l ++ [dI a,dI b,dI c,.i r,.i q,.b t]=cl Outc.cells (l ++ [⟨⟨a,b,c,r,q⟩,t⟩]):=by rw[← cl_snoc];rfl
@[simp] theorem sta_eta(s:Sta):Sta.mk s.p s.kind s.cur s.took=s:=rfl
@[simp] theorem outc_eta(s:Outc):Outc.mk s.p s.took=s:=rfl
attribute [simp] Sta.cells Outc.cells
theorem Yq{T:Tab}{f:FuncId}{args:List D}{dst:Option Nat}{s:St}{K:St→Prop}{fn:FnA}{α:Type}{g:α→D}{Q:α→Prop}(h:Wf T f args [] (Ex g Q))(k:∀ r,Q r→K { s with env:=put s.env dst (g r) })
  (hf:T.fn f=some fn:=by exact rfl) (hp:fn.full=false:=by exact rfl) (hc:closedL args=true:=by simp) (hx:∀ r,closed (g r)=true:=by intro;simp):XCall T f args dst s K .mk:=XCall.q hf hp h hc hx k
theorem Yn{T:Tab}{f:FuncId}{args:List D}{dst:Option Nat}{s:St}{K:St→Prop}{fn:FnA}{d:D}{Hn:Heap}(h:Wf T f args [] fun d' H'=>d'=d∧H'=Hn)(k:K { s with env:=put s.env dst (lift1 s.H.length d),H:=s.H++Hn })
  (hf:T.fn f=some fn:=by exact rfl) (hp:fn.full=false:=by exact rfl) (hc:closedL args=true:=by simp) (hr:(okRes d&&Hn.all closedOb)=true:=by simp):XCall T f args dst s K .mk:=XCall.n hf hp h hc hr k
end Go.AL
namespace Go.AL
open Go
def dSt(l:List Sta):D:=.sl 8 (l.map Sta.cells)
def dOut(l:List Outc):D:=.sl 6 (l.map Outc.cells)
@[simp] theorem sl_dSt(l:List Sta):D.sl 8 (l.map Sta.cells)=dSt l:=by unfold dSt;rfl
@[simp] theorem sl_dOut(l:List Outc):D.sl 6 (l.map Outc.cells)=dOut l:=by unfold dOut;rfl
section
variable{l:List Sta}{n:Int}{k:IntKind}{P:D→Prop}{H:Heap}
@[simp] theorem closed_dSt:closed (dSt l)=true:=by unfold dSt;exact closed_slm l
@[simp] theorem len_dSt:lenO .slice (dSt l) H=some (.i l.length):=by simp only[dSt,len_sl,List.length_map]
@[simp] theorem topRef_dSt(n:Nat):topRef n (dSt l) = []:=by unfold dSt;rfl
@[simp] theorem cellsOf_dSt:cellsOf (dSt l)=some [dSt l]:=by unfold dSt;rfl
@[simp] theorem oA_idxSt:oA (idxAO 8 (dSt l) (.val (.int k n))) P .mk=((0≤n∧n<l.length)∧P (.fptr (gt l n).cells)):=by unfold dSt;exact oA_idx
end
section
variable{l:List Outc}{n:Int}{k:IntKind}{P:D→Prop}{H:Heap}
@[simp] theorem closed_dOut:closed (dOut l)=true:=by unfold dOut;exact closed_slm l
@[simp] theorem len_dOut:lenO .slice (dOut l) H=some (.i l.length):=by simp only[dOut,len_sl,List.length_map]
@[simp] theorem slcs_dOut:sliceCells 6 H (dOut l)=some (cl Outc.cells l,l.length):=by unfold dOut;exact slcs_slm ..
@[simp] theorem topRef_dOut(n:Nat):topRef n (dOut l) = []:=by unfold dOut;rfl
@[simp] theorem oA_idxOut:oA (idxAO 6 (dOut l) (.val (.int k n))) P .mk=((0≤n∧n<l.length)∧P (.fptr (gt l n).cells)):=by unfold dOut;exact oA_idx
end
@[simp] theorem sl8_nil:D.sl 8 []=dSt []:=by unfold dSt;rfl
@[simp] theorem sl6_nil:D.sl 6 []=dOut []:=by unfold dOut;rfl
@[simp] theorem fzR_sta{ρ:Nat→Option Nat}{H:Heap}{k:Nat}{t:TypeId}{a b c:List Int}{r q w u:Int}{o:Bool}:fzR ρ H (k+1) 8 0 1 (some (t,[dI a,dI b,dI c,.i r,.i q,.i w,.i u,.b o]))=dSt [⟨⟨a,b,c,r,q⟩,w,u,o⟩]:=by
 have h:=fzR_cl (f:=Sta.cells) (ρ:=ρ) (H:=H) (k:=k) (t:=t) (l:=[⟨⟨a,b,c,r,q⟩,w,u,o⟩]) (n:=1) rfl
 rw[cl_def]at h
 unfold dSt;exact h
def fkF(S:List Nat):Nat→Heap→Keep
 | _,[]=>[]
 | i,_::r=>(i,!S.contains i)::fkF S (i+1) r
@[simp] theorem fkF_nil(S:List Nat)(i:Nat):fkF S i [] = []:=rfl
@[simp] theorem fkF_cons(S:List Nat)(i:Nat)(o:Ob)(r:Heap):fkF S i (o::r)=(i,!decide (i∈S))::fkF S (i+1) r:=by
 rw[fkF,List.contains_eq_mem]
theorem freezeKs_def(H:Heap)(S:List Nat):freezeKs H S=fkF S 0 H:=by
 have key:∀ (H:Heap) (i:Nat),(List.range' i H.length).map (fun v=>(v,!(S.contains v)))=fkF S i H:=by
  intro H
  induction H with
  | nil=>intro i;rfl
  | cons o r ih=>intro i;rw[List.length_cons,List.range'_succ,List.map_cons,ih,fkF]
 rw[freezeKs,List.range_eq_range',key]
def frzB(env:Env)(H:Heap)(m:List Nat)(r:Bool)(ks:Keep):St:={ env:=env.map fun p=>(p.1,shed (rho ks) H 40 p.2),H:=ks.map fun p=>if p.2 then shedAt (rho ks) H H[p.1]? else .dead,marks:=m,rnd:=r }
@[simp] theorem frz_def(S:List Nat)(env:Env)(H:Heap)(m:List Nat)(r:Bool):frz S { env:=env,H:=H,marks:=m,rnd:=r }=frzB env H m r (fkF S 0 H):=by
 unfold frz frzB
 rw[freezeKs_def]
 rfl
@[simp] theorem frzB_def(env:Env)(H:Heap)(m:List Nat)(r:Bool)(ks:Keep):frzB env H m r ks = { env:=env.map fun p=>(p.1,shed (rho ks) H 40 p.2),H:=ks.map fun p=>if p.2 then shedAt (rho ks) H H[p.1]? else .dead,marks:=m,rnd:=r }:=rfl
section
variable{T:Tab}
theorem XLoop.fz{live:List Nat}{a:IR}{s:St}{K:OutP}(S:List Nat)(hm:s.marks = [])(h:XLoop T live a (frz S s) K .mk):XLoop T live a s K .mk:=Wc.frz S (by rw[hm];exact mOK_nil _) h
theorem XLoop.w{live:List Nat}{a:IR}{s:St}{K:OutP}{α:Type}(x0:α)(E:α→Env)(Hp:α→Heap)(P:α→Prop)(μ:α→Nat)
  (h0:P x0) (hE:forget ((E x0).map (·.1)) s.env=E x0) (hH:s.H=Hp x0) (hks:(((E x0).map (·.1)).all fun k=>live.contains k)=true)
  (h:∀ x,P x→Wc T (unfz a) { env:=E x,H:=Hp x,marks:=s.marks,rnd:=s.rnd } (loopK s.H.length live ((E x0).map (·.1)) (fun e H m r=>∃ x',e=E x'∧H=Hp x'∧m=s.marks∧r=s.rnd∧μ x'<μ x∧P x') K)):XLoop T live a s K .mk:=by
 refine Wc.loop (fun m s'=>∃ x,P x∧m=μ x∧({ s' with env:=forget ((E x0).map (·.1)) s'.env }:St) = { env:=E x,H:=Hp x,marks:=s.marks,rnd:=s.rnd }) (μ x0) ⟨x0,h0,rfl,?_⟩ ?_
 ·dsimp only
  rw[forget_sub hks,hE]
  rw[← hH]
 ·rintro m s' ⟨x,hP,rfl,he⟩
  refine Ev.forg ((E x0).map (·.1)) ?_
  rw[he]
  refine(h x hP).mono fun o ho=>?_
  cases o with
  | norm s''=>
   obtain⟨x',h3,h4,h5,h6,h2,h1⟩:=ho
   refine⟨μ x',h2,x',h1,rfl,?_⟩
   rw[h3]
   generalize cut s.H.length live s''=q at *
   cases q
   simp_all
  | exit=>exact ho
  | ret=>exact ho
end
theorem lineF_len{g:Game}{s d c:Int}:∀ (n:Nat) (x:Int) (out:List Int),(lineF g s d c n x out).length≤out.length+n
 | 0,x,out=>by simp[lineF]
 | n+1,x,out=>by
  unfold lineF
  split
  ·have:=lineF_len (g:=g) (s:=s) (d:=d) (c:=c) n (toB g s d x) (out ++ [x])
   simp at this;omega
  ·omega
theorem lineB_len{g:Game}{s d c:Int}:(lineB g s d c).length≤10:=by
 have:=lineF_len (g:=g) (s:=s) (d:=d) (c:=c) 10 (toB g s d c) []
 simpa[lineB]using this
theorem lineSt_len{s:Sta}:∀ l:List Int,(lineSt s l).length≤l.length
 | []=>by simp[lineSt]
 | c::r=>by
  have:=lineSt_len (s:=s) r
  unfold lineSt
  split<;>simp<;>omega
theorem stepL_len{g:Game}{s:Sta}{x:Stp}:(stepL g s x).length≤10:=by
 have:=lineSt_len (s:=s) (lineB g s.p.side x.2 s.cur)
 have:=lineB_len (g:=g) (s:=s.p.side) (d:=x.2) (c:=s.cur)
 unfold stepL takeS pushS
 dsimp only
 repeat' split
 all_goals first|omega|(simp only[List.length_cons,List.length_nil];omega)
end Go.AL
namespace Go.Proofs.YtnaefnajkaohgaaGreatDoor
open Go Go.AL Classical
set_option maxRecDepth 10000
set_option maxHeartbeats 1000000
structure MergeI(a b:List Pos)(i k:Int)(out:List Pos):Prop where
 i0:0≤i∧i≤a.length
 k0:0≤k∧k≤b.length
 len:(out.length:Int)=i+k
 perm:out.Perm (a.take i.toNat++b.take k.toNat)
 ws:WS out
 le:∀ x∈out,∀ y,y∈a.drop i.toNat∨y∈b.drop k.toNat→cmpP x y≤0
theorem MergeI.init(a b:List Pos):MergeI a b 0 0 []:=⟨by omega,by omega,rfl,by simp,by simp[WS],by simp⟩
theorem ws_drop{a:List Pos}(h:WS a){i:Int}(h0:0≤i)(h1:i<a.length){y:Pos}(hy:y∈a.drop i.toNat):cmpP (gt a i) y≤0:=by
 have h2:WS (a.drop i.toNat):=List.Pairwise.sublist (List.drop_sublist _ _) h
 rw[drop_gt h0 h1]at hy h2
 rcases List.mem_cons.1 hy with rfl|hy
 ·rw[cmpP_refl];omega
 ·exact(List.pairwise_cons.1 h2).1 y hy
theorem mem_drop1{α:Type}[Inhabited α]{a:List α}{i:Int}(h0:0≤i)(h1:i<a.length){y:α}:y∈a.drop i.toNat↔y=gt a i∨y∈a.drop (i+1).toNat:=by
 rw[drop_gt h0 h1,List.mem_cons,show(i+1).toNat=i.toNat+1 by omega]
theorem MergeI.add{a b:List Pos}{i k:Int}{out:List Pos}(hI:MergeI a b i k out)(hi:i<a.length)(ha:WS a)(h:∀ y∈b.drop k.toNat,cmpP (gt a i) y≤0):MergeI a b (i+1) k (out ++ [gt a i]):=by
 have h0:=hI.i0
 have e:∀ y,y∈a.drop i.toNat↔y=gt a i∨y∈a.drop (i+1).toNat:=fun y=>mem_drop1 h0.1 hi
 refine⟨by omega,hI.k0,by have:=hI.len;simp;omega,?_,?_,fun x hx y hy=>?_⟩
 ·rw[take_gt h0.1 hi,List.append_assoc]
  refine(hI.perm.append_right _).trans ?_
  rw[List.append_assoc]
  exact List.Perm.append_left _ List.perm_append_comm
 ·refine List.pairwise_append.2 ⟨hI.ws,by simp,fun x hx y hy=>?_⟩
  simp at hy;subst hy
  exact hI.le x hx _ (.inl ((e _).2 (.inl rfl)))
 ·rcases List.mem_append.1 hx with hx|hx
  ·exact hI.le x hx y (hy.imp (fun h=>(e _).2 (.inr h)) id)
  ·simp at hx;subst hx
   rcases hy with hy|hy
   ·exact ws_drop ha h0.1 hi ((e _).2 (.inr hy))
   ·exact h y hy
theorem MergeI.swap{a b:List Pos}{i k:Int}{out:List Pos}(hI:MergeI a b i k out):MergeI b a k i out:=
 ⟨hI.k0,hI.i0,by have:=hI.len;omega,hI.perm.trans List.perm_append_comm,hI.ws,fun x hx y hy=>hI.le x hx y hy.symm⟩
theorem MergeI.stepA{a b:List Pos}{i k:Int}{out:List Pos}(hI:MergeI a b i k out)(hi:i<a.length)(ha:WS a)(hb:WS b)(h:k<b.length→cmpP (gt a i) (gt b k)≤0):MergeI a b (i+1) k (out ++ [gt a i]):=by
 refine hI.add hi ha fun y hy=>?_
 by_cases hk:k<b.length
 ·exact cmpP_le_trans (h hk) (ws_drop hb hI.k0.1 hk hy)
 ·rw[List.drop_of_length_le (by have:=hI.k0;omega)]at hy;cases hy
theorem MergeI.stepB{a b:List Pos}{i k:Int}{out:List Pos}(hI:MergeI a b i k out)(hk:k<b.length)(ha:WS a)(hb:WS b)(h:i<a.length→¬ cmpP (gt a i) (gt b k)≤0):MergeI a b i (k+1) (out ++ [gt b k]):=by
 refine(hI.swap.stepA hk hb ha fun hi=>?_).swap
 have:=h hi
 rw[cmpP_swap];omega
theorem f109:∀ (n:Nat) (l:List Pos),l.length=n→l.length<2 ^ 40→(∀ p∈l,Small p)→Wf T 109 [dPs l] [] (Ex dPs fun r=>r.Perm l∧WS r):=by
 intro n
 induction n using Nat.strongRecOn with
 | ind n ih=>
 intro l hn hl hs
 refine Yg F109 ?_
 simp[F109]
 (with_reducible refine Xs ?_ ?_<;>intro h<;>(try intro h')<;>(try simp[h])<;>(try omega))
 ·refine⟨l,rfl,List.Perm.refl _,?_⟩
  unfold WS
  cases l with
  | nil=>simp
  | cons a l=>cases l with
   | nil=>simp
   | cons b l=>simp at h;omega
 ·rw[quoI_eq (by omega) (by omega) (by omega)]
  (with_reducible repeat' first|refine Xk ?_<;>try simp|refine Xs ?_ ?_<;>intro h<;>(try intro h')<;>(try simp[h])<;>(try omega)|refine Xg ?_|omega)
  refine Yq (ih (l.length / 2) (by omega) _ (by simp;omega) (by simp;omega) (fun p hp=>hs p (List.mem_of_mem_take hp))) fun a ha=>?_
  simp
  rw[quoI_eq (by omega) (by omega) (by omega)]
  (with_reducible repeat' first|refine Xk ?_<;>try simp|refine Xs ?_ ?_<;>intro h<;>(try intro h')<;>(try simp[h])<;>(try omega)|refine Xg ?_|omega)
  refine Yq (ih (l.length-l.length / 2) (by omega) _ (by simp;omega) (by simp;omega) (fun p hp=>hs p (List.mem_of_mem_drop (List.mem_of_mem_take hp)))) fun b hb=>?_
  simp
  have la:(a.length:Int)=l.length / 2:=by rw[ha.1.length_eq];simp;omega
  have lb:(b.length:Int)=l.length-l.length / 2:=by rw[hb.1.length_eq];simp;omega
  have sa:∀ p∈a,Small p:=fun p hp=>hs p (List.mem_of_mem_take ((ha.1.mem_iff).1 hp))
  have sb:∀ p∈b,Small p:=fun p hp=>hs p (List.mem_of_mem_drop (List.mem_of_mem_take ((hb.1.mem_iff).1 hp)))
  refine XLoop.j ((0,0,[]):Int×Int×List Pos) (fun x=>[(3,dPs a),(4,dPs b),(5,.osl 0 x.2.2.length 5 0 x.2.2.length),(6,.i x.1),(7,.i x.2.1)]) (fun x=>[.row 44 x.2.2.length (cl Pos.cells x.2.2)]) (fun x=>MergeI a b x.1 x.2.1 x.2.2) (fun x=>a.length+b.length-(x.1+x.2.1).toNat) ?_ (by simp) (by first|rfl|simp) rfl ?_
  ·exact MergeI.init a b
  rintro⟨i,k,out⟩ hI
  have h0:=hI.i0
  have h1:=hI.k0
  have h2:=hI.len
  dsimp only at hI h0 h1 h2 ⊢
  simp
  (with_reducible repeat' first|refine Xk ?_<;>try simp|refine Xs ?_ ?_<;>intro h<;>(try intro h')<;>(try simp[h])<;>(try omega)|refine Xg ?_|omega)
  ·exact⟨i+1,k,_,by simp,rfl,rfl,by simp,rfl,by omega,hI.stepA (by assumption) ha.2 hb.2 fun h=>by omega⟩
  ·refine Yt (f50 _ _ (sa _ (gt_mem (by omega) (by omega))) (sb _ (gt_mem (by omega) (by omega)))) ?_
   simp[*]
   (with_reducible repeat' first|refine Xk ?_<;>try simp|refine Xs ?_ ?_<;>intro h<;>(try intro h')<;>(try simp[h])<;>(try omega)|refine Xg ?_|omega)
   ·exact⟨i+1,k,_,by simp,rfl,rfl,by simp,rfl,by omega,hI.stepA (by assumption) ha.2 hb.2 fun _=>by assumption⟩
   ·exact⟨i,k+1,_,by simp,rfl,rfl,by simp,rfl,by omega,hI.stepB (by omega) ha.2 hb.2 fun _=>by assumption⟩
  ·exact⟨i,k+1,_,by simp,rfl,rfl,by simp,rfl,by omega,hI.stepB (by omega) ha.2 hb.2 fun _=>by omega⟩
  ·refine⟨out,rfl,?_,hI.ws⟩
   have e1:=hI.perm
   rw[take_all (by omega),take_all (by omega)]at e1
   refine e1.trans ((List.Perm.append ha.1 hb.1).trans ?_)
   have e2:(l.drop (↑l.length / 2:Int).toNat).take (l.length-(↑l.length / 2:Int).toNat)=l.drop (↑l.length / 2:Int).toNat:=List.take_of_length_le (by rw[List.length_drop];exact Nat.le_refl _)
   rw[e2,List.take_append_drop]
structure UniqI(a:List Pos)(i:Int)(out:List Pos):Prop where
 i0:0≤i∧i≤a.length
 len:(out.length:Int)≤i
 mem:∀ q,q∈out↔q∈a.take i.toNat
 st:out.Pairwise fun x y=>cmpP x y<0
theorem UniqI.init(a:List Pos):UniqI a 0 []:=⟨by omega,by simp,by simp,by simp⟩
theorem ws_last{a:List Pos}(h:WS a){j:Int}(h0:0≤j)(h1:j<a.length){x:Pos}(hx:x∈a.take (j+1).toNat):cmpP x (gt a j)≤0:=by
 have h2:WS (a.take (j+1).toNat):=List.Pairwise.sublist (List.take_sublist _ _) h
 rw[take_gt h0 h1]at hx h2
 rcases List.mem_append.1 hx with hx|hx
 ·exact(List.pairwise_append.1 h2).2.2 x hx _ (by simp)
 ·simp at hx;subst hx;rw[cmpP_refl];omega
theorem UniqI.skip{a:List Pos}{i:Int}{out:List Pos}(hI:UniqI a i out)(hi:i<a.length)(h1:i≠0)(h:gt a i=gt a (i-1)):UniqI a (i+1) out:=by
 have h0:=hI.i0
 refine⟨by omega,by have:=hI.len;omega,fun q=>?_,hI.st⟩
 rw[hI.mem,take_gt h0.1 hi,List.mem_append,List.mem_singleton]
 refine⟨.inl,fun hq=>hq.elim id fun hq=>?_⟩
 rw[hq,h]
 have:=take_gt (l:=a) (n:=i-1) (by omega) (by omega)
 rw[show i-1+1=i by omega]at this
 rw[this];simp
theorem UniqI.add{a:List Pos}{i:Int}{out:List Pos}(hI:UniqI a i out)(hi:i<a.length)(ha:WS a)(h:i=0∨gt a i≠gt a (i-1)):UniqI a (i+1) (out ++ [gt a i]):=by
 have h0:=hI.i0
 refine⟨by omega,by have:=hI.len;simp;omega,fun q=>?_,List.pairwise_append.2 ⟨hI.st,by simp,fun x hx y hy=>?_⟩⟩
 ·rw[List.mem_append,hI.mem,take_gt h0.1 hi,List.mem_append]
 ·simp at hy;subst hy
  have hx:=(hI.mem x).1 hx
  rcases h with rfl|h
  ·simp at hx
  ·by_cases hz:i=0
   ·subst hz;simp at hx
   have e1:=ws_last ha (j:=i-1) (by omega) (by omega) (x:=x) (by rw[show i-1+1=i by omega];exact hx)
   have e2:=ws_last ha h0.1 hi (x:=gt a (i-1)) (by
    have:=take_gt (l:=a) (n:=i-1) (by omega) (by omega)
    rw[show i-1+1=i by omega]at this
    rw[take_gt h0.1 hi,this];simp)
   have e3:cmpP (gt a (i-1)) (gt a i)≠0:=fun e=>h (cmpP_zero.1 e).symm
   by_cases e4:cmpP x (gt a (i-1))=0
   ·rw[cmpP_zero.1 e4];omega
   ·exact cmpP_trans (show cmpP x (gt a (i-1))<0 by omega) (by omega)
theorem sorted_of{r:List Pos}(h:r.Pairwise fun x y=>cmpP x y<0):Sorted r:=by
 intro i h1 h2
 rw[gt_eq (by omega) (by omega),gt_eq (by omega) (by omega)]
 exact List.pairwise_iff_getElem.1 h _ _ _ _ (by omega)
theorem f61(l:List Pos)(hl:l.length<2 ^ 40)(hs:∀ p∈l,Small p):Wf T 61 [dPs l] [] (Ex dPs fun r=>Sorted r∧r.length≤l.length∧∀ q,q∈r↔q∈l):=by
 refine Yg F61 ?_
 simp[F61]
 refine Yq (f109 _ l rfl hl hs) fun a ha=>?_
 simp
 have la:a.length=l.length:=ha.1.length_eq
 have sa:∀ p∈a,Small p:=fun p hp=>hs p (ha.1.mem_iff.1 hp)
 refine XLoop.j ((0,[]):Int×List Pos) (fun x=>[(3,dPs a),(4,.osl 0 x.2.length 5 0 x.2.length),(5,.i x.1)]) (fun x=>[.row 44 x.2.length (cl Pos.cells x.2)]) (fun x=>UniqI a x.1 x.2) (fun x=>a.length-x.1.toNat) ?_ (by simp) (by first|rfl|simp) rfl ?_
 ·exact UniqI.init a
 rintro⟨i,out⟩ hI
 have h0:=hI.i0
 have h1:=hI.len
 dsimp only at hI h0 h1 ⊢
 simp
 (with_reducible repeat' first|refine Xk ?_<;>try simp|refine Xs ?_ ?_<;>intro h<;>(try intro h')<;>(try simp[h])<;>(try omega)|refine Xg ?_|omega)
 ·exact⟨1,_,by simp,rfl,by simp,rfl,by omega,by subst h;exact hI.add (by assumption) ha.2 (.inl rfl)⟩
 ·refine Yt (f110 _ _ (sa _ (gt_mem (by omega) (by omega))) (sa _ (gt_mem (by omega) (by omega)))) ?_
  simp
  (with_reducible repeat' first|refine Xk ?_<;>try simp|refine Xs ?_ ?_<;>intro h<;>(try intro h')<;>(try simp[h])<;>(try omega)|refine Xg ?_|omega)
  ·exact⟨i+1,_,rfl,rfl,rfl,rfl,by omega,hI.skip (by assumption) (by assumption) (by assumption)⟩
  ·exact⟨i+1,_,by simp,rfl,by simp,rfl,by omega,hI.add (by assumption) ha.2 (.inr (by assumption))⟩
 ·refine⟨out,rfl,sorted_of hI.st,by omega,fun q=>?_⟩
  rw[hI.mem,take_all (by omega),ha.1.mem_iff]
end Go.Proofs.YtnaefnajkaohgaaGreatDoor
namespace Go.AL
open Go
def leaveB(H:Heap)(d:D)(ks:Keep):D×Heap:=(shed (rho ks) H 40 d,ks.map fun p=>if p.2 then shedAt (rho ks) H H[p.1]? else .dead)
@[simp] theorem leaveB_def(H:Heap)(d:D)(ks:Keep):leaveB H d ks=(shed (rho ks) H 40 d,ks.map fun p=>if p.2 then shedAt (rho ks) H H[p.1]? else .dead):=rfl
def ownB(own n:Nat)(H:Heap)(d:D):List Nat:=match own with|0=>[]|1=>ownRefs n d|3=>((refsD H 40 d).filter (n≤·)).take 1|_=>(refsD H 40 d).filter (n≤·)
@[simp] theorem ownB_0(n:Nat)(H:Heap)(d:D):ownB 0 n H d = []:=rfl
@[simp] theorem ownB_1(n:Nat)(H:Heap)(d:D):ownB 1 n H d=ownRefs n d:=rfl
@[simp] theorem ownB_2(n:Nat)(H:Heap)(d:D):ownB 2 n H d=(refsD H 40 d).filter (n≤·):=rfl
@[simp] theorem ownB_3(n:Nat)(H:Heap)(d:D):ownB 3 n H d=((refsD H 40 d).filter (n≤·)).take 1:=rfl
@[simp low] theorem leave_B{own n:Nat}{H:Heap}{d:D}(h:¬ H.length≤n):leave own n H d=leaveB H d (keepOf n (dedup ((ownB own n H d++((H.take n).map (obRefs n)).flatten).filter (· < H.length)))):=by
 unfold leave leaveB ownB
 rw[if_neg h]
 rfl
@[simp] theorem ownRefs_osl(n v g sz len:Nat):ownRefs n (.osl v g sz 0 len)=if n≤v then [v]else []:=rfl
theorem refsD_closed{H:Heap}{k:Nat}{d:D}(h:closed d=true):refsD H k d = []:=by
 cases k with
 | zero=>rfl
 | succ k=>unfold refsD;exact if_pos h
theorem refsD_closedL{H:Heap}{k:Nat}{cs:List D}(h:closedL cs=true):(cs.map (refsD H k)).flatten = []:=by
 induction cs with
 | nil=>rfl
 | cons d r ih=>
  simp only[closedL,Bool.and_eq_true]at h
  simp[refsD_closed h.1,ih h.2]
@[simp] theorem refsD_cl{H:Heap}{k:Nat}{d:D}(h:closed d=true):refsD H k d = []:=refsD_closed h
@[simp] theorem refsD_agg(H:Heap)(k:Nat)(cs:List D):refsD H (k+1) (.agg cs)=(cs.map (refsD H k)).flatten:=by
 by_cases h:closed (.agg cs)=true
 ·rw[refsD_closed h,refsD_closedL (by simpa using h)]
 ·rw[refsD,if_neg h]
@[simp] theorem refsD_tup(H:Heap)(k:Nat)(cs:List D):refsD H (k+1) (.tup cs)=(cs.map (refsD H k)).flatten:=by
 by_cases h:closed (.tup cs)=true
 ·rw[refsD_closed h,refsD_closedL (by simpa using h)]
 ·rw[refsD,if_neg h]
def refsO(H:Heap)(k:Nat):Option Ob→List Nat
 | some (.row _ _ cs)=>(cs.map (refsD H k)).flatten
 | _=>[]
@[simp] theorem refsO_row(H:Heap)(k t g:Nat)(cs:List D):refsO H k (some (.row t g cs))=(cs.map (refsD H k)).flatten:=rfl
theorem refsO_of(H:Heap)(k v:Nat):(match rowsOf H v with|some (_,_,cs)=>(cs.map (refsD H k)).flatten|none=>[])=refsO H k H[v]? := by
 unfold rowsOf refsO
 cases h:H[v]? with
 | none=>rfl
 | some o=>cases o<;>rfl
@[simp] theorem refsD_osl(H:Heap)(k v g sz off n:Nat):refsD H (k+1) (.osl v g sz off n)=v::refsO H k H[v]? := by
 rw[refsD,if_neg (by simp)]
 exact congrArg _ (refsO_of H k v)
@[simp] theorem refsD_ptr(H:Heap)(k v g off:Nat):refsD H (k+1) (.ptr v g off)=v::refsO H k H[v]? := by
 rw[refsD,if_neg (by simp)]
 exact congrArg _ (refsO_of H k v)
@[simp] theorem refsD_omap(H:Heap)(k v:Nat):refsD H (k+1) (.omap v) = [v]:=by
 rw[refsD,if_neg (by simp)]
@[simp] theorem refsD_row{H:Heap}{k:Nat}{α:Type}{f:α→List D}{sz:Nat}[F:Fl f sz](l:List α):((cl f l).map (refsD H k)).flatten = []:=refsD_closedL (cl_closed l)
@[simp low] theorem fzR_1{ρ:Nat→Option Nat}{H:Heap}{k sz:Nat}{t:TypeId}{cs:List D}(h:cs.length=sz):fzR ρ H k sz 0 1 (some (t,cs)) = .sl sz [cs.map (shed ρ H k)]:=by
 subst h
 unfold fzR
 simp[chunks,List.take_of_length_le]
@[simp] theorem sl_sta{a b c:List Int}{r q w u:Int}{o:Bool}:D.sl 8 [[dI a,dI b,dI c,.i r,.i q,.i w,.i u,.b o]]=dSt [⟨⟨a,b,c,r,q⟩,w,u,o⟩]:=by unfold dSt;rfl
end Go.AL
namespace Go.Proofs.YtnaefnajkaohgaaGreatDoor
open Go Go.AL Classical
set_option maxRecDepth 10000
set_option maxHeartbeats 1000000
theorem f155o(p:Pos)(hp:Small p):Wf T 155 [dP p] [] (fun d H=>d = .agg [.osl 0 1 1 0 p.cs.length,.osl 1 1 1 0 p.h0.length,.osl 2 1 1 0 p.h1.length,.i p.rights,.i p.side]∧H = [.row 3 1 (cl f1 p.cs),.row 3 1 (cl f1 p.h0),.row 3 1 (cl f1 p.h1)]):=by
 obtain⟨h1,h2,h3⟩:=hp
 refine Wf.xo 2 (fn:=F155) rfl (by simp[F155]) ?_
 simp[F155]
 (with_reducible repeat' first|refine Xk ?_<;>try simp|refine Xs ?_ ?_<;>intro h<;>(try intro h')<;>(try simp[h])<;>(try omega)|refine Xg ?_|omega)
 all_goals trace_state
theorem f250(a b:Sta)(ha:Small a.p)(hb:Small b.p):Wf T 250 [.agg a.cells,.agg b.cells] [] (Is (.b (decide (a=b)))):=by
 have e:(a=b)↔a.p=b.p∧a.kind=b.kind∧a.cur=b.cur∧a.took=b.took:=by cases a;cases b;simp
 have e2:decide (a=b)=decide (a.p=b.p∧a.kind=b.kind∧a.cur=b.cur∧a.took=b.took):=decide_eq_decide.2 e
 rw[e2]
 refine Yg F250 ?_
 simp[F250]
 (with_reducible repeat' first|refine Xk ?_<;>try simp|refine Xs ?_ ?_<;>intro h<;>(try intro h')<;>(try simp[h])<;>(try omega)|refine Xg ?_|omega)
 ·refine Yc (f50 _ _ ha hb) ?_
  simp
  simp_all [cmpP_zero]
 all_goals (intros;simp_all)
theorem f252(s:Sta)(b:Bool):Wf T 252 [.agg s.cells,.b b] [] (Is (dSt (if b then [s]else []))):=by
 refine Yg F252 ?_
 simp[F252]
 (with_reducible repeat' first|refine Xk ?_<;>try simp|refine Xs ?_ ?_<;>intro h<;>(try intro h')<;>(try simp[h])<;>(try omega)|refine Xg ?_|omega)
def lessO(a b:Outc):Prop:=cmpP a.p b.p<0∨(cmpP a.p b.p=0∧a.took=false∧b.took=true)
theorem f229(a b:Outc)(ha:Small a.p)(hb:Small b.p):Wf T 229 [.agg a.cells,.agg b.cells] [] (Is (.b (decide (lessO a b)))):=by
 refine Yg F229 ?_
 simp[F229]
 refine Yc (f50 _ _ ha hb) ?_
 simp
 (with_reducible repeat' first|refine Xk ?_<;>try simp|refine Xs ?_ ?_<;>intro h<;>(try intro h')<;>(try simp[h])<;>(try omega)|refine Xg ?_|omega)
 all_goals by_cases hc:cmpP a.p b.p<0<;>simp[*,lessO]at *
theorem f263(g:Game)(hg:BoardOK g)(s d c:Int):Wf T 263 [g.board,.i s,.i d,.i c] [] (Is (dI (lineB g s d c))):=by
 have hb:=hg.size
 refine Yg F263 ?_
 simp[F263]
 refine Yc (f251 g hg s d c) ?_
 simp
 refine XLoop.j ((0,toB g s d c,[]):Nat×Int×List Int) (fun x=>[(1,.i s),(2,.i d),(3,.i c),(4,.ptr 0 0 0),(9,.osl 1 x.2.2.length 1 0 x.2.2.length),(10,.i x.2.1)]) (fun x=>[.row 37 0 [.i g.size,.sl 1 (g.next.map fI),dI g.turn],.row 3 x.2.2.length (cl f1 x.2.2)]) (fun x=>x.1=x.2.2.length∧x.2.1<g.size∧x.2.2.Nodup∧(∀ y∈x.2.2,0≤y∧y<g.size)∧lineB g s d c=lineF g s d c (10-x.1) x.2.1 x.2.2) (fun x=>10-x.1) ?_ (by simp) (by first|rfl|simp) rfl ?_
 ·have:=hg.to s d c
  simp[lineB];omega
 rintro⟨m,x,out⟩ ⟨h0,h1,h2,h3,h4⟩
 dsimp only at h0 h1 h2 h3 h4 ⊢
 have hm:out.length≤9:=nodup_le 9 out h2 (fun y hy=>by have:=h3 y hy;omega)
 have e:=h4
 rw[show 10-m=(9-m)+1 by omega,lineF]at e
 simp
 (with_reducible repeat' first|refine Xk ?_<;>try simp|refine Xs ?_ ?_<;>intro h<;>(try intro h')<;>(try simp[h])<;>(try omega)|refine Xg ?_|omega)
 ·rw[e,if_neg (by omega)]
 ·refine XCall.r rfl rfl (f25 out x (by omega)) (by simp) rfl (by simp) ?_
  simp
  (with_reducible repeat' first|refine Xk ?_<;>try simp|refine Xs ?_ ?_<;>intro h<;>(try intro h')<;>(try simp[h])<;>(try omega)|refine Xg ?_|omega)
  ·rw[e,if_neg (by rintro⟨_,_,hh⟩;exact hh ‹_›)]
  ·refine Yc (f251 g hg s d x) ?_
   simp
   refine⟨out.length+1,_,out ++ [x],by simp,rfl,by simp,rfl,by omega,by simp,(hg.to _ _ _).2,?_,?_,?_⟩
   ·rw[List.nodup_append]
    refine⟨h2,by simp,fun y hy z hz=>?_⟩
    simp at hz
    subst hz
    intro e3
    subst e3
    exact absurd hy ‹_›
   ·intro y hy
    simp at hy
    rcases hy with hy|rfl
    ·exact h3 y hy
    ·omega
   ·rw[e,if_pos ⟨by omega,by omega,by assumption⟩,h0,show 9-out.length=10-(out.length+1)by omega]
 ·rw[e,if_neg (by omega)]
end Go.Proofs.YtnaefnajkaohgaaGreatDoor
