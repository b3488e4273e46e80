/- Part 11 of the proof of skewer.skewerlaw15.TableZero. -/
import Derived.Test.YtnaefnajkaohgaaGreatDoorF10
set_option linter.all false
namespace Go.Proofs.YtnaefnajkaohgaaGreatDoor
open Go Go.AL Classical
set_option maxRecDepth 10000
set_option maxHeartbeats 1000000
theorem f64(l:List Pos)(hl:l.length<2 ^ 40)(hs:∀ p∈l,Small p):Wf T 64 [fe l] [] (Is (.b (decide (iE l)))):=by
 refine Yg BK ?_
 simp[BK]
 refine eE.j (1:Int) (fun i=>[(0,fe l),(3,.i i)]) (fun _=>_) (fun i=>1≤i∧(i≤l.length∨i=1)∧∀ k:Int,1≤k→k<i→fD (gt l (k-1)) (gt l k)<0) (fun i=>l.length-i.toNat) ?_ (by simp) (by first|rfl|simp) rfl ?_
 ·simp;omega
 rintro i ⟨h0,h1,h2⟩
 simp
 (with_reducible repeat' first|refine Xk ?_<;>try simp|refine Xs ?_ ?_<;>intro h<;>(try intro h')<;>(try simp[h])<;>(try omega)|refine Xg ?_|omega)
 ·skip
  refine Yt (f50 (gt l (i-1)) (gt l i) (hs _ (eI (by omega) (by omega))) (hs _ (eI (by omega) (by omega)))) ?_
  simp
  (with_reducible repeat' first|refine Xk ?_<;>try simp|refine Xs ?_ ?_<;>intro h<;>(try intro h')<;>(try simp[h])<;>(try omega)|refine Xg ?_|omega)
  ·intro hc;have:=hc i h0 ‹_›;omega
  ·intro k hk jr
   by_cases e:k=i
   ·subst e;omega
   ·exact h2 k hk (by omega)
 ·intro k hk jr
  exact h2 k hk (by omega)
theorem f27(l:List Pos)(p:Pos)(hl:l.length<2 ^ 40)(hs:∀ p∈l,Small p)(hp:Small p)(sG:iE l):Wf T 27 [fe l,dP p] [] (Is (.i (lJ l p))):=by
 refine Yg Bq ?_
 simp[Bq]
 refine eE.j ((0,(l.length:Int)):Int×Int) (fun x=>[(0,fe l),(3,.ptr 0 0 0),(5,.i x.1),(6,.i x.2)]) (fun _=>[.row 44 0 p.cells]) (fun x=>0≤x.1∧x.1≤x.2∧x.2≤l.length∧∀ k:Int,0≤k→k<l.length→gt l k=p→x.1≤k∧k<x.2) (fun x=>(x.2-x.1).toNat) ?_ (by simp) rfl rfl ?_
 ·simp;omega
 rintro⟨a,b⟩ ⟨h0,h1,h2,h3⟩
 simp at h0 h1 h2 h3
 simp
 (with_reducible repeat' first|refine Xk ?_<;>try simp|refine Xs ?_ ?_<;>intro h<;>(try intro h')<;>(try simp[h])<;>(try omega)|refine Xg ?_|omega)
 ·rw[wj (by omega) (by omega) (by omega)]
  (with_reducible repeat' first|refine Xk ?_<;>try simp|refine Xs ?_ ?_<;>intro h<;>(try intro h')<;>(try simp[h])<;>(try omega)|refine Xg ?_|omega)
  refine Yt (f50 p (gt l ((a+b) / 2)) hp (hs _ (eI (by omega) (by omega)))) ?_
  simp
  (with_reducible repeat' first|refine Xk ?_<;>try simp|refine Xs ?_ ?_<;>intro h<;>(try intro h')<;>(try simp[h])<;>(try omega)|refine Xg ?_|omega)
  ·rw[mD]at h
   rw[h,P2 sG (by omega) (by omega)]
  ·have e7:∀ k:Int,(a+b) / 2≤k→k<l.length→gt l k≠p:=fun k hk jr e=>by
    by_cases e2:k=(a+b) / 2
    ·subst e2;rw[e,oH]at h;omega
    ·have:=rZ h (sG.le (by omega) (show(a+b) / 2<k by omega) jr)
     rw[e,oH]at this;omega
   intro k hk jr e
   have:=h3 k hk jr e
   by_cases Gi:(a+b) / 2≤k
   ·exact absurd e (e7 k Gi jr)
   ·omega
  ·have h6:fD (gt l ((a+b) / 2)) p<0:=by rw[o7];omega
   have e7:∀ k:Int,0≤k→k≤(a+b) / 2→gt l k≠p:=fun k hk jr e=>by
    by_cases e2:k=(a+b) / 2
    ·subst e2;rw[e,oH]at h6;omega
    ·have:=rZ (sG.le hk (show k<(a+b) / 2 by omega) (by omega)) h6
     rw[e,oH]at this;omega
   intro k hk jr e
   have:=h3 k hk jr e
   by_cases Gi:k≤(a+b) / 2
   ·exact absurd e (e7 k hk Gi)
   ·omega
 ·rw[Ko]
  intro hm
  obtain⟨k,hk,jr,e⟩:=oj.1 hm
  have:=h3 k hk jr e
  omega
theorem f111(g:ew)(l:List Int)(hg:eU g)(hl:mS g l):Wf T 111 [dG g,dI l] [] (Is (.b true)):=by
 have hk:=hg.kinds
 have hn:=hl.len
 refine Yg z8 ?_
 simp[z8]
 (with_reducible repeat' first|refine Xk ?_<;>try simp|refine Xs ?_ ?_<;>intro h<;>(try intro h')<;>(try simp[h])<;>(try omega)|refine Xg ?_|omega)
 refine eE.j (0:Int) (fun i=>[(1,dI l),(2,.ptr 0 0 0),(5,.i i)]) (fun i=>[.row 41 0 g.cells]) (fun i=>0≤i∧i≤l.length) (fun i=>l.length-i.toNat) ?_ (by simp) (by first|rfl|simp) rfl ?_
 ·simp
 rintro i ⟨h0,h1⟩
 simp
 (with_reducible refine Xs ?_ ?_<;>intro h<;>(try intro h')<;>(try simp[h])<;>(try omega))
 ·have h2:=hl.at_ i h0 ‹_›
  (with_reducible repeat' first|refine Xk ?_<;>try simp|refine Xs ?_ ?_<;>intro h<;>(try intro h')<;>(try simp[h])<;>(try omega)|refine Xg ?_|omega)
  have:=h2.2.2
  all_goals simp_all
  all_goals omega
theorem f65(g:ew)(p:Pos)(hg:eU g)(hp:fj g p):Wf T 65 [dG g,dP p] [] (Is (.b true)):=by
 have hk:=hg.kinds
 have hr:=hg.eQ
 have h1:=hp.size
 have h2:=hp.eQ
 have h3:=hp.side
 have hb:=hg.gF.size
 have h4:=H8 hr.1 (by omega)
 refine Yg BL ?_
 simp[BL,h1]
 refine Yt (f111 g _ hg hp.h0) ?_
 simp[h1]
 refine Yt (f111 g _ hg hp.h1) ?_
 simp[h1]
 (with_reducible repeat' first|refine Xk ?_<;>try simp[h4]|refine Xs ?_ ?_<;>intro h<;>(try intro h')<;>(try simp[h,h4])<;>(try omega)|refine Xg ?_|omega)
 refine eE.j (0:Int) (fun i=>[(2,.ptr 0 0 0),(3,.ptr 1 0 0),(5,.i i)]) (fun i=>[.row 41 0 g.cells,.row 44 0 p.cells]) (fun i=>0≤i∧i≤p.cs.length) (fun i=>p.cs.length-i.toNat) ?_ (by simp) (by first|rfl|simp) rfl ?_
 ·simp
 rintro i ⟨h0,h5⟩
 simp
 (with_reducible refine Xs ?_ ?_<;>intro h<;>(try intro h')<;>(try simp[h])<;>(try omega))
 have h4:=hp.cs _ (eI h0 ‹_›)
 (with_reducible repeat' first|refine Xk ?_<;>try simp|refine Xs ?_ ?_<;>intro h<;>(try intro h')<;>(try simp[h])<;>(try omega)|refine Xg ?_|omega)
end Go.Proofs.YtnaefnajkaohgaaGreatDoor
namespace Go.AL
open Go
def Ex{α:Type}(g:α→D)(Q:α→Prop):D→U→Prop:=fun d H=>∃ r,d=g r∧H = []∧Q r
@[simp] theorem aam{α:Type}(g:α→D)(Q:α→Prop)(d:D)(H:U):Ex g Q d H = ∃ r,d=g r∧H = []∧Q r:=(rfl)
section
variable{T:fE}{f:FuncId}{args mB:List D}{dst:Option Nat}{s:St}{K:St→Prop}{fn:ey}
theorem eS.q{α:Type}{g:α→D}{Q:α→Prop}(hf:T.fn f=some fn)(hp:fn.full=false)(h:Wf T f args [] (Ex g Q))
  (hc:eT args=true) (hx:∀ r,closed (g r)=true) (k:∀ r,Q r→K { s with env:=put s.env dst (g r) }):eS T f args dst s K .mk:=by
 refine eS.is hf hp (K0:=Ex g Q) ?_ ?_
 ·have e0:args.map (eB (fun _=>none) s.H 40)=args:=by
   conv=>rhs;rw[← aQ args]
   exact ak fun d hd=>lQ (jF hc d hd)
  rw[e0];exact h
 ·rintro d Hn ⟨r,rfl,rfl,hr⟩
  obtain⟨k1,k2⟩:=Ct (H:=s.H) (hx r)
  refine⟨{ s with env:=put s.env dst (g r) },?_,k r hr⟩
  unfold after
  rw[if_pos hc,k1,k2]
  simp
end
section
variable{T:fE}{f:FuncId}{args:List D}{dst:Option Nat}{s:St}{K:St→Prop}{fn:ey}
theorem eS.n{d:D}{Hn:U}(hf:T.fn f=some fn)(hp:fn.full=false)(h:Wf T f args [] fun d' H'=>d'=d∧H'=Hn)
  (hc:eT args=true) (hr:(jP d&&Hn.all kO)=true) (k:K { s with env:=put s.env dst (ix s.H.length d),H:=s.H++Hn }):eS T f args dst s K .mk:=by
 refine eS.is hf hp (K0:=fun d' H'=>d'=d∧H'=Hn) ?_ ?_
 ·have e0:args.map (eB (fun _=>none) s.H 40)=args:=by
   conv=>rhs;rw[← aQ args]
   exact ak fun d hd=>lQ (jF hc d hd)
  rw[e0];exact h
 ·rintro d' B9 ⟨rfl,rfl⟩
  refine⟨_,?_,k⟩
  unfold after
  rw[if_pos hc,if_pos hr]
theorem rN.n{R:List Fp}{Q:Rc→St→Prop}{d:D}{ob:Ob}(hf:T.fn f=some fn)(hp:fn.full=false)(h:Wf T f args [] fun d' H'=>d'=d∧H' = [ob])
  (hc:eT args=true) (hr:(jP d&&kO ob)=true) (k:Q ⟨R,[(s.H.length,none)]⟩ { s with env:=put s.env dst (ix s.H.length d),H:=s.H ++ [ob] }):o3 T f args R dst s Q .mk:=by
 have e0:args.map (eB (fun _=>none) s.H 40)=args:=by
  conv=>rhs;rw[← aQ args]
  exact ak fun d hd=>lQ (jF hc d hd)
 exact .inl (.inr ⟨fn,d,ob,hf,hp,by rw[e0];exact h,by rw[if_pos hc];exact hr,k⟩)
theorem rN.c{R:List Fp}{Q:Rc→St→Prop}{x:D}(hf:T.fn f=some fn)(hp:fn.full=false)(h:Wf T f args [] fun d H'=>d=x∧H' = [])
  (hc:eT args=true) (hx:closed x=true) (k:Q ⟨R,[]⟩ { s with env:=put s.env dst x }):o3 T f args R dst s Q .mk:=.inl (.inl (gi.c hf hp h hc hx k))
theorem o3.z{mB:List D}{R:List Fp}{Q:Rc→St→Prop}{d:D}(v:Nat)(hf:T.fn f=some fn)(hp:fn.full=false)(h:Wf T f mB [] (Is d))(hs:args.map (eB (fun _=>none) s.H 40)=mB)
  (hr:(args.map (fw s.H 40)).flatten = [v]) (fu:(rowsOf s.H v).isSome=true) (hc:eT mB=true) (hx:closed d=true) (k:Q ⟨R,[(v,none)]⟩ { s with env:=put s.env dst d,H:=s.H.set v .dead }):o3 T f args R dst s Q .mk:=
 .inr ⟨fn,d,v,hf,hp,by rw[hr];simp,by rw[hr];simp,fu,by rw[hs];exact hc,by rw[hs];exact h,hx,k⟩
@[simp] theorem ahB(ds:List D):jP (.agg ds)=ds.all (ry closed):=rfl
@[simp] theorem ahD(ds:List D):jP (.tup ds)=ds.all (ry closed):=rfl
@[simp] theorem ahC(v g sz off n:Nat):jP (.et v g sz off n)=true:=rfl
@[simp] theorem ahr(p:D→Bool)(v g sz off n:Nat):ry p (.et v g sz off n)=true:=rfl
@[simp] theorem ahq(l:List Int):ry closed (dI l)=true:=by show closed (dI l)=true;simp
@[simp] theorem ahs(v:Value):ry closed (.val v)=true:=by show closed (.val v)=true;simp
@[simp] theorem ad1(t g:Nat)(cs:List D):kO (.row t g cs)=eT cs:=rfl
@[simp] theorem agn(n:Nat)(ds:List D):ix n (.agg ds) = .agg (ds.map (rn n)):=rfl
@[simp] theorem agp(n:Nat)(ds:List D):ix n (.tup ds) = .tup (ds.map (rn n)):=rfl
@[simp] theorem ago(n v g sz off k:Nat):ix n (.et v g sz off k) = .et (v+n) g sz off k:=rfl
@[simp] theorem agr(n v g sz off k:Nat):rn n (.et v g sz off k) = .et (v+n) g sz off k:=rfl
@[simp] theorem agq(n:Nat)(l:List Int):rn n (dI l)=dI l:=by unfold dI;rfl
@[simp] theorem ags(n:Nat)(v:Value):rn n (.val v) = .val v:=rfl
end
instance:Fl eD.cells 8:=⟨fun _=>rfl,fun s=>by simp[eD.cells,eT]⟩
instance:Fl eW.cells 6:=⟨fun _=>rfl,fun s=>by simp[eW.cells,eT]⟩
@[simp] theorem adS(l:List eD)(a b c:List Int)(r q k u:Int)(t:Bool):cl eD.cells l ++ [dI a,dI b,dI c,.i r,.i q,.i k,.i u,.b t]=cl eD.cells (l ++ [⟨⟨a,b,c,r,q⟩,k,u,t⟩]):=by rw[← mV];rfl
@[simp] theorem adO(l:List eW)(a b c:List Int)(r q:Int)(t:Bool):cl eW.cells l ++ [dI a,dI b,dI c,.i r,.i q,.b t]=cl eW.cells (l ++ [⟨⟨a,b,c,r,q⟩,t⟩]):=by rw[← mV];rfl
@[simp] theorem ajx(s:eD):eD.mk s.p s.kind s.cur s.gL=s:=rfl
@[simp] theorem ahS(s:eW):eW.mk s.p s.gL=s:=rfl
attribute [simp] eD.cells eW.cells
theorem Yq{T:fE}{f:FuncId}{args:List D}{dst:Option Nat}{s:St}{K:St→Prop}{fn:ey}{α:Type}{g:α→D}{Q:α→Prop}(h:Wf T f args [] (Ex g Q))(k:∀ r,Q r→K { s with env:=put s.env dst (g r) })
  (hf:T.fn f=some fn:=by exact rfl) (hp:fn.full=false:=by exact rfl) (hc:eT args=true:=by simp) (hx:∀ r,closed (g r)=true:=by intro;simp):eS T f args dst s K .mk:=eS.q hf hp h hc hx k
theorem Yn{T:fE}{f:FuncId}{args:List D}{dst:Option Nat}{s:St}{K:St→Prop}{fn:ey}{d:D}{Hn:U}(h:Wf T f args [] fun d' H'=>d'=d∧H'=Hn)(k:K { s with env:=put s.env dst (ix s.H.length d),H:=s.H++Hn })
  (hf:T.fn f=some fn:=by exact rfl) (hp:fn.full=false:=by exact rfl) (hc:eT args=true:=by simp) (hr:(jP d&&Hn.all kO)=true:=by simp):eS T f args dst s K .mk:=eS.n hf hp h hc hr k
end Go.AL
namespace Go.AL
open Go
def ij(l:List eD):D:=.sl 8 (l.map eD.cells)
def kz(l:List eW):D:=.sl 6 (l.map eW.cells)
@[simp] theorem ajj(l:List eD):D.sl 8 (l.map eD.cells)=ij l:=by unfold ij;rfl
@[simp] theorem ajg(l:List eW):D.sl 6 (l.map eW.cells)=kz l:=by unfold kz;rfl
section
variable{l:List eD}{n:Int}{k:IntKind}{P:D→Prop}{H:U}
@[simp] theorem aee:closed (ij l)=true:=by unfold ij;exact xt l
@[simp] theorem agh:mn .slice (ij l) H=some (.i l.length):=by simp only[ij,Mf,List.length_map]
@[simp] theorem ajL(n:Nat):gx n (ij l) = []:=by unfold ij;rfl
@[simp] theorem adu:cellsOf (ij l)=some [ij l]:=by unfold ij;rfl
@[simp] theorem ag9:oA (ly 8 (ij l) (.val (.int k n))) P .mk=((0≤n∧n<l.length)∧P (.eF (gt l n).cells)):=by unfold ij;exact rv
end
section
variable{l:List eW}{n:Int}{k:IntKind}{P:D→Prop}{H:U}
@[simp] theorem aeb:closed (kz l)=true:=by unfold kz;exact xt l
@[simp] theorem agd:mn .slice (kz l) H=some (.i l.length):=by simp only[kz,Mf,List.length_map]
@[simp] theorem ajq:jt 6 H (kz l)=some (cl eW.cells l,l.length):=by unfold kz;exact Eu ..
@[simp] theorem ajH(n:Nat):gx n (kz l) = []:=by unfold kz;rfl
@[simp] theorem ag6:oA (ly 6 (kz l) (.val (.int k n))) P .mk=((0≤n∧n<l.length)∧P (.eF (gt l n).cells)):=by unfold kz;exact rv
end
@[simp] theorem ajf:D.sl 8 []=ij []:=by unfold ij;rfl
@[simp] theorem aje:D.sl 6 []=kz []:=by unfold kz;rfl
@[simp] theorem ae4{ρ:Nat→Option Nat}{H:U}{k:Nat}{t:TypeId}{a b c:List Int}{r q w u:Int}{o:Bool}:ln ρ H (k+1) 8 0 1 (some (t,[dI a,dI b,dI c,.i r,.i q,.i w,.i u,.b o]))=ij [⟨⟨a,b,c,r,q⟩,w,u,o⟩]:=by
 have h:=qU (f:=eD.cells) (ρ:=ρ) (H:=H) (k:=k) (t:=t) (l:=[⟨⟨a,b,c,r,q⟩,w,u,o⟩]) (n:=1) rfl
 rw[lF]at h
 unfold ij;exact h
def qT(S:List Nat):Nat→U→ke
 | _,[]=>[]
 | i,_::r=>(i,!S.contains i)::qT S (i+1) r
@[simp] theorem aeN(S:List Nat)(i:Nat):qT S i [] = []:=rfl
@[simp] theorem aeM(S:List Nat)(i:Nat)(o:Ob)(r:U):qT S i (o::r)=(i,!decide (i∈S))::qT S (i+1) r:=by
 rw[qT,List.contains_eq_mem]
theorem P9(H:U)(S:List Nat):jw H S=qT S 0 H:=by
 have key:∀ (H:U) (i:Nat),(List.range' i H.length).map (fun v=>(v,!(S.contains v)))=qT S i H:=by
  intro H
  induction H with
  | nil=>intro i;rfl
  | cons o r ih=>intro i;rw[aJ,cr,List.map_cons,ih,qT]
 rw[jw,dj,key]
def FK(env:Env)(H:U)(m:List Nat)(r:Bool)(ks:ke):St:={ env:=env.map fun p=>(p.1,eB (fO ks) H 40 p.2),H:=ks.map fun p=>if p.2 then oX (fO ks) H H[p.1]? else .dead,marks:=m,fM:=r }
@[simp] theorem aeW(S:List Nat)(env:Env)(H:U)(m:List Nat)(r:Bool):jh S { env:=env,H:=H,marks:=m,fM:=r }=FK env H m r (qT S 0 H):=by
 unfold jh FK
 rw[P9]
 rfl
@[simp] theorem aeS(env:Env)(H:U)(m:List Nat)(r:Bool)(ks:ke):FK env H m r ks = { env:=env.map fun p=>(p.1,eB (fO ks) H 40 p.2),H:=ks.map fun p=>if p.2 then oX (fO ks) H H[p.1]? else .dead,marks:=m,fM:=r }:=rfl
section
variable{T:fE}
def FL(S:List Nat)(T:fE)(b:IR)(K:gh):gh:=fun o=>match o with
 | .norm s=>s.marks = []∧XC T b (jh S s) K
 | o=>K o
@[simp ↓] theorem aeU{S:List Nat}{b:IR}{K:gh}{s:St}:FL S T b K (.norm s)=(s.marks = []∧XC T b (jh S s) K):=(rfl)
@[simp ↓] theorem aeT{S:List Nat}{b:IR}{K:gh}{id:Nat}{s:St}:FL S T b K (.exit id s)=K (.exit id s):=(rfl)
@[simp ↓] theorem aeV{S:List Nat}{b:IR}{K:gh}{s:St}:FL S T b K (.ret s)=K (.ret s):=(rfl)
theorem eE.fz{live:List Nat}{a:IR}{s:St}{K:gh}(S:List Nat)(hm:s.marks = [])(h:eE T live a (jh S s) K .mk):eE T live a s K .mk:=Wc.jh S (by rw[hm];exact TI _) h
end
theorem Mh{g:ew}{s d c:Int}:∀ (n:Nat) (x:Int) (out:List Int),(oi g s d c n x out).length≤out.length+n
 | 0,x,out=>by simp[oi]
 | n+1,x,out=>by
  unfold oi
  split
  ·have:=Mh (g:=g) (s:=s) (d:=d) (c:=c) n (jl g s d x) (out ++ [x])
   simp at this;omega
  ·omega
theorem G'{g:ew}{s d c:Int}:(iT g s d c).length≤10:=by
 have:=Mh (g:=g) (s:=s) (d:=d) (c:=c) 10 (jl g s d c) []
 simpa[iT]using this
theorem Mi{s:eD}:∀ l:List Int,(l5 s l).length≤l.length
 | []=>by simp[l5]
 | c::r=>by
  have:=Mi (s:=s) r
  unfold l5
  split<;>simp<;>omega
theorem wC{g:ew}{s:eD}{x:eG}:(fZ g s x).length≤10:=by
 have:=Mi (s:=s) (iT g s.p.side x.2 s.cur)
 have:=G' (g:=g) (s:=s.p.side) (d:=x.2) (c:=s.cur)
 unfold fZ nN oy
 dsimp only
 repeat' split
 all_goals first|omega|(simp only[aJ,cw];omega)
end Go.AL
namespace Go.Proofs.YtnaefnajkaohgaaGreatDoor
open Go Go.AL Classical
set_option maxRecDepth 10000
set_option maxHeartbeats 1000000
structure mA(a b:List Pos)(i k:Int)(out:List Pos):Prop where
 i0:0≤i∧i≤a.length
 k0:0≤k∧k≤b.length
 len:(out.length:Int)=i+k
 perm:out.Perm (a.take i.toNat++b.take k.toNat)
 ws:WS out
 le:∀ x∈out,∀ y,y∈a.drop i.toNat∨y∈b.drop k.toNat→fD x y≤0
theorem mA.init(a b:List Pos):mA a b 0 0 []:=⟨by omega,by omega,rfl,by simp,by simp[WS],by simp⟩
theorem NZ{a:List Pos}(h:WS a){i:Int}(h0:0≤i)(h1:i<a.length){y:Pos}(hy:y∈a.drop i.toNat):fD (gt a i) y≤0:=by
 have h2:WS (a.drop i.toNat):=dX (List.drop_sublist _ _) h
 rw[kI h0 h1]at hy h2
 rcases ax.1 hy with rfl|hy
 ·rw[oH];omega
 ·exact(a7.1 h2).1 y hy
theorem TP{α:Type}[Inhabited α]{a:List α}{i:Int}(h0:0≤i)(h1:i<a.length){y:α}:y∈a.drop i.toNat↔y=gt a i∨y∈a.drop (i+1).toNat:=by
 rw[kI h0 h1,ax,show(i+1).toNat=i.toNat+1 by omega]
theorem mA.add{a b:List Pos}{i k:Int}{out:List Pos}(hI:mA a b i k out)(hi:i<a.length)(ha:WS a)(h:∀ y∈b.drop k.toNat,fD (gt a i) y≤0):mA a b (i+1) k (out ++ [gt a i]):=by
 have h0:=hI.i0
 have e:∀ y,y∈a.drop i.toNat↔y=gt a i∨y∈a.drop (i+1).toNat:=fun y=>TP h0.1 hi
 refine⟨by omega,hI.k0,by have:=hI.len;simp;omega,?_,?_,fun x hx y hy=>?_⟩
 ·rw[gg h0.1 hi,bg]
  refine(hI.perm.append_right _).trans ?_
  rw[bg]
  exact List.Perm.append_left _ dY
 ·refine bF.2 ⟨hI.ws,by simp,fun x hx y hy=>?_⟩
  simp at hy;subst hy
  exact hI.le x hx _ (.inl ((e _).2 (.inl rfl)))
 ·rcases List.mem_append.1 hx with hx|hx
  ·exact hI.le x hx y (hy.imp (fun h=>(e _).2 (.inr h)) id)
  ·simp at hx;subst hx
   rcases hy with hy|hy
   ·exact NZ ha h0.1 hi ((e _).2 (.inr hy))
   ·exact h y hy
theorem mA.swap{a b:List Pos}{i k:Int}{out:List Pos}(hI:mA a b i k out):mA b a k i out:=
 ⟨hI.k0,hI.i0,by have:=hI.len;omega,hI.perm.trans dY,hI.ws,fun x hx y hy=>hI.le x hx y hy.symm⟩
theorem mA.Ie{a b:List Pos}{i k:Int}{out:List Pos}(hI:mA a b i k out)(hi:i<a.length)(ha:WS a)(hb:WS b)(h:k<b.length→fD (gt a i) (gt b k)≤0):mA a b (i+1) k (out ++ [gt a i]):=by
 refine hI.add hi ha fun y hy=>?_
 by_cases hk:k<b.length
 ·exact JP (h hk) (NZ hb hI.k0.1 hk hy)
 ·rw[aZ (by have:=hI.k0;omega)]at hy;cases hy
theorem mA.NH{a b:List Pos}{i k:Int}{out:List Pos}(hI:mA a b i k out)(hk:k<b.length)(ha:WS a)(hb:WS b)(h:i<a.length→¬ fD (gt a i) (gt b k)≤0):mA a b i (k+1) (out ++ [gt b k]):=by
 refine(hI.swap.Ie hk hb ha fun hi=>?_).swap
 have:=h hi
 rw[o7];omega
theorem f109:∀ (n:Nat) (l:List Pos),l.length=n→l.length<2 ^ 40→(∀ p∈l,Small p)→Wf T 109 [fe l] [] (Ex fe fun r=>r.Perm l∧WS r):=by
 intro n
 induction n using Nat.strongRecOn with
 | ind n ih=>
 intro l hn hl hs
 refine Yg z6 ?_
 simp[z6]
 (with_reducible refine Xs ?_ ?_<;>intro h<;>(try intro h')<;>(try simp[h])<;>(try omega))
 ·refine⟨l,rfl,List.Perm.refl _,?_⟩
  unfold WS
  cases l with
  | nil=>simp
  | cons a l=>cases l with
   | nil=>simp
   | cons b l=>simp at h;omega
 ·rw[wj (by omega) (by omega) (by omega)]
  (with_reducible repeat' first|refine Xk ?_<;>try simp|refine Xs ?_ ?_<;>intro h<;>(try intro h')<;>(try simp[h])<;>(try omega)|refine Xg ?_|omega)
  refine Yq (ih (l.length / 2) (by omega) _ (by simp;omega) (by simp;omega) (fun p hp=>hs p (aN hp))) fun a ha=>?_
  simp
  rw[wj (by omega) (by omega) (by omega)]
  (with_reducible repeat' first|refine Xk ?_<;>try simp|refine Xs ?_ ?_<;>intro h<;>(try intro h')<;>(try simp[h])<;>(try omega)|refine Xg ?_|omega)
  refine Yq (ih (l.length-l.length / 2) (by omega) _ (by simp;omega) (by simp;omega) (fun p hp=>hs p (bN (aN hp)))) fun b hb=>?_
  simp
  have la:(a.length:Int)=l.length / 2:=by rw[ha.1.length_eq];simp;omega
  have lb:(b.length:Int)=l.length-l.length / 2:=by rw[hb.1.length_eq];simp;omega
  have sa:∀ p∈a,Small p:=fun p hp=>hs p (aN ((ha.1.mem_iff).1 hp))
  have sb:∀ p∈b,Small p:=fun p hp=>hs p (bN (aN ((hb.1.mem_iff).1 hp)))
  refine eE.j ((0,0,[]):Int×Int×List Pos) (fun x=>[(3,fe a),(4,fe b),(5,.et 0 x.2.2.length 5 0 x.2.2.length),(6,.i x.1),(7,.i x.2.1)]) (fun x=>[.row 44 x.2.2.length (cl Pos.cells x.2.2)]) (fun x=>mA a b x.1 x.2.1 x.2.2) (fun x=>a.length+b.length-(x.1+x.2.1).toNat) ?_ (by simp) (by first|rfl|simp) rfl ?_
  ·exact mA.init a b
  rintro⟨i,k,out⟩ hI
  have h0:=hI.i0
  have h1:=hI.k0
  have h2:=hI.len
  dsimp only at hI h0 h1 h2 ⊢
  simp
  (with_reducible repeat' first|refine Xk ?_<;>try simp|refine Xs ?_ ?_<;>intro h<;>(try intro h')<;>(try simp[h])<;>(try omega)|refine Xg ?_|omega)
  ·exact⟨i+1,k,_,by simp,rfl,rfl,by simp,rfl,by omega,hI.Ie (by assumption) ha.2 hb.2 fun h=>by omega⟩
  ·refine Yt (f50 _ _ (sa _ (eI (by omega) (by omega))) (sb _ (eI (by omega) (by omega)))) ?_
   simp[*]
   (with_reducible repeat' first|refine Xk ?_<;>try simp|refine Xs ?_ ?_<;>intro h<;>(try intro h')<;>(try simp[h])<;>(try omega)|refine Xg ?_|omega)
   ·exact⟨i+1,k,_,by simp,rfl,rfl,by simp,rfl,by omega,hI.Ie (by assumption) ha.2 hb.2 fun _=>by assumption⟩
   ·exact⟨i,k+1,_,by simp,rfl,rfl,by simp,rfl,by omega,hI.NH (by omega) ha.2 hb.2 fun _=>by assumption⟩
  ·exact⟨i,k+1,_,by simp,rfl,rfl,by simp,rfl,by omega,hI.NH (by omega) ha.2 hb.2 fun _=>by omega⟩
  ·refine⟨out,rfl,?_,hI.ws⟩
   have e1:=hI.perm
   rw[iD (by omega),iD (by omega)]at e1
   refine e1.trans ((List.Perm.append ha.1 hb.1).trans ?_)
   have e2:(l.drop (↑l.length / 2:Int).toNat).take (l.length-(↑l.length / 2:Int).toNat)=l.drop (↑l.length / 2:Int).toNat:=aG (by rw[bk];exact Nat.le_refl _)
   rw[e2,bK]
structure pT(a:List Pos)(i:Int)(out:List Pos):Prop where
 i0:0≤i∧i≤a.length
 len:(out.length:Int)≤i
 mem:∀ q,q∈out↔q∈a.take i.toNat
 st:out.Pairwise fun x y=>fD x y<0
theorem pT.init(a:List Pos):pT a 0 []:=⟨by omega,by simp,by simp,by simp⟩
theorem N0{a:List Pos}(h:WS a){j:Int}(h0:0≤j)(h1:j<a.length){x:Pos}(hx:x∈a.take (j+1).toNat):fD x (gt a j)≤0:=by
 have h2:WS (a.take (j+1).toNat):=dX (List.take_sublist _ _) h
 rw[gg h0 h1]at hx h2
 rcases List.mem_append.1 hx with hx|hx
 ·exact(bF.1 h2).2.2 x hx _ (by simp)
 ·simp at hx;subst hx;rw[oH];omega
theorem pT.skip{a:List Pos}{i:Int}{out:List Pos}(hI:pT a i out)(hi:i<a.length)(h1:i≠0)(h:gt a i=gt a (i-1)):pT a (i+1) out:=by
 have h0:=hI.i0
 refine⟨by omega,by have:=hI.len;omega,fun q=>?_,hI.st⟩
 rw[hI.mem,gg h0.1 hi,List.mem_append,List.mem_singleton]
 refine⟨.inl,fun hq=>hq.elim id fun hq=>?_⟩
 rw[hq,h]
 have:=gg (l:=a) (n:=i-1) (by omega) (by omega)
 rw[show i-1+1=i by omega]at this
 rw[this];simp
theorem pT.add{a:List Pos}{i:Int}{out:List Pos}(hI:pT a i out)(hi:i<a.length)(ha:WS a)(h:i=0∨gt a i≠gt a (i-1)):pT a (i+1) (out ++ [gt a i]):=by
 have h0:=hI.i0
 refine⟨by omega,by have:=hI.len;simp;omega,fun q=>?_,bF.2 ⟨hI.st,by simp,fun x hx y hy=>?_⟩⟩
 ·rw[List.mem_append,hI.mem,gg h0.1 hi,List.mem_append]
 ·simp at hy;subst hy
  have hx:=(hI.mem x).1 hx
  rcases h with rfl|h
  ·simp at hx
  ·by_cases hz:i=0
   ·subst hz;simp at hx
   have e1:=N0 ha (j:=i-1) (by omega) (by omega) (x:=x) (by rw[show i-1+1=i by omega];exact hx)
   have e2:=N0 ha h0.1 hi (x:=gt a (i-1)) (by
    have:=gg (l:=a) (n:=i-1) (by omega) (by omega)
    rw[show i-1+1=i by omega]at this
    rw[gg h0.1 hi,this];simp)
   have e3:fD (gt a (i-1)) (gt a i)≠0:=fun e=>h (mD.1 e).symm
   by_cases e4:fD x (gt a (i-1))=0
   ·rw[mD.1 e4];omega
   ·exact rZ (show fD x (gt a (i-1))<0 by omega) (by omega)
theorem ZT{r:List Pos}(h:r.Pairwise fun x y=>fD x y<0):iE r:=by
 intro i h1 h2
 rw[mc (by omega) (by omega),mc (by omega) (by omega)]
 exact bj.1 h _ _ _ _ (by omega)
theorem f61(l:List Pos)(hl:l.length<2 ^ 40)(hs:∀ p∈l,Small p):Wf T 61 [fe l] [] (Ex fe fun r=>iE r∧r.length≤l.length∧∀ q,q∈r↔q∈l):=by
 refine Yg BH ?_
 simp[BH]
 refine Yq (f109 _ l rfl hl hs) fun a ha=>?_
 simp
 have la:a.length=l.length:=ha.1.length_eq
 have sa:∀ p∈a,Small p:=fun p hp=>hs p (ha.1.mem_iff.1 hp)
 refine eE.j ((0,[]):Int×List Pos) (fun x=>[(3,fe a),(4,.et 0 x.2.length 5 0 x.2.length),(5,.i x.1)]) (fun x=>[.row 44 x.2.length (cl Pos.cells x.2)]) (fun x=>pT a x.1 x.2) (fun x=>a.length-x.1.toNat) ?_ (by simp) (by first|rfl|simp) rfl ?_
 ·exact pT.init a
 rintro⟨i,out⟩ hI
 have h0:=hI.i0
 have h1:=hI.len
 dsimp only at hI h0 h1 ⊢
 simp
 (with_reducible repeat' first|refine Xk ?_<;>try simp|refine Xs ?_ ?_<;>intro h<;>(try intro h')<;>(try simp[h])<;>(try omega)|refine Xg ?_|omega)
 ·exact⟨1,_,by simp,rfl,by simp,rfl,by omega,by subst h;exact hI.add (by assumption) ha.2 (.inl rfl)⟩
 ·refine Yt (f110 _ _ (sa _ (eI (by omega) (by omega))) (sa _ (eI (by omega) (by omega)))) ?_
  simp
  (with_reducible repeat' first|refine Xk ?_<;>try simp|refine Xs ?_ ?_<;>intro h<;>(try intro h')<;>(try simp[h])<;>(try omega)|refine Xg ?_|omega)
  ·exact⟨i+1,_,rfl,rfl,rfl,rfl,by omega,hI.skip (by assumption) (by assumption) (by assumption)⟩
  ·exact⟨i+1,_,by simp,rfl,by simp,rfl,by omega,hI.add (by assumption) ha.2 (.inr (by assumption))⟩
 ·refine⟨out,rfl,ZT hI.st,by omega,fun q=>?_⟩
  rw[hI.mem,iD (by omega),ha.1.mem_iff]
end Go.Proofs.YtnaefnajkaohgaaGreatDoor
namespace Go.AL
open Go
def G6(H:U)(d:D)(ks:ke):D×U:=(eB (fO ks) H 40 d,ks.map fun p=>if p.2 then oX (fO ks) H H[p.1]? else .dead)
@[simp] theorem af8(H:U)(d:D)(ks:ke):G6 H d ks=(eB (fO ks) H 40 d,ks.map fun p=>if p.2 then oX (fO ks) H H[p.1]? else .dead):=rfl
def we(own n:Nat)(H:U)(d:D):List Nat:=match own with|0=>[]|1=>wg n d|3=>((fw H 40 d).filter (n≤·)).take 1|_=>(fw H 40 d).filter (n≤·)
@[simp] theorem ahT(n:Nat)(H:U)(d:D):we 0 n H d = []:=rfl
@[simp] theorem ahU(n:Nat)(H:U)(d:D):we 1 n H d=wg n d:=rfl
@[simp] theorem ahV(n:Nat)(H:U)(d:D):we 2 n H d=(fw H 40 d).filter (n≤·):=rfl
@[simp] theorem ahW(n:Nat)(H:U)(d:D):we 3 n H d=((fw H 40 d).filter (n≤·)).take 1:=rfl
@[simp low] theorem DJ{own n:Nat}{H:U}{d:D}(h:¬ H.length≤n):leave own n H d=G6 H d (gu n (dedup ((we own n H d++((H.take n).map (lM n)).flatten).filter (· < H.length)))):=by
 unfold leave G6 we
 rw[if_neg h]
 rfl
@[simp] theorem ahX(n v g sz len:Nat):wg n (.et v g sz 0 len)=if n≤v then [v]else []:=rfl
theorem zi{H:U}{k:Nat}{d:D}(h:closed d=true):fw H k d = []:=by
 cases k with
 | zero=>rfl
 | succ k=>unfold fw;exact if_pos h
theorem zj{H:U}{k:Nat}{cs:List D}(h:eT cs=true):(cs.map (fw H k)).flatten = []:=by
 induction cs with
 | nil=>rfl
 | cons d r ih=>
  simp only[eT,ah]at h
  simp[zi h.1,ih h.2]
@[simp] theorem aif{H:U}{k:Nat}{d:D}(h:closed d=true):fw H k d = []:=zi h
@[simp] theorem aie(H:U)(k:Nat)(cs:List D):fw H (k+1) (.agg cs)=(cs.map (fw H k)).flatten:=by
 by_cases h:closed (.agg cs)=true
 ·rw[zi h,zj (by simpa using h)]
 ·rw[fw,if_neg h]
@[simp] theorem ail(H:U)(k:Nat)(cs:List D):fw H (k+1) (.tup cs)=(cs.map (fw H k)).flatten:=by
 by_cases h:closed (.tup cs)=true
 ·rw[zi h,zj (by simpa using h)]
 ·rw[fw,if_neg h]
def wm(H:U)(k:Nat):Option Ob→List Nat
 | some (.row _ _ cs)=>(cs.map (fw H k)).flatten
 | _=>[]
@[simp] theorem ain(H:U)(k t g:Nat)(cs:List D):wm H k (some (.row t g cs))=(cs.map (fw H k)).flatten:=rfl
@[simp] theorem aim(H:U)(k:Nat)(kk:KK)(es:List (Value×D)):wm H k (some (.map kk es)) = []:=rfl
theorem M8(H:U)(k v:Nat):(match rowsOf H v with|some (_,_,cs)=>(cs.map (fw H k)).flatten|none=>[])=wm H k H[v]? := by
 unfold rowsOf wm
 cases h:H[v]? with
 | none=>rfl
 | some o=>cases o<;>rfl
@[simp] theorem aii(H:U)(k v g sz off n:Nat):fw H (k+1) (.et v g sz off n)=v::wm H k H[v]? := by
 rw[fw,if_neg (by simp)]
 exact congrArg _ (M8 H k v)
@[simp] theorem aij(H:U)(k v g off:Nat):fw H (k+1) (.ptr v g off)=v::wm H k H[v]? := by
 rw[fw,if_neg (by simp)]
 exact congrArg _ (M8 H k v)
@[simp] theorem aik{H:U}{k:Nat}{α:Type}{f:α→List D}{sz:Nat}[F:Fl f sz](l:List α):((cl f l).map (fw H k)).flatten = []:=zj (pX l)
@[simp low] theorem aeZ{ρ:Nat→Option Nat}{H:U}{k sz:Nat}{t:TypeId}{cs:List D}(h:cs.length=sz):ln ρ H k sz 0 1 (some (t,cs)) = .sl sz [cs.map (eB ρ H k)]:=by
 subst h
 unfold ln
 simp[chunks,aG]
@[simp] theorem ajk{a b c:List Int}{r q w u:Int}{o:Bool}:D.sl 8 [[dI a,dI b,dI c,.i r,.i q,.i w,.i u,.b o]]=ij [⟨⟨a,b,c,r,q⟩,w,u,o⟩]:=by unfold ij;rfl
end Go.AL
namespace Go.Proofs.YtnaefnajkaohgaaGreatDoor
open Go Go.AL Classical
set_option maxRecDepth 10000
set_option maxHeartbeats 1000000
theorem CQ(p:Pos)(hp:Small p):Wf T 155 [dP p] [] (fun d H=>d = .agg [.et 0 1 1 0 p.cs.length,.et 1 1 1 0 p.h0.length,.et 2 1 1 0 p.h1.length,.i p.eQ,.i p.side]∧H = [.row 3 1 (cl f1 p.cs),.row 3 1 (cl f1 p.h0),.row 3 1 (cl f1 p.h1)]):=by
 obtain⟨h1,h2,h3⟩:=hp
 refine Wf.xo 2 (fn:=rG) rfl (by simp[rG]) ?_
 simp[rG]
 (with_reducible repeat' first|refine Xk ?_<;>try simp|refine Xs ?_ ?_<;>intro h<;>(try intro h')<;>(try simp[h])<;>(try omega)|refine Xg ?_|omega)
 all_goals trace_state
theorem f250(a b:eD)(ha:Small a.p)(hb:Small b.p):Wf T 250 [.agg a.cells,.agg b.cells] [] (Is (.b (decide (a=b)))):=by
 have e:(a=b)↔a.p=b.p∧a.kind=b.kind∧a.cur=b.cur∧a.gL=b.gL:=by cases a;cases b;simp
 have e2:decide (a=b)=decide (a.p=b.p∧a.kind=b.kind∧a.cur=b.cur∧a.gL=b.gL):=decide_eq_decide.2 e
 rw[e2]
 refine Yg Bh ?_
 simp[Bh]
 (with_reducible repeat' first|refine Xk ?_<;>try simp|refine Xs ?_ ?_<;>intro h<;>(try intro h')<;>(try simp[h])<;>(try omega)|refine Xg ?_|omega)
 ·refine Yc (f50 _ _ ha hb) ?_
  simp
  simp_all [mD]
 all_goals (intros;simp_all)
theorem f252(s:eD)(b:Bool):Wf T 252 [.agg s.cells,.b b] [] (Is (ij (if b then [s]else []))):=by
 refine Yg Bj ?_
 simp[Bj]
 (with_reducible repeat' first|refine Xk ?_<;>try simp|refine Xs ?_ ?_<;>intro h<;>(try intro h')<;>(try simp[h])<;>(try omega)|refine Xg ?_|omega)
def yK(a b:eW):Prop:=fD a.p b.p<0∨(fD a.p b.p=0∧a.gL=false∧b.gL=true)
theorem f229(a b:eW)(ha:Small a.p)(hb:Small b.p):Wf T 229 [.agg a.cells,.agg b.cells] [] (Is (.b (decide (yK a b)))):=by
 refine Yg Ba ?_
 simp[Ba]
 refine Yc (f50 _ _ ha hb) ?_
 simp
 (with_reducible repeat' first|refine Xk ?_<;>try simp|refine Xs ?_ ?_<;>intro h<;>(try intro h')<;>(try simp[h])<;>(try omega)|refine Xg ?_|omega)
 all_goals by_cases hc:fD a.p b.p<0<;>simp[*,yK]at *
theorem f263(g:ew)(hg:kN g)(s d c:Int):Wf T 263 [g.gF,.i s,.i d,.i c] [] (Is (dI (iT g s d c))):=by
 have hb:=hg.size
 refine Yg Bo ?_
 simp[Bo]
 refine Yc (f251 g hg s d c) ?_
 simp
 refine eE.j ((0,jl g s d c,[]):Nat×Int×List Int) (fun x=>[(1,.i s),(2,.i d),(3,.i c),(4,.ptr 0 0 0),(9,.et 1 x.2.2.length 1 0 x.2.2.length),(10,.i x.2.1)]) (fun x=>[.row 37 0 [.i g.size,.sl 1 (g.next.map fI),dI g.gy],.row 3 x.2.2.length (cl f1 x.2.2)]) (fun x=>x.1=x.2.2.length∧x.2.1<g.size∧x.2.2.Nodup∧(∀ y∈x.2.2,0≤y∧y<g.size)∧iT g s d c=oi g s d c (10-x.1) x.2.1 x.2.2) (fun x=>10-x.1) ?_ (by simp) (by first|rfl|simp) rfl ?_
 ·have:=hg.to s d c
  simp[iT];omega
 rintro⟨m,x,out⟩ ⟨h0,h1,h2,h3,h4⟩
 dsimp only at h0 h1 h2 h3 h4 ⊢
 have hm:out.length≤9:=yY 9 out h2 (fun y hy=>by have:=h3 y hy;omega)
 have e:=h4
 rw[show 10-m=(9-m)+1 by omega,oi]at e
 simp
 (with_reducible repeat' first|refine Xk ?_<;>try simp|refine Xs ?_ ?_<;>intro h<;>(try intro h')<;>(try simp[h])<;>(try omega)|refine Xg ?_|omega)
 ·rw[e,if_neg (by omega)]
 ·refine eS.r rfl rfl (f25 out x (by omega)) (by simp) rfl (by simp) ?_
  simp
  (with_reducible repeat' first|refine Xk ?_<;>try simp|refine Xs ?_ ?_<;>intro h<;>(try intro h')<;>(try simp[h])<;>(try omega)|refine Xg ?_|omega)
  ·rw[e,if_neg (by rintro⟨_,_,hh⟩;exact hh ‹_›)]
  ·refine Yc (f251 g hg s d x) ?_
   simp
   refine⟨out.length+1,_,out ++ [x],by simp,rfl,by simp,rfl,by omega,by simp,(hg.to _ _ _).2,?_,?_,?_⟩
   ·rw[cj]
    refine⟨h2,by simp,fun y hy z hz=>?_⟩
    simp at hz
    subst hz
    intro e3
    subst e3
    exact absurd hy ‹_›
   ·intro y hy
    simp at hy
    rcases hy with hy|rfl
    ·exact h3 y hy
    ·omega
   ·rw[e,if_pos ⟨by omega,by omega,by assumption⟩,h0,show 9-out.length=10-(out.length+1)by omega]
 ·rw[e,if_neg (by omega)]
