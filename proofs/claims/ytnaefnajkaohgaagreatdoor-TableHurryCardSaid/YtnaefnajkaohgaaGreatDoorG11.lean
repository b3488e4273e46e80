/- Part 11 of TableHurry. -/
import Derived.Test.YtnaefnajkaohgaaGreatDoorG10
set_option linter.all false
namespace Go.Proofs.YtnaefnajkaohgaaGreatDoor
open Go Go.AL Classical
set_option maxRecDepth 10000
set_option maxHeartbeats 1000000
theorem f64(l:List Pos)(hl:l.length<2 ^ 40)(hs:∀ p∈l,Small p):Wf T 64 [fh l] [] (Is (.b (decide (iI l)))):=by
 refine Yg BU ?_
 simp[BU]
 refine eF.j (1:Int) (fun i=>[(0,fh l),(3,.i i)]) (fun _=>_) (fun i=>1≤i∧(i≤l.length∨i=1)∧∀ k:Int,1≤k→k<i→fG (gt l (k-1)) (gt l k)<0) (fun i=>l.length-i.toNat) ?_ (by simp) (by first|rfl|simp) rfl ?_
 ·simp;omega
 rintro i ⟨h0,h1,h2⟩
 simp
 (with_reducible repeat' first|refine Xk ?_<;>try simp|refine Xs ?_ ?_<;>intro h<;>(try intro h')<;>(try simp[h])<;>(try omega)|refine Xg ?_|omega)
 ·skip
  refine Yt (f50 (gt l (i-1)) (gt l i) (hs _ (eH (by omega) (by omega))) (hs _ (eH (by omega) (by omega)))) ?_
  simp
  (with_reducible repeat' first|refine Xk ?_<;>try simp|refine Xs ?_ ?_<;>intro h<;>(try intro h')<;>(try simp[h])<;>(try omega)|refine Xg ?_|omega)
  ·intro hc;have:=hc i h0 ‹_›;omega
  ·intro k hk jv
   by_cases e:k=i
   ·subst e;omega
   ·exact h2 k hk (by omega)
 ·intro k hk jv
  exact h2 k hk (by omega)
theorem f27(l:List Pos)(p:Pos)(hl:l.length<2 ^ 40)(hs:∀ p∈l,Small p)(hp:Small p)(sT:iI l):Wf T 27 [fh l,dP p] [] (Is (.i (jB l p))):=by
 refine Yg Bz ?_
 simp[Bz]
 refine eF.j ((0,(l.length:Int)):Int×Int) (fun x=>[(0,fh l),(3,.ptr 0 0 0),(5,.i x.1),(6,.i x.2)]) (fun _=>[.row 44 0 p.cells]) (fun x=>0≤x.1∧x.1≤x.2∧x.2≤l.length∧∀ k:Int,0≤k→k<l.length→gt l k=p→x.1≤k∧k<x.2) (fun x=>(x.2-x.1).toNat) ?_ (by simp) rfl rfl ?_
 ·simp;omega
 rintro⟨a,b⟩ ⟨h0,h1,h2,h3⟩
 simp at h0 h1 h2 h3
 simp
 (with_reducible repeat' first|refine Xk ?_<;>try simp|refine Xs ?_ ?_<;>intro h<;>(try intro h')<;>(try simp[h])<;>(try omega)|refine Xg ?_|omega)
 ·rw[wE (by omega) (by omega) (by omega)]
  (with_reducible repeat' first|refine Xk ?_<;>try simp|refine Xs ?_ ?_<;>intro h<;>(try intro h')<;>(try simp[h])<;>(try omega)|refine Xg ?_|omega)
  refine Yt (f50 p (gt l ((a+b) / 2)) hp (hs _ (eH (by omega) (by omega)))) ?_
  simp
  (with_reducible repeat' first|refine Xk ?_<;>try simp|refine Xs ?_ ?_<;>intro h<;>(try intro h')<;>(try simp[h])<;>(try omega)|refine Xg ?_|omega)
  ·rw[mI]at h
   rw[h,Qm sT (by omega) (by omega)]
  ·have fe:∀ k:Int,(a+b) / 2≤k→k<l.length→gt l k≠p:=fun k hk jv e=>by
    by_cases e2:k=(a+b) / 2
    ·subst e2;rw[e,oQ]at h;omega
    ·have:=sr h (sT.le (by omega) (show(a+b) / 2<k by omega) jv)
     rw[e,oQ]at this;omega
   intro k hk jv e
   have:=h3 k hk jv e
   by_cases Gv:(a+b) / 2≤k
   ·exact absurd e (fe k Gv jv)
   ·omega
  ·have h6:fG (gt l ((a+b) / 2)) p<0:=by rw[pj];omega
   have fe:∀ k:Int,0≤k→k≤(a+b) / 2→gt l k≠p:=fun k hk jv e=>by
    by_cases e2:k=(a+b) / 2
    ·subst e2;rw[e,oQ]at h6;omega
    ·have:=sr (sT.le hk (show k<(a+b) / 2 by omega) (by omega)) h6
     rw[e,oQ]at this;omega
   intro k hk jv e
   have:=h3 k hk jv e
   by_cases Gv:k≤(a+b) / 2
   ·exact absurd e (fe k hk Gv)
   ·omega
 ·rw[KE]
  intro hm
  obtain⟨k,hk,jv,e⟩:=oB.1 hm
  have:=h3 k hk jv e
  omega
theorem f111(g:ey)(l:List Int)(hg:eW g)(hl:mW g l):Wf T 111 [dG g,dI l] [] (Is (.b true)):=by
 have hk:=hg.kinds
 have hn:=hl.len
 refine Yg Ah ?_
 simp[Ah]
 (with_reducible repeat' first|refine Xk ?_<;>try simp|refine Xs ?_ ?_<;>intro h<;>(try intro h')<;>(try simp[h])<;>(try omega)|refine Xg ?_|omega)
 refine eF.j (0:Int) (fun i=>[(1,dI l),(2,.ptr 0 0 0),(5,.i i)]) (fun i=>[.row 41 0 g.cells]) (fun i=>0≤i∧i≤l.length) (fun i=>l.length-i.toNat) ?_ (by simp) (by first|rfl|simp) rfl ?_
 ·simp
 rintro i ⟨h0,h1⟩
 simp
 (with_reducible refine Xs ?_ ?_<;>intro h<;>(try intro h')<;>(try simp[h])<;>(try omega))
 ·have h2:=hl.at_ i h0 ‹_›
  (with_reducible repeat' first|refine Xk ?_<;>try simp|refine Xs ?_ ?_<;>intro h<;>(try intro h')<;>(try simp[h])<;>(try omega)|refine Xg ?_|omega)
  have:=h2.2.2
  all_goals simp_all
  all_goals omega
theorem f65(g:ey)(p:Pos)(hg:eW g)(hp:fo g p):Wf T 65 [dG g,dP p] [] (Is (.b true)):=by
 have hk:=hg.kinds
 have hr:=hg.eR
 have h1:=hp.size
 have h2:=hp.eR
 have h3:=hp.side
 have hb:=hg.gH.size
 have h4:=Ir hr.1 (by omega)
 refine Yg BV ?_
 simp[BV,h1]
 refine Yt (f111 g _ hg hp.h0) ?_
 simp[h1]
 refine Yt (f111 g _ hg hp.h1) ?_
 simp[h1]
 (with_reducible repeat' first|refine Xk ?_<;>try simp[h4]|refine Xs ?_ ?_<;>intro h<;>(try intro h')<;>(try simp[h,h4])<;>(try omega)|refine Xg ?_|omega)
 refine eF.j (0:Int) (fun i=>[(2,.ptr 0 0 0),(3,.ptr 1 0 0),(5,.i i)]) (fun i=>[.row 41 0 g.cells,.row 44 0 p.cells]) (fun i=>0≤i∧i≤p.cs.length) (fun i=>p.cs.length-i.toNat) ?_ (by simp) (by first|rfl|simp) rfl ?_
 ·simp
 rintro i ⟨h0,h5⟩
 simp
 (with_reducible refine Xs ?_ ?_<;>intro h<;>(try intro h')<;>(try simp[h])<;>(try omega))
 have h4:=hp.cs _ (eH h0 ‹_›)
 (with_reducible repeat' first|refine Xk ?_<;>try simp|refine Xs ?_ ?_<;>intro h<;>(try intro h')<;>(try simp[h])<;>(try omega)|refine Xg ?_|omega)
end Go.Proofs.YtnaefnajkaohgaaGreatDoor
namespace Go.AL
open Go
def Ex{α:Type}(g:α→D)(Q:α→Prop):D→et→Prop:=fun d H=>∃ r,d=g r∧H = []∧Q r
@[simp] theorem aaE{α:Type}(g:α→D)(Q:α→Prop)(d:D)(H:et):Ex g Q d H = ∃ r,d=g r∧H = []∧Q r:=(rfl)
section
variable{T:fH}{f:FuncId}{args mG:List D}{dst:Option Nat}{s:St}{K:St→Prop}{fn:eA}
theorem eU.q{α:Type}{g:α→D}{Q:α→Prop}(hf:T.fn f=some fn)(hp:fn.full=false)(h:Wf T f args [] (Ex g Q))
  (hc:eV args=true) (hx:∀ r,closed (g r)=true) (k:∀ r,Q r→K { s with env:=put s.env dst (g r) }):eU T f args dst s K .mk:=by
 refine eU.is hf hp (K0:=Ex g Q) ?_ ?_
 ·have e0:args.map (eC (fun _=>none) s.H 40)=args:=by
   conv=>rhs;rw[← aQ args]
   exact ak fun d hd=>lY (jM hc d hd)
  rw[e0];exact h
 ·rintro d Hn ⟨r,rfl,rfl,hr⟩
  obtain⟨k1,k2⟩:=CF (H:=s.H) (hx r)
  refine⟨{ s with env:=put s.env dst (g r) },?_,k r hr⟩
  unfold after
  rw[if_pos hc,k1,k2]
  simp
end
section
variable{T:fH}{f:FuncId}{args:List D}{dst:Option Nat}{s:St}{K:St→Prop}{fn:eA}
theorem eU.n{d:D}{Hn:et}(hf:T.fn f=some fn)(hp:fn.full=false)(h:Wf T f args [] fun d' H'=>d'=d∧H'=Hn)
  (hc:eV args=true) (hr:(jX d&&Hn.all kU)=true) (k:K { s with env:=put s.env dst (iB s.H.length d),H:=s.H++Hn }):eU T f args dst s K .mk:=by
 refine eU.is hf hp (K0:=fun d' H'=>d'=d∧H'=Hn) ?_ ?_
 ·have e0:args.map (eC (fun _=>none) s.H 40)=args:=by
   conv=>rhs;rw[← aQ args]
   exact ak fun d hd=>lY (jM hc d hd)
  rw[e0];exact h
 ·rintro d' Ci ⟨rfl,rfl⟩
  refine⟨_,?_,k⟩
  unfold after
  rw[if_pos hc,if_pos hr]
theorem r7.n{R:List Fp}{Q:Rc→St→Prop}{d:D}{ob:Ob}(hf:T.fn f=some fn)(hp:fn.full=false)(h:Wf T f args [] fun d' H'=>d'=d∧H' = [ob])
  (hc:eV args=true) (hr:(jX d&&kU ob)=true) (k:Q ⟨R,[(s.H.length,none)]⟩ { s with env:=put s.env dst (iB s.H.length d),H:=s.H ++ [ob] }):pe T f args R dst s Q .mk:=by
 have e0:args.map (eC (fun _=>none) s.H 40)=args:=by
  conv=>rhs;rw[← aQ args]
  exact ak fun d hd=>lY (jM hc d hd)
 exact .inl (.inr ⟨fn,d,ob,hf,hp,by rw[e0];exact h,by rw[if_pos hc];exact hr,k⟩)
theorem r7.c{R:List Fp}{Q:Rc→St→Prop}{x:D}(hf:T.fn f=some fn)(hp:fn.full=false)(h:Wf T f args [] fun d H'=>d=x∧H' = [])
  (hc:eV args=true) (hx:closed x=true) (k:Q ⟨R,[]⟩ { s with env:=put s.env dst x }):pe T f args R dst s Q .mk:=.inl (.inl (gq.c hf hp h hc hx k))
theorem pe.z{mG:List D}{R:List Fp}{Q:Rc→St→Prop}{d:D}(v:Nat)(hf:T.fn f=some fn)(hp:fn.full=false)(h:Wf T f mG [] (Is d))(hs:args.map (eC (fun _=>none) s.H 40)=mG)
  (hr:(args.map (fD s.H 40)).flatten = [v]) (fy:(rowsOf s.H v).isSome=true) (hc:eV mG=true) (hx:closed d=true) (k:Q ⟨R,[(v,none)]⟩ { s with env:=put s.env dst d,H:=s.H.set v .dead }):pe T f args R dst s Q .mk:=
 .inr ⟨fn,d,v,hf,hp,by rw[hr];simp,by rw[hr];simp,fy,by rw[hs];exact hc,by rw[hs];exact h,hx,k⟩
@[simp] theorem ahT(ds:List D):jX (.agg ds)=ds.all (rK closed):=rfl
@[simp] theorem ahV(ds:List D):jX (.tup ds)=ds.all (rK closed):=rfl
@[simp] theorem ahU(v g sz off n:Nat):jX (.eu v g sz off n)=true:=rfl
@[simp] theorem ahJ(p:D→Bool)(v g sz off n:Nat):rK p (.eu v g sz off n)=true:=rfl
@[simp] theorem ahI(l:List Int):rK closed (dI l)=true:=by show closed (dI l)=true;simp
@[simp] theorem ahK(v:Value):rK closed (.val v)=true:=by show closed (.val v)=true;simp
@[simp] theorem aej(t g:Nat)(cs:List D):kU (.row t g cs)=eV cs:=rfl
@[simp] theorem agG(n:Nat)(ds:List D):iB n (.agg ds) = .agg (ds.map (rG n)):=rfl
@[simp] theorem agI(n:Nat)(ds:List D):iB n (.tup ds) = .tup (ds.map (rG n)):=rfl
@[simp] theorem agH(n v g sz off k:Nat):iB n (.eu v g sz off k) = .eu (v+n) g sz off k:=rfl
@[simp] theorem agK(n v g sz off k:Nat):rG n (.eu v g sz off k) = .eu (v+n) g sz off k:=rfl
@[simp] theorem agJ(n:Nat)(l:List Int):rG n (dI l)=dI l:=by unfold dI;rfl
@[simp] theorem agL(n:Nat)(v:Value):rG n (.val v) = .val v:=rfl
end
instance:Fl eE.cells 8:=⟨fun _=>rfl,fun s=>by simp[eE.cells,eV]⟩
instance:Fl eY.cells 6:=⟨fun _=>rfl,fun s=>by simp[eY.cells,eV]⟩
@[simp] theorem aea(l:List eE)(a b c:List Int)(r q k u:Int)(t:Bool):cl eE.cells l ++ [dI a,dI b,dI c,.i r,.i q,.i k,.i u,.b t]=cl eE.cells (l ++ [⟨⟨a,b,c,r,q⟩,k,u,t⟩]):=by rw[← nc];rfl
@[simp] theorem ad6(l:List eY)(a b c:List Int)(r q:Int)(t:Bool):cl eY.cells l ++ [dI a,dI b,dI c,.i r,.i q,.b t]=cl eY.cells (l ++ [⟨⟨a,b,c,r,q⟩,t⟩]):=by rw[← nc];rfl
@[simp] theorem ajN(s:eE):eE.mk s.p s.kind s.cur s.gO=s:=rfl
@[simp] theorem aia(s:eY):eY.mk s.p s.gO=s:=rfl
attribute [simp] eE.cells eY.cells
theorem Yq{T:fH}{f:FuncId}{args:List D}{dst:Option Nat}{s:St}{K:St→Prop}{fn:eA}{α:Type}{g:α→D}{Q:α→Prop}(h:Wf T f args [] (Ex g Q))(k:∀ r,Q r→K { s with env:=put s.env dst (g r) })
  (hf:T.fn f=some fn:=by exact rfl) (hp:fn.full=false:=by exact rfl) (hc:eV args=true:=by simp) (hx:∀ r,closed (g r)=true:=by intro;simp):eU T f args dst s K .mk:=eU.q hf hp h hc hx k
theorem Yn{T:fH}{f:FuncId}{args:List D}{dst:Option Nat}{s:St}{K:St→Prop}{fn:eA}{d:D}{Hn:et}(h:Wf T f args [] fun d' H'=>d'=d∧H'=Hn)(k:K { s with env:=put s.env dst (iB s.H.length d),H:=s.H++Hn })
  (hf:T.fn f=some fn:=by exact rfl) (hp:fn.full=false:=by exact rfl) (hc:eV args=true:=by simp) (hr:(jX d&&Hn.all kU)=true:=by simp):eU T f args dst s K .mk:=eU.n hf hp h hc hr k
end Go.AL
namespace Go.AL
open Go
def iq(l:List eE):D:=.sl 8 (l.map eE.cells)
def kH(l:List eY):D:=.sl 6 (l.map eY.cells)
@[simp] theorem ajz(l:List eE):D.sl 8 (l.map eE.cells)=iq l:=by unfold iq;rfl
@[simp] theorem ajw(l:List eY):D.sl 6 (l.map eY.cells)=kH l:=by unfold kH;rfl
section
variable{l:List eE}{n:Int}{k:IntKind}{P:D→Prop}{H:et}
@[simp] theorem aew:closed (iq l)=true:=by unfold iq;exact xG l
@[simp] theorem agA:mw .slice (iq l) H=some (.i l.length):=by simp only[iq,MA,List.length_map]
@[simp] theorem aj1(n:Nat):gD n (iq l) = []:=by unfold iq;rfl
@[simp] theorem adM:cellsOf (iq l)=some [iq l]:=by unfold iq;rfl
@[simp] theorem ahr:oA (lE 8 (iq l) (.val (.int k n))) P .mk=((0≤n∧n<l.length)∧P (.eG (gt l n).cells)):=by unfold iq;exact rJ
end
section
variable{l:List eY}{n:Int}{k:IntKind}{P:D→Prop}{H:et}
@[simp] theorem aet:closed (kH l)=true:=by unfold kH;exact xG l
@[simp] theorem agx:mw .slice (kH l) H=some (.i l.length):=by simp only[kH,MA,List.length_map]
@[simp] theorem ajG:jy 6 H (kH l)=some (cl eY.cells l,l.length):=by unfold kH;exact EI ..
@[simp] theorem ajX(n:Nat):gD n (kH l) = []:=by unfold kH;rfl
@[simp] theorem aho:oA (lE 6 (kH l) (.val (.int k n))) P .mk=((0≤n∧n<l.length)∧P (.eG (gt l n).cells)):=by unfold kH;exact rJ
end
@[simp] theorem ajv:D.sl 8 []=iq []:=by unfold iq;rfl
@[simp] theorem aju:D.sl 6 []=kH []:=by unfold kH;rfl
@[simp] theorem afm{ρ:Nat→Option Nat}{H:et}{k:Nat}{t:TypeId}{a b c:List Int}{r q w u:Int}{o:Bool}:lz ρ H (k+1) 8 0 1 (some (t,[dI a,dI b,dI c,.i r,.i q,.i w,.i u,.b o]))=iq [⟨⟨a,b,c,r,q⟩,w,u,o⟩]:=by
 have h:=q9 (f:=eE.cells) (ρ:=ρ) (H:=H) (k:=k) (t:=t) (l:=[⟨⟨a,b,c,r,q⟩,w,u,o⟩]) (n:=1) rfl
 rw[lL]at h
 unfold iq;exact h
def q8(S:List Nat):Nat→et→km
 | _,[]=>[]
 | i,_::r=>(i,!S.contains i)::q8 S (i+1) r
@[simp] theorem ae5(S:List Nat)(i:Nat):q8 S i [] = []:=rfl
@[simp] theorem ae4(S:List Nat)(i:Nat)(o:Ob)(r:et):q8 S i (o::r)=(i,!decide (i∈S))::q8 S (i+1) r:=by
 rw[q8,List.contains_eq_mem]
theorem Qt(H:et)(S:List Nat):jC H S=q8 S 0 H:=by
 have key:∀ (H:et) (i:Nat),(List.range' i H.length).map (fun v=>(v,!(S.contains v)))=q8 S i H:=by
  intro H
  induction H with
  | nil=>intro i;rfl
  | cons o r ih=>intro i;rw[aJ,ct,List.map_cons,ih,q8]
 rw[jC,dj,key]
def FX(env:Env)(H:et)(m:List Nat)(r:Bool)(ks:km):St:={ env:=env.map fun p=>(p.1,eC (fW ks) H 40 p.2),H:=ks.map fun p=>if p.2 then pb (fW ks) H H[p.1]? else .dead,marks:=m,fV:=r }
@[simp] theorem afe(S:List Nat)(env:Env)(H:et)(m:List Nat)(r:Bool):jk S { env:=env,H:=H,marks:=m,fV:=r }=FX env H m r (q8 S 0 H):=by
 unfold jk FX
 rw[Qt]
 rfl
@[simp] theorem afa(env:Env)(H:et)(m:List Nat)(r:Bool)(ks:km):FX env H m r ks = { env:=env.map fun p=>(p.1,eC (fW ks) H 40 p.2),H:=ks.map fun p=>if p.2 then pb (fW ks) H H[p.1]? else .dead,marks:=m,fV:=r }:=rfl
section
variable{T:fH}
def FY(S:List Nat)(T:fH)(b:IR)(K:gp):gp:=fun o=>match o with
 | .norm s=>s.marks = []∧XC T b (jk S s) K
 | o=>K o
@[simp ↓] theorem afc{S:List Nat}{b:IR}{K:gp}{s:St}:FY S T b K (.norm s)=(s.marks = []∧XC T b (jk S s) K):=(rfl)
@[simp ↓] theorem afb{S:List Nat}{b:IR}{K:gp}{id:Nat}{s:St}:FY S T b K (.exit id s)=K (.exit id s):=(rfl)
@[simp ↓] theorem afd{S:List Nat}{b:IR}{K:gp}{s:St}:FY S T b K (.ret s)=K (.ret s):=(rfl)
theorem eF.fz{live:List Nat}{a:IR}{s:St}{K:gp}(S:List Nat)(hm:s.marks = [])(h:eF T live a (jk S s) K .mk):eF T live a s K .mk:=Wc.jk S (by rw[hm];exact T0 _) h
end
theorem MC{g:ey}{s d c:Int}:∀ (n:Nat) (x:Int) (out:List Int),(ox g s d c n x out).length≤out.length+n
 | 0,x,out=>by simp[ox]
 | n+1,x,out=>by
  unfold ox
  split
  ·have:=MC (g:=g) (s:=s) (d:=d) (c:=c) n (jq g s d x) (out ++ [x])
   simp at this;omega
  ·omega
theorem Ho{g:ey}{s d c:Int}:(iW g s d c).length≤10:=by
 have:=MC (g:=g) (s:=s) (d:=d) (c:=c) 10 (jq g s d c) []
 simpa[iW]using this
theorem MD{s:eE}:∀ l:List Int,(me s l).length≤l.length
 | []=>by simp[me]
 | c::r=>by
  have:=MD (s:=s) r
  unfold me
  split<;>simp<;>omega
theorem wO{g:ey}{s:eE}{x:eI}:(gd g s x).length≤10:=by
 have:=MD (s:=s) (iW g s.p.side x.2 s.cur)
 have:=Ho (g:=g) (s:=s.p.side) (d:=x.2) (c:=s.cur)
 unfold gd nS oI
 dsimp only
 repeat' split
 all_goals first|omega|(simp only[aJ,cw];omega)
end Go.AL
namespace Go.Proofs.YtnaefnajkaohgaaGreatDoor
open Go Go.AL Classical
set_option maxRecDepth 10000
set_option maxHeartbeats 1000000
structure mF(a b:List Pos)(i k:Int)(out:List Pos):Prop where
 i0:0≤i∧i≤a.length
 k0:0≤k∧k≤b.length
 len:(out.length:Int)=i+k
 perm:out.Perm (a.take i.toNat++b.take k.toNat)
 ws:WS out
 le:∀ x∈out,∀ y,y∈a.drop i.toNat∨y∈b.drop k.toNat→fG x y≤0
theorem mF.init(a b:List Pos):mF a b 0 0 []:=⟨by omega,by omega,rfl,by simp,by simp[WS],by simp⟩
theorem Oj{a:List Pos}(h:WS a){i:Int}(h0:0≤i)(h1:i<a.length){y:Pos}(hy:y∈a.drop i.toNat):fG (gt a i) y≤0:=by
 have h2:WS (a.drop i.toNat):=dX (List.drop_sublist _ _) h
 rw[kP h0 h1]at hy h2
 rcases ax.1 hy with rfl|hy
 ·rw[oQ];omega
 ·exact(a7.1 h2).1 y hy
theorem T9{α:Type}[Inhabited α]{a:List α}{i:Int}(h0:0≤i)(h1:i<a.length){y:α}:y∈a.drop i.toNat↔y=gt a i∨y∈a.drop (i+1).toNat:=by
 rw[kP h0 h1,ax,show(i+1).toNat=i.toNat+1 by omega]
theorem mF.add{a b:List Pos}{i k:Int}{out:List Pos}(hI:mF a b i k out)(hi:i<a.length)(ha:WS a)(h:∀ y∈b.drop k.toNat,fG (gt a i) y≤0):mF a b (i+1) k (out ++ [gt a i]):=by
 have h0:=hI.i0
 have e:∀ y,y∈a.drop i.toNat↔y=gt a i∨y∈a.drop (i+1).toNat:=fun y=>T9 h0.1 hi
 refine⟨by omega,hI.k0,by have:=hI.len;simp;omega,?_,?_,fun x hx y hy=>?_⟩
 ·rw[gj h0.1 hi,bg]
  refine(hI.perm.append_right _).trans ?_
  rw[bg]
  exact List.Perm.append_left _ dY
 ·refine bF.2 ⟨hI.ws,by simp,fun x hx y hy=>?_⟩
  simp at hy;subst hy
  exact hI.le x hx _ (.inl ((e _).2 (.inl rfl)))
 ·rcases List.mem_append.1 hx with hx|hx
  ·exact hI.le x hx y (hy.imp (fun h=>(e _).2 (.inr h)) id)
  ·simp at hx;subst hx
   rcases hy with hy|hy
   ·exact Oj ha h0.1 hi ((e _).2 (.inr hy))
   ·exact h y hy
theorem mF.swap{a b:List Pos}{i k:Int}{out:List Pos}(hI:mF a b i k out):mF b a k i out:=
 ⟨hI.k0,hI.i0,by have:=hI.len;omega,hI.perm.trans dY,hI.ws,fun x hx y hy=>hI.le x hx y hy.symm⟩
theorem mF.Iy{a b:List Pos}{i k:Int}{out:List Pos}(hI:mF a b i k out)(hi:i<a.length)(ha:WS a)(hb:WS b)(h:k<b.length→fG (gt a i) (gt b k)≤0):mF a b (i+1) k (out ++ [gt a i]):=by
 refine hI.add hi ha fun y hy=>?_
 by_cases hk:k<b.length
 ·exact J5 (h hk) (Oj hb hI.k0.1 hk hy)
 ·rw[aZ (by have:=hI.k0;omega)]at hy;cases hy
theorem mF.N2{a b:List Pos}{i k:Int}{out:List Pos}(hI:mF a b i k out)(hk:k<b.length)(ha:WS a)(hb:WS b)(h:i<a.length→¬ fG (gt a i) (gt b k)≤0):mF a b i (k+1) (out ++ [gt b k]):=by
 refine(hI.swap.Iy hk hb ha fun hi=>?_).swap
 have:=h hi
 rw[pj];omega
theorem f109:∀ (n:Nat) (l:List Pos),l.length=n→l.length<2 ^ 40→(∀ p∈l,Small p)→Wf T 109 [fh l] [] (Ex fh fun r=>r.Perm l∧WS r):=by
 intro n
 induction n using Nat.strongRecOn with
 | ind n ih=>
 intro l hn hl hs
 refine Yg Af ?_
 simp[Af]
 (with_reducible refine Xs ?_ ?_<;>intro h<;>(try intro h')<;>(try simp[h])<;>(try omega))
 ·refine⟨l,rfl,List.Perm.refl _,?_⟩
  unfold WS
  cases l with
  | nil=>simp
  | cons a l=>cases l with
   | nil=>simp
   | cons b l=>simp at h;omega
 ·rw[wE (by omega) (by omega) (by omega)]
  (with_reducible repeat' first|refine Xk ?_<;>try simp|refine Xs ?_ ?_<;>intro h<;>(try intro h')<;>(try simp[h])<;>(try omega)|refine Xg ?_|omega)
  refine Yq (ih (l.length / 2) (by omega) _ (by simp;omega) (by simp;omega) (fun p hp=>hs p (aN hp))) fun a ha=>?_
  simp
  rw[wE (by omega) (by omega) (by omega)]
  (with_reducible repeat' first|refine Xk ?_<;>try simp|refine Xs ?_ ?_<;>intro h<;>(try intro h')<;>(try simp[h])<;>(try omega)|refine Xg ?_|omega)
  refine Yq (ih (l.length-l.length / 2) (by omega) _ (by simp;omega) (by simp;omega) (fun p hp=>hs p (bN (aN hp)))) fun b hb=>?_
  simp
  have la:(a.length:Int)=l.length / 2:=by rw[ha.1.length_eq];simp;omega
  have lb:(b.length:Int)=l.length-l.length / 2:=by rw[hb.1.length_eq];simp;omega
  have sa:∀ p∈a,Small p:=fun p hp=>hs p (aN ((ha.1.mem_iff).1 hp))
  have sb:∀ p∈b,Small p:=fun p hp=>hs p (bN (aN ((hb.1.mem_iff).1 hp)))
  refine eF.j ((0,0,[]):Int×Int×List Pos) (fun x=>[(3,fh a),(4,fh b),(5,.eu 0 x.2.2.length 5 0 x.2.2.length),(6,.i x.1),(7,.i x.2.1)]) (fun x=>[.row 44 x.2.2.length (cl Pos.cells x.2.2)]) (fun x=>mF a b x.1 x.2.1 x.2.2) (fun x=>a.length+b.length-(x.1+x.2.1).toNat) ?_ (by simp) (by first|rfl|simp) rfl ?_
  ·exact mF.init a b
  rintro⟨i,k,out⟩ hI
  have h0:=hI.i0
  have h1:=hI.k0
  have h2:=hI.len
  dsimp only at hI h0 h1 h2 ⊢
  simp
  (with_reducible repeat' first|refine Xk ?_<;>try simp|refine Xs ?_ ?_<;>intro h<;>(try intro h')<;>(try simp[h])<;>(try omega)|refine Xg ?_|omega)
  ·exact⟨i+1,k,_,by simp,rfl,rfl,by simp,rfl,by omega,hI.Iy (by assumption) ha.2 hb.2 fun h=>by omega⟩
  ·refine Yt (f50 _ _ (sa _ (eH (by omega) (by omega))) (sb _ (eH (by omega) (by omega)))) ?_
   simp[*]
   (with_reducible repeat' first|refine Xk ?_<;>try simp|refine Xs ?_ ?_<;>intro h<;>(try intro h')<;>(try simp[h])<;>(try omega)|refine Xg ?_|omega)
   ·exact⟨i+1,k,_,by simp,rfl,rfl,by simp,rfl,by omega,hI.Iy (by assumption) ha.2 hb.2 fun _=>by assumption⟩
   ·exact⟨i,k+1,_,by simp,rfl,rfl,by simp,rfl,by omega,hI.N2 (by omega) ha.2 hb.2 fun _=>by assumption⟩
  ·exact⟨i,k+1,_,by simp,rfl,rfl,by simp,rfl,by omega,hI.N2 (by omega) ha.2 hb.2 fun _=>by omega⟩
  ·refine⟨out,rfl,?_,hI.ws⟩
   have e1:=hI.perm
   rw[iH (by omega),iH (by omega)]at e1
   refine e1.trans ((List.Perm.append ha.1 hb.1).trans ?_)
   have e2:(l.drop (↑l.length / 2:Int).toNat).take (l.length-(↑l.length / 2:Int).toNat)=l.drop (↑l.length / 2:Int).toNat:=aG (by rw[bk];exact Nat.le_refl _)
   rw[e2,bK]
structure p6(a:List Pos)(i:Int)(out:List Pos):Prop where
 i0:0≤i∧i≤a.length
 len:(out.length:Int)≤i
 mem:∀ q,q∈out↔q∈a.take i.toNat
 st:out.Pairwise fun x y=>fG x y<0
theorem p6.init(a:List Pos):p6 a 0 []:=⟨by omega,by simp,by simp,by simp⟩
theorem Ol{a:List Pos}(h:WS a){j:Int}(h0:0≤j)(h1:j<a.length){x:Pos}(hx:x∈a.take (j+1).toNat):fG x (gt a j)≤0:=by
 have h2:WS (a.take (j+1).toNat):=dX (List.take_sublist _ _) h
 rw[gj h0 h1]at hx h2
 rcases List.mem_append.1 hx with hx|hx
 ·exact(bF.1 h2).2.2 x hx _ (by simp)
 ·simp at hx;subst hx;rw[oQ];omega
theorem p6.skip{a:List Pos}{i:Int}{out:List Pos}(hI:p6 a i out)(hi:i<a.length)(h1:i≠0)(h:gt a i=gt a (i-1)):p6 a (i+1) out:=by
 have h0:=hI.i0
 refine⟨by omega,by have:=hI.len;omega,fun q=>?_,hI.st⟩
 rw[hI.mem,gj h0.1 hi,List.mem_append,List.mem_singleton]
 refine⟨.inl,fun hq=>hq.elim id fun hq=>?_⟩
 rw[hq,h]
 have:=gj (l:=a) (n:=i-1) (by omega) (by omega)
 rw[show i-1+1=i by omega]at this
 rw[this];simp
theorem p6.add{a:List Pos}{i:Int}{out:List Pos}(hI:p6 a i out)(hi:i<a.length)(ha:WS a)(h:i=0∨gt a i≠gt a (i-1)):p6 a (i+1) (out ++ [gt a i]):=by
 have h0:=hI.i0
 refine⟨by omega,by have:=hI.len;simp;omega,fun q=>?_,bF.2 ⟨hI.st,by simp,fun x hx y hy=>?_⟩⟩
 ·rw[List.mem_append,hI.mem,gj h0.1 hi,List.mem_append]
 ·simp at hy;subst hy
  have hx:=(hI.mem x).1 hx
  rcases h with rfl|h
  ·simp at hx
  ·by_cases hz:i=0
   ·subst hz;simp at hx
   have e1:=Ol ha (j:=i-1) (by omega) (by omega) (x:=x) (by rw[show i-1+1=i by omega];exact hx)
   have e2:=Ol ha h0.1 hi (x:=gt a (i-1)) (by
    have:=gj (l:=a) (n:=i-1) (by omega) (by omega)
    rw[show i-1+1=i by omega]at this
    rw[gj h0.1 hi,this];simp)
   have e3:fG (gt a (i-1)) (gt a i)≠0:=fun e=>h (mI.1 e).symm
   by_cases e4:fG x (gt a (i-1))=0
   ·rw[mI.1 e4];omega
   ·exact sr (show fG x (gt a (i-1))<0 by omega) (by omega)
theorem aad{r:List Pos}(h:r.Pairwise fun x y=>fG x y<0):iI r:=by
 intro i h1 h2
 rw[lP (by omega) (by omega),lP (by omega) (by omega)]
 exact bj.1 h _ _ _ _ (by omega)
theorem f61(l:List Pos)(hl:l.length<2 ^ 40)(hs:∀ p∈l,Small p):Wf T 61 [fh l] [] (Ex fh fun r=>iI r∧r.length≤l.length∧∀ q,q∈r↔q∈l):=by
 refine Yg BR ?_
 simp[BR]
 refine Yq (f109 _ l rfl hl hs) fun a ha=>?_
 simp
 have la:a.length=l.length:=ha.1.length_eq
 have sa:∀ p∈a,Small p:=fun p hp=>hs p (ha.1.mem_iff.1 hp)
 refine eF.j ((0,[]):Int×List Pos) (fun x=>[(3,fh a),(4,.eu 0 x.2.length 5 0 x.2.length),(5,.i x.1)]) (fun x=>[.row 44 x.2.length (cl Pos.cells x.2)]) (fun x=>p6 a x.1 x.2) (fun x=>a.length-x.1.toNat) ?_ (by simp) (by first|rfl|simp) rfl ?_
 ·exact p6.init a
 rintro⟨i,out⟩ hI
 have h0:=hI.i0
 have h1:=hI.len
 dsimp only at hI h0 h1 ⊢
 simp
 (with_reducible repeat' first|refine Xk ?_<;>try simp|refine Xs ?_ ?_<;>intro h<;>(try intro h')<;>(try simp[h])<;>(try omega)|refine Xg ?_|omega)
 ·exact⟨1,_,by simp,rfl,by simp,rfl,by omega,by subst h;exact hI.add (by assumption) ha.2 (.inl rfl)⟩
 ·refine Yt (f110 _ _ (sa _ (eH (by omega) (by omega))) (sa _ (eH (by omega) (by omega)))) ?_
  simp
  (with_reducible repeat' first|refine Xk ?_<;>try simp|refine Xs ?_ ?_<;>intro h<;>(try intro h')<;>(try simp[h])<;>(try omega)|refine Xg ?_|omega)
  ·exact⟨i+1,_,rfl,rfl,rfl,rfl,by omega,hI.skip (by assumption) (by assumption) (by assumption)⟩
  ·exact⟨i+1,_,by simp,rfl,by simp,rfl,by omega,hI.add (by assumption) ha.2 (.inr (by assumption))⟩
 ·refine⟨out,rfl,aad hI.st,by omega,fun q=>?_⟩
  rw[hI.mem,iH (by omega),ha.1.mem_iff]
end Go.Proofs.YtnaefnajkaohgaaGreatDoor
namespace Go.AL
open Go
def Hj(H:et)(d:D)(ks:km):D×et:=(eC (fW ks) H 40 d,ks.map fun p=>if p.2 then pb (fW ks) H H[p.1]? else .dead)
@[simp] theorem ags(H:et)(d:D)(ks:km):Hj H d ks=(eC (fW ks) H 40 d,ks.map fun p=>if p.2 then pb (fW ks) H H[p.1]? else .dead):=rfl
def wz(own n:Nat)(H:et)(d:D):List Nat:=match own with|0=>[]|1=>wA n d|3=>((fD H 40 d).filter (n≤·)).take 1|_=>(fD H 40 d).filter (n≤·)
@[simp] theorem aib(n:Nat)(H:et)(d:D):wz 0 n H d = []:=rfl
@[simp] theorem aic(n:Nat)(H:et)(d:D):wz 1 n H d=wA n d:=rfl
@[simp] theorem aid(n:Nat)(H:et)(d:D):wz 2 n H d=(fD H 40 d).filter (n≤·):=rfl
@[simp] theorem aie(n:Nat)(H:et)(d:D):wz 3 n H d=((fD H 40 d).filter (n≤·)).take 1:=rfl
@[simp low] theorem DT{own n:Nat}{H:et}{d:D}(h:¬ H.length≤n):leave own n H d=Hj H d (gx n (dedup ((wz own n H d++((H.take n).map (lU n)).flatten).filter (· < H.length)))):=by
 unfold leave Hj wz
 rw[if_neg h]
 rfl
@[simp] theorem aif(n v g sz len:Nat):wA n (.eu v g sz 0 len)=if n≤v then [v]else []:=rfl
theorem zt{H:et}{k:Nat}{d:D}(h:closed d=true):fD H k d = []:=by
 cases k with
 | zero=>rfl
 | succ k=>unfold fD;exact if_pos h
theorem zu{H:et}{k:Nat}{cs:List D}(h:eV cs=true):(cs.map (fD H k)).flatten = []:=by
 induction cs with
 | nil=>rfl
 | cons d r ih=>
  simp only[eV,ah]at h
  simp[zt h.1,ih h.2]
@[simp] theorem aiw{H:et}{k:Nat}{d:D}(h:closed d=true):fD H k d = []:=zt h
@[simp] theorem aiv(H:et)(k:Nat)(cs:List D):fD H (k+1) (.agg cs)=(cs.map (fD H k)).flatten:=by
 by_cases h:closed (.agg cs)=true
 ·rw[zt h,zu (by simpa using h)]
 ·rw[fD,if_neg h]
@[simp] theorem aiB(H:et)(k:Nat)(cs:List D):fD H (k+1) (.tup cs)=(cs.map (fD H k)).flatten:=by
 by_cases h:closed (.tup cs)=true
 ·rw[zt h,zu (by simpa using h)]
 ·rw[fD,if_neg h]
def wG(H:et)(k:Nat):Option Ob→List Nat
 | some (.row _ _ cs)=>(cs.map (fD H k)).flatten
 | _=>[]
@[simp] theorem aiD(H:et)(k t g:Nat)(cs:List D):wG H k (some (.row t g cs))=(cs.map (fD H k)).flatten:=rfl
@[simp] theorem aiC(H:et)(k:Nat)(kk:KK)(es:List (Value×D)):wG H k (some (.map kk es)) = []:=rfl
theorem Nt(H:et)(k v:Nat):(match rowsOf H v with|some (_,_,cs)=>(cs.map (fD H k)).flatten|none=>[])=wG H k H[v]? := by
 unfold rowsOf wG
 cases h:H[v]? with
 | none=>rfl
 | some o=>cases o<;>rfl
@[simp] theorem aiy(H:et)(k v g sz off n:Nat):fD H (k+1) (.eu v g sz off n)=v::wG H k H[v]? := by
 rw[fD,if_neg (by simp)]
 exact congrArg _ (Nt H k v)
@[simp] theorem aiz(H:et)(k v g off:Nat):fD H (k+1) (.ptr v g off)=v::wG H k H[v]? := by
 rw[fD,if_neg (by simp)]
 exact congrArg _ (Nt H k v)
@[simp] theorem aiA{H:et}{k:Nat}{α:Type}{f:α→List D}{sz:Nat}[F:Fl f sz](l:List α):((cl f l).map (fD H k)).flatten = []:=zu (qb l)
@[simp low] theorem afh{ρ:Nat→Option Nat}{H:et}{k sz:Nat}{t:TypeId}{cs:List D}(h:cs.length=sz):lz ρ H k sz 0 1 (some (t,cs)) = .sl sz [cs.map (eC ρ H k)]:=by
 subst h
 unfold lz
 simp[chunks,aG]
@[simp] theorem ajA{a b c:List Int}{r q w u:Int}{o:Bool}:D.sl 8 [[dI a,dI b,dI c,.i r,.i q,.i w,.i u,.b o]]=iq [⟨⟨a,b,c,r,q⟩,w,u,o⟩]:=by unfold iq;rfl
end Go.AL
namespace Go.Proofs.YtnaefnajkaohgaaGreatDoor
open Go Go.AL Classical
set_option maxRecDepth 10000
set_option maxHeartbeats 1000000
theorem C1(p:Pos)(hp:Small p):Wf T 155 [dP p] [] (fun d H=>d = .agg [.eu 0 1 1 0 p.cs.length,.eu 1 1 1 0 p.h0.length,.eu 2 1 1 0 p.h1.length,.i p.eR,.i p.side]∧H = [.row 3 1 (cl f1 p.cs),.row 3 1 (cl f1 p.h0),.row 3 1 (cl f1 p.h1)]):=by
 obtain⟨h1,h2,h3⟩:=hp
 refine Wf.xo 2 (fn:=rS) rfl (by simp[rS]) ?_
 simp[rS]
 (with_reducible repeat' first|refine Xk ?_<;>try simp|refine Xs ?_ ?_<;>intro h<;>(try intro h')<;>(try simp[h])<;>(try omega)|refine Xg ?_|omega)
 all_goals trace_state
theorem f250(a b:eE)(ha:Small a.p)(hb:Small b.p):Wf T 250 [.agg a.cells,.agg b.cells] [] (Is (.b (decide (a=b)))):=by
 have e:(a=b)↔a.p=b.p∧a.kind=b.kind∧a.cur=b.cur∧a.gO=b.gO:=by cases a;cases b;simp
 have e2:decide (a=b)=decide (a.p=b.p∧a.kind=b.kind∧a.cur=b.cur∧a.gO=b.gO):=decide_eq_decide.2 e
 rw[e2]
 refine Yg Bq ?_
 simp[Bq]
 (with_reducible repeat' first|refine Xk ?_<;>try simp|refine Xs ?_ ?_<;>intro h<;>(try intro h')<;>(try simp[h])<;>(try omega)|refine Xg ?_|omega)
 ·refine Yc (f50 _ _ ha hb) ?_
  simp
  simp_all [mI]
 all_goals (intros;simp_all)
theorem f252(s:eE)(b:Bool):Wf T 252 [.agg s.cells,.b b] [] (Is (iq (if b then [s]else []))):=by
 refine Yg Bs ?_
 simp[Bs]
 (with_reducible repeat' first|refine Xk ?_<;>try simp|refine Xs ?_ ?_<;>intro h<;>(try intro h')<;>(try simp[h])<;>(try omega)|refine Xg ?_|omega)
def yS(a b:eY):Prop:=fG a.p b.p<0∨(fG a.p b.p=0∧a.gO=false∧b.gO=true)
theorem f229(a b:eY)(ha:Small a.p)(hb:Small b.p):Wf T 229 [.agg a.cells,.agg b.cells] [] (Is (.b (decide (yS a b)))):=by
 refine Yg Bj ?_
 simp[Bj]
 refine Yc (f50 _ _ ha hb) ?_
 simp
 (with_reducible repeat' first|refine Xk ?_<;>try simp|refine Xs ?_ ?_<;>intro h<;>(try intro h')<;>(try simp[h])<;>(try omega)|refine Xg ?_|omega)
 all_goals by_cases hc:fG a.p b.p<0<;>simp[*,yS]at *
theorem f263(g:ey)(hg:kT g)(s d c:Int):Wf T 263 [g.gH,.i s,.i d,.i c] [] (Is (dI (iW g s d c))):=by
 have hb:=hg.size
 refine Yg Bx ?_
 simp[Bx]
 refine Yc (f251 g hg s d c) ?_
 simp
 refine eF.j ((0,jq g s d c,[]):Nat×Int×List Int) (fun x=>[(1,.i s),(2,.i d),(3,.i c),(4,.ptr 0 0 0),(9,.eu 1 x.2.2.length 1 0 x.2.2.length),(10,.i x.2.1)]) (fun x=>[.row 37 0 [.i g.size,.sl 1 (g.next.map fI),dI g.gE],.row 3 x.2.2.length (cl f1 x.2.2)]) (fun x=>x.1=x.2.2.length∧x.2.1<g.size∧x.2.2.Nodup∧(∀ y∈x.2.2,0≤y∧y<g.size)∧iW g s d c=ox g s d c (10-x.1) x.2.1 x.2.2) (fun x=>10-x.1) ?_ (by simp) (by first|rfl|simp) rfl ?_
 ·have:=hg.to s d c
  simp[iW];omega
 rintro⟨m,x,out⟩ ⟨h0,h1,h2,h3,h4⟩
 dsimp only at h0 h1 h2 h3 h4 ⊢
 have hm:out.length≤9:=zc 9 out h2 (fun y hy=>by have:=h3 y hy;omega)
 have e:=h4
 rw[show 10-m=(9-m)+1 by omega,ox]at e
 simp
 (with_reducible repeat' first|refine Xk ?_<;>try simp|refine Xs ?_ ?_<;>intro h<;>(try intro h')<;>(try simp[h])<;>(try omega)|refine Xg ?_|omega)
 ·rw[e,if_neg (by omega)]
 ·refine eU.r rfl rfl (f25 out x (by omega)) (by simp) rfl (by simp) ?_
  simp
  (with_reducible repeat' first|refine Xk ?_<;>try simp|refine Xs ?_ ?_<;>intro h<;>(try intro h')<;>(try simp[h])<;>(try omega)|refine Xg ?_|omega)
  ·rw[e,if_neg (by rintro⟨_,_,hh⟩;exact hh ‹_›)]
  ·refine Yc (f251 g hg s d x) ?_
   simp
   refine⟨out.length+1,_,out ++ [x],by simp,rfl,by simp,rfl,by omega,by simp,(hg.to _ _ _).2,?_,?_,?_⟩
   ·rw[cm]
    refine⟨h2,by simp,fun y hy z hz=>?_⟩
    simp at hz
    subst hz
    intro e3
    subst e3
    exact absurd hy ‹_›
   ·intro y hy
    simp at hy
    rcases hy with hy|rfl
    ·exact h3 y hy
    ·omega
   ·rw[e,if_pos ⟨by omega,by omega,by assumption⟩,h0,show 9-out.length=10-(out.length+1)by omega]
 ·rw[e,if_neg (by omega)]
