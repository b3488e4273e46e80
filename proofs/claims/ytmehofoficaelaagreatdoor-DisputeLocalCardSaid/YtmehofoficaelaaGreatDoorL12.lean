/- Part 12 of DisputeLocal. -/
import Derived.Test.YtmehofoficaelaaGreatDoorL11
set_option linter.all false
namespace Go.Proofs.YtmehofoficaelaaGreatDoor
open Go Go.AL Classical
set_option maxRecDepth 10000
set_option maxHeartbeats 1000000
def f64(l:List Pos)(hl:l.length<2 ^ 40)(hs:∀ p∈l,Small p):Wf T 83 [gA l] [] (Is (.b (decide (kc l)))):=by
 refine Yg FV ?_
 simp[FV]
 refine fh.j (1:Int) (fun i=>[(0,gA l),(3,.i i)]) (fun _=>_) (fun i=>1≤i∧(i≤l.length∨i=1)∧∀ k:Int,1≤k→k<i→gR (gt l (k-1)) (gt l k)<0) (fun i=>l.length-i.toNat) ?_ (by simp) (by first|rfl|simp) rfl ?_
 ·simp;omega
 rintro i ⟨h0,h1,h2⟩
 simp
 (with_reducible repeat' first|refine Xk ?_<;>try simp|refine Xs ?_ ?_<;>intro h<;>(try intro h')<;>(try simp[h])<;>try omega|refine Xg ?_|omega)
 ·skip
  refine Yt (f50 (gt l (i-1)) (gt l i) (hs _ (ft (by omega) (by omega))) (hs _ (ft (by omega) (by omega)))) ?_
  simp
  (with_reducible repeat' first|refine Xk ?_<;>try simp|refine Xs ?_ ?_<;>intro h<;>(try intro h')<;>(try simp[h])<;>try omega|refine Xg ?_|omega)
  ·intro hc;have:=hc i h0 ‹_›;omega
  ·intro k hk kL
   by_cases e:k=i
   ·subst e;omega
   ·exact h2 k hk (by omega)
 ·intro k hk kL
  exact h2 k hk (by omega)
def f27(l:List Pos)(p:Pos)(hl:l.length<2 ^ 40)(hs:∀ p∈l,Small p)(hp:Small p)(vS:kc l):Wf T 86 [gA l,dP p] [] (Is (.i (od l p))):=by
 refine Yg FD ?_
 simp[FD]
 refine fh.j ((0,(l.length:Int)):Int×Int) (fun x=>[(0,gA l),(3,.ptr 0 0 0),(5,.i x.1),(6,.i x.2)]) (fun _=>[.row 46 0 p.cells]) (fun x=>0≤x.1∧x.1≤x.2∧x.2≤l.length∧∀ k:Int,0≤k→k<l.length→gt l k=p→x.1≤k∧k<x.2) (fun x=>(x.2-x.1).toNat) ?_ (by simp) rfl rfl ?_
 ·simp;omega
 rintro⟨a,b⟩ ⟨h0,h1,h2,h3⟩
 simp at h0 h1 h2 h3
 simp
 (with_reducible repeat' first|refine Xk ?_<;>try simp|refine Xs ?_ ?_<;>intro h<;>(try intro h')<;>(try simp[h])<;>try omega|refine Xg ?_|omega)
 ·rw[uO (by omega) (by omega) (by omega)]
  (with_reducible repeat' first|refine Xk ?_<;>try simp|refine Xs ?_ ?_<;>intro h<;>(try intro h')<;>(try simp[h])<;>try omega|refine Xg ?_|omega)
  refine Yt (f50 p (gt l ((a+b) / 2)) hp (hs _ (ft (by omega) (by omega)))) ?_
  simp
  (with_reducible repeat' first|refine Xk ?_<;>try simp|refine Xs ?_ ?_<;>intro h<;>(try intro h')<;>(try simp[h])<;>try omega|refine Xg ?_|omega)
  ·rw[pe]at h
   rw[h,WD vS (by omega) (by omega)]
  ·have gi:∀ k:Int,(a+b) / 2≤k→k<l.length→gt l k≠p:=fun k hk kL e=>by
    by_cases e2:k=(a+b) / 2
    ·subst e2;rw[e,q6]at h;omega
    ·have:=vp h (vS.le (by omega) (show(a+b) / 2<k by omega) kL)
     rw[e,q6]at this;omega
   intro k hk kL e
   have:=h3 k hk kL e
   by_cases KX:(a+b) / 2≤k
   ·exact absurd e (gi k KX kL)
   ·omega
  ·have h6:gR (gt l ((a+b) / 2)) p<0:=by rw[rO];omega
   have gi:∀ k:Int,0≤k→k≤(a+b) / 2→gt l k≠p:=fun k hk kL e=>by
    by_cases e2:k=(a+b) / 2
    ·subst e2;rw[e,q6]at h6;omega
    ·have:=vp (vS.le hk (show k<(a+b) / 2 by omega) (by omega)) h6
     rw[e,q6]at this;omega
   intro k hk kL e
   have:=h3 k hk kL e
   by_cases KX:k≤(a+b) / 2
   ·exact absurd e (gi k hk KX)
   ·omega
 ·rw[PM]
  intro hm
  obtain⟨k,hk,kL,e⟩:=z8.1 hm
  have:=h3 k hk kL e
  omega
def f111(g:eY)(l:List Int)(hg:gh g)(hl:pD g l):Wf T 138 [dG g,dI l] [] (Is (.b true)):=by
 have hk:=hg.kinds
 have hn:=hl.len
 refine Yg DX ?_
 simp[DX]
 (with_reducible repeat' first|refine Xk ?_<;>try simp|refine Xs ?_ ?_<;>intro h<;>(try intro h')<;>(try simp[h])<;>try omega|refine Xg ?_|omega)
 refine fh.j (0:Int) (fun i=>[(1,dI l),(2,.ptr 0 0 0),(5,.i i)]) (fun i=>[.row 43 0 g.cells]) (fun i=>0≤i∧i≤l.length) (fun i=>l.length-i.toNat) ?_ (by simp) (by first|rfl|simp) rfl ?_
 ·simp
 rintro i ⟨h0,h1⟩
 simp
 (with_reducible refine Xs ?_ ?_<;>intro h<;>(try intro h')<;>(try simp[h])<;>(try omega))
 ·have h2:=hl.at_ i h0 ‹_›
  (with_reducible repeat' first|refine Xk ?_<;>try simp|refine Xs ?_ ?_<;>intro h<;>(try intro h')<;>(try simp[h])<;>try omega|refine Xg ?_|omega)
  have:=h2.2.2
  all_goals simp_all
  all_goals omega
def f65(g:eY)(p:Pos)(hg:gh g)(hp:gG g p):Wf T 84 [dG g,dP p] [] (Is (.b true)):=by
 have hk:=hg.kinds
 have hr:=hg.fH
 have h1:=hp.size
 have h2:=hp.fH
 have h3:=hp.side
 have hb:=hg.iY.size
 have h4:=MX hr.1 (by omega)
 refine Yg FX ?_
 simp[FX,h1]
 refine Yt (f111 g _ hg hp.h0) ?_
 simp[h1]
 refine Yt (f111 g _ hg hp.h1) ?_
 simp[h1]
 (with_reducible repeat' first|refine Xk ?_<;>try simp[h4]|refine Xs ?_ ?_<;>intro h<;>(try intro h')<;>(try simp[h,h4])<;>try omega|refine Xg ?_|omega)
 refine fh.j (0:Int) (fun i=>[(2,.ptr 0 0 0),(3,.ptr 1 0 0),(5,.i i)]) (fun i=>[.row 43 0 g.cells,.row 46 0 p.cells]) (fun i=>0≤i∧i≤p.cs.length) (fun i=>p.cs.length-i.toNat) ?_ (by simp) (by first|rfl|simp) rfl ?_
 ·simp
 rintro i ⟨h0,h5⟩
 simp
 (with_reducible refine Xs ?_ ?_<;>intro h<;>(try intro h')<;>(try simp[h])<;>(try omega))
 have h4:=hp.cs _ (ft h0 ‹_›)
 (with_reducible repeat' first|refine Xk ?_<;>try simp|refine Xs ?_ ?_<;>intro h<;>(try intro h')<;>(try simp[h])<;>try omega|refine Xg ?_|omega)
end Go.Proofs.YtmehofoficaelaaGreatDoor
namespace Go.AL
open Go
def Ex{α:Type}(g:α→D)(Q:α→Prop):D→U→Prop:=fun d H=>∃ r,d=g r∧H = []∧Q r
@[simp] theorem ag1{α:Type}(g:α→D)(Q:α→Prop)(d:D)(H:U):Ex g Q d H = ∃ r,d=g r∧H = []∧Q r:=(rfl)
section
variable{T:gP}{f:FuncId}{args mZ:List D}{dst:Option Nat}{s:St}{K:St→Prop}{fn:eV}
def fG.q{α:Type}{g:α→D}{Q:α→Prop}(hf:T.fn f=some fn)(hp:fn.full=false)(h:Wf T f args [] (Ex g Q))
  (hc:fE args=true) (hx:∀ r,closed (g r)=true) (k:∀ r,Q r→K { s with env:=put s.env dst (g r) }):fG T f args dst s K .mk:=by
 refine fG.is hf hp (K0:=Ex g Q) ?_ ?_
 ·have e0:args.map (e7 (fun _=>none) s.H 40)=args:=by
   conv=>rhs;rw[← aY args]
   exact au fun d hd=>ow (lO hc d hd)
  rw[e0];exact h
 ·rintro d Hn ⟨r,rfl,rfl,hr⟩
  obtain⟨k1,k2⟩:=Bi (H:=s.H) (hx r)
  refine⟨{ s with env:=put s.env dst (g r) },?_,k r hr⟩
  unfold after
  rw[if_pos hc,k1,k2]
  simp
def aek{d:D}(hx:flat d=true)(_:closed d=true):np d=true:=(J7 (H:=[]) hx).1
def fG.rq{α:Type}{g:α→D}{Q:α→Prop}(hf:T.fn f=some fn)(hp:fn.full=false)(h:Wf T f mZ [] (Ex g Q))
  (hs:args.map (e7 (fun _=>none) s.H 40)=mZ) (hx:∀ r,flat (g r)=true) (kD:∀ r,closed (g r)=true) (k:∀ r,Q r→K { s with env:=put s.env dst (g r) }):fG T f args dst s K .mk:=by
 refine fG.is hf hp (K0:=Ex g Q) (by rw[hs];exact h) ?_
 rintro d Hn ⟨r,rfl,rfl,hr⟩
 obtain⟨k1,k2⟩:=Bi (H:=s.H) (kD r)
 refine⟨{ s with env:=put s.env dst (g r) },?_,k r hr⟩
 unfold after
 rw[aek (hx r) (kD r),k1,k2]
 simp
end
section
variable{T:gP}{f:FuncId}{args:List D}{dst:Option Nat}{s:St}{K:St→Prop}{fn:eV}
def fG.n{d:D}{Hn:U}(hf:T.fn f=some fn)(hp:fn.full=false)(h:Wf T f args [] fun d' H'=>d'=d∧H'=Hn)
  (hc:fE args=true) (hr:(lU d&&Hn.all mL)=true) (k:K { s with env:=put s.env dst (jK s.H.length d),H:=s.H++Hn }):fG T f args dst s K .mk:=by
 refine fG.is hf hp (K0:=fun d' H'=>d'=d∧H'=Hn) ?_ ?_
 ·have e0:args.map (e7 (fun _=>none) s.H 40)=args:=by
   conv=>rhs;rw[← aY args]
   exact au fun d hd=>ow (lO hc d hd)
  rw[e0];exact h
 ·rintro d' Gf ⟨rfl,rfl⟩
  refine⟨_,?_,k⟩
  unfold after
  rw[if_pos hc,if_pos hr]
def sO.n{R:List Fp}{Q:Rc→St→Prop}{d:D}{ob:Ob}(hf:T.fn f=some fn)(hp:fn.full=false)(h:Wf T f args [] fun d' H'=>d'=d∧H' = [ob])
  (hc:fE args=true) (hr:(lU d&&mL ob)=true) (k:Q ⟨R,[(s.H.length,none)]⟩ { s with env:=put s.env dst (jK s.H.length d),H:=s.H ++ [ob] }):qX T f args R dst s Q .mk:=by
 have e0:args.map (e7 (fun _=>none) s.H 40)=args:=by
  conv=>rhs;rw[← aY args]
  exact au fun d hd=>ow (lO hc d hd)
 exact .inl (.inr ⟨fn,d,ob,hf,hp,by rw[e0];exact h,by rw[if_pos hc];exact hr,k⟩)
theorem sO.c{R:List Fp}{Q:Rc→St→Prop}{x:D}(hf:T.fn f=some fn)(hp:fn.full=false)(h:Wf T f args [] fun d H'=>d=x∧H' = [])
  (hc:fE args=true) (hx:closed x=true) (k:Q ⟨R,[]⟩ { s with env:=put s.env dst x }):qX T f args R dst s Q .mk:=.inl (.inl (iC.c hf hp h hc hx k))
def qX.z{mZ:List D}{R:List Fp}{Q:Rc→St→Prop}{d:D}(v:Nat)(hf:T.fn f=some fn)(hp:fn.full=false)(h:Wf T f mZ [] (Is d))(hs:args.map (e7 (fun _=>none) s.H 40)=mZ)
  (hr:(args.map (gX s.H 40)).flatten = [v]) (gH:(rowsOf s.H v).isSome=true) (hc:fE mZ=true) (hx:closed d=true) (k:Q ⟨R,[(v,none)]⟩ { s with env:=put s.env dst d,H:=s.H.set v .dead }):qX T f args R dst s Q .mk:=
 .inr ⟨fn,d,v,hf,hp,by rw[hr];simp,by rw[hr];simp,gH,by rw[hs];exact hc,by rw[hs];exact h,hx,k⟩
@[simp] theorem aoE(ds:List D):lU (.agg ds)=ds.all (uL closed):=rfl
@[simp] theorem aoG(ds:List D):lU (.tup ds)=ds.all (uL closed):=rfl
@[simp] theorem aoF(v g sz off n:Nat):lU (.eX v g sz off n)=true:=rfl
@[simp] theorem aou(p:D→Bool)(v g sz off n:Nat):uL p (.eX v g sz off n)=true:=rfl
@[simp] theorem aot(l:List Int):uL closed (dI l)=true:=by show closed (dI l)=true;simp
@[simp] theorem aov(v:Value):uL closed (.val v)=true:=by show closed (.val v)=true;simp
@[simp] theorem akN(t g:Nat)(cs:List D):mL (.row t g cs)=fE cs:=rfl
@[simp] theorem anj(n:Nat)(ds:List D):jK n (.agg ds) = .agg (ds.map (uH n)):=rfl
@[simp] theorem anl(n:Nat)(ds:List D):jK n (.tup ds) = .tup (ds.map (uH n)):=rfl
@[simp] theorem ank(n v g sz off k:Nat):jK n (.eX v g sz off k) = .eX (v+n) g sz off k:=rfl
@[simp] theorem ann(n v g sz off k:Nat):uH n (.eX v g sz off k) = .eX (v+n) g sz off k:=rfl
@[simp] theorem anm(n:Nat)(l:List Int):uH n (dI l)=dI l:=by unfold dI;rfl
@[simp] theorem ano(n:Nat)(v:Value):uH n (.val v) = .val v:=rfl
end
instance:Fl fg.cells 8:=⟨fun _=>rfl,fun s=>by simp[fg.cells,fE]⟩
instance:Fl fV.cells 6:=⟨fun _=>rfl,fun s=>by simp[fV.cells,fE]⟩
@[simp] theorem akF(l:List fg)(a b c:List Int)(r q k u:Int)(t:Bool):cl fg.cells l ++ [dI a,dI b,dI c,.i r,.i q,.i k,.i u,.b t]=cl fg.cells (l ++ [⟨⟨a,b,c,r,q⟩,k,u,t⟩]):=by rw[← oR];rfl
@[simp] theorem akB(l:List fV)(a b c:List Int)(r q:Int)(t:Bool):cl fV.cells l ++ [dI a,dI b,dI c,.i r,.i q,.b t]=cl fV.cells (l ++ [⟨⟨a,b,c,r,q⟩,t⟩]):=by rw[← oR];rfl
@[simp] theorem aqC(s:fg):fg.mk s.p s.kind s.cur s.jb=s:=rfl
@[simp] theorem aoW(s:fV):fV.mk s.p s.jb=s:=rfl
attribute [simp] fg.cells fV.cells
def Yq{T:gP}{f:FuncId}{args:List D}{dst:Option Nat}{s:St}{K:St→Prop}{fn:eV}{α:Type}{g:α→D}{Q:α→Prop}(h:Wf T f args [] (Ex g Q))(k:∀ r,Q r→K { s with env:=put s.env dst (g r) })
  (hf:T.fn f=some fn:=by exact rfl) (hp:fn.full=false:=by exact rfl) (hc:fE args=true:=by simp) (hx:∀ r,closed (g r)=true:=by intro;simp):fG T f args dst s K .mk:=fG.q hf hp h hc hx k
def Yn{T:gP}{f:FuncId}{args:List D}{dst:Option Nat}{s:St}{K:St→Prop}{fn:eV}{d:D}{Hn:U}(h:Wf T f args [] fun d' H'=>d'=d∧H'=Hn)(k:K { s with env:=put s.env dst (jK s.H.length d),H:=s.H++Hn })
  (hf:T.fn f=some fn:=by exact rfl) (hp:fn.full=false:=by exact rfl) (hc:fE args=true:=by simp) (hr:(lU d&&Hn.all mL)=true:=by simp):fG T f args dst s K .mk:=fG.n hf hp h hc hr k
end Go.AL
namespace Go.AL
open Go
def jH(l:List fg):D:=.sl 8 (l.map fg.cells)
def mD(l:List fV):D:=.sl 6 (l.map fV.cells)
@[simp] theorem aqi(l:List fg):D.sl 8 (l.map fg.cells)=jH l:=by unfold jH;rfl
@[simp] theorem aqf(l:List fV):D.sl 6 (l.map fV.cells)=mD l:=by unfold mD;rfl
section
variable{l:List fg}{n:Int}{k:IntKind}{P:D→Prop}{H:U}
@[simp] theorem ak1:closed (jH l)=true:=by unfold jH;exact zh l
@[simp] theorem anc:oj .slice (jH l) H=some (.i l.length):=by simp only[jH,RD,List.length_map]
@[simp] theorem aqR(n:Nat):iH n (jH l) = []:=by unfold jH;rfl
@[simp] theorem aki:cellsOf (jH l)=some [jH l]:=by unfold jH;rfl
@[simp] theorem aob:oA (mz 8 (jH l) (.val (.int k n))) P .mk=((0≤n∧n<l.length)∧P (.fj (gt l n).cells)):=by unfold jH;exact uK
end
section
variable{l:List fV}{n:Int}{k:IntKind}{P:D→Prop}{H:U}
@[simp] theorem akY:closed (mD l)=true:=by unfold mD;exact zh l
@[simp] theorem am9:oj .slice (mD l) H=some (.i l.length):=by simp only[mD,RD,List.length_map]
@[simp] theorem aqt:j' 6 H (mD l)=some (cl fV.cells l,l.length):=by unfold mD;exact Ap ..
@[simp] theorem aqN(n:Nat):iH n (mD l) = []:=by unfold mD;rfl
@[simp] theorem an8:oA (mz 6 (mD l) (.val (.int k n))) P .mk=((0≤n∧n<l.length)∧P (.fj (gt l n).cells)):=by unfold mD;exact uK
end
@[simp] theorem aqd:D.sl 8 []=jH []:=by unfold jH;rfl
@[simp] theorem aqc:D.sl 6 []=mD []:=by unfold mD;rfl
@[simp] theorem alS{ρ:Nat→Option Nat}{H:U}{k:Nat}{t:TypeId}{a b c:List Int}{r q w u:Int}{o:Bool}:lQ ρ H (k+1) 8 0 1 (some (t,[dI a,dI b,dI c,.i r,.i q,.i w,.i u,.b o]))=jH [⟨⟨a,b,c,r,q⟩,w,u,o⟩]:=by
 have h:=sY (f:=fg.cells) (ρ:=ρ) (H:=H) (k:=k) (t:=t) (l:=[⟨⟨a,b,c,r,q⟩,w,u,o⟩]) (n:=1) rfl
 rw[nI]at h
 unfold jH;exact h
def tZ(S:List Nat):Nat→U→mi
 | _,[]=>[]
 | i,_::r=>(i,!S.contains i)::tZ S (i+1) r
@[simp] theorem alC(S:List Nat)(i:Nat):tZ S i [] = []:=rfl
@[simp] theorem alB(S:List Nat)(i:Nat)(o:Ob)(r:U):tZ S i (o::r)=(i,!decide (i∈S))::tZ S (i+1) r:=by
 rw[tZ,List.contains_eq_mem]
def WL(H:U)(S:List Nat):lB H S=tZ S 0 H:=by
 have key:∀ (H:U) (i:Nat),(List.range' i H.length).map (fun v=>(v,!(S.contains v)))=tZ S i H:=by
  intro H
  induction H with
  | nil=>intro i;rfl
  | cons o r ih=>intro i;rw[aO,cd,List.map_cons,ih,tZ]
 rw[lB,cY,key]
def Ka(env:Env)(H:U)(m:List Nat)(r:Bool)(ks:mi):St:={ env:=env.map fun p=>(p.1,e7 (ic ks) H 40 p.2),H:=ks.map fun p=>if p.2 then rD (ic ks) H H[p.1]? else .dead,marks:=m,gZ:=r }
@[simp] theorem alM(S:List Nat)(env:Env)(H:U)(m:List Nat)(r:Bool):kX S { env:=env,H:=H,marks:=m,gZ:=r }=Ka env H m r (tZ S 0 H):=by
 unfold kX Ka
 rw[WL]
 rfl
@[simp] theorem alI(env:Env)(H:U)(m:List Nat)(r:Bool)(ks:mi):Ka env H m r ks = { env:=env.map fun p=>(p.1,e7 (ic ks) H 40 p.2),H:=ks.map fun p=>if p.2 then rD (ic ks) H H[p.1]? else .dead,marks:=m,gZ:=r }:=rfl
section
variable{T:gP}
def Kb(S:List Nat)(T:gP)(b:IR)(K:iv):iv:=fun o=>match o with
 | .norm s=>s.marks = []∧XC T b (kX S s) K
 | o=>K o
@[simp ↓] theorem alK{S:List Nat}{b:IR}{K:iv}{s:St}:Kb S T b K (.norm s)=(s.marks = []∧XC T b (kX S s) K):=(rfl)
@[simp ↓] theorem alJ{S:List Nat}{b:IR}{K:iv}{id:Nat}{s:St}:Kb S T b K (.exit id s)=K (.exit id s):=(rfl)
@[simp ↓] theorem alL{S:List Nat}{b:IR}{K:iv}{s:St}:Kb S T b K (.ret s)=K (.ret s):=(rfl)
theorem fh.fz{live:List Nat}{a:IR}{s:St}{K:iv}(S:List Nat)(hm:s.marks = [])(h:fh T live a (kX S s) K .mk):fh T live a s K .mk:=Wc.kX S (by rw[hm];exact Z9 _) h
end
theorem RF{g:eY}{s d c:Int}:∀ (n:Nat) (x:Int) (out:List Int),(qG g s d c n x out).length≤out.length+n
 | 0,x,out=>by simp[qG]
 | n+1,x,out=>by
  unfold qG
  split
  ·have:=RF (g:=g) (s:=s) (d:=d) (c:=c) n (lg g s d x) (out ++ [x])
   simp at this;omega
  ·omega
def LU{g:eY}{s d c:Int}:(kE g s d c).length≤10:=by
 have:=RF (g:=g) (s:=s) (d:=d) (c:=c) 10 (lg g s d c) []
 simpa[kE]using this
theorem RG{s:fg}:∀ l:List Int,(oI s l).length≤l.length
 | []=>by simp[oI]
 | c::r=>by
  have:=RG (s:=s) r
  unfold oI
  split<;>simp<;>omega
def As{g:eY}{s:fg}{x:fe}:(im g s x).length≤10:=by
 have:=RG (s:=s) (kE g s.p.side x.2 s.cur)
 have:=LU (g:=g) (s:=s.p.side) (d:=x.2) (c:=s.cur)
 unfold im qo qO
 dsimp only
 repeat' split
 all_goals first|omega|(simp only[aO,cO];omega)
end Go.AL
namespace Go.Proofs.YtmehofoficaelaaGreatDoor
open Go Go.AL Classical
set_option maxRecDepth 10000
set_option maxHeartbeats 1000000
structure pb(a b:List Pos)(i k:Int)(out:List Pos):Prop where
 i0:0≤i∧i≤a.length
 k0:0≤k∧k≤b.length
 len:(out.length:Int)=i+k
 perm:out.Perm (a.take i.toNat++b.take k.toNat)
 ws:WS out
 le:∀ x∈out,∀ y,y∈a.drop i.toNat∨y∈b.drop k.toNat→gR x y≤0
def pb.init(a b:List Pos):pb a b 0 0 []:=⟨by omega,by omega,rfl,by simp,by simp[WS],by simp⟩
def TY{a:List Pos}(h:WS a){i:Int}(h0:0≤i)(h1:i<a.length){y:Pos}(hy:y∈a.drop i.toNat):gR (gt a i) y≤0:=by
 have h2:WS (a.drop i.toNat):=eH (List.drop_sublist _ _) h
 rw[mM h0 h1]at hy h2
 rcases av.1 hy with rfl|hy
 ·rw[q6];omega
 ·exact(bj.1 h2).1 y hy
def aag{α:Type}[Inhabited α]{a:List α}{i:Int}(h0:0≤i)(h1:i<a.length){y:α}:y∈a.drop i.toNat↔y=gt a i∨y∈a.drop (i+1).toNat:=by
 rw[mM h0 h1,av,show(i+1).toNat=i.toNat+1 by omega]
def pb.add{a b:List Pos}{i k:Int}{out:List Pos}(hI:pb a b i k out)(hi:i<a.length)(ha:WS a)(h:∀ y∈b.drop k.toNat,gR (gt a i) y≤0):pb a b (i+1) k (out ++ [gt a i]):=by
 have h0:=hI.i0
 have e:∀ y,y∈a.drop i.toNat↔y=gt a i∨y∈a.drop (i+1).toNat:=fun y=>aag h0.1 hi
 refine⟨by omega,hI.k0,by have:=hI.len;simp;omega,?_,?_,fun x hx y hy=>?_⟩
 ·rw[iD h0.1 hi,aZ]
  refine(hI.perm.append_right _).trans ?_
  rw[aZ]
  exact List.Perm.append_left _ eI
 ·refine bK.2 ⟨hI.ws,by simp,fun x hx y hy=>?_⟩
  simp at hy;subst hy
  exact hI.le x hx _ (.inl ((e _).2 (.inl rfl)))
 ·rcases List.mem_append.1 hx with hx|hx
  ·exact hI.le x hx y (hy.imp (fun h=>(e _).2 (.inr h)) id)
  ·simp at hx;subst hx
   rcases hy with hy|hy
   ·exact TY ha h0.1 hi ((e _).2 (.inr hy))
   ·exact h y hy
def pb.swap{a b:List Pos}{i k:Int}{out:List Pos}(hI:pb a b i k out):pb b a k i out:=
 ⟨hI.k0,hI.i0,by have:=hI.len;omega,hI.perm.trans eI,hI.ws,fun x hx y hy=>hI.le x hx y hy.symm⟩
def pb.M7{a b:List Pos}{i k:Int}{out:List Pos}(hI:pb a b i k out)(hi:i<a.length)(ha:WS a)(hb:WS b)(h:k<b.length→gR (gt a i) (gt b k)≤0):pb a b (i+1) k (out ++ [gt a i]):=by
 refine hI.add hi ha fun y hy=>?_
 by_cases hk:k<b.length
 ·exact OY (h hk) (TY hb hI.k0.1 hk hy)
 ·rw[bh (by have:=hI.k0;omega)]at hy;cases hy
def pb.Tq{a b:List Pos}{i k:Int}{out:List Pos}(hI:pb a b i k out)(hk:k<b.length)(ha:WS a)(hb:WS b)(h:i<a.length→¬ gR (gt a i) (gt b k)≤0):pb a b i (k+1) (out ++ [gt b k]):=by
 refine(hI.swap.M7 hk hb ha fun hi=>?_).swap
 have:=h hi
 rw[rO];omega
def f109:∀ (n:Nat) (l:List Pos),l.length=n→l.length<2 ^ 40→(∀ p∈l,Small p)→Wf T 161 [gA l] [] (Ex gA fun r=>r.Perm l∧WS r):=by
 intro n
 induction n using Nat.strongRecOn with
 | ind n ih=>
 intro l hn hl hs
 refine Yg DU ?_
 simp[DU]
 (with_reducible refine Xs ?_ ?_<;>intro h<;>(try intro h')<;>(try simp[h])<;>(try omega))
 ·refine⟨l,rfl,List.Perm.refl _,?_⟩
  unfold WS
  cases l with
  | nil=>simp
  | cons a l=>cases l with
   | nil=>simp
   | cons b l=>simp at h;omega
 ·rw[uO (by omega) (by omega) (by omega)]
  (with_reducible repeat' first|refine Xk ?_<;>try simp|refine Xs ?_ ?_<;>intro h<;>(try intro h')<;>(try simp[h])<;>try omega|refine Xg ?_|omega)
  refine Yq (ih (l.length / 2) (by omega) _ (by simp;omega) (by simp;omega) (fun p hp=>hs p (aN hp))) fun a ha=>?_
  simp
  rw[uO (by omega) (by omega) (by omega)]
  (with_reducible repeat' first|refine Xk ?_<;>try simp|refine Xs ?_ ?_<;>intro h<;>(try intro h')<;>(try simp[h])<;>try omega|refine Xg ?_|omega)
  refine Yq (ih (l.length-l.length / 2) (by omega) _ (by simp;omega) (by simp;omega) (fun p hp=>hs p (bp (aN hp)))) fun b hb=>?_
  simp
  have la:(a.length:Int)=l.length / 2:=by rw[ha.1.length_eq];simp;omega
  have lb:(b.length:Int)=l.length-l.length / 2:=by rw[hb.1.length_eq];simp;omega
  have sa:∀ p∈a,Small p:=fun p hp=>hs p (aN ((ha.1.mem_iff).1 hp))
  have sb:∀ p∈b,Small p:=fun p hp=>hs p (bp (aN ((hb.1.mem_iff).1 hp)))
  refine fh.j ((0,0,[]):Int×Int×List Pos) (fun x=>[(3,gA a),(4,gA b),(5,.eX 0 x.2.2.length 5 0 x.2.2.length),(6,.i x.1),(7,.i x.2.1)]) (fun x=>[.row 46 x.2.2.length (cl Pos.cells x.2.2)]) (fun x=>pb a b x.1 x.2.1 x.2.2) (fun x=>a.length+b.length-(x.1+x.2.1).toNat) ?_ (by simp) (by first|rfl|simp) rfl ?_
  ·exact pb.init a b
  rintro⟨i,k,out⟩ hI
  have h0:=hI.i0
  have h1:=hI.k0
  have h2:=hI.len
  dsimp only at hI h0 h1 h2 ⊢
  simp
  (with_reducible repeat' first|refine Xk ?_<;>try simp|refine Xs ?_ ?_<;>intro h<;>(try intro h')<;>(try simp[h])<;>try omega|refine Xg ?_|omega)
  ·exact⟨i+1,k,_,by simp,rfl,rfl,by simp,rfl,by omega,hI.M7 (by assumption) ha.2 hb.2 fun h=>by omega⟩
  ·refine Yt (f50 _ _ (sa _ (ft (by omega) (by omega))) (sb _ (ft (by omega) (by omega)))) ?_
   simp[*]
   (with_reducible repeat' first|refine Xk ?_<;>try simp|refine Xs ?_ ?_<;>intro h<;>(try intro h')<;>(try simp[h])<;>try omega|refine Xg ?_|omega)
   ·exact⟨i+1,k,_,by simp,rfl,rfl,by simp,rfl,by omega,hI.M7 (by assumption) ha.2 hb.2 fun _=>by assumption⟩
   ·exact⟨i,k+1,_,by simp,rfl,rfl,by simp,rfl,by omega,hI.Tq (by omega) ha.2 hb.2 fun _=>by assumption⟩
  ·exact⟨i,k+1,_,by simp,rfl,rfl,by simp,rfl,by omega,hI.Tq (by omega) ha.2 hb.2 fun _=>by omega⟩
  ·refine⟨out,rfl,?_,hI.ws⟩
   have e1:=hI.perm
   rw[ky (by omega),ky (by omega)]at e1
   refine e1.trans ((List.Perm.append ha.1 hb.1).trans ?_)
   have e2:(l.drop (↑l.length / 2:Int).toNat).take (l.length-(↑l.length / 2:Int).toNat)=l.drop (↑l.length / 2:Int).toNat:=ai (by rw[aX];exact Nat.le_refl _)
   rw[e2,bI]
structure sM(a:List Pos)(i:Int)(out:List Pos):Prop where
 i0:0≤i∧i≤a.length
 len:(out.length:Int)≤i
 mem:∀ q,q∈out↔q∈a.take i.toNat
 st:out.Pairwise fun x y=>gR x y<0
def sM.init(a:List Pos):sM a 0 []:=⟨by omega,by simp,by simp,by simp⟩
def TZ{a:List Pos}(h:WS a){j:Int}(h0:0≤j)(h1:j<a.length){x:Pos}(hx:x∈a.take (j+1).toNat):gR x (gt a j)≤0:=by
 have h2:WS (a.take (j+1).toNat):=eH (List.take_sublist _ _) h
 rw[iD h0 h1]at hx h2
 rcases List.mem_append.1 hx with hx|hx
 ·exact(bK.1 h2).2.2 x hx _ (by simp)
 ·simp at hx;subst hx;rw[q6];omega
def sM.skip{a:List Pos}{i:Int}{out:List Pos}(hI:sM a i out)(hi:i<a.length)(h1:i≠0)(h:gt a i=gt a (i-1)):sM a (i+1) out:=by
 have h0:=hI.i0
 refine⟨by omega,by have:=hI.len;omega,fun q=>?_,hI.st⟩
 rw[hI.mem,iD h0.1 hi,List.mem_append,List.mem_singleton]
 refine⟨.inl,fun hq=>hq.elim id fun hq=>?_⟩
 rw[hq,h]
 have:=iD (l:=a) (n:=i-1) (by omega) (by omega)
 rw[show i-1+1=i by omega]at this
 rw[this];simp
def sM.add{a:List Pos}{i:Int}{out:List Pos}(hI:sM a i out)(hi:i<a.length)(ha:WS a)(h:i=0∨gt a i≠gt a (i-1)):sM a (i+1) (out ++ [gt a i]):=by
 have h0:=hI.i0
 refine⟨by omega,by have:=hI.len;simp;omega,fun q=>?_,bK.2 ⟨hI.st,by simp,fun x hx y hy=>?_⟩⟩
 ·rw[List.mem_append,hI.mem,iD h0.1 hi,List.mem_append]
 ·simp at hy;subst hy
  have hx:=(hI.mem x).1 hx
  rcases h with rfl|h
  ·simp at hx
  ·by_cases hz:i=0
   ·subst hz;simp at hx
   have e1:=TZ ha (j:=i-1) (by omega) (by omega) (x:=x) (by rw[show i-1+1=i by omega];exact hx)
   have e2:=TZ ha h0.1 hi (x:=gt a (i-1)) (by
    have:=iD (l:=a) (n:=i-1) (by omega) (by omega)
    rw[show i-1+1=i by omega]at this
    rw[iD h0.1 hi,this];simp)
   have e3:gR (gt a (i-1)) (gt a i)≠0:=fun e=>h (pe.1 e).symm
   by_cases e4:gR x (gt a (i-1))=0
   ·rw[pe.1 e4];omega
   ·exact vp (show gR x (gt a (i-1))<0 by omega) (by omega)
def agt{r:List Pos}(h:r.Pairwise fun x y=>gR x y<0):kc r:=by
 intro i h1 h2
 rw[kl (by omega) (by omega),kl (by omega) (by omega)]
 exact bq.1 h _ _ _ _ (by omega)
def f61(l:List Pos)(hl:l.length<2 ^ 40)(hs:∀ p∈l,Small p):Wf T 101 [gA l] [] (Ex gA fun r=>kc r∧r.length≤l.length∧∀ q,q∈r↔q∈l):=by
 refine Yg FU ?_
 simp[FU]
 refine Yq (f109 _ l rfl hl hs) fun a ha=>?_
 simp
 have la:a.length=l.length:=ha.1.length_eq
 have sa:∀ p∈a,Small p:=fun p hp=>hs p (ha.1.mem_iff.1 hp)
 refine fh.j ((0,[]):Int×List Pos) (fun x=>[(3,gA a),(4,.eX 0 x.2.length 5 0 x.2.length),(5,.i x.1)]) (fun x=>[.row 46 x.2.length (cl Pos.cells x.2)]) (fun x=>sM a x.1 x.2) (fun x=>a.length-x.1.toNat) ?_ (by simp) (by first|rfl|simp) rfl ?_
 ·exact sM.init a
 rintro⟨i,out⟩ hI
 have h0:=hI.i0
 have h1:=hI.len
 dsimp only at hI h0 h1 ⊢
 simp
 (with_reducible repeat' first|refine Xk ?_<;>try simp|refine Xs ?_ ?_<;>intro h<;>(try intro h')<;>(try simp[h])<;>try omega|refine Xg ?_|omega)
 ·exact⟨1,_,by simp,rfl,by simp,rfl,by omega,by subst h;exact hI.add (by assumption) ha.2 (.inl rfl)⟩
 ·refine Yt (f110 _ _ (sa _ (ft (by omega) (by omega))) (sa _ (ft (by omega) (by omega)))) ?_
  simp
  (with_reducible repeat' first|refine Xk ?_<;>try simp|refine Xs ?_ ?_<;>intro h<;>(try intro h')<;>(try simp[h])<;>try omega|refine Xg ?_|omega)
  ·exact⟨i+1,_,rfl,rfl,rfl,rfl,by omega,hI.skip (by assumption) (by assumption) (by assumption)⟩
  ·exact⟨i+1,_,by simp,rfl,by simp,rfl,by omega,hI.add (by assumption) ha.2 (.inr (by assumption))⟩
 ·refine⟨out,rfl,agt hI.st,by omega,fun q=>?_⟩
  rw[hI.mem,ky (by omega),ha.1.mem_iff]
end Go.Proofs.YtmehofoficaelaaGreatDoor
namespace Go.AL
open Go
def LP(H:U)(d:D)(ks:mi):D×U:=(e7 (ic ks) H 40 d,ks.map fun p=>if p.2 then rD (ic ks) H H[p.1]? else .dead)
@[simp] theorem am2(H:U)(d:D)(ks:mi):LP H d ks=(e7 (ic ks) H 40 d,ks.map fun p=>if p.2 then rD (ic ks) H H[p.1]? else .dead):=rfl
def Ad(own n:Nat)(H:U)(d:D):List Nat:=match own with|0=>[]|1=>Ae n d|3=>((gX H 40 d).filter (n≤·)).take 1|_=>(gX H 40 d).filter (n≤·)
@[simp] theorem aoX(n:Nat)(H:U)(d:D):Ad 0 n H d = []:=rfl
@[simp] theorem aoY(n:Nat)(H:U)(d:D):Ad 1 n H d=Ae n d:=rfl
@[simp] theorem aoZ(n:Nat)(H:U)(d:D):Ad 2 n H d=(gX H 40 d).filter (n≤·):=rfl
@[simp] theorem ao0(n:Nat)(H:U)(d:D):Ad 3 n H d=((gX H 40 d).filter (n≤·)).take 1:=rfl
@[simp low] theorem ZN{own n:Nat}{H:U}{d:D}(h:¬ H.length≤n)(h4:¬ own=4):leave own n H d=LP H d (iF n (dedup ((Ad own n H d++((H.take n).map (oo n)).flatten).filter (· < H.length)))):=by
 unfold leave LP Ad
 rw[if_neg (by omega)]
 rfl
@[simp] theorem ao1(n v g sz len:Nat):Ae n (.eX v g sz 0 len)=if n≤v then [v]else []:=rfl
theorem MC{H:U}{k:Nat}{d:D}(h:closed d=true):gX H k d = []:=by
 cases k with
 | zero=>rfl
 | succ k=>unfold gX;exact if_pos h
def SN{H:U}{k:Nat}{cs:List D}(h:fE cs=true):(cs.map (gX H k)).flatten = []:=by
 induction cs with
 | nil=>rfl
 | cons d r ih=>
  simp only[fE,ah]at h
  simp[MC h.1,ih h.2]
@[simp] theorem api{H:U}{k:Nat}{d:D}(h:closed d=true):gX H k d = []:=MC h
@[simp] theorem apg(H:U)(k:Nat)(cs:List D):gX H (k+1) (.agg cs)=(cs.map (gX H k)).flatten:=by
 by_cases h:closed (.agg cs)=true
 ·rw[MC h,SN (by simpa using h)]
 ·rw[gX,if_neg h]
def C5(H:U)(k:Nat):Option Ob→List Nat
 | some (.row _ _ cs)=>(cs.map (gX H k)).flatten
 | _=>[]
@[simp] theorem apm(H:U)(k t g:Nat)(cs:List D):C5 H k (some (.row t g cs))=(cs.map (gX H k)).flatten:=rfl
@[simp] theorem apl(H:U)(k:Nat)(kk:KK)(es:List (Value×D)):C5 H k (some (.map kk es)) = []:=rfl
theorem afq(H:U)(k v:Nat):(match rowsOf H v with|some (_,_,cs)=>(cs.map (gX H k)).flatten|none=>[])=C5 H k H[v]? := by
 unfold rowsOf C5
 cases h:H[v]? with
 | none=>rfl
 | some o=>cases o<;>rfl
@[simp] theorem apj(H:U)(k v g sz off n:Nat):gX H (k+1) (.eX v g sz off n)=v::C5 H k H[v]? := by
 rw[gX,if_neg (by simp)]
 exact congrArg _ (afq H k v)
@[simp] theorem apk{H:U}{k:Nat}{α:Type}{f:α→List D}{sz:Nat}[F:Fl f sz](l:List α):((cl f l).map (gX H k)).flatten = []:=SN (sQ l)
@[simp low] theorem Kd{ρ:Nat→Option Nat}{H:U}{k sz:Nat}{t:TypeId}{cs:List D}(h:cs.length=sz):lQ ρ H k sz 0 1 (some (t,cs)) = .sl sz [cs.map (e7 ρ H k)]:=by
 subst h
 unfold lQ
 simp[chunks,ai]
@[simp] theorem aqj{a b c:List Int}{r q w u:Int}{o:Bool}:D.sl 8 [[dI a,dI b,dI c,.i r,.i q,.i w,.i u,.b o]]=jH [⟨⟨a,b,c,r,q⟩,w,u,o⟩]:=by unfold jH;rfl
end Go.AL
namespace Go.Proofs.YtmehofoficaelaaGreatDoor
open Go Go.AL Classical
set_option maxRecDepth 10000
set_option maxHeartbeats 1000000
def G7(p:Pos)(hp:Small p):Wf T 205 [dP p] [] (fun d H=>d = .agg [.eX 0 1 1 0 p.cs.length,.eX 1 1 1 0 p.h0.length,.eX 2 1 1 0 p.h1.length,.i p.fH,.i p.side]∧H = [.row 3 1 (cl f1 p.cs),.row 3 1 (cl f1 p.h0),.row 3 1 (cl f1 p.h1)]):=by
 obtain⟨h1,h2,h3⟩:=hp
 refine Wf.xo 2 (fn:=u5) rfl (by simp[u5]) ?_
 simp[u5]
 (with_reducible repeat' first|refine Xk ?_<;>try simp|refine Xs ?_ ?_<;>intro h<;>(try intro h')<;>(try simp[h])<;>try omega|refine Xg ?_|omega)
 all_goals trace_state
def f250(a b:fg)(ha:Small a.p)(hb:Small b.p):Wf T 294 [.agg a.cells,.agg b.cells] [] (Is (.b (decide (a=b)))):=by
 have e:(a=b)↔a.p=b.p∧a.kind=b.kind∧a.cur=b.cur∧a.jb=b.jb:=by cases a;cases b;simp
 have e2:decide (a=b)=decide (a.p=b.p∧a.kind=b.kind∧a.cur=b.cur∧a.jb=b.jb):=decide_eq_decide.2 e
 rw[e2]
 refine Yg Fu ?_
 simp[Fu]
 (with_reducible repeat' first|refine Xk ?_<;>try simp|refine Xs ?_ ?_<;>intro h<;>(try intro h')<;>(try simp[h])<;>try omega|refine Xg ?_|omega)
 ·refine Yc (f50 _ _ ha hb) ?_
  simp
  simp_all [pe]
 all_goals (intros;simp_all)
def f252(s:fg)(b:Bool):Wf T 296 [.agg s.cells,.b b] [] (Is (jH (if b then [s]else []))):=by
 refine Yg Fw ?_
 simp[Fw]
 (with_reducible repeat' first|refine Xk ?_<;>try simp|refine Xs ?_ ?_<;>intro h<;>(try intro h')<;>(try simp[h])<;>try omega|refine Xg ?_|omega)
def CF(a b:fV):Prop:=gR a.p b.p<0∨(gR a.p b.p=0∧a.jb=false∧b.jb=true)
def f229(a b:fV)(ha:Small a.p)(hb:Small b.p):Wf T 285 [.agg a.cells,.agg b.cells] [] (Is (.b (decide (CF a b)))):=by
 refine Yg Fj ?_
 simp[Fj]
 refine Yc (f50 _ _ ha hb) ?_
 simp
 (with_reducible repeat' first|refine Xk ?_<;>try simp|refine Xs ?_ ?_<;>intro h<;>(try intro h')<;>(try simp[h])<;>try omega|refine Xg ?_|omega)
 all_goals by_cases hc:gR a.p b.p<0<;>simp[*,CF]at *
def f263(g:eY)(hg:mY g)(s d c:Int):Wf T 321 [g.iY,.i s,.i d,.i c] [] (Is (dI (kE g s d c))):=by
 have hb:=hg.size
 refine Yg FB ?_
 simp[FB]
 refine Yc (f251 g hg s d c) ?_
 simp
 refine fh.j ((0,lg g s d c,[]):Nat×Int×List Int) (fun x=>[(1,.i s),(2,.i d),(3,.i c),(4,.ptr 0 0 0),(9,.eX 1 x.2.2.length 1 0 x.2.2.length),(10,.i x.2.1)]) (fun x=>[.row 39 0 [.i g.size,.sl 1 (g.next.map fI),dI g.iT],.row 3 x.2.2.length (cl f1 x.2.2)]) (fun x=>x.1=x.2.2.length∧x.2.1<g.size∧x.2.2.Nodup∧(∀ y∈x.2.2,0≤y∧y<g.size)∧kE g s d c=qG g s d c (10-x.1) x.2.1 x.2.2) (fun x=>10-x.1) ?_ (by simp) (by first|rfl|simp) rfl ?_
 ·have:=hg.to s d c
  simp[kE];omega
 rintro⟨m,x,out⟩ ⟨h0,h1,h2,h3,h4⟩
 dsimp only at h0 h1 h2 h3 h4 ⊢
 have hm:out.length≤9:=Im 9 out h2 (fun y hy=>by have:=h3 y hy;omega)
 have e:=h4
 rw[show 10-m=(9-m)+1 by omega,qG]at e
 simp
 (with_reducible repeat' first|refine Xk ?_<;>try simp|refine Xs ?_ ?_<;>intro h<;>(try intro h')<;>(try simp[h])<;>try omega|refine Xg ?_|omega)
 ·rw[e,if_neg (by omega)]
 ·refine fG.r rfl rfl (f25 out x (by omega)) (by simp) rfl (by simp) ?_
  simp
  (with_reducible repeat' first|refine Xk ?_<;>try simp|refine Xs ?_ ?_<;>intro h<;>(try intro h')<;>(try simp[h])<;>try omega|refine Xg ?_|omega)
  ·rw[e,if_neg (by rintro⟨_,_,hh⟩;exact hh ‹_›)]
  ·refine Yc (f251 g hg s d x) ?_
   simp
   refine⟨out.length+1,_,out ++ [x],by simp,rfl,by simp,rfl,by omega,by simp,(hg.to _ _ _).2,?_,?_,?_⟩
   ·rw[cT]
    refine⟨h2,by simp,fun y hy z hz=>?_⟩
    simp at hz
    subst hz
    intro e3
    subst e3
    exact absurd hy ‹_›
   ·intro y hy
    simp at hy
    rcases hy with hy|rfl
    ·exact h3 y hy
    ·omega
   ·rw[e,if_pos (ql (by assumption)),h0,show 9-out.length=10-(out.length+1)by omega]
 ·rw[e,if_neg (by omega)]
