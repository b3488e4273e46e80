/- 12 -/
import Derived.Test.YtnaefnajkaohgaaGreatDoorH11
set_option linter.all false
namespace Go.Proofs.YtnaefnajkaohgaaGreatDoor
open Go Go.AL Classical
set_option maxRecDepth 10000
set_option maxHeartbeats 1000000
def aas{n:Int}{k:Nat}(h0:0≤n)(h1:n≤2*k)(hk:k≤2):fm n<0↔n=0:=by
 unfold fm;split<;>omega
def aat{n s:Int}(h:0≤fm n)(hs:0≤s∧s≤1):iU n=1-s↔¬ iU n=s:=by
 unfold fm at h
 unfold iU
 split at h
 ·rename_i e;rw[if_pos e];omega
 ·omega
def Ma{n s:Int}(h:¬ 0≤fm n)(hs:0≤s∧s≤1):¬ iU n=1-s∧¬ iU n=s:=by
 unfold fm at h
 unfold iU
 split at h
 ·omega
 ·rename_i e;rw[if_neg e];omega
def f228(g:eH)(hg:fe g)(s:eU)(hs:jk g s)(x:eO)(hx:A7 g x):Wf T 228 [dG g,.agg s.cells,.agg [.i x.1,.i x.2]] [] (Is (jv (gY g s x))):=by
 have gH:=hs.p.size
 have nN:=hs.cur
 have jB:=hs.p.small hg
 have ht:=hg.iw.to s.p.side x.2 s.cur
 have im:=hs.p.cs _ (eQ nN.1 (by omega))
 have ik:=hs.p.side
 have hk:=aas im.1 im.2 hg.kinds.2
 have hr:=hs.p.ff
 have rH:=hg.ff
 have lJ:=hx.ok
 refine Yg E7 ?_
 simp[E7]
 (with_reducible repeat' first|refine Xk ?_<;>try simp|refine Xs ?_ ?_<;>intro h<;>(try intro h')<;>(try simp[h])<;>try omega|refine Xg ?_|omega)
 refine Yc (f51 _) ?_
 simp
 (with_reducible repeat' first|refine Xk ?_<;>try simp|refine Xs ?_ ?_<;>intro h<;>(try intro h')<;>(try simp[h])<;>try omega|refine Xg ?_|omega)
 ·refine Yc (f251 g hg.iw s.p.side x.2 s.cur) ?_
  simp
  refine Yc (f252 { s with cur:=kZ g s.p.side x.2 s.cur } _) ?_
  simp
  simp[gY,h]
 ·refine Yc (f253 g hg s hs x.2) ?_
  simp
  simp[gY,h]
 ·refine Yc (f252 s _) ?_
  simp
  simp[gY,h,hk]
 ·refine Yc (f252 s _) ?_
  simp
  have h1:=aat (by assumption) ik
  simp[gY, *]
 ·refine Yc (f252 s _) ?_
  simp
  have h1:=Ma (by assumption) ik
  simp[gY, *]
 ·refine Yc (f252 s _) ?_
  simp
  simp[gY, *]
 ·refine Yc (f252 s _) ?_
  simp
  have h1:=Ma (by assumption) ik
  simp[gY, *]
 ·refine Yc (f254 g hg s hs) ?_
  simp
  simp[gY, *]
 ·refine Yc (f255 g hg s hs x.2) ?_
  simp
  simp[gY, *]
 ·simp[gY, *]
 ·refine Yt (f252 s _) ?_
  simp
  have h2:=Af rH.1
  have h3:=Sz (r:=s.p.ff) (n:=x.2) hr.1 (by omega) (by omega) (by omega)
  simp[gY,h3, *]
 ·have h2:=Af rH.1
  have h3:=SA (r:=s.p.ff) (n:=x.2) hr.1 (by omega) (by omega) (by omega)
  simp[gY,h3, *]
def k6(a:List eU):List eU→List eU
 | []=>a
 | x::r=>k6 (if x∈a then a else a ++ [x]) r
theorem A9:∀ {b a:List eU} {x:eU},x∈k6 a b↔x∈a∨x∈b
 | [],a,x=>by simp[k6]
 | y::r,a,x=>by
  unfold k6
  rw[A9]
  split<;>simp
  ·constructor
   ·rintro(h|h)<;>simp[h]
   ·rintro(h|rfl|h)<;>simp[*]
  ·constructor
   ·rintro((h|h)|h)<;>simp[h]
   ·rintro(h|rfl|h)<;>simp[*]
theorem A8:∀ {b a:List eU},(k6 a b).length≤a.length+b.length
 | [],a=>by simp[k6]
 | y::r,a=>by
  unfold k6
  refine Nat.le_trans A8 ?_
  split<;>simp<;>omega
def af1{H:U}{v:Nat}{o:Ob}(h:H[v]? = some o):H=H.set v o:=by
 refine bP fun i=>?_
 rw[bO]
 split
 ·rename_i e;subst e;rw[if_pos (Rq h),h]
 ·rfl
def GH.of{H:U}{v:Nat}{o:Ob}(hv:H[v]? = some o)(hH:q8 H.length H):GH H v:=⟨Rq hv,hH⟩
def f227(v gen:Nat)(a b:List eU)(H:U)(hv:H[v]? = some (.row 282 gen (cl eU.cells a)))(hH:q8 H.length H)(ha:∀ s∈a,Small s.p)(hb:∀ s∈b,Small s.p)(hl:a.length+b.length<2 ^ 39):Wf T 227 [.eF v gen 8 0 a.length,jv b] H (fun d H'=>∃ Hq,d = .eF v Hq 8 0 (k6 a b).length∧H'=H.set v (.row 282 Hq (cl eU.cells (k6 a b)))):=by
 have hg:=GH.of hv hH
 have iY:=hg.lt
 refine Yg E6 ?_
 simp[E6]
 refine eN.j ((0,gen,a):Int×Nat×List eU) (fun x=>[(0,.eF v x.2.1 8 0 x.2.2.length),(1,jv b),(5,.i x.1)]) (fun x=>H.set v (.row 282 x.2.1 (cl eU.cells x.2.2))) (fun x=>0≤x.1∧x.1≤b.length∧x.2.2.length≤a.length+x.1.toNat∧(∀ s∈x.2.2,Small s.p)∧k6 x.2.2 (b.drop x.1.toNat)=k6 a b) (fun x=>b.length-x.1.toNat) ?_ (by simp) (af1 hv) rfl ?_
 ·simp;exact ha
 rintro⟨i,gn,l⟩ ⟨h0,h1,h2,h3,h4⟩
 dsimp only at h0 h1 h2 h3 h4 ⊢
 simp
 (with_reducible repeat' first|refine Xk ?_<;>try simp|refine Xs ?_ ?_<;>intro h<;>(try intro h')<;>(try simp[h])<;>try omega|refine Xg ?_|omega)
 ·refine eN.j ((0,false):Int×Bool) (fun x=>[(0,.eF v gn 8 0 l.length),(1,jv b),(5,.i i),(6,.b x.2),(7,.i x.1)]) (fun x=>H.set v (.row 282 gn (cl eU.cells l))) (fun x=>0≤x.1∧x.1≤l.length∧x.2=decide (gt b i∈l.take x.1.toNat)) (fun x=>l.length-x.1.toNat) ?_ (by simp) rfl rfl ?_
  ·simp
  rintro⟨k,found⟩ ⟨g0,g1,g2⟩
  dsimp only at g0 g1 g2 ⊢
  simp[hg]
  (with_reducible repeat' first|refine Xk ?_<;>try simp[hg]|refine Xs ?_ ?_<;>intro h<;>(try intro h')<;>(try simp[h,hg])<;>try omega|refine Xg ?_|omega)
  ·rw[gx g0 (by assumption)];simp_all
  ·refine Yt (f250 _ _ (h3 _ (eQ g0 (by assumption))) (hb _ (eQ h0 (by assumption)))) ?_
   simp
   simp only[h,cond_false]
   refine nk ⟨k+1,?_⟩
   rw[gx g0 (by assumption)]
   by_cases e:gt l k=gt b i
   ·right;simp[e];omega
   ·left;simp_all
    exact eY (fun e'=>e e'.symm)
  ·refine⟨i+1,l,rfl,rfl,rfl,by omega,by omega,by omega,by omega,h3,?_⟩
   rw[← h4,lQ h0 (by assumption),k6,show(i+1).toNat=i.toNat+1 by omega]
   rw[if_pos]
   rw[g2,jh (by omega)]at h
   simpa using h
  ·refine⟨i+1,l ++ [gt b i],by simp,rfl,by simp,by omega,by omega,by omega,by simp;omega,?_,?_⟩
   ·intro s hs
    simp at hs
    rcases hs with hs|rfl
    ·exact h3 s hs
    ·exact hb _ (eQ h0 (by assumption))
   ·rw[← h4,lQ h0 (by assumption),k6,show(i+1).toNat=i.toNat+1 by omega]
    rw[if_neg]
    rw[g2,jh (by omega)]at h
    simpa using h
 ·rw[aR (by omega)]at h4
  have e:k6 l []=l:=rfl
  rw[e]at h4
  rw[← h4]
  exact⟨rfl,rfl⟩
end Go.Proofs.YtnaefnajkaohgaaGreatDoor
namespace Go.AL
open Go Classical
def ix{α:Type}{f:α→List D}(a:α):cl f [a]=f a:=by rw[mY,Ut,aw]
def eN.e{T:gy}{live:List Nat}{a:IR}{s:St}{K:gS}{α:Type}(x0:α)(E:α→Env)(Hp:α→U)(P:α→Prop)(μ:α→Nat)(h0:P x0)
  (h:∀ x,P x→XC T a { env:=E x,H:=Hp x } (tJ s.H.length live ((E x0).map (·.1)) (LJ E Hp [] false (fun x'=>μ x'<μ x∧P x') .mk) K))
  (hE:forget ((E x0).map (·.1)) s.env=E x0:=by simp) (hH:s.H=Hp x0:=by first|rfl|(simp[ix];done)|(simp[*];done)) (hm:s.marks = []:=by exact rfl) (hr:s.fW=false:=by exact rfl) (o3:(((E x0).map (·.1)).all fun k=>live.contains k)=true:=by exact rfl):eN T live a s K .mk:=eN.k x0 E Hp P μ h0 hE hH hm hr o3 h
def jM.pw{l:List Pos}(h:jM l):l.Pairwise fun x y=>gC x y<0:=by
 refine aV.2 fun i j hi hj oZ=>?_
 have:=h.le (i:=(i:Int)) (j:=(j:Int)) (by omega) (by omega) (by omega)
 rwa [rC hi,rC hj]at this
def jM.of{r:List Pos}(h:r.Pairwise fun x y=>gC x y<0):jM r:=by
 intro i h1 h2
 rw[mw (by omega) (by omega),mw (by omega) (by omega)]
 exact aV.1 h _ _ _ _ (by omega)
theorem Sk:∀ {a b:List Pos},(a.Pairwise fun x y=>gC x y<0)→(b.Pairwise fun x y=>gC x y<0)→(∀ q,q∈a↔q∈b)→a=b
 | [],[],_,_,_=>rfl
 | [],y::b,_,_,h=>by have:=(h y).2 (by simp);cases this
 | x::a,[],_,_,h=>by have:=(h x).1 (by simp);cases this
 | x::a,y::b,ha,hb,h=>by
  have qn:=aN.1 ha
  have qM:=aN.1 hb
  have e:x=y:=by
   rcases au.1 ((h x).1 (by simp))with e|e
   ·exact e
   rcases au.1 ((h y).2 (by simp))with f|f
   ·exact f.symm
   have h1:=qM.1 x e
   have h2:=qn.1 y f
   rw[sj]at h1
   omega
  subst e
  rw[Sk qn.2 qM.2 fun q=>?_]
  constructor
  ·intro hq
   rcases au.1 ((h q).1 (by simp[hq]))with e|e
   ·subst e;have:=qn.1 q hq;rw[rv]at this;omega
   ·exact e
  ·intro hq
   rcases au.1 ((h q).2 (by simp[hq]))with e|e
   ·subst e;have:=qM.1 q hq;rw[rv]at this;omega
   ·exact e
def S4{a b:List Pos}(ha:jM a)(hb:jM b)(h:∀ q,q∈a↔q∈b):a=b:=Sk ha.pw hb.pw h
def UE{x y:Pos}(h:x≠y)(h2:¬ gC x y<0):gC y x<0:=by
 have:gC x y≠0:=fun e=>h (px.1 e)
 rw[sj];omega
theorem QU(x:Pos):∀ r:List Pos,(r.Pairwise fun x y=>gC x y<0)→∃ r':List Pos,(r'.Pairwise fun x y=>gC x y<0)∧∀ q,q∈r'↔q=x∨q∈r
 | [],_=>⟨[x],by simp,by simp⟩
 | y::r,h=>by
  have h':=aN.1 h
  by_cases e:x=y
  ·subst e;exact⟨x::r,h,by simp⟩
  by_cases hl:gC x y<0
  ·refine⟨x::y::r,aN.2 ⟨fun z hz=>?_,h⟩,by simp⟩
   rcases au.1 hz with rfl|hz
   ·exact hl
   ·exact vE hl (h'.1 z hz)
  ·obtain⟨r',h1,h2⟩:=QU x r h'.2
   refine⟨y::r',aN.2 ⟨fun z hz=>?_,h1⟩,fun q=>?_⟩
   ·rcases(h2 z).1 hz with rfl|hz
    ·exact UE e hl
    ·exact h'.1 z hz
   ·simp only[au,h2]
    constructor
    ·rintro(h|h|h)<;>simp[h]
    ·rintro(h|h|h)<;>simp[h]
theorem Jl:∀ l:List Pos,∃ r,jM r∧∀ q,q∈r↔q∈l
 | []=>⟨[],fun i h1 h2=>by simp at h2;omega,by simp⟩
 | x::l=>by
  obtain⟨r,h1,h2⟩:=Jl l
  obtain⟨r',h3,h4⟩:=QU x r h1.pw
  exact⟨r',jM.of h3,fun q=>by rw[h4,h2,au]⟩
noncomputable def jy(l:List Pos):List Pos:=Classical.choose (Jl l)
def yz(l:List Pos):jM (jy l):=(bM (Jl l)).1
@[simp] theorem sO{l:List Pos}{q:Pos}:q∈jy l↔q∈l:=(bM (Jl l)).2 q
theorem S2{l r:List Pos}(h:jM r)(hm:∀ q,q∈r↔q∈l):r=jy l:=S4 h (yz l) fun q=>by rw[hm,sO]
theorem rR{α:Type}[DecidableEq α]:∀ {l m:List α},l.Nodup→(∀ x∈l,x∈m)→l.length≤m.length
 | [],m,_,_=>by simp
 | a::l,m,hn,h=>by
  have hn:=cB.1 hn
  have h1:l.length≤(m.erase a).length:=rR hn.2 fun x hx=>by
   refine(List.mem_erase_of_ne ?_).2 (h x (by simp[hx]))
   rintro rfl;exact hn.1 hx
  rw[dX (h a (by simp))]at h1
  have:0<m.length:=cv (h a (by simp))
  simp;omega
def jM.nodup{l:List Pos}(h:jM l):l.Nodup:=h.pw.imp fun{a b} zy e=>by
 subst e;rw[rv]at zy;omega
def Jk(l:List Pos):(jy l).length≤l.length:=rR (jM.nodup (yz l)) fun x hx=>sO.1 hx
def ended(g:eH)(p:Pos):Prop:=∃ c∈g.clauses,jN p c
def CW{g:eH}{p:Pos}(h:¬ ended g p):∀ c∈g.clauses,¬ jN p c:=fun c hc hl=>h ⟨c,hc,hl⟩
def G6(g:eH)(p:Pos):List Pos:=(upto g.kinds.length).flatMap fun k=>(upto p.cs.length).map fun c=>jd p k c
theorem xp{α β:Type}{f:α→List β}{n:Nat}:∀ {l:List α},(∀ a∈l,(f a).length≤n)→(l.flatMap f).length≤l.length*n
 | [],_=>by simp
 | a::l,h=>by
  rw[List.flatMap_cons,ay,aI,bS]
  have:=h a (by simp)
  have:=xp (l:=l) fun b hb=>h b (by simp[hb])
  omega
theorem SM{g:eH}:∀ {l:List eO} {a:List eU},(qy g l a).length≤10 ^ l.length*a.length
 | [],a=>by simp[qy]
 | x::r,a=>by
  rw[qy]
  refine Nat.le_trans SM ?_
  rw[aI,dA,eD]
  refine dC _ ?_
  rw[de]
  exact xp fun s _=>Au
def aff{g:eH}(hg:fe g){p:Pos}(hp:fO g p):(oN g p).length≤3600000000:=by
 have hz:=hp.size
 have hb:=hg.iw.size
 have:(oN g p).length≤(upto p.cs.length).length*400000000:=by
  refine xp fun c hc=>?_
  rw[jI]at hc
  unfold ox
  split
  ·rename_i e
   have eX:=Du hg hp hc.1 (by omega) e
   have hk:=hg.gT _ (eQ (l:=g.kinds) eX.kind.1 eX.kind.2)
   have h2:((gt g.kinds (fm (gt p.cs c))).gT.flatMap (rS g p c)).length≤(gt g.kinds (fm (gt p.cs c))).gT.length*100000000:=by
    refine xp fun l hl=>?_
    have h3:=(hk.2 l hl).len
    refine Nat.le_trans (dg _ _) (Nat.le_trans SM ?_)
    have:10 ^ l.length≤10 ^ 8:=cm (by decide) h3.2
    simpa using this
   have h4:(gt g.kinds (fm (gt p.cs c))).gT.length≤4:=hk.1
   omega
  ·simp
 have e:(upto p.cs.length).length=p.cs.length:=by simp[upto]
 rw[e]at this
 omega
def U2{g:eH}(hg:fe g){p:Pos}(hp:fO g p):(G6 g p).length≤18:=by
 have hz:=hp.size
 have hb:=hg.iw.size
 have hk:=hg.kinds
 have:(G6 g p).length≤(upto g.kinds.length).length*9:=xp fun k _=>by
  simp[upto];omega
 have e:(upto g.kinds.length).length=g.kinds.length:=by simp[upto]
 rw[e]at this
 omega
def aaE{g:eH}{p q:Pos}(h:pj g p q):q∈(oN g p).map (·.p)++G6 g p:=by
 obtain⟨_,h⟩:=h
 split at h
 ·exact List.mem_append.2 (.inl (ao.2 ⟨_,h,rfl⟩))
 ·rcases h with⟨o,h,rfl⟩|⟨k,c,h1,h2,h3,h4,_,_,rfl⟩
  ·exact List.mem_append.2 (.inl (ao.2 ⟨_,h,rfl⟩))
  ·exact List.mem_append.2 (.inr (bz.2 ⟨k,jI.2 ⟨h1,h2⟩,ao.2 ⟨c,jI.2 ⟨h3,h4⟩,rfl⟩⟩))
noncomputable def gR(g:eH)(p:Pos):List Pos:=jy (((oN g p).map (·.p)++G6 g p).filter fun q=>decide (pj g p q))
def aaG(g:eH)(p:Pos):jM (gR g p):=yz _
@[simp] theorem x9{g:eH}{p q:Pos}:q∈gR g p↔pj g p q:=by
 unfold gR
 rw[sO,aH]
 simp only[decide_eq_true_eq]
 exact⟨fun h=>h.2,fun h=>⟨aaE h,h⟩⟩
def Mo{g:eH}{p:Pos}{r:List Pos}(h:jM r)(hm:∀ q,q∈r↔pj g p q):r=gR g p:=S4 h (aaG g p) fun q=>by rw[hm,x9]
def ID{g:eH}{p:Pos}(h:ended g p):gR g p = []:=by
 refine bQ.2 fun q hq=>?_
 obtain⟨c,hc,hl⟩:=h
 exact(x9.1 hq).1 c hc hl
@[irreducible] noncomputable def q5(g:eH)(p:Pos):D:=if ended g p then .eG else e7 (gR g p)
theorem IC(g:eH)(p:Pos):(q5 g p = .eG∧gR g p = [])∨q5 g p=e7 (gR g p):=by
 unfold q5
 split
 ·rename_i h;exact .inl ⟨rfl,ID h⟩
 ·exact .inr rfl
def tN{g:eH}(hg:fe g){p:Pos}(hp:fO g p):(gR g p).length≤4000000000:=by
 refine Nat.le_trans (Jk _) (Nat.le_trans (List.length_filter_le _ _) ?_)
 have:=aff hg hp
 have:=U2 hg hp
 simp;omega
section
variable{g:eH}{p:Pos}{n:Int}{k:IntKind}{P:D→Prop}{H:U}
@[simp] theorem UB:closed (q5 g p)=true:=by rcases IC g p with⟨h,_⟩|h<;>rw[h]<;>simp
@[simp] theorem anb:oq .slice (q5 g p) H=some (.i (gR g p).length):=by rcases IC g p with⟨h,e⟩|h<;>rw[h]<;>simp[*]
@[simp] theorem aqk:kY 5 H (q5 g p)=some (cl Pos.cells (gR g p),(gR g p).length):=by rcases IC g p with⟨h,e⟩|h<;>rw[h]<;>simp[*]
@[simp] theorem aqI(n:Nat):gW n (q5 g p) = []:=Dv n UB
@[simp] theorem anX:oA (nS 5 (q5 g p) (.val (.int k n))) P .mk=((0≤n∧n<(gR g p).length)∧P (.eW (gt (gR g p) n).cells)):=by
 rcases IC g p with⟨h,e⟩|h
 ·rw[h,e]
  simp only[nS,RP,cA]
  refine propext ⟨fun h=>h.elim,fun⟨h,_⟩=>?_⟩
  have:=h.1;have:=h.2;simp at this;omega
 ·rw[h];exact u4
end
noncomputable def rz(g:eH)(p:Pos):Int:=if ended g p then(g.clauses.findIdx fun c=>decide (jN p c):Nat)else -1
def J9{g:eH}{p:Pos}(h:ended g p):0≤rz g p∧rz g p<g.clauses.length∧gt g.clauses (rz g p)∈g.clauses:=by
 unfold rz
 rw[if_pos h]
 have:(g.clauses.findIdx fun c=>decide (jN p c))<g.clauses.length:=by
  rw[List.findIdx_lt_length]
  obtain⟨c,hc,hl⟩:=h
  exact⟨c,hc,by simpa using hl⟩
 exact nk (eQ (by omega) (by omega))
def OU{g:eH}{p:Pos}(h:¬ ended g p):rz g p = -1:=by unfold rz;rw[if_neg h]
def G8{g:eH}{p:Pos}:0≤rz g p↔ended g p:=by
 by_cases h:ended g p
 ·exact⟨fun _=>h,fun _=>(J9 h).1⟩
 ·rw[OU h];simp[h]
noncomputable def stat(g:eH)(p:Pos):Int×Bool:=(if ended g p then(gt g.clauses (rz g p)).out else if gR g p = []then g.blocked else 0,decide (gR g p = []))
def agE{g:eH}(hg:fe g){p:Pos}(h:(stat g p).2=true):1≤(stat g p).1∧(stat g p).1≤3:=by
 unfold stat at *
 simp only[decide_eq_true_eq]at h ⊢
 split
 ·rename_i he;exact(hg.clause _ (J9 he).2.2).out
 ·exact hg.blocked
end Go.AL
namespace Go.Proofs.YtnaefnajkaohgaaGreatDoor
open Go Go.AL Classical
set_option maxRecDepth 10000
set_option maxHeartbeats 1000000
def O4(p:Pos)(hp:Small p):Wf T 155 [dP p] [] (fun d H=>d = .agg [.eF 0 1 1 0 p.cs.length,dI p.h0,dI p.h1,.i p.ff,.i p.side]∧H = [.row 3 1 (cl f1 p.cs)]):=by
 obtain⟨h1,h2,h3⟩:=hp
 refine Wf.xo 3 (fn:=vj) rfl (by simp[vj]) ?_
 simp[vj]
 (with_reducible repeat' first|refine Xk ?_<;>try simp|refine Xs ?_ ?_<;>intro h<;>(try intro h')<;>(try simp[h])<;>try omega|refine Xg ?_|omega)
@[irreducible] def fA(a:List eU):List D:=[jv a]
theorem xk(a:List eU):fA a = [jv a]:=by unfold fA;rfl
instance:Fl fA 1:=⟨fun _=>by simp[xk],fun _=>by simp[xk,fu]⟩
@[simp] theorem akq(l:List (List eU))(x:List eU):cl fA l ++ [jv x]=cl fA (l ++ [x]):=by rw[← pR,xk]
theorem Uo(x:List eU) : [jv x]=cl fA [x]:=by rw[mY,xk];simp
def ni(g:eH)(x:eO)(now:List eU):List eU:=now.foldl (fun acc s=>k6 acc (gY g s x)) []
def nW(g:eH):List eO→List eU→List (List eU)
 | [],_=>[]
 | x::r,now=>ni g x now::nW g r (ni g x now)
theorem Pq{g:eH}{x:eO}{t:eU}:∀ {now acc:List eU},t∈now.foldl (fun acc s=>k6 acc (gY g s x)) acc↔t∈acc∨t∈now.flatMap fun s=>gY g s x
 | [],acc=>by simp
 | s::r,acc=>by
  rw[cz,Pq,A9,List.flatMap_cons,List.mem_append,or_assoc]
def IF{g:eH}{x:eO}{now:List eU}{t:eU}:t∈ni g x now↔t∈now.flatMap fun s=>gY g s x:=by
 unfold ni;rw[Pq];simp
theorem Pp{g:eH}{x:eO}:∀ {now acc:List eU},(now.foldl (fun acc s=>k6 acc (gY g s x)) acc).length≤acc.length+10*now.length
 | [],acc=>by simp
 | s::r,acc=>by
  rw[cz]
  refine Nat.le_trans Pp ?_
  have:=A8 (a:=acc) (b:=gY g s x)
  have:=Au (g:=g) (s:=s) (x:=x)
  rw[aI];omega
def CT{g:eH}{x:eO}{now:List eU}:(ni g x now).length≤10*now.length:=by
 unfold ni
 refine Nat.le_trans Pp ?_
 simp
theorem S7{g:eH}:∀ {l:List eO} {now:List eU},(nW g l now).length=l.length
 | [],_=>rfl
 | x::r,now=>by rw[nW,aI,S7,aI]
def f194(g:eH)(hg:fe g)(p:Pos)(hp:fO g p)(c i:Int)(hc:0≤c∧c<g.size)(hm:iU (gt p.cs c)=p.side)(hi:0≤i∧i<(gt g.kinds (fm (gt p.cs c))).gT.length) :
  Wf T 194 [dG g,dP p,.i c,.i i] [] (Is (.agg [.sl 1 (([kf p c]::nW g (gt (gt g.kinds (fm (gt p.cs c))).gT i) [kf p c]).map fA),.i 0])):=by
 have gH:=hp.size
 have jB:=hp.small hg
 have im:=hp.cs _ (eQ hc.1 (by omega))
 have ik:=hp.side
 obtain⟨m1,m2,m3,m4⟩:=CJ ik.1 hm
 have hk:fm (gt p.cs c)<g.kinds.length:=u0 im.2 hg.kinds.1
 refine Yz AO (gL 117 [10] AO.body) ?_
 simp[AO,gL,jg,lD,lH,lS,ku]
 refine Yc (f65 g p hg hp) ?_
 simp
 (with_reducible repeat' first|refine Xk ?_<;>try simp|refine Xs ?_ ?_<;>intro h<;>(try intro h')<;>(try simp[h])<;>try omega|refine Xg ?_|omega)
 refine Yc (f51 _) ?_
 simp
 (with_reducible repeat' first|refine Xk ?_<;>try simp|refine Xs ?_ ?_<;>intro h<;>(try intro h')<;>(try simp[h])<;>try omega|refine Xg ?_|omega)
 rotate_right
 refine vu.n rfl rfl (O4 p jB) (by simp) (by simp) ?_
 simp
 (with_reducible repeat' first|refine Xk ?_<;>try simp|refine Xs ?_ ?_<;>intro h<;>(try intro h')<;>(try simp[h])<;>try omega|refine Xg ?_|omega)
 refine eN.fz [0,1,3,4,5,6,8] rfl ?_
 have q0:=gN (l:=p.cs) (n:=c) (v:=0) hc.1 (by omega)
 have eX:jk g (kf p c):=Du hg hp hc.1 hc.2 hm
 have Lt:=hg.gT _ (eQ (l:=g.kinds) m1 hk)
 generalize nQ:gt (gt g.kinds (fm (gt p.cs c))).gT i=prog at *
 have xU:ui g prog:=Lt.2 _ (nQ▸eQ hi.1 hi.2)
 have Qn:=xU.len
 refine eN.k ((0,[[kf p c]],[kf p c]):Int×List (List eU)×List eU) (fun x=>[(4,.eW g.cells),(8,.ptr 2 0 0),(11,.ptr 9 0 0),(12,jv x.2.2),(13,fh prog),(14,.i x.1)]) (fun x=>[.dead,.dead,.row 278 0 [.eG,.i 0],.dead,.dead,.dead,.dead,.row 280 x.1.toNat (cl fA x.2.1),.dead,.row 278 0 [.eF 7 x.1.toNat 1 0 x.2.1.length,.i 0]])
  (fun x=>0≤x.1∧x.1≤prog.length∧x.2.1.length=x.1.toNat+1∧(∀ s∈x.2.2,jk g s)∧x.2.2.length≤10 ^ x.1.toNat∧[kf p c]::nW g prog [kf p c]=x.2.1++nW g (prog.drop x.1.toNat) x.2.2) (fun x=>prog.length-x.1.toNat) ?_ ?_ ?_ rfl rfl (by simp) ?_
 ·simp;exact eX
 ·simp[kf,q0]
 ·simp[kf,← Uo,q0]
 rintro⟨k,steps,now⟩ ⟨k0,k1,k2,k3,k4,k5⟩
 dsimp only at k0 k1 k2 k3 k4 k5 ⊢
 simp
 (with_reducible repeat' first|refine Xk ?_<;>try simp|refine Xs ?_ ?_<;>intro h<;>(try intro h')<;>(try simp[h])<;>try omega|refine Xg ?_|omega)
 ·refine eN.e ((0,0,[]):Int×Nat×List eU) (fun x=>[(4,.eW g.cells),(8,.ptr 2 0 0),(11,.ptr 9 0 0),(12,jv now),(13,fh prog),(14,.i k),(15,.eF 10 x.2.1 8 0 x.2.2.length),(16,.i x.1)]) (fun x=>[.dead,.dead,.row 278 0 [.eG,.i 0],.dead,.dead,.dead,.dead,.row 280 k.toNat (cl fA steps),.dead,.row 278 0 [.eF 7 k.toNat 1 0 steps.length,.i 0],.row 282 x.2.1 (cl eU.cells x.2.2)]) (fun x=>0≤x.1∧x.1≤now.length∧(∀ s∈x.2.2,jk g s)∧x.2.2.length≤10*x.1.toNat∧ni g (gt prog k) now=(now.drop x.1.toNat).foldl (fun acc s=>k6 acc (gY g s (gt prog k))) x.2.2) (fun x=>now.length-x.1.toNat) ?_ ?_
  ·simp[ni]
  rintro⟨j,gn,acc⟩ ⟨j0,j1,j2,j3,j4⟩
  dsimp only at j0 j1 j2 j3 j4 ⊢
  simp
  (with_reducible repeat' first|refine Xk ?_<;>try simp|refine Xs ?_ ?_<;>intro h<;>(try intro h')<;>(try simp[h])<;>try omega|refine Xg ?_|omega)
  ·refine Yt (f228 g hg _ (k3 _ (eQ j0 ‹_›)) _ (xU.steps _ (eQ k0 ‹_›))) ?_
   simp
   have eM:=k3 _ (eQ j0 ‹_›)
   refine fg.lK rfl rfl (f227 10 gn acc (gY g (gt now j) (gt prog k)) _ rfl (by simp) (fun s hs=>(j2 s hs).p.small hg) (fun s hs=>(yD hg eM (xU.steps _ (eQ k0 ‹_›)) hs).p.small hg) ?_) ?_
   ·have h1:=Au (g:=g) (s:=gt now j) (x:=gt prog k)
    have h2:10 ^ k.toNat≤10 ^ 8:=cm (by decide) (by omega)
    omega
   rintro d H' ⟨Hq,rfl,rfl⟩
   simp
   have h2:10 ^ k.toNat≤10 ^ 8:=cm (by decide) (by omega)
   (with_reducible repeat' first|refine Xk ?_<;>try simp|refine Xs ?_ ?_<;>intro h<;>(try intro h')<;>(try simp[h])<;>try omega|refine Xg ?_|omega)
   refine LJ.e (j+1,Hq,k6 acc (gY g (gt now j) (gt prog k))) ?_
   refine⟨by dsimp only;omega,by dsimp only;omega,by dsimp only;omega,fun s hs=>?_,?_,?_⟩
   ·rcases A9.1 hs with hs|hs
    ·exact j2 s hs
    ·exact yD hg eM (xU.steps _ (eQ k0 ‹_›)) hs
   ·have h1:=Au (g:=g) (s:=gt now j) (x:=gt prog k)
    have h3:=A8 (a:=acc) (b:=gY g (gt now j) (gt prog k))
    dsimp only
    omega
   ·rw[j4,lQ j0 ‹_›,cz,show(j+1).toNat=j.toNat+1 by omega]
  ·have e:ni g (gt prog k) now=acc:=by rw[j4,aR (by omega)];rfl
   (with_reducible repeat' first|refine Xk ?_<;>try simp|refine Xs ?_ ?_<;>intro h<;>(try intro h')<;>(try simp[h])<;>try omega|refine Xg ?_|omega)
   refine LJ.i (k+1,steps ++ [acc],acc) (by first|rfl|simp[show(k+1).toNat=k.toNat+1 by omega]) (by first|rfl|simp[show(k+1).toNat=k.toNat+1 by omega]) rfl rfl ?_
   refine⟨by dsimp only;omega,by dsimp only;omega,by dsimp only;omega,by simp;omega,j2,?_,?_⟩
   ·have h3:=CT (g:=g) (x:=gt prog k) (now:=now)
    rw[e]at h3
    dsimp only
    rw[show(k+1).toNat=k.toNat+1 by omega,dA]
    omega
   ·rw[k5,lQ k0 ‹_›,nW,e,show(k+1).toNat=k.toNat+1 by omega]
    simp
 ·rw[aR (by omega),nW,aw]at k5
  rw[← k5];simp
def aaf{a b:fD}(h1:¬ CF a b)(h2:¬ CF b a):a=b:=by
 unfold CF at *
 have e:=sj a.p b.p
 have h:gC a.p b.p=0:=by
  by_cases h:gC a.p b.p=0
  ·exact h
  ·exfalso
   by_cases h3:gC a.p b.p<0
   ·exact h1 (.inl h3)
   ·exact h2 (.inl (by omega))
 have h':gC b.p a.p=0:=by omega
 simp[h,h']at h1 h2
 have:=px.1 h
 cases a;cases b
 simp_all
 rename_i x y _
 cases x<;>cases y<;>simp_all
structure Gq(l:List fD)(x:fD)(i:Int)(d:Bool)(out:List fD):Prop where
 i0:0≤i∧i≤l.length
 dn:d=true→x∈out
 sub:∀ o∈out,o∈l.take i.toNat∨o=x
 sup:∀ o∈l.take i.toNat,o∈out
 len:out.length≤i.toNat+(if d then 1 else 0)
def Gq.step{l:List fD}{x:fD}{i:Int}{d d':Bool}{out:List fD}(h:Gq l x i d out)(hi:i<l.length)(xs:List fD)(hx:∀ o∈xs,o=x)(hd:d'=true→d=true∨x∈xs∨gt l i=x)(hl:xs.length+(if d then 1 else 0)≤(if d' then 1 else 0)):Gq l x (i+1) d' (out++xs ++ [gt l i]):=by
 have h0:=h.i0
 refine⟨by omega,fun e=>?_,fun o ho=>?_,fun o ho=>?_,?_⟩
 ·rcases hd e with e|e|e
  ·have:=h.dn e;simp[this]
  ·simp[e]
  ·simp[e]
 ·rw[gx h0.1 hi]
  simp at ho ⊢
  rcases ho with ho|ho|ho
  ·rcases h.sub o ho with h|h
   ·exact .inl (.inl h)
   ·exact .inr h
  ·exact .inr (hx o ho)
  ·exact .inl (.inr ho)
 ·rw[gx h0.1 hi]at ho
  simp at ho ⊢
  rcases ho with ho|ho
  ·exact .inl (h.sup o ho)
  ·exact .inr (.inr ho)
 ·have:=h.len
  simp
  omega
def f195(l:List fD)(x:fD)(hl:l.length<2 ^ 39)(hs:∀ o∈l,Small o.p)(hx:Small x.p):Wf T 195 [mH l,.agg x.cells] [] (Ex mH fun r=>(∀ o,o∈r↔o∈l∨o=x)∧r.length≤l.length+1):=by
 refine Yg ER ?_
 simp[ER]
 refine eN.e ((0,false,[]):Int×Bool×List fD) (fun y=>[(0,mH l),(3,.ptr 0 0 0),(5,.eF 1 y.2.2.length 6 0 y.2.2.length),(6,.b y.2.1),(7,.i y.1)]) (fun y=>[.row 113 0 x.cells,.row 113 y.2.2.length (cl fD.cells y.2.2)]) (fun y=>Gq l x y.1 y.2.1 y.2.2) (fun y=>l.length-y.1.toNat) ?_ ?_
 ·exact⟨by simp,by simp,by simp,by simp,by simp⟩
 rintro⟨i,done,out⟩ hI
 have h0:=hI.i0
 have h5:=hI.len
 have h6:(if done=true then 1 else 0)≤1:=by split<;>omega
 dsimp only at hI h0 h5 ⊢
 simp
 (with_reducible repeat' first|refine Xk ?_<;>try simp|refine Xs ?_ ?_<;>intro h<;>(try intro h')<;>(try simp[h])<;>try omega|refine Xg ?_|omega)
 ·refine LJ.e (i+1,true,out ++ [gt l i]) ?_
  subst h
  have:=hI.step ‹_› [] (d':=true) (by simp) (by simp) (by simp)
  simp at this
  exact⟨by simp;omega,this⟩
 ·have hd:=h
  refine Yt (f229 _ _ (hs _ (eQ h0.1 ‹_›)) hx) ?_
  simp[h]
  (with_reducible repeat' first|refine Xk ?_<;>try simp[hd]|refine Xs ?_ ?_<;>intro h<;>(try intro h')<;>(try simp[h,hd])<;>try omega|refine Xg ?_|omega)
  ·subst hd
   have:=hI.step ‹_› [] (d':=false) (by simp) (by simp) (by simp)
   simp at this
   refine LJ.e (i+1,false,out ++ [gt l i]) ?_
   exact⟨by simp;omega,this⟩
  ·refine Yt (f229 _ _ hx (hs _ (eQ h0.1 ‹_›))) ?_
   simp[hd]
   (with_reducible repeat' first|refine Xk ?_<;>try simp[hd]|refine Xs ?_ ?_<;>intro h<;>(try intro h')<;>(try simp[h,hd])<;>try omega|refine Xg ?_|omega)
   ·subst hd
    have:=hI.step ‹_› [x] (d':=true) (by simp) (by simp) (by simp)
    refine LJ.e (i+1,true,out ++ [x] ++ [gt l i]) ?_
    exact⟨by simp;omega,this⟩
   ·subst hd
    have e:=aaf (a:=gt l i) (b:=x) ‹_› ‹_›
    have:=hI.step ‹_› [] (d':=true) (by simp) (by simp[e]) (by simp)
    simp at this
    refine LJ.e (i+1,true,out ++ [gt l i]) ?_
    exact⟨by simp;omega,this⟩
 ·subst h
  have h3:=hI.sub
  have h4:=hI.sup
  rw[jh (by omega)]at h3 h4
  refine⟨out,rfl,fun o=>⟨h3 o,fun h=>?_⟩,by simp at h5;omega⟩
  rcases h with h|h
  ·exact h4 o h
  ·rw[h];exact hI.dn rfl
 ·subst h
  have h3:=hI.sub
  have h4:=hI.sup
  rw[jh (by omega)]at h3 h4
  refine⟨out ++ [x],by simp[mH],fun o=>?_,by simp at h5;simp;omega⟩
  simp
  constructor
  ·rintro(h|h)
   ·exact h3 o h
   ·exact .inr h
  ·rintro(h|h)
   ·exact .inl (h4 o h)
   ·exact .inr h
theorem Rh{g:eH}:∀ {l:List eO} {now:List eU} {t:eU},t∈gt (now::nW g l now) l.length↔t∈qy g l now
 | [],now,t=>by simp[nW,qy,gt]
 | x::r,now,t=>by
  have e:gt (now::nW g (x::r) now) (x::r).length=gt (ni g x now::nW g r (ni g x now)) r.length:=by
   rw[nW]
   unfold gt
   simp only[aI,dQ,List.getD_cons_succ]
  rw[e,Rh,qy]
  exact SL (fun s=>IF) t
theorem Rg{g:eH}:∀ {l:List eO} {now:List eU},(gt (now::nW g l now) l.length).length≤10 ^ l.length*now.length
 | [],now=>by simp[nW,gt]
 | x::r,now=>by
  have e:gt (now::nW g (x::r) now) (x::r).length=gt (ni g x now::nW g r (ni g x now)) r.length:=by
   rw[nW]
   unfold gt
   simp only[aI,dQ,List.getD_cons_succ]
  rw[e]
  refine Nat.le_trans Rg ?_
  rw[aI,dA,eD]
  exact dC _ CT
def f154(g:eH)(hg:fe g)(p:Pos)(hp:fO g p)(c i:Int)(hc:0≤c∧c<g.size)(hm:iU (gt p.cs c)=p.side)(hi:0≤i∧i<(gt g.kinds (fm (gt p.cs c))).gT.length) :
  Wf T 154 [dG g,dP p,.i c,.i i] [] (Ex (fun r=>.tup [mH r,.i 0]) fun r=>(∀ o,o∈r↔o∈rS g p c (gt (gt g.kinds (fm (gt p.cs c))).gT i))∧r.length≤10 ^ 8):=by
 have im:=hp.cs _ (eQ hc.1 (by have:=hp.size;omega))
 have ik:=hp.side
 obtain⟨m1,m2,m3,m4⟩:=CJ ik.1 hm
 have hk:fm (gt p.cs c)<g.kinds.length:=u0 im.2 hg.kinds.1
 have eX:jk g (kf p c):=Du hg hp hc.1 hc.2 hm
 have Lt:=hg.gT _ (eQ (l:=g.kinds) m1 hk)
 have c1:=f194 g hg p hp c i hc hm hi
 generalize nQ:gt (gt g.kinds (fm (gt p.cs c))).gT i=prog at *
 have xU:ui g prog:=Lt.2 _ (nQ▸eQ hi.1 hi.2)
 have Qn:=xU.len
 have sy:∀ t,t∈gt ([kf p c]::nW g prog [kf p c]) prog.length↔t∈qy g prog [kf p c]:=fun t=>Rh
 have xM:=Rg (g:=g) (l:=prog) (now:=[kf p c])
 have h8:10 ^ prog.length≤10 ^ 8:=cm (by decide) Qn.2
 have Qy:=S7 (g:=g) (l:=prog) (now:=[kf p c])
 generalize hS : [kf p c]::nW g prog [kf p c]=S at *
 have hSl:S.length=prog.length+1:=by rw[← hS];simp[Qy]
 refine Yz AK (gL 70 [5] AK.body) ?_
 simp[AK,gL,jg,lD,lH,lS,ku]
 refine Yc (c1) ?_
 simp
 (with_reducible repeat' first|refine Xk ?_<;>try simp[xk]|refine Xs ?_ ?_<;>intro h<;>(try intro h')<;>(try simp[h,xk])<;>try omega|refine Xg ?_|omega)
 rw[show(S.length:Int)-1=prog.length by omega]
 generalize gt S (prog.length:Int)=L at *
 have eM:∀ s∈L,jk g s:=fun s hs=>I9 hg xU.steps (fun t ht=>by rw[List.mem_singleton]at ht;subst ht;exact eX) s ((sy s).1 hs)
 have hL8:L.length≤100000000:=by simp at xM;omega
 simp[xk]
 (with_reducible repeat' first|refine Xk ?_<;>try simp|refine Xs ?_ ?_<;>intro h<;>(try intro h')<;>(try simp[h])<;>try omega|refine Xg ?_|omega)
 refine eN.fz [0,2,3] rfl ?_
 refine eN.e ((0,[]):Int×List fD) (fun y=>[(5,.ptr 1 0 0),(11,mH y.2),(12,jv L),(13,.i y.1)]) (fun y=>[.dead,.row 44 0 p.cells,.dead,.dead]) (fun y=>0≤y.1∧y.1≤L.length∧(∀ o,o∈y.2↔o∈(L.take y.1.toNat).filterMap (mQ p.side))∧y.2.length≤y.1.toNat) (fun y=>L.length-y.1.toNat) ?_ ?_
 ·simp
 rintro⟨j,out⟩ ⟨j0,j1,j2,j3⟩
 dsimp only at j0 j1 j2 j3 ⊢
 simp
 (with_reducible repeat' first|refine Xk ?_<;>try simp|refine Xs ?_ ?_<;>intro h<;>(try intro h')<;>(try simp[h])<;>try omega|refine Xg ?_|omega)
 ·have hs:=eM _ (eQ j0 ‹_›)
  have v8:=hs.p.small hg
  have hz:=hs.p.size
  have Xc:=hs.cur
  have BZ:=hs.kind
  have kH:=hg.kinds
  generalize P5:gt L j=s at *
  (with_reducible repeat' first|refine Xk ?_<;>try simp|refine Xs ?_ ?_<;>intro h<;>(try intro h')<;>(try simp[h])<;>try omega|refine Xg ?_|omega)
  ·have q:=gN (l:=s.p.cs) (n:=s.cur) (v:=1+2*s.kind+p.side) Xc.1 (by omega)
   refine Yn (O4 s.p v8) ?_
   simp
   refine Yt (f156 (k:=s.kind) (s:=p.side) BZ.1 (by omega) ik.1 ik.2) ?_
   simp[q]
   (with_reducible repeat' first|refine Xk ?_<;>try simp[q]|refine Xs ?_ ?_<;>intro h<;>(try intro h')<;>(try simp[h,q])<;>try omega|refine Xg ?_|omega)
   generalize ho:({ p:=⟨pt s.p.cs s.cur (1+2*s.kind+p.side),s.p.h0,s.p.h1,s.p.ff,1-p.side⟩,iL:=s.iL }:fD)=o
   have gJ:mQ p.side s=some o:=by rw[mQ,if_pos ‹_›,← ho];rfl
   have pD:Small o.p:=fO.small hg (Hi hs ik.1 ik.2 gJ)
   have jB:∀ o∈out,Small o.p:=fun o ho=>by
    obtain⟨t,ht,h3⟩:=b8.1 ((j2 o).1 ho)
    exact fO.small hg (Hi (eM t (aJ ht)) ik.1 ik.2 h3)
   have c2:=f195 out o (by omega) jB pD
   rw[← ho]at c2
   refine fg.q rfl rfl c2 (by simp) (fun _=>by simp) ?_
   intro r hr
   simp
   rw[ho]at hr
   (with_reducible repeat' first|refine Xk ?_<;>try simp|refine Xs ?_ ?_<;>intro h<;>(try intro h')<;>(try simp[h])<;>try omega|refine Xg ?_|omega)
   refine LJ.e (j+1,r) ?_
   refine⟨by dsimp only;omega,by dsimp only;omega,by dsimp only;omega,fun x=>?_,by dsimp only;omega⟩
   rw[hr.1,j2,gx j0 ‹_›,P5]
   simp[gJ,eq_comm]
  ·(with_reducible repeat' first|refine Xk ?_<;>try simp|refine Xs ?_ ?_<;>intro h<;>(try intro h')<;>(try simp[h])<;>try omega|refine Xg ?_|omega)
   refine LJ.e (j+1,out) ?_
   refine⟨by dsimp only;omega,by dsimp only;omega,by dsimp only;omega,fun x=>?_,by dsimp only;omega⟩
   rw[j2,gx j0 ‹_›,P5]
   have:mQ p.side s=none:=by rw[mQ,if_neg ‹_›]
   simp[this]
 ·rw[jh (by omega)]at j2
  refine⟨out,rfl,fun o=>?_,?_⟩
  ·rw[j2,rS]
   simp only[b8,sy]
  ·omega
