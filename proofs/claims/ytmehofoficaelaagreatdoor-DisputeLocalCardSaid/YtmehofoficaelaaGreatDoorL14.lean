/- Part 14 of DisputeLocal. -/
import Derived.Test.YtmehofoficaelaaGreatDoorL13
set_option linter.all false
namespace Go.AL
open Go Classical
def jg{α:Type}{f:α→List D}(a:α):cl f [a]=f a:=by rw[na,UR,aA]
def fh.e{T:gP}{live:List Nat}{a:IR}{s:St}{K:iv}{α:Type}(x0:α)(E:α→Env)(Hp:α→U)(P:α→Prop)(μ:α→Nat)(h0:P x0)
  (h:∀ x,P x→XC T a { env:=E x,H:=Hp x } (wg s.H.length live ((E x0).map (·.1)) (LJ E Hp [] false (fun x'=>μ x'<μ x∧P x') .mk) K))
  (hE:forget ((E x0).map (·.1)) s.env=E x0:=by simp) (hH:s.H=Hp x0:=by first|rfl|(simp[jg];done)|(simp[*];done)) (hm:s.marks = []:=by exact rfl) (hr:s.gZ=false:=by exact rfl) (qA:(((E x0).map (·.1)).all fun k=>live.contains k)=true:=by exact rfl):fh T live a s K .mk:=fh.k x0 E Hp P μ h0 hE hH hm hr qA h
def kc.pw{l:List Pos}(h:kc l):l.Pairwise fun x y=>gR x y<0:=by
 refine bq.2 fun i j hi hj xG=>?_
 have:=h.le (i:=(i:Int)) (j:=(j:Int)) (by omega) (by omega) (by omega)
 rwa [Hk hi,Hk hj]at this
def kc.of{r:List Pos}(h:r.Pairwise fun x y=>gR x y<0):kc r:=by
 intro i h1 h2
 rw[kl (by omega) (by omega),kl (by omega) (by omega)]
 exact bq.1 h _ _ _ _ (by omega)
theorem SF:∀ {a b:List Pos},(a.Pairwise fun x y=>gR x y<0)→(b.Pairwise fun x y=>gR x y<0)→(∀ q,q∈a↔q∈b)→a=b
 | [],[],_,_,_=>rfl
 | [],y::b,_,_,h=>by have:=(h y).2 (by simp);cases this
 | x::a,[],_,_,h=>by have:=(h x).1 (by simp);cases this
 | x::a,y::b,ha,hb,h=>by
  have oF:=bj.1 ha
  have rU:=bj.1 hb
  have e:x=y:=by
   rcases av.1 ((h x).1 (by simp))with e|e
   ·exact e
   rcases av.1 ((h y).2 (by simp))with f|f
   ·exact f.symm
   have h1:=rU.1 x e
   have h2:=oF.1 y f
   rw[rO]at h1
   omega
  subst e
  rw[SF oF.2 rU.2 fun q=>?_]
  constructor
  ·intro hq
   rcases av.1 ((h q).1 (by simp[hq]))with e|e
   ·subst e;have:=oF.1 q hq;rw[q6]at this;omega
   ·exact e
  ·intro hq
   rcases av.1 ((h q).2 (by simp[hq]))with e|e
   ·subst e;have:=rU.1 q hq;rw[q6]at this;omega
   ·exact e
def To{a b:List Pos}(ha:kc a)(hb:kc b)(h:∀ q,q∈a↔q∈b):a=b:=SF ha.pw hb.pw h
def U5{x y:Pos}(h:x≠y)(h2:¬ gR x y<0):gR y x<0:=by
 have:gR x y≠0:=fun e=>h (pe.1 e)
 rw[rO];omega
theorem Rf(x:Pos):∀ r:List Pos,(r.Pairwise fun x y=>gR x y<0)→∃ r':List Pos,(r'.Pairwise fun x y=>gR x y<0)∧∀ q,q∈r'↔q=x∨q∈r
 | [],_=>⟨[x],by simp,by simp⟩
 | y::r,h=>by
  have h':=bj.1 h
  by_cases e:x=y
  ·subst e;exact⟨x::r,h,by simp⟩
  by_cases hl:gR x y<0
  ·refine⟨x::y::r,bj.2 ⟨fun z hz=>?_,h⟩,by simp⟩
   rcases av.1 hz with rfl|hz
   ·exact hl
   ·exact vp hl (h'.1 z hz)
  ·obtain⟨r',h1,h2⟩:=Rf x r h'.2
   refine⟨y::r',bj.2 ⟨fun z hz=>?_,h1⟩,fun q=>?_⟩
   ·rcases(h2 z).1 hz with rfl|hz
    ·exact U5 e hl
    ·exact h'.1 z hz
   ·simp only[av,h2]
    constructor
    ·rintro(h|h|h)<;>simp[h]
    ·rintro(h|h|h)<;>simp[h]
theorem IX:∀ l:List Pos,∃ r,kc r∧∀ q,q∈r↔q∈l
 | []=>⟨[],fun i h1 h2=>by simp at h2;omega,by simp⟩
 | x::l=>by
  obtain⟨r,h1,h2⟩:=IX l
  obtain⟨r',h3,h4⟩:=Rf x r h1.pw
  exact⟨r',kc.of h3,fun q=>by rw[h4,h2,av]⟩
noncomputable def jL(l:List Pos):List Pos:=Classical.choose (IX l)
def yE(l:List Pos):kc (jL l):=(cF (IX l)).1
@[simp] theorem sB{l:List Pos}{q:Pos}:q∈jL l↔q∈l:=(cF (IX l)).2 q
theorem Tm{l r:List Pos}(h:kc r)(hm:∀ q,q∈r↔q∈l):r=jL l:=To h (yE l) fun q=>by rw[hm,sB]
theorem Io{α:Type}[DecidableEq α]:∀ {l m:List α},l.Nodup→(∀ x∈l,x∈m)→l.length≤m.length
 | [],m,_,_=>by simp
 | a::l,m,hn,h=>by
  have hn:=List.nodup_cons.1 hn
  have h1:l.length≤(m.erase a).length:=Io hn.2 fun x hx=>by
   refine(List.mem_erase_of_ne ?_).2 (h x (by simp[hx]))
   rintro rfl;exact hn.1 hx
  rw[eu (h a (by simp))]at h1
  have:0<m.length:=eD (h a (by simp))
  simp;omega
def kc.nodup{l:List Pos}(h:kc l):l.Nodup:=h.pw.imp fun{a b} vH e=>by
 subst e;rw[q6]at vH;omega
def IW(l:List Pos):(jL l).length≤l.length:=Io (kc.nodup (yE l)) fun x hx=>sB.1 hx
def ended(g:eY)(p:Pos):Prop:=∃ c∈g.clauses,ke p c
def CS{g:eY}{p:Pos}(h:¬ ended g p):∀ c∈g.clauses,¬ ke p c:=fun c hc hl=>h ⟨c,hc,hl⟩
def GX(g:eY)(p:Pos):List Pos:=(upto g.kinds.length).flatMap fun k=>(upto p.cs.length).map fun c=>jv p k c
theorem xm{α β:Type}{f:α→List β}{n:Nat}:∀ {l:List α},(∀ a∈l,(f a).length≤n)→(l.flatMap f).length≤l.length*n
 | [],_=>by simp
 | a::l,h=>by
  rw[List.flatMap_cons,az,aO,bR]
  have:=h a (by simp)
  have:=xm (l:=l) fun b hb=>h b (by simp[hb])
  omega
theorem Tb{g:eY}:∀ {l:List fe} {a:List fg},(qm g l a).length≤10 ^ l.length*a.length
 | [],a=>by simp[qm]
 | x::r,a=>by
  rw[qm]
  refine Nat.le_trans Tb ?_
  rw[aO,dE,eP]
  refine dJ _ ?_
  rw[db]
  exact xm fun s _=>As
def ae4{g:eY}(hg:gh g){p:Pos}(hp:gG g p):(oJ g p).length≤3600000000:=by
 have hz:=hp.size
 have hb:=hg.iY.size
 have:(oJ g p).length≤(upto p.cs.length).length*400000000:=by
  refine xm fun c hc=>?_
  rw[ku]at hc
  unfold oq
  split
  ·rename_i e
   have fm:=Dq hg hp hc.1 (by omega) e
   have hk:=hg.iG _ (ft (l:=g.kinds) fm.kind.1 fm.kind.2)
   have h2:((gt g.kinds (fF (gt p.cs c))).iG.flatMap (rz g p c)).length≤(gt g.kinds (fF (gt p.cs c))).iG.length*100000000:=by
    refine xm fun l hl=>?_
    have h3:=(hk.2 l hl).len
    refine Nat.le_trans (dg _ _) (Nat.le_trans Tb ?_)
    have:10 ^ l.length≤10 ^ 8:=b9 (by decide) h3.2
    simpa using this
   have h4:(gt g.kinds (fF (gt p.cs c))).iG.length≤4:=hk.1
   omega
  ·simp
 have e:(upto p.cs.length).length=p.cs.length:=by simp[upto]
 rw[e]at this
 omega
def Vt{g:eY}(hg:gh g){p:Pos}(hp:gG g p):(GX g p).length≤18:=by
 have hz:=hp.size
 have hb:=hg.iY.size
 have hk:=hg.kinds
 have:(GX g p).length≤(upto g.kinds.length).length*9:=xm fun k _=>by
  simp[upto];omega
 have e:(upto g.kinds.length).length=g.kinds.length:=by simp[upto]
 rw[e]at this
 omega
def aak{g:eY}{p q:Pos}(h:pa g p q):q∈(oJ g p).map (·.p)++GX g p:=by
 obtain⟨_,h⟩:=h
 split at h
 ·exact List.mem_append.2 (.inl (aw.2 ⟨_,h,rfl⟩))
 ·rcases h with⟨o,h,rfl⟩|⟨k,c,h1,h2,h3,h4,_,_,rfl⟩
  ·exact List.mem_append.2 (.inl (aw.2 ⟨_,h,rfl⟩))
  ·exact List.mem_append.2 (.inr (bt.2 ⟨k,ku.2 ⟨h1,h2⟩,aw.2 ⟨c,ku.2 ⟨h3,h4⟩,rfl⟩⟩))
noncomputable def ig(g:eY)(p:Pos):List Pos:=jL (((oJ g p).map (·.p)++GX g p).filter fun q=>decide (pa g p q))
def aal(g:eY)(p:Pos):kc (ig g p):=yE _
@[simp] theorem yd{g:eY}{p q:Pos}:q∈ig g p↔pa g p q:=by
 unfold ig
 rw[sB,aP]
 simp only[decide_eq_true_eq]
 exact⟨fun h=>h.2,fun h=>⟨aak h,h⟩⟩
def Mj{g:eY}{p:Pos}{r:List Pos}(h:kc r)(hm:∀ q,q∈r↔pa g p q):r=ig g p:=To h (aal g p) fun q=>by rw[hm,yd]
def Ih{g:eY}{p:Pos}(h:ended g p):ig g p = []:=by
 refine cP.2 fun q hq=>?_
 obtain⟨c,hc,hl⟩:=h
 exact(yd.1 hq).1 c hc hl
@[irreducible] noncomputable def qJ(g:eY)(p:Pos):D:=if ended g p then .eU else gA (ig g p)
theorem Ig(g:eY)(p:Pos):(qJ g p = .eU∧ig g p = [])∨qJ g p=gA (ig g p):=by
 unfold qJ
 split
 ·rename_i h;exact .inl ⟨rfl,Ih h⟩
 ·exact .inr rfl
def wi{g:eY}(hg:gh g){p:Pos}(hp:gG g p):(ig g p).length≤4000000000:=by
 refine Nat.le_trans (IW _) (Nat.le_trans (List.length_filter_le _ _) ?_)
 have:=ae4 hg hp
 have:=Vt hg hp
 simp;omega
section
variable{g:eY}{p:Pos}{n:Int}{k:IntKind}{P:D→Prop}{H:U}
@[simp] theorem U2:closed (qJ g p)=true:=by rcases Ig g p with⟨h,_⟩|h<;>rw[h]<;>simp
@[simp] theorem ang:oj .slice (qJ g p) H=some (.i (ig g p).length):=by rcases Ig g p with⟨h,e⟩|h<;>rw[h]<;>simp[*]
@[simp] theorem aqy:j' 5 H (qJ g p)=some (cl Pos.cells (ig g p),(ig g p).length):=by rcases Ig g p with⟨h,e⟩|h<;>rw[h]<;>simp[*]
@[simp] theorem aqW(n:Nat):iH n (qJ g p) = []:=I8 n U2
@[simp] theorem an6:oA (mz 5 (qJ g p) (.val (.int k n))) P .mk=((0≤n∧n<(ig g p).length)∧P (.fj (gt (ig g p) n).cells)):=by
 rcases Ig g p with⟨h,e⟩|h
 ·rw[h,e]
  simp only[mz,Se,cO]
  refine propext ⟨fun h=>h.elim,fun⟨h,_⟩=>?_⟩
  have:=h.1;have:=h.2;simp at this;omega
 ·rw[h];exact uK
end
noncomputable def q7(g:eY)(p:Pos):Int:=if ended g p then(g.clauses.findIdx fun c=>decide (ke p c):Nat)else -1
def Pj{g:eY}{p:Pos}(h:ended g p):0≤q7 g p∧q7 g p<g.clauses.length∧gt g.clauses (q7 g p)∈g.clauses:=by
 unfold q7
 rw[if_pos h]
 have:(g.clauses.findIdx fun c=>decide (ke p c))<g.clauses.length:=by
  rw[List.findIdx_lt_length]
  obtain⟨c,hc,hl⟩:=h
  exact⟨c,hc,by simpa using hl⟩
 exact ql (ft (by omega) (by omega))
def Pk{g:eY}{p:Pos}(h:¬ ended g p):q7 g p = -1:=by unfold q7;rw[if_neg h]
def G0{g:eY}{p:Pos}:0≤q7 g p↔ended g p:=by
 by_cases h:ended g p
 ·exact⟨fun _=>h,fun _=>(Pj h).1⟩
 ·rw[Pk h];simp[h]
noncomputable def stat(g:eY)(p:Pos):Int×Bool:=(if ended g p then(gt g.clauses (q7 g p)).out else if ig g p = []then g.blocked else 0,decide (ig g p = []))
end Go.AL
namespace Go.Proofs.YtmehofoficaelaaGreatDoor
open Go Go.AL Classical
set_option maxRecDepth 10000
set_option maxHeartbeats 1000000
def PC(p:Pos)(hp:Small p):Wf T 205 [dP p] [] (fun d H=>d = .agg [.eX 0 1 1 0 p.cs.length,dI p.h0,dI p.h1,.i p.fH,.i p.side]∧H = [.row 3 1 (cl f1 p.cs)]):=by
 obtain⟨h1,h2,h3⟩:=hp
 refine Wf.xo 3 (fn:=u5) rfl (by simp[u5]) ?_
 simp[u5]
 (with_reducible repeat' first|refine Xk ?_<;>try simp|refine Xs ?_ ?_<;>intro h<;>(try intro h')<;>(try simp[h])<;>try omega|refine Xg ?_|omega)
@[irreducible] def fA(a:List fg):List D:=[jH a]
theorem xh(a:List fg):fA a = [jH a]:=by unfold fA;rfl
instance:Fl fA 1:=⟨fun _=>by simp[xh],fun _=>by simp[xh,fE]⟩
@[simp] theorem akw(l:List (List fg))(x:List fg):cl fA l ++ [jH x]=cl fA (l ++ [x]):=by rw[← oR,xh]
theorem UJ(x:List fg) : [jH x]=cl fA [x]:=by rw[na,xh];simp
def nk(g:eY)(x:fe)(now:List fg):List fg:=now.foldl (fun acc s=>lh acc (im g s x)) []
def nX(g:eY):List fe→List fg→List (List fg)
 | [],_=>[]
 | x::r,now=>nk g x now::nX g r (nk g x now)
theorem PX{g:eY}{x:fe}{t:fg}:∀ {now acc:List fg},t∈now.foldl (fun acc s=>lh acc (im g s x)) acc↔t∈acc∨t∈now.flatMap fun s=>im g s x
 | [],acc=>by simp
 | s::r,acc=>by
  rw[bV,PX,A5,List.flatMap_cons,List.mem_append,or_assoc]
def Ij{g:eY}{x:fe}{now:List fg}{t:fg}:t∈nk g x now↔t∈now.flatMap fun s=>im g s x:=by
 unfold nk;rw[PX];simp
theorem PW{g:eY}{x:fe}:∀ {now acc:List fg},(now.foldl (fun acc s=>lh acc (im g s x)) acc).length≤acc.length+10*now.length
 | [],acc=>by simp
 | s::r,acc=>by
  rw[bV]
  refine Nat.le_trans PW ?_
  have:=A4 (a:=acc) (b:=im g s x)
  have:=As (g:=g) (s:=s) (x:=x)
  rw[aO];omega
def CQ{g:eY}{x:fe}{now:List fg}:(nk g x now).length≤10*now.length:=by
 unfold nk
 refine Nat.le_trans PW ?_
 simp
theorem Tr{g:eY}:∀ {l:List fe} {now:List fg},(nX g l now).length=l.length
 | [],_=>rfl
 | x::r,now=>by rw[nX,aO,Tr,aO]
def f194(g:eY)(hg:gh g)(p:Pos)(hp:gG g p)(c i:Int)(hc:0≤c∧c<g.size)(hm:jo (gt p.cs c)=p.side)(hi:0≤i∧i<(gt g.kinds (fF (gt p.cs c))).iG.length) :
  Wf T 254 [dG g,dP p,.i c,.i i] [] (Is (.agg [.sl 1 (([kF p c]::nX g (gt (gt g.kinds (fF (gt p.cs c))).iG i) [kF p c]).map fA),.i 0])):=by
 have gV:=hp.size
 have jR:=hp.small hg
 have iL:=hp.cs _ (ft hc.1 (by omega))
 have iE:=hp.side
 obtain⟨m1,m2,m3,m4⟩:=CJ iE.1 hm
 have hk:fF (gt p.cs c)<g.kinds.length:=uI iL.2 hg.kinds.1
 refine Yz AP (iu 117 [10] AP.body) ?_
 simp[AP,iu,jJ,mj,mn,mG,ln]
 refine Yc (f65 g p hg hp) ?_
 simp
 (with_reducible repeat' first|refine Xk ?_<;>try simp|refine Xs ?_ ?_<;>intro h<;>(try intro h')<;>(try simp[h])<;>try omega|refine Xg ?_|omega)
 refine Yc (f51 _) ?_
 simp
 (with_reducible repeat' first|refine Xk ?_<;>try simp|refine Xs ?_ ?_<;>intro h<;>(try intro h')<;>(try simp[h])<;>try omega|refine Xg ?_|omega)
 rotate_right
 refine sO.n rfl rfl (PC p jR) (by simp) (by simp) ?_
 simp
 (with_reducible repeat' first|refine Xk ?_<;>try simp|refine Xs ?_ ?_<;>intro h<;>(try intro h')<;>(try simp[h])<;>try omega|refine Xg ?_|omega)
 refine fh.fz [0,1,3,4,5,6,8] rfl ?_
 have q0:=il (l:=p.cs) (n:=c) (v:=0) hc.1 (by omega)
 have fm:jA g (kF p c):=Dq hg hp hc.1 hc.2 hm
 have Lh:=hg.iG _ (ft (l:=g.kinds) m1 hk)
 generalize pK:gt (gt g.kinds (fF (gt p.cs c))).iG i=prog at *
 have xR:tP g prog:=Lh.2 _ (pK▸ft hi.1 hi.2)
 have QQ:=xR.len
 refine fh.k ((0,[[kF p c]],[kF p c]):Int×List (List fg)×List fg) (fun x=>[(4,.fj g.cells),(8,.ptr 2 0 0),(11,.ptr 9 0 0),(12,jH x.2.2),(13,gS prog),(14,.i x.1)]) (fun x=>[.dead,.dead,.row 369 0 [.eU,.i 0],.dead,.dead,.dead,.dead,.row 371 x.1.toNat (cl fA x.2.1),.dead,.row 369 0 [.eX 7 x.1.toNat 1 0 x.2.1.length,.i 0]])
  (fun x=>0≤x.1∧x.1≤prog.length∧x.2.1.length=x.1.toNat+1∧(∀ s∈x.2.2,jA g s)∧x.2.2.length≤10 ^ x.1.toNat∧[kF p c]::nX g prog [kF p c]=x.2.1++nX g (prog.drop x.1.toNat) x.2.2) (fun x=>prog.length-x.1.toNat) ?_ ?_ ?_ rfl rfl (by simp) ?_
 ·simp;exact fm
 ·simp[kF,q0]
 ·simp[kF,← UJ,q0]
 rintro⟨k,steps,now⟩ ⟨k0,k1,k2,k3,k4,k5⟩
 dsimp only at k0 k1 k2 k3 k4 k5 ⊢
 simp
 (with_reducible repeat' first|refine Xk ?_<;>try simp|refine Xs ?_ ?_<;>intro h<;>(try intro h')<;>(try simp[h])<;>try omega|refine Xg ?_|omega)
 ·refine fh.e ((0,0,[]):Int×Nat×List fg) (fun x=>[(4,.fj g.cells),(8,.ptr 2 0 0),(11,.ptr 9 0 0),(12,jH now),(13,gS prog),(14,.i k),(15,.eX 10 x.2.1 8 0 x.2.2.length),(16,.i x.1)]) (fun x=>[.dead,.dead,.row 369 0 [.eU,.i 0],.dead,.dead,.dead,.dead,.row 371 k.toNat (cl fA steps),.dead,.row 369 0 [.eX 7 k.toNat 1 0 steps.length,.i 0],.row 373 x.2.1 (cl fg.cells x.2.2)]) (fun x=>0≤x.1∧x.1≤now.length∧(∀ s∈x.2.2,jA g s)∧x.2.2.length≤10*x.1.toNat∧nk g (gt prog k) now=(now.drop x.1.toNat).foldl (fun acc s=>lh acc (im g s (gt prog k))) x.2.2) (fun x=>now.length-x.1.toNat) ?_ ?_
  ·simp[nk]
  rintro⟨j,gn,acc⟩ ⟨j0,j1,j2,j3,j4⟩
  dsimp only at j0 j1 j2 j3 j4 ⊢
  simp
  (with_reducible repeat' first|refine Xk ?_<;>try simp|refine Xs ?_ ?_<;>intro h<;>(try intro h')<;>(try simp[h])<;>try omega|refine Xg ?_|omega)
  ·refine Yt (f228 g hg _ (k3 _ (ft j0 ‹_›)) _ (xR.steps _ (ft k0 ‹_›))) ?_
   simp
   have eZ:=k3 _ (ft j0 ‹_›)
   refine fG.rr rfl rfl (f227 10 gn acc (im g (gt now j) (gt prog k)) _ rfl (by simp) (fun s hs=>(j2 s hs).p.small hg) (fun s hs=>(yH hg eZ (xR.steps _ (ft k0 ‹_›)) hs).p.small hg) ?_) ?_
   ·have h1:=As (g:=g) (s:=gt now j) (x:=gt prog k)
    have h2:10 ^ k.toNat≤10 ^ 8:=b9 (by decide) (by omega)
    omega
   rintro d H' ⟨Hh,rfl,rfl⟩
   simp
   have h2:10 ^ k.toNat≤10 ^ 8:=b9 (by decide) (by omega)
   (with_reducible repeat' first|refine Xk ?_<;>try simp|refine Xs ?_ ?_<;>intro h<;>(try intro h')<;>(try simp[h])<;>try omega|refine Xg ?_|omega)
   refine LJ.e (j+1,Hh,lh acc (im g (gt now j) (gt prog k))) ?_
   refine⟨by dsimp only;omega,by dsimp only;omega,by dsimp only;omega,fun s hs=>?_,?_,?_⟩
   ·rcases A5.1 hs with hs|hs
    ·exact j2 s hs
    ·exact yH hg eZ (xR.steps _ (ft k0 ‹_›)) hs
   ·have h1:=As (g:=g) (s:=gt now j) (x:=gt prog k)
    have h3:=A4 (a:=acc) (b:=im g (gt now j) (gt prog k))
    dsimp only
    omega
   ·rw[j4,mM j0 ‹_›,bV,show(j+1).toNat=j.toNat+1 by omega]
  ·have e:nk g (gt prog k) now=acc:=by rw[j4,bh (by omega)];rfl
   (with_reducible repeat' first|refine Xk ?_<;>try simp|refine Xs ?_ ?_<;>intro h<;>(try intro h')<;>(try simp[h])<;>try omega|refine Xg ?_|omega)
   refine LJ.i (k+1,steps ++ [acc],acc) (by first|rfl|simp[show(k+1).toNat=k.toNat+1 by omega]) (by first|rfl|simp[show(k+1).toNat=k.toNat+1 by omega]) rfl rfl ?_
   refine⟨by dsimp only;omega,by dsimp only;omega,by dsimp only;omega,by simp;omega,j2,?_,?_⟩
   ·have h3:=CQ (g:=g) (x:=gt prog k) (now:=now)
    rw[e]at h3
    dsimp only
    rw[show(k+1).toNat=k.toNat+1 by omega,dE]
    omega
   ·rw[k5,mM k0 ‹_›,nX,e,show(k+1).toNat=k.toNat+1 by omega]
    simp
 ·rw[bh (by omega),nX,aA]at k5
  rw[← k5];simp
def ZU{a b:fV}(h1:¬ CF a b)(h2:¬ CF b a):a=b:=by
 unfold CF at *
 have e:=rO a.p b.p
 have h:gR a.p b.p=0:=by
  by_cases h:gR a.p b.p=0
  ·exact h
  ·exfalso
   by_cases h3:gR a.p b.p<0
   ·exact h1 (.inl h3)
   ·exact h2 (.inl (by omega))
 have h':gR b.p a.p=0:=by omega
 simp[h,h']at h1 h2
 have:=pe.1 h
 cases a;cases b
 simp_all
 rename_i x y _
 cases x<;>cases y<;>simp_all
structure Gg(l:List fV)(x:fV)(i:Int)(d:Bool)(out:List fV):Prop where
 i0:0≤i∧i≤l.length
 dn:d=true→x∈out
 sub:∀ o∈out,o∈l.take i.toNat∨o=x
 sup:∀ o∈l.take i.toNat,o∈out
 len:out.length≤i.toNat+(if d then 1 else 0)
def Gg.step{l:List fV}{x:fV}{i:Int}{d d':Bool}{out:List fV}(h:Gg l x i d out)(hi:i<l.length)(xs:List fV)(hx:∀ o∈xs,o=x)(hd:d'=true→d=true∨x∈xs∨gt l i=x)(hl:xs.length+(if d then 1 else 0)≤(if d' then 1 else 0)):Gg l x (i+1) d' (out++xs ++ [gt l i]):=by
 have h0:=h.i0
 refine⟨by omega,fun e=>?_,fun o ho=>?_,fun o ho=>?_,?_⟩
 ·rcases hd e with e|e|e
  ·have:=h.dn e;simp[this]
  ·simp[e]
  ·simp[e]
 ·rw[iD h0.1 hi]
  simp at ho ⊢
  rcases ho with ho|ho|ho
  ·rcases h.sub o ho with h|h
   ·exact .inl (.inl h)
   ·exact .inr h
  ·exact .inr (hx o ho)
  ·exact .inl (.inr ho)
 ·rw[iD h0.1 hi]at ho
  simp at ho ⊢
  rcases ho with ho|ho
  ·exact .inl (h.sup o ho)
  ·exact .inr (.inr ho)
 ·have:=h.len
  simp
  omega
def f195(l:List fV)(x:fV)(hl:l.length<2 ^ 39)(hs:∀ o∈l,Small o.p)(hx:Small x.p):Wf T 255 [mD l,.agg x.cells] [] (Ex mD fun r=>(∀ o,o∈r↔o∈l∨o=x)∧r.length≤l.length+1):=by
 refine Yg E6 ?_
 simp[E6]
 refine fh.e ((0,false,[]):Int×Bool×List fV) (fun y=>[(0,mD l),(3,.ptr 0 0 0),(5,.eX 1 y.2.2.length 6 0 y.2.2.length),(6,.b y.2.1),(7,.i y.1)]) (fun y=>[.row 259 0 x.cells,.row 259 y.2.2.length (cl fV.cells y.2.2)]) (fun y=>Gg l x y.1 y.2.1 y.2.2) (fun y=>l.length-y.1.toNat) ?_ ?_
 ·exact⟨by simp,by simp,by simp,by simp,by simp⟩
 rintro⟨i,done,out⟩ hI
 have h0:=hI.i0
 have h5:=hI.len
 have h6:(if done=true then 1 else 0)≤1:=by split<;>omega
 dsimp only at hI h0 h5 ⊢
 simp
 (with_reducible repeat' first|refine Xk ?_<;>try simp|refine Xs ?_ ?_<;>intro h<;>(try intro h')<;>(try simp[h])<;>try omega|refine Xg ?_|omega)
 ·refine LJ.e (i+1,true,out ++ [gt l i]) ?_
  subst h
  have:=hI.step ‹_› [] (d':=true) (by simp) (by simp) (by simp)
  simp at this
  exact⟨by simp;omega,this⟩
 ·have hd:=h
  refine Yt (f229 _ _ (hs _ (ft h0.1 ‹_›)) hx) ?_
  simp[h]
  (with_reducible repeat' first|refine Xk ?_<;>try simp[hd]|refine Xs ?_ ?_<;>intro h<;>(try intro h')<;>(try simp[h,hd])<;>try omega|refine Xg ?_|omega)
  ·subst hd
   have:=hI.step ‹_› [] (d':=false) (by simp) (by simp) (by simp)
   simp at this
   refine LJ.e (i+1,false,out ++ [gt l i]) ?_
   exact⟨by simp;omega,this⟩
  ·refine Yt (f229 _ _ hx (hs _ (ft h0.1 ‹_›))) ?_
   simp[hd]
   (with_reducible repeat' first|refine Xk ?_<;>try simp[hd]|refine Xs ?_ ?_<;>intro h<;>(try intro h')<;>(try simp[h,hd])<;>try omega|refine Xg ?_|omega)
   ·subst hd
    have:=hI.step ‹_› [x] (d':=true) (by simp) (by simp) (by simp)
    refine LJ.e (i+1,true,out ++ [x] ++ [gt l i]) ?_
    exact⟨by simp;omega,this⟩
   ·subst hd
    have e:=ZU (a:=gt l i) (b:=x) ‹_› ‹_›
    have:=hI.step ‹_› [] (d':=true) (by simp) (by simp[e]) (by simp)
    simp at this
    refine LJ.e (i+1,true,out ++ [gt l i]) ?_
    exact⟨by simp;omega,this⟩
 ·subst h
  have h3:=hI.sub
  have h4:=hI.sup
  rw[ky (by omega)]at h3 h4
  refine⟨out,rfl,fun o=>⟨h3 o,fun h=>?_⟩,by simp at h5;omega⟩
  rcases h with h|h
  ·exact h4 o h
  ·rw[h];exact hI.dn rfl
 ·subst h
  have h3:=hI.sub
  have h4:=hI.sup
  rw[ky (by omega)]at h3 h4
  refine⟨out ++ [x],by simp[mD],fun o=>?_,by simp at h5;simp;omega⟩
  simp
  constructor
  ·rintro(h|h)
   ·exact h3 o h
   ·exact .inr h
  ·rintro(h|h)
   ·exact .inl (h4 o h)
   ·exact .inr h
theorem RA{g:eY}:∀ {l:List fe} {now:List fg} {t:fg},t∈gt (now::nX g l now) l.length↔t∈qm g l now
 | [],now,t=>by simp[nX,qm,gt]
 | x::r,now,t=>by
  have e:gt (now::nX g (x::r) now) (x::r).length=gt (nk g x now::nX g r (nk g x now)) r.length:=by
   rw[nX]
   unfold gt
   simp only[aO,dY,List.getD_cons_succ]
  rw[e,RA,qm]
  exact Ta (fun s=>Ij) t
theorem Rz{g:eY}:∀ {l:List fe} {now:List fg},(gt (now::nX g l now) l.length).length≤10 ^ l.length*now.length
 | [],now=>by simp[nX,gt]
 | x::r,now=>by
  have e:gt (now::nX g (x::r) now) (x::r).length=gt (nk g x now::nX g r (nk g x now)) r.length:=by
   rw[nX]
   unfold gt
   simp only[aO,dY,List.getD_cons_succ]
  rw[e]
  refine Nat.le_trans Rz ?_
  rw[aO,dE,eP]
  exact dJ _ CQ
def f154(g:eY)(hg:gh g)(p:Pos)(hp:gG g p)(c i:Int)(hc:0≤c∧c<g.size)(hm:jo (gt p.cs c)=p.side)(hi:0≤i∧i<(gt g.kinds (fF (gt p.cs c))).iG.length) :
  Wf T 204 [dG g,dP p,.i c,.i i] [] (Ex (fun r=>.tup [mD r,.i 0]) fun r=>(∀ o,o∈r↔o∈rz g p c (gt (gt g.kinds (fF (gt p.cs c))).iG i))∧r.length≤10 ^ 8):=by
 have iL:=hp.cs _ (ft hc.1 (by have:=hp.size;omega))
 have iE:=hp.side
 obtain⟨m1,m2,m3,m4⟩:=CJ iE.1 hm
 have hk:fF (gt p.cs c)<g.kinds.length:=uI iL.2 hg.kinds.1
 have fm:jA g (kF p c):=Dq hg hp hc.1 hc.2 hm
 have Lh:=hg.iG _ (ft (l:=g.kinds) m1 hk)
 have c1:=f194 g hg p hp c i hc hm hi
 generalize pK:gt (gt g.kinds (fF (gt p.cs c))).iG i=prog at *
 have xR:tP g prog:=Lh.2 _ (pK▸ft hi.1 hi.2)
 have QQ:=xR.len
 have mR:∀ t,t∈gt ([kF p c]::nX g prog [kF p c]) prog.length↔t∈qm g prog [kF p c]:=fun t=>RA
 have K5:=Rz (g:=g) (l:=prog) (now:=[kF p c])
 have h8:10 ^ prog.length≤10 ^ 8:=b9 (by decide) QQ.2
 have qf:=Tr (g:=g) (l:=prog) (now:=[kF p c])
 generalize hS : [kF p c]::nX g prog [kF p c]=S at *
 have xu:S.length=prog.length+1:=by rw[← hS];simp[qf]
 refine Yz AO (iu 70 [5] AO.body) ?_
 simp[AO,iu,jJ,mj,mn,mG,ln]
 refine Yc (c1) ?_
 simp
 (with_reducible repeat' first|refine Xk ?_<;>try simp[xh]|refine Xs ?_ ?_<;>intro h<;>(try intro h')<;>(try simp[h,xh])<;>try omega|refine Xg ?_|omega)
 rw[show(S.length:Int)-1=prog.length by omega]
 generalize gt S (prog.length:Int)=L at *
 have eZ:∀ s∈L,jA g s:=fun s hs=>II hg xR.steps (fun t ht=>by rw[List.mem_singleton]at ht;subst ht;exact fm) s ((mR s).1 hs)
 have hL8:L.length≤100000000:=by simp at K5;omega
 simp[xh]
 (with_reducible repeat' first|refine Xk ?_<;>try simp|refine Xs ?_ ?_<;>intro h<;>(try intro h')<;>(try simp[h])<;>try omega|refine Xg ?_|omega)
 refine fh.fz [0,2,3] rfl ?_
 refine fh.e ((0,[]):Int×List fV) (fun y=>[(5,.ptr 1 0 0),(11,mD y.2),(12,jH L),(13,.i y.1)]) (fun y=>[.dead,.row 46 0 p.cells,.dead,.dead]) (fun y=>0≤y.1∧y.1≤L.length∧(∀ o,o∈y.2↔o∈(L.take y.1.toNat).filterMap (mN p.side))∧y.2.length≤y.1.toNat) (fun y=>L.length-y.1.toNat) ?_ ?_
 ·simp
 rintro⟨j,out⟩ ⟨j0,j1,j2,j3⟩
 dsimp only at j0 j1 j2 j3 ⊢
 simp
 (with_reducible repeat' first|refine Xk ?_<;>try simp|refine Xs ?_ ?_<;>intro h<;>(try intro h')<;>(try simp[h])<;>try omega|refine Xg ?_|omega)
 ·have hs:=eZ _ (ft j0 ‹_›)
  have vT:=hs.p.small hg
  have hz:=hs.p.size
  have XA:=hs.cur
  have XW:=hs.kind
  have kL:=hg.kinds
  generalize Qy:gt L j=s at *
  (with_reducible repeat' first|refine Xk ?_<;>try simp|refine Xs ?_ ?_<;>intro h<;>(try intro h')<;>(try simp[h])<;>try omega|refine Xg ?_|omega)
  ·have q:=il (l:=s.p.cs) (n:=s.cur) (v:=1+2*s.kind+p.side) XA.1 (by omega)
   refine Yn (PC s.p vT) ?_
   simp
   refine Yt (f156 (k:=s.kind) (s:=p.side) XW.1 (by omega) iE.1 iE.2) ?_
   simp[q]
   (with_reducible repeat' first|refine Xk ?_<;>try simp[q]|refine Xs ?_ ?_<;>intro h<;>(try intro h')<;>(try simp[h,q])<;>try omega|refine Xg ?_|omega)
   generalize ho:({ p:=⟨pt s.p.cs s.cur (1+2*s.kind+p.side),s.p.h0,s.p.h1,s.p.fH,1-p.side⟩,jb:=s.jb }:fV)=o
   have ib:mN p.side s=some o:=by rw[mN,if_pos ‹_›,← ho];rfl
   have pk:Small o.p:=gG.small hg (G9 hs iE.1 iE.2 ib)
   have jR:∀ o∈out,Small o.p:=fun o ho=>by
    obtain⟨t,ht,h3⟩:=b6.1 ((j2 o).1 ho)
    exact gG.small hg (G9 (eZ t (aN ht)) iE.1 iE.2 h3)
   have c2:=f195 out o (by omega) jR pk
   rw[← ho]at c2
   refine fG.q rfl rfl c2 (by simp) (fun _=>by simp) ?_
   intro r hr
   simp
   rw[ho]at hr
   (with_reducible repeat' first|refine Xk ?_<;>try simp|refine Xs ?_ ?_<;>intro h<;>(try intro h')<;>(try simp[h])<;>try omega|refine Xg ?_|omega)
   refine LJ.e (j+1,r) ?_
   refine⟨by dsimp only;omega,by dsimp only;omega,by dsimp only;omega,fun x=>?_,by dsimp only;omega⟩
   rw[hr.1,j2,iD j0 ‹_›,Qy]
   simp[ib,eq_comm]
  ·(with_reducible repeat' first|refine Xk ?_<;>try simp|refine Xs ?_ ?_<;>intro h<;>(try intro h')<;>(try simp[h])<;>try omega|refine Xg ?_|omega)
   refine LJ.e (j+1,out) ?_
   refine⟨by dsimp only;omega,by dsimp only;omega,by dsimp only;omega,fun x=>?_,by dsimp only;omega⟩
   rw[j2,iD j0 ‹_›,Qy]
   have:mN p.side s=none:=by rw[mN,if_neg ‹_›]
   simp[this]
 ·rw[ky (by omega)]at j2
  refine⟨out,rfl,fun o=>?_,?_⟩
  ·rw[j2,rz]
   simp only[b6,mR]
  ·omega
