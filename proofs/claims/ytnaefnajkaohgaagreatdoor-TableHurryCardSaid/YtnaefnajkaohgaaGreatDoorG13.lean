/- Part 13 of TableHurry. -/
import Derived.Test.YtnaefnajkaohgaaGreatDoorG12
set_option linter.all false
namespace Go.AL
open Go Classical
theorem gZ{α:Type}{f:α→List D}(a:α):cl f [a]=f a:=by rw[nb,O7,av]
theorem eF.e{T:fH}{live:List Nat}{a:IR}{s:St}{K:gp}{α:Type}(x0:α)(E:α→Env)(Hp:α→et)(P:α→Prop)(μ:α→Nat)(h0:P x0)
  (h:∀ x,P x→XC T a { env:=E x,H:=Hp x } (uG s.H.length live ((E x0).map (·.1)) (LJ E Hp [] false (fun x'=>μ x'<μ x∧P x') .mk) K))
  (hE:forget ((E x0).map (·.1)) s.env=E x0:=by simp) (hH:s.H=Hp x0:=by first|rfl|(simp[gZ];done)|(simp[*];done)) (hm:s.marks = []:=by exact rfl) (hr:s.fV=false:=by exact rfl) (um:(((E x0).map (·.1)).all fun k=>live.contains k)=true:=by exact rfl):eF T live a s K .mk:=eF.k x0 E Hp P μ h0 hE hH hm hr um h
theorem iI.pw{l:List Pos}(h:iI l):l.Pairwise fun x y=>fG x y<0:=by
 refine bj.2 fun i j hi hj mL=>?_
 have:=h.le (i:=(i:Int)) (j:=(j:Int)) (by omega) (by omega) (by omega)
 rwa [Dc hi,Dc hj]at this
theorem iI.of{r:List Pos}(h:r.Pairwise fun x y=>fG x y<0):iI r:=by
 intro i h1 h2
 rw[lP (by omega) (by omega),lP (by omega) (by omega)]
 exact bj.1 h _ _ _ _ (by omega)
theorem Nq:∀ {a b:List Pos},(a.Pairwise fun x y=>fG x y<0)→(b.Pairwise fun x y=>fG x y<0)→(∀ q,q∈a↔q∈b)→a=b
 | [],[],_,_,_=>rfl
 | [],y::b,_,_,h=>by have:=(h y).2 (by simp);cases this
 | x::a,[],_,_,h=>by have:=(h x).1 (by simp);cases this
 | x::a,y::b,ha,hb,h=>by
  have nL:=a7.1 ha
  have oc:=a7.1 hb
  have e:x=y:=by
   rcases ax.1 ((h x).1 (by simp))with e|e
   ·exact e
   rcases ax.1 ((h y).2 (by simp))with f|f
   ·exact f.symm
   have h1:=oc.1 x e
   have h2:=nL.1 y f
   rw[pj]at h1
   omega
  subst e
  rw[Nq nL.2 oc.2 fun q=>?_]
  constructor
  ·intro hq
   rcases ax.1 ((h q).1 (by simp[hq]))with e|e
   ·subst e;have:=nL.1 q hq;rw[oQ]at this;omega
   ·exact e
  ·intro hq
   rcases ax.1 ((h q).2 (by simp[hq]))with e|e
   ·subst e;have:=oc.1 q hq;rw[oQ]at this;omega
   ·exact e
theorem N1{a b:List Pos}(ha:iI a)(hb:iI b)(h:∀ q,q∈a↔q∈b):a=b:=Nq ha.pw hb.pw h
theorem Pg{x y:Pos}(h:x≠y)(h2:¬ fG x y<0):fG y x<0:=by
 have:fG x y≠0:=fun e=>h (mI.1 e)
 rw[pj];omega
theorem Mg(x:Pos):∀ r:List Pos,(r.Pairwise fun x y=>fG x y<0)→∃ r':List Pos,(r'.Pairwise fun x y=>fG x y<0)∧∀ q,q∈r'↔q=x∨q∈r
 | [],_=>⟨[x],by simp,by simp⟩
 | y::r,h=>by
  have h':=a7.1 h
  by_cases e:x=y
  ·subst e;exact⟨x::r,h,by simp⟩
  by_cases hl:fG x y<0
  ·refine⟨x::y::r,a7.2 ⟨fun z hz=>?_,h⟩,by simp⟩
   rcases ax.1 hz with rfl|hz
   ·exact hl
   ·exact sr hl (h'.1 z hz)
  ·obtain⟨r',h1,h2⟩:=Mg x r h'.2
   refine⟨y::r',a7.2 ⟨fun z hz=>?_,h1⟩,fun q=>?_⟩
   ·rcases(h2 z).1 hz with rfl|hz
    ·exact Pg e hl
    ·exact h'.1 z hz
   ·simp only[ax,h2]
    constructor
    ·rintro(h|h|h)<;>simp[h]
    ·rintro(h|h|h)<;>simp[h]
theorem EK:∀ l:List Pos,∃ r,iI r∧∀ q,q∈r↔q∈l
 | []=>⟨[],fun i h1 h2=>by simp at h2;omega,by simp⟩
 | x::l=>by
  obtain⟨r,h1,h2⟩:=EK l
  obtain⟨r',h3,h4⟩:=Mg x r h1.pw
  exact⟨r',iI.of h3,fun q=>by rw[h4,h2,ax]⟩
noncomputable def iv(l:List Pos):List Pos:=Classical.choose (EK l)
theorem u0(l:List Pos):iI (iv l):=(bL (EK l)).1
@[simp] theorem pR{l:List Pos}{q:Pos}:q∈iv l↔q∈l:=(bL (EK l)).2 q
theorem NZ{l r:List Pos}(h:iI r)(hm:∀ q,q∈r↔q∈l):r=iv l:=N1 h (u0 l) fun q=>by rw[hm,pR]
theorem D6{α:Type}[DecidableEq α]:∀ {l m:List α},l.Nodup→(∀ x∈l,x∈m)→l.length≤m.length
 | [],m,_,_=>by simp
 | a::l,m,hn,h=>by
  have hn:=List.nodup_cons.1 hn
  have h1:l.length≤(m.erase a).length:=D6 hn.2 fun x hx=>by
   refine(List.mem_erase_of_ne ?_).2 (h x (by simp[hx]))
   rintro rfl;exact hn.1 hx
  rw[dJ (h a (by simp))]at h1
  have:0<m.length:=dQ (h a (by simp))
  simp;omega
theorem iI.nodup{l:List Pos}(h:iI l):l.Nodup:=h.pw.imp fun{a b} vN e=>by
 subst e;rw[oQ]at vN;omega
theorem EJ(l:List Pos):(iv l).length≤l.length:=D6 (iI.nodup (u0 l)) fun x hx=>pR.1 hx
def ended(g:ey)(p:Pos):Prop:=∃ c∈g.clauses,kX p c
theorem zd{g:ey}{p:Pos}(h:¬ ended g p):∀ c∈g.clauses,¬ kX p c:=fun c hc hl=>h ⟨c,hc,hl⟩
def CS(g:ey)(p:Pos):List Pos:=(upto g.kinds.length).flatMap fun k=>(upto p.cs.length).map fun c=>hJ p k c
theorem tR{α β:Type}{f:α→List β}{n:Nat}:∀ {l:List α},(∀ a∈l,(f a).length≤n)→(l.flatMap f).length≤l.length*n
 | [],_=>by simp
 | a::l,h=>by
  rw[List.flatMap_cons,az,aJ,bM]
  have:=h a (by simp)
  have:=tR (l:=l) fun b hb=>h b (by simp[hb])
  omega
theorem NP{g:ey}:∀ {l:List eI} {a:List eE},(nP g l a).length≤10 ^ l.length*a.length
 | [],a=>by simp[nP]
 | x::r,a=>by
  rw[nP]
  refine Nat.le_trans NP ?_
  rw[aJ,dm,ef]
  refine dq _ ?_
  rw[cN]
  exact tR fun s _=>wO
theorem YW{g:ey}(hg:eW g){p:Pos}(hp:fo g p):(mf g p).length≤3600000000:=by
 have hz:=hp.size
 have hb:=hg.gH.size
 have:(mf g p).length≤(upto p.cs.length).length*400000000:=by
  refine tR fun c hc=>?_
  rw[iR]at hc
  unfold lX
  split
  ·rename_i e
   have eJ:=zO hg hp hc.1 (by omega) e
   have hk:=hg.fZ _ (eH (l:=g.kinds) eJ.kind.1 eJ.kind.2)
   have h2:((gt g.kinds (eS (gt p.cs c))).fZ.flatMap (o7 g p c)).length≤(gt g.kinds (eS (gt p.cs c))).fZ.length*100000000:=by
    refine tR fun l hl=>?_
    have h3:=(hk.2 l hl).len
    refine Nat.le_trans (cP _ _) (Nat.le_trans NP ?_)
    have:10 ^ l.length≤10 ^ 8:=bX (by decide) h3.2
    simpa using this
   have h4:(gt g.kinds (eS (gt p.cs c))).fZ.length≤4:=hk.1
   omega
  ·simp
 have e:(upto p.cs.length).length=p.cs.length:=by simp[upto]
 rw[e]at this
 omega
theorem PF{g:ey}(hg:eW g){p:Pos}(hp:fo g p):(CS g p).length≤18:=by
 have hz:=hp.size
 have hb:=hg.gH.size
 have hk:=hg.kinds
 have:(CS g p).length≤(upto g.kinds.length).length*9:=tR fun k _=>by
  simp[upto];omega
 have e:(upto g.kinds.length).length=g.kinds.length:=by simp[upto]
 rw[e]at this
 omega
theorem Uc{g:ey}{p q:Pos}(h:mE g p q):q∈(mf g p).map (·.p)++CS g p:=by
 obtain⟨_,h⟩:=h
 split at h
 ·exact List.mem_append.2 (.inl (aw.2 ⟨_,h,rfl⟩))
 ·rcases h with⟨o,h,rfl⟩|⟨k,c,h1,h2,h3,h4,_,_,rfl⟩
  ·exact List.mem_append.2 (.inl (aw.2 ⟨_,h,rfl⟩))
  ·exact List.mem_append.2 (.inr (bn.2 ⟨k,iR.2 ⟨h1,h2⟩,aw.2 ⟨c,iR.2 ⟨h3,h4⟩,rfl⟩⟩))
noncomputable def fX(g:ey)(p:Pos):List Pos:=iv (((mf g p).map (·.p)++CS g p).filter fun q=>decide (mE g p q))
theorem Ue(g:ey)(p:Pos):iI (fX g p):=u0 _
@[simp] theorem s7{g:ey}{p q:Pos}:q∈fX g p↔mE g p q:=by
 unfold fX
 rw[pR,aT]
 simp only[decide_eq_true_eq]
 exact⟨fun h=>h.2,fun h=>⟨Uc h,h⟩⟩
theorem HJ{g:ey}{p:Pos}{r:List Pos}(h:iI r)(hm:∀ q,q∈r↔mE g p q):r=fX g p:=N1 h (Ue g p) fun q=>by rw[hm,s7]
theorem HI{g:ey}{p:Pos}(h:ended g p):fX g p = []:=by
 refine cy.2 fun q hq=>?_
 obtain⟨c,hc,hl⟩:=h
 exact(s7.1 hq).1 c hc hl
@[irreducible] noncomputable def oD(g:ey)(p:Pos):D:=if ended g p then .U else fh (fX g p)
theorem D1(g:ey)(p:Pos):(oD g p = .U∧fX g p = [])∨oD g p=fh (fX g p):=by
 unfold oD
 split
 ·rename_i h;exact .inl ⟨rfl,HI h⟩
 ·exact .inr rfl
theorem s6{g:ey}(hg:eW g){p:Pos}(hp:fo g p):(fX g p).length≤4000000000:=by
 refine Nat.le_trans (EJ _) (Nat.le_trans (List.length_filter_le _ _) ?_)
 have:=YW hg hp
 have:=PF hg hp
 simp;omega
section
variable{g:ey}{p:Pos}{n:Int}{k:IntKind}{P:D→Prop}{H:et}
@[simp] theorem Pd:closed (oD g p)=true:=by rcases D1 g p with⟨h,_⟩|h<;>rw[h]<;>simp
@[simp] theorem agD:mw .slice (oD g p) H=some (.i (fX g p).length):=by rcases D1 g p with⟨h,e⟩|h<;>rw[h]<;>simp[*]
@[simp] theorem ajJ:jy 5 H (oD g p)=some (cl Pos.cells (fX g p),(fX g p).length):=by rcases D1 g p with⟨h,e⟩|h<;>rw[h]<;>simp[*]
@[simp] theorem aj6(n:Nat):gD n (oD g p) = []:=EW n Pd
@[simp] theorem ahm:oA (lE 5 (oD g p) (.val (.int k n))) P .mk=((0≤n∧n<(fX g p).length)∧P (.eG (gt (fX g p) n).cells)):=by
 rcases D1 g p with⟨h,e⟩|h
 ·rw[h,e]
  simp only[lE,MZ,cw]
  refine propext ⟨fun h=>h.elim,fun⟨h,_⟩=>?_⟩
  have:=h.1;have:=h.2;simp at this;omega
 ·rw[h];exact rJ
end
noncomputable def qe(g:ey)(p:Pos):Int:=if ended g p then(g.clauses.findIdx fun c=>decide (kX p c):Nat)else -1
theorem Ko{g:ey}{p:Pos}(h:ended g p):0≤qe g p∧qe g p<g.clauses.length∧gt g.clauses (qe g p)∈g.clauses:=by
 unfold qe
 rw[if_pos h]
 have:(g.clauses.findIdx fun c=>decide (kX p c))<g.clauses.length:=by
  rw[List.findIdx_lt_length]
  obtain⟨c,hc,hl⟩:=h
  exact⟨c,hc,by simpa using hl⟩
 exact⟨by omega,by omega,eH (by omega) (by omega)⟩
theorem Kp{g:ey}{p:Pos}(h:¬ ended g p):qe g p = -1:=by unfold qe;rw[if_neg h]
theorem CV{g:ey}{p:Pos}:0≤qe g p↔ended g p:=by
 by_cases h:ended g p
 ·exact⟨fun _=>h,fun _=>(Ko h).1⟩
 ·rw[Kp h];simp[h]
noncomputable def stat(g:ey)(p:Pos):Int×Bool:=(if ended g p then(gt g.clauses (qe g p)).out else if fX g p = []then g.blocked else 0,decide (fX g p = []))
end Go.AL
namespace Go.Proofs.YtnaefnajkaohgaaGreatDoor
open Go Go.AL Classical
set_option maxRecDepth 10000
set_option maxHeartbeats 1000000
theorem Kw(p:Pos)(hp:Small p):Wf T 155 [dP p] [] (fun d H=>d = .agg [.eu 0 1 1 0 p.cs.length,dI p.h0,dI p.h1,.i p.eR,.i p.side]∧H = [.row 3 1 (cl f1 p.cs)]):=by
 obtain⟨h1,h2,h3⟩:=hp
 refine Wf.xo 3 (fn:=rS) rfl (by simp[rS]) ?_
 simp[rS]
 (with_reducible repeat' first|refine Xk ?_<;>try simp|refine Xs ?_ ?_<;>intro h<;>(try intro h')<;>(try simp[h])<;>(try omega)|refine Xg ?_|omega)
@[irreducible] def fA(a:List eE):List D:=[iq a]
theorem tN(a:List eE):fA a = [iq a]:=by unfold fA;rfl
instance:Fl fA 1:=⟨fun _=>by simp[tN],fun _=>by simp[tN,eV]⟩
@[simp] theorem ad0(l:List (List eE))(x:List eE):cl fA l ++ [iq x]=cl fA (l ++ [x]):=by rw[← nc,tN]
theorem O3(x:List eE) : [iq x]=cl fA [x]:=by rw[nb,tN];simp
def k7(g:ey)(x:eI)(now:List eE):List eE:=now.foldl (fun acc s=>jr acc (gd g s x)) []
def lG(g:ey):List eI→List eE→List (List eE)
 | [],_=>[]
 | x::r,now=>k7 g x now::lG g r (k7 g x now)
theorem KQ{g:ey}{x:eI}{t:eE}:∀ {now acc:List eE},t∈now.foldl (fun acc s=>jr acc (gd g s x)) acc↔t∈acc∨t∈now.flatMap fun s=>gd g s x
 | [],acc=>by simp
 | s::r,acc=>by
  rw[cg,KQ,xn,List.flatMap_cons,List.mem_append,or_assoc]
theorem D3{g:ey}{x:eI}{now:List eE}{t:eE}:t∈k7 g x now↔t∈now.flatMap fun s=>gd g s x:=by
 unfold k7;rw[KQ];simp
theorem KP{g:ey}{x:eI}:∀ {now acc:List eE},(now.foldl (fun acc s=>jr acc (gd g s x)) acc).length≤acc.length+10*now.length
 | [],acc=>by simp
 | s::r,acc=>by
  rw[cg]
  refine Nat.le_trans KP ?_
  have:=xm (a:=acc) (b:=gd g s x)
  have:=wO (g:=g) (s:=s) (x:=x)
  rw[aJ];omega
theorem y9{g:ey}{x:eI}{now:List eE}:(k7 g x now).length≤10*now.length:=by
 unfold k7
 refine Nat.le_trans KP ?_
 simp
theorem N3{g:ey}:∀ {l:List eI} {now:List eE},(lG g l now).length=l.length
 | [],_=>rfl
 | x::r,now=>by rw[lG,aJ,N3,aJ]
theorem f194(g:ey)(hg:eW g)(p:Pos)(hp:fo g p)(c i:Int)(hc:0≤c∧c<g.size)(hm:gV (gt p.cs c)=p.side)(hi:0≤i∧i<(gt g.kinds (eS (gt p.cs c))).fZ.length) :
  Wf T 194 [dG g,dP p,.i c,.i i] [] (Is (.agg [.sl 1 (([iX p c]::lG g (gt (gt g.kinds (eS (gt p.cs c))).fZ i) [iX p c]).map fA),.i 0])):=by
 have fO:=hp.size
 have iz:=hp.small hg
 have gA:=hp.cs _ (eH hc.1 (by omega))
 have gv:=hp.side
 obtain⟨m1,m2,m3,m4⟩:=yX gv.1 hm
 have hk:eS (gt p.cs c)<g.kinds.length:=rH gA.2 hg.kinds.1
 refine Yz w5 (gu 117 [10] w5.body) ?_
 simp[w5,gu,iA,kG,kI,kR,jE]
 refine Yc (f65 g p hg hp) ?_
 simp
 (with_reducible repeat' first|refine Xk ?_<;>try simp|refine Xs ?_ ?_<;>intro h<;>(try intro h')<;>(try simp[h])<;>(try omega)|refine Xg ?_|omega)
 refine Yc (f51 _) ?_
 simp
 (with_reducible repeat' first|refine Xk ?_<;>try simp|refine Xs ?_ ?_<;>intro h<;>(try intro h')<;>(try simp[h])<;>(try omega)|refine Xg ?_|omega)
 rotate_right
 refine r7.n rfl rfl (Kw p iz) (by simp) (by simp) ?_
 simp
 (with_reducible repeat' first|refine Xk ?_<;>try simp|refine Xs ?_ ?_<;>intro h<;>(try intro h')<;>(try simp[h])<;>(try omega)|refine Xg ?_|omega)
 refine eF.fz [0,1,3,4,5,6,8] rfl ?_
 have q0:=ga (l:=p.cs) (n:=c) (v:=0) hc.1 (by omega)
 have eJ:ic g (iX p c):=zO hg hp hc.1 hc.2 hm
 have GO:=hg.fZ _ (eH (l:=g.kinds) m1 hk)
 generalize nk:gt (gt g.kinds (eS (gt p.cs c))).fZ i=prog at *
 have uA:qT g prog:=GO.2 _ (nk▸eH hi.1 hi.2)
 have LI:=uA.len
 refine eF.k ((0,[[iX p c]],[iX p c]):Int×List (List eE)×List eE) (fun x=>[(4,.eG g.cells),(8,.ptr 2 0 0),(11,.ptr 9 0 0),(12,iq x.2.2),(13,ft prog),(14,.i x.1)]) (fun x=>[.dead,.dead,.row 278 0 [.U,.i 0],.dead,.dead,.dead,.dead,.row 280 x.1.toNat (cl fA x.2.1),.dead,.row 278 0 [.eu 7 x.1.toNat 1 0 x.2.1.length,.i 0]])
  (fun x=>0≤x.1∧x.1≤prog.length∧x.2.1.length=x.1.toNat+1∧(∀ s∈x.2.2,ic g s)∧x.2.2.length≤10 ^ x.1.toNat∧[iX p c]::lG g prog [iX p c]=x.2.1++lG g (prog.drop x.1.toNat) x.2.2) (fun x=>prog.length-x.1.toNat) ?_ ?_ ?_ rfl rfl (by simp) ?_
 ·simp;exact eJ
 ·simp[iX,q0]
 ·simp[iX,← O3,q0]
 rintro⟨k,steps,now⟩ ⟨k0,k1,k2,k3,k4,k5⟩
 dsimp only at k0 k1 k2 k3 k4 k5 ⊢
 simp
 (with_reducible repeat' first|refine Xk ?_<;>try simp|refine Xs ?_ ?_<;>intro h<;>(try intro h')<;>(try simp[h])<;>(try omega)|refine Xg ?_|omega)
 ·refine eF.e ((0,0,[]):Int×Nat×List eE) (fun x=>[(4,.eG g.cells),(8,.ptr 2 0 0),(11,.ptr 9 0 0),(12,iq now),(13,ft prog),(14,.i k),(15,.eu 10 x.2.1 8 0 x.2.2.length),(16,.i x.1)]) (fun x=>[.dead,.dead,.row 278 0 [.U,.i 0],.dead,.dead,.dead,.dead,.row 280 k.toNat (cl fA steps),.dead,.row 278 0 [.eu 7 k.toNat 1 0 steps.length,.i 0],.row 282 x.2.1 (cl eE.cells x.2.2)]) (fun x=>0≤x.1∧x.1≤now.length∧(∀ s∈x.2.2,ic g s)∧x.2.2.length≤10*x.1.toNat∧k7 g (gt prog k) now=(now.drop x.1.toNat).foldl (fun acc s=>jr acc (gd g s (gt prog k))) x.2.2) (fun x=>now.length-x.1.toNat) ?_ ?_
  ·simp[k7]
  rintro⟨j,gn,acc⟩ ⟨j0,j1,j2,j3,j4⟩
  dsimp only at j0 j1 j2 j3 j4 ⊢
  simp
  (with_reducible repeat' first|refine Xk ?_<;>try simp|refine Xs ?_ ?_<;>intro h<;>(try intro h')<;>(try simp[h])<;>(try omega)|refine Xg ?_|omega)
  ·refine Yt (f228 g hg _ (k3 _ (eH j0 ‹_›)) _ (uA.steps _ (eH k0 ‹_›))) ?_
   simp
   have eB:=k3 _ (eH j0 ‹_›)
   refine eU.kC rfl rfl (f227 10 gn acc (gd g (gt now j) (gt prog k)) _ rfl (by simp) (fun s hs=>(j2 s hs).p.small hg) (fun s hs=>(u5 hg eB (uA.steps _ (eH k0 ‹_›)) hs).p.small hg) ?_) ?_
   ·have h1:=wO (g:=g) (s:=gt now j) (x:=gt prog k)
    have h2:10 ^ k.toNat≤10 ^ 8:=bX (by decide) (by omega)
    omega
   rintro d H' ⟨C',rfl,rfl⟩
   simp
   have h2:10 ^ k.toNat≤10 ^ 8:=bX (by decide) (by omega)
   (with_reducible repeat' first|refine Xk ?_<;>try simp|refine Xs ?_ ?_<;>intro h<;>(try intro h')<;>(try simp[h])<;>(try omega)|refine Xg ?_|omega)
   refine LJ.e (j+1,C',jr acc (gd g (gt now j) (gt prog k))) ?_
   refine⟨by dsimp only;omega,by dsimp only;omega,by dsimp only;omega,fun s hs=>?_,?_,?_⟩
   ·rcases xn.1 hs with hs|hs
    ·exact j2 s hs
    ·exact u5 hg eB (uA.steps _ (eH k0 ‹_›)) hs
   ·have h1:=wO (g:=g) (s:=gt now j) (x:=gt prog k)
    have h3:=xm (a:=acc) (b:=gd g (gt now j) (gt prog k))
    dsimp only
    omega
   ·rw[j4,kP j0 ‹_›,cg,show(j+1).toNat=j.toNat+1 by omega]
  ·have e:k7 g (gt prog k) now=acc:=by rw[j4,aZ (by omega)];rfl
   (with_reducible repeat' first|refine Xk ?_<;>try simp|refine Xs ?_ ?_<;>intro h<;>(try intro h')<;>(try simp[h])<;>(try omega)|refine Xg ?_|omega)
   refine LJ.i (k+1,steps ++ [acc],acc) (by first|rfl|simp[show(k+1).toNat=k.toNat+1 by omega]) (by first|rfl|simp[show(k+1).toNat=k.toNat+1 by omega]) rfl rfl ?_
   refine⟨by dsimp only;omega,by dsimp only;omega,by dsimp only;omega,by simp;omega,j2,?_,?_⟩
   ·have h3:=y9 (g:=g) (x:=gt prog k) (now:=now)
    rw[e]at h3
    dsimp only
    rw[show(k+1).toNat=k.toNat+1 by omega,dm]
    omega
   ·rw[k5,kP k0 ‹_›,lG,e,show(k+1).toNat=k.toNat+1 by omega]
    simp
 ·rw[aZ (by omega),lG,av]at k5
  rw[← k5];simp
set_option maxRecDepth 10000
set_option maxHeartbeats 1000000
theorem TQ{a b:eY}(h1:¬ yS a b)(h2:¬ yS b a):a=b:=by
 unfold yS at *
 have e:=pj a.p b.p
 have h:fG a.p b.p=0:=by
  by_cases h:fG a.p b.p=0
  ·exact h
  ·exfalso
   by_cases h3:fG a.p b.p<0
   ·exact h1 (.inl h3)
   ·exact h2 (.inl (by omega))
 have h':fG b.p a.p=0:=by omega
 simp[h,h']at h1 h2
 have:=mI.1 h
 cases a;cases b
 simp_all
 rename_i x y _
 cases x<;>cases y<;>simp_all
structure Cj(l:List eY)(x:eY)(i:Int)(d:Bool)(out:List eY):Prop where
 i0:0≤i∧i≤l.length
 dn:d=true→x∈out
 sub:∀ o∈out,o∈l.take i.toNat∨o=x
 sup:∀ o∈l.take i.toNat,o∈out
 len:out.length≤i.toNat+(if d then 1 else 0)
theorem Cj.step{l:List eY}{x:eY}{i:Int}{d d':Bool}{out:List eY}(h:Cj l x i d out)(hi:i<l.length)(xs:List eY)(hx:∀ o∈xs,o=x)(hd:d'=true→d=true∨x∈xs∨gt l i=x)(hl:xs.length+(if d then 1 else 0)≤(if d' then 1 else 0)):Cj l x (i+1) d' (out++xs ++ [gt l i]):=by
 have h0:=h.i0
 refine⟨by omega,fun e=>?_,fun o ho=>?_,fun o ho=>?_,?_⟩
 ·rcases hd e with e|e|e
  ·have:=h.dn e;simp[this]
  ·simp[e]
  ·simp[e]
 ·rw[gj h0.1 hi]
  simp at ho ⊢
  rcases ho with ho|ho|ho
  ·rcases h.sub o ho with h|h
   ·exact .inl (.inl h)
   ·exact .inr h
  ·exact .inr (hx o ho)
  ·exact .inl (.inr ho)
 ·rw[gj h0.1 hi]at ho
  simp at ho ⊢
  rcases ho with ho|ho
  ·exact .inl (h.sup o ho)
  ·exact .inr (.inr ho)
 ·have:=h.len
  simp
  omega
theorem f195(l:List eY)(x:eY)(hl:l.length<2 ^ 39)(hs:∀ o∈l,Small o.p)(hx:Small x.p):Wf T 195 [kH l,.agg x.cells] [] (Ex kH fun r=>(∀ o,o∈r↔o∈l∨o=x)∧r.length≤l.length+1):=by
 refine Yg A6 ?_
 simp[A6]
 refine eF.e ((0,false,[]):Int×Bool×List eY) (fun y=>[(0,kH l),(3,.ptr 0 0 0),(5,.eu 1 y.2.2.length 6 0 y.2.2.length),(6,.b y.2.1),(7,.i y.1)]) (fun y=>[.row 113 0 x.cells,.row 113 y.2.2.length (cl eY.cells y.2.2)]) (fun y=>Cj l x y.1 y.2.1 y.2.2) (fun y=>l.length-y.1.toNat) ?_ ?_
 ·exact⟨by simp,by simp,by simp,by simp,by simp⟩
 rintro⟨i,done,out⟩ hI
 have h0:=hI.i0
 have h5:=hI.len
 have h6:(if done=true then 1 else 0)≤1:=by split<;>omega
 dsimp only at hI h0 h5 ⊢
 simp
 (with_reducible repeat' first|refine Xk ?_<;>try simp|refine Xs ?_ ?_<;>intro h<;>(try intro h')<;>(try simp[h])<;>(try omega)|refine Xg ?_|omega)
 ·refine LJ.e (i+1,true,out ++ [gt l i]) ?_
  subst h
  have:=hI.step ‹_› [] (d':=true) (by simp) (by simp) (by simp)
  simp at this
  exact⟨by simp;omega,this⟩
 ·have hd:=h
  refine Yt (f229 _ _ (hs _ (eH h0.1 ‹_›)) hx) ?_
  simp[h]
  (with_reducible repeat' first|refine Xk ?_<;>try simp[hd]|refine Xs ?_ ?_<;>intro h<;>(try intro h')<;>(try simp[h,hd])<;>(try omega)|refine Xg ?_|omega)
  ·subst hd
   have:=hI.step ‹_› [] (d':=false) (by simp) (by simp) (by simp)
   simp at this
   refine LJ.e (i+1,false,out ++ [gt l i]) ?_
   exact⟨by simp;omega,this⟩
  ·refine Yt (f229 _ _ hx (hs _ (eH h0.1 ‹_›))) ?_
   simp[hd]
   (with_reducible repeat' first|refine Xk ?_<;>try simp[hd]|refine Xs ?_ ?_<;>intro h<;>(try intro h')<;>(try simp[h,hd])<;>(try omega)|refine Xg ?_|omega)
   ·subst hd
    have:=hI.step ‹_› [x] (d':=true) (by simp) (by simp) (by simp)
    refine LJ.e (i+1,true,out ++ [x] ++ [gt l i]) ?_
    exact⟨by simp;omega,this⟩
   ·subst hd
    have e:=TQ (a:=gt l i) (b:=x) ‹_› ‹_›
    have:=hI.step ‹_› [] (d':=true) (by simp) (by simp[e]) (by simp)
    simp at this
    refine LJ.e (i+1,true,out ++ [gt l i]) ?_
    exact⟨by simp;omega,this⟩
 ·subst h
  have h3:=hI.sub
  have h4:=hI.sup
  rw[iH (by omega)]at h3 h4
  refine⟨out,rfl,fun o=>⟨h3 o,fun h=>?_⟩,by simp at h5;omega⟩
  rcases h with h|h
  ·exact h4 o h
  ·rw[h];exact hI.dn rfl
 ·subst h
  have h3:=hI.sub
  have h4:=hI.sup
  rw[iH (by omega)]at h3 h4
  refine⟨out ++ [x],by simp[kH],fun o=>?_,by simp at h5;simp;omega⟩
  simp
  constructor
  ·rintro(h|h)
   ·exact h3 o h
   ·exact .inr h
  ·rintro(h|h)
   ·exact .inl (h4 o h)
   ·exact .inr h
theorem Mz{g:ey}:∀ {l:List eI} {now:List eE} {t:eE},t∈gt (now::lG g l now) l.length↔t∈nP g l now
 | [],now,t=>by simp[lG,nP,gt]
 | x::r,now,t=>by
  have e:gt (now::lG g (x::r) now) (x::r).length=gt (k7 g x now::lG g r (k7 g x now)) r.length:=by
   rw[lG]
   unfold gt
   simp only[aJ,dA,List.getD_cons_succ]
  rw[e,Mz,nP]
  exact NO (fun s=>D3) t
theorem My{g:ey}:∀ {l:List eI} {now:List eE},(gt (now::lG g l now) l.length).length≤10 ^ l.length*now.length
 | [],now=>by simp[lG,gt]
 | x::r,now=>by
  have e:gt (now::lG g (x::r) now) (x::r).length=gt (k7 g x now::lG g r (k7 g x now)) r.length:=by
   rw[lG]
   unfold gt
   simp only[aJ,dA,List.getD_cons_succ]
  rw[e]
  refine Nat.le_trans My ?_
  rw[aJ,dm,ef]
  exact dq _ y9
theorem f154(g:ey)(hg:eW g)(p:Pos)(hp:fo g p)(c i:Int)(hc:0≤c∧c<g.size)(hm:gV (gt p.cs c)=p.side)(hi:0≤i∧i<(gt g.kinds (eS (gt p.cs c))).fZ.length) :
  Wf T 154 [dG g,dP p,.i c,.i i] [] (Ex (fun r=>.tup [kH r,.i 0]) fun r=>(∀ o,o∈r↔o∈o7 g p c (gt (gt g.kinds (eS (gt p.cs c))).fZ i))∧r.length≤10 ^ 8):=by
 have gA:=hp.cs _ (eH hc.1 (by have:=hp.size;omega))
 have gv:=hp.side
 obtain⟨m1,m2,m3,m4⟩:=yX gv.1 hm
 have hk:eS (gt p.cs c)<g.kinds.length:=rH gA.2 hg.kinds.1
 have eJ:ic g (iX p c):=zO hg hp hc.1 hc.2 hm
 have GO:=hg.fZ _ (eH (l:=g.kinds) m1 hk)
 have c1:=f194 g hg p hp c i hc hm hi
 generalize nk:gt (gt g.kinds (eS (gt p.cs c))).fZ i=prog at *
 have uA:qT g prog:=GO.2 _ (nk▸eH hi.1 hi.2)
 have LI:=uA.len
 have py:∀ t,t∈gt ([iX p c]::lG g prog [iX p c]) prog.length↔t∈nP g prog [iX p c]:=fun t=>Mz
 have RM:=My (g:=g) (l:=prog) (now:=[iX p c])
 have h8:10 ^ prog.length≤10 ^ 8:=bX (by decide) LI.2
 have LW:=N3 (g:=g) (l:=prog) (now:=[iX p c])
 generalize hS : [iX p c]::lG g prog [iX p c]=S at *
 have hSl:S.length=prog.length+1:=by rw[← hS];simp[LW]
 refine Yz wZ (gu 70 [5] wZ.body) ?_
 simp[wZ,gu,iA,kG,kI,kR,jE]
 refine Yc (c1) ?_
 simp
 (with_reducible repeat' first|refine Xk ?_<;>try simp[tN]|refine Xs ?_ ?_<;>intro h<;>(try intro h')<;>(try simp[h,tN])<;>(try omega)|refine Xg ?_|omega)
 rw[show(S.length:Int)-1=prog.length by omega]
 generalize gt S (prog.length:Int)=L at *
 have eB:∀ s∈L,ic g s:=fun s hs=>Eu hg uA.steps (fun t ht=>by rw[List.mem_singleton]at ht;subst ht;exact eJ) s ((py s).1 hs)
 have hL8:L.length≤100000000:=by simp at RM;omega
 simp[tN]
 (with_reducible repeat' first|refine Xk ?_<;>try simp|refine Xs ?_ ?_<;>intro h<;>(try intro h')<;>(try simp[h])<;>(try omega)|refine Xg ?_|omega)
 refine eF.fz [0,2,3] rfl ?_
 refine eF.e ((0,[]):Int×List eY) (fun y=>[(5,.ptr 1 0 0),(11,kH y.2),(12,iq L),(13,.i y.1)]) (fun y=>[.dead,.row 44 0 p.cells,.dead,.dead]) (fun y=>0≤y.1∧y.1≤L.length∧(∀ o,o∈y.2↔o∈(L.take y.1.toNat).filterMap (kQ p.side))∧y.2.length≤y.1.toNat) (fun y=>L.length-y.1.toNat) ?_ ?_
 ·simp
 rintro⟨j,out⟩ ⟨j0,j1,j2,j3⟩
 dsimp only at j0 j1 j2 j3 ⊢
 simp
 (with_reducible repeat' first|refine Xk ?_<;>try simp|refine Xs ?_ ?_<;>intro h<;>(try intro h')<;>(try simp[h])<;>(try omega)|refine Xg ?_|omega)
 ·have hs:=eB _ (eH j0 ‹_›)
  have sU:=hs.p.small hg
  have hz:=hs.p.size
  have Ri:=hs.cur
  have RF:=hs.kind
  have jv:=hg.kinds
  generalize Lj:gt L j=s at *
  (with_reducible repeat' first|refine Xk ?_<;>try simp|refine Xs ?_ ?_<;>intro h<;>(try intro h')<;>(try simp[h])<;>(try omega)|refine Xg ?_|omega)
  ·have q:=ga (l:=s.p.cs) (n:=s.cur) (v:=1+2*s.kind+p.side) Ri.1 (by omega)
   refine Yn (Kw s.p sU) ?_
   simp
   refine Yt (f156 (k:=s.kind) (s:=p.side) RF.1 (by omega) gv.1 gv.2) ?_
   simp[q]
   (with_reducible repeat' first|refine Xk ?_<;>try simp[q]|refine Xs ?_ ?_<;>intro h<;>(try intro h')<;>(try simp[h,q])<;>(try omega)|refine Xg ?_|omega)
   generalize ho:({ p:=⟨pt s.p.cs s.cur (1+2*s.kind+p.side),s.p.h0,s.p.h1,s.p.eR,1-p.side⟩,gO:=s.gO }:eY)=o
   have fR:kQ p.side s=some o:=by rw[kQ,if_pos ‹_›,← ho];rfl
   have mM:Small o.p:=fo.small hg (C3 hs gv.1 gv.2 fR)
   have iz:∀ o∈out,Small o.p:=fun o ho=>by
    obtain⟨t,ht,h3⟩:=bR.1 ((j2 o).1 ho)
    exact fo.small hg (C3 (eB t (aN ht)) gv.1 gv.2 h3)
   have c2:=f195 out o (by omega) iz mM
   rw[← ho]at c2
   refine eU.q rfl rfl c2 (by simp) (fun _=>by simp) ?_
   intro r hr
   simp
   rw[ho]at hr
   (with_reducible repeat' first|refine Xk ?_<;>try simp|refine Xs ?_ ?_<;>intro h<;>(try intro h')<;>(try simp[h])<;>(try omega)|refine Xg ?_|omega)
   refine LJ.e (j+1,r) ?_
   refine⟨by dsimp only;omega,by dsimp only;omega,by dsimp only;omega,fun x=>?_,by dsimp only;omega⟩
   rw[hr.1,j2,gj j0 ‹_›,Lj]
   simp[fR,eq_comm]
  ·(with_reducible repeat' first|refine Xk ?_<;>try simp|refine Xs ?_ ?_<;>intro h<;>(try intro h')<;>(try simp[h])<;>(try omega)|refine Xg ?_|omega)
   refine LJ.e (j+1,out) ?_
   refine⟨by dsimp only;omega,by dsimp only;omega,by dsimp only;omega,fun x=>?_,by dsimp only;omega⟩
   rw[j2,gj j0 ‹_›,Lj]
   have:kQ p.side s=none:=by rw[kQ,if_neg ‹_›]
   simp[this]
 ·rw[iH (by omega)]at j2
  refine⟨out,rfl,fun o=>?_,?_⟩
  ·rw[j2,o7]
   simp only[bR,py]
  ·omega
