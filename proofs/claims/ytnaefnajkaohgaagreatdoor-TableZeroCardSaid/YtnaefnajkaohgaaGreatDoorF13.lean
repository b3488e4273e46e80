/- Part 13 of the proof of skewer.skewerlaw15.TableZero. -/
import Derived.Test.YtnaefnajkaohgaaGreatDoorF12
set_option linter.all false
namespace Go.AL
open Go Classical
theorem gV{α:Type}{f:α→List D}(a:α):cl f [a]=f a:=by rw[mU,OL,av]
theorem eE.e{T:fE}{live:List Nat}{a:IR}{s:St}{K:gh}{α:Type}(x0:α)(E:α→Env)(Hp:α→U)(P:α→Prop)(μ:α→Nat)(h0:P x0)
  (h:∀ x,P x→XC T a { env:=E x,H:=Hp x } (uo s.H.length live ((E x0).map (·.1)) (LJ E Hp [] false (fun x'=>μ x'<μ x∧P x') .mk) K))
  (hE:forget ((E x0).map (·.1)) s.env=E x0:=by simp) (hH:s.H=Hp x0:=by first|rfl|(simp[gV];done)|(simp[*];done)) (hm:s.marks = []:=by exact rfl) (hr:s.fM=false:=by exact rfl) (tV:(((E x0).map (·.1)).all fun k=>live.contains k)=true:=by exact rfl):eE T live a s K .mk:=eE.k x0 E Hp P μ h0 hE hH hm hr tV h
theorem iE.pw{l:List Pos}(h:iE l):l.Pairwise fun x y=>fD x y<0:=by
 refine bj.2 fun i j hi hj mG=>?_
 have:=h.le (i:=(i:Int)) (j:=(j:Int)) (by omega) (by omega) (by omega)
 rwa [C2 hi,C2 hj]at this
theorem iE.of{r:List Pos}(h:r.Pairwise fun x y=>fD x y<0):iE r:=by
 intro i h1 h2
 rw[mc (by omega) (by omega),mc (by omega) (by omega)]
 exact bj.1 h _ _ _ _ (by omega)
theorem M5:∀ {a b:List Pos},(a.Pairwise fun x y=>fD x y<0)→(b.Pairwise fun x y=>fD x y<0)→(∀ q,q∈a↔q∈b)→a=b
 | [],[],_,_,_=>rfl
 | [],y::b,_,_,h=>by have:=(h y).2 (by simp);cases this
 | x::a,[],_,_,h=>by have:=(h x).1 (by simp);cases this
 | x::a,y::b,ha,hb,h=>by
  have nG:=a7.1 ha
  have nY:=a7.1 hb
  have e:x=y:=by
   rcases ax.1 ((h x).1 (by simp))with e|e
   ·exact e
   rcases ax.1 ((h y).2 (by simp))with f|f
   ·exact f.symm
   have h1:=nY.1 x e
   have h2:=nG.1 y f
   rw[o7]at h1
   omega
  subst e
  rw[M5 nG.2 nY.2 fun q=>?_]
  constructor
  ·intro hq
   rcases ax.1 ((h q).1 (by simp[hq]))with e|e
   ·subst e;have:=nG.1 q hq;rw[oH]at this;omega
   ·exact e
  ·intro hq
   rcases ax.1 ((h q).2 (by simp[hq]))with e|e
   ·subst e;have:=nY.1 q hq;rw[oH]at this;omega
   ·exact e
theorem NG{a b:List Pos}(ha:iE a)(hb:iE b)(h:∀ q,q∈a↔q∈b):a=b:=M5 ha.pw hb.pw h
theorem OW{x y:Pos}(h:x≠y)(h2:¬ fD x y<0):fD y x<0:=by
 have:fD x y≠0:=fun e=>h (mD.1 e)
 rw[o7];omega
theorem LR(x:Pos):∀ r:List Pos,(r.Pairwise fun x y=>fD x y<0)→∃ r':List Pos,(r'.Pairwise fun x y=>fD x y<0)∧∀ q,q∈r'↔q=x∨q∈r
 | [],_=>⟨[x],by simp,by simp⟩
 | y::r,h=>by
  have h':=a7.1 h
  by_cases e:x=y
  ·subst e;exact⟨x::r,h,by simp⟩
  by_cases hl:fD x y<0
  ·refine⟨x::y::r,a7.2 ⟨fun z hz=>?_,h⟩,by simp⟩
   rcases ax.1 hz with rfl|hz
   ·exact hl
   ·exact rZ hl (h'.1 z hz)
  ·obtain⟨r',h1,h2⟩:=LR x r h'.2
   refine⟨y::r',a7.2 ⟨fun z hz=>?_,h1⟩,fun q=>?_⟩
   ·rcases(h2 z).1 hz with rfl|hz
    ·exact OW e hl
    ·exact h'.1 z hz
   ·simp only[ax,h2]
    constructor
    ·rintro(h|h|h)<;>simp[h]
    ·rintro(h|h|h)<;>simp[h]
theorem Ez:∀ l:List Pos,∃ r,iE r∧∀ q,q∈r↔q∈l
 | []=>⟨[],fun i h1 h2=>by simp at h2;omega,by simp⟩
 | x::l=>by
  obtain⟨r,h1,h2⟩:=Ez l
  obtain⟨r',h3,h4⟩:=LR x r h1.pw
  exact⟨r',iE.of h3,fun q=>by rw[h4,h2,ax]⟩
noncomputable def il(l:List Pos):List Pos:=Classical.choose (Ez l)
theorem uP(l:List Pos):iE (il l):=(bL (Ez l)).1
@[simp] theorem pJ{l:List Pos}{q:Pos}:q∈il l↔q∈l:=(bL (Ez l)).2 q
theorem ND{l r:List Pos}(h:iE r)(hm:∀ q,q∈r↔q∈l):r=il l:=NG h (uP l) fun q=>by rw[hm,pJ]
theorem DW{α:Type}[DecidableEq α]:∀ {l m:List α},l.Nodup→(∀ x∈l,x∈m)→l.length≤m.length
 | [],m,_,_=>by simp
 | a::l,m,hn,h=>by
  have hn:=List.nodup_cons.1 hn
  have h1:l.length≤(m.erase a).length:=DW hn.2 fun x hx=>by
   refine(List.mem_erase_of_ne ?_).2 (h x (by simp[hx]))
   rintro rfl;exact hn.1 hx
  rw[dJ (h a (by simp))]at h1
  have:0<m.length:=dQ (h a (by simp))
  simp;omega
theorem iE.nodup{l:List Pos}(h:iE l):l.Nodup:=h.pw.imp fun{a b} vB e=>by
 subst e;rw[oH]at vB;omega
theorem Ew(l:List Pos):(il l).length≤l.length:=DW (iE.nodup (uP l)) fun x hx=>pJ.1 hx
def ended(g:ew)(p:Pos):Prop:=∃ c∈g.clauses,kQ p c
theorem yZ{g:ew}{p:Pos}(h:¬ ended g p):∀ c∈g.clauses,¬ kQ p c:=fun c hc hl=>h ⟨c,hc,hl⟩
def CG(g:ew)(p:Pos):List Pos:=(upto g.kinds.length).flatMap fun k=>(upto p.cs.length).map fun c=>gW p k c
theorem tE{α β:Type}{f:α→List β}{n:Nat}:∀ {l:List α},(∀ a∈l,(f a).length≤n)→(l.flatMap f).length≤l.length*n
 | [],_=>by simp
 | a::l,h=>by
  rw[List.flatMap_cons,az,aJ,bM]
  have:=h a (by simp)
  have:=tE (l:=l) fun b hb=>h b (by simp[hb])
  omega
theorem Nu{g:ew}:∀ {l:List eG} {a:List eD},(nK g l a).length≤10 ^ l.length*a.length
 | [],a=>by simp[nK]
 | x::r,a=>by
  rw[nK]
  refine Nat.le_trans Nu ?_
  rw[aJ,dm,ef]
  refine dq _ ?_
  rw[cN]
  exact tE fun s _=>wC
theorem YD{g:ew}(hg:eU g){p:Pos}(hp:fj g p):(l7 g p).length≤3600000000:=by
 have hz:=hp.size
 have hb:=hg.gF.size
 have:(l7 g p).length≤(upto p.cs.length).length*400000000:=by
  refine tE fun c hc=>?_
  rw[iO]at hc
  unfold lP
  split
  ·rename_i e
   have eH:=zF hg hp hc.1 (by omega) e
   have hk:=hg.fW _ (eI (l:=g.kinds) eH.kind.1 eH.kind.2)
   have h2:((gt g.kinds (eR (gt p.cs c))).fW.flatMap (oT g p c)).length≤(gt g.kinds (eR (gt p.cs c))).fW.length*100000000:=by
    refine tE fun l hl=>?_
    have h3:=(hk.2 l hl).len
    refine Nat.le_trans (cP _ _) (Nat.le_trans Nu ?_)
    have:10 ^ l.length≤10 ^ 8:=bX (by decide) h3.2
    simpa using this
   have h4:(gt g.kinds (eR (gt p.cs c))).fW.length≤4:=hk.1
   omega
  ·simp
 have e:(upto p.cs.length).length=p.cs.length:=by simp[upto]
 rw[e]at this
 omega
theorem Ph{g:ew}(hg:eU g){p:Pos}(hp:fj g p):(CG g p).length≤18:=by
 have hz:=hp.size
 have hb:=hg.gF.size
 have hk:=hg.kinds
 have:(CG g p).length≤(upto g.kinds.length).length*9:=tE fun k _=>by
  simp[upto];omega
 have e:(upto g.kinds.length).length=g.kinds.length:=by simp[upto]
 rw[e]at this
 omega
theorem TT{g:ew}{p q:Pos}(h:mz g p q):q∈(l7 g p).map (·.p)++CG g p:=by
 obtain⟨_,h⟩:=h
 split at h
 ·exact List.mem_append.2 (.inl (aw.2 ⟨_,h,rfl⟩))
 ·rcases h with⟨o,h,rfl⟩|⟨k,c,h1,h2,h3,h4,_,_,rfl⟩
  ·exact List.mem_append.2 (.inl (aw.2 ⟨_,h,rfl⟩))
  ·exact List.mem_append.2 (.inr (bn.2 ⟨k,iO.2 ⟨h1,h2⟩,aw.2 ⟨c,iO.2 ⟨h3,h4⟩,rfl⟩⟩))
noncomputable def fV(g:ew)(p:Pos):List Pos:=il (((l7 g p).map (·.p)++CG g p).filter fun q=>decide (mz g p q))
theorem TV(g:ew)(p:Pos):iE (fV g p):=uP _
@[simp] theorem uw{g:ew}{p q:Pos}:q∈fV g p↔mz g p q:=by
 unfold fV
 rw[pJ,aT]
 simp only[decide_eq_true_eq]
 exact⟨fun h=>h.2,fun h=>⟨TT h,h⟩⟩
theorem Hu{g:ew}{p:Pos}{r:List Pos}(h:iE r)(hm:∀ q,q∈r↔mz g p q):r=fV g p:=NG h (TV g p) fun q=>by rw[hm,uw]
theorem Ht{g:ew}{p:Pos}(h:ended g p):fV g p = []:=by
 refine cy.2 fun q hq=>?_
 obtain⟨c,hc,hl⟩:=h
 exact(uw.1 hq).1 c hc hl
@[irreducible] noncomputable def oo(g:ew)(p:Pos):D:=if ended g p then .emp else fe (fV g p)
theorem DR(g:ew)(p:Pos):(oo g p = .emp∧fV g p = [])∨oo g p=fe (fV g p):=by
 unfold oo
 split
 ·rename_i h;exact .inl ⟨rfl,Ht h⟩
 ·exact .inr rfl
theorem uv{g:ew}(hg:eU g){p:Pos}(hp:fj g p):(fV g p).length≤4000000000:=by
 refine Nat.le_trans (Ew _) (Nat.le_trans (List.length_filter_le _ _) ?_)
 have:=YD hg hp
 have:=Ph hg hp
 simp;omega
section
variable{g:ew}{p:Pos}{n:Int}{k:IntKind}{P:D→Prop}{H:U}
@[simp] theorem OT:closed (oo g p)=true:=by rcases DR g p with⟨h,_⟩|h<;>rw[h]<;>simp
@[simp] theorem agk:mn .slice (oo g p) H=some (.i (fV g p).length):=by rcases DR g p with⟨h,e⟩|h<;>rw[h]<;>simp[*]
@[simp] theorem ajt:jt 5 H (oo g p)=some (cl Pos.cells (fV g p),(fV g p).length):=by rcases DR g p with⟨h,e⟩|h<;>rw[h]<;>simp[*]
@[simp] theorem ajQ(n:Nat):gx n (oo g p) = []:=EK n OT
@[simp] theorem ag4:oA (ly 5 (oo g p) (.val (.int k n))) P .mk=((0≤n∧n<(fV g p).length)∧P (.eF (gt (fV g p) n).cells)):=by
 rcases DR g p with⟨h,e⟩|h
 ·rw[h,e]
  simp only[ly,MF,cw]
  refine propext ⟨fun h=>h.elim,fun⟨h,_⟩=>?_⟩
  have:=h.1;have:=h.2;simp at this;omega
 ·rw[h];exact rv
end
noncomputable def p5(g:ew)(p:Pos):Int:=if ended g p then(g.clauses.findIdx fun c=>decide (kQ p c):Nat)else -1
theorem J8{g:ew}{p:Pos}(h:ended g p):0≤p5 g p∧p5 g p<g.clauses.length∧gt g.clauses (p5 g p)∈g.clauses:=by
 unfold p5
 rw[if_pos h]
 have:(g.clauses.findIdx fun c=>decide (kQ p c))<g.clauses.length:=by
  rw[List.findIdx_lt_length]
  obtain⟨c,hc,hl⟩:=h
  exact⟨c,hc,by simpa using hl⟩
 exact⟨by omega,by omega,eI (by omega) (by omega)⟩
theorem J9{g:ew}{p:Pos}(h:¬ ended g p):p5 g p = -1:=by unfold p5;rw[if_neg h]
theorem CJ{g:ew}{p:Pos}:0≤p5 g p↔ended g p:=by
 by_cases h:ended g p
 ·exact⟨fun _=>h,fun _=>(J8 h).1⟩
 ·rw[J9 h];simp[h]
noncomputable def stat(g:ew)(p:Pos):Int×Bool:=(if ended g p then(gt g.clauses (p5 g p)).out else if fV g p = []then g.blocked else 0,decide (fV g p = []))
end Go.AL
namespace Go.Proofs.YtnaefnajkaohgaaGreatDoor
open Go Go.AL Classical
set_option maxRecDepth 10000
set_option maxHeartbeats 1000000
theorem Kf(p:Pos)(hp:Small p):Wf T 155 [dP p] [] (fun d H=>d = .agg [.et 0 1 1 0 p.cs.length,dI p.h0,dI p.h1,.i p.eQ,.i p.side]∧H = [.row 3 1 (cl f1 p.cs)]):=by
 obtain⟨h1,h2,h3⟩:=hp
 refine Wf.xo 3 (fn:=rG) rfl (by simp[rG]) ?_
 simp[rG]
 (with_reducible repeat' first|refine Xk ?_<;>try simp|refine Xs ?_ ?_<;>intro h<;>(try intro h')<;>(try simp[h])<;>(try omega)|refine Xg ?_|omega)
@[irreducible] def fA(a:List eD):List D:=[ij a]
theorem tA(a:List eD):fA a = [ij a]:=by unfold fA;rfl
instance:Fl fA 1:=⟨fun _=>by simp[tA],fun _=>by simp[tA,eT]⟩
@[simp] theorem adI(l:List (List eD))(x:List eD):cl fA l ++ [ij x]=cl fA (l ++ [x]):=by rw[← mV,tA]
theorem OG(x:List eD) : [ij x]=cl fA [x]:=by rw[mU,tA];simp
def kU(g:ew)(x:eG)(now:List eD):List eD:=now.foldl (fun acc s=>jm acc (fZ g s x)) []
def lA(g:ew):List eG→List eD→List (List eD)
 | [],_=>[]
 | x::r,now=>kU g x now::lA g r (kU g x now)
theorem Kx{g:ew}{x:eG}{t:eD}:∀ {now acc:List eD},t∈now.foldl (fun acc s=>jm acc (fZ g s x)) acc↔t∈acc∨t∈now.flatMap fun s=>fZ g s x
 | [],acc=>by simp
 | s::r,acc=>by
  rw[cd,Kx,xb,List.flatMap_cons,List.mem_append,or_assoc]
theorem DT{g:ew}{x:eG}{now:List eD}{t:eD}:t∈kU g x now↔t∈now.flatMap fun s=>fZ g s x:=by
 unfold kU;rw[Kx];simp
theorem Kw{g:ew}{x:eG}:∀ {now acc:List eD},(now.foldl (fun acc s=>jm acc (fZ g s x)) acc).length≤acc.length+10*now.length
 | [],acc=>by simp
 | s::r,acc=>by
  rw[cd]
  refine Nat.le_trans Kw ?_
  have:=xa (a:=acc) (b:=fZ g s x)
  have:=wC (g:=g) (s:=s) (x:=x)
  rw[aJ];omega
theorem yV{g:ew}{x:eG}{now:List eD}:(kU g x now).length≤10*now.length:=by
 unfold kU
 refine Nat.le_trans Kw ?_
 simp
theorem NI{g:ew}:∀ {l:List eG} {now:List eD},(lA g l now).length=l.length
 | [],_=>rfl
 | x::r,now=>by rw[lA,aJ,NI,aJ]
theorem f194(g:ew)(hg:eU g)(p:Pos)(hp:fj g p)(c i:Int)(hc:0≤c∧c<g.size)(hm:gR (gt p.cs c)=p.side)(hi:0≤i∧i<(gt g.kinds (eR (gt p.cs c))).fW.length) :
  Wf T 194 [dG g,dP p,.i c,.i i] [] (Is (.agg [.sl 1 (([iU p c]::lA g (gt (gt g.kinds (eR (gt p.cs c))).fW i) [iU p c]).map fA),.i 0])):=by
 have fL:=hp.size
 have iv:=hp.small hg
 have gC:=hp.cs _ (eI hc.1 (by omega))
 have gp:=hp.side
 obtain⟨m1,m2,m3,m4⟩:=yN gp.1 hm
 have hk:eR (gt p.cs c)<g.kinds.length:=rp gC.2 hg.kinds.1
 refine Yz wO (gj 117 [10] wO.body) ?_
 simp[wO,gj,iw,ky,kA,kK,jy]
 refine Yc (f65 g p hg hp) ?_
 simp
 (with_reducible repeat' first|refine Xk ?_<;>try simp|refine Xs ?_ ?_<;>intro h<;>(try intro h')<;>(try simp[h])<;>(try omega)|refine Xg ?_|omega)
 refine Yc (f51 _) ?_
 simp
 (with_reducible repeat' first|refine Xk ?_<;>try simp|refine Xs ?_ ?_<;>intro h<;>(try intro h')<;>(try simp[h])<;>(try omega)|refine Xg ?_|omega)
 rotate_right
 refine rN.n rfl rfl (Kf p iv) (by simp) (by simp) ?_
 simp
 (with_reducible repeat' first|refine Xk ?_<;>try simp|refine Xs ?_ ?_<;>intro h<;>(try intro h')<;>(try simp[h])<;>(try omega)|refine Xg ?_|omega)
 refine eE.fz [0,1,3,4,5,6,8] rfl ?_
 have q0:=fX (l:=p.cs) (n:=c) (v:=0) hc.1 (by omega)
 have eH:gZ g (iU p c):=zF hg hp hc.1 hc.2 hm
 have Gw:=hg.fW _ (eI (l:=g.kinds) m1 hk)
 generalize nc:gt (gt g.kinds (eR (gt p.cs c))).fW i=prog at *
 have uf:qJ g prog:=Gw.2 _ (nc▸eI hi.1 hi.2)
 have Ln:=uf.len
 refine eE.k ((0,[[iU p c]],[iU p c]):Int×List (List eD)×List eD) (fun x=>[(4,.eF g.cells),(8,.ptr 2 0 0),(11,.ptr 9 0 0),(12,ij x.2.2),(13,fq prog),(14,.i x.1)]) (fun x=>[.dead,.dead,.row 278 0 [.emp,.i 0],.dead,.dead,.dead,.dead,.row 280 x.1.toNat (cl fA x.2.1),.dead,.row 278 0 [.et 7 x.1.toNat 1 0 x.2.1.length,.i 0]])
  (fun x=>0≤x.1∧x.1≤prog.length∧x.2.1.length=x.1.toNat+1∧(∀ s∈x.2.2,gZ g s)∧x.2.2.length≤10 ^ x.1.toNat∧[iU p c]::lA g prog [iU p c]=x.2.1++lA g (prog.drop x.1.toNat) x.2.2) (fun x=>prog.length-x.1.toNat) ?_ ?_ ?_ rfl rfl (by simp) ?_
 ·simp;exact eH
 ·simp[iU,q0]
 ·simp[iU,← OG,q0]
 rintro⟨k,steps,now⟩ ⟨k0,k1,k2,k3,k4,k5⟩
 dsimp only at k0 k1 k2 k3 k4 k5 ⊢
 simp
 (with_reducible repeat' first|refine Xk ?_<;>try simp|refine Xs ?_ ?_<;>intro h<;>(try intro h')<;>(try simp[h])<;>(try omega)|refine Xg ?_|omega)
 ·refine eE.e ((0,0,[]):Int×Nat×List eD) (fun x=>[(4,.eF g.cells),(8,.ptr 2 0 0),(11,.ptr 9 0 0),(12,ij now),(13,fq prog),(14,.i k),(15,.et 10 x.2.1 8 0 x.2.2.length),(16,.i x.1)]) (fun x=>[.dead,.dead,.row 278 0 [.emp,.i 0],.dead,.dead,.dead,.dead,.row 280 k.toNat (cl fA steps),.dead,.row 278 0 [.et 7 k.toNat 1 0 steps.length,.i 0],.row 282 x.2.1 (cl eD.cells x.2.2)]) (fun x=>0≤x.1∧x.1≤now.length∧(∀ s∈x.2.2,gZ g s)∧x.2.2.length≤10*x.1.toNat∧kU g (gt prog k) now=(now.drop x.1.toNat).foldl (fun acc s=>jm acc (fZ g s (gt prog k))) x.2.2) (fun x=>now.length-x.1.toNat) ?_ ?_
  ·simp[kU]
  rintro⟨j,gn,acc⟩ ⟨j0,j1,j2,j3,j4⟩
  dsimp only at j0 j1 j2 j3 j4 ⊢
  simp
  (with_reducible repeat' first|refine Xk ?_<;>try simp|refine Xs ?_ ?_<;>intro h<;>(try intro h')<;>(try simp[h])<;>(try omega)|refine Xg ?_|omega)
  ·refine Yt (f228 g hg _ (k3 _ (eI j0 ‹_›)) _ (uf.steps _ (eI k0 ‹_›))) ?_
   simp
   have eA:=k3 _ (eI j0 ‹_›)
   refine eS.km rfl rfl (f227 10 gn acc (fZ g (gt now j) (gt prog k)) _ rfl (by simp) (fun s hs=>(j2 s hs).p.small hg) (fun s hs=>(uS hg eA (uf.steps _ (eI k0 ‹_›)) hs).p.small hg) ?_) ?_
   ·have h1:=wC (g:=g) (s:=gt now j) (x:=gt prog k)
    have h2:10 ^ k.toNat≤10 ^ 8:=bX (by decide) (by omega)
    omega
   rintro d H' ⟨CZ,rfl,rfl⟩
   simp
   have h2:10 ^ k.toNat≤10 ^ 8:=bX (by decide) (by omega)
   (with_reducible repeat' first|refine Xk ?_<;>try simp|refine Xs ?_ ?_<;>intro h<;>(try intro h')<;>(try simp[h])<;>(try omega)|refine Xg ?_|omega)
   refine LJ.e (j+1,CZ,jm acc (fZ g (gt now j) (gt prog k))) ?_
   refine⟨by dsimp only;omega,by dsimp only;omega,by dsimp only;omega,fun s hs=>?_,?_,?_⟩
   ·rcases xb.1 hs with hs|hs
    ·exact j2 s hs
    ·exact uS hg eA (uf.steps _ (eI k0 ‹_›)) hs
   ·have h1:=wC (g:=g) (s:=gt now j) (x:=gt prog k)
    have h3:=xa (a:=acc) (b:=fZ g (gt now j) (gt prog k))
    dsimp only
    omega
   ·rw[j4,kI j0 ‹_›,cd,show(j+1).toNat=j.toNat+1 by omega]
  ·have e:kU g (gt prog k) now=acc:=by rw[j4,aZ (by omega)];rfl
   (with_reducible repeat' first|refine Xk ?_<;>try simp|refine Xs ?_ ?_<;>intro h<;>(try intro h')<;>(try simp[h])<;>(try omega)|refine Xg ?_|omega)
   refine LJ.i (k+1,steps ++ [acc],acc) (by first|rfl|simp[show(k+1).toNat=k.toNat+1 by omega]) (by first|rfl|simp[show(k+1).toNat=k.toNat+1 by omega]) rfl rfl ?_
   refine⟨by dsimp only;omega,by dsimp only;omega,by dsimp only;omega,by simp;omega,j2,?_,?_⟩
   ·have h3:=yV (g:=g) (x:=gt prog k) (now:=now)
    rw[e]at h3
    dsimp only
    rw[show(k+1).toNat=k.toNat+1 by omega,dm]
    omega
   ·rw[k5,kI k0 ‹_›,lA,e,show(k+1).toNat=k.toNat+1 by omega]
    simp
 ·rw[aZ (by omega),lA,av]at k5
  rw[← k5];simp
set_option maxRecDepth 10000
set_option maxHeartbeats 1000000
theorem Tu{a b:eW}(h1:¬ yK a b)(h2:¬ yK b a):a=b:=by
 unfold yK at *
 have e:=o7 a.p b.p
 have h:fD a.p b.p=0:=by
  by_cases h:fD a.p b.p=0
  ·exact h
  ·exfalso
   by_cases h3:fD a.p b.p<0
   ·exact h1 (.inl h3)
   ·exact h2 (.inl (by omega))
 have h':fD b.p a.p=0:=by omega
 simp[h,h']at h1 h2
 have:=mD.1 h
 cases a;cases b
 simp_all
 rename_i x y _
 cases x<;>cases y<;>simp_all
structure B'(l:List eW)(x:eW)(i:Int)(d:Bool)(out:List eW):Prop where
 i0:0≤i∧i≤l.length
 dn:d=true→x∈out
 sub:∀ o∈out,o∈l.take i.toNat∨o=x
 sup:∀ o∈l.take i.toNat,o∈out
 len:out.length≤i.toNat+(if d then 1 else 0)
theorem B'.step{l:List eW}{x:eW}{i:Int}{d d':Bool}{out:List eW}(h:B' l x i d out)(hi:i<l.length)(xs:List eW)(hx:∀ o∈xs,o=x)(hd:d'=true→d=true∨x∈xs∨gt l i=x)(hl:xs.length+(if d then 1 else 0)≤(if d' then 1 else 0)):B' l x (i+1) d' (out++xs ++ [gt l i]):=by
 have h0:=h.i0
 refine⟨by omega,fun e=>?_,fun o ho=>?_,fun o ho=>?_,?_⟩
 ·rcases hd e with e|e|e
  ·have:=h.dn e;simp[this]
  ·simp[e]
  ·simp[e]
 ·rw[gg h0.1 hi]
  simp at ho ⊢
  rcases ho with ho|ho|ho
  ·rcases h.sub o ho with h|h
   ·exact .inl (.inl h)
   ·exact .inr h
  ·exact .inr (hx o ho)
  ·exact .inl (.inr ho)
 ·rw[gg h0.1 hi]at ho
  simp at ho ⊢
  rcases ho with ho|ho
  ·exact .inl (h.sup o ho)
  ·exact .inr (.inr ho)
 ·have:=h.len
  simp
  omega
theorem f195(l:List eW)(x:eW)(hl:l.length<2 ^ 39)(hs:∀ o∈l,Small o.p)(hx:Small x.p):Wf T 195 [kz l,.agg x.cells] [] (Ex kz fun r=>(∀ o,o∈r↔o∈l∨o=x)∧r.length≤l.length+1):=by
 refine Yg AX ?_
 simp[AX]
 refine eE.e ((0,false,[]):Int×Bool×List eW) (fun y=>[(0,kz l),(3,.ptr 0 0 0),(5,.et 1 y.2.2.length 6 0 y.2.2.length),(6,.b y.2.1),(7,.i y.1)]) (fun y=>[.row 113 0 x.cells,.row 113 y.2.2.length (cl eW.cells y.2.2)]) (fun y=>B' l x y.1 y.2.1 y.2.2) (fun y=>l.length-y.1.toNat) ?_ ?_
 ·exact⟨by simp,by simp,by simp,by simp,by simp⟩
 rintro⟨i,done,out⟩ hI
 have h0:=hI.i0
 have h5:=hI.len
 have h6:(if done=true then 1 else 0)≤1:=by split<;>omega
 dsimp only at hI h0 h5 ⊢
 simp
 (with_reducible repeat' first|refine Xk ?_<;>try simp|refine Xs ?_ ?_<;>intro h<;>(try intro h')<;>(try simp[h])<;>(try omega)|refine Xg ?_|omega)
 ·refine LJ.e (i+1,true,out ++ [gt l i]) ?_
  subst h
  have:=hI.step ‹_› [] (d':=true) (by simp) (by simp) (by simp)
  simp at this
  exact⟨by simp;omega,this⟩
 ·have hd:=h
  refine Yt (f229 _ _ (hs _ (eI h0.1 ‹_›)) hx) ?_
  simp[h]
  (with_reducible repeat' first|refine Xk ?_<;>try simp[hd]|refine Xs ?_ ?_<;>intro h<;>(try intro h')<;>(try simp[h,hd])<;>(try omega)|refine Xg ?_|omega)
  ·subst hd
   have:=hI.step ‹_› [] (d':=false) (by simp) (by simp) (by simp)
   simp at this
   refine LJ.e (i+1,false,out ++ [gt l i]) ?_
   exact⟨by simp;omega,this⟩
  ·refine Yt (f229 _ _ hx (hs _ (eI h0.1 ‹_›))) ?_
   simp[hd]
   (with_reducible repeat' first|refine Xk ?_<;>try simp[hd]|refine Xs ?_ ?_<;>intro h<;>(try intro h')<;>(try simp[h,hd])<;>(try omega)|refine Xg ?_|omega)
   ·subst hd
    have:=hI.step ‹_› [x] (d':=true) (by simp) (by simp) (by simp)
    refine LJ.e (i+1,true,out ++ [x] ++ [gt l i]) ?_
    exact⟨by simp;omega,this⟩
   ·subst hd
    have e:=Tu (a:=gt l i) (b:=x) ‹_› ‹_›
    have:=hI.step ‹_› [] (d':=true) (by simp) (by simp[e]) (by simp)
    simp at this
    refine LJ.e (i+1,true,out ++ [gt l i]) ?_
    exact⟨by simp;omega,this⟩
 ·subst h
  have h3:=hI.sub
  have h4:=hI.sup
  rw[iD (by omega)]at h3 h4
  refine⟨out,rfl,fun o=>⟨h3 o,fun h=>?_⟩,by simp at h5;omega⟩
  rcases h with h|h
  ·exact h4 o h
  ·rw[h];exact hI.dn rfl
 ·subst h
  have h3:=hI.sub
  have h4:=hI.sup
  rw[iD (by omega)]at h3 h4
  refine⟨out ++ [x],by simp[kz],fun o=>?_,by simp at h5;simp;omega⟩
  simp
  constructor
  ·rintro(h|h)
   ·exact h3 o h
   ·exact .inr h
  ·rintro(h|h)
   ·exact .inl (h4 o h)
   ·exact .inr h
theorem Me{g:ew}:∀ {l:List eG} {now:List eD} {t:eD},t∈gt (now::lA g l now) l.length↔t∈nK g l now
 | [],now,t=>by simp[lA,nK,gt]
 | x::r,now,t=>by
  have e:gt (now::lA g (x::r) now) (x::r).length=gt (kU g x now::lA g r (kU g x now)) r.length:=by
   rw[lA]
   unfold gt
   simp only[aJ,dA,List.getD_cons_succ]
  rw[e,Me,nK]
  exact Nt (fun s=>DT) t
theorem Md{g:ew}:∀ {l:List eG} {now:List eD},(gt (now::lA g l now) l.length).length≤10 ^ l.length*now.length
 | [],now=>by simp[lA,gt]
 | x::r,now=>by
  have e:gt (now::lA g (x::r) now) (x::r).length=gt (kU g x now::lA g r (kU g x now)) r.length:=by
   rw[lA]
   unfold gt
   simp only[aJ,dA,List.getD_cons_succ]
  rw[e]
  refine Nat.le_trans Md ?_
  rw[aJ,dm,ef]
  exact dq _ yV
theorem f154(g:ew)(hg:eU g)(p:Pos)(hp:fj g p)(c i:Int)(hc:0≤c∧c<g.size)(hm:gR (gt p.cs c)=p.side)(hi:0≤i∧i<(gt g.kinds (eR (gt p.cs c))).fW.length) :
  Wf T 154 [dG g,dP p,.i c,.i i] [] (Ex (fun r=>.tup [kz r,.i 0]) fun r=>(∀ o,o∈r↔o∈oT g p c (gt (gt g.kinds (eR (gt p.cs c))).fW i))∧r.length≤10 ^ 8):=by
 have gC:=hp.cs _ (eI hc.1 (by have:=hp.size;omega))
 have gp:=hp.side
 obtain⟨m1,m2,m3,m4⟩:=yN gp.1 hm
 have hk:eR (gt p.cs c)<g.kinds.length:=rp gC.2 hg.kinds.1
 have eH:gZ g (iU p c):=zF hg hp hc.1 hc.2 hm
 have Gw:=hg.fW _ (eI (l:=g.kinds) m1 hk)
 have c1:=f194 g hg p hp c i hc hm hi
 generalize nc:gt (gt g.kinds (eR (gt p.cs c))).fW i=prog at *
 have uf:qJ g prog:=Gw.2 _ (nc▸eI hi.1 hi.2)
 have Ln:=uf.len
 have pe:∀ t,t∈gt ([iU p c]::lA g prog [iU p c]) prog.length↔t∈nK g prog [iU p c]:=fun t=>Me
 have Rr:=Md (g:=g) (l:=prog) (now:=[iU p c])
 have h8:10 ^ prog.length≤10 ^ 8:=bX (by decide) Ln.2
 have Ly:=NI (g:=g) (l:=prog) (now:=[iU p c])
 generalize hS : [iU p c]::lA g prog [iU p c]=S at *
 have hSl:S.length=prog.length+1:=by rw[← hS];simp[Ly]
 refine Yz wN (gj 70 [5] wN.body) ?_
 simp[wN,gj,iw,ky,kA,kK,jy]
 refine Yc (c1) ?_
 simp
 (with_reducible repeat' first|refine Xk ?_<;>try simp[tA]|refine Xs ?_ ?_<;>intro h<;>(try intro h')<;>(try simp[h,tA])<;>(try omega)|refine Xg ?_|omega)
 rw[show(S.length:Int)-1=prog.length by omega]
 generalize gt S (prog.length:Int)=L at *
 have eA:∀ s∈L,gZ g s:=fun s hs=>Eh hg uf.steps (fun t ht=>by rw[List.mem_singleton]at ht;subst ht;exact eH) s ((pe s).1 hs)
 have hL8:L.length≤100000000:=by simp at Rr;omega
 simp[tA]
 (with_reducible repeat' first|refine Xk ?_<;>try simp|refine Xs ?_ ?_<;>intro h<;>(try intro h')<;>(try simp[h])<;>(try omega)|refine Xg ?_|omega)
 refine eE.fz [0,2,3] rfl ?_
 refine eE.e ((0,[]):Int×List eW) (fun y=>[(5,.ptr 1 0 0),(11,kz y.2),(12,ij L),(13,.i y.1)]) (fun y=>[.dead,.row 44 0 p.cells,.dead,.dead]) (fun y=>0≤y.1∧y.1≤L.length∧(∀ o,o∈y.2↔o∈(L.take y.1.toNat).filterMap (kJ p.side))∧y.2.length≤y.1.toNat) (fun y=>L.length-y.1.toNat) ?_ ?_
 ·simp
 rintro⟨j,out⟩ ⟨j0,j1,j2,j3⟩
 dsimp only at j0 j1 j2 j3 ⊢
 simp
 (with_reducible repeat' first|refine Xk ?_<;>try simp|refine Xs ?_ ?_<;>intro h<;>(try intro h')<;>(try simp[h])<;>(try omega)|refine Xg ?_|omega)
 ·have hs:=eA _ (eI j0 ‹_›)
  have sH:=hs.p.small hg
  have hz:=hs.p.size
  have QU:=hs.cur
  have Rk:=hs.kind
  have jr:=hg.kinds
  generalize K3:gt L j=s at *
  (with_reducible repeat' first|refine Xk ?_<;>try simp|refine Xs ?_ ?_<;>intro h<;>(try intro h')<;>(try simp[h])<;>(try omega)|refine Xg ?_|omega)
  ·have q:=fX (l:=s.p.cs) (n:=s.cur) (v:=1+2*s.kind+p.side) QU.1 (by omega)
   refine Yn (Kf s.p sH) ?_
   simp
   refine Yt (f156 (k:=s.kind) (s:=p.side) Rk.1 (by omega) gp.1 gp.2) ?_
   simp[q]
   (with_reducible repeat' first|refine Xk ?_<;>try simp[q]|refine Xs ?_ ?_<;>intro h<;>(try intro h')<;>(try simp[h,q])<;>(try omega)|refine Xg ?_|omega)
   generalize ho:({ p:=⟨pt s.p.cs s.cur (1+2*s.kind+p.side),s.p.h0,s.p.h1,s.p.eQ,1-p.side⟩,gL:=s.gL }:eW)=o
   have fJ:kJ p.side s=some o:=by rw[kJ,if_pos ‹_›,← ho];rfl
   have mI:Small o.p:=fj.small hg (CS hs gp.1 gp.2 fJ)
   have iv:∀ o∈out,Small o.p:=fun o ho=>by
    obtain⟨t,ht,h3⟩:=bR.1 ((j2 o).1 ho)
    exact fj.small hg (CS (eA t (aN ht)) gp.1 gp.2 h3)
   have c2:=f195 out o (by omega) iv mI
   rw[← ho]at c2
   refine eS.q rfl rfl c2 (by simp) (fun _=>by simp) ?_
   intro r hr
   simp
   rw[ho]at hr
   (with_reducible repeat' first|refine Xk ?_<;>try simp|refine Xs ?_ ?_<;>intro h<;>(try intro h')<;>(try simp[h])<;>(try omega)|refine Xg ?_|omega)
   refine LJ.e (j+1,r) ?_
   refine⟨by dsimp only;omega,by dsimp only;omega,by dsimp only;omega,fun x=>?_,by dsimp only;omega⟩
   rw[hr.1,j2,gg j0 ‹_›,K3]
   simp[fJ,eq_comm]
  ·(with_reducible repeat' first|refine Xk ?_<;>try simp|refine Xs ?_ ?_<;>intro h<;>(try intro h')<;>(try simp[h])<;>(try omega)|refine Xg ?_|omega)
   refine LJ.e (j+1,out) ?_
   refine⟨by dsimp only;omega,by dsimp only;omega,by dsimp only;omega,fun x=>?_,by dsimp only;omega⟩
   rw[j2,gg j0 ‹_›,K3]
   have:kJ p.side s=none:=by rw[kJ,if_neg ‹_›]
   simp[this]
 ·rw[iD (by omega)]at j2
  refine⟨out,rfl,fun o=>?_,?_⟩
  ·rw[j2,oT]
   simp only[bR,pe]
  ·omega
