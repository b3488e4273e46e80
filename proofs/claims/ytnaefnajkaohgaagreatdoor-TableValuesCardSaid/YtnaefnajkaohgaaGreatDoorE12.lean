/- Part 12 of the proof of skewer.skewerlaw15.TableValues. -/
import Derived.Test.YtnaefnajkaohgaaGreatDoorE11
set_option linter.all false
namespace Go.AL
open Go Classical
theorem gL{α:Type}{f:α→List D}(a:α):cl f [a]=f a:=by rw[ni,Su,aw]
theorem fe.e{T:gj}{live:List Nat}{a:IR}{s:St}{K:gA}{α:Type}(x0:α)(E:α→Env)(Hp:α→U)(P:α→Prop)(μ:α→Nat)(h0:P x0)
  (h:∀ x,P x→XC T a { env:=E x,H:=Hp x } (qT s.H.length live ((E x0).map (·.1)) (LJ E Hp [] false (fun x'=>μ x'<μ x∧P x') .mk) K))
  (hE:forget ((E x0).map (·.1)) s.env=E x0:=by simp) (hH:s.H=Hp x0:=by first|rfl|(simp[gL];done)|(simp[*];done)) (hm:s.marks = []:=by exact rfl) (hr:s.fG=false:=by exact rfl) (nN:(((E x0).map (·.1)).all fun k=>live.contains k)=true:=by exact rfl):fe T live a s K .mk:=fe.k x0 E Hp P μ h0 hE hH hm hr nN h
theorem jn.pw{l:List Pos}(h:jn l):l.Pairwise fun x y=>gp x y<0:=by
 refine bz.2 fun i j hi hj vV=>?_
 have:=h.le (i:=(i:Int)) (j:=(j:Int)) (by omega) (by omega) (by omega)
 rwa [qG hi,qG hj]at this
theorem jn.of{r:List Pos}(h:r.Pairwise fun x y=>gp x y<0):jn r:=by
 intro i h1 h2
 rw[nu (by omega) (by omega),nu (by omega) (by omega)]
 exact bz.1 h _ _ _ _ (by omega)
theorem Qp:∀ {a b:List Pos},(a.Pairwise fun x y=>gp x y<0)→(b.Pairwise fun x y=>gp x y<0)→(∀ q,q∈a↔q∈b)→a=b
 | [],[],_,_,_=>rfl
 | [],y::b,_,_,h=>by have:=(h y).2 (by simp);cases this
 | x::a,[],_,_,h=>by have:=(h x).1 (by simp);cases this
 | x::a,y::b,ha,hb,h=>by
  have oE:=aJ.1 ha
  have mB:=aJ.1 hb
  have e:x=y:=by
   rcases aq.1 ((h x).1 (by simp))with e|e
   ·exact e
   rcases aq.1 ((h y).2 (by simp))with f|f
   ·exact f.symm
   have h1:=mB.1 x e
   have h2:=oE.1 y f
   rw[qB]at h1
   omega
  subst e
  rw[Qp oE.2 mB.2 fun q=>?_]
  constructor
  ·intro hq
   rcases aq.1 ((h q).1 (by simp[hq]))with e|e
   ·subst e;have:=oE.1 q hq;rw[p8]at this;omega
   ·exact e
  ·intro hq
   rcases aq.1 ((h q).2 (by simp[hq]))with e|e
   ·subst e;have:=mB.1 q hq;rw[p8]at this;omega
   ·exact e
theorem Q8{a b:List Pos}(ha:jn a)(hb:jn b)(h:∀ q,q∈a↔q∈b):a=b:=Qp ha.pw hb.pw h
theorem SF{x y:Pos}(h:x≠y)(h2:¬ gp x y<0):gp y x<0:=by
 have:gp x y≠0:=fun e=>h (n9.1 e)
 rw[qB];omega
theorem O0(x:Pos):∀ r:List Pos,(r.Pairwise fun x y=>gp x y<0)→∃ r':List Pos,(r'.Pairwise fun x y=>gp x y<0)∧∀ q,q∈r'↔q=x∨q∈r
 | [],_=>⟨[x],by simp,by simp⟩
 | y::r,h=>by
  have h':=aJ.1 h
  by_cases e:x=y
  ·subst e;exact⟨x::r,h,by simp⟩
  by_cases hl:gp x y<0
  ·refine⟨x::y::r,aJ.2 ⟨fun z hz=>?_,h⟩,by simp⟩
   rcases aq.1 hz with rfl|hz
   ·exact hl
   ·exact tS hl (h'.1 z hz)
  ·obtain⟨r',h1,h2⟩:=O0 x r h'.2
   refine⟨y::r',aJ.2 ⟨fun z hz=>?_,h1⟩,fun q=>?_⟩
   ·rcases(h2 z).1 hz with rfl|hz
    ·exact SF e hl
    ·exact h'.1 z hz
   ·simp only[aq,h2]
    constructor
    ·rintro(h|h|h)<;>simp[h]
    ·rintro(h|h|h)<;>simp[h]
theorem Hg:∀ l:List Pos,∃ r,jn r∧∀ q,q∈r↔q∈l
 | []=>⟨[],fun i h1 h2=>by simp at h2;omega,by simp⟩
 | x::l=>by
  obtain⟨r,h1,h2⟩:=Hg l
  obtain⟨r',h3,h4⟩:=O0 x r h1.pw
  exact⟨r',jn.of h3,fun q=>by rw[h4,h2,aq]⟩
noncomputable def iV(l:List Pos):List Pos:=Classical.choose (Hg l)
theorem wV(l:List Pos):jn (iV l):=(cJ (Hg l)).1
@[simp] theorem q7{l:List Pos}{q:Pos}:q∈iV l↔q∈l:=(cJ (Hg l)).2 q
theorem Q6{l r:List Pos}(h:jn r)(hm:∀ q,q∈r↔q∈l):r=iV l:=Q8 h (wV l) fun q=>by rw[hm,q7]
theorem qn{α:Type}[DecidableEq α]:∀ {l m:List α},l.Nodup→(∀ x∈l,x∈m)→l.length≤m.length
 | [],m,_,_=>by simp
 | a::l,m,hn,h=>by
  have hn:=ct.1 hn
  have h1:l.length≤(m.erase a).length:=qn hn.2 fun x hx=>by
   refine(List.mem_erase_of_ne ?_).2 (h x (by simp[hx]))
   rintro rfl;exact hn.1 hx
  rw[eC (h a (by simp))]at h1
  have:0<m.length:=cG (h a (by simp))
  simp;omega
theorem jn.nodup{l:List Pos}(h:jn l):l.Nodup:=h.pw.imp fun{a b} uj e=>by
 subst e;rw[p8]at uj;omega
theorem Hf(l:List Pos):(iV l).length≤l.length:=qn (jn.nodup (wV l)) fun x hx=>q7.1 hx
def ended(g:eU)(p:Pos):Prop:=∃ c∈g.clauses,jh p c
theorem Bn{g:eU}{p:Pos}(h:¬ ended g p):∀ c∈g.clauses,¬ jh p c:=fun c hc hl=>h ⟨c,hc,hl⟩
def EY(g:eU)(p:Pos):List Pos:=(upto g.kinds.length).flatMap fun k=>(upto p.cs.length).map fun c=>iG p k c
theorem vF{α β:Type}{f:α→List β}{n:Nat}:∀ {l:List α},(∀ a∈l,(f a).length≤n)→(l.flatMap f).length≤l.length*n
 | [],_=>by simp
 | a::l,h=>by
  rw[List.flatMap_cons,ax,aG,bU]
  have:=h a (by simp)
  have:=vF (l:=l) fun b hb=>h b (by simp[hb])
  omega
theorem QS{g:eU}:∀ {l:List eY} {a:List e9},(oy g l a).length≤10 ^ l.length*a.length
 | [],a=>by simp[oy]
 | x::r,a=>by
  rw[oy]
  refine Nat.le_trans QS ?_
  rw[aG,dS,eQ]
  refine dV _ ?_
  rw[di]
  exact vF fun s _=>yP
theorem acO{g:eU}(hg:fr g){p:Pos}(hp:fR g p):(nc g p).length≤3600000000:=by
 have hz:=hp.size
 have hb:=hg.ib.size
 have:(nc g p).length≤(upto p.cs.length).length*400000000:=by
  refine vF fun c hc=>?_
  rw[pg]at hc
  unfold mO
  split
  ·rename_i e
   have fg:=yO hg hp hc.1 (by omega) e
   have hk:=hg.gD _ (ff (l:=g.kinds) fg.kind.1 fg.kind.2)
   have h2:((gt g.kinds (fo (gt p.cs c))).gD.flatMap (qo g p c)).length≤(gt g.kinds (fo (gt p.cs c))).gD.length*100000000:=by
    refine vF fun l hl=>?_
    have h3:=(hk.2 l hl).len
    refine Nat.le_trans (dm _ _) (Nat.le_trans QS ?_)
    have:10 ^ l.length≤10 ^ 8:=cy (by decide) h3.2
    simpa using this
   have h4:(gt g.kinds (fo (gt p.cs c))).gD.length≤4:=hk.1
   omega
  ·simp
 have e:(upto p.cs.length).length=p.cs.length:=by simp[upto]
 rw[e]at this
 omega
theorem S7{g:eU}(hg:fr g){p:Pos}(hp:fR g p):(EY g p).length≤18:=by
 have hz:=hp.size
 have hb:=hg.ib.size
 have hk:=hg.kinds
 have:(EY g p).length≤(upto g.kinds.length).length*9:=vF fun k _=>by
  simp[upto];omega
 have e:(upto g.kinds.length).length=g.kinds.length:=by simp[upto]
 rw[e]at this
 omega
theorem Yw{g:eU}{p q:Pos}(h:nG g p q):q∈(nc g p).map (·.p)++EY g p:=by
 obtain⟨_,h⟩:=h
 split at h
 ·exact List.mem_append.2 (.inl (ao.2 ⟨_,h,rfl⟩))
 ·rcases h with⟨o,h,rfl⟩|⟨k,c,h1,h2,h3,h4,_,_,rfl⟩
  ·exact List.mem_append.2 (.inl (ao.2 ⟨_,h,rfl⟩))
  ·exact List.mem_append.2 (.inr (bh.2 ⟨k,pg.2 ⟨h1,h2⟩,ao.2 ⟨c,pg.2 ⟨h3,h4⟩,rfl⟩⟩))
noncomputable def gU(g:eU)(p:Pos):List Pos:=iV (((nc g p).map (·.p)++EY g p).filter fun q=>decide (nG g p q))
theorem YA(g:eU)(p:Pos):jn (gU g p):=wV _
@[simp] theorem wD{g:eU}{p q:Pos}:q∈gU g p↔nG g p q:=by
 unfold gU
 rw[q7,aK]
 simp only[decide_eq_true_eq]
 exact⟨fun h=>h.2,fun h=>⟨Yw h,h⟩⟩
theorem Kp{g:eU}{p:Pos}{r:List Pos}(h:jn r)(hm:∀ q,q∈r↔nG g p q):r=gU g p:=Q8 h (YA g p) fun q=>by rw[hm,wD]
theorem Ko{g:eU}{p:Pos}(h:ended g p):gU g p = []:=by
 refine cv.2 fun q hq=>?_
 obtain⟨c,hc,hl⟩:=h
 exact(wD.1 hq).1 c hc hl
@[irreducible] noncomputable def qV(g:eU)(p:Pos):D:=if ended g p then .emp else gb (gU g p)
theorem Gu(g:eU)(p:Pos):(qV g p = .emp∧gU g p = [])∨qV g p=gb (gU g p):=by
 unfold qV
 split
 ·rename_i h;exact .inl ⟨rfl,Ko h⟩
 ·exact .inr rfl
theorem Bj{g:eU}(hg:fr g){p:Pos}(hp:fR g p):(gU g p).length≤4000000000:=by
 refine Nat.le_trans (Hf _) (Nat.le_trans (List.length_filter_le _ _) ?_)
 have:=acO hg hp
 have:=S7 hg hp
 simp;omega
section
variable{g:eU}{p:Pos}{n:Int}{k:IntKind}{P:D→Prop}{H:U}
@[simp] theorem aiB:closed (qV g p)=true:=by rcases Gu g p with⟨h,_⟩|h<;>rw[h]<;>simp
@[simp] theorem akH:na .slice (qV g p) H=some (.i (gU g p).length):=by rcases Gu g p with⟨h,e⟩|h<;>rw[h]<;>simp[*]
@[simp] theorem anM:jM 5 H (qV g p)=some (cl Pos.cells (gU g p),(gU g p).length):=by rcases Gu g p with⟨h,e⟩|h<;>rw[h]<;>simp[*]
@[simp] theorem alp:oA (mL 5 (qV g p) (.val (.int k n))) P .mk=((0≤n∧n<(gU g p).length)∧P (.fh (gt (gU g p) n).cells)):=by
 rcases Gu g p with⟨h,e⟩|h
 ·rw[h,e]
  simp only[mL,P0,cI]
  refine propext ⟨fun h=>h.elim,fun⟨h,_⟩=>?_⟩
  have:=h.1;have:=h.2;simp at this;omega
 ·rw[h];exact tg
end
noncomputable def p9(g:eU)(p:Pos):Int:=if ended g p then(g.clauses.findIdx fun c=>decide (jh p c):Nat)else -1
theorem M3{g:eU}{p:Pos}(h:ended g p):0≤p9 g p∧p9 g p<g.clauses.length∧gt g.clauses (p9 g p)∈g.clauses:=by
 unfold p9
 rw[if_pos h]
 have:(g.clauses.findIdx fun c=>decide (jh p c))<g.clauses.length:=by
  rw[List.findIdx_lt_length]
  obtain⟨c,hc,hl⟩:=h
  exact⟨c,hc,by simpa using hl⟩
 exact⟨by omega,by omega,ff (by omega) (by omega)⟩
theorem M4{g:eU}{p:Pos}(h:¬ ended g p):p9 g p = -1:=by unfold p9;rw[if_neg h]
theorem M5{g:eU}{p:Pos}:0≤p9 g p↔ended g p:=by
 by_cases h:ended g p
 ·exact⟨fun _=>h,fun _=>(M3 h).1⟩
 ·rw[M4 h];simp[h]
noncomputable def stat(g:eU)(p:Pos):Int×Bool:=(if ended g p then(gt g.clauses (p9 g p)).out else if gU g p = []then g.blocked else 0,decide (gU g p = []))
theorem aek{g:eU}(hg:fr g){p:Pos}(h:(stat g p).2=true):1≤(stat g p).1∧(stat g p).1≤3:=by
 unfold stat at *
 simp only[decide_eq_true_eq]at h ⊢
 split
 ·rename_i he;exact(hg.clause _ (M3 he).2.2).out
 ·exact hg.blocked
end Go.AL
namespace Go.Proofs.YtnaefnajkaohgaaGreatDoor
open Go Go.AL Classical
set_option maxRecDepth 10000
set_option maxHeartbeats 1000000
theorem Nh(p:Pos)(hp:Small p):Wf T 155 [dP p] [] (fun d H=>d = .agg [.eT 0 1 1 0 p.cs.length,dI p.h0,dI p.h1,.i p.fq,.i p.side]∧H = [.row 3 1 (cl f1 p.cs)]):=by
 obtain⟨h1,h2,h3⟩:=hp
 refine Wf.xo 3 (fn:=tC) rfl (by simp[tC]) ?_
 simp[tC]
 (with_reducible repeat' first|refine Xk ?_<;>try simp|refine Xs ?_ ?_<;>intro h<;>(try intro h')<;>(try simp[h])<;>(try omega)|refine Xg ?_|omega)
@[irreducible] def fA(a:List e9):List D:=[iT a]
theorem vB(a:List e9):fA a = [iT a]:=by unfold fA;rfl
instance:Fl fA 1:=⟨fun _=>by simp[vB],fun _=>by simp[vB,fy]⟩
@[simp] theorem ah2(l:List (List e9))(x:List e9):cl fA l ++ [iT x]=cl fA (l ++ [x]):=by rw[← oZ,vB]
theorem Sn(x:List e9) : [iT x]=cl fA [x]:=by rw[ni,vB];simp
def mi(g:eU)(x:eY)(now:List e9):List e9:=now.foldl (fun acc s=>jX acc (gF g s x)) []
def mP(g:eU):List eY→List e9→List (List e9)
 | [],_=>[]
 | x::r,now=>mi g x now::mP g r (mi g x now)
theorem NC{g:eU}{x:eY}{t:e9}:∀ {now acc:List e9},t∈now.foldl (fun acc s=>jX acc (gF g s x)) acc↔t∈acc∨t∈now.flatMap fun s=>gF g s x
 | [],acc=>by simp
 | s::r,acc=>by
  rw[cH,NC,zr,List.flatMap_cons,List.mem_append,or_assoc]
theorem Gw{g:eU}{x:eY}{now:List e9}{t:e9}:t∈mi g x now↔t∈now.flatMap fun s=>gF g s x:=by
 unfold mi;rw[NC];simp
theorem NB{g:eU}{x:eY}:∀ {now acc:List e9},(now.foldl (fun acc s=>jX acc (gF g s x)) acc).length≤acc.length+10*now.length
 | [],acc=>by simp
 | s::r,acc=>by
  rw[cH]
  refine Nat.le_trans NB ?_
  have:=zp (a:=acc) (b:=gF g s x)
  have:=yP (g:=g) (s:=s) (x:=x)
  rw[aG];omega
theorem Bl{g:eU}{x:eY}{now:List e9}:(mi g x now).length≤10*now.length:=by
 unfold mi
 refine Nat.le_trans NB ?_
 simp
theorem Re{g:eU}:∀ {l:List eY} {now:List e9},(mP g l now).length=l.length
 | [],_=>rfl
 | x::r,now=>by rw[mP,aG,Re,aG]
theorem f194(g:eU)(hg:fr g)(p:Pos)(hp:fR g p)(c i:Int)(hc:0≤c∧c<g.size)(hm:iA (gt p.cs c)=p.side)(hi:0≤i∧i<(gt g.kinds (fo (gt p.cs c))).gD.length) :
  Wf T 194 [dG g,dP p,.i c,.i i] [] (Is (.agg [.sl 1 (([jl p c]::mP g (gt (gt g.kinds (fo (gt p.cs c))).gD i) [jl p c]).map fA),.i 0])):=by
 have gy:=hp.size
 have jy:=hp.small hg
 have ic:=hp.cs _ (ff hc.1 (by omega))
 have gH:=hp.side
 obtain⟨m1,m2,m3,m4⟩:=wz gH.1 hm
 have hk:fo (gt p.cs c)<g.kinds.length:=r7 ic.2 hg.kinds.1
 refine Yz y9 (gY 117 [10] y9.body) ?_
 simp[y9,gY,jc,lW,lX,me,ky]
 refine Yc (f65 g p hg hp) ?_
 simp
 (with_reducible repeat' first|refine Xk ?_<;>try simp|refine Xs ?_ ?_<;>intro h<;>(try intro h')<;>(try simp[h])<;>(try omega)|refine Xg ?_|omega)
 refine Yc (f51 _) ?_
 simp
 (with_reducible repeat' first|refine Xk ?_<;>try simp|refine Xs ?_ ?_<;>intro h<;>(try intro h')<;>(try simp[h])<;>(try omega)|refine Xg ?_|omega)
 rotate_right
 refine tJ.n rfl rfl (Nh p jy) (by simp) (by simp) ?_
 simp
 (with_reducible repeat' first|refine Xk ?_<;>try simp|refine Xs ?_ ?_<;>intro h<;>(try intro h')<;>(try simp[h])<;>(try omega)|refine Xg ?_|omega)
 refine fe.fz [0,1,3,4,5,6,8] rfl ?_
 have q0:=gI (l:=p.cs) (n:=c) (v:=0) hc.1 (by omega)
 have fg:iD g (jl p c):=yO hg hp hc.1 hc.2 hm
 have Ju:=hg.gD _ (ff (l:=g.kinds) m1 hk)
 generalize lF:gt (gt g.kinds (fo (gt p.cs c))).gD i=prog at *
 have wi:sw g prog:=Ju.2 _ (lF▸ff hi.1 hi.2)
 have Oz:=wi.len
 refine fe.k ((0,[[jl p c]],[jl p c]):Int×List (List e9)×List e9) (fun x=>[(4,.fh g.cells),(8,.ptr 2 0 0),(11,.ptr 9 0 0),(12,iT x.2.2),(13,gQ prog),(14,.i x.1)]) (fun x=>[.dead,.dead,.row 278 0 [.emp,.i 0],.dead,.dead,.dead,.dead,.row 280 x.1.toNat (cl fA x.2.1),.dead,.row 278 0 [.eT 7 x.1.toNat 1 0 x.2.1.length,.i 0]])
  (fun x=>0≤x.1∧x.1≤prog.length∧x.2.1.length=x.1.toNat+1∧(∀ s∈x.2.2,iD g s)∧x.2.2.length≤10 ^ x.1.toNat∧[jl p c]::mP g prog [jl p c]=x.2.1++mP g (prog.drop x.1.toNat) x.2.2) (fun x=>prog.length-x.1.toNat) ?_ ?_ ?_ rfl rfl (by simp) ?_
 ·simp;exact fg
 ·simp[jl,q0]
 ·simp[jl,← Sn,q0]
 rintro⟨k,steps,now⟩ ⟨k0,k1,k2,k3,k4,k5⟩
 dsimp only at k0 k1 k2 k3 k4 k5 ⊢
 simp
 (with_reducible repeat' first|refine Xk ?_<;>try simp|refine Xs ?_ ?_<;>intro h<;>(try intro h')<;>(try simp[h])<;>(try omega)|refine Xg ?_|omega)
 ·refine fe.e ((0,0,[]):Int×Nat×List e9) (fun x=>[(4,.fh g.cells),(8,.ptr 2 0 0),(11,.ptr 9 0 0),(12,iT now),(13,gQ prog),(14,.i k),(15,.eT 10 x.2.1 8 0 x.2.2.length),(16,.i x.1)]) (fun x=>[.dead,.dead,.row 278 0 [.emp,.i 0],.dead,.dead,.dead,.dead,.row 280 k.toNat (cl fA steps),.dead,.row 278 0 [.eT 7 k.toNat 1 0 steps.length,.i 0],.row 282 x.2.1 (cl e9.cells x.2.2)]) (fun x=>0≤x.1∧x.1≤now.length∧(∀ s∈x.2.2,iD g s)∧x.2.2.length≤10*x.1.toNat∧mi g (gt prog k) now=(now.drop x.1.toNat).foldl (fun acc s=>jX acc (gF g s (gt prog k))) x.2.2) (fun x=>now.length-x.1.toNat) ?_ ?_
  ·simp[mi]
  rintro⟨j,gn,acc⟩ ⟨j0,j1,j2,j3,j4⟩
  dsimp only at j0 j1 j2 j3 j4 ⊢
  simp
  (with_reducible repeat' first|refine Xk ?_<;>try simp|refine Xs ?_ ?_<;>intro h<;>(try intro h')<;>(try simp[h])<;>(try omega)|refine Xg ?_|omega)
  ·refine Yt (f228 g hg _ (k3 _ (ff j0 ‹_›)) _ (wi.steps _ (ff k0 ‹_›))) ?_
   simp
   have eX:=k3 _ (ff j0 ‹_›)
   refine fw.nC rfl rfl (f227 10 gn acc (gF g (gt now j) (gt prog k)) _ rfl (by simp) (fun s hs=>(j2 s hs).p.small hg) (fun s hs=>(uV hg eX (wi.steps _ (ff k0 ‹_›)) hs).p.small hg) ?_) ?_
   ·have h1:=yP (g:=g) (s:=gt now j) (x:=gt prog k)
    have h2:10 ^ k.toNat≤10 ^ 8:=cy (by decide) (by omega)
    omega
   rintro d H' ⟨Fg,rfl,rfl⟩
   simp
   have h2:10 ^ k.toNat≤10 ^ 8:=cy (by decide) (by omega)
   (with_reducible repeat' first|refine Xk ?_<;>try simp|refine Xs ?_ ?_<;>intro h<;>(try intro h')<;>(try simp[h])<;>(try omega)|refine Xg ?_|omega)
   refine LJ.e (j+1,Fg,jX acc (gF g (gt now j) (gt prog k))) ?_
   refine⟨by dsimp only;omega,by dsimp only;omega,by dsimp only;omega,fun s hs=>?_,?_,?_⟩
   ·rcases zr.1 hs with hs|hs
    ·exact j2 s hs
    ·exact uV hg eX (wi.steps _ (ff k0 ‹_›)) hs
   ·have h1:=yP (g:=g) (s:=gt now j) (x:=gt prog k)
    have h3:=zp (a:=acc) (b:=gF g (gt now j) (gt prog k))
    dsimp only
    omega
   ·rw[j4,lB j0 ‹_›,cH,show(j+1).toNat=j.toNat+1 by omega]
  ·have e:mi g (gt prog k) now=acc:=by rw[j4,aZ (by omega)];rfl
   (with_reducible repeat' first|refine Xk ?_<;>try simp|refine Xs ?_ ?_<;>intro h<;>(try intro h')<;>(try simp[h])<;>(try omega)|refine Xg ?_|omega)
   refine LJ.i (k+1,steps ++ [acc],acc) (by first|rfl|simp[show(k+1).toNat=k.toNat+1 by omega]) (by first|rfl|simp[show(k+1).toNat=k.toNat+1 by omega]) rfl rfl ?_
   refine⟨by dsimp only;omega,by dsimp only;omega,by dsimp only;omega,by simp;omega,j2,?_,?_⟩
   ·have h3:=Bl (g:=g) (x:=gt prog k) (now:=now)
    rw[e]at h3
    dsimp only
    rw[show(k+1).toNat=k.toNat+1 by omega,dS]
    omega
   ·rw[k5,lB k0 ‹_›,mP,e,show(k+1).toNat=k.toNat+1 by omega]
    simp
 ·rw[aZ (by omega),mP,aw]at k5
  rw[← k5];simp
set_option maxRecDepth 10000
set_option maxHeartbeats 1000000
theorem XS{a b:fD}(h1:¬ Ba a b)(h2:¬ Ba b a):a=b:=by
 unfold Ba at *
 have e:=qB a.p b.p
 have h:gp a.p b.p=0:=by
  by_cases h:gp a.p b.p=0
  ·exact h
  ·exfalso
   by_cases h3:gp a.p b.p<0
   ·exact h1 (.inl h3)
   ·exact h2 (.inl (by omega))
 have h':gp b.p a.p=0:=by omega
 simp[h,h']at h1 h2
 have:=n9.1 h
 cases a;cases b
 simp_all
 rename_i x y _
 cases x<;>cases y<;>simp_all
structure Ej(l:List fD)(x:fD)(i:Int)(d:Bool)(out:List fD):Prop where
 i0:0≤i∧i≤l.length
 dn:d=true→x∈out
 sub:∀ o∈out,o∈l.take i.toNat∨o=x
 sup:∀ o∈l.take i.toNat,o∈out
 len:out.length≤i.toNat+(if d then 1 else 0)
theorem Ej.step{l:List fD}{x:fD}{i:Int}{d d':Bool}{out:List fD}(h:Ej l x i d out)(hi:i<l.length)(xs:List fD)(hx:∀ o∈xs,o=x)(hd:d'=true→d=true∨x∈xs∨gt l i=x)(hl:xs.length+(if d then 1 else 0)≤(if d' then 1 else 0)):Ej l x (i+1) d' (out++xs ++ [gt l i]):=by
 have h0:=h.i0
 refine⟨by omega,fun e=>?_,fun o ho=>?_,fun o ho=>?_,?_⟩
 ·rcases hd e with e|e|e
  ·have:=h.dn e;simp[this]
  ·simp[e]
  ·simp[e]
 ·rw[gE h0.1 hi]
  simp at ho ⊢
  rcases ho with ho|ho|ho
  ·rcases h.sub o ho with h|h
   ·exact .inl (.inl h)
   ·exact .inr h
  ·exact .inr (hx o ho)
  ·exact .inl (.inr ho)
 ·rw[gE h0.1 hi]at ho
  simp at ho ⊢
  rcases ho with ho|ho
  ·exact .inl (h.sup o ho)
  ·exact .inr (.inr ho)
 ·have:=h.len
  simp
  omega
theorem f195(l:List fD)(x:fD)(hl:l.length<2 ^ 39)(hs:∀ o∈l,Small o.p)(hx:Small x.p):Wf T 195 [lN l,.agg x.cells] [] (Ex lN fun r=>(∀ o,o∈r↔o∈l∨o=x)∧r.length≤l.length+1):=by
 refine Yg C' ?_
 simp[C']
 refine fe.e ((0,false,[]):Int×Bool×List fD) (fun y=>[(0,lN l),(3,.ptr 0 0 0),(5,.eT 1 y.2.2.length 6 0 y.2.2.length),(6,.b y.2.1),(7,.i y.1)]) (fun y=>[.row 113 0 x.cells,.row 113 y.2.2.length (cl fD.cells y.2.2)]) (fun y=>Ej l x y.1 y.2.1 y.2.2) (fun y=>l.length-y.1.toNat) ?_ ?_
 ·exact⟨by simp,by simp,by simp,by simp,by simp⟩
 rintro⟨i,done,out⟩ hI
 have h0:=hI.i0
 have h5:=hI.len
 have h6:(if done=true then 1 else 0)≤1:=by split<;>omega
 dsimp only at hI h0 h5 ⊢
 simp
 (with_reducible repeat' first|refine Xk ?_<;>try simp|refine Xs ?_ ?_<;>intro h<;>(try intro h')<;>(try simp[h])<;>(try omega)|refine Xg ?_|omega)
 ·refine LJ.e (i+1,true,out ++ [gt l i]) ?_
  subst h
  have:=hI.step ‹_› [] (d':=true) (by simp) (by simp) (by simp)
  simp at this
  exact⟨by simp;omega,this⟩
 ·have hd:=h
  refine Yt (f229 _ _ (hs _ (ff h0.1 ‹_›)) hx) ?_
  simp[h]
  (with_reducible repeat' first|refine Xk ?_<;>try simp[hd]|refine Xs ?_ ?_<;>intro h<;>(try intro h')<;>(try simp[h,hd])<;>(try omega)|refine Xg ?_|omega)
  ·subst hd
   have:=hI.step ‹_› [] (d':=false) (by simp) (by simp) (by simp)
   simp at this
   refine LJ.e (i+1,false,out ++ [gt l i]) ?_
   exact⟨by simp;omega,this⟩
  ·refine Yt (f229 _ _ hx (hs _ (ff h0.1 ‹_›))) ?_
   simp[hd]
   (with_reducible repeat' first|refine Xk ?_<;>try simp[hd]|refine Xs ?_ ?_<;>intro h<;>(try intro h')<;>(try simp[h,hd])<;>(try omega)|refine Xg ?_|omega)
   ·subst hd
    have:=hI.step ‹_› [x] (d':=true) (by simp) (by simp) (by simp)
    refine LJ.e (i+1,true,out ++ [x] ++ [gt l i]) ?_
    exact⟨by simp;omega,this⟩
   ·subst hd
    have e:=XS (a:=gt l i) (b:=x) ‹_› ‹_›
    have:=hI.step ‹_› [] (d':=true) (by simp) (by simp[e]) (by simp)
    simp at this
    refine LJ.e (i+1,true,out ++ [gt l i]) ?_
    exact⟨by simp;omega,this⟩
 ·subst h
  have h3:=hI.sub
  have h4:=hI.sup
  rw[js (by omega)]at h3 h4
  refine⟨out,rfl,fun o=>⟨h3 o,fun h=>?_⟩,by simp at h5;omega⟩
  rcases h with h|h
  ·exact h4 o h
  ·rw[h];exact hI.dn rfl
 ·subst h
  have h3:=hI.sub
  have h4:=hI.sup
  rw[js (by omega)]at h3 h4
  refine⟨out ++ [x],by simp[lN],fun o=>?_,by simp at h5;simp;omega⟩
  simp
  constructor
  ·rintro(h|h)
   ·exact h3 o h
   ·exact .inr h
  ·rintro(h|h)
   ·exact .inl (h4 o h)
   ·exact .inr h
theorem Ph{g:eU}:∀ {l:List eY} {now:List e9} {t:e9},t∈gt (now::mP g l now) l.length↔t∈oy g l now
 | [],now,t=>by simp[mP,oy,gt]
 | x::r,now,t=>by
  have e:gt (now::mP g (x::r) now) (x::r).length=gt (mi g x now::mP g r (mi g x now)) r.length:=by
   rw[mP]
   unfold gt
   simp only[aG,et,List.getD_cons_succ]
  rw[e,Ph,oy]
  exact QR (fun s=>Gw) t
theorem Pg{g:eU}:∀ {l:List eY} {now:List e9},(gt (now::mP g l now) l.length).length≤10 ^ l.length*now.length
 | [],now=>by simp[mP,gt]
 | x::r,now=>by
  have e:gt (now::mP g (x::r) now) (x::r).length=gt (mi g x now::mP g r (mi g x now)) r.length:=by
   rw[mP]
   unfold gt
   simp only[aG,et,List.getD_cons_succ]
  rw[e]
  refine Nat.le_trans Pg ?_
  rw[aG,dS,eQ]
  exact dV _ Bl
theorem f154(g:eU)(hg:fr g)(p:Pos)(hp:fR g p)(c i:Int)(hc:0≤c∧c<g.size)(hm:iA (gt p.cs c)=p.side)(hi:0≤i∧i<(gt g.kinds (fo (gt p.cs c))).gD.length) :
  Wf T 154 [dG g,dP p,.i c,.i i] [] (Ex (fun r=>.tup [lN r,.i 0]) fun r=>(∀ o,o∈r↔o∈qo g p c (gt (gt g.kinds (fo (gt p.cs c))).gD i))∧r.length≤10 ^ 8):=by
 have ic:=hp.cs _ (ff hc.1 (by have:=hp.size;omega))
 have gH:=hp.side
 obtain⟨m1,m2,m3,m4⟩:=wz gH.1 hm
 have hk:fo (gt p.cs c)<g.kinds.length:=r7 ic.2 hg.kinds.1
 have fg:iD g (jl p c):=yO hg hp hc.1 hc.2 hm
 have Ju:=hg.gD _ (ff (l:=g.kinds) m1 hk)
 have c1:=f194 g hg p hp c i hc hm hi
 generalize lF:gt (gt g.kinds (fo (gt p.cs c))).gD i=prog at *
 have wi:sw g prog:=Ju.2 _ (lF▸ff hi.1 hi.2)
 have Oz:=wi.len
 have qK:∀ t,t∈gt ([jl p c]::mP g prog [jl p c]) prog.length↔t∈oy g prog [jl p c]:=fun t=>Ph
 have sU:=Pg (g:=g) (l:=prog) (now:=[jl p c])
 have h8:10 ^ prog.length≤10 ^ 8:=cy (by decide) Oz.2
 have OI:=Re (g:=g) (l:=prog) (now:=[jl p c])
 generalize hS : [jl p c]::mP g prog [jl p c]=S at *
 have hSl:S.length=prog.length+1:=by rw[← hS];simp[OI]
 refine Yz y7 (gY 70 [5] y7.body) ?_
 simp[y7,gY,jc,lW,lX,me,ky]
 refine Yc (c1) ?_
 simp
 (with_reducible repeat' first|refine Xk ?_<;>try simp[vB]|refine Xs ?_ ?_<;>intro h<;>(try intro h')<;>(try simp[h,vB])<;>(try omega)|refine Xg ?_|omega)
 rw[show(S.length:Int)-1=prog.length by omega]
 generalize gt S (prog.length:Int)=L at *
 have eX:∀ s∈L,iD g s:=fun s hs=>G3 hg wi.steps (fun t ht=>by rw[List.mem_singleton]at ht;subst ht;exact fg) s ((qK s).1 hs)
 have hL8:L.length≤100000000:=by simp at sU;omega
 simp[vB]
 (with_reducible repeat' first|refine Xk ?_<;>try simp|refine Xs ?_ ?_<;>intro h<;>(try intro h')<;>(try simp[h])<;>(try omega)|refine Xg ?_|omega)
 refine fe.fz [0,2,3] rfl ?_
 refine fe.e ((0,[]):Int×List fD) (fun y=>[(5,.ptr 1 0 0),(11,lN y.2),(12,iT L),(13,.i y.1)]) (fun y=>[.dead,.row 44 0 p.cells,.dead,.dead]) (fun y=>0≤y.1∧y.1≤L.length∧(∀ o,o∈y.2↔o∈(L.take y.1.toNat).filterMap (lO p.side))∧y.2.length≤y.1.toNat) (fun y=>L.length-y.1.toNat) ?_ ?_
 ·simp
 rintro⟨j,out⟩ ⟨j0,j1,j2,j3⟩
 dsimp only at j0 j1 j2 j3 ⊢
 simp
 (with_reducible repeat' first|refine Xk ?_<;>try simp|refine Xs ?_ ?_<;>intro h<;>(try intro h')<;>(try simp[h])<;>(try omega)|refine Xg ?_|omega)
 ·have hs:=eX _ (ff j0 ‹_›)
  have uA:=hs.p.small hg
  have hz:=hs.p.size
  have U1:=hs.cur
  have Vs:=hs.kind
  have ja:=hg.kinds
  generalize Og:gt L j=s at *
  (with_reducible repeat' first|refine Xk ?_<;>try simp|refine Xs ?_ ?_<;>intro h<;>(try intro h')<;>(try simp[h])<;>(try omega)|refine Xg ?_|omega)
  ·have q:=gI (l:=s.p.cs) (n:=s.cur) (v:=1+2*s.kind+p.side) U1.1 (by omega)
   refine Yn (Nh s.p uA) ?_
   simp
   refine Yt (f156 (k:=s.kind) (s:=p.side) Vs.1 (by omega) gH.1 gH.2) ?_
   simp[q]
   (with_reducible repeat' first|refine Xk ?_<;>try simp[q]|refine Xs ?_ ?_<;>intro h<;>(try intro h')<;>(try simp[h,q])<;>(try omega)|refine Xg ?_|omega)
   generalize ho:({ p:=⟨pt s.p.cs s.cur (1+2*s.kind+p.side),s.p.h0,s.p.h1,s.p.fq,1-p.side⟩,iu:=s.iu }:fD)=o
   have gx:lO p.side s=some o:=by rw[lO,if_pos ‹_›,← ho];rfl
   have oi:Small o.p:=fR.small hg (E' hs gH.1 gH.2 gx)
   have jy:∀ o∈out,Small o.p:=fun o ho=>by
    obtain⟨t,ht,h3⟩:=bW.1 ((j2 o).1 ho)
    exact fR.small hg (E' (eX t (aM ht)) gH.1 gH.2 h3)
   have c2:=f195 out o (by omega) jy oi
   rw[← ho]at c2
   refine fw.q rfl rfl c2 (by simp) (fun _=>by simp) ?_
   intro r hr
   simp
   rw[ho]at hr
   (with_reducible repeat' first|refine Xk ?_<;>try simp|refine Xs ?_ ?_<;>intro h<;>(try intro h')<;>(try simp[h])<;>(try omega)|refine Xg ?_|omega)
   refine LJ.e (j+1,r) ?_
   refine⟨by dsimp only;omega,by dsimp only;omega,by dsimp only;omega,fun x=>?_,by dsimp only;omega⟩
   rw[hr.1,j2,gE j0 ‹_›,Og]
   simp[gx,eq_comm]
  ·(with_reducible repeat' first|refine Xk ?_<;>try simp|refine Xs ?_ ?_<;>intro h<;>(try intro h')<;>(try simp[h])<;>(try omega)|refine Xg ?_|omega)
   refine LJ.e (j+1,out) ?_
   refine⟨by dsimp only;omega,by dsimp only;omega,by dsimp only;omega,fun x=>?_,by dsimp only;omega⟩
   rw[j2,gE j0 ‹_›,Og]
   have:lO p.side s=none:=by rw[lO,if_neg ‹_›]
   simp[this]
 ·rw[js (by omega)]at j2
  refine⟨out,rfl,fun o=>?_,?_⟩
  ·rw[j2,qo]
   simp only[bW,qK]
  ·omega
