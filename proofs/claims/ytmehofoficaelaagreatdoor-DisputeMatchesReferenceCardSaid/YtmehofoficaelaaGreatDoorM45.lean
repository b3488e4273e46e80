/- Part 45 of DisputeMatchesReference. -/
import Derived.Test.YtmehofoficaelaaGreatDoorM44
set_option linter.all false
open List renaming getElem?_eq_getElem→aE,replicate→b4,length_map→cj,mem_singleton→cp,map_append→dr,length_filter_le→dx,mem_of_getElem?→ek,mem_reverse→en,getElem_map→ep,all_eq_true→er,length→List.l
open Option renaming some→bb,none→ez
open Int renaming toNat_natCast→bs,toNat→Int.n
open And renaming intro→di
open Bool renaming true→eh,false→eB
namespace Go.Proofs.YtmehofoficaelaaGreatDoor
open Go Go.AL Classical
def outs(n:Nat)(left:List Int):List Int:=(upto n).filter λk => !left.contains k
def Vj(n:Nat):(upto n).Nodup:=(Kb n).imp λh e=>U
def aol{n:Nat}{im left:List Int}(h:(im++left).Perm (upto n)):im.mergeSort (λx y=>decide (x<=y))=outs n left:=by
 have f:(im++left).Nodup:=h.nodup_iff.2 (Vj n);rw[cZ]at f;obtain⟨h1,_,d⟩:=f;have g:=List.mergeSort_perm im (λx y=>decide (x<=y));have e:(im.mergeSort (λx y=>decide (x<=y))).Nodup:=g.nodup_iff.2 h1
 have hs:(im.mergeSort (λx y=>decide (x<=y))).Pairwise λx y=>decide (x<=y)=true:=
  fF (λa b c h1 d=>by simp only[decide_eq_true_eq]at h1 d ⊢;omega) (λa b=>by simp only[b9,decide_eq_true_eq];omega) im
 refine DV ((hs.and e).imp λ⟨h1,d⟩=>by simp only[decide_eq_true_eq]at h1;omega) ((Kb n).filter _) λk=>?_;unfold outs;rw[g.mem_iff,aO];have i:=h.mem_iff (a:=k);rw[aj]at i;simp only[dq,et,decide_eq_false_iff_not];constructor
 .grind
 .grind
def aoX{left ls:List Int}(g:ls.Nodup)(i:∀p∈ls,0<=p/\p<left.l):((ls.reverse.map λk=>gt left k)++nO left ls).Perm left:=by
 have e:(upto left.l).map (λp=>gt left p)=left:=by have:=acj left;unfold nO at this;rwa [dR.2 gf]at this
 have h1:(ls.reverse++(upto left.l).filter λp => !ls.contains p).Perm (upto left.l):=by
  refine(List.perm_ext_iff_of_nodup ?_ (Vj _)).2 λk=>?_
  .rw[cZ];refine⟨(List.reverse_perm ls).nodup_iff.2 g,(Vj _).filter _,λa c b d e=>?_⟩;rw[en]at c;rw[aO]at d;rw[e]at c;simp[c]at d
  .rw[aj,en,aO,jF];have:=i k
   by_cases h:k∈ls
   .grind
   .simp[h]
 have f:=h1.map (λp=>gt left p);rw[e,dr]at f;exact f
noncomputable def Gl(A:mf)(n:Nat)(ad:gR->Bool)(cl:List gR):List Int×Jd:=J1 A n ad cl (cl.l+1) (upto cl.l)
structure SI(A:mf)(n:Nat)(ad:gR->Bool)(cl:List gR)(left im:List Int):Prop where
 pm:(im++left).Perm (upto cl.l)
 st:∃f,left.l<f/\J1 A n ad cl f left=Gl A n ad cl
section
variable{A:mf}{n:Nat}{ad:gR->Bool}{cl:List gR}{left im:List Int}
theorem SI.start:SI A n ad cl (upto cl.l) []:=⟨gf,_,by rw[qx];omega,rfl⟩
theorem SI.rng(h:SI A n ad cl left im):∀k∈left,0<=k/\k<cl.l:=λk a=>jF.1 (h.pm.mem_iff.1 (bP _ a))
theorem SI.len(h:SI A n ad cl left im):im.l+left.l=cl.l:=by have:=h.pm.length_eq;rwa [ar,qx]at this
theorem SI.step(h:SI A n ad cl left im){a:Int}{ls:List Int}(i:nj A n ad (left.map λk=>gt cl k) = .v a ls) :
  SI A n ad cl (nO left ls) (im++ls.reverse.map λk=>gt left k)/\(nO left ls).l<left.l/\(∀p∈ls,0<=p/\p<left.l)/\ls.Pairwise (· < ·)/\ls≠[]:=by
 obtain⟨⟨q,g⟩,d,_⟩:=aik i
 have c:∀p∈ls,0<=p/\p<left.l:=λp b=>by rw[g]at b;have:=aic p b;rwa [cj]at this
 have hs:ls.Pairwise (· < ·):=by rw[g];exact aid
 obtain⟨p,b⟩:=dX _ d;have j:=aoV b (c p b).1 (c p b).2;obtain⟨f,l,e⟩:=h.st;refine⟨⟨?_,?_⟩,j,c,hs,d⟩
 .rw[aN];exact((aoX (hs.imp λh e=>U) c).append_left im).trans h.pm
 .cases f with
  | zero=>omega
  | succ f=>
   rw[J1,i]at e;exact⟨f,U,e⟩
theorem SI.done(h:SI A n ad cl left im){J:Jd}(c:nj A n ad (left.map λk=>gt cl k)=J)(b:∀a ls,J≠.v a ls):Gl A n ad cl=(left,J):=by
 obtain⟨f,d,e⟩:=h.st;rw[<-e]
 cases f with
 | zero=>omega
 | succ f=>
  rw[J1,c]
  cases J with
  | v a ls=>exact absurd rfl (b a ls)
  | none=>rfl
  | vY=>rfl
theorem aar(h:nj A n ad cl = .none){i:Int}(i0:0<=i)(b:i<n):∀r∈sd cl i,lV r=true:=λr d=>by
 unfold nj at h;split at h
 .cases h
 split at h
 .cases h
 split at h
 .cases h
 .rename_i a;obtain⟨c,f,g,rfl⟩:=wF.1 d;have:=ei.1 a i (jF.2 ⟨i0,b⟩);simp only[decide_eq_true_eq,Classical.not_not]at this
  cases e:lV (jH c i)with
  | true=>rfl
  | false=>exact absurd this (Dm.2 ⟨c,f,by simp[g,e]⟩)
end
def yJ(cl:List gR)(left:List Int)(n:Nat):List gj:=(upto n).map λi=>l5 (sd (left.map λk=>gt cl k) i)
def Qx(cl:List gR)(left:List Int)(n:Nat):(yJ cl left n).l=n:=by unfold yJ;rw[cj,qx]
def acK(cl:List gR)(left:List Int){n:Nat}{i:Int}(i0:0<=i)(a:i<n):gt (yJ cl left n) i=l5 (sd (left.map λk=>gt cl k) i):=by rw[iV i0 (by rw[Qx];exact a)];unfold yJ;rw[ep];congr 2;simp[upto];omega
noncomputable def tC(A:mf)(n:Nat)(ad:gR->Bool)(cl:List gR):Option (List gj)×List Int:=
 (if (Gl A n ad cl).2 = .none/\∀k:Int,0<=k->k<n->lY A (yJ cl (Gl A n ad cl).1 n) k then bb (yJ cl (Gl A n ad cl).1 n)else ez,outs cl.l (Gl A n ad cl).1)
def vI:Option (List gj)×List Int->List D
 | (bb v,o)=>[iu v,dN 1 f1 o,.i 0]
 | (ez,o)=>[.gp,dN 1 f1 o,.i 180]
def W5{L:List Cw}{left:List Int}(h:∀k∈left,0<=k/\k<L.l):cs (left.map λk=>gt L k)=left.map λk=>gt (cs L) k:=by unfold cs;rw[b6];refine aw λk a=>?_;have:=h k a;exact(R6 this.1 this.2).symm
theorem TS:∀(ms:List Nat) (H:gg),ms.Nodup->(∀v∈ms,H[v]? = bb .ka)->∃H',kill ms H=bb H'/\H'.l=H.l/\∀w:Nat,w ∉ ms->H'[w]? = H[w]?
 | [],H,_,_=>⟨H,rfl,rfl,λ_ _=>rfl⟩
 | v::ms,H,hn,h=>by
  rw[cW]at hn;obtain⟨H',h1,b,c⟩:=TS ms (H.set v .dead) hn.2 λw a=>jZ;refine⟨H',?_,by rw[b,az],λw a=>?_⟩
  .simp_all
  .grind
def aie(p:gR->Bool)(cl:List gR):(idx p cl).Pairwise (· < ·):=by rw[<-vo];exact Dp p cl _
def ail{A:mf}{n:Nat}{ad:gR->Bool}{cl:List gR}{a:Int}{ls:List Int}(h:nj A n ad cl = .v a ls):ls.Pairwise (· < ·)/\ls.l<=cl.l/\∀k∈ls,0<=k/\k<cl.l:=by
 have key:∀p,ls=idx p cl->ls.Pairwise (· < ·)/\ls.l<=cl.l/\∀k∈ls,0<=k/\k<cl.l:=λp e=>by subst e;refine⟨aie p cl,?_,λk b=>(PI.1 b).1⟩;have:=dx (λk=>p (gt cl k)) (upto cl.l);unfold idx;simpa[upto]using this
 unfold nj at h;split at h
 .grind
 split at h
 .cases h
 split at h
 .grind
 split at h
 .cases h
 .grind
noncomputable def yV(V:List gj):gR:=⟨0,0,V.l,V,kZ V⟩
structure aqw(A:mf)(n:Nat)(V:List gj):Prop where
 len:V.l=n
 gQ:∀i:Int,0<=i->i<n->∀k∈gt A.nx i,0<=k/\k<n
 hV:∀i:Int,0<=i->i<n->lY A V i
 yx:∀i:Int,0<=i->i<n->lV (gt V i)=eh
set_option maxRecDepth 10000
set_option maxHeartbeats 16000000
def rD(B:List Bool):List Int:=(upto B.l).filter λk => !gt B k
def Bw{B:List Bool}{k:Int}:k∈rD B↔(0<=k/\k<B.l)/\gt B k=false:=by unfold rD;rw[aO,jF];simp
def aaP(B:List Bool):(rD B).Pairwise (· < ·):=(Kb _).filter _
def aok(B:List Bool):outs B.l (rD B)=(upto B.l).filter λk=>gt B k:=by
 unfold outs;refine List.filter_congr λk a=>?_;rw[jF]at a;have:=Bw (B:=B) (k:=k)
 cases h:gt B k with
 | true=>
  have:k ∉ rD B:=λb=>by have:=(Bw.1 b).2;rw[h]at this;cases this
  simp[this]
 | false=>
  have:k∈rD B:=Bw.2 ⟨a,h⟩;simp[this]
def R7{l:List Int}(hs:l.Pairwise (· < ·)){p q:Int}(a:0<=p)(h:p<q)(q1:q<l.l):gt l p<gt l q:=by rw[iV a U,iV U q1];exact bz.1 hs _ _ U U U
def aoY{left ls:List Int}(hs:left.Pairwise (· < ·)):(nO left ls).Pairwise (· < ·):=by unfold nO;rw[eo];refine((Kb left.l).filter _).imp_of_mem λ{p q} b a h=>?_;have h1:=jF.1 (aO.1 b).1;have c:=jF.1 (aO.1 a).1;exact R7 hs h1.1 h c.2
def aoW{B:List Bool}{ls:List Int}(d:∀p∈ls,0<=p/\p<(rD B).l):nO (rD B) ls=rD (tz B (λ_=>eh) (ls.map λp=>gt (rD B) p)):=by
 have hs:=aaP B
 have f:∀i∈ls.map (λp=>gt (rD B) p),0<=i/\i<B.l:=λi hi=>by obtain⟨p,a,rfl⟩:=au.1 hi;exact(Bw.1 (gF (d p a).1 (d p a).2)).1
 refine DV (aoY hs) (aaP _) λk=>?_;rw[ai6,Bw,F5 _ _ _ f];constructor
 .rintro⟨p,a,b,rfl⟩;have h1:=Bw.1 (gF (l:=rD B) a.1 a.2);refine⟨h1.1,?_⟩;rw[CG _ _ _ f _ h1.1.1 h1.1.2,if_neg,h1.2];intro o;obtain⟨q,g,e⟩:=au.1 o;have j:=d q g;rcases Int.lt_trichotomy p q with h|h|h
  .have:=R7 hs a.1 h j.2;omega
  .rw[h]at b;exact b g
  .have:=R7 hs j.1 h a.2;omega
 .rintro⟨h1,c⟩;rw[CG _ _ _ f _ h1.1 h1.2]at c;split at c
  .cases c
  .rename_i b;obtain⟨p,n,m,e⟩:=xJ.1 (Bw.2 ⟨h1,c⟩);exact⟨p,⟨n,m⟩,λa=>b (au.2 ⟨p,a,e⟩),e⟩
def aiI(n:Nat):rD (b4 n eB)=upto n:=by unfold rD;rw[dK];refine dR.2 λk a=>?_;rw[jF]at a;rw[ag2 a.1 a.2];rfl
def RM{p:Int->Bool}{k:Int}(k0:0<=k):(upto (k+1).n).filter p=if p k=eh then(upto k.n).filter p ++ [k]else(upto k.n).filter p:=by
 rw[(U:(k+1).n=k.n+1),D0,cT,(U:((k.n:Nat):Int)=k)]
 by_cases h:p k=eh
 .rw[if_pos h,List.filter_cons_of_pos h];rfl
 .rw[if_neg h,List.filter_cons_of_neg h];simp
def XK{l:List gj}(h:l≠[]):f0 l=l5 l:=if_neg h
def afk(g:gv)(hg:gZ g)(l:List Pos)(hc:mY g l)(h0:0<l.l)(h9:l.l<=1000){L:List Cw}(hL:∀x∈L,x.ok)(hb:∀x∈L,∀r∈x.c.es,r.2<=4000)(h8:L.l<=100000) :
  Wf T 34 [dG g,gT l,.sl 36 (L.map gK)] [] (Is (.agg (vI (tC (iv g l (gy g l)) l.l (iT l.l) (cs L))))):=by
 have A:=λ(m:List Cw) OM uB c1=>XM g hg l hc m OM c1 uB;have cr:=afD g hg l hc h0;have E4:∀k:Int,0<=k->k<L.l->(gt L k).ok/\∀r∈(gt L k).c.es,r.2<=4000:=λk k0 k1=>⟨hL _ (gF k0 k1),hb _ (gF k0 k1)⟩;obtain⟨nx,mW⟩:∃nx,gy g l=nx:=⟨_,rfl⟩;rw[mW]at A cr ⊢;refine Yz GD (jm 44 [3] GD.body) ?_;simp[GD,jm,kS,nR,nU,oo,mm];refine gi ?_;refine gx.e (b4 L.l eB) (λB=>[(1,gT l),(2,.sl 36 (L.map gK)),(3,.ptr 0 0 0),(6,.ptr 1 0 0),(7,.gh 2 0 1 0 L.l)]) (λB=>[.row 43 0 g.cells,.row 95 0 [.gp,.gp,.i 0],.row 4 0 (cl AL.fB B)]) (λB=>B.l=L.l/\∃im,SI (iv g l nx) l.l (iT l.l) (cs L) (rD B) im) (λB=>(rD B).l) ?_ ?_
 .exact⟨gf,[],by rw[aiI,<-rN L];exact SI.start⟩
 rintro B ⟨f,im,hS⟩;simp;refine gx.e ((0,[]):Int×List Int) (λy=>[(1,gT l),(2,.sl 36 (L.map gK)),(3,.ptr 0 0 0),(6,.ptr 1 0 0),(7,.gh 2 0 1 0 L.l),(8,.gh 3 y.2.l 36 0 y.2.l),(9,.gh 4 y.2.l 1 0 y.2.l),(10,.i y.1)]) (λy=>[.row 43 0 g.cells,.row 95 0 [.gp,.gp,.i 0],.row 4 0 (cl AL.fB B),.row 72 y.2.l (cl gK (y.2.map λk=>gt L k)),.row 3 y.2.l (cl f1 y.2)]) (λy=>(0<=y.1/\y.1<=L.l)/\y.2=((upto y.1.n).filter λk => !gt B k)/\y.2.l<=y.1.n) (λy=>(L.l-y.1).n) ?_ ?_
 .exact⟨gf,rfl,gf⟩
 rintro⟨k,s⟩ ⟨⟨k0,k1⟩,hs,O⟩;dsimp only at k0 k1 hs O ⊢
 by_cases b:k<L.l
 .have t:=RM (p:=λk => !gt B k) k0;rw[<-hs]at t;obtain⟨q,d⟩:∃q,gt B k=q:=⟨_,rfl⟩;rw[d]at t;have jE:(gK (gt L k)).l=36:=Fl.len _;have lj:(gK (gt L k)).take 36=cl gK [gt L k]:=by rw[af U,iY]
  have OY:gK (gt L k)=cl gK [gt L k]:=(iY _).symm;have yq:(cl gK [gt L k]).l=36:=by rw[rJ];rfl
  have sJ:(cl gK [gt L k]).take 36=cl gK [gt L k]:=af U;have pz:gN (gK (gt L k))=true:=Fl.cl _;have gP:(cl gK (s.map λk=>gt L k)).l=s.l*36:=by rw[rJ,cj]
  have l8:(cl gK (s.map λk=>gt L k)).take (s.l*36)=cl gK (s.map λk=>gt L k):=af U;cases q
  .simp[b,f,d,OY,yq,sJ,gP,l8];refine o5 (di b f) (di d OY) (di yq sJ) (di gP l8) ?_;refine LJ.i (k+1,s ++ [k]) gf gf rfl rfl ⟨gI,gU,by rw[t];simp,gO⟩
  .simp[b,f,d,OY,yq,sJ];refine kG (di b f) (di d OY) (di yq sJ) ?_;refine LJ.i (k+1,s) rfl rfl rfl rfl ⟨gI,gU,by rw[t];simp,gI⟩
 have R:k=L.l:=U;subst R;have c0:s=rD B:=by rw[hs];unfold rD;rw[f,bs]
 clear hs;subst c0;obtain⟨left,Bd⟩:∃left,rD B=left:=⟨_,rfl⟩;have zC:=@aoW B;have O8:=aok B;have X:=@Bw B;rw[Bd]at hS O zC O8 ⊢;simp only[Bd]at X;rw[f]at O8;have w:∀k∈left,0<=k/\k<L.l:=λk b=>by rw[<-f];exact(X.1 b).1
 have Q:=W5 w
 have zh:∀x∈left.map (λk=>gt L k),x.ok:=λx z=>by obtain⟨k,b,rfl⟩:=au.1 z;exact(E4 k (w k b).1 (w k b).2).1
 have E5:∀x∈left.map (λk=>gt L k),∀r∈x.c.es,r.2<=4000:=λx z=>by obtain⟨k,b,rfl⟩:=au.1 z;exact(E4 k (w k b).1 (w k b).2).2
 have E:=A (left.map λk=>gt L k) zh (λx z r w=>by have:=E5 x z r w;omega) (by rw[cj];omega);rw[Q]at E;obtain⟨J,M⟩:∃J,nj (iv g l nx) l.l (iT l.l) (left.map λk=>gt (cs L) k)=J:=⟨_,rfl⟩;rw[M]at E;obtain⟨m,OM⟩:∃m,(left.map λk=>gt L k)=m:=⟨_,rfl⟩;rw[OM]at E Q zh E5 ⊢;have F:left.l=m.l:=by rw[<-OM,cj]
 cases J with
 | v a ls=>
  obtain⟨E7,gW,pc,sK,ig⟩:=hS.step M;have h4:=zQ left.l ls (sK.imp λh e=>U) pc;have Y:=hS.len;rw[rN]at Y;unfold x9 at E;simp[F];refine Yc E ?_;simp;refine gi ?_;refine gx.e ((0,B):Int×List Bool) (λy=>[(1,gT l),(2,.sl 36 (L.map gK)),(3,.ptr 0 0 0),(6,.ptr 1 0 0),(7,.gh 2 0 1 0 L.l),(9,.gh 4 left.l 1 0 left.l),(11,.ptr 5 0 0),(12,.i y.1)]) (λy=>[.row 43 0 g.cells,.row 95 0 [.gp,.gp,.i 0],.row 4 0 (cl AL.fB y.2),.dead,.row 3 left.l (cl f1 left),.row 91 0 [.i a,dI ls,.i 0]]) (λy=>(0<=y.1/\y.1<=ls.l)/\y.2=tz B (λ_=>eh) ((ls.take y.1.n).map λp=>gt left p)/\y.2.l=L.l) (λy=>(ls.l-y.1).n) ?_ ?_
  .exact⟨gf,gf,f⟩
  rintro⟨i,C⟩ ⟨⟨i0,i1⟩,hC,zg⟩;dsimp only at i0 i1 hC zg ⊢
  by_cases hi:i<ls.l
  .have G:=pc _ (gF i0 hi);have b:=w _ (gF G.1 G.2)
   have H:pt C (gt left (gt ls i)) eh=tz B (λ_=>eh) ((ls.take (i+1).n).map λp=>gt left p):=by rw[Gr i0 hi,dr,List.map_singleton,ab0,<-hC]
   have iR:=jg (l:=C) (v:=eh) b.1 U;obtain⟨p,lT⟩:∃p,gt ls i=p:=⟨_,rfl⟩;rw[lT]at G b H iR;obtain⟨k,lK⟩:∃k,gt left p=k:=⟨_,rfl⟩;rw[lK]at b H iR
   have hg:∀h,(cl f1 left)[p.n]'h = .i k:=λh=>by
    have:(cl f1 left)[p.n]? = bb (.i k):=by rw[y8,ax,aE (by omega:p.n<left.l)];show bb (D.i left[p.n])=_;rw[<-iV G.1 G.2,lK]
    rw[aE h]at this;exact bT this
   have uE:C.take k.n++true::C.drop (k.n+1)=pt C k true:=rfl;simp[hi,lT,hg,G.1,G.2,b.1,b.2,uE];refine o5 (di hi lT) (di hg G.1) (di G.2 b.1) (di b.2 uE) ?_;refine LJ.i (i+1,pt C k eh) rfl rfl rfl rfl ⟨gI,gU,H,gI⟩
  .have iS:i=ls.l:=by omega
   subst iS;rw[bs,cQ]at hC;rw[zC pc,<-hC]at E7 gW;simp;refine gi ?_;exact LJ.i C rfl rfl rfl rfl ⟨gW,zg,_,E7⟩
 | none=>
  have hE:=hS.done M λa ls h=>by cases h
  unfold x9 at E;simp[F];refine Yc E ?_;simp;refine gi ?_;refine gx.s (by simp[F];rfl) ?_;refine gx.e ((0,[]):Int×List Int) (λy=>[(1,gT l),(2,.sl 36 (L.map gK)),(3,.ptr 0 0 0),(6,.ptr 1 0 0),(7,.gh 2 0 1 0 L.l),(8,.sl 36 (m.map gK)),(11,.ptr 5 0 0),(13,.ptr 6 0 0),(14,.i y.1)]) (λy=>.row 43 0 g.cells :: .row 95 0 [.gp,.gp,.i 0] :: .row 4 0 (cl AL.fB B) :: .dead :: .row 3 m.l (cl f1 left) :: .row 91 0 [.i 0,.gp,.i 270] :: .row 95 0 [.gp,(if y.2 = []then .gp else .gh 7 (y.2.l-1) 1 0 y.2.l),.i 270]::(if y.2 = []then []else [.row 3 (y.2.l-1) (cl f1 y.2)])) (λy=>(0<=y.1/\y.1<=L.l)/\y.2=((upto y.1.n).filter λk=>gt B k)/\y.2.l<=y.1.n) (λy=>(L.l-y.1).n) ?_ ?_
  .exact⟨gf,rfl,gf⟩
  rintro⟨k,s⟩ ⟨⟨k0,k1⟩,hs,O⟩;dsimp only at k0 k1 hs O ⊢
  by_cases b:k<L.l
  .have t:=RM (p:=λk=>gt B k) k0;rw[<-hs]at t;obtain⟨q,d⟩:∃q,gt B k=q:=⟨_,rfl⟩;rw[d]at t
   by_cases o:s = []
   .subst o;cases q
    .simp[b,f,d];refine kG b f d ?_;exact LJ.i (k+1,[]) rfl rfl rfl rfl ⟨gI,gU,by rw[t];simp,gf⟩
    .simp[b,f,d];refine kG b f d ?_;exact LJ.i (k+1,[k]) rfl (by simp[iY]) rfl rfl ⟨gI,gU,by rw[t];simp,gO⟩
   .have TI:0<s.l:=ao.2 o;rw[if_neg o,if_neg o];cases q
    .simp[b,f,d];refine kG b f d ?_;exact LJ.i (k+1,s) rfl (by simp[o]) rfl rfl ⟨gI,gU,by rw[t];simp,gI⟩
    .simp[b,f,d];refine kG b f d ?_;exact LJ.i (k+1,s ++ [k]) rfl (by simp[(U:s.l-1+1=s.l)]) rfl rfl ⟨gI,gU,by rw[t];simp,gO⟩
  .have R:k=L.l:=by omega
   subst R;rw[bs,<-O8]at hs;have P:=aaq M;have Ih:=@aar _ _ _ _ M
   have wg:∀x∈m,x.full:=λx z=>⟨zh x z,λ_=>by
    have:=P.1 x.c (by rw[<-Q];exact au.2 ⟨x,z,rfl⟩);unfold iT at this;rw[ai]at this
    exact(JY this.1).2.2⟩
   rw[<-Q]at P Ih;have I:=Qx (cs L) left l.l;have OQ:∀j:Int,0<=j->j<l.l->gt (yJ (cs L) left l.l) j=l5 (sd (cs m) j):=λj j0 j1=>by rw[acK _ _ j0 j1,Q]
   obtain⟨V,hV⟩:∃V,yJ (cs L) left l.l=V:=⟨_,rfl⟩;rw[hV]at I OQ
   have A5:∀j:Int,0<=j->j<V.l->0<=(gt V j).2/\(gt V j).2<=4000:=λj j0 j1=>by
    rw[I]at j1;rw[OQ j j0 j1];have X:=AR (P.2 j j0 j1).1;have h5:=Ih j0 j1 _ X;refine⟨?_,?_⟩
    .unfold lV at h5;simp only[decide_eq_true_eq]at h5;rcases h5 with e|e
     .rw[e];decide
     .exact e.2
    .obtain⟨c,hc,h6,h7⟩:=wF.1 X;rw[<-h7];obtain⟨x,z,rfl⟩:=au.1 hc;obtain⟨_,i0,i1⟩:=Cw.AS (wg x z) h6;exact E5 x z _ (gF U i1)
   have HN:=cr V I A5;have g9:m.l<=100000:=by have:=hS.len;rw[rN]at this;omega
   have Z:tC (iv g l nx) l.l (iT l.l) (cs L)=(if∀k:Int,0<=k->k<l.l->lY (iv g l nx) V k then bb V else ez,s):=by unfold tC;rw[hE];simp only[true_and,hV];rw[rN,hs]
   rw[Z];have FF:∀j:Int,0<=j->j<l.l->V.take (j+1).n=V.take j.n ++ [l5 (sd (cs m) j)]:=λj j0 j1=>by rw[Gr j0 U,OQ j j0 j1]
   have Z7:∀j:Int,0<=j->j<l.l->sd (cs m) j≠[]:=λj j0 j1=>(P.2 j j0 j1).1;clear hs Z OQ P Ih hE M
   by_cases o:s = []
   .subst o;simp;refine gi ?_;refine gx.s (by simp[F];rfl) ?_;refine gx.e (0:Int) (λy=>[(1,gT l),(3,.ptr 0 0 0),(6,.ptr 1 0 0),(8,.sl 36 (m.map gK)),(13,.ptr 6 0 0),(15,.gh 7 y.n 2 0 y.n),(16,.i y)]) (λy=>[.row 43 0 g.cells,.row 95 0 [.gp,.gp,.i 0],.row 4 0 (cl AL.fB B),.dead,.row 3 m.l (cl f1 left),.row 91 0 [.i 0,.gp,.i 270],.row 95 0 [.gp,.gp,.i 180],.row 86 y.n (cl fS (V.take y.n))]) (λy=>0<=y/\y<=l.l) (λy=>(l.l-y).n) ?_ ?_
    .simp
    rintro j ⟨j0,j1⟩;dsimp only at j0 j1 ⊢
    by_cases A:j<l.l
    .have N:=HU m wg U j gU;have ig:=Z7 j j0 A;rw[XK ig]at N;have W:=FF j j0 A;have K:(V.take j.n).l=j.n:=by rw[aG];omega
     obtain⟨r,w⟩:∃r,l5 (sd (cs m) j)=r:=⟨_,rfl⟩;rw[w]at N W;obtain⟨r1,r2⟩:=r;have S:(j+1).n=j.n+1:=U;simp[A,K];refine gi ?_;refine Yc N ?_;simp[K];refine iU K ?_;exact LJ.i (j+1) (by rw[S]) (by rw[W,S]) rfl rfl mw
    .have tP:j=l.l:=by omega
     subst tP;rw[bs,af U];simp;refine gi ?_;refine gE.w (by simp[F];rfl) ?_;refine gE.rq rfl rfl HN (by simp[I]) (λ_=>by simp[flat,tI]) (λ_=>gf) ?_;rintro n H
     by_cases u:n<0
     .rw[if_pos (H.1 u)];simp[u];refine iU u ?_;rw[<-I];simp[vI];rfl
     .rw[if_neg (λh=>u (H.2 h))];simp[u];refine iU u ?_;rfl
   .have lu:dI s=dN 1 f1 s:=by
     cases s with
     | nil=>exact absurd rfl o
     | cons a r=>rfl
    rw[if_neg o,if_neg o];simp;refine gi ?_;refine gx.s (by simp[F];rfl) ?_;refine gx.e (0:Int) (λy=>[(1,gT l),(3,.ptr 0 0 0),(6,.ptr 1 0 0),(8,.sl 36 (m.map gK)),(13,.ptr 6 0 0),(15,.gh 8 y.n 2 0 y.n),(16,.i y)]) (λy=>[.row 43 0 g.cells,.row 95 0 [.gp,.gp,.i 0],.row 4 0 (cl AL.fB B),.dead,.row 3 m.l (cl f1 left),.row 91 0 [.i 0,.gp,.i 270],.row 95 0 [.gp,.gh 7 (s.l-1) 1 0 s.l,.i 180],.row 3 (s.l-1) (cl f1 s),.row 86 y.n (cl fS (V.take y.n))]) (λy=>0<=y/\y<=l.l) (λy=>(l.l-y).n) ?_ ?_
    .simp
    rintro j ⟨j0,j1⟩;dsimp only at j0 j1 ⊢
    by_cases A:j<l.l
    .have N:=HU m wg U j gU;have ig:=Z7 j j0 A;rw[XK ig]at N;have W:=FF j j0 A;have K:(V.take j.n).l=j.n:=by rw[aG];omega
     obtain⟨r,w⟩:∃r,l5 (sd (cs m) j)=r:=⟨_,rfl⟩;rw[w]at N W;obtain⟨r1,r2⟩:=r;have S:(j+1).n=j.n+1:=U;simp[A,K];refine gi ?_;refine Yc N ?_;simp[K];refine iU K ?_;exact LJ.i (j+1) (by rw[S]) (by rw[W,S]) rfl rfl mw
    .have tP:j=l.l:=by omega
     subst tP;rw[bs,af U];simp;refine gi ?_;refine gE.w (by simp[F];rfl) ?_;refine gE.rq rfl rfl HN (by simp[I]) (λ_=>by simp[flat,tI]) (λ_=>gf) ?_;rintro n H
     by_cases u:n<0
     .rw[if_pos (H.1 u)];simp[u];refine iU u ?_;rw[<-I];simp[vI];exact lu
     .rw[if_neg (λh=>u (H.2 h))];simp[u];refine iU u ?_;simp[vI];exact lu
 | vY=>
  have hE:=hS.done M λa ls h=>by cases h
  unfold x9 at E;simp[F];refine Yc E ?_;simp;refine gi ?_;refine gx.s (by simp[F];rfl) ?_;refine gx.e ((0,[]):Int×List Int) (λy=>[(1,gT l),(2,.sl 36 (L.map gK)),(3,.ptr 0 0 0),(6,.ptr 1 0 0),(7,.gh 2 0 1 0 L.l),(8,.sl 36 (m.map gK)),(11,.ptr 5 0 0),(13,.ptr 6 0 0),(14,.i y.1)]) (λy=>.row 43 0 g.cells :: .row 95 0 [.gp,.gp,.i 0] :: .row 4 0 (cl AL.fB B) :: .dead :: .row 3 m.l (cl f1 left) :: .row 91 0 [.i 0,.gp,.i 180] :: .row 95 0 [.gp,(if y.2 = []then .gp else .gh 7 (y.2.l-1) 1 0 y.2.l),.i 180]::(if y.2 = []then []else [.row 3 (y.2.l-1) (cl f1 y.2)])) (λy=>(0<=y.1/\y.1<=L.l)/\y.2=((upto y.1.n).filter λk=>gt B k)/\y.2.l<=y.1.n) (λy=>(L.l-y.1).n) ?_ ?_
  .exact⟨gf,rfl,gf⟩
  rintro⟨k,s⟩ ⟨⟨k0,k1⟩,hs,O⟩;dsimp only at k0 k1 hs O ⊢
  by_cases b:k<L.l
  .have t:=RM (p:=λk=>gt B k) k0;rw[<-hs]at t;obtain⟨q,d⟩:∃q,gt B k=q:=⟨_,rfl⟩;rw[d]at t
   by_cases o:s = []
   .subst o;cases q
    .simp[b,f,d];refine kG b f d ?_;exact LJ.i (k+1,[]) rfl rfl rfl rfl ⟨gI,gU,by rw[t];simp,gf⟩
    .simp[b,f,d];refine kG b f d ?_;exact LJ.i (k+1,[k]) rfl (by simp[iY]) rfl rfl ⟨gI,gU,by rw[t];simp,gO⟩
   .have TI:0<s.l:=ao.2 o;rw[if_neg o,if_neg o];cases q
    .simp[b,f,d];refine kG b f d ?_;exact LJ.i (k+1,s) rfl (by simp[o]) rfl rfl ⟨gI,gU,by rw[t];simp,gI⟩
    .simp[b,f,d];refine kG b f d ?_;exact LJ.i (k+1,s ++ [k]) rfl (by simp[(U:s.l-1+1=s.l)]) rfl rfl ⟨gI,gU,by rw[t];simp,gO⟩
  .have R:k=L.l:=by omega
   subst R;rw[bs,<-O8]at hs
   have Z:tC (iv g l nx) l.l (iT l.l) (cs L)=(ez,s):=by unfold tC;rw[hE,if_neg (λh=>by cases h.1),rN,hs]
   rw[Z];clear hs Z
   by_cases o:s = []
   .subst o;simp;refine gi ?_;rfl
   .rw[if_neg o,if_neg o];simp;refine gi ?_
    cases s with
    | nil=>exact absurd rfl o
    | cons a r=>rfl
end Go.Proofs.YtmehofoficaelaaGreatDoor
namespace Go.Proofs.YtmehofoficaelaaGreatDoor
open Go Go.AL Classical
structure CB(g:gv)(l:List Pos)(nx:List (List Int))(L:List Cw)(left:List Int)(old:D)(Hs Hc:gg)(y:Nat)(dv:D):Prop where
 ct:Hc[1]? = bb (.row 168 0 (kO g l nx dv old))
 dv:(y=0/\dv = .gp)\/(0<y/\∃v gn,Hs.l<=v/\dv = .gh v gn 36 0 y/\Hc[v]? = bb (.row 72 gn (cl gK ((left.take y).map λk=>gt L k))))
 kp:∀w o,Hs[w]? = bb o->w≠1->Hc[w]? = bb o
 ok:jM Hc.l Hc
 le:Hs.l<=Hc.l
section
variable{g:gv}{l:List Pos}{nx:List (List Int)}{L:List Cw}{left:List Int}{old dv:D}{Hs Hc:gg}{y:Nat}
theorem P0{n:Nat}{dv old:D}(h1:jW n dv=eh)(a:jW n old=eh):oO n (.row 168 0 (kO g l nx dv old))=true:=by unfold kO;simp[h1,a]
theorem CB.start{d0:D}(h1:Hs[1]? = bb (.row 168 0 (kO g l nx d0 old)))(gu:jM Hs.l Hs):CB g l nx L left old Hs (Hs.set 1 (.row 168 0 (kO g l nx .gp old))) 0 .gp:=by have hl:=jQ h1;have b:jW Hs.l old=true:=er.1 (gu _ (ek h1)) old (by unfold kO;simp);refine⟨aQ hl,.inl ⟨rfl,rfl⟩,λw o a c=>by rw[aP (cH c)];exact a,?_,by rw[az];exact Nat.le_refl _⟩;rw[az];exact rE gu (P0 rfl b)
theorem CB.abM(h:CB g l nx L left old Hs Hc y dv):jW Hc.l old=true:=er.1 (h.ok _ (ek h.ct)) old (by unfold kO;simp)
theorem CB.more(h:CB g l nx L left old Hs Hc y dv){o:Ob}(c:oO (Hc.l+1) o=eh):CB g l nx L left old Hs (Hc ++ [o]) y dv:=by
 refine⟨iH h.ct,?_,λw o b d=>iH (h.kp w o b d),?_,by rw[ar];have:=h.le;omega⟩
 .rcases h.dv with h1|⟨h1,v,j,i,f,e⟩
  .exact .inl h1
  .grind
 .rw[ar,bn];refine vC (yE U h.ok) λx a=>?_;rw[cp.1 a];exact c
theorem acT{y:Nat}(a:y<left.l):(left.take (y+1)).map (λk=>gt L k)=(left.take y).map (λk=>gt L k) ++ [gt L (gt left (y:Int))]:=by rw[dA,aE a,dr,iV (l:=left) U U];simp
theorem CB.ado(h:CB g l nx L left old Hs Hc 0 .gp)(b:0<left.l) :
  CB g l nx L left old Hs ((Hc.set 1 (.row 168 0 (kO g l nx (.gh Hc.l 0 36 0 1) old))) ++ [.row 72 0 (gK (gt L (gt left 0)))]) 1 (.gh Hc.l 0 36 0 1):=by
 have hl:=jQ h.ct;have e:=acT (L:=L) b;refine⟨iH (aQ hl),.inr ⟨U,Hc.l,0,h.le,rfl,?_⟩,λw o d a=>iH (by rw[aP (cH a)];exact h.kp w o d a),?_,by rw[ar,az];have:=h.le;omega⟩
 .rw[ak (by rw[az];omega),az,b7,e];simp[iY]
 .rw[ar,az,bn];refine vC (rE (yE U h.ok) (P0 gf (Gf U h.abM))) λx c=>?_;rw[cp.1 c];exact BC (Fl.cl _)
theorem CB.adp{v a:Nat}(h:CB g l nx L left old Hs Hc y (.gh v a 36 0 y))(n:1<Hs.l)(f:y<left.l)(i:Hs.l<=v)(m:Hc[v]? = bb (.row 72 a (cl gK ((left.take y).map λk=>gt L k)))) :
  CB g l nx L left old Hs ((Hc.set v (.row 72 (a+1) (cl gK ((left.take y).map λk=>gt L k)++gK (gt L (gt left (y:Int)))))).set 1 (.row 168 0 (kO g l nx (.gh v (a+1) 36 0 (y+1)) old))) (y+1) (.gh v (a+1) 36 0 (y+1)):=by
 have hl:=jQ h.ct;have d:=jQ m;have e:=acT (L:=L) f
 have j:cl gK ((left.take y).map λk=>gt L k)++gK (gt L (gt left (y:Int)))=cl gK ((left.take (y+1)).map λk=>gt L k):=by rw[e,<-Cf,iY]
 refine⟨aQ (by rw[az];exact hl),.inr ⟨U,v,a+1,i,rfl,?_⟩,λw o b c=>?_,?_,by rw[az,az];exact h.le⟩
 .grind
 .rw[aP (cH c),aP (by have:=jQ b;omega)];exact h.kp w o b c
 .rw[az,az];refine rE (rE h.ok ?_) (P0 (by simp[d]) h.abM);rw[j];exact BD _
structure LA(g:gv)(H:gg)(left im:List Int)(ld:D):Prop where
 h0:H[0]? = bb (.row 43 0 g.cells)
 oE:H[2]? = bb (.row 37 0 [ld])
 vw:(im = []/\ld = .gp)\/(im≠[]/\∃v gn,4<v/\ld = .gh v gn 1 0 im.l/\H[v]? = bb (.row 3 gn (cl f1 im)))
 arr:∃zs,gN zs=eh/\H[3]? = bb (.row 3 0 (cl f1 left++zs))
 oF:H[4]? = bb (.row 37 0 [.gh 3 0 1 0 left.l])
theorem LA.mono{H H':gg}{im:List Int}{ld:D}(h:LA g H left im ld)(a:∀w o,H[w]? = bb o->w≠1->H'[w]? = bb o):LA g H' left im ld:=by
 refine⟨a _ _ h.h0 U,a _ _ h.oE U,?_,?_,a _ _ h.oF U⟩
 .rcases h.vw with h1|⟨h1,v,f,e,d,c⟩
  .exact .inl h1
  .grind
 .obtain⟨zs,b,h1⟩:=h.arr;exact⟨zs,b,a _ _ h1 U⟩
theorem CB.toLB{im:List Int}{ld:D}(a:LA g Hs left im ld)(h:CB g l nx L left old Hs Hc left.l dv):LB g l nx L Hc left im ld dv:=by
 have h1:=a.mono h.kp;refine⟨h1.h0,⟨_,h.ct⟩,h1.oE,h1.vw,h1.arr,h1.oF,h.ok,?_⟩;rcases h.dv with⟨c,b⟩|⟨c,v,f,b,e,d⟩
 .exact .inr (.inl ⟨by rw[aC.1 c];rfl,b⟩)
 .have hl:=jQ a.oF;refine .inr (.inr ⟨v,f,U,by rw[e];simp,?_⟩);rw[d,cQ]
theorem na.aja{H H':gg}{ck sr n:Nat}{M:Nat->kL}{ow:Nat->Nat×Nat×Nat}{P:Nat->Nat}{Q:Nat->Nat->Nat}(h:na H ck sr n M ow P Q)(b:∀v o,H[v]? = bb o->ow v≠(5,0,0)->H'[v]? = bb o):na H' ck sr n M ow P Q:=by
 refine⟨h.fc,h.fs,b _ _ h.row (by rw[h.fs];simp),λj c=>?_,λj c t x d=>?_⟩
 .obtain⟨h1,a⟩:=h.mp j c;exact⟨b _ _ h1 (by rw[a];simp),a⟩
 .obtain⟨h1,a⟩:=h.ls j c t x d;exact⟨b _ _ h1 (by rw[a];simp),a⟩
def Kc(cm:List gR)(k:Int)(V:List gj)(seen:List Nat):List gj:=if seen = []then V else pt V k (l5 (sd cm k))
@[simp] theorem aBo(cm:List gR)(k:Int)(V:List gj):Kc cm k V []=V:=if_pos rfl
theorem ac1{cm:List gR}{k:Int}{V:List gj}{seen:List Nat}(h:seen≠[]):Kc cm k V seen=pt V k (l5 (sd cm k)):=if_neg h
theorem LB.ka{H:gg}{im:List Int}{ld:D}(h:LB g l nx L H left im ld dv){v:Nat}(a:H[v]? = bb .ka):4<v/\∀q c n,ld = .gh q c 1 0 n->v≠q:=by
 have key:∀ {w:Nat} {o:Ob},H[w]? = bb o->o≠.ka->v≠w:=λd f e=>f (by rw[e,d]at a;exact bT a);refine⟨?_,λq c n e=>?_⟩
 .have h0:=key h.h0 gf;obtain⟨_,h1⟩:=h.ct;have h1:=key h1 gf;have i:=key h.oE gf;obtain⟨_,_,b⟩:=h.arr;have b:=key b gf;have j:=key h.oF gf;omega
 .rcases h.vw with⟨_,h1⟩|⟨_,w,k,_,h1,i⟩
  .grind
  .grind
theorem LB.start{dcl:D}(b:dcl = .sl 36 (L.map gK)\/(L = []/\dcl = .gp)):LB g l nx L [.row 43 0 g.cells,.row 168 0 (kO g l nx dcl .gp),.row 37 0 [.gp],.row 3 0 (cl f1 (upto L.l)),.row 37 0 [.gh 3 0 1 0 L.l]] (upto L.l) [] .gp dcl:=by
 have c:jW 5 dcl=true:=by
  rcases b with rfl|⟨rfl,rfl⟩
  .simp_all
  .rfl
 have d:(upto L.l).map (λk=>gt L k)=L:=by
  refine bj (by simp[qx]) λi h1 e=>?_;rw[ep];have:(upto L.l)[i]'(by rw[qx];exact e)=(i:Int):=by simp[upto]
  rw[this,iV U U];simp
 refine⟨rfl,⟨_,rfl⟩,rfl,.inl ⟨rfl,rfl⟩,⟨[],rfl,gf⟩,by rw[qx];rfl,λo a=>?_,?_⟩
 .rcases ay.1 a with rfl|a
  .simp_all
  .rcases ay.1 a with rfl|a
   .exact P0 c rfl
   .rcases ay.1 a with rfl|a
    .rfl
    .rcases ay.1 a with rfl|a
     .simp_all
     .simp_all
 .rw[d];rcases b with h|h
  .exact .inl h
  .exact .inr (.inl h)
theorem LS.toLA{H0 H:gg}{q rv:Nat}{st:sB}{im:List Int}{ld:D}(h:LS H0 H q rv st left im ld)(h0:H0[0]? = bb (.row 43 0 g.cells))(l:1<q):LA g (H.set rv .dead) left im ld/\jM (H.set rv .dead).l (H.set rv .dead)/\∀w o,H0[w]? = bb o->(4<w\/w<=1)->w≠rv->w≠q->(H.set rv .dead)[w]? = bb o:=by
 have k:=h.DP;have key:∀ {w:Nat} {o:Ob},H[w]? = bb o->w≠rv->(H.set rv .dead)[w]? = bb o:=λf i=>by rw[aP (cH i)];exact f
 refine⟨⟨key (h.kp 0 _ h0 (.inr U) U U) U,key h.oE U,?_,?_,key h.oF U⟩,?_,λw o h1 c b a=>key (h.kp w o h1 c b a) b⟩
 .rcases h.vw with h1|⟨h1,v,j,⟨c,_⟩,b,a⟩
  .exact .inl h1
  .exact .inr ⟨h1,v,j,c,b,key a λe=>by rw[e,h.rc]at a;cases a⟩
 .obtain⟨zs,d,h1⟩:=h.arr;exact⟨zs,d,key h1 U⟩
 .rw[az];exact rE h.ok rfl
end
set_option maxRecDepth 10000
set_option maxHeartbeats 16000000
attribute [-simp] uU
def aqc{n k:Nat}(h:k<n):(upto k++b4 (n-k) 0).set k (k:Int)=upto (k+1)++b4 (n-(k+1)) 0:=by rw[D0,dF _ _ (by rw[qx];omega),qx,b7,(U:n-k=(n-(k+1))+1),bw];simp
def acJ{H:gg}{im left:List Int}{N:Nat}{ld:D}(b:(im = []/\ld = .gp)\/(im≠[]/\∃v a,4<v/\ld = .gh v a 1 0 im.l/\H[v]? = bb (.row 3 a (cl f1 im))))(f:(im++left).Perm (upto N))(hN:N<=100000)(gu:jM H.l H) :
  Wf T 67 [ld] H (λd H'=>d = .tup []/\((outs N left = []/\ld = .gp)\/(outs N left≠[]/\∃v a,4<v/\ld = .gh v a 1 0 (outs N left).l/\H'[v]? = bb (.row 3 a (cl f1 (outs N left)))))/\H'.l=H.l /\
   (∀w o,H[w]? = bb o->(∀a n,ld≠.gh w a 1 0 n)->H'[w]? = bb o)/\jM H'.l H'):=by
 have hs:=aol f;have hl:=congrArg List.l hs;rw[eM]at hl;rcases b with⟨rfl,rfl⟩|⟨h0,v,a,j,rfl,c⟩
 .refine Wf.mono Ya ?_;rintro _ H' ⟨rfl,rfl⟩;exact⟨rfl,.inl ⟨aC.1 (by rw[<-hl];rfl),rfl⟩,rfl,λw o h _=>h,gu⟩
 .have g:im.l<=N:=by have:=f.length_eq;rw[ar,qx]at this;omega
  refine f160 (l:=im) (t:=3) (ao.2 h0) U c ?_;rw[hs,hl];refine⟨rfl,.inr ⟨λe=>h0 (aC.1 (by rw[hl,e];rfl)),v,a,j,rfl,aQ (jQ c)⟩,az,λw o h1 i=>?_,?_⟩
  .rw[aP (λe=>i a (outs N left).l (by rw[e]))];exact h1
  .rw[az];exact rE gu (BD _)
def afc(g:gv)(hg:gZ g)(l:List Pos)(hc:mY g l)(h0:0<l.l)(h9:l.l<=1000){L:List Cw}{dcl:D}(hd:dcl = .sl 36 (L.map gK)\/(L = []/\dcl = .gp))
  (hL:∀x∈L,x.ok) (hb:∀x∈L,∀r∈x.c.es,r.2<=4000) (h8:L.l<=100000) :
  Wf T 20 [dG g,gT l,dcl] [] (Is (.tup (vI (tC (iv g l (gy g l)) l.l (iT l.l) (cs L))))):=by
 have cn:=f52 g hg l hc h0
 have X:closed dcl=true:=by
  rcases hd with rfl|⟨rfl,rfl⟩
  .exact wZ L
  .rfl
 have pb:cellsOf dcl=bb [dcl]:=by
  rcases hd with rfl|⟨rfl,rfl⟩
  .rfl
  .rfl
 have wm:∀H,oa .slice dcl H=bb (.i L.l):=λH=>by
  rcases hd with rfl|⟨rfl,rfl⟩
  .simp
  .rfl
 have hj:=λ(H:gg) (dv:D) (L':List Cw) (old:D) (hd:CV H 1 L' dv) (gu:jM H.l H) ml hL hb h8=>XU g hg l hc h0 h9 (H:=H) (ck:=1) (L:=L') (old:=old) (dcl:=dv) hd gu ml hL hb h8;have cr:=agv g hg l hc h0;obtain⟨nx,mW⟩:∃nx,gy g l=nx:=⟨_,rfl⟩;rw[mW]at cn hj cr ⊢;refine Yg Kq ?_;simp[Kq,X];refine gE.inl Ai rfl rfl (by simp[Ai]) rfl ?_;simp[Ai,X];refine Yc (cn) ?_;simp[X,pb];(with_reducible repeat' first|refine Xk ?_<;>try simp[X,wm]|refine Xs ?_ ?_<;>intro h<;>(try intro M)<;>(try simp[h,X,wm])<;>try omega|refine Xg ?_|omega);simp[X,wm];(with_reducible repeat' first|refine Xk ?_<;>try simp[X,wm]|refine Xs ?_ ?_<;>intro h<;>(try intro M)<;>(try simp[h,X,wm])<;>try omega|refine Xg ?_|omega);refine gx.s (by simp[X];rfl) ?_;refine gx.e (0:Int) (λy=>[(1,gT l),(2,dcl),(3,.ptr 0 0 0),(9,.ptr 1 0 0),(11,.ptr 2 0 0),(12,.ptr 4 0 0),(40,.i L.l),(41,.i y)]) (λy=>[.row 43 0 g.cells,.row 168 0 (kO g l nx dcl .gp),.row 37 0 [.gp],.row 3 0 (cl f1 (upto y.n++b4 (L.l-y.n) 0)),.row 37 0 [.gh 3 0 1 0 L.l]]) (λy=>0<=y/\y<=L.l) (λy=>(L.l-y).n) ?_ ?_
 .simp
 rintro y ⟨y0,y1⟩;dsimp only at y0 y1 ⊢
 by_cases Y:y<L.l
 .simp[Y];(with_reducible repeat' first|refine Xk ?_<;>try simp[Y]|refine Xs ?_ ?_<;>intro h<;>(try intro M)<;>(try simp[h,Y])<;>try omega|refine Xg ?_|omega);obtain⟨k,rfl⟩:∃k:Nat,y=k:=⟨y.n,U⟩;have C:k<L.l:=U;refine⟨by rw[qx];simp;omega,U,U,LJ.i ((k:Int)+1) rfl ?_ rfl rfl mw⟩
  have hp:pt (upto k++b4 (L.l-k) 0) (k:Int) (k:Int)=upto (k+1)++b4 (L.l-(k+1)) 0:=by have e:=aqc C;rw[cM,if_pos (by simp[qx];omega)]at e;exact e
  simp only[bs,(U:((k:Int)+1).n=k+1),hp]
 have zF:y=L.l:=U;subst zF;simp;(with_reducible repeat' first|refine Xk ?_<;>try simp|refine Xs ?_ ?_<;>intro h<;>(try intro M)<;>(try simp[h])<;>try omega|refine Xg ?_|omega);rw[b7,eR,aD];have Sp:=LB.start (g:=g) (l:=l) (nx:=nx) hd;obtain⟨Hi,Sm⟩:∃Hi,[Ob.row 43 0 g.cells,.row 168 0 (kO g l nx dcl .gp),.row 37 0 [.gp],.row 3 0 (cl f1 (upto L.l)),.row 37 0 [.gh 3 0 1 0 L.l]]=Hi:=⟨_,rfl⟩;rw[Sm]at Sp;have E4:∀k:Int,0<=k->k<L.l->(gt L k).ok/\∀r∈(gt L k).c.es,r.2<=4000:=λk k0 k1=>⟨hL _ (gF k0 k1),hb _ (gF k0 k1)⟩;refine gx.m ((Hi,[],upto L.l,[],.gp,dcl):gg×List Nat×List Int×List Int×D×D) (λ_=>[(1,gT l),(2,dcl),(3,.ptr 0 0 0),(9,.ptr 1 0 0),(11,.ptr 2 0 0),(12,.ptr 4 0 0)]) (λx=>x.1) (λx=>x.2.1) (λx=>LB g l nx L x.1 x.2.2.1 x.2.2.2.1 x.2.2.2.2.1 x.2.2.2.2.2/\(∀v∈x.2.1,x.1[v]? = bb .ka)/\x.2.1.Nodup/\SI (iv g l nx) l.l (iT l.l) (cs L) x.2.2.1 x.2.2.2.1) (λx=>x.2.2.1.l) ?_ ?_ rfl Sm rfl rfl rfl
 rotate_left
 .exact⟨Sp,λv b=>(by cases b),.nil,by rw[<-rN L];exact SI.start⟩
 clear Sp Sm y0 y1 Y;rintro⟨Hc,ms,left,im,ld,dv⟩ ⟨hB,S6,pB,hS⟩;dsimp only at hB S6 pB hS ⊢;obtain⟨old,l8⟩:=hB.ct;have hr:=hS.rng;have g0:=hS.len;rw[rN]at g0;simp only[rN]at hr
 have zh:∀x∈left.map (λk=>gt L k),x.ok:=λx I=>by obtain⟨k,C,rfl⟩:=au.1 I;exact(E4 k (hr k C).1 (hr k C).2).1
 have E5:∀x∈left.map (λk=>gt L k),∀r∈x.c.es,r.2<=4000:=λx I=>by obtain⟨k,C,rfl⟩:=au.1 I;exact(E4 k (hr k C).1 (hr k C).2).2
 have rX:=W5 hr;have nM:=hj Hc dv (left.map λk=>gt L k) old hB.cv hB.ok l8 zh E5 (by rw[cj];omega);rw[rX]at nM;obtain⟨J,hJ⟩:∃J,nj (iv g l nx) l.l (iT l.l) (left.map λk=>gt (cs L) k)=J:=⟨_,rfl⟩;rw[hJ]at nM;simp;refine gE.lU rfl rfl nM ?_;rintro d H' hP;have E:=hB.aim hP
 have Fq:∀v∈ms,H'[v]? = bb .ka:=λv b=>hP.kp v _ (S6 v b) λe=>by have:=S6 v b;rw[e,l8]at this;cases this
 cases J with
 | v a ls=>
  obtain⟨x,rfl,I⟩:=hP.vd;obtain⟨E7,gW,pc,sK,ig⟩:=hS.step hJ
  have TG:cellsOf x=bb [x]:=by
   rcases I with rfl|⟨_,v,s,rfl,_⟩
   .cases ls with
    | nil=>rfl
    | cons a r=>rfl
   .rfl
  simp;refine gE.w ny ?_;refine gE.lU rfl rfl (afw TG _) ?_;rintro _ H2 ⟨rfl,rfl⟩;simp;refine uP.s ny ?_;refine uP.r (f:=124) (first:=[]) (cap:=[.ptr (H'.l+1) 0 0]) rfl gf rfl rfl ?_;have e1:(H' ++ [Ob.row 89 0 [.i a,x],Ob.row 37 0 [x]]).l+1=H'.l+3:=gf;have EY:=jQ E.oF
  have FK:jW (H'.l+4) x=true:=by
   rcases I with rfl|⟨_,v,s,rfl,b,_⟩
   .exact DS gf
   .have:=jQ b;simp;omega
  obtain⟨q,hq,Fz,Y8⟩:=E.toLS (R:=[.row 89 0 [.i a,x],.row 37 0 [x],.ka,.iE 1280 eS .ready]) (j:=3) rfl (λo S=>by
   rcases ay.1 S with rfl|S
   .show((jW (H'.l+4) (.i a))&&((jW (H'.l+4) x)&&eh))=eh;rw[FK];rfl
   .rcases ay.1 S with rfl|S
    .show((jW (H'.l+4) x)&&eh)=eh;rw[FK];rfl
    .rcases ay.1 S with rfl|S
     .rfl
     .rw[cp.1 S];show((jW (H'.l+4) (.ptr 2 0 0))&&((jW (H'.l+4) (.ptr 4 0 0))&&eh))=eh;simp
      omega)
  have n3:q<Hc.l/\1<q:=by
   rcases hq with rfl|⟨s,hq,_⟩
   .exact⟨jQ hB.oE,U⟩
   .rcases hB.vw with⟨_,h⟩|⟨_,v,Ia,_,h,b⟩
    .rw[h]at hq;cases hq
    .rw[h]at hq;cases hq;exact⟨jQ b,U⟩
  have hHc:=jQ hB.oF
  have ahz:ls.l<=left.l:=by have:=zQ left.l ls (sK.imp λh e=>U) pc;exact this
  show Wf T 124 [.jt ((H' ++ [Ob.row 89 0 [.i a,x],Ob.row 37 0 [x]]).l+1),.ptr (H'.l+1) 0 0] ((H' ++ [Ob.row 89 0 [.i a,x],Ob.row 37 0 [x]]) ++ [.ka,.iE 1280 eS .ready]) _;rw[e1,aN];refine Wf.mono (afP (n:=H'.l+1) (x:=x) Y8 pc sK U U U gf mw ?_) ?_
  .rcases I with h|⟨_,v,s,h,b,hN⟩
   .exact .inl h
   .have:=jQ b;exact .inr ⟨v,s,h,iH b,U,U,U⟩
  rintro _ H3 ⟨vp,Sq,g1⟩;obtain⟨E3,IN,O5⟩:=Sq.toLA (iH E.h0) n3.2
  have S7:∀v∈(H'.l+2)::ms,(H3.set (H'.l+3) .dead)[v]? = bb .ka:=λv b=>by
   rcases ay.1 b with rfl|b
   .exact O5 _ _ gf U U U
   .have h1:=Fq v b;have h2:=jQ h1;obtain⟨K,h4⟩:=E.ka h1;refine O5 _ _ (iH h1) (.inl K) U ?_;rcases hq with e|⟨s,e,_⟩
    .omega
    .exact h4 _ _ _ e
  obtain⟨g5,p'⟩:=E.ct;have OU:=O5 1 _ (iH p') U U U;refine⟨eS,.ready,by rw[e1];exact Sq.rc,?_⟩;have Be:((H'.l+2)::ms).Nodup:=cW.2 ⟨λh=>by have:=jQ (Fq _ h);omega,pB⟩;obtain⟨Hs,Sn⟩:∃Hs,H3.set (H'.l+3) .dead=Hs:=⟨_,rfl⟩;rw[Sn]at E3 IN S7 OU;have wj:=OU;unfold kO at wj;simp at wj;show oA (BG (St.mk _ (H3.set ((H' ++ [Ob.row 89 0 [.i a,x],Ob.row 37 0 [x]]).l+1) .dead) _ _) .ready) _ .mk;rw[e1,Sn];clear Sn O5 g1 Sq Y8;obtain⟨B,lk⟩:∃B,nO left ls=B:=⟨_,rfl⟩;obtain⟨TV,tN⟩:∃TV,(im++ls.reverse.map λk=>gt left k)=TV:=⟨_,rfl⟩;rw[lk,tN]at E3 E7;rw[lk]at gW;have Y7:=E3.oF;have AY:∀d sd,(Ob.row 168 0 [.i g.size,.sl 1 (g.next.map fI),dI g.jS,.sl 3 (g.kinds.map Kind.cells),.i g.gX,.b g.pI,dN 4 Clause.cells g.clauses,.i g.blocked,.i g.w7,gT l,.sl 1 (nx.map fN),d,sd]) = .row 168 0 (kO g l nx d sd):=λd sd=>by unfold kO;simp
  have n7:=CB.start (L:=L) (left:=B) OU IN;simp[wj,Y7];refine gx.s (by simp[wj];rfl) ?_;rw[AY];refine gx.kg ((H'.l+2)::ms) eB ((Hs.set 1 (.row 168 0 (kO g l nx .gp g5)),0,.gp):gg×Nat×D) (λy=>[(1,gT l),(2,dcl),(3,.ptr 0 0 0),(9,.ptr 1 0 0),(11,.ptr 2 0 0),(12,.ptr 4 0 0),(76,.gh 3 0 1 0 B.l),(77,.i B.l),(78,.i y.2.1)]) (λy=>y.1) (λy=>y.2.1<=B.l/\CB g l nx L B g5 Hs y.1 y.2.1 y.2.2) (λy=>B.l-y.2.1) ?_ gf (by first|rfl|(simp[iY];done)|(simp[*];done)) rfl rfl rfl ?_
  .exact⟨gf,n7⟩
  rintro⟨G,y,dg⟩ ⟨Y,hG⟩;dsimp only at Y hG ⊢
  by_cases W:y<B.l
  .obtain⟨zs,hz,l7⟩:=E3.arr;have K:=hG.kp 3 _ l7 U;obtain⟨k,C⟩:∃k,gt B (y:Int)=k:=⟨_,rfl⟩
   have Fe:(cl f1 B++zs)[y]? = bb (.i k):=by rw[ah (by rw[rJ];omega),y8,ax,aE W,<-C,CF W];rfl
   have IE:=E7.rng k (by rw[<-C];exact gF U U);rw[rN]at IE;obtain⟨pp,tT,pC⟩:=CV.ix (H:=[]) (ck:=0) (hd.elim .inl λh=>.inr (.inl h)) IE.1 IE.2;have pC:=λH'=>pC H' λv o b=>by simp at b
   have I:=(E4 k IE.1 IE.2).1;have jE:(gK (gt L k)).l=36:=Fl.len _;have lj:(gK (gt L k)).take 36=gK (gt L k):=af U;have pz:gN (gK (gt L k))=true:=Fl.cl _;have O:=hG.ct;unfold kO at O;simp at O;have vb:∀R:gg,(G++R)[1]? = _:=λR=>iH O;have Ff:∀(R:gg) (h:1<(G++R).l),(G++R)[1]'h=_:=λR h=>bT ((aE h).symm.trans (vb R));have Fi:=jQ O;have oW:∀(R:gg) (o:Ob),(G++R).set 1 o=G.set 1 o++R:=λR o=>aT _ _ Fi;have g1:=hG.le;have lL:=jQ E3.oF;rcases hG.dv with⟨rfl,rfl⟩|⟨hy0,v,s,b,rfl,FD⟩
   .simp[W,K,Fe,tT,pC,vb,Ff,O,oW,jE,lj];(with_reducible repeat' first|refine Xk ?_<;>try simp[W,K,Fe,tT,pC,vb,Ff,O,oW,jE,lj]|refine Xs ?_ ?_<;>intro h<;>(try intro M)<;>(try simp[h,W,K,Fe,tT,pC,vb,Ff,O,oW,jE,lj])<;>try omega|refine Xg ?_|omega);have hF:=(hG.more (o:=.row 72 0 (gK (gt L k))) (BC pz)).ado W;rw[oW,aN,ar,bn,show gt B 0=k from C]at hF;rw[AY];exact LJ.i (_,1,.gh (G.l+1) 0 36 0 1) gf rfl rfl rfl (sk hF)
   .have js:=jQ FD;have oX:v≠1:=U;have Bl:∀R:gg,(G++R)[v]? = _:=λR=>iH FD;have Df:∀(R:gg) (o:Ob),(G++R).set v o=G.set v o++R:=λR o=>aT _ _ js;have gS:∀(o:Ob) (R:gg),(G.set v o++R)[1]? = _:=λo R=>iH ((aP oX).trans O);have gB:∀(o:Ob) (R:gg) (h:1<(G.set v o++R).l),(G.set v o++R)[1]'h=_:=λo R h=>bT ((aE h).symm.trans (gS o R));have sS:∀(o o':Ob) (R:gg),(G.set v o++R).set 1 o'=(G.set v o).set 1 o'++R:=λo o' R=>aT _ _ (by rw[az];exact Fi);have gP:(cl gK ((B.take y).map λk=>gt L k)).l=y*36:=by rw[rJ,cj,aG];congr 1;omega
    have l8:(cl gK ((B.take y).map λk=>gt L k)).take (y*36)=cl gK ((B.take y).map λk=>gt L k):=af U;have hyL:y<=100000:=U;simp[W,K,Fe,tT,pC,vb,Ff,O,oW,jE,lj,Bl,Df,gS,gB,sS,gP,l8];(with_reducible repeat' first|refine Xk ?_<;>try simp[W,K,Fe,tT,pC,vb,Ff,O,oW,jE,lj,Bl,Df,gS,gB,sS,gP,l8]|refine Xs ?_ ?_<;>intro h<;>(try intro M)<;>(try simp[h,W,K,Fe,tT,pC,vb,Ff,O,oW,jE,lj,Bl,Df,gS,gB,sS,gP,l8])<;>try omega|refine Xg ?_|omega);have hF:=(hG.adp U W b FD).more (o:=.row 72 0 (gK (gt L k))) (BC pz);rw[C]at hF;rw[AY,<-List.map_take,l8];exact LJ.i (_,y+1,.gh v (s+1) 36 0 (y+1)) gf rfl rfl rfl (sk hF)
  .have zF:y=B.l:=by omega
   subst zF;simp
   exact LM.i (G,(H'.l+2)::ms,B,TV,vp,dg) rfl rfl rfl rfl ⟨gW,hG.toLB E3,λv b=>hG.kp v _ (S7 v b) (λe=>by
    have:=S7 v b;rw[e,OU]at this
    cases this),Be,E7⟩
 | none=>
  have b:d=_:=hP.vd;subst b;have hE:=hS.done hJ λa ls h=>by cases h
  have EY:=jQ E.oF;have F:∀R:gg,(H'++R)[2]? = bb (.row 37 0 [ld]):=λR=>iH E.oE;have Tc:jM (H' ++ [Ob.row 89 0 [.i 0,.gp]]).l (H' ++ [Ob.row 89 0 [.i 0,.gp]]):=Jw E.ok rfl λo S=>by rw[cp.1 S];rfl
  have TD:(im = []/\ld = .gp)\/(im≠[]/\∃v s,4<v/\ld = .gh v s 1 0 im.l/\(H' ++ [Ob.row 89 0 [.i 0,.gp]])[v]? = bb (.row 3 s (cl f1 im))):=by
   rcases E.vw with h|⟨h1,v,s,h2,K,h4⟩
   .exact .inl h
   .exact .inr ⟨h1,v,s,h2,K,iH h4⟩
  have IX:=acJ TD (N:=L.l) (left:=left) (by have:=hS.pm;rwa [rN]at this) h8 Tc;simp[F];(with_reducible repeat' first|refine Xk ?_<;>try simp[F]|refine Xs ?_ ?_<;>intro h<;>(try intro M)<;>(try simp[h,F])<;>try omega|refine Xg ?_|omega);refine gE.w ny ?_;refine gE.lU rfl rfl IX ?_;rintro _ A ⟨rfl,FH,ZJ,A',p0⟩;have Be:∀v∈ms,A[v]? = bb .ka:=λv b=>A' v _ (iH (Fq v b)) λs n e=>(E.ka (Fq v b)).2 _ _ _ e rfl
  have Bc:A[2]? = bb (.row 37 0 [ld]):=by
   refine A' 2 _ (F _) λs n e=>?_;rcases FH with⟨_,h⟩|⟨_,v,Ia,h1,h,_⟩
   .rw[h]at e;cases e
   .rw[h]at e;cases e;omega
  obtain⟨sr,Zu,uG⟩:=hP.ct;obtain⟨ow,P,Q,uG,g'⟩:=uG rfl
  have ZU:∀w:Nat,w<5->∀s n,ld≠.gh w s 1 0 n:=λw hw s n e=>by
   rcases FH with⟨_,h⟩|⟨_,v,Ia,h1,h,_⟩
   .rw[h]at e;cases e
   .rw[h]at e;cases e;omega
  have o2:=A' 1 _ (iH Zu) (ZU 1 U);have n9:=A' 0 _ (iH E.h0) (ZU 0 U)
  have To:=(uG.app [Ob.row 89 0 [.i 0,.gp]]).aja (H':=A) λv o b h5=>A' v o b λs n e=>by
   rcases hB.vw with⟨_,h⟩|⟨_,w,Ia,h1,h,h2⟩
   .rw[h]at e;cases e
   .rw[h]at e;cases e;exact h5 (g' _ _ h2 U)
  clear uG g' Zu;obtain⟨cm,SC⟩:∃cm,(left.map λk=>gt (cs L) k)=cm:=⟨_,rfl⟩;rw[SC]at hJ To;have zf:=aaq hJ;have Ih:=@aar _ _ _ _ hJ
  have IP:∀j:Int,0<=j->j<l.l->(gY cm j).l=1:=λj j0 j1=>by
   obtain⟨q1,q2⟩:=zf.2 j j0 j1;have:=Ic (cl:=cm) (i:=j);rw[q2]at this;have K:¬ 1<(gY cm j).l:=λh=>by cases this.1 h
   have h4:(gY cm j).l≠0:=λh=>q1 (OC.1 h);omega
  have wj:=o2;unfold kO at wj;simp at wj;have rW:∀R:gg,(A++R)[1]? = _:=λR=>iH wj;have Sz:∀(R:gg) (h:1<(A++R).l),(A++R)[1]'h=_:=λR h=>bT ((aE h).symm.trans (rW R));simp[Bc,rW,Sz];(with_reducible repeat' first|refine Xk ?_<;>try simp[Bc,rW,Sz]|refine Xs ?_ ?_<;>intro h<;>(try intro M)<;>(try simp[h,Bc,rW,Sz])<;>try omega|refine Xg ?_|omega);refine gx.kg ms eB ((0,b4 l.l (0,0),[]):Int×List gj×gg) (λy=>[(1,gT l),(3,.ptr 0 0 0),(11,.ptr 2 0 0),(20,.gh A.l 0 2 0 l.l),(108,.gh sr 0 1 0 l.l),(109,.i l.l),(110,.i y.1)]) (λy=>A++(.row 86 0 (AL.cl fS y.2.1)::y.2.2)) (λy=>(0<=y.1/\y.1<=l.l)/\y.2.1.l=l.l/\∀j:Int,0<=j->j<y.1->gt y.2.1 j=l5 (sd cm j)) (λy=>(l.l-y.1).n) ?_ gf (by first|rfl|(simp[iY];done)|(simp[*];done)) rfl rfl rfl ?_
  .exact⟨gf,gf,λj j0 j1=>absurd j1 gI⟩
  rintro⟨k,V,R⟩ ⟨⟨k0,k1⟩,hV,A4⟩;dsimp only at k0 k1 hV A4 ⊢;have tU:∀R:gg,(A++R)[sr]? = bb (.row 170 0 ((List.range l.l).map λj=>D.gM (P j))):=λR=>iH To.row
  by_cases C:k<l.l
  .obtain⟨p1,_⟩:=To.mp k.n U;rw[(U:((k.n:Nat):Int)=k)]at p1;obtain⟨p,lT⟩:∃p,P k.n=p:=⟨_,rfl⟩;obtain⟨q,zB⟩:∃q,Q k.n=q:=⟨_,rfl⟩;rw[lT,zB]at p1;have pe:∀R:gg,(A++R)[p]? = bb (.map KS (jo q 0 (gY cm k))):=λR=>iH p1;have h1:=IP k k0 C;simp[C,tU,lT,pe,k0];(with_reducible repeat' first|refine Xk ?_<;>try simp[C,tU,lT,pe,k0]|refine Xs ?_ ?_<;>intro h<;>(try intro M)<;>(try simp[h,C,tU,lT,pe,k0])<;>try omega|refine Xg ?_|omega);refine gx.kg ms eB (([],[]):List Nat×gg) (λz=>[(1,gT l),(3,.ptr 0 0 0),(11,.ptr 2 0 0),(20,.gh A.l 0 2 0 l.l),(21,.i k),(108,.gh sr 0 1 0 l.l),(109,.i l.l),(110,.i k),(116,.ptr (A.l+(R.l+1)) 0 0)]) (λz=>A++(.row 86 0 (AL.cl fS (Kc cm k V z.1))::(R ++ .jG (.gM p) (gY cm k).l z.1::z.2))) (λz=>z.1.Nodup/\∀t∈z.1,t<(gY cm k).l) (λz=>(gY cm k).l-z.1.l) ?_ gf (by first|rfl|(simp[iY];done)|(simp[*];done)) rfl rfl rfl ?_
   .exact⟨.nil,λ_ h=>(by cases h)⟩
   rintro⟨seen,Z⟩ ⟨mV,gW⟩;dsimp only at mV gW ⊢;simp;refine vP.at (m:=p) (since:=(gY cm k).l) (seen:=seen) (kk:=KS) (es:=jo q 0 (gY cm k)) gf (by simp[pe]) gf (λkb=>?_) λt kv dv he hi=>?_
   .have kb:∀t,t<(gY cm k).l->t∈seen:=by simpa using kb
    have pD:seen≠[]:=λe=>by have:=kb 0 U;rw[e]at this;cases this
    rw[ac1 pD];simp;refine gi ?_;refine LJ.i (k+1,pt V k (l5 (sd cm k)),R ++ .jG (.gM p) (gY cm k).l seen::Z) gf gf rfl rfl ?_;refine⟨gI,gU,by rw[jg k0 U];exact hV,λi' h0 h1=>?_⟩;dsimp only at h1 ⊢;rw[qj k0 U h0]
    by_cases e:i'=k
    .rw[if_pos e,e]
    .rw[if_neg e];exact A4 i' h0 U
   .rw[w9]at he;obtain⟨y,vh,I1⟩:=aq.1 he;cases I1;have rz:=JQ mV gW (ae.1 vh).1 hi;have kj:(jo q 0 (gY cm k))[t]? = bb (ma y.1,oI (q t) y.2):=by rw[w9,vh];simp
    have e:(A++(Ob.row 86 0 (AL.cl fS (Kc cm k V seen))::(R++Ob.jG (.gM p) (gY cm k).l seen::Z))).set (A.l+(R.l+1)) (.jG (.gM p) (gY cm k).l (seen ++ [t]))=A++(Ob.row 86 0 (AL.cl fS (Kc cm k V seen))::(R++Ob.jG (.gM p) (gY cm k).l (seen ++ [t])::Z)):=gf;rw[e]
    have wy:(gY cm k).l-(seen ++ [t]).l<(gY cm k).l-seen.l:=by have:=rz.2.2;rw[ar,bn]at this ⊢;omega
    have FF:t=0:=by have:=(ae.1 vh).1;omega
    have vg:seen = []:=bq.2 λu hu=>by have:=gW u hu;rw[(U:u=t)]at hu;exact hi hu
    have Y:y.1=l5 (sd cm k):=YP (by
     obtain⟨z,hz⟩:=fL.1 h1;rw[hz,FF]at vh;cases vh
     exact hz)
    subst vg;obtain⟨⟨r1,r2⟩,ls⟩:=y;dsimp only at Y kj;have Fy:=HA (l:=V) (n:=k) r1 r2;simp[pe,kj,h1,Fy];(with_reducible repeat' first|refine Xk ?_<;>try simp[pe,kj,h1,Fy]|refine Xs ?_ ?_<;>intro h<;>(try intro M)<;>(try simp[h,pe,kj,h1,Fy])<;>try omega|refine Xg ?_|omega);refine LJ.i ([] ++ [t],Z ++ [.row 86 0 [.i r1,.i r2]]) gf (by rw[ac1 gf,<-Y];simp[h1]) rfl rfl ⟨wy,rz.1,rz.2.1⟩
  .have mE:k=l.l:=by omega
   subst mE;have Zs:cm=cs (left.map λk=>gt L k):=by rw[<-SC,rX]
   have wg:∀x∈left.map (λk=>gt L k),x.full:=λx I=>⟨zh x I,λ_=>by
    have:=zf.1 x.c (by rw[Zs];exact au.2 ⟨x,I,rfl⟩);unfold iT at this;rw[ai]at this
    exact(JY this.1).2.2⟩
   have E9:V=yJ (cs L) left l.l:=ag1 (by rw[Qx];exact hV) λj j0 j1=>by rw[A4 j j0 U,acK _ _ j0 U,SC]
   have A5:∀j:Int,0<=j->j<V.l->0<=(gt V j).2/\(gt V j).2<=4000:=λj j0 j1=>by
    rw[hV]at j1;rw[A4 j j0 j1];have hm:=AR (zf.2 j j0 j1).1;have h5:=Ih j0 j1 _ hm;refine⟨?_,?_⟩
    .unfold lV at h5;simp only[decide_eq_true_eq]at h5;rcases h5 with e|e
     .rw[e];decide
     .exact e.2
    .obtain⟨c,hc,h6,h7⟩:=wF.1 hm;rw[<-h7];rw[Zs]at hc;obtain⟨x,I,rfl⟩:=au.1 hc;obtain⟨_,i0,i1⟩:=Cw.AS (wg x I) h6;exact E5 x I _ (gF U i1)
   have HN:=cr V hV A5;rw[E9]at HN;have n8:∀R:gg,(A++R)[0]? = bb (.row 43 0 g.cells):=λR=>iH n9;simp[n8];refine gE.rq rfl rfl HN (by simp[<-E9,hV]) (λ_=>by simp[flat,tI]) (λ_=>gf) ?_;rintro n hn;have F:∀R:gg,(A++R)[2]? = bb (.row 37 0 [ld]):=λR=>iH Bc;obtain⟨Hk,k1,k2,k3⟩:=TS ms (A++Ob.row 86 0 (AL.cl fS V)::R) pB λv b=>iH (Be v b)
   have qo:∀d,leave 0 0 Hk d=(gA (λ_=>ez) Hk 40 d,[]):=λd=>Pz λe=>by rw[e,ar]at k2;simp at k2
   have n5:Hk[A.l]? = bb (.row 86 0 (AL.cl fS V)):=by rw[k3 _ λh=>by have:=jQ (Be _ h);omega];simp
   have ZK:gA (λ_=>ez) Hk 39 ld=dN 1 f1 (outs L.l left):=by
    rcases FH with⟨e,rfl⟩|⟨h1,v,s,_,rfl,b⟩
    .rw[e];rfl
    .have Tz:=(k3 v λh=>by rw[Be v h]at b;cases b).trans (iH b);simp[Tz]
     cases hz:outs L.l left with
     | nil=>exact absurd hz h1
     | cons a r=>rfl
   by_cases oL:n<0
   .have hR:tC (iv g l nx) l.l (iT l.l) (cs L)=(bb (yJ (cs L) left l.l),outs L.l left):=by unfold tC;rw[hE,if_pos ⟨rfl,hn.1 oL⟩,rN]
    rw[hR,<-E9];have zw:¬ 0<=n:=U;simp[zw,F];(with_reducible repeat' first|refine Xk ?_<;>try simp[zw,F]|refine Xs ?_ ?_<;>intro h<;>(try intro M)<;>(try simp[h,zw,F])<;>try omega|refine Xg ?_|omega);simp[k1,qo,n5,ZK,vI,<-hV]
   .have hR:tC (iv g l nx) l.l (iT l.l) (cs L)=(ez,outs L.l left):=by unfold tC;rw[hE,if_neg (λh=>oL (hn.2 h.2)),rN]
    rw[hR];have zw:0<=n:=U;simp[zw,F];(with_reducible repeat' first|refine Xk ?_<;>try simp[zw,F]|refine Xs ?_ ?_<;>intro h<;>(try intro M)<;>(try simp[h,zw,F])<;>try omega|refine Xg ?_|omega);simp[k1,qo,ZK,vI]
 | vY=>
  have b:d=_:=hP.vd;subst b;have hE:=hS.done hJ λa ls h=>by cases h
  have EY:=jQ E.oF;have F:∀R:gg,(H'++R)[2]? = bb (.row 37 0 [ld]):=λR=>iH E.oE;have Tc:jM (H' ++ [Ob.row 89 0 [.i 0,.gp]]).l (H' ++ [Ob.row 89 0 [.i 0,.gp]]):=Jw E.ok rfl λo S=>by rw[cp.1 S];rfl
  have TD:(im = []/\ld = .gp)\/(im≠[]/\∃v s,4<v/\ld = .gh v s 1 0 im.l/\(H' ++ [Ob.row 89 0 [.i 0,.gp]])[v]? = bb (.row 3 s (cl f1 im))):=by
   rcases E.vw with h|⟨h1,v,s,h2,K,h4⟩
   .exact .inl h
   .exact .inr ⟨h1,v,s,h2,K,iH h4⟩
  have IX:=acJ TD (N:=L.l) (left:=left) (by have:=hS.pm;rwa [rN]at this) h8 Tc;simp[F];(with_reducible repeat' first|refine Xk ?_<;>try simp[F]|refine Xs ?_ ?_<;>intro h<;>(try intro M)<;>(try simp[h,F])<;>try omega|refine Xg ?_|omega);refine gE.w ny ?_;refine gE.lU rfl rfl IX ?_;rintro _ A ⟨rfl,FH,ZJ,A',p0⟩;have Be:∀v∈ms,A[v]? = bb .ka:=λv b=>A' v _ (iH (Fq v b)) λs n e=>(E.ka (Fq v b)).2 _ _ _ e rfl
  have Bc:A[2]? = bb (.row 37 0 [ld]):=by
   refine A' 2 _ (F _) λs n e=>?_;rcases FH with⟨_,h⟩|⟨_,v,Ia,h1,h,_⟩
   .rw[h]at e;cases e
   .rw[h]at e;cases e;omega
  obtain⟨Hk,k1,k2,k3⟩:=TS ms A pB Be;simp[Bc];(with_reducible repeat' first|refine Xk ?_<;>try simp[Bc]|refine Xs ?_ ?_<;>intro h<;>(try intro M)<;>(try simp[h,Bc])<;>try omega|refine Xg ?_|omega);simp[k1]
  have qo:∀d,leave 0 0 Hk d=(gA (λ_=>ez) Hk 40 d,[]):=λd=>Pz λe=>by rw[e,ZJ]at k2;simp at k2
  have hR:tC (iv g l nx) l.l (iT l.l) (cs L)=(ez,outs L.l left):=by unfold tC;rw[hE,if_neg (λh=>by cases h.1),rN]
  rw[hR];rcases FH with⟨e,rfl⟩|⟨h1,v,s,_,rfl,b⟩
  .simp[qo,vI,e];rfl
  .have Tz:=(k3 v λh=>by rw[Be v h]at b;cases b).trans b;simp[qo,vI,Tz]
   cases hz:outs L.l left with
   | nil=>exact absurd hz h1
   | cons a r=>rfl
end Go.Proofs.YtmehofoficaelaaGreatDoor
namespace Go.Proofs.YtmehofoficaelaaGreatDoor
open Go Go.AL Classical
set_option maxRecDepth 10000
set_option maxHeartbeats 8000000
def abT(n:Nat)(l:List Int):(outs n l).l<=n:=by have:=dx (λk => !l.contains k) (upto n);rwa [qx]at this
def afj(g:gv)(hg:gZ g)(l:List Pos)(d:mY g l)(h0:0<l.l)(h:l.l<=1000){L:List Cw}{dcl:D}(b:dcl = .sl 36 (L.map gK)\/(L = []/\dcl = .gp))
  (f:∀x∈L,x.ok) (e:∀x∈L,∀r∈x.c.es,r.2<=4000) (i:L.l<=100000) :
  Wf T 33 [dG g,gT l,dcl] [] (Is (.agg (vI (tC (iv g l (gy g l)) l.l (iT l.l) (cs L))))):=by
 have c:=afc g hg l d h0 h b f e i
 have a:closed dcl=true:=by
  rcases b with rfl|⟨rfl,rfl⟩
  .exact wZ L
  .rfl
 obtain⟨S,hS⟩:∃S,tC (iv g l (gy g l)) l.l (iT l.l) (cs L)=S:=⟨_,rfl⟩;rw[hS]at c ⊢;clear hS;obtain⟨_|v,o⟩:=S
 .simp only[vI]at c;refine Yg D4 ?_;simp[D4,a];refine Yc c ?_ rfl rfl (by simp[a]) gf;simp;refine gi ?_;rfl
 .simp only[vI]at c;refine Yg D4 ?_;simp[D4,a];refine Yc c ?_ rfl rfl (by simp[a]) gf;simp;refine gi ?_;rfl
