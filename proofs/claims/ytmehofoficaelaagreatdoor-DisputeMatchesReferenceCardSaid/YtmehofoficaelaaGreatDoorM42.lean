/- Part 42 of DisputeMatchesReference. -/
import Derived.Test.YtmehofoficaelaaGreatDoorM41
set_option linter.all false
open And renaming intro→aE
open List renaming length_map→bb,map_cons→bs,map_append→cj,mem_singleton→dr,getElem_map→dx,set_cons_succ→ek,range→en,length→List.l
open Option renaming some→b4
open Bool renaming true→cp,false→di
open Prod renaming ext_iff→eh
open Int renaming toNat→Int.n
namespace Go.Proofs.YtmehofoficaelaaGreatDoor
open Go Go.AL Classical
set_option maxRecDepth 10000
set_option maxHeartbeats 8000000
def XQ(g:gv)(hg:gZ g)(l:List Pos)(q:mY g l)(v:List gj)(h8:v.l<=4000)(hb:∀k:Int,0<=k->k<v.l->-4000<=(gt v k).2/\(gt v k).2<=4000)(i:Int) :
  Wf T 38 [dG g,gT l,iu v,.i i] [] (Is (.agg (FR (iv g l (gy g l)) l.l v i))):=by
 have a0:=q.len;have cn:=f37 g hg l q;have f:(gy g l).l=l.l:=by simp[gy]
 unfold FR
 by_cases N:v.l=l.l
 .rw[if_neg (λh=>h N)]
  by_cases hi:i<0\/(l.l:Int)<=i
  .rw[if_pos hi];refine Yg Af ?_;simp[Af];refine Yc (cn) ?_;simp;(with_reducible repeat' first|refine Xk ?_<;>try simp[N]|refine Xs ?_ ?_<;>intro h<;>(try intro h')<;>(try simp[h,N])<;>try omega|refine Xg ?_|omega)
  .rw[if_neg hi];have i0:0<=i:=U;have V:i<l.l:=U;have gQ:=(oN q (i:=i) i0 V).2;have Z:=(oN q (i:=i) i0 V).1;have hp:=q.ok _ (gF i0 V)
   have X:(gt (gy g l) i).l<=4000000000:=by rw[Z,bb];have:=wG hg hp;omega
   have L:(stat g (gt l i)).2=di->0<(gt (gy g l) i).l:=λh=>by
    rw[Z,bb];have:jb g (gt l i)≠[]:=λe=>by unfold stat at h;simp[e]at h
    exact ao.2 this
   have Q:(stat g (gt l i)).2=cp->tv (iv g l (gy g l)) v i=((stat g (gt l i)).1,0):=λh=>by rw[tv,if_pos (show(iv g l (gy g l)).ov i=cp from h)];rfl
   have E:(stat g (gt l i)).2=di->tv (iv g l (gy g l)) v i=mr ((gt (gy g l) i).map λk=>gt v k):=λh=>by rw[tv,if_neg (by rw[show(iv g l (gy g l)).ov i=di from h];simp)];rfl
   have cs:=f112 g hg (gt l i) hp;obtain⟨w,hw⟩:∃w,tv (iv g l (gy g l)) v i=w:=⟨_,rfl⟩;obtain⟨st,gD⟩:∃st,stat g (gt l i)=st:=⟨_,rfl⟩;obtain⟨nx,mW⟩:∃nx,gy g l=nx:=⟨_,rfl⟩;rw[hw]at Q E ⊢;rw[gD]at cs Q E L;rw[mW]at gQ X E L cn f;obtain⟨o,ov⟩:=st;dsimp only at Q E L cs;refine Yg Af ?_;simp[Af];refine Yc (cn) ?_;simp;refine iU N ?_;refine Yt (cs) ?_;simp;cases ov
   .have L:=L rfl;have E:=E rfl;simp;refine gi ?_;obtain⟨x,j⟩:∃x,gt nx i=x:=⟨_,rfl⟩;rw[j]at gQ X L E;have gQ:∀k∈x,0<=k/\k<v.l:=λk p=>by rw[N];exact gQ k p
    have A6:=R9 hb gQ;have z:=abj (M:=x.map λk=>gt v k) (by simpa using ao.1 L);rw[<-E]at z;have m:i<nx.l:=U;refine gx.e ((0,[],[]):Int×List Int×List Int) (λy=>[(2,iu v),(3,.i i),(8,.ptr 1 0 0),(9,.sl 1 (nx.map fI)),(12,.i (sQ y.2.1)),(13,.i (sR y.2.2)),(14,.i y.2.2.l),(15,.i y.2.1.l),(16,.i y.1)]) (λy=>[.row 43 0 g.cells,.row 99 0 [.b di,.i 0],.row 193 0 [.i o,.b di]]) (λy=>(0<=y.1/\y.1<=x.l)/\y.2.1=ia ((x.take y.1.n).map λk=>gt v k) 3/\y.2.2=ia ((x.take y.1.n).map λk=>gt v k) 1) (λy=>(x.l-y.1).n) ?_ ?_
    .simp
    rintro⟨k,A,B⟩ ⟨⟨k0,k1⟩,P,O⟩;dsimp only at k0 k1 P O ⊢
    have om:A.l<=k.n:=by have:=By ((x.take k.n).map λk=>gt v k) 3;rw[<-P,bb,aG]at this;omega
    have l6:B.l<=k.n:=by have:=By ((x.take k.n).map λk=>gt v k) 1;rw[<-O,bb,aG]at this;omega
    by_cases p:k<x.l
    .have c:=gQ _ (gF k0 p);have e:(x.take (k+1).n).map (λk=>gt v k)=(x.take k.n).map (λk=>gt v k) ++ [gt v (gt x k)]:=by rw[Gr k0 p,cj];rfl
     obtain⟨r,s⟩:∃r,gt v (gt x k)=r:=⟨_,rfl⟩;rw[s]at e;have K:=abl (l:=A) (a:=r.2);have J:=abp (l:=B) (a:=r.2);have aA:r.1=3->ia ((x.take (k+1).n).map λk=>gt v k) 3=A ++ [r.2]:=λh=>by rw[e,BA h,P]
     have Y:r.1≠3->ia ((x.take (k+1).n).map λk=>gt v k) 3=A:=λh=>by rw[e,Bz h,P]
     have aB:r.1=1->ia ((x.take (k+1).n).map λk=>gt v k) 1=B ++ [r.2]:=λh=>by rw[e,BA h,O]
     have S:r.1≠1->ia ((x.take (k+1).n).map λk=>gt v k) 1=B:=λh=>by rw[e,Bz h,O]
     obtain⟨W,u⟩:=r;dsimp only at K J aA Y aB S;obtain⟨G,F⟩:∃G,sQ A=G:=⟨_,rfl⟩;obtain⟨mx,H⟩:∃mx,sR B=mx:=⟨_,rfl⟩;rw[F]at K;rw[H]at J;rw[F,H];have t:((x.l:Int)-(k+1)).n<((x.l:Int)-k).n/\(0<=k+1/\k+1<=x.l):=U
     by_cases d:W=3
     .have D:=S U;have I:=aA d
      by_cases q:A.l=0\/u<G
      .rw[if_pos q]at K
       by_cases n:A.l=0
       .simp[p,s,c.1,c.2,f,i0,m,j,d,n];refine o5 (aE p (aE s c.1)) (aE c.2 (aE f i0)) (aE m (aE j d)) n ?_;refine LJ.i (k+1,A ++ [u],B) (by simp[K,H,n]) rfl rfl rfl ⟨t.1,t.2,I.symm,D.symm⟩
       .have C:u<G:=q.resolve_left n;simp[p,s,c.1,c.2,f,i0,m,j,d,n,C];refine o5 (aE p (aE s c.1)) (aE c.2 (aE f i0)) (aE m (aE j d)) (aE n C) ?_;refine LJ.i (k+1,A ++ [u],B) (by simp[K,H]) rfl rfl rfl ⟨t.1,t.2,I.symm,D.symm⟩
      .rw[if_neg q]at K;have n:¬A.l=0:=λh=>q (.inl h);have C:¬u<G:=λh=>q (.inr h);simp[p,s,c.1,c.2,f,i0,m,j,d,n,C];refine o5 (aE p (aE s c.1)) (aE c.2 (aE f i0)) (aE m (aE j d)) (aE n C) ?_;refine LJ.i (k+1,A ++ [u],B) (by simp[K,H]) rfl rfl rfl ⟨t.1,t.2,I.symm,D.symm⟩
     .have I:=Y d
      by_cases h1:W=1
      .have D:=aB h1
       by_cases q:B.l=0\/mx<u
       .rw[if_pos q]at J
        by_cases n:B.l=0
        .simp[p,s,c.1,c.2,f,i0,m,j,d,h1,n];refine o5 (aE p (aE s c.1)) (aE c.2 (aE f i0)) (aE m (aE j d)) (aE h1 n) ?_;refine LJ.i (k+1,A,B ++ [u]) (by simp[J,F,n]) rfl rfl rfl ⟨t.1,t.2,I.symm,D.symm⟩
        .have C:mx<u:=q.resolve_left n;simp[p,s,c.1,c.2,f,i0,m,j,d,h1,n,C];refine o5 (aE p (aE s c.1)) (aE c.2 (aE f i0)) (aE m (aE j d)) (aE h1 (aE n C)) ?_;refine LJ.i (k+1,A,B ++ [u]) (by simp[J,F]) rfl rfl rfl ⟨t.1,t.2,I.symm,D.symm⟩
       .rw[if_neg q]at J;have n:¬B.l=0:=λh=>q (.inl h);have C:¬mx<u:=λh=>q (.inr h);simp[p,s,c.1,c.2,f,i0,m,j,d,h1,n,C];refine o5 (aE p (aE s c.1)) (aE c.2 (aE f i0)) (aE m (aE j d)) (aE h1 (aE n C)) ?_;refine LJ.i (k+1,A,B ++ [u]) (by simp[J,F]) rfl rfl rfl ⟨t.1,t.2,I.symm,D.symm⟩
      .have D:=S h1;simp[p,s,c.1,c.2,f,i0,m,j,d,h1];refine o5 (aE p (aE s c.1)) (aE c.2 (aE f i0)) (aE m (aE j d)) h1 ?_;refine LJ.i (k+1,A,B) (by simp[F,H]) rfl rfl rfl ⟨t.1,t.2,I.symm,D.symm⟩
    .have mE:k=x.l:=by omega
     subst mE;rw[Int.toNat_natCast,cQ]at P O;rw[<-P,<-O,bb]at z;have bA:=abk (l:=A) (b:=4000) (λy R=>by rw[P]at R;have:=A6 _ (uK.1 R);exact this) U;have bB:=abo (l:=B) (b:=4000) (λy R=>by rw[O]at R;have:=A6 _ (uK.1 R);exact this) U;obtain⟨G,F⟩:∃G,sQ A=G:=⟨_,rfl⟩;obtain⟨mx,H⟩:∃mx,sR B=mx:=⟨_,rfl⟩;rw[F]at bA z ⊢;rw[H]at bB z ⊢
     by_cases d:0<A.l
     .rw[if_pos d]at z;rw[z];simp[d,f,i0,m,j];refine kG (aE d f) (aE i0 m) j ?_;rw[<-cu];exact decide_eq_decide.2 (by rw[eh])
     .rw[if_neg d]at z
      by_cases h1:B.l=x.l
      .rw[if_pos h1]at z;rw[z];simp[d,f,i0,m,j,h1];refine kG (aE d f) (aE i0 m) (aE j h1) ?_;rw[<-cu];exact decide_eq_decide.2 (by rw[eh])
      .rw[if_neg h1]at z;rw[z];simp[d,f,i0,m,j,h1];refine kG (aE d f) (aE i0 m) (aE j h1) ?_;rw[<-cu];exact decide_eq_decide.2 (by rw[eh])
   .have Q:=Q rfl;subst Q;simp;refine gi ?_;rw[<-cu];exact decide_eq_decide.2 (by rw[eh])
 .rw[if_pos N];refine Yg Af ?_;simp[Af];refine Yc (cn) ?_;simp;exact V0 N
def f66(g:gv)(hg:gZ g)(l:List Pos)(hl:mY g l):Wf T 128 [dG g,gT l] [] (Is (.sl 3 ((l.map (oT g)).map fK))):=by
 have b:=hl.len;refine Yg BY ?_;simp[BY];refine gx.e ((0,[]):Int×List Kn) (λy=>[(1,gT l),(2,.ptr 0 0 0),(5,.gh 1 y.2.l 3 0 y.2.l),(6,.i y.1)]) (λy=>[.row 43 0 g.cells,.row 245 y.2.l (cl fK y.2)]) (λy=>0<=y.1/\y.1<=l.l/\y.2=(l.take y.1.n).map (oT g)) (λy=>l.l-y.1.n) ?_ ?_
 .simp
 rintro⟨i,out⟩ ⟨i0,c,a⟩;dsimp only at i0 c a ⊢;have d:out.l=i.n:=by rw[a];simp;omega
 simp;refine kz ?_ ?_<;>intro h
 .refine Yt (f112 g hg _ (hl.ok _ (gF i0 ‹_›))) ?_;simp;refine gi ?_;refine LJ.i (i+1,out ++ [oT g (gt l i)]) (by first|rfl|simp[oT]) (by first|rfl|simp[oT]) rfl rfl ?_;dsimp only;refine ic ?_;rw[jI i0 ‹_›,cj,a];rfl
 .have e:out=l.map (oT g):=by rw[a,lW U]
  rw[e,b6]
def afD(g:gv)(hg:gZ g)(l:List Pos)(s:mY g l)(h0:0<l.l)(v:List gj)(d:v.l=l.l)(G:∀k:Int,0<=k->k<v.l->0<=(gt v k).2/\(gt v k).2<=4000) :
  Wf T 80 [dG g,gT l,iu v] [] (Ey (λn:Int=>.agg [.i n,.i 0]) λn=>n<0↔∀k:Int,0<=k->k<l.l->lY (iv g l (gy g l)) v k):=by
 have E:=s.len;have cn:=f37 g hg l s;have I:=f66 g hg l s;have p:(gy g l).l=l.l:=by simp[gy]
 have gQ:=λi i0 A=>(oN s (i:=i) i0 A).2
 have b:∀k:Int,0<=k->k<l.l->gt (l.map (oT g)) k=oT g (gt l k):=λk k0 k1=>by rw[iV k0 (by rw[bb];exact k1),dx,<-iV k0 k1]
 have a:∀k:Int,0<=k->k<l.l->(lY (iv g l (gy g l)) v k↔gt v k=tv (iv g l (gy g l)) v k):=λk k0 k1=>aiR λj F=>(G j (gQ k k0 k1 j F).1 (by rw[d];exact(gQ k k0 k1 j F).2)).1
 have K:∀k:Int,0<=k->k<l.l->(gt (gy g l) k).l<=4000000000/\((stat g (gt l k)).2=di->0<(gt (gy g l) k).l):=λk k0 k1=>by
  rw[(oN s k0 k1).1,bb];refine⟨by have:=wG hg (s.ok _ (gF k0 k1));omega,λh=>?_⟩;have:jb g (gt l k)≠[]:=λe=>by unfold stat at h;simp[e]at h
  exact ao.2 this
 obtain⟨z,J⟩:∃z,l.map (oT g)=z:=⟨_,rfl⟩;have f:z.l=l.l:=by rw[<-J];simp
 rw[J]at I b;refine Yg KN ?_;simp[KN];refine Yc (cn) ?_;simp;refine iU d ?_;refine Yc (I) ?_;simp;refine gx.e (0:Int) (λy=>[(1,gT l),(2,iu v),(6,.ptr 1 0 0),(7,.sl 1 ((gy g l).map fI)),(9,.sl 3 (z.map fK)),(10,.i y)]) (λy=>[.row 43 0 g.cells,.row 188 0 [.i 0,.i 0]]) (λy=>(0<=y/\y<=l.l)/\∀k:Int,0<=k->k<y->lY (iv g l (gy g l)) v k) (λy=>(l.l-y).n) ?_ ?_
 .exact⟨gf,λk k0 k1=>U⟩
 rintro i ⟨⟨i0,A⟩,B⟩;dsimp only at i0 A B ⊢
 by_cases hi:i<l.l
 .have b:=b i i0 hi;have a:=a i i0 hi;obtain⟨t,m⟩:=K i i0 hi;have gQ:=gQ i i0 hi
  have D:lY (iv g l (gy g l)) v i->∀k:Int,0<=k->k<i+1->lY (iv g l (gy g l)) v k:=λh k k0 k1=>by
   by_cases e:k=i
   .rw[e];exact h
   .exact B k k0 U
  have C:¬lY (iv g l (gy g l)) v i->(i<0↔∀k:Int,0<=k->k<l.l->lY (iv g l (gy g l)) v k):=λh=>⟨λH=>U,λH=>absurd (H i i0 hi) h⟩;unfold tv at a;rw[show(iv g l (gy g l)).ov i=(stat g (gt l i)).2 from rfl,show(iv g l (gy g l)).rs i=(stat g (gt l i)).1 from rfl,show(iv g l (gy g l)).nx=gy g l from rfl]at a;unfold oT at b;obtain⟨st,O⟩:∃st,stat g (gt l i)=st:=⟨_,rfl⟩;rw[O]at b a m;obtain⟨o,ov⟩:=st;dsimp only at b a m;cases ov
  .rw[if_neg gf]at a;have m:=m rfl;obtain⟨x,u⟩:∃x,gt (gy g l) i=x:=⟨_,rfl⟩;rw[u]at gQ t m a;have c:=afS v x (λk N=>by rw[d];exact gQ k N) m t (λk k0 k1=>by have:=G k k0 k1;omega);obtain⟨r,M⟩:∃r,mr (x.map λk=>gt v k)=r:=⟨_,rfl⟩;rw[M]at c a;obtain⟨Q,P⟩:=r;dsimp only at c;simp[hi,b,f,i0,u,p,d];(with_reducible repeat' first|refine Xk ?_<;>try simp[hi,b,f,i0,u,p,d]|refine Xs ?_ ?_<;>intro h<;>(try intro w)<;>(try simp[h,hi,b,f,i0,u,p,d])<;>try omega|refine Xg ?_|omega);refine Yc c ?_;simp;(with_reducible repeat' first|refine Xk ?_<;>try simp|refine Xs ?_ ?_<;>intro h<;>(try intro w)<;>(try simp[h])<;>try omega|refine Xg ?_|omega)
   .refine LJ.e (i+1) ?_;exact⟨U,gU,D (a.2 (cL h w))⟩
   .exact Ey.i i rfl rfl (C λq=>h ⟨by rw[a.1 q],by rw[a.1 q]⟩)
  .rw[if_pos rfl]at a;simp[hi,b,f,i0,p,d];(with_reducible repeat' first|refine Xk ?_<;>try simp[hi,b,f,i0,p,d]|refine Xs ?_ ?_<;>intro h<;>(try intro w)<;>(try simp[h,hi,b,f,i0,p,d])<;>try omega|refine Xg ?_|omega)
   .refine LJ.e (i+1) ?_;exact⟨U,gU,D (a.2 (cL h w))⟩
   .exact Ey.i i rfl rfl (C λq=>h ⟨by rw[a.1 q],by rw[a.1 q]⟩)
 .have L:i=l.l:=by omega
  subst L;simp;refine gi ?_;exact Ey.i (-1) rfl rfl ⟨λ_=>B,λ_=>U⟩
set_option maxHeartbeats 16000000
def afB(g:gv)(hg:gZ g)(l:List Pos)(hc:mY g l)(L:List Cw)(O:∀x∈L,x.full)(X:L.l<=4000000000)(i:Int)(i0:0<=i)(i1:i<l.l)
  (hp:∀j:Int,0<=j->j<l.l->∀r∈sd (cs L) j,lV r=cp) (hb:∀j:Int,0<=j->j<l.l->∀r∈sd (cs L) j,r.2<=4000000000) (hd:lH (sd (cs L) i)=cp) :
  Wf T 78 [dG g,gT l,.sl 1 ((gy g l).map fI),.sl 36 (L.map gK),.i i] [] (Is (dI (jw (o3 (iv g l (gy g l)) (cs L) i) (cs L) L.l))):=by
 have f':=hc.len;have uD:=hc.ok _ (gF i0 i1);have kR:(gy g l).l=l.l:=by simp[gy]
 have gQ:=(oN hc (i:=i) i0 i1).2;have ig:=(oN hc (i:=i) i0 i1).1
 have oz:(gt (gy g l) i).l<=4000000000:=by rw[ig,bb];have:=wG hg uD;omega
 have M:(stat g (gt l i)).2=di->0<(gt (gy g l) i).l:=λh=>by
  rw[ig,bb];have:jb g (gt l i)≠[]:=λe=>by unfold stat at h;simp[e]at h
  exact ao.2 this
 have Ci:=f112 g hg (gt l i) uD;have Rm:=HU L O X i gU
 have pV:∀j:Int,0<=j->j<l.l->∀r∈sd (cs L) j,r.1≠2->0<=r.2:=λj j0 j1 r F b=>by
  have:=hp j j0 j1 r F;simp only[lV,decide_eq_true_eq]at this;rcases this with e|e
  .grind
  .exact e.2
 rw[T1 (pV i i0 i1)]at Rm;obtain⟨n,hn⟩:∃n,oB (sd (cs L) i)=n:=⟨_,rfl⟩;rw[hn]at Rm
 have tj:(stat g (gt l i)).2=cp->∀c∈cs L,(ke c i&&decide (jH c i≠((stat g (gt l i)).1,0)))=o3 (iv g l (gy g l)) (cs L) i c:=λh c _=>by unfold o3;rw[if_pos (show(iv g l (gy g l)).ov i=cp from h)];rfl
 have z:(stat g (gt l i)).2=di->(mr ((gt (gy g l) i).map (q' (cs L) n))).1≠2->∀c∈cs L,(ke c i&&decide (jH c i≠mr ((gt (gy g l) i).map (q' (cs L) n))))=o3 (iv g l (gy g l)) (cs L) i c:=λh b c _=>by unfold o3;rw[if_neg (by rw[show(iv g l (gy g l)).ov i=di from h];simp),hn,PM,show gt (iv g l (gy g l)).nx i=gt (gy g l) i from rfl,if_pos b]
 have C:(stat g (gt l i)).2=di->(mr ((gt (gy g l) i).map (q' (cs L) n))).1=2->∀c∈cs L,(ke c i&&decide ((jH c i).1≠2/\(jH c i).2=n))=o3 (iv g l (gy g l)) (cs L) i c:=λh b c _=>by unfold o3;rw[if_neg (by rw[show(iv g l (gy g l)).ov i=di from h];simp),hn,PM,show gt (iv g l (gy g l)).nx i=gt (gy g l) i from rfl,if_neg (by rw[b];simp)]
 have gP:(cs L).l=L.l:=by simp[cs]
 obtain⟨W,hW⟩:∃W,jw (o3 (iv g l (gy g l)) (cs L) i) (cs L) L.l=W:=⟨_,rfl⟩;have R:∀p:gR->Bool,(∀c∈cs L,p c=o3 (iv g l (gy g l)) (cs L) i c)->jw p (cs L) L.l=W:=λp h=>by rw[<-hW];exact TN U h
 rw[hW];obtain⟨nx,mW⟩:∃nx,gy g l=nx:=⟨_,rfl⟩;rw[mW]at kR gQ oz M z C R tj ⊢;obtain⟨st,gD⟩:∃st,stat g (gt l i)=st:=⟨_,rfl⟩;rw[gD]at Ci M tj z C;obtain⟨o,ov⟩:=st;dsimp only at Ci M tj z C;have h9:closed (.sl 36 (L.map gK))=true:=wZ L;refine Yg KM ?_;simp[KM];refine gi ?_;refine Yt (Ci) ?_;simp;refine gi ?_;refine Yt (Rm) ?_;simp;cases ov
 .have M:=M rfl;have z:=z rfl;have C:=C rfl;obtain⟨x,a⟩:∃x,gt nx i=x:=⟨_,rfl⟩;rw[a]at gQ oz M z C;simp;refine gx.e ((0,[]):Int×List gj) (λy=>[(2,.sl 1 (nx.map fI)),(3,.sl 36 (L.map gK)),(4,.i i),(12,.i n),(13,.i (oc (ia y.2 3))),(14,.i (pH (ia y.2 1))),(15,.i (ia y.2 1).l),(16,.i y.1)]) (λy=>[.row 43 0 g.cells,.row 193 0 [.i o,.b di]]) (λy=>(0<=y.1/\y.1<=x.l)/\y.2=(x.take y.1.n).map (q' (cs L) n)) (λy=>(x.l-y.1).n) ?_ ?_
  .grind
  rintro⟨k,s⟩ ⟨⟨k0,k1⟩,hs⟩;dsimp only at k0 k1 hs ⊢
  have qq:∀r∈s,(r.1=3\/r.1=1)->0<=r.2/\r.2<=4000000000:=λr F b=>by
   rw[hs]at F;obtain⟨j,N,rfl⟩:=au.1 F;have zt:=gQ j (aS N);unfold q' at b ⊢
   by_cases hh:lH (sd (cs L) j)=di/\(l5 (sd (cs L) j)).2<n
   .rw[if_pos hh]at b ⊢
    have w:l5 (sd (cs L) j)∈sd (cs L) j:=AR λe=>by rw[e]at b;rcases b with b|b<;>exact absurd b jr
    exact⟨pV j zt.1 zt.2 _ w U,hb j zt.1 zt.2 _ w⟩
   .grind
  have V:∀y∈ia s 3,0<=y/\y<=4000000000:=λy J=>qq _ (uK.1 J) (.inl rfl);have Ii:∀y∈ia s 1,0<=y/\y<=4000000000:=λy J=>qq _ (uK.1 J) (.inr rfl);have l6:(ia s 1).l<=s.l:=by unfold ia;rw[bb];exact List.length_filter_le _ _
  have kM:s.l=k.n:=by rw[hs];simp;omega
  by_cases m:k<x.l
  .have N:=gQ _ (gF k0 m);have G:=HU L O X (gt x k) gU;have e:=BS (l:=x) k0 m;have v:(x.take (k+1).n).map (q' (cs L) n)=s ++ [q' (cs L) n (gt x k)]:=by rw[e,cj,<-hs];rfl
   have hE:q' (cs L) n (gt x k)=if lH (sd (cs L) (gt x k))=di/\(f0 (sd (cs L) (gt x k))).2<n then f0 (sd (cs L) (gt x k))else(2,0):=by rw[YG];rfl
   rw[hE]at v
   have OW:((f0 (sd (cs L) (gt x k))).1=3\/(f0 (sd (cs L) (gt x k))).1=1)->0<=(f0 (sd (cs L) (gt x k))).2/\(f0 (sd (cs L) (gt x k))).2<=4000000000:=λb=>by
    rw[YG]at b ⊢
    have w:l5 (sd (cs L) (gt x k))∈sd (cs L) (gt x k):=AR λe=>by rw[e]at b;rcases b with b|b<;>exact absurd b jr
    exact⟨pV _ N.1 N.2 _ w U,hb _ N.1 N.2 _ w⟩
   obtain⟨f,hf⟩:∃f,f0 (sd (cs L) (gt x k))=f:=⟨_,rfl⟩;obtain⟨d,c4⟩:∃d,lH (sd (cs L) (gt x k))=d:=⟨_,rfl⟩;rw[hf]at G v OW;rw[c4]at G v;obtain⟨f1,f2⟩:=f;dsimp only at G v OW;obtain⟨A,Q⟩:∃A,ia s 3=A:=⟨_,rfl⟩;obtain⟨B,P⟩:∃B,ia s 1=B:=⟨_,rfl⟩;rw[Q]at V ⊢;rw[P]at Ii l6 ⊢;have S:=abh (l:=A) λy J=>(V y J).1
   have S3:pH B<=4000000000:=by
    by_cases h:B = []
    .simp_all
    .exact(Ii _ (Bv h)).2
   have n2:∀r:gj,r.1≠3->ia (s ++ [r]) 3=A:=λr h=>by rw[abr h,Q]
   have E:∀r:gj,r.1≠1->ia (s ++ [r]) 1=B:=λr h=>by rw[abr h,P]
   cases d
   .by_cases b:f1=2
    .subst b;obtain⟨r,F,jY⟩:∃r:gj,(x.take (k+1).n).map (q' (cs L) n)=s ++ [r]/\r.1=2:=jZ;simp[m,a,rO];refine iU a ?_;refine Yc (G) ?_;simp;refine iU a ?_;refine LJ.i (k+1,s ++ [r]) (by first|rfl|simp[n2 r U,E r U]) (by first|rfl|simp[n2 r U,E r U]) rfl rfl ?_;exact⟨U,gU,F.symm⟩
    .by_cases OX:f2<n
     .rw[if_pos ⟨rfl,OX⟩]at v;have K:¬n<=f2:=U
      by_cases Z:f1=3
      .subst Z;have Zz:=OW (.inl rfl);have q3:ia (s ++ [(3,f2)]) 3=A ++ [f2]:=by rw[abt rfl,Q]
       have q1:=E (3,f2) gf
       have w:oc (A ++ [f2])=if oc A<0\/f2<oc A then f2 else oc A:=by
        rw[abi]
        by_cases H:A = []
        .grind
        .grind
       simp[m,a,rO];refine iU a ?_;refine Yc (G) ?_;simp;(with_reducible repeat' first|refine Xk ?_<;>try simp[a,K]|refine Xs ?_ ?_<;>intro h<;>(try intro h')<;>(try simp[h,a,K])<;>try omega|refine Xg ?_|omega)
       all_goals first|rw[if_pos (.inl jX)]at w|rw[if_pos (.inr jX)]at w|rw[if_neg U]at w
       all_goals refine LJ.i (k+1,s ++ [(3,f2)]) (by simp[q3,q1,w]) gf rfl rfl ⟨U,gU,v.symm⟩
      .by_cases Y:f1=1
       .subst Y;have Zz:=OW (.inr rfl);have q3:=n2 (1,f2) gf;have q1:ia (s ++ [(1,f2)]) 1=B ++ [f2]:=by rw[abt rfl,P]
        have w:pH (B ++ [f2])=max (pH B) f2:=by
         rw[ai4]
         by_cases H:B = []
         .rw[if_pos H,H,ai3];omega
         .grind
        simp[m,a,rO];refine iU a ?_;refine Yc (G) ?_;simp;refine jT a K ?_;refine LJ.i (k+1,s ++ [(1,f2)]) (by simp[q3,q1,w]) gf rfl rfl ⟨U,gU,v.symm⟩
       .simp[m,a,rO];refine iU a ?_;refine Yc (G) ?_;simp;(with_reducible repeat' first|refine Xk ?_<;>try simp[a,K,b,Z,Y]|refine Xs ?_ ?_<;>intro h<;>(try intro h')<;>(try simp[h,a,K,b,Z,Y])<;>try omega|refine Xg ?_|omega);refine LJ.i (k+1,s ++ [(f1,f2)]) (by first|rfl|simp[n2 (f1,f2) Z,E (f1,f2) Y]) (by first|rfl|simp[n2 (f1,f2) Z,E (f1,f2) Y]) rfl rfl ?_;exact⟨U,gU,v.symm⟩
     .rw[if_neg (λq=>OX q.2)]at v;have K:n<=f2:=U;simp[m,a,rO];refine iU a ?_;refine Yc (G) ?_;simp;refine kG a K b ?_;refine LJ.i (k+1,s ++ [(2,0)]) (by first|rfl|simp[n2,E]) (by first|rfl|simp[n2,E]) rfl rfl ?_;exact⟨U,gU,v.symm⟩
   .rw[if_neg gf]at v;simp[m,a,rO];refine iU a ?_;refine Yc (G) ?_;simp;refine iU a ?_;refine LJ.i (k+1,s ++ [(2,0)]) (by first|rfl|simp[n2,E]) (by first|rfl|simp[n2,E]) rfl rfl ?_;exact⟨U,gU,v.symm⟩
  .have mE:k=x.l:=by omega
   have hM:s=x.map (q' (cs L) n):=by rw[hs,af U]
   rw[<-hM]at z C;have Y':s≠[]:=λe=>by rw[e]at hM;have:=congrArg List.l hM;simp at this;omega
   have S:=abh (l:=ia s 3) λy J=>(V y J).1
   have ZO:oc (ia s 3)<=4000000000:=by
    by_cases h:ia s 3 = []
    .grind
    .exact(V _ (xK h)).2
   have S3:pH (ia s 1)<=4000000000:=by
    by_cases h:ia s 1 = []
    .simp_all
    .exact(Ii _ (Bv h)).2
   have ZP : -1<=pH (ia s 1):=by
    by_cases h:ia s 1 = []
    .simp_all
    .have:=(Ii _ (Bv h)).1;omega
   obtain⟨m1,u⟩:∃m1,mr s=m1:=⟨_,rfl⟩;rw[u]at z C;have c7:=u;unfold mr at u;obtain⟨A,Q⟩:∃A,ia s 3=A:=⟨_,rfl⟩;obtain⟨B,P⟩:∃B,ia s 1=B:=⟨_,rfl⟩;rw[Q]at S ZO u ⊢;rw[P]at S3 ZP l6 u ⊢
   by_cases H:A = []
   .rw[if_neg (λh=>h H)]at u;have t:¬ 0<=oc A:=λh=>S.1 h H
    by_cases Sj:B.l=s.l
    .rw[if_pos ⟨Y',Sj⟩]at u;subst u;have I:=RI L O X i gU (3,pH B+1);rw[R _ (z gf)]at I;have OH:(B.l:Int)=x.l:=U;simp[m,a,rO];refine kG a t OH ?_;refine Yc (I) ?_;simp
    .rw[if_neg (λh=>Sj h.2)]at u;subst u;have c5:=R _ (C rfl);have OH:¬(B.l:Int)=x.l:=U;simp[m,a,rO];refine kG a t OH ?_;refine gx.st ny ?_;clear c7 z C hM hs qq V Ii S ZO S3 ZP l6 kM Sj OH t Y' Q P;refine gx.e ((0,[]):Int×List Int) (λy=>[(3,.sl 36 (L.map gK)),(4,.i i),(12,.i n),(18,.gh 2 y.2.l 1 0 y.2.l),(19,.i y.1)]) (λy=>[.row 43 0 g.cells,.row 193 0 [.i o,.b di],.row 3 y.2.l (cl f1 y.2)]) (λy=>(0<=y.1/\y.1<=L.l)/\y.2=jw (λc=>ke c i&&decide ((jH c i).1≠2/\(jH c i).2=n)) (cs L) y.1.n/\y.2.l<=y.1.n) (λy=>(L.l-y.1).n) ?_ ?_
     .exact⟨gf,rfl,gf⟩
     rintro⟨k,s⟩ ⟨⟨k0,k1⟩,hs,kM⟩;dsimp only at k0 k1 hs kM ⊢
     by_cases m:k<L.l
     .have a:=O _ (gF k0 m);have c1:=Oi (gt L k) a.1 i;have u9:=λh=>Cw.AS a (i:=i) h
      have sH:gt (cs L) k=(gt L k).c:=by unfold cs;rw[iV k0 (by rw[bb];exact m),iV k0 m,dx]
      have t:jw (λc=>ke c i&&decide ((jH c i).1≠2/\(jH c i).2=n)) (cs L) (k+1).n=if (ke (gt L k).c i&&decide ((jH (gt L k).c i).1≠2/\(jH (gt L k).c i).2=n))=cp then s ++ [k]else s:=by rw[(U:(k+1).n=k.n+1),jw,(U:((k.n:Nat):Int)=k),sH,<-hs]
      have pz:=AN a.1;rw[<-pz]at c1;have jE:(gK (gt L k)).l=36:=Fl.len _;have gP:gN (gK (gt L k))=true:=Fl.cl _;have lj:(gK (gt L k)).take 36=gK (gt L k):=af U;obtain⟨p,hp⟩:∃p,ke (gt L k).c i=p:=⟨_,rfl⟩;rw[hp]at c1 t u9;cases p
      .rw[if_neg gf]at t;simp[m];refine jT jE lj ?_;simp[jE,lj];refine ji.c rfl rfl c1 (by simp[gP]) gf ?_;simp;refine gi ?_;refine LJ.e (k+1,s) ?_;exact⟨U,gU,t.symm,gI⟩
      .obtain⟨em,j0,j1⟩:=u9 rfl
       have nX:gK (gt L k)=D.i (gt L k).c.who::D.i (gt L k).c.lo::D.i (gt L k).c.hi::iu (gt L k).c.es::cl fU (gt L k).c.root:=by rw[pz];unfold Cw.cells dE;rw[em];rfl
       have mU:=a.1.lo;obtain⟨r,F⟩:∃r,jH (gt L k).c i=r:=⟨_,rfl⟩;rw[F,dz]at t;obtain⟨r1,r2⟩:=r;have jY:gt (gt L k).c.es (i-(gt L k).c.lo)=(r1,r2):=F;simp[m];refine jT jE lj ?_;simp[jE,lj];refine ji.c rfl rfl c1 (by simp[gP]) gf ?_;simp[nX,jY];(with_reducible repeat' first|refine Xk ?_<;>try simp[nX,jY]|refine Xs ?_ ?_<;>intro h<;>(try intro h')<;>(try simp[h,nX,jY])<;>try omega|refine Xg ?_|omega)
       .rw[if_neg oh]at t;refine LJ.e (k+1,s) ?_;exact⟨U,gU,t.symm,gI⟩
       .rw[if_pos oh]at t;refine LJ.e (k+1,s ++ [k]) ?_;exact⟨U,gU,t.symm,gO⟩
       .rw[if_neg oh]at t;refine LJ.e (k+1,s) ?_;exact⟨U,gU,t.symm,gI⟩
     .have mE:k=L.l:=by omega
      subst mE;rw[(U:((L.l:Int)).n=L.l),c5]at hs;subst hs;simp
   .rw[if_pos H]at u;subst u;have t:0<=oc A:=S.2 H;have I:=RI L O X i gU (1,oc A+1);rw[R _ (z gf)]at I;simp[m,a,rO];refine jT a t ?_;refine Yc (I) ?_;simp
 .have I:=RI L O X i gU (o,0);rw[R _ (tj rfl)]at I;simp;refine Yc (I) ?_;simp
def x9:Jd->D
 | .v a ls=>.agg [.i a,dI ls,.i 0]
 | .none=>.agg [.i 0,.gp,.i 270]
 | .vY=>.agg [.i 0,.gp,.i 180]
def TO{p:gR->Bool}{L:List Cw}{k:Int}(k0:0<=k)(a:k<L.l):jw p (cs L) (k+1).n=if p (gt L k).c=cp then jw p (cs L) k.n ++ [k]else jw p (cs L) k.n:=by
 have b:gt (cs L) k=(gt L k).c:=by unfold cs;rw[iV k0 (by rw[bb];exact a),iV k0 a,dx]
 rw[(U:(k+1).n=k.n+1),jw,(U:((k.n:Nat):Int)=k),b]
def rN(L:List Cw):(cs L).l=L.l:=by simp[cs]
def Q0{cl:List gR}{n:Nat}(h:0<=kW cl n):kW cl n<n/\lH (sd cl (kW cl n))=true:=by
 rcases Nz cl n with⟨h1,_⟩|⟨h1,a,_⟩
 .omega
 .grind
def XM(g:gv)(hg:gZ g)(l:List Pos)(Q:mY g l)(L:List Cw)(hL:∀x∈L,x.ok)(h8:L.l<=4000000000)(hb:∀x∈L,∀r∈x.c.es,r.2<=4000000000) :
  Wf T 31 [dG g,gT l,.sl 36 (L.map gK)] [] (Is (x9 (nj (iv g l (gy g l)) l.l (iT l.l) (cs L)))):=by
 have c':=Q.len;have cn:=f37 g hg l Q;have rX:=rN L;have M:=@aam (iv g l (gy g l)) l.l (iT l.l) (cs L);have O:=@aao (iv g l (gy g l)) l.l (iT l.l) (cs L);have B:=@aap (iv g l (gy g l)) l.l (iT l.l) (cs L);have o:=@aan (iv g l (gy g l)) l.l (iT l.l) (cs L);have hK:=@We l.l (cs L);have R:=@Q0 (cs L) l.l;have I:=afB g hg l Q L;obtain⟨W,hW⟩:∃W,jw (o3 (iv g l (gy g l)) (cs L) (kW (cs L) l.l)) (cs L) L.l=W:=⟨_,rfl⟩;rw[rX]at M O B o;rw[hW]at o;have I:=λhL h8 i0 K w hb Y=>I hL h8 (kW (cs L) l.l) i0 K w hb Y;rw[hW]at I;obtain⟨J,hJ⟩:∃J,nj (iv g l (gy g l)) l.l (iT l.l) (cs L)=J:=⟨_,rfl⟩;rw[hJ]at M O B o ⊢;obtain⟨nx,mW⟩:∃nx,gy g l=nx:=⟨_,rfl⟩;rw[mW]at cn I;have e3:closed (.sl 36 (L.map gK))=true:=wZ L;refine Yg Kw ?_;simp[Kw];refine Yc (cn) ?_;simp;refine gx.e ((0,[]):Int×List Int) (λy=>[(1,gT l),(2,.sl 36 (L.map gK)),(3,.ptr 0 0 0),(6,.ptr 1 0 0),(7,.sl 1 (nx.map fI)),(9,.gh 2 y.2.l 1 0 y.2.l),(10,.i y.1)]) (λy=>[.row 43 0 g.cells,.row 91 0 [.i 0,.gp,.i 0],.row 3 y.2.l (cl f1 y.2)]) (λy=>(0<=y.1/\y.1<=L.l)/\y.2=jw (λc => !iT l.l c) (cs L) y.1.n/\y.2.l<=y.1.n) (λy=>(L.l-y.1).n) ?_ ?_
 .exact⟨gf,rfl,gf⟩
 rintro⟨k,s⟩ ⟨⟨k0,k1⟩,hs,E⟩;dsimp only at k0 k1 hs E ⊢
 by_cases z:k<L.l
 .have n:=hL _ (gF k0 z);have A:=afx (gt L k) n l.l;have b:=TO (p:=λc => !iT l.l c) k0 z;rw[<-hs]at b;rw[<-AN n]at A;have F:(gK (gt L k)).l=36:=Fl.len _;have gP:gN (gK (gt L k))=true:=Fl.cl _;have C:(gK (gt L k)).take 36=gK (gt L k):=af U;obtain⟨p,w⟩:∃p,iT l.l (gt L k).c=p:=⟨_,rfl⟩;rw[w]at A b;simp[z];refine jT F C ?_;simp[F,C];refine gE.c rfl rfl A (by simp[gP]) gf ?_;cases p
  .simp;refine gi ?_;refine LJ.e (k+1,s ++ [k]) ?_;exact⟨U,gU,b.symm,gO⟩
  .simp;refine gi ?_;refine LJ.e (k+1,s) ?_;exact⟨U,gU,b.symm,gI⟩
 have mE:k=L.l:=U;subst mE;rw[(U:((L.l:Int)).n=L.l)]at hs E;rw[<-hs]at M O B o
 by_cases t:s = []
 rotate_left
 .have H:=M t;subst H;have v:0<s.l:=ao.2 t;simp;refine gi ?_;simp[x9]
 have CS:∀x∈L,iT l.l x.c=true:=λx n=>by
  rw[t]at hs;have:=hs.symm;rw[<-rX,vo]at this
  cases e:iT l.l x.c with
  | true=>rfl
  | false=>exact absurd this (Dm.2 ⟨x.c,au.2 ⟨x,n,rfl⟩,by simp[e]⟩)
 have S:∀x∈L,x.full:=λx n=>⟨hL x n,λ_=>by
  have:=CS x n;unfold iT at this;rw[ai]at this
  exact(JY this.1).2.2⟩
 have Tn:∀j:Int,0<=j->j<l.l->∀r∈sd (cs L) j,r.2<=4000000000:=λj _ _ r V=>by obtain⟨c,Q,h1,rfl⟩:=wF.1 V;obtain⟨x,n,rfl⟩:=au.1 Q;obtain⟨_,j0,j1⟩:=Cw.AS (S x n) h1;exact hb x n _ (gF U j1)
 have YZ:=@O t;have Y4:=@B t;have Y5:=o t;clear M O B o hs E CS;subst t;simp;refine gi ?_;refine gx.e ((0,((-1),0)):Int×(Int×Int)) (λy=>[(1,gT l),(2,.sl 36 (L.map gK)),(3,.ptr 0 0 0),(6,.ptr 1 0 0),(7,.sl 1 (nx.map fI)),(9,.gh 2 0 1 0 0),(11,.i y.2.1),(12,.i y.2.2),(13,.i y.1)]) (λy=>[.row 43 0 g.cells,.row 91 0 [.i 0,.gp,.i 0],.row 3 0 []]) (λy=>(0<=y.1/\y.1<=l.l)/\y.2=uR (cs L) y.1.n/\∀j:Int,0<=j->j<y.1->sd (cs L) j≠[]) (λy=>(l.l-y.1).n) ?_ ?_
 .exact⟨gf,rfl,λj j0 j1=>U⟩
 rintro⟨i,a,m⟩ ⟨⟨i0,K⟩,Z,u⟩;dsimp only at i0 K Z u ⊢
 by_cases hi:i<l.l
 .have G:=HU L S h8 i gU
  have b:uR (cs L) (i+1).n=if lH (sd (cs L) i)=cp/\(a<0\/sh (sd (cs L) i)<m)then(i,sh (sd (cs L) i))else(a,m):=by rw[(U:(i+1).n=i.n+1),uR,(U:((i.n:Nat):Int)=i),<-Z]
  by_cases jB:sd (cs L) i = []
  .have H:=YZ i0 hi jB;subst H;rw[jB]at G;simp[hi];refine gi ?_;refine Yc (G) ?_;simp;refine gi ?_;simp[x9]
  .have v:((sd (cs L) i).l:Int)≠0:=λe=>jB (aC.1 U);have N:∀j:Int,0<=j->j<i+1->sd (cs L) j≠[]:=λj j0 j1=>jZ;obtain⟨q,X⟩:∃q:Nat,(sd (cs L) i).l=q:=⟨_,rfl⟩;obtain⟨d,Y⟩:∃d,lH (sd (cs L) i)=d:=⟨_,rfl⟩;obtain⟨e,he⟩:∃e,sh (sd (cs L) i)=e:=⟨_,rfl⟩;obtain⟨f,hf⟩:∃f,f0 (sd (cs L) i)=f:=⟨_,rfl⟩;rw[X,Y,he,hf]at G;rw[Y,he]at b;rw[X]at v;obtain⟨f1,f2⟩:=f;dsimp only at G;have P:q≠0:=U;cases d
   .rw[if_neg gf]at b;simp[hi];refine gi ?_;refine Yc (G) ?_;simp;refine jT v P ?_;refine LJ.e (i+1,a,m) ?_;exact⟨U,gU,b.symm,N⟩
   .by_cases Zr:a<0\/e<m
    .rw[if_pos ⟨rfl,Zr⟩]at b;simp[hi];refine gi ?_;refine Yc (G) ?_;simp;(with_reducible repeat' first|refine Xk ?_<;>try simp[v,P]|refine Xs ?_ ?_<;>intro h<;>(try intro h')<;>(try simp[h,v,P])<;>try omega|refine Xg ?_|omega)
     all_goals first|(exfalso;omega)|skip
     all_goals refine LJ.i (i+1,i,e) gf gf rfl rfl ⟨U,gU,b.symm,N⟩
    .rw[if_neg (λh=>Zr h.2)]at b;simp[hi];refine gi ?_;refine Yc (G) ?_;simp;(with_reducible repeat' first|refine Xk ?_<;>try simp[v,P]|refine Xs ?_ ?_<;>intro h<;>(try intro h')<;>(try simp[h,v,P])<;>try omega|refine Xg ?_|omega)
     all_goals first|(exfalso;omega)|skip
     all_goals refine LJ.i (i+1,a,m) gf gf rfl rfl ⟨U,gU,b.symm,N⟩
 have iS:i=l.l:=U;subst iS;rw[(U:((l.l:Int)).n=l.l)]at Z;have B:=@Y4 u;have o:=Y5 u;clear YZ Y4 Y5 u i0 K hi;simp;refine gi ?_;refine gx.e (0:Int) (λy=>[(1,gT l),(2,.sl 36 (L.map gK)),(3,.ptr 0 0 0),(6,.ptr 1 0 0),(7,.sl 1 (nx.map fI)),(9,.gh 2 0 1 0 0),(11,.i a),(15,.i y)]) (λy=>[.row 43 0 g.cells,.row 91 0 [.i 0,.gp,.i 0],.row 3 0 []]) (λy=>(0<=y/\y<=l.l)/\∀j:Int,0<=j->j<y->imp (cs L) j = []) (λy=>(l.l-y).n) ?_ ?_
 .grind
 rintro i ⟨⟨i0,K⟩,u⟩;dsimp only at i0 K u ⊢
 by_cases hi:i<l.l
 .simp[hi];refine gi ?_;refine gx.e ((0,[]):Int×List Int) (λy=>[(1,gT l),(2,.sl 36 (L.map gK)),(3,.ptr 0 0 0),(6,.ptr 1 0 0),(7,.sl 1 (nx.map fI)),(9,.gh 2 y.2.l 1 0 y.2.l),(11,.i a),(15,.i i),(16,.i y.1)]) (λy=>[.row 43 0 g.cells,.row 91 0 [.i 0,.gp,.i 0],.row 3 y.2.l (cl f1 y.2)]) (λy=>(0<=y.1/\y.1<=L.l)/\y.2=jw (λc=>ke c i && !lV (jH c i)) (cs L) y.1.n/\y.2.l<=y.1.n) (λy=>(L.l-y.1).n) ?_ ?_
  .exact⟨gf,rfl,gf⟩
  rintro⟨k,s⟩ ⟨⟨k0,k1⟩,hs,E⟩;dsimp only at k0 k1 hs E ⊢
  by_cases z:k<L.l
  .have n:=S _ (gF k0 z);have A:=Oi (gt L k) n.1 i;have u9:=λh=>Cw.AS n (i:=i) h;have b:=TO (p:=λc=>ke c i && !lV (jH c i)) k0 z;rw[<-hs]at b;have pz:=AN n.1;rw[<-pz]at A;have F:(gK (gt L k)).l=36:=Fl.len _;have gP:gN (gK (gt L k))=true:=Fl.cl _;have C:(gK (gt L k)).take 36=gK (gt L k):=af U;obtain⟨p,w⟩:∃p,ke (gt L k).c i=p:=⟨_,rfl⟩;rw[w]at A b u9;cases p
   .rw[if_neg gf]at b;simp[z];refine jT F C ?_;simp[F,C];refine ji.c rfl rfl A (by simp[gP]) gf ?_;simp;refine gi ?_;refine LJ.e (k+1,s) ?_;exact⟨U,gU,b.symm,gI⟩
   .obtain⟨em,j0,j1⟩:=u9 rfl
    have nX:gK (gt L k)=D.i (gt L k).c.who::D.i (gt L k).c.lo::D.i (gt L k).c.hi::iu (gt L k).c.es::cl fU (gt L k).c.root:=by rw[pz];unfold Cw.cells dE;rw[em];rfl
    have mU:=n.1.lo;obtain⟨r,V⟩:∃r,jH (gt L k).c i=r:=⟨_,rfl⟩;rw[V,dz]at b;have c2:=afA r;obtain⟨q,X⟩:∃q,lV r=q:=⟨_,rfl⟩;rw[X]at c2 b;obtain⟨r1,r2⟩:=r;have jY:gt (gt L k).c.es (i-(gt L k).c.lo)=(r1,r2):=V;dsimp only at c2;simp[z];refine jT F C ?_;simp[F,C];refine ji.c rfl rfl A (by simp[gP]) gf ?_;simp[nX,jY];refine jT nX jY ?_;refine ji.c rfl rfl c2 gf gf ?_;cases q
    .rw[if_pos gf]at b;simp;refine gi ?_;refine LJ.e (k+1,s ++ [k]) ?_;exact⟨U,gU,b.symm,gO⟩
    .rw[if_neg gf]at b;simp;refine gi ?_;refine LJ.e (k+1,s) ?_;exact⟨U,gU,b.symm,gI⟩
  have mE:k=L.l:=U;subst mE;rw[(U:((L.l:Int)).n=L.l)]at hs E;have zD:s=imp (cs L) i:=by rw[hs];unfold imp;rw[rX]
  by_cases t:s = []
  .have N:∀j:Int,0<=j->j<i+1->imp (cs L) j = []:=λj j0 j1=>by grind
   clear hs zD E;subst t;simp;refine gi ?_;refine LJ.e (i+1) ?_;exact⟨U,gU,N⟩
  .have H:=B i0 hi (by rw[<-zD];exact t) u;rw[<-zD]at H;subst H;have v:0<s.l:=ao.2 t;simp;refine gi ?_;simp[x9]
 have iS:i=l.l:=U;subst iS;have w:∀j:Int,0<=j->j<l.l->∀r∈sd (cs L) j,lV r=true:=λj j0 j1=>imp_nil (u j j0 j1);have o:=o u;have SU:=hK w l.l (Nat.le_refl _);rw[<-Z]at SU;dsimp only at SU;have b':a=kW (cs L) l.l:=SU.1;rw[<-b']at o R I
 by_cases h0:a<0
 .rw[if_pos h0]at o;subst o;simp;refine gi ?_;simp[x9]
 .rw[if_neg h0]at o;subst o;have R:=R U;have cd:=I S h8 U R.1 w Tn R.2;simp[h0];refine gi ?_;refine Yc (cd) ?_;simp;refine gi ?_;simp[x9]
end Go.Proofs.YtmehofoficaelaaGreatDoor
namespace Go.Proofs.YtmehofoficaelaaGreatDoor
open Go Go.AL Classical
abbrev kL:=List (gj×List Int)
def o9(r:gj)(k:Int):kL->kL
 | []=>[(r,[k])]
 | (q,x)::t=>if q=r then(q,x ++ [k])::t else(q,x)::o9 r k t
def qh(p:gR->Bool)(s:gR->gj)(cl:List gR):Nat->kL
 | 0=>[]
 | n+1=>if p (gt cl (n:Int))=cp then o9 (s (gt cl (n:Int))) n (qh p s cl n)else qh p s cl n
theorem Bq{p:gR->Bool}{cl:List gR}{k:Int}:∀ {n:Nat},k∈jw p cl n↔(0<=k/\k<n)/\p (gt cl k)=cp
 | 0=>by simp[jw];omega
 | n+1=>by
  rw[jw]
  by_cases h:p (gt cl (n:Int))=cp
  .rw[if_pos h,aj,Bq,dr];constructor
   .grind
   .grind
  .rw[if_neg h,Bq];constructor
   .grind
   .grind
theorem Dp(p:gR->Bool)(cl:List gR):∀n:Nat,(jw p cl n).Pairwise (· < ·)
 | 0=>.nil
 | n+1=>by
  rw[jw]
  by_cases h:p (gt cl (n:Int))=cp
  .rw[if_pos h,bR]
   exact⟨Dp p cl n,List.pairwise_singleton _ _,λa d b c=>by
    rw[dr]at c;have:=(Bq.1 d).1
    omega⟩
  .rw[if_neg h];exact Dp p cl n
def vt(r:gj):kL->List Int
 | []=>[]
 | (q,x)::t=>if q=r then x else vt r t
theorem Ui{r q:gj}{k:Int}:∀ {G:kL},q∈(o9 r k G).map (·.1)↔q=r\/q∈G.map (·.1)
 | []=>by simp[o9]
 | (a,x)::t=>by
  rw[o9]
  by_cases h:a=r
  .grind
  .rw[if_neg h,bs,ay,Ui,bs,ay];constructor
   .grind
   .grind
theorem YJ{r:gj}{k:Int}:∀ {G:kL},(G.map (·.1)).Nodup->((o9 r k G).map (·.1)).Nodup
 | [],_=>by simp[o9]
 | (a,x)::t,h=>by
  rw[bs,cW]at h;rw[o9]
  by_cases e:a=r
  .grind
  .rw[if_neg e,bs,cW];refine⟨λb=>?_,YJ h.2⟩;rcases Ui.1 b with h1|h1
   .exact e h1
   .exact h.1 h1
theorem aaX{r q:gj}{k:Int}:∀ {G:kL},vt q (o9 r k G)=if q=r then vt q G ++ [k]else vt q G
 | []=>by
  by_cases h:q=r
  .subst h;simp[o9,vt]
  .rw[if_neg h];simp[o9,vt,cH h]
 | (a,x)::t=>by
  rw[o9]
  by_cases e:a=r
  .subst e;rw[if_pos rfl]
   by_cases h:q=a
   .subst h;simp[vt]
   .rw[if_neg h];simp[vt,cH h]
  .rw[if_neg e,vt,vt,aaX]
   by_cases h:a=q
   .grind
   .grind
theorem aaY{q:gj}{x:List Int}:∀ {G:kL},(G.map (·.1)).Nodup->((q,x)∈G↔q∈G.map (·.1)/\x=vt q G)
 | [],_=>gf
 | (a,y)::t,h=>by
  rw[bs,cW]at h;rw[ay,aaY h.2,bs,ay,vt]
  by_cases e:a=q
  .grind
  .grind
section
variable{p:gR->Bool}{s:gR->gj}{cl:List gR}
theorem Ib:∀n:Nat,((qh p s cl n).map (·.1)).Nodup
 | 0=>.nil
 | n+1=>by
  rw[qh];split
  .exact YJ (Ib n)
  .exact Ib n
theorem YO{q:gj}:∀n:Nat,vt q (qh p s cl n)=jw (λc=>p c&&decide (s c=q)) cl n
 | 0=>rfl
 | n+1=>by
  rw[qh,jw,<-YO n]
  by_cases h:p (gt cl (n:Int))=cp
  .rw[if_pos h,aaX]
   by_cases e:q=s (gt cl (n:Int))
   .grind
   .grind
  .grind
theorem OA{q:gj}:∀ {n:Nat},q∈(qh p s cl n).map (·.1)↔∃k:Int,(0<=k/\k<n)/\p (gt cl k)=cp/\s (gt cl k)=q
 | 0=>by
  constructor
  .intro h;simp[qh]at h
  .grind
 | n+1=>by
  rw[qh]
  by_cases h:p (gt cl (n:Int))=cp
  .rw[if_pos h,Ui,OA];constructor
   .grind
   .grind
  .rw[if_neg h,OA];constructor
   .grind
   .grind
theorem R3{q:gj}{x:List Int}{n:Nat}(h:(q,x)∈qh p s cl n):x=jw (λc=>p c&&decide (s c=q)) cl n/\x≠[]:=by
 have h1:=(aaY (Ib n)).1 h;rw[YO]at h1;refine⟨h1.2,λe=>?_⟩;obtain⟨k,d,b,a⟩:=OA.1 h1.1;have:k∈x:=by rw[h1.2];exact Bq.2 ⟨d,by simp[b,a]⟩
 rw[e]at this;cases this
end
def gY(cl:List gR)(i:Int):kL:=qh (λc=>ke c i) (λc=>jH c i) cl cl.l
def ze{cl:List gR}{i:Int}{q:gj}:q∈(gY cl i).map (·.1)↔q∈sd cl i:=by
 unfold gY;rw[OA,wF];constructor
 .rintro⟨k,h1,b,a⟩;exact⟨_,gF h1.1 h1.2,b,a⟩
 .rintro⟨c,h1,b,a⟩;obtain⟨k,k0,k1,rfl⟩:=xJ.1 h1;exact⟨k,⟨k0,k1⟩,b,a⟩
def OC{cl:List gR}{i:Int}:(gY cl i).l=0↔sd cl i = []:=by
 rw[aC];constructor
 .intro h;refine bq.2 λq b=>?_;have:=ze.2 b;rw[h]at this;cases this
 .intro h
  cases e:gY cl i with
  | nil=>rfl
  | cons a t=>
   have:a.1∈sd cl i:=ze.1 (by rw[e];simp);rw[h]at this;cases this
def Ic{cl:List gR}{i:Int}:1<(gY cl i).l↔lH (sd cl i)=true:=by
 have f:((gY cl i).map (·.1)).Nodup:=Ib _;constructor
 .intro h
  cases c:lH (sd cl i)with
  | true=>rfl
  | false=>
   have c:=Xi.1 c
   match e:gY cl i,h with
   | a::b::t,_=>
    rw[e]at f;have k:a.1∈sd cl i:=ze.1 (by rw[e];simp);have j:b.1∈sd cl i:=ze.1 (by rw[e];simp);simp only[bs,cW,ay,not_or]at f;exact absurd ((c _ k).trans (c _ j).symm) f.1.1
 .intro h;unfold lH at h;rw[List.any_eq_true]at h;obtain⟨r,d,h1⟩:=h;have h1:r≠l5 (sd cl i):=by simpa using h1
  have g:l5 (sd cl i)∈sd cl i:=AR λe=>by rw[e]at d;cases d
  have a:=ze.2 d;have b:=ze.2 g
  match e:gY cl i with
  | []=>rw[e]at a;cases a
  | [x]=>
   rw[e]at a b;simp only[bs,List.map_nil,dr]at a b;exact absurd (a.trans b.symm) h1
  | x::y::t=>simp
def YP{cl:List gR}{i:Int}{x:gj×List Int}(h:gY cl i = [x]):x.1=l5 (sd cl i):=by
 have h1:x.1∈sd cl i:=ze.1 (by rw[h];simp)
 have a:lH (sd cl i)=false:=by
  cases e:lH (sd cl i)with
  | false=>rfl
  | true=>
   have:=Ic.2 e;rw[h]at this;simp at this
 exact Xi.1 a _ h1
def aiT{a b:List gj}(h:∀r,r∈a↔r∈b):oB a=oB b:=by
 unfold oB;have c:∀n,n∈(a.filter λr=>decide (r.1≠2)).map (λr=>r.2)↔n∈(b.filter λr=>decide (r.1≠2)).map (λr=>r.2):=λn=>oh;obtain⟨A,g⟩:∃A,(a.filter λr=>decide (r.1≠2)).map (λr=>r.2)=A:=⟨_,rfl⟩;obtain⟨B,f⟩:∃B,(b.filter λr=>decide (r.1≠2)).map (λr=>r.2)=B:=⟨_,rfl⟩;rw[g,f]at c ⊢
 by_cases e:A = []
 .have:B = []:=bq.2 λn d=>by grind
  rw[e,this]
 .have i:B≠[]:=λq=>e (bq.2 λn d=>jZ);exact Int.le_antisymm (FU ((c _).2 (xK i))) (FU ((c _).1 (xK e)))
theorem DV:∀ {a b:List Int},a.Pairwise (· < ·)->b.Pairwise (· < ·)->(∀k,k∈a↔k∈b)->a=b
 | [],[],_,_,_=>rfl
 | [],y::t,_,_,h=>by have:=(h y).2 gf;cases this
 | x::t,[],_,_,h=>by have:=(h x).1 gf;cases this
 | x::s,y::t,ha,hb,h=>by
  rw[aW]at ha hb
  have e:x=y:=by
   rcases ay.1 ((h x).1 gf)with e|e
   .exact e
   .rcases ay.1 ((h y).2 gf)with c|c
    .exact c.symm
    .grind
  subst e;congr 1;refine DV ha.2 hb.2 λk=>?_;have:=h k;rw[ay,ay]at this;constructor
  .grind
  .grind
def KS:KK:=.ints [.i64,.i64]
def ma(r:gj):Value:=.agg #[.int .i64 r.1,.int .i64 r.2]
def oI(v:Nat)(x:List Int):D:=.gh v (x.l-1) 1 0 x.l
def sU(x:List Int):Ob:=.row 3 (x.l-1) (cl f1 x)
def jo(Q:Nat->Nat):Nat->kL->List (Value×D)
 | _,[]=>[]
 | i,(q,x)::t=>(ma q,oI (Q i) x)::jo Q (i+1) t
def pa(r:gj):kL->Option (Nat×List Int)
 | []=>none
 | (q,x)::t=>if q=r then b4 (0,x)else(pa r t).map λp=>(p.1+1,p.2)
def aaC(a b:gj):oY (ma a) (ma b)=decide (a=b):=by
 obtain⟨f,e⟩:=a;obtain⟨d,b2⟩:=b;unfold ma oY
 by_cases h1:f=d
 .by_cases c:e=b2
  .simp_all
  .simp[c]
 .simp[h1]
theorem Ud(Q:Nat->Nat)(r:gj):∀(G:kL) (i j:Nat),zP (ma r) (jo Q i G) j=(pa r G).map λp=>(j+p.1,oI (Q (i+p.1)) p.2)
 | [],_,_=>rfl
 | (q,x)::t,i,j=>by
  rw[jo,zP,aaC,pa]
  by_cases h:q=r
  .subst h;simp
  .rw[if_neg (by simpa using cH h),if_neg h,Ud Q r t (i+1) (j+1)]
   cases pa r t with
   | none=>rfl
   | some p=>simp[bg,dB 1]
theorem Ug(Q:Nat->Nat)(r:gj)(d:D):∀(G:kL) (i:Nat),np (jo Q i G) (ma r) d=match pa r G with
  | some p=>(jo Q i G).set p.1 (ma r,d)
  | none=>jo Q i G ++ [(ma r,d)]
 | [],_=>rfl
 | (q,x)::t,i=>by
  rw[jo,np,aaC,pa]
  by_cases h:q=r
  .subst h;simp
  .rw[if_neg (by simpa using cH h),if_neg h,Ug Q r d t (i+1)]
   cases pa r t with
   | none=>rfl
   | some p=>simp
theorem AT{r:gj}{k:Int}:∀ {G:kL} {t:Nat} {x:List Int},pa r G=b4 (t,x)->G[t]? = b4 (r,x)/\o9 r k G=G.set t (r,x ++ [k])
 | [],_,_,h=>by cases h
 | (q,y)::g,t,x,h=>by
  rw[pa]at h;rw[o9]
  by_cases e:q=r
  .grind
  .rw[if_neg e]at h ⊢
   cases a:pa r g with
   | none=>rw[a]at h;cases h
   | some p=>
    rw[a]at h;cases h;obtain⟨h1,b⟩:=AT (k:=k) (t:=p.1) (x:=p.2) a;exact⟨by simpa using h1,by rw[b];simp⟩
theorem YK{r:gj}{k:Int}:∀ {G:kL},pa r G=none->o9 r k G=G ++ [(r,[k])]
 | [],_=>rfl
 | (q,y)::g,h=>by
  rw[pa]at h;rw[o9]
  by_cases e:q=r
  .grind
  .rw[if_neg e]at h ⊢
   cases a:pa r g with
   | none=>rw[YK a];rfl
   | some p=>rw[a]at h;cases h
@[simp] theorem Cr(Q:Nat->Nat):∀(G:kL) (i:Nat),(jo Q i G).l=G.l
 | [],_=>rfl
 | (q,x)::t,i=>by rw[jo,aL,Cr Q t,aL]
theorem w9(Q:Nat->Nat):∀(G:kL) (i t:Nat),(jo Q i G)[t]? = (G[t]?).map λx=>(ma x.1,oI (Q (i+t)) x.2)
 | [],_,_=>rfl
 | (q,x)::g,i,0=>rfl
 | (q,x)::g,i,t+1=>by rw[jo,dy,dy,w9 Q g (i+1) t,bg,dB 1]
theorem XD{Q Q':Nat->Nat}:∀ {G:kL} {i:Nat},(∀t,t<G.l->Q (i+t)=Q' (i+t))->jo Q i G=jo Q' i G
 | [],_,_=>rfl
 | (q,x)::g,i,h=>by
  have h0:=h 0 gf;rw[cJ]at h0
  rw[jo,jo,h0,XD (Q:=Q) (Q':=Q') λt a=>by
   have:=h (t+1) gO;rw[(U:i+(t+1)=i+1+t)]at this
   exact this]
theorem XE(Q:Nat->Nat){r:gj}{y:List Int}:∀(G:kL) (i t:Nat),t<G.l->jo Q i (G.set t (r,y))=(jo Q i G).set t (ma r,oI (Q (i+t)) y)
 | [],_,_,h=>by simp at h
 | (q,x)::g,i,0,_=>rfl
 | (q,x)::g,i,t+1,h=>by rw[ek,jo,jo,ek,XE Q g (i+1) t (by simpa using h),(U:i+1+t=i+(t+1))]
theorem XF(Q:Nat->Nat){r:gj}{y:List Int}:∀(G:kL) (i:Nat),jo Q i (G ++ [(r,y)])=jo Q i G ++ [(ma r,oI (Q (i+G.l)) y)]
 | [],_=>rfl
 | (q,x)::g,i=>by rw[cy,jo,jo,XF Q g (i+1),cy,aL,(U:i+1+g.l=i+(g.l+1))]
structure na(H:gg)(ck sr n:Nat)(M:Nat->kL)(ow:Nat->Nat×Nat×Nat)(P:Nat->Nat)(Q:Nat->Nat->Nat):Prop where
 fc:ow ck=(0,0,0)
 fs:ow sr=(1,0,0)
 row:H[sr]? = b4 (.row 170 0 ((en n).map λj=>D.gM (P j)))
 mp:∀j,j<n->H[P j]? = b4 (.map KS (jo (Q j) 0 (M j)))/\ow (P j)=(2,j,0)
 ls:∀j,j<n->∀t x,(M j)[t]? = b4 x->H[Q j t]? = b4 (sU x.2)/\ow (Q j t)=(3,j,t)
section
variable{H H':gg}{ck sr n:Nat}{M:Nat->kL}{ow:Nat->Nat×Nat×Nat}{P:Nat->Nat}{Q:Nat->Nat->Nat}
theorem na.mono(h:na H ck sr n M ow P Q)(b:∀v o,H[v]? = b4 o->v≠ck->H'[v]? = b4 o):na H' ck sr n M ow P Q:=by
 have ne:∀v,ow v≠(0,0,0)->v≠ck:=λv f e=>f (by rw[e];exact h.fc);refine⟨h.fc,h.fs,b _ _ h.row (ne _ (by rw[h.fs];simp)),λj c=>?_,λj c t x d=>?_⟩
 .obtain⟨h1,a⟩:=h.mp j c;exact⟨b _ _ h1 (ne _ (by rw[a];simp)),a⟩
 .obtain⟨h1,a⟩:=h.ls j c t x d;exact⟨b _ _ h1 (ne _ (by rw[a];simp)),a⟩
def xR(M:Nat->kL)(j:Nat)(G:kL):Nat->kL:=λi=>if i=j then G else M i
theorem na.old(h:na H ck sr n M ow P Q){j t:Nat}{r:gj}{x:List Int}{k:Int}(g:j<n)(z:pa r (M j)=b4 (t,x))
  (h1:H'[P j]? = b4 (.map KS ((jo (Q j) 0 (M j)).set t (ma r,oI (Q j t) (x ++ [k]))))) (A:H'[Q j t]? = b4 (sU (x ++ [k])))
  (f:∀v o,H[v]? = b4 o->v≠P j->v≠Q j t->ow v≠(0,0,0)->H'[v]? = b4 o):na H' ck sr n (xR M j (o9 r k (M j))) ow P Q:=by
 obtain⟨m,l⟩:=AT (k:=k) z;have q:t<(M j).l:=(ae.1 m).1;have lt:=(h.ls j g t _ m).2;have d:=(h.mp j g).2;have ne:∀v w,ow v≠ow w->v≠w:=λv w s e=>s (by rw[e]);refine⟨h.fc,h.fs,f _ _ h.row (ne _ _ (by rw[h.fs,d];simp)) (ne _ _ (by rw[h.fs,lt];simp)) (by rw[h.fs];simp),λi hi=>?_,λi hi u y b=>?_⟩
 .obtain⟨c,a⟩:=h.mp i hi;refine⟨?_,a⟩;unfold xR
  by_cases e:i=j
  .subst e;rw[if_pos rfl,h1,l,XE _ _ _ _ q,aV]
  .grind
 .unfold xR at b
  by_cases e:i=j
  .subst e;rw[if_pos rfl,l,bX]at b
   by_cases p:t=u
   .grind
   .rw[if_neg p]at b;obtain⟨c,a⟩:=h.ls i hi u y b;exact⟨f _ _ c (ne _ _ (by rw[a,d];simp)) (ne _ _ (by rw[a,lt];simp[cH p])) (by rw[a];simp),a⟩
  .rw[if_neg e]at b;obtain⟨c,a⟩:=h.ls i hi u y b;exact⟨f _ _ c (ne _ _ (by rw[a,d];simp)) (ne _ _ (by rw[a,lt];simp[e])) (by rw[a];simp),a⟩
theorem na.new(h:na H ck sr n M ow P Q){j v:Nat}{r:gj}{k:Int}(z:j<n)(t:pa r (M j)=none)(C:ck<v)(q:H.l<=v)
  (h1:H'[P j]? = b4 (.map KS (jo (Q j) 0 (M j) ++ [(ma r,oI v [k])]))) (E:H'[v]? = b4 (sU [k]))
  (f:∀w o,H[w]? = b4 o->w≠P j->ow w≠(0,0,0)->H'[w]? = b4 o) :
  ∃b Q',na H' ck sr n (xR M j (o9 r k (M j))) b P Q'/\∀w,w≠v->b w=ow w:=by
 have B:=YK (k:=k) t;have d:=(h.mp j z).2;have ne:∀v w,ow v≠ow w->v≠w:=λv w q e=>q (by rw[e]);have lv:∀w o,H[w]? = b4 o->w≠v:=λw o p=>jZ
 let b:Nat->Nat×Nat×Nat:=λw=>if w=v then(3,j,(M j).l)else ow w
 let Q':Nat->Nat->Nat:=λi u=>if i=j/\u=(M j).l then v else Q i u
 have hP:∀i,i<n->P i≠v:=λi hi=>lv _ _ (h.mp i hi).1;have A:∀i u x,i<n->(M i)[u]? = b4 x->Q i u≠v:=λi u x hi s=>lv _ _ (h.ls i hi u x s).1;have hs:sr≠v:=lv _ _ h.row;refine⟨b,Q',⟨?_,?_,f _ _ h.row (ne _ _ (by rw[h.fs,d];simp)) (by rw[h.fs];simp),λi hi=>?_,λi hi u y c=>?_⟩,λw p=>if_neg p⟩
 .show(if ck=v then _ else _)=_;rw[if_neg U];exact h.fc
 .show(if sr=v then _ else _)=_;rw[if_neg hs];exact h.fs
 .obtain⟨m,a⟩:=h.mp i hi;refine⟨?_,?_⟩
  .unfold xR
   by_cases e:i=j
   .subst e;rw[if_pos rfl,h1,B,XF,aV];have l:jo (Q' i) 0 (M i)=jo (Q i) 0 (M i):=XD λu D=>jZ;have g:Q' i (M i).l=v:=jZ;rw[l,g]
   .rw[if_neg e];have l:Q' i=Q i:=funext λu=>jZ;rw[l];exact f _ _ m (ne _ _ (by rw[a,d];simp[e])) (by rw[a];simp)
  .grind
 .unfold xR at c
  by_cases e:i=j/\u=(M j).l
  .grind
  .have c:(M i)[u]? = b4 y:=by grind
   obtain⟨m,a⟩:=h.ls i hi u y c;have g:Q' i u=Q i u:=jZ;rw[g];refine⟨f _ _ m (ne _ _ (by rw[a,d];simp)) (by rw[a];simp),?_⟩;show(if Q i u=v then _ else _)=_;rw[if_neg (A i u y hi c)];exact a
end
structure uO(cl:List gR)(i:Int)(w:gj->Bool)(seen:List Nat)(out:List Int):Prop where
 nd:seen.Nodup
 lt:∀t∈seen,t<(gY cl i).l
 P2:out.Nodup
 mem:∀k,k∈out↔∃t∈seen,∃x,(gY cl i)[t]? = b4 x/\w x.1=cp/\k∈x.2
section
variable{cl:List gR}{i:Int}{w:gj->Bool}{seen:List Nat}{out:List Int}
theorem OB{t:Nat}{x:gj×List Int}(h:(gY cl i)[t]? = b4 x):x.2=jw (λc=>ke c i&&decide (jH c i=x.1)) cl cl.l/\x.2≠[]:=
 R3 (List.mem_of_getElem? h)
theorem Ie{t:Nat}{x:gj×List Int}{k:Int}(h:(gY cl i)[t]? = b4 x):k∈x.2↔(0<=k/\k<cl.l)/\ke (gt cl k) i=cp/\jH (gt cl k) i=x.1:=by rw[(OB h).1,Bq];simp
theorem agZ{t u:Nat}{x y:gj×List Int}(h:(gY cl i)[t]? = b4 x)(d:(gY cl i)[u]? = b4 y)(e:x.1=y.1):t=u:=by
 have c:((gY cl i).map (·.1)).Nodup:=Ib _;have a:((gY cl i).map (·.1))[t]? = b4 x.1:=by rw[ax,h];rfl
 have b:((gY cl i).map (·.1))[u]? = b4 x.1:=by rw[ax,d,e];rfl
 obtain⟨p,a⟩:=ae.1 a;obtain⟨q,b⟩:=ae.1 b;exact(List.getElem_inj c).1 (a.trans b.symm)
theorem uO.start:uO cl i w [] []:=⟨.nil,λ_ h=>(by cases h),.nil,λk=>gf⟩
theorem JQ{n t:Nat}(nd:seen.Nodup)(lt:∀t∈seen,t<n)(d:t<n)(e:t ∉ seen):(seen ++ [t]).Nodup/\(∀u∈seen ++ [t],u<n)/\(seen ++ [t]).l<=n:=by have h1:(seen ++ [t]).Nodup:=jZ;have a:∀u∈seen ++ [t],u<n:=λu c=>jZ;have:=Jt h1 (m:=en n) λx b=>br.2 (a x b);rw[List.length_range]at this;exact⟨h1,a,this⟩
theorem uO.step(h:uO cl i w seen out){t:Nat}{x:gj×List Int}(j:(gY cl i)[t]? = b4 x)(l:t ∉ seen):uO cl i w (seen ++ [t]) (if w x.1=cp then out++x.2 else out):=by
 have m:=(ae.1 j).1;obtain⟨h1,d,_⟩:=JQ h.nd h.lt m l
 have n:∀k,k∈(if w x.1=cp then out++x.2 else out)↔∃u∈seen ++ [t],∃y,(gY cl i)[u]? = b4 y/\w y.1=cp/\k∈y.2:=λk=>by
  constructor
  .intro g
   by_cases f:w x.1=cp
   .rw[if_pos f,aj,h.mem]at g;rcases g with⟨u,c,y,h1,d⟩|g
    .grind
    .grind
   .rw[if_neg f,h.mem]at g;obtain⟨u,c,y,h1,d⟩:=g;exact⟨u,bK _ c,y,h1,d⟩
  .rintro⟨u,c,y,h1,d,q⟩;rcases aj.1 c with c|c
   .have:k∈out:=(h.mem k).2 ⟨u,c,y,h1,d,q⟩;split
    .grind
    .exact this
   .grind
 refine⟨h1,d,?_,n⟩
 by_cases f:w x.1=cp
 .rw[if_pos f,cZ];refine⟨h.P2,?_,λa p b o e=>?_⟩
  .rw[(OB j).1];exact(Dp _ _ _).imp λh e=>U
  .subst e;obtain⟨u,c,y,q1,q2,q3⟩:=(h.mem a).1 p;have s:=((Ie j).1 o).2.2;have r:=((Ie q1).1 q3).2.2;have:=agZ j q1 (s.symm.trans r);rw[this]at l;exact l c
 .rw[if_neg f];exact h.P2
theorem uO.bnd(h:uO cl i w seen out):∀k∈out,0<=k/\k<cl.l:=λk a=>by obtain⟨t,_,x,h1,_,b⟩:=(h.mem k).1 a;exact((Ie h1).1 b).1
theorem uO.len(h:uO cl i w seen out):out.l<=cl.l:=zQ _ _ h.P2 h.bnd
theorem uO.done(h:uO cl i w seen out)(n:∀t,t<(gY cl i).l->t∈seen):out.mergeSort (λx y=>decide (x<=y))=jw (λc=>ke c i&&w (jH c i)) cl cl.l:=by
 have g:=List.mergeSort_perm out (λx y=>decide (x<=y));have j:(out.mergeSort (λx y=>decide (x<=y))).Nodup:=g.nodup_iff.2 h.P2
 have hs:(out.mergeSort (λx y=>decide (x<=y))).Pairwise λx y=>decide (x<=y)=true:=
  fF (λa b c h1 d=>by simp only[decide_eq_true_eq]at h1 d ⊢;omega) (λa b=>by simp only[b9,decide_eq_true_eq];omega) out
 refine DV ((hs.and j).imp λ⟨h1,d⟩=>by simp only[decide_eq_true_eq]at h1;omega) (Dp _ _ _) λk=>?_;rw[g.mem_iff,h.mem,Bq];constructor
 .rintro⟨t,f,x,h1,d,o⟩;have:=(Ie h1).1 o;exact⟨this.1,by rw[this.2.1,this.2.2,d];rfl⟩
 .rintro⟨h1,d⟩;rw[ai]at d;have m:jH (gt cl k) i∈(gY cl i).map (·.1):=ze.2 (wF.2 ⟨_,gF h1.1 h1.2,d.1,rfl⟩);obtain⟨x,l,e⟩:=au.1 m;obtain⟨t,f⟩:=aH.1 l;exact⟨t,n t (ae.1 f).1,x,f,by rw[e];exact d.2,(Ie f).2 ⟨h1,d.1,e.symm⟩⟩
def xG(G:kL)(seen:List Nat):List gj:=seen.map λt=>((G[t]?).map (·.1)).getD (0,0)
theorem aiq{G:kL}{t:Nat}{x:gj×List Int}(h:G[t]? = b4 x):xG G (seen ++ [t])=xG G seen ++ [x.1]:=by unfold xG;rw[cj,List.map_singleton,h];rfl
theorem aip(c:∀t,t<(gY cl i).l->t∈seen)(lt:∀t∈seen,t<(gY cl i).l)(r:gj):r∈xG (gY cl i) seen↔r∈sd cl i:=by
 rw[<-ze];unfold xG;rw[au,au];constructor
 .grind
 .rintro⟨x,b,e⟩;obtain⟨t,a⟩:=aH.1 b;exact⟨t,c t (ae.1 a).1,by rw[a];exact e⟩
end
theorem YN{p q:gR->Bool}{s:gR->gj}{cl:List gR}:∀ {n:Nat},(∀k:Int,0<=k->k<n->p (gt cl k)=q (gt cl k))->qh p s cl n=qh q s cl n
 | 0,_=>rfl
 | n+1,h=>by rw[qh,qh,h n U U,YN λk k0 k1=>h k k0 U]
def hM(ad:gR->Bool)(cl:List gR)(k:Nat)(j:Nat):kL:=qh (λc=>ad c&&ke c (j:Int)) (λc=>jH c (j:Int)) cl k
def hP(ad:gR->Bool)(cl:List gR)(k e:Nat)(j:Nat):kL:=
 if (gt cl (k:Int)).lo<=(j:Int)/\(j:Int)<(gt cl (k:Int)).lo+e then o9 (jH (gt cl (k:Int)) (j:Int)) k (hM ad cl k j)else hM ad cl k j
section
variable{ad:gR->Bool}{cl:List gR}{k:Nat}
theorem ahd:hP ad cl k 0=hM ad cl k:=funext λj=>if_neg U
theorem Zd{e:Nat}(h0:0<=(gt cl (k:Int)).lo):hP ad cl k e ((gt cl (k:Int)).lo.n+e)=hM ad cl k ((gt cl (k:Int)).lo.n+e):=if_neg U
theorem ahc{e:Nat}(h0:0<=(gt cl (k:Int)).lo):hP ad cl k (e+1)=xR (hP ad cl k e) ((gt cl (k:Int)).lo.n+e) (o9 (gt (gt cl (k:Int)).es (e:Int)) k (hP ad cl k e ((gt cl (k:Int)).lo.n+e))):=funext λj=>by
 unfold xR
 by_cases a:j=(gt cl (k:Int)).lo.n+e
 .rw[if_pos a];subst a;rw[Zd h0];unfold hP;rw[if_pos U];unfold jH;congr 2;omega
 .rw[if_neg a];unfold hP
  by_cases h:(gt cl (k:Int)).lo<=(j:Int)/\(j:Int)<(gt cl (k:Int)).lo+e
  .grind
  .grind
theorem ahb(c:ad (gt cl (k:Int))=cp){e:Nat}(a:(gt cl (k:Int)).hi=(gt cl (k:Int)).lo+e):hP ad cl k e=hM ad cl (k+1):=funext λj=>by
 unfold hP;show _=hM ad cl (k+1) j
 conv=>rhs;unfold hM;rw[qh]
 have b:(ad (gt cl (k:Int))&&ke (gt cl (k:Int)) (j:Int))=decide ((gt cl (k:Int)).lo<=(j:Int)/\(j:Int)<(gt cl (k:Int)).lo+e):=by rw[c,dz];unfold ke;rw[a]
 rw[b]
 by_cases h:(gt cl (k:Int)).lo<=(j:Int)/\(j:Int)<(gt cl (k:Int)).lo+e
 .rw[if_pos h,if_pos (by simpa using h)];rfl
 .rw[if_neg h,if_neg (by simpa using h)];rfl
theorem aha(a:ad (gt cl (k:Int))=di):hM ad cl (k+1)=hM ad cl k:=funext λj=>by unfold hM;rw[qh,if_neg (by simp[a])]
theorem ag9(a:∀c∈cl,ad c=cp)(j:Nat):hM ad cl cl.l j=gY cl (j:Int):=by unfold hM gY;exact YN λk k0 k1=>by rw[a _ (gF k0 k1),dz]
