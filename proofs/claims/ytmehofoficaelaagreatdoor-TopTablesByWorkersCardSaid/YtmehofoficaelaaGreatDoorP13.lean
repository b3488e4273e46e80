/- 13 -/
import Derived.Test.YtmehofoficaelaaGreatDoorP12
set_option linter.all false
open List renaming mem_singleton→aE,length→List.l
open Int renaming toNat→Int.n
namespace Go.Proofs.YtmehofoficaelaaGreatDoor
open Go Go.AL Classical
set_option maxRecDepth 10000
set_option maxHeartbeats 1000000
def nc(side kind c:Int):Prop:=0<=iC c/\lg c=side/\(kind<0\/iC c=kind)
def WC(p:Pos)(side kind:Int):uE p side kind=(p.cs.countP λc=>decide (nc side kind c):Nat):=by unfold uE nc;congr 1;refine List.countP_congr λc _=>?_;simp
def f193(p:Pos)(b:Small p)(side kind:Int):Wf T 252 [dP p,.i side,.i kind] [] (Is (.i (uE p side kind))):=by
 have hs:=b.1;rw[WC];refine Yg Oe ?_;simp[Oe];refine gZ.e ((0,0):Int×Int) (λy=>[(1,.i side),(2,.i kind),(3,.ptr 0 0 0),(7,.i y.2),(8,.i y.1)]) (λy=>[.row 46 0 p.cells]) (λy=>0<=y.1/\y.1<=p.cs.l/\y.2=((p.cs.take y.1.n).countP λc=>decide (nc side kind c):Nat)) (λy=>p.cs.l-y.1.n) ?_ ?_
 .simp
 rintro⟨i,n⟩ ⟨h0,h1,a⟩;dsimp only at h0 h1 a ⊢
 have d:n<=i:=by have:=db (p:=λc=>decide (nc side kind c)) (l:=p.cs.take i.n);rw[aM]at this;omega
 simp;refine ma ?_ ?_<;>intro h
 .refine Yc (f51 _) ?_;simp
  have e:((p.cs.take (i+1).n).countP λc=>decide (nc side kind c))=((p.cs.take i.n).countP λc=>decide (nc side kind c))+(if nc side kind (gt p.cs i)then 1 else 0):=by rw[jP h0 ‹_›,dQ];simp[b7]
  (with_reducible repeat' first|refine Xk ?_<;>try simp|refine Xs ?_ ?_<;>intro h<;>(try intro f)<;>(try simp[h])<;>try omega|refine Xg ?_|omega)
  .refine LJ.e (i+1,n+1) ?_;refine iQ ?_;dsimp only;rw[e,if_pos ⟨km,km,U⟩,a];rfl
  .refine LJ.e (i+1,n+1) ?_;refine iQ ?_;dsimp only;rw[e,if_pos ⟨km,km,U⟩,a];rfl
  .refine LJ.e (i+1,n) ?_;refine iQ ?_;dsimp only;rw[e,if_neg (by simp[nc, *]),a];rfl
  .refine LJ.e (i+1,n) ?_;refine iQ ?_;dsimp only;rw[e,if_neg (by simp[nc, *]),a];rfl
  .refine LJ.e (i+1,n) ?_;refine iQ ?_;dsimp only;rw[e,if_neg (by simp[nc, *]),a];rfl
 .rw[a,nf U]
def f153(g:gY)(hg:iE g)(p:Pos)(a:ja g p)(c:Clause)(d:Fe g c):Wf T 200 [.agg c.cells,dP p] [] (Is (.b (decide (mj p c)))):=by
 have b:=a.small hg;have e:=a.side;have f:=a.size;have j:=hg.kinds;have l:=hg.kC.size;have i:=d.ok;refine Yg NT ?_;simp[NT];(with_reducible repeat' first|refine Xk ?_<;>try simp|refine Xs ?_ ?_<;>intro h<;>(try intro m)<;>(try simp[h])<;>try omega|refine Xg ?_|omega)
 .refine Yc (f193 p b p.side c.kind) ?_;simp;simp[mj,h]
 .refine Yt (f156 (k:=c.kind) (s:=1-p.side) U U U U) ?_;simp;refine gU ?_;simp[mj,lQ, *]
 .refine Yt (f193 p b p.side (-1)) ?_;simp;simp[mj, *]
def aaV(l:List Pos)(hl:l.l<2 ^ 40)(hs:∀p∈l,Small p):Wf T 101 [iZ l] [] (Is (iZ (lY l))):=
 (f61 l hl hs).mono λ_ _ ⟨r,h1,c,b,_,a⟩=>by rw[h1,c,aeO b a];exact⟨rfl,rfl⟩
def f106(g:gY)(hg:iE g)(p:Pos)(d:ja g p):Wf T 136 [dG g,dP p] [] (Is (.i (w6 g p))):=by
 have a:=hg.clauses;refine Yg MF ?_;simp[MF];refine gZ.e (0:Int) (λi=>[(2,.ptr 0 0 0),(3,.ptr 1 0 0),(5,.i i)]) (λi=>[.row 43 0 g.cells,.row 46 0 p.cells]) (λi=>0<=i/\i<=g.clauses.l/\∀c∈g.clauses.take i.n,¬mj p c) (λi=>g.clauses.l-i.n) ?_ ?_
 .simp
 rintro i ⟨h0,h1,b⟩;simp;refine ma ?_ ?_<;>intro h
 .refine Yt (f153 g hg p d _ (hg.clause _ (ij h0 ‹_›))) ?_;simp;refine ma ?_ ?_<;>intro h
  .have f:ended g p:=⟨_,ij h0 ‹_›,h⟩
   have e:(g.clauses.findIdx λc=>decide (mj p c))=i.n:=by
    rw[List.findIdx_eq U];refine⟨?_,λj k=>?_⟩
    .rw[<-jU h0 ‹_›];simpa using h
    .have:=b (g.clauses[j]' U) (by
      rw[ew]
      exact⟨j,U,rfl⟩)
     simpa using this
   unfold w6;rw[if_pos f,e];simp;omega
  .refine LJ.e (i+1) ?_;refine iQ (λc a=>?_);rw[jP h0 ‹_›]at a;rcases ai.1 a with a|a
   .exact b c a
   .rw[aE]at a;subst a;exact h
 .rw[nf U]at b;rw[aaj];rintro⟨c,a,h⟩;exact b c a h
def f107(g:gY)(hg:iE g)(p:Pos)(m:ja g p):Wf T 139 [dG g,dP p] [] (Ex pS λr=>(∀o,o∈r↔o∈su g p)/\r.l<=4000000000):=by
 have K:=m.size;have M:=hg.kC.size;have D:=m.side;refine Yg MN ?_;simp[MN];refine gZ.e ((0,0,[]):Int×Nat×List iJ) (λy=>[(2,.ptr 0 0 0),(3,.ptr 1 0 0),(5,.gR 2 y.2.1 6 0 y.2.2.l),(6,.i y.1)]) (λy=>[.row 43 0 g.cells,.row 46 0 p.cells,.row 259 y.2.1 (cl iJ.cells y.2.2)]) (λy=>0<=y.1/\y.1<=p.cs.l/\(∀o,o∈y.2.2↔∃c:Int,0<=c/\c<y.1/\o∈rS g p c)/\y.2.2.l<=y.1.n*400000000) (λy=>p.cs.l-y.1.n) ?_ ?_
 .simp;intro o c h1 k;omega
 rintro⟨c,u,out⟩ ⟨h0,h1,k,t⟩;dsimp only at h0 h1 k t ⊢
 have q:∀f:List iJ,(∀o,o∈f↔o∈out\/o∈rS g p c)->∀o,o∈f↔∃c':Int,0<=c'/\c'<c+1/\o∈rS g p c':=λf h o=>by
  rw[h,k];constructor
  .rintro(⟨c',a,b,d⟩|h)
   .exact⟨c',a,U,d⟩
   .exact⟨c,h0,U,h⟩
  .rintro⟨c',a,b,d⟩
   by_cases e:c'=c
   .subst e;exact .inr d
   .exact .inl ⟨c',a,U,d⟩
 simp;refine ma ?_ ?_<;>intro h
 .refine Yc (f51 _) ?_;simp;have C:=m.cs _ (ij h0 ‹_›);have G:=hg.kinds;(with_reducible repeat' first|refine Xk ?_<;>try simp|refine Xs ?_ ?_<;>intro h<;>(try intro N)<;>(try simp[h])<;>try omega|refine Xg ?_|omega)
  .refine LJ.e (c+1,u,out) ?_
   have:rS g p c = []:=by rw[rS,if_neg];have:=Wl (n:=gt p.cs c) U D;exact this.2
   dsimp only;refine⟨U,U,U,q out (λo=>?_),Nat.le_trans t (bP _ U)⟩;rw[this];simp
  .have w:=h;have B:iC (gt p.cs c)<g.kinds.l:=zq C.2 G.1;have A:=hg.jv _ (ij (l:=g.kinds) (n:=iC (gt p.cs c)) U B);have J:∀i:Int,0<=i->i<(gt g.kinds (iC (gt p.cs c))).jv.l->_:=λi a b=>f154 g hg p m c i ⟨h0,U⟩ w ⟨a,b⟩;generalize z:(gt g.kinds (iC (gt p.cs c))).jv=L at *;refine gZ.e ((0,u,out):Int×Nat×List iJ) (λy=>[(2,.ptr 0 0 0),(3,.ptr 1 0 0),(5,.gR 2 y.2.1 6 0 y.2.2.l),(6,.i c),(7,.ptr 3 0 0),(8,.i y.1)]) (λy=>[.row 43 0 g.cells,.row 46 0 p.cells,.row 259 y.2.1 (cl iJ.cells y.2.2),.row 317 0 [.i (iC (gt p.cs c)),.i (lg (gt p.cs c))]]) (λy=>0<=y.1/\y.1<=L.l/\(∀o,o∈y.2.2↔o∈out\/∃j:Int,0<=j/\j<y.1/\o∈xp g p c (gt L j))/\y.2.2.l<=out.l+y.1.n*100000000) (λy=>L.l-y.1.n) ?_ ?_
   .simp;intro o j h1 k;omega
   rintro⟨i,gm,f⟩ ⟨i0,F,s,E⟩;dsimp only at i0 F s E ⊢;simp[z];refine ma ?_ ?_<;>intro h
   .refine Yq (J i i0 ‹_›) λr v=>?_;simp;refine gU ?_;refine LJ.e (i+1,gm+1,f++r) ?_;dsimp only;refine⟨U,U,U,λo=>?_,by have:=v.2;simp only[aq];omega⟩;rw[ai,s,v.1,or_assoc];refine or_congr eM ⟨?_,?_⟩
    .rintro(⟨j,a,b,d⟩|d)
     .exact⟨j,a,U,d⟩
     .exact⟨i,i0,U,d⟩
    .rintro⟨j,a,b,d⟩
     by_cases e:j=i
     .subst e;exact .inr d
     .exact .inl ⟨j,a,U,d⟩
   .refine LJ.e (c+1,gm,f) ?_;have H:=A.1;dsimp only;refine⟨U,U,U,q f (λo=>?_),U⟩;rw[s,rS,if_pos w,z,bG];refine or_congr eM ⟨?_,?_⟩
    .rintro⟨j,a,b,d⟩;exact⟨_,ij a U,d⟩
    .rintro⟨x,a,d⟩;obtain⟨j,I,O,rfl⟩:=th.1 a;exact⟨j,I,U,d⟩
  .refine LJ.e (c+1,u,out) ?_
   have:rS g p c = []:=by rw[rS,if_neg];exact ‹_›
   dsimp only;refine⟨U,U,U,q out (λo=>?_),Nat.le_trans t (bP _ U)⟩;rw[this];simp
 .refine⟨out,rfl,λo=>?_,?_⟩
  .rw[k,su,bG];constructor
   .rintro⟨c',a,b,d⟩;exact⟨c',l8.2 ⟨a,U⟩,d⟩
   .rintro⟨c',a,d⟩;have:=l8.1 a;exact⟨c',this.1,U,d⟩
  .omega
def aag{g:gY}(hg:iE g){p:Pos}(a:ja g p){q:Pos}(h:zI g p q):Small q:=(Jt a h).small hg
def af1{p:Pos}(h:0<=p.side/\p.side<=1) : [dI p.cs,dI p.h0,dI p.h1,.i p.iw,.i p.side][1+p.side.n]? = some (dI (p.hand p.side)):=by unfold Pos.hand;rcases(U:p.side=0\/p.side=1)with e|e<;>rw[e]<;>rfl
def f108(g:gY)(hg:iE g)(p:Pos)(l:ja g p):Wf T 140 [dG g,dP p] [] (Ex iZ λr=>mr r/\r.l<=100/\∀q,q∈r↔zI g p q):=by
 have J:=l.size;have L:=hg.kC.size;have o:=l.side;have K:=hg.kinds;have x:=l.small hg;have I:=l.h0.len;have H:=l.h1.len;refine Yz Io (jY 65 [3,4,5] (jY 69 [2] Io.body)) ?_;simp[Io,jY,lV,po,py,pY,nQ];refine gZ.e ((0,0,[]):Int×Nat×List Pos) (λy=>[(2,.ptr 0 0 0),(3,.ptr 1 0 0),(5,.gR 2 y.2.1 5 0 y.2.2.l),(6,.i y.1)]) (λy=>[.row 43 0 g.cells,.row 46 0 p.cells,.row 46 y.2.1 (cl Pos.cells y.2.2)]) (λy=>0<=y.1/\y.1<=g.kinds.l/\(∀q,q∈y.2.2↔∃k c:Int,0<=k/\k<y.1/\0<=c/\c<p.cs.l/\gt (p.hand p.side) k≠0/\gt p.cs c=0/\q=lx p k c)/\y.2.2.l<=y.1.n*9) (λy=>g.kinds.l-y.1.n) ?_ ?_
 .simp;intro q k c h1 n;omega
 rintro⟨k,E,out⟩ ⟨h0,h1,n,D⟩;dsimp only at h0 h1 n D ⊢;simp;refine ma ?_ ?_<;>intro h
 .refine gZ.e ((0,E,out):Int×Nat×List Pos) (λy=>[(2,.ptr 0 0 0),(3,.ptr 1 0 0),(5,.gR 2 y.2.1 5 0 y.2.2.l),(6,.i k),(7,.i y.1)]) (λy=>[.row 43 0 g.cells,.row 46 0 p.cells,.row 46 y.2.1 (cl Pos.cells y.2.2)]) (λy=>0<=y.1/\y.1<=p.cs.l/\(∀q,q∈y.2.2↔q∈out\/∃c:Int,0<=c/\c<y.1/\gt (p.hand p.side) k≠0/\gt p.cs c=0/\q=lx p k c)/\y.2.2.l<=out.l+y.1.n) (λy=>p.cs.l-y.1.n) ?_ ?_
  .simp;intro q c h1 n;omega
  rintro⟨c,gm,i⟩ ⟨u,G,c2,F⟩;dsimp only at u G c2 F ⊢;simp;refine ma ?_ ?_<;>intro h
  .rw[af1 o];simp;have B:=l.hand p.side;have hl:=B.len;have C:=B.at_ k h0 U
   have t:∀w:List Pos,(∀q,q∈w↔q∈i\/(gt (p.hand p.side) k≠0/\gt p.cs c=0/\q=lx p k c))->∀q,q∈w↔q∈out\/∃c':Int,0<=c'/\c'<c+1/\gt (p.hand p.side) k≠0/\gt p.cs c'=0/\q=lx p k c':=λw h q=>by
    rw[h,c2,or_assoc];refine or_congr eM ⟨?_,?_⟩
    .rintro(⟨j,a,b,d⟩|d)
     .exact⟨j,a,U,d⟩
     .exact⟨c,u,U,d⟩
    .rintro⟨j,a,b,d⟩
     by_cases e:j=c
     .subst e;exact .inr d
     .exact .inl ⟨j,a,U,d⟩
   (with_reducible repeat' first|refine Xk ?_<;>try simp|refine Xs ?_ ?_<;>intro h<;>(try intro M)<;>(try simp[h])<;>try omega|refine Xg ?_|omega)
   .refine LJ.e (c+1,gm,i) ?_;dsimp only;refine iQ ⟨?_,U⟩;exact t i (λq=>by rw[c2];constructor;exact .inl;rintro(h|⟨h1,n,_⟩);exact h;contradiction)
   .rcases(U:p.side=0\/p.side=1)with e|e
    .have q1:∀v,(pt p.cs c v).l=p.cs.l:=λv=>jy u U;have q2:∀v,(pt p.h0 k v).l=p.h0.l:=λv=>jy h0 U;have hP:p.hand p.side=p.h0:=by unfold Pos.hand;rw[e];rfl
     rw[hP]at C;refine Yn (Qh p x) ?_;simp;refine Yt (f156 (k:=k) (s:=p.side) h0 U o.1 o.2) ?_;simp[e];refine ko q1 q2 ?_;simp[q1,q2];refine gU ?_
     have m:lx p k c=⟨pt p.cs c (1+2*k+p.side),pt p.h0 k (gt p.h0 k-1),p.h1,p.iw,1-p.side⟩:=by rw[lx,hP];simp[Pos.mW,e,lQ]
     simp[e]at m;refine LJ.i (c+1,gm+1,i ++ [lx p k c]) (by first|rfl|simp[m,e]) (by first|rfl|simp[m,e]) rfl rfl ?_;dsimp only;refine iQ ⟨?_,iz⟩;exact t _ (λq=>by rw[ai,aE];exact or_congr eM ⟨λh=>⟨‹_›,‹_›,h⟩,λh=>h.2.2⟩)
    .have q1:∀v,(pt p.cs c v).l=p.cs.l:=λv=>jy u U;have q2:∀v,(pt p.h1 k v).l=p.h1.l:=λv=>jy h0 U;have hP:p.hand p.side=p.h1:=by unfold Pos.hand;rw[e];rfl
     rw[hP]at C;refine Yn (Qh p x) ?_;simp;refine Yt (f156 (k:=k) (s:=p.side) h0 U o.1 o.2) ?_;simp[e];refine ko q1 q2 ?_;simp[q1,q2];refine gU ?_
     have m:lx p k c=⟨pt p.cs c (1+2*k+p.side),p.h0,pt p.h1 k (gt p.h1 k-1),p.iw,1-p.side⟩:=by rw[lx,hP];simp[Pos.mW,e,lQ]
     simp[e]at m;refine LJ.i (c+1,gm+1,i ++ [lx p k c]) (by first|rfl|simp[m,e]) (by first|rfl|simp[m,e]) rfl rfl ?_;dsimp only;refine iQ ⟨?_,iz⟩;exact t _ (λq=>by rw[ai,aE];exact or_congr eM ⟨λh=>⟨‹_›,‹_›,h⟩,λh=>h.2.2⟩)
   .refine LJ.e (c+1,gm,i) ?_;dsimp only;refine iQ ⟨?_,U⟩;exact t i (λq=>by rw[c2];constructor;exact .inl;rintro(h|⟨_,n,_⟩);exact h;contradiction)
  .refine LJ.e (k+1,gm,i) ?_;dsimp only;refine⟨U,U,U,λq=>?_,U⟩;rw[c2,n];constructor
   .rintro(⟨j,c,a,b,d⟩|⟨c,a,b,d⟩)
    .exact⟨j,c,a,U,d⟩
    .exact⟨k,c,h0,U,a,U,d⟩
   .rintro⟨j,c,a,b,d,e,f⟩
    by_cases e:j=k
    .subst e;exact .inr ⟨c,d,U,f⟩
    .exact .inl ⟨j,c,a,U,d,km,f⟩
 .have A:∀q,q∈out↔zI g p q:=λq=>by
   rw[n];unfold zI;constructor
   .rintro⟨j,c,a,b,d⟩;exact⟨j,c,a,U,d⟩
   .rintro⟨j,c,a,b,d⟩;exact⟨j,c,a,U,d⟩
  refine Yq (f61 out U (λq h=>aag hg l ((A q).1 h))) λr z=>?_;simp;exact⟨r,rfl,z.1,U,λq=>(z.2.2 q).trans (A q)⟩
