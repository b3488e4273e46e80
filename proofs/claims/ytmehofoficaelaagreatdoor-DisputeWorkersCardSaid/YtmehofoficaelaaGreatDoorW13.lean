/- Part 13 of DisputeWorkers. -/
import Derived.Test.YtmehofoficaelaaGreatDoorW12
set_option linter.all false
namespace Go.Proofs.YtmehofoficaelaaGreatDoor
open Go Go.AL Classical
set_option maxRecDepth 10000
set_option maxHeartbeats 1000000
def lX(side kind c:Int):Prop:=0<=gJ c/\jY c=side/\(kind<0\/gJ c=kind)
theorem SU(p:Pos)(side kind:Int):sL p side kind=(p.cs.countP λc=>decide (lX side kind c):Nat):=by unfold sL lX;congr 1;refine List.countP_congr λc _=>?_;simp
theorem f193(p:Pos)(b:Small p)(side kind:Int):Wf T 252 [dP p,.i side,.i kind] [] (Is (.i (sL p side kind))):=by
 have hs:=b.1;rw[SU];refine Yg KZ ?_;simp[KZ];refine gj.e ((0,0):Int×Int) (λy=>[(1,.i side),(2,.i kind),(3,.ptr 0 0 0),(7,.i y.2),(8,.i y.1)]) (λy=>[.row 46 0 p.cells]) (λy=>0<=y.1/\y.1<=p.cs.length/\y.2=((p.cs.take y.1.toNat).countP λc=>decide (lX side kind c):Nat)) (λy=>p.cs.length-y.1.toNat) ?_ ?_
 .simp
 rintro⟨i,n⟩ ⟨h0,h1,a⟩;dsimp only at h0 h1 a ⊢
 have d:n<=i:=by have:=dA (p:=λc=>decide (lX side kind c)) (l:=p.cs.take i.toNat);rw[aK]at this;omega
 simp;refine j' ?_ ?_<;>intro h
 .refine Yc (f51 _) ?_;simp
  have e:((p.cs.take (i+1).toNat).countP λc=>decide (lX side kind c))=((p.cs.take i.toNat).countP λc=>decide (lX side kind c))+(if lX side kind (gt p.cs i)then 1 else 0):=by rw[jq h0 ‹_›,cV];simp[cP]
  (with_reducible repeat' first|refine Xk ?_<;>try simp|refine Xs ?_ ?_<;>intro h<;>(try intro f)<;>(try simp[h])<;>try omega|refine Xg ?_|omega)
  .refine LJ.e (i+1,n+1) ?_;refine gO ?_;dsimp only;rw[e,if_pos ⟨by assumption,by assumption,by omega⟩,a];rfl
  .refine LJ.e (i+1,n+1) ?_;refine gO ?_;dsimp only;rw[e,if_pos ⟨by assumption,by assumption,by omega⟩,a];rfl
  .refine LJ.e (i+1,n) ?_;refine gO ?_;dsimp only;rw[e,if_neg (by simp[lX, *]),a];rfl
  .refine LJ.e (i+1,n) ?_;refine gO ?_;dsimp only;rw[e,if_neg (by simp[lX, *]),a];rfl
  .refine LJ.e (i+1,n) ?_;refine gO ?_;dsimp only;rw[e,if_neg (by simp[lX, *]),a];rfl
 .rw[a,ln (by omega)]
theorem f153(g:gi)(hg:gV g)(p:Pos)(a:iw g p)(c:Clause)(d:CT g c):Wf T 200 [.agg c.cells,dP p] [] (Is (.b (decide (kX p c)))):=by
 have b:=a.small hg;have e:=a.side;have f:=a.size;have j:=hg.kinds;have l:=hg.jJ.size;have i:=d.ok;refine Yg KE ?_;simp[KE];(with_reducible repeat' first|refine Xk ?_<;>try simp|refine Xs ?_ ?_<;>intro h<;>(try intro m)<;>(try simp[h])<;>try omega|refine Xg ?_|omega)
 .refine Yc (f193 p b p.side c.kind) ?_;simp;simp[kX,h]
 .refine Yt (f156 (k:=c.kind) (s:=1-p.side) (by omega) (by omega) (by omega) (by omega)) ?_;simp;refine gd ?_;simp[kX,lQ, *]
 .refine Yt (f193 p b p.side (-1)) ?_;simp;simp[kX, *]
theorem Ws(l:List Pos)(hl:l.length<2 ^ 40)(hs:∀p∈l,Small p):Wf T 101 [gZ l] [] (Is (gZ (kJ l))):=
 (f61 l hl hs).mono λ_ _ ⟨r,h1,c,b,_,a⟩=>by rw[h1,c,aaV b a];exact⟨rfl,rfl⟩
theorem f106(g:gi)(hg:gV g)(p:Pos)(d:iw g p):Wf T 136 [dG g,dP p] [] (Is (.i (uM g p))):=by
 have a:=hg.clauses;refine Yg Jt ?_;simp[Jt];refine gj.e (0:Int) (λi=>[(2,.ptr 0 0 0),(3,.ptr 1 0 0),(5,.i i)]) (λi=>[.row 43 0 g.cells,.row 46 0 p.cells]) (λi=>0<=i/\i<=g.clauses.length/\∀c∈g.clauses.take i.toNat,¬kX p c) (λi=>g.clauses.length-i.toNat) ?_ ?_
 .simp
 rintro i ⟨h0,h1,b⟩;simp;refine j' ?_ ?_<;>intro h
 .refine Yt (f153 g hg p d _ (hg.clause _ (gy h0 ‹_›))) ?_;simp;refine j' ?_ ?_<;>intro h
  .have f:ended g p:=⟨_,gy h0 ‹_›,h⟩
   have e:(g.clauses.findIdx λc=>decide (kX p c))=i.toNat:=by
    rw[List.findIdx_eq (by omega)];refine⟨?_,λj k=>?_⟩
    .rw[<-jg h0 ‹_›];simpa using h
    .have:=b (g.clauses[j]'(by omega)) (by
      rw[dK]
      exact⟨j,by omega,rfl⟩)
     simpa using this
   unfold uM;rw[if_pos f,e];simp;omega
  .refine LJ.e (i+1) ?_;refine gO (λc a=>?_);rw[jq h0 ‹_›]at a;rcases List.mem_append.1 a with a|a
   .exact b c a
   .rw[List.mem_singleton]at a;subst a;exact h
 .rw[ln (by omega)]at b;rw[VQ];rintro⟨c,a,h⟩;exact b c a h
theorem f107(g:gi)(hg:gV g)(p:Pos)(m:iw g p):Wf T 139 [dG g,dP p] [] (Ex oa λr=>(∀o,o∈r↔o∈qp g p)/\r.length<=4000000000):=by
 have J:=m.size;have K:=hg.jJ.size;have C:=m.side;refine Yg JA ?_;simp[JA];refine gj.e ((0,0,[]):Int×Nat×List gQ) (λy=>[(2,.ptr 0 0 0),(3,.ptr 1 0 0),(5,.fY 2 y.2.1 6 0 y.2.2.length),(6,.i y.1)]) (λy=>[.row 43 0 g.cells,.row 46 0 p.cells,.row 259 y.2.1 (cl gQ.cells y.2.2)]) (λy=>0<=y.1/\y.1<=p.cs.length/\(∀o,o∈y.2.2↔∃c:Int,0<=c/\c<y.1/\o∈p8 g p c)/\y.2.2.length<=y.1.toNat*400000000) (λy=>p.cs.length-y.1.toNat) ?_ ?_
 .simp;intro o c h1 k;omega
 rintro⟨c,u,out⟩ ⟨h0,h1,k,t⟩;dsimp only at h0 h1 k t ⊢
 have q:∀f:List gQ,(∀o,o∈f↔o∈out\/o∈p8 g p c)->∀o,o∈f↔∃c':Int,0<=c'/\c'<c+1/\o∈p8 g p c':=λf h o=>by
  rw[h,k];constructor
  .rintro(⟨c',a,b,d⟩|h)
   .exact⟨c',a,by omega,d⟩
   .exact⟨c,h0,by omega,h⟩
  .rintro⟨c',a,b,d⟩
   by_cases e:c'=c
   .subst e;exact .inr d
   .exact .inl ⟨c',a,by omega,d⟩
 simp;refine j' ?_ ?_<;>intro h
 .refine Yc (f51 _) ?_;simp;have D:=m.cs _ (gy h0 ‹_›);have G:=hg.kinds;(with_reducible repeat' first|refine Xk ?_<;>try simp|refine Xs ?_ ?_<;>intro h<;>(try intro M)<;>(try simp[h])<;>try omega|refine Xg ?_|omega)
  .refine LJ.e (c+1,u,out) ?_
   have:p8 g p c = []:=by rw[p8,if_neg];have:=SF (n:=gt p.cs c) (by omega) C;exact this.2
   dsimp only;refine⟨by omega,by omega,by omega,q out (λo=>?_),Nat.le_trans t (bz _ (by omega))⟩;rw[this];simp
  .have w:=h;have B:gJ (gt p.cs c)<g.kinds.length:=yG D.2 G.1;have A:=hg.jt _ (gy (l:=g.kinds) (n:=gJ (gt p.cs c)) (by omega) B);have I:∀i:Int,0<=i->i<(gt g.kinds (gJ (gt p.cs c))).jt.length->_:=λi a b=>f154 g hg p m c i ⟨h0,by omega⟩ w ⟨a,b⟩;generalize z:(gt g.kinds (gJ (gt p.cs c))).jt=L at *;refine gj.e ((0,u,out):Int×Nat×List gQ) (λy=>[(2,.ptr 0 0 0),(3,.ptr 1 0 0),(5,.fY 2 y.2.1 6 0 y.2.2.length),(6,.i c),(7,.ptr 3 0 0),(8,.i y.1)]) (λy=>[.row 43 0 g.cells,.row 46 0 p.cells,.row 259 y.2.1 (cl gQ.cells y.2.2),.row 317 0 [.i (gJ (gt p.cs c)),.i (jY (gt p.cs c))]]) (λy=>0<=y.1/\y.1<=L.length/\(∀o,o∈y.2.2↔o∈out\/∃j:Int,0<=j/\j<y.1/\o∈u0 g p c (gt L j))/\y.2.2.length<=out.length+y.1.toNat*100000000) (λy=>L.length-y.1.toNat) ?_ ?_
   .simp;intro o j h1 k;omega
   rintro⟨i,gm,f⟩ ⟨i0,F,s,E⟩;dsimp only at i0 F s E ⊢;simp[z];refine j' ?_ ?_<;>intro h
   .refine Yq (I i i0 ‹_›) λr v=>?_;simp;refine gd ?_;refine LJ.e (i+1,gm+1,f++r) ?_;dsimp only;refine⟨by omega,by omega,by omega,λo=>?_,by have:=v.2;simp only[ak];omega⟩;rw[List.mem_append,s,v.1,or_assoc];refine or_congr eD ⟨?_,?_⟩
    .rintro(⟨j,a,b,d⟩|d)
     .exact⟨j,a,by omega,d⟩
     .exact⟨i,i0,by omega,d⟩
    .rintro⟨j,a,b,d⟩
     by_cases e:j=i
     .subst e;exact .inr d
     .exact .inl ⟨j,a,by omega,d⟩
   .refine LJ.e (c+1,gm,f) ?_;have O:=A.1;dsimp only;refine⟨by omega,by omega,by omega,q f (λo=>?_),by omega⟩;rw[s,p8,if_pos w,z,bM];refine or_congr eD ⟨?_,?_⟩
    .rintro⟨j,a,b,d⟩;exact⟨_,gy a (by omega),d⟩
    .rintro⟨x,a,d⟩;obtain⟨j,H,N,rfl⟩:=wm.1 a;exact⟨j,H,by omega,d⟩
  .refine LJ.e (c+1,u,out) ?_
   have:p8 g p c = []:=by rw[p8,if_neg];exact ‹_›
   dsimp only;refine⟨by omega,by omega,by omega,q out (λo=>?_),Nat.le_trans t (bz _ (by omega))⟩;rw[this];simp
 .refine⟨out,rfl,λo=>?_,?_⟩
  .rw[k,qp,bM];constructor
   .rintro⟨c',a,b,d⟩;exact⟨c',jc.2 ⟨a,by omega⟩,d⟩
   .rintro⟨c',a,d⟩;have:=jc.1 a;exact⟨c',this.1,by omega,d⟩
  .omega
theorem VO{g:gi}(hg:gV g){p:Pos}(a:iw g p){q:Pos}(h:zg g p q):Small q:=(Gk a h).small hg
theorem abX{p:Pos}(h:0<=p.side/\p.side<=1) : [dI p.cs,dI p.h0,dI p.h1,.i p.gL,.i p.side][1+p.side.toNat]? = some (dI (p.hand p.side)):=by unfold Pos.hand;rcases(show p.side=0\/p.side=1 by omega)with e|e<;>rw[e]<;>rfl
theorem f108(g:gi)(hg:gV g)(p:Pos)(l:iw g p):Wf T 140 [dG g,dP p] [] (Ex gZ λr=>kU r/\r.length<=100/\∀q,q∈r↔zg g p q):=by
 have J:=l.size;have L:=hg.jJ.size;have o:=l.side;have K:=hg.kinds;have x:=l.small hg;have I:=l.h0.len;have H:=l.h1.len;refine Yz Fj (iZ 65 [3,4,5] (iZ 69 [2] Fj.body)) ?_;simp[Fj,iZ,kD,np,nz,nP,ma];refine gj.e ((0,0,[]):Int×Nat×List Pos) (λy=>[(2,.ptr 0 0 0),(3,.ptr 1 0 0),(5,.fY 2 y.2.1 5 0 y.2.2.length),(6,.i y.1)]) (λy=>[.row 43 0 g.cells,.row 46 0 p.cells,.row 46 y.2.1 (cl Pos.cells y.2.2)]) (λy=>0<=y.1/\y.1<=g.kinds.length/\(∀q,q∈y.2.2↔∃k c:Int,0<=k/\k<y.1/\0<=c/\c<p.cs.length/\gt (p.hand p.side) k≠0/\gt p.cs c=0/\q=kl p k c)/\y.2.2.length<=y.1.toNat*9) (λy=>g.kinds.length-y.1.toNat) ?_ ?_
 .simp;intro q k c h1 n;omega
 rintro⟨k,E,out⟩ ⟨h0,h1,n,D⟩;dsimp only at h0 h1 n D ⊢;simp;refine j' ?_ ?_<;>intro h
 .refine gj.e ((0,E,out):Int×Nat×List Pos) (λy=>[(2,.ptr 0 0 0),(3,.ptr 1 0 0),(5,.fY 2 y.2.1 5 0 y.2.2.length),(6,.i k),(7,.i y.1)]) (λy=>[.row 43 0 g.cells,.row 46 0 p.cells,.row 46 y.2.1 (cl Pos.cells y.2.2)]) (λy=>0<=y.1/\y.1<=p.cs.length/\(∀q,q∈y.2.2↔q∈out\/∃c:Int,0<=c/\c<y.1/\gt (p.hand p.side) k≠0/\gt p.cs c=0/\q=kl p k c)/\y.2.2.length<=out.length+y.1.toNat) (λy=>p.cs.length-y.1.toNat) ?_ ?_
  .simp;intro q c h1 n;omega
  rintro⟨c,gm,i⟩ ⟨u,G,c2,F⟩;dsimp only at u G c2 F ⊢;simp;refine j' ?_ ?_<;>intro h
  .rw[abX o];simp;have B:=l.hand p.side;have hl:=B.len;have C:=B.at_ k h0 (by omega)
   have t:∀w:List Pos,(∀q,q∈w↔q∈i\/(gt (p.hand p.side) k≠0/\gt p.cs c=0/\q=kl p k c))->∀q,q∈w↔q∈out\/∃c':Int,0<=c'/\c'<c+1/\gt (p.hand p.side) k≠0/\gt p.cs c'=0/\q=kl p k c':=λw h q=>by
    rw[h,c2,or_assoc];refine or_congr eD ⟨?_,?_⟩
    .rintro(⟨j,a,b,d⟩|d)
     .exact⟨j,a,by omega,d⟩
     .exact⟨c,u,by omega,d⟩
    .rintro⟨j,a,b,d⟩
     by_cases e:j=c
     .subst e;exact .inr d
     .exact .inl ⟨j,a,by omega,d⟩
   (with_reducible repeat' first|refine Xk ?_<;>try simp|refine Xs ?_ ?_<;>intro h<;>(try intro M)<;>(try simp[h])<;>try omega|refine Xg ?_|omega)
   .refine LJ.e (c+1,gm,i) ?_;dsimp only;refine gO ⟨?_,by omega⟩;exact t i (λq=>by rw[c2];constructor;exact .inl;rintro(h|⟨h1,n,_⟩);exact h;contradiction)
   .rcases(show p.side=0\/p.side=1 by omega)with e|e
    .have q1:∀v,(pt p.cs c v).length=p.cs.length:=λv=>iP u (by omega);have q2:∀v,(pt p.h0 k v).length=p.h0.length:=λv=>iP h0 (by omega);have hP:p.hand p.side=p.h0:=by unfold Pos.hand;rw[e];rfl
     rw[hP]at C;refine Yn (Nb p x) ?_;simp;refine Yt (f156 (k:=k) (s:=p.side) h0 (by omega) o.1 o.2) ?_;simp[e];refine lh q1 q2 ?_;simp[q1,q2];refine gd ?_
     have m:kl p k c=⟨pt p.cs c (1+2*k+p.side),pt p.h0 k (gt p.h0 k-1),p.h1,p.gL,1-p.side⟩:=by rw[kl,hP];simp[Pos.mY,e,lQ]
     simp[e]at m;refine LJ.i (c+1,gm+1,i ++ [kl p k c]) (by first|rfl|simp[m,e]) (by first|rfl|simp[m,e]) rfl rfl ?_;dsimp only;refine gO ⟨?_,by simp;omega⟩;exact t _ (λq=>by rw[List.mem_append,List.mem_singleton];exact or_congr eD ⟨λh=>⟨‹_›,‹_›,h⟩,λh=>h.2.2⟩)
    .have q1:∀v,(pt p.cs c v).length=p.cs.length:=λv=>iP u (by omega);have q2:∀v,(pt p.h1 k v).length=p.h1.length:=λv=>iP h0 (by omega);have hP:p.hand p.side=p.h1:=by unfold Pos.hand;rw[e];rfl
     rw[hP]at C;refine Yn (Nb p x) ?_;simp;refine Yt (f156 (k:=k) (s:=p.side) h0 (by omega) o.1 o.2) ?_;simp[e];refine lh q1 q2 ?_;simp[q1,q2];refine gd ?_
     have m:kl p k c=⟨pt p.cs c (1+2*k+p.side),p.h0,pt p.h1 k (gt p.h1 k-1),p.gL,1-p.side⟩:=by rw[kl,hP];simp[Pos.mY,e,lQ]
     simp[e]at m;refine LJ.i (c+1,gm+1,i ++ [kl p k c]) (by first|rfl|simp[m,e]) (by first|rfl|simp[m,e]) rfl rfl ?_;dsimp only;refine gO ⟨?_,by simp;omega⟩;exact t _ (λq=>by rw[List.mem_append,List.mem_singleton];exact or_congr eD ⟨λh=>⟨‹_›,‹_›,h⟩,λh=>h.2.2⟩)
   .refine LJ.e (c+1,gm,i) ?_;dsimp only;refine gO ⟨?_,by omega⟩;exact t i (λq=>by rw[c2];constructor;exact .inl;rintro(h|⟨_,n,_⟩);exact h;contradiction)
  .refine LJ.e (k+1,gm,i) ?_;dsimp only;refine⟨by omega,by omega,by omega,λq=>?_,by omega⟩;rw[c2,n];constructor
   .rintro(⟨j,c,a,b,d⟩|⟨c,a,b,d⟩)
    .exact⟨j,c,a,by omega,d⟩
    .exact⟨k,c,h0,by omega,a,by omega,d⟩
   .rintro⟨j,c,a,b,d,e,f⟩
    by_cases e:j=k
    .subst e;exact .inr ⟨c,d,by omega,f⟩
    .exact .inl ⟨j,c,a,by omega,d,by assumption,f⟩
 .have A:∀q,q∈out↔zg g p q:=λq=>by
   rw[n];unfold zg;constructor
   .rintro⟨j,c,a,b,d⟩;exact⟨j,c,a,by omega,d⟩
   .rintro⟨j,c,a,b,d⟩;exact⟨j,c,a,by omega,d⟩
  refine Yq (f61 out (by omega) (λq h=>VO hg l ((A q).1 h))) λr z=>?_;simp;exact⟨r,rfl,z.1,by omega,λq=>(z.2.2 q).trans (A q)⟩
