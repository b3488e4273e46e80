/- Part 21 of DisputeReferee. -/
import Derived.Test.YtmehofoficaelaaGreatDoorR19
import Derived.Test.YtmehofoficaelaaGreatDoorR20
set_option linter.all false
namespace Go.Proofs.YtmehofoficaelaaGreatDoor
open Go Go.AL Classical
set_option maxRecDepth 10000
set_option maxHeartbeats 8000000
abbrev Ct(g:fH)(p:Pos)(x y:D):U:=[.row 43 0 g.cells,.row 46 0 p.cells,.row 47 0 [x],.row 47 0 [y],.kD,.gV 6016 [(7,.ptr 2 0 0),(8,.ptr 3 0 0)] .ready]
def lP(os:List gy):List Pos:=os.map (·.p)
def jP(os:List gy):List Pos:=(os.filter (·.jq)).map (·.p)
def jZ(g:fH)(p:Pos)(os:List gy):U:=
 if os = []then Ct g p .fJ .fJ else if jP os = []then Ct g p (.fy 6 (os.length-1) 5 0 os.length) .fJ ++ [.row 46 (os.length-1) (cl Pos.cells (lP os))]
 else Ct g p (.fy 6 (os.length-1) 5 0 os.length) (.fy 7 ((jP os).length-1) 5 0 (jP os).length) ++ [.row 46 (os.length-1) (cl Pos.cells (lP os)),.row 46 ((jP os).length-1) (cl Pos.cells (jP os))]
theorem CI(g:fH)(p:Pos):jZ g p []=Ct g p .fJ .fJ:=rfl
theorem xf(g:fH)(p:Pos){os:List gy}(h:os≠[])(a:jP os = []):jZ g p os=Ct g p (.fy 6 (os.length-1) 5 0 os.length) .fJ ++ [.row 46 (os.length-1) (cl Pos.cells (lP os))]:=by unfold jZ;rw[if_neg h,if_pos a]
theorem sU(g:fH)(p:Pos){os:List gy}(h:os≠[])(a:jP os≠[]):jZ g p os=Ct g p (.fy 6 (os.length-1) 5 0 os.length) (.fy 7 ((jP os).length-1) 5 0 (jP os).length) ++ [.row 46 (os.length-1) (cl Pos.cells (lP os)),.row 46 ((jP os).length-1) (cl Pos.cells (jP os))]:=by unfold jZ;rw[if_neg h,if_neg a]
theorem oh(os:List gy)(o:gy):jP (os ++ [o])=jP os++(if o.jq then [o.p]else []):=by unfold jP;rw[eC,List.map_append];cases h:o.jq<;>simp[h]
theorem x5(os:List gy)(o:gy):lP (os ++ [o])=lP os ++ [o.p]:=by simp[lP]
theorem Sz(os:List gy):(lP os).length=os.length:=by simp[lP]
theorem YH(os:List gy):(jP os).length<=os.length:=by unfold jP;rw[List.length_map];exact List.length_filter_le _ _
theorem Pw(g:fH)(p:Pos)(os:List gy):(jZ g p os).length=if os = []then 6 else if jP os = []then 7 else 8:=by
 unfold jZ;split
 .rfl
 .split<;>rfl
theorem Pv(g:fH)(p:Pos)(os:List gy):6<=(jZ g p os).length:=by rw[Pw];split<;>(try split)<;>omega
theorem adC(g:fH)(p:Pos)(os:List gy)(o:gy):(jZ g p os).length<=(jZ g p (os ++ [o])).length:=by
 rw[Pw,Pw,if_neg (show os ++ [o]≠[]by simp)]
 by_cases a:jP os = []
 .rw[if_pos a];split<;>split<;>omega
 .rw[if_neg a,if_neg (show jP (os ++ [o])≠[]by rw[oh];simp[a])];split<;>omega
theorem VE{g:fH}{p:Pos}{os:List gy}{n:Nat}(c:6<=n)(a:n<=(jZ g p os).length):dedup ((((jZ g p os).take n).map (nZ n)).flatten.filter (· < (jZ g p os).length))=List.range' n ((jZ g p os).length-n):=by
 by_cases h:os = []
 .subst h;have:n=6:=by rw[CI]at a;simp at a;omega
  subst this;rw[CI];simp
 .by_cases b:jP os = []
  .rw[xf g p h b]at *;have:n=6\/n=7:=by simp at a;omega
   rcases this with rfl|rfl<;>simp<;>rfl
  .rw[sU g p h b]at *;have:n=6\/n=7\/n=8:=by simp at a;omega
   rcases this with rfl|rfl|rfl<;>simp<;>rfl
theorem VC(g:fH)(p:Pos)(os:List gy):jO (jZ g p os).length (jZ g p os):=by
 by_cases h:os = []
 .subst h;rw[CI];simp
 .by_cases a:jP os = []
  .rw[xf g p h a];simp
  .rw[sU g p h a];simp
theorem yM{g:fH}{p:Pos}{os:List gy}{n:Nat}{live:List Nat}{env:Env}{r:Bool}(c:6<=n)(a:n<=(jZ g p os).length)(b:((forget live env).all λp=>kA n p.2)=true) :
  cut n live { env:=env,H:=jZ g p os,marks:=[],ik:=r } = { env:=forget live env,H:=jZ g p os,marks:=[],ik:=r }:=aaG a b (VE c a) (VC g p os)
theorem adB{g:fH}{p:Pos}{os:List gy}{n:Nat}{d:D}(c:6<=n)(a:n<=(jZ g p os).length)(b:kA n d=true):leave 0 n (jZ g p os) d=(d,jZ g p os):=aey a b (VE c a) (VC g p os)
theorem CJ{g:fH}{p:Pos}(os:List gy){n:Nat}{live:List Nat}{env:Env}{H:U}{r:Bool}(c:H=jZ g p os)(d:6<=n)(a:n<=(jZ g p os).length)(b:((forget live env).all λp=>kA n p.2)=true) :
  cut n live { env:=env,H:=H,marks:=[],ik:=r } = { env:=forget live env,H:=H,marks:=[],ik:=r }:=by
 subst c;exact yM d a b
theorem f83(g:fH)(hg:gF g)(p:Pos)(u:gT g p):Wf T 213 [.iH 5,.fV p.cells,.fV g.cells] (jZ g p []) (λ_ H'=>∃os,(∀o,o∈os↔o∈pD g p)/\os.length<=3600000000/\H'=jZ g p os):=by
 have U:=u.size;have V:=hg.jm.size;have P:=hg.kinds;have M:=u.side;have G:(jZ g p []).length=6:=rfl;have q:=Pv g p [];have x:5<(jZ g p []).length:=q;refine Yg JN ?_;simp[JN];refine fO.e ((0,[]):Int×List gy) (λy=>[(0,.iH 5),(1,.fV p.cells),(2,.fV g.cells),(14,dI p.cs),(15,.i p.cs.length),(16,.i y.1)]) (λy=>jZ g p y.2) (λy=>0<=y.1/\y.1<=p.cs.length/\(∀o,o∈y.2↔o∈(upto y.1.toNat).flatMap (pa g p))/\y.2.length<=400000000*y.1.toNat) (λy=>(p.cs.length-y.1).toNat) ?_ ?_
 .simp
 rintro⟨i,os⟩ ⟨i0,O,D,N⟩;dsimp only at i0 O D N ⊢;have w:=Pv g p os;have I:5<(jZ g p os).length:=w;have t:(jZ g p []).length<=(jZ g p os).length:=by rw[G];exact w
 by_cases hi:i<p.cs.length
 .have A:∀o,o∈(upto (i+1).toNat).flatMap (pa g p)↔o∈os\/o∈pa g p i:=λo=>by rw[wi i0,bF,List.mem_append,<-D];simp
  simp[hi];refine fD ?_;refine Yc (f84 (gt p.cs i)) ?_;simp
  by_cases n:jD (gt p.cs i)=p.side
  .obtain⟨m0,m1,m2,m3⟩:=F4 M.1 n;have L:=u.cs _ (fZ i0 hi);have K:gi (gt p.cs i)<g.kinds.length:=xt L.2 P.1;have W:(gt g.kinds (gi (gt p.cs i))).iS.length<=4:=(hg.iS _ (fZ m0 K)).1;have B:pa g p i=(gt g.kinds (gi (gt p.cs i))).iS.flatMap (tM g p i):=by unfold pa;rw[if_pos n]
   simp[n,show¬gi (gt p.cs i)<0 by omega];refine fD ?_;refine fO.e ((0,os):Int×List gy) (λy=>[(0,.iH 5),(1,.fV p.cells),(2,.fV g.cells),(4,.i i),(14,dI p.cs),(15,.i p.cs.length),(16,.i i),(40,.i (gt g.kinds (gi (gt p.cs i))).iS.length),(41,.i y.1)]) (λy=>jZ g p y.2) (λy=>0<=y.1/\y.1<=(gt g.kinds (gi (gt p.cs i))).iS.length/\(jZ g p os).length<=(jZ g p y.2).length/\(∀o,o∈y.2↔o∈os\/o∈((gt g.kinds (gi (gt p.cs i))).iS.take y.1.toNat).flatMap (tM g p i))/\y.2.length<=os.length+100000000*y.1.toNat) (λy=>((gt g.kinds (gi (gt p.cs i))).iS.length-y.1).toNat) ?_ ?_
   .simp
   rintro⟨j,f⟩ ⟨j0,j1,j2,j3,j4⟩;dsimp only at j0 j1 j2 j3 j4 ⊢;have l:=Pv g p f;have F:5<(jZ g p f).length:=l
   by_cases v:j<(gt g.kinds (gi (gt p.cs i))).iS.length
   .simp[v];refine Yq (f85 g hg p u i j ⟨i0,hi⟩ n ⟨j0,v⟩) λr E=>?_;simp;refine fO.e ((0,f):Int×List gy) (λy=>[(0,.iH 5),(1,.fV p.cells),(2,.fV g.cells),(4,.i i),(14,dI p.cs),(15,.i p.cs.length),(16,.i i),(40,.i (gt g.kinds (gi (gt p.cs i))).iS.length),(41,.i j),(52,dN 6 gy.cells r),(53,.i r.length),(54,.i y.1)]) (λy=>jZ g p y.2) (λy=>0<=y.1/\y.1<=r.length/\(jZ g p f).length<=(jZ g p y.2).length/\(∀o,o∈y.2↔o∈f\/o∈r.take y.1.toNat)/\y.2.length<=f.length+y.1.toNat) (λy=>(r.length-y.1).toNat) ?_ ?_
    .simp
    rintro⟨k,a⟩ ⟨k0,k1,k2,k3,k4⟩;dsimp only at k0 k1 k2 k3 k4 ⊢
    by_cases s:k<r.length
    .have S:a.length<2 ^ 39:=by have:=E.2;omega
     have R:=YH a;have d:=Sz a;have c:=Nat.le_trans k2 (adC g p a (gt r k))
     have m:∀o,o∈a ++ [gt r k]↔o∈f\/o∈r.take (k+1).toNat:=λo=>by rw[iO k0 s,List.mem_append,List.mem_append,k3,or_assoc]
     by_cases h1:a = []
     .subst h1;rw[CI g p]at *;simp[s];refine fD ?_;refine rK.r (rf:=6016) (env0:=[(7,.ptr 2 0 0),(8,.ptr 3 0 0)]) (Rd:=pI) (by simp) rfl rfl pI.a pI.b (oP rfl) (oP rfl) ?_;cases b:(gt r k).jq
      .simp[pI,b,d];refine jw d ?_;rw[CJ ([] ++ [gt r k]) ?_ l c ?_]
       .simp;refine LJ.i (k+1,[] ++ [gt r k]) rfl ?_ rfl rfl ?_
        .dsimp only;rw[xf g p (os:=[] ++ [gt r k]) (by simp) (by rw[oh,b];simp;rfl)];simp[lP,jP,b,iQ]
        .exact gx ⟨c,m,by dsimp only at k4 ⊢;simp at k4 ⊢;omega⟩
       .rw[xf g p (os:=[] ++ [gt r k]) (by simp) (by rw[oh,b];simp;rfl)];simp[lP,jP,b,iQ]
       .simp;omega
      .simp[pI,b,d];refine jw d ?_;rw[CJ ([] ++ [gt r k]) ?_ l c ?_]
       .simp;refine LJ.i (k+1,[] ++ [gt r k]) rfl ?_ rfl rfl ?_
        .dsimp only;rw[sU g p (os:=[] ++ [gt r k]) (by simp) (by rw[oh,b];simp)];simp[lP,jP,b,iQ]
        .exact gx ⟨c,m,by dsimp only at k4 ⊢;simp at k4 ⊢;omega⟩
       .rw[sU g p (os:=[] ++ [gt r k]) (by simp) (by rw[oh,b];simp)];simp[lP,jP,b,iQ]
       .simp;omega
     .by_cases e:jP a = []
      .have h:a.length-1+1=a.length:=by have:=av.2 h1;omega
       rw[xf g p h1 e]at *;simp[s];refine fD ?_;refine rK.r (rf:=6016) (env0:=[(7,.ptr 2 0 0),(8,.ptr 3 0 0)]) (Rd:=pI) (by simp) rfl rfl pI.a pI.b (oP rfl) (oP rfl) ?_;cases b:(gt r k).jq
       .simp[pI,b,d];refine jw d ?_;rw[CJ (a ++ [gt r k]) ?_ l c ?_]
        .simp;refine LJ.i (k+1,a ++ [gt r k]) rfl ?_ rfl rfl ?_
         .dsimp only;rw[xf g p (os:=a ++ [gt r k]) (by simp) (by rw[oh,b];simp;exact e)];simp[x5,oh,b,e,iQ,h]
         .exact gx ⟨c,m,by dsimp only at k4 ⊢;simp at k4 ⊢;omega⟩
        .rw[xf g p (os:=a ++ [gt r k]) (by simp) (by rw[oh,b];simp;exact e)];simp[x5,oh,b,e,iQ,h]
        .simp;omega
       .simp[pI,b,d];refine jw d ?_;rw[CJ (a ++ [gt r k]) ?_ l c ?_]
        .simp;refine LJ.i (k+1,a ++ [gt r k]) rfl ?_ rfl rfl ?_
         .dsimp only;rw[sU g p (os:=a ++ [gt r k]) (by simp) (by rw[oh,b];simp)];simp[x5,oh,b,e,iQ,h]
         .exact gx ⟨c,m,by dsimp only at k4 ⊢;simp at k4 ⊢;omega⟩
        .rw[sU g p (os:=a ++ [gt r k]) (by simp) (by rw[oh,b];simp)];simp[x5,oh,b,e,iQ,h]
        .simp;omega
      .have h:a.length-1+1=a.length:=by have:=av.2 h1;omega
       have z:(jP a).length-1+1=(jP a).length:=by have:=av.2 e;omega
       rw[sU g p h1 e]at *;simp[s];refine fD ?_;refine rK.r (rf:=6016) (env0:=[(7,.ptr 2 0 0),(8,.ptr 3 0 0)]) (Rd:=pI) (by simp) rfl rfl pI.a pI.b (oP rfl) (oP rfl) ?_;cases b:(gt r k).jq
       .simp[pI,b,d];refine jw d ?_;rw[CJ (a ++ [gt r k]) ?_ l c ?_]
        .simp;refine LJ.i (k+1,a ++ [gt r k]) rfl ?_ rfl rfl ?_
         .dsimp only;rw[sU g p (os:=a ++ [gt r k]) (by simp) (by rw[oh,b];simp;exact e)];simp[x5,oh,b,h,z]
         .exact gx ⟨c,m,by dsimp only at k4 ⊢;simp at k4 ⊢;omega⟩
        .rw[sU g p (os:=a ++ [gt r k]) (by simp) (by rw[oh,b];simp;exact e)];simp[x5,oh,b,h,z]
        .simp;omega
       .simp[pI,b,d];refine jw d ?_;rw[CJ (a ++ [gt r k]) ?_ l c ?_]
        .simp;refine LJ.i (k+1,a ++ [gt r k]) rfl ?_ rfl rfl ?_
         .dsimp only;rw[sU g p (os:=a ++ [gt r k]) (by simp) (by rw[oh,b];simp)];simp[x5,oh,b,h,z]
         .exact gx ⟨c,m,by dsimp only at k4 ⊢;simp at k4 ⊢;omega⟩
        .rw[sU g p (os:=a ++ [gt r k]) (by simp) (by rw[oh,b];simp)];simp[x5,oh,b,h,z]
        .simp;omega
    .have C:r.take k.toNat=r:=kG (by omega);rw[C]at k3
     have Q:∀o,o∈a↔o∈os\/o∈((gt g.kinds (gi (gt p.cs i))).iS.take (j+1).toNat).flatMap (tM g p i):=λo=>by rw[k3,j3,E.1,iO j0 v,bF,List.mem_append,or_assoc];simp
     simp[s,yM (os:=a) l k2,yM (os:=a) w (Nat.le_trans j2 k2),F,I];refine fD ?_;refine LJ.i (j+1,a) rfl rfl rfl rfl ?_;have:=E.2;exact gx ⟨Nat.le_trans j2 k2,Q,by dsimp only at j4 k4 ⊢;omega⟩
   .have C:(gt g.kinds (gi (gt p.cs i))).iS.take j.toNat=(gt g.kinds (gi (gt p.cs i))).iS:=kG (by omega);rw[C,<-B]at j3;simp[v,yM (os:=f) w j2,I];refine fD ?_;simp[yM (os:=f) q (Nat.le_trans t j2),x];refine LJ.i (i+1,f) rfl rfl rfl rfl ?_;exact⟨by dsimp only;omega,by dsimp only;omega,by dsimp only;omega,λo=>by rw[A,j3],by dsimp only at j4 ⊢;omega⟩
  .have B:pa g p i = []:=by unfold pa;rw[if_neg n]
   rw[B]at A;have H:0<=i+1/\i+1<=p.cs.length/\(∀o,o∈os↔o∈(upto (i+1).toNat).flatMap (pa g p))/\os.length<=400000000*(i+1).toNat:=⟨by omega,by omega,λo=>by rw[A];simp,by omega⟩
   by_cases J:gi (gt p.cs i)<0
   .simp[J];refine fD ?_;simp[yM (os:=os) q t,x];exact LJ.i (i+1,os) rfl rfl rfl rfl (pb H)
   .simp[J,n];refine fD ?_;simp[yM (os:=os) q t,x];exact LJ.i (i+1,os) rfl rfl rfl rfl (pb H)
 .simp[hi,yM (os:=os) q t,x];rw[adB q t (by simp)];refine⟨os,λo=>?_,by omega,rfl⟩;rw[D,pD,show i.toNat=p.cs.length by omega]
