/- Part 21 of DisputeWorkers. -/
import Derived.Test.YtmehofoficaelaaGreatDoorW19
import Derived.Test.YtmehofoficaelaaGreatDoorW20
set_option linter.all false
namespace Go.Proofs.YtmehofoficaelaaGreatDoor
open Go Go.AL Classical
set_option maxRecDepth 10000
set_option maxHeartbeats 8000000
abbrev DU(g:gi)(p:Pos)(x y:D):U:=[.row 43 0 g.cells,.row 46 0 p.cells,.row 47 0 [x],.row 47 0 [y],.ja,.ib 6016 [(7,.ptr 2 0 0),(8,.ptr 3 0 0)] .ready]
def mm(os:List gQ):List Pos:=os.map (·.p)
def km(os:List gQ):List Pos:=(os.filter (·.jN)).map (·.p)
def kG(g:gi)(p:Pos)(os:List gQ):U:=
 if os = []then DU g p .gg .gg else if km os = []then DU g p (.fY 6 (os.length-1) 5 0 os.length) .gg ++ [.row 46 (os.length-1) (cl Pos.cells (mm os))]
 else DU g p (.fY 6 (os.length-1) 5 0 os.length) (.fY 7 ((km os).length-1) 5 0 (km os).length) ++ [.row 46 (os.length-1) (cl Pos.cells (mm os)),.row 46 ((km os).length-1) (cl Pos.cells (km os))]
theorem Ea(g:gi)(p:Pos):kG g p []=DU g p .gg .gg:=rfl
theorem yv(g:gi)(p:Pos){os:List gQ}(h:os≠[])(a:km os = []):kG g p os=DU g p (.fY 6 (os.length-1) 5 0 os.length) .gg ++ [.row 46 (os.length-1) (cl Pos.cells (mm os))]:=by unfold kG;rw[if_neg h,if_pos a]
theorem tS(g:gi)(p:Pos){os:List gQ}(h:os≠[])(a:km os≠[]):kG g p os=DU g p (.fY 6 (os.length-1) 5 0 os.length) (.fY 7 ((km os).length-1) 5 0 (km os).length) ++ [.row 46 (os.length-1) (cl Pos.cells (mm os)),.row 46 ((km os).length-1) (cl Pos.cells (km os))]:=by unfold kG;rw[if_neg h,if_neg a]
theorem o7(os:List gQ)(o:gQ):km (os ++ [o])=km os++(if o.jN then [o.p]else []):=by unfold km;rw[dj,List.map_append];cases h:o.jN<;>simp[h]
theorem zj(os:List gQ)(o:gQ):mm (os ++ [o])=mm os ++ [o.p]:=by simp[mm]
theorem UM(os:List gQ):(mm os).length=os.length:=by simp[mm]
theorem aa8(os:List gQ):(km os).length<=os.length:=by unfold km;rw[List.length_map];exact List.length_filter_le _ _
theorem RM(g:gi)(p:Pos)(os:List gQ):(kG g p os).length=if os = []then 6 else if km os = []then 7 else 8:=by
 unfold kG;split
 .rfl
 .split<;>rfl
theorem RL(g:gi)(p:Pos)(os:List gQ):6<=(kG g p os).length:=by rw[RM];split<;>(try split)<;>omega
theorem af8(g:gi)(p:Pos)(os:List gQ)(o:gQ):(kG g p os).length<=(kG g p (os ++ [o])).length:=by
 rw[RM,RM,if_neg (show os ++ [o]≠[]by simp)]
 by_cases a:km os = []
 .rw[if_pos a];split<;>split<;>omega
 .rw[if_neg a,if_neg (show km (os ++ [o])≠[]by rw[o7];simp[a])];split<;>omega
theorem X'{g:gi}{p:Pos}{os:List gQ}{n:Nat}(c:6<=n)(a:n<=(kG g p os).length):dedup ((((kG g p os).take n).map (oZ n)).flatten.filter (· < (kG g p os).length))=List.range' n ((kG g p os).length-n):=by
 by_cases h:os = []
 .subst h;have:n=6:=by rw[Ea]at a;simp at a;omega
  subst this;rw[Ea];simp
 .by_cases b:km os = []
  .rw[yv g p h b]at *;have:n=6\/n=7:=by simp at a;omega
   rcases this with rfl|rfl<;>simp<;>rfl
  .rw[tS g p h b]at *;have:n=6\/n=7\/n=8:=by simp at a;omega
   rcases this with rfl|rfl|rfl<;>simp<;>rfl
theorem X9(g:gi)(p:Pos)(os:List gQ):jj (kG g p os).length (kG g p os):=by
 by_cases h:os = []
 .subst h;rw[Ea];simp
 .by_cases a:km os = []
  .rw[yv g p h a];simp
  .rw[tS g p h a];simp
theorem Ac{g:gi}{p:Pos}{os:List gQ}{n:Nat}{live:List Nat}{env:Env}{r:Bool}(c:6<=n)(a:n<=(kG g p os).length)(b:((forget live env).all λp=>ju n p.2)=true) :
  cut n live { env:=env,H:=kG g p os,marks:=[],iD:=r } = { env:=forget live env,H:=kG g p os,marks:=[],iD:=r }:=ac1 a b (X' c a) (X9 g p os)
theorem af7{g:gi}{p:Pos}{os:List gQ}{n:Nat}{d:D}(c:6<=n)(a:n<=(kG g p os).length)(b:ju n d=true):leave 0 n (kG g p os) d=(d,kG g p os):=ag5 a b (X' c a) (X9 g p os)
theorem Eb{g:gi}{p:Pos}(os:List gQ){n:Nat}{live:List Nat}{env:Env}{H:U}{r:Bool}(c:H=kG g p os)(d:6<=n)(a:n<=(kG g p os).length)(b:((forget live env).all λp=>ju n p.2)=true) :
  cut n live { env:=env,H:=H,marks:=[],iD:=r } = { env:=forget live env,H:=H,marks:=[],iD:=r }:=by
 subst c;exact Ac d a b
theorem f83(g:gi)(hg:gV g)(p:Pos)(u:iw g p):Wf T 213 [.iT 5,.gu p.cells,.gu g.cells] (kG g p []) (λ_ H'=>∃os,(∀o,o∈os↔o∈qp g p)/\os.length<=3600000000/\H'=kG g p os):=by
 have U:=u.size;have V:=hg.jJ.size;have P:=hg.kinds;have L:=u.side;have G:(kG g p []).length=6:=rfl;have q:=RL g p [];have x:5<(kG g p []).length:=q;refine Yg L4 ?_;simp[L4];refine gj.e ((0,[]):Int×List gQ) (λy=>[(0,.iT 5),(1,.gu p.cells),(2,.gu g.cells),(14,dI p.cs),(15,.i p.cs.length),(16,.i y.1)]) (λy=>kG g p y.2) (λy=>0<=y.1/\y.1<=p.cs.length/\(∀o,o∈y.2↔o∈(upto y.1.toNat).flatMap (p8 g p))/\y.2.length<=400000000*y.1.toNat) (λy=>(p.cs.length-y.1).toNat) ?_ ?_
 .simp
 rintro⟨i,os⟩ ⟨i0,O,D,N⟩;dsimp only at i0 O D N ⊢;have w:=RL g p os;have I:5<(kG g p os).length:=w;have t:(kG g p []).length<=(kG g p os).length:=by rw[G];exact w
 by_cases hi:i<p.cs.length
 .have A:∀o,o∈(upto (i+1).toNat).flatMap (p8 g p)↔o∈os\/o∈p8 g p i:=λo=>by rw[xA i0,bO,List.mem_append,<-D];simp
  simp[hi];refine gd ?_;refine Yc (f84 (gt p.cs i)) ?_;simp
  by_cases n:jY (gt p.cs i)=p.side
  .obtain⟨m0,m1,m2,m3⟩:=Ic L.1 n;have M:=u.cs _ (gy i0 hi);have K:gJ (gt p.cs i)<g.kinds.length:=yG M.2 P.1;have S:(gt g.kinds (gJ (gt p.cs i))).jt.length<=4:=(hg.jt _ (gy m0 K)).1;have B:p8 g p i=(gt g.kinds (gJ (gt p.cs i))).jt.flatMap (u0 g p i):=by unfold p8;rw[if_pos n]
   simp[n,show¬gJ (gt p.cs i)<0 by omega];refine gd ?_;refine gj.e ((0,os):Int×List gQ) (λy=>[(0,.iT 5),(1,.gu p.cells),(2,.gu g.cells),(4,.i i),(14,dI p.cs),(15,.i p.cs.length),(16,.i i),(40,.i (gt g.kinds (gJ (gt p.cs i))).jt.length),(41,.i y.1)]) (λy=>kG g p y.2) (λy=>0<=y.1/\y.1<=(gt g.kinds (gJ (gt p.cs i))).jt.length/\(kG g p os).length<=(kG g p y.2).length/\(∀o,o∈y.2↔o∈os\/o∈((gt g.kinds (gJ (gt p.cs i))).jt.take y.1.toNat).flatMap (u0 g p i))/\y.2.length<=os.length+100000000*y.1.toNat) (λy=>((gt g.kinds (gJ (gt p.cs i))).jt.length-y.1).toNat) ?_ ?_
   .simp
   rintro⟨j,f⟩ ⟨j0,j1,j2,j3,j4⟩;dsimp only at j0 j1 j2 j3 j4 ⊢;have l:=RL g p f;have F:5<(kG g p f).length:=l
   by_cases v:j<(gt g.kinds (gJ (gt p.cs i))).jt.length
   .simp[v];refine Yq (f85 g hg p u i j ⟨i0,hi⟩ n ⟨j0,v⟩) λr E=>?_;simp;refine gj.e ((0,f):Int×List gQ) (λy=>[(0,.iT 5),(1,.gu p.cells),(2,.gu g.cells),(4,.i i),(14,dI p.cs),(15,.i p.cs.length),(16,.i i),(40,.i (gt g.kinds (gJ (gt p.cs i))).jt.length),(41,.i j),(52,dN 6 gQ.cells r),(53,.i r.length),(54,.i y.1)]) (λy=>kG g p y.2) (λy=>0<=y.1/\y.1<=r.length/\(kG g p f).length<=(kG g p y.2).length/\(∀o,o∈y.2↔o∈f\/o∈r.take y.1.toNat)/\y.2.length<=f.length+y.1.toNat) (λy=>(r.length-y.1).toNat) ?_ ?_
    .simp
    rintro⟨k,a⟩ ⟨k0,k1,k2,k3,k4⟩;dsimp only at k0 k1 k2 k3 k4 ⊢
    by_cases s:k<r.length
    .have R:a.length<2 ^ 39:=by have:=E.2;omega
     have W:=aa8 a;have d:=UM a;have c:=Nat.le_trans k2 (af8 g p a (gt r k))
     have m:∀o,o∈a ++ [gt r k]↔o∈f\/o∈r.take (k+1).toNat:=λo=>by rw[jq k0 s,List.mem_append,List.mem_append,k3,or_assoc]
     by_cases h1:a = []
     .subst h1;rw[Ea g p]at *;simp[s];refine gd ?_;refine na.r (rf:=6016) (env0:=[(7,.ptr 2 0 0),(8,.ptr 3 0 0)]) (Rd:=qw) (by simp) rfl rfl qw.a qw.b (nj rfl) (nj rfl) ?_;cases b:(gt r k).jN
      .simp[qw,b,d];refine jP d ?_;rw[Eb ([] ++ [gt r k]) ?_ l c ?_]
       .simp;refine LJ.i (k+1,[] ++ [gt r k]) rfl ?_ rfl rfl ?_
        .dsimp only;rw[yv g p (os:=[] ++ [gt r k]) (by simp) (by rw[o7,b];simp;rfl)];simp[mm,km,b,iQ]
        .exact gO ⟨c,m,by dsimp only at k4 ⊢;simp at k4 ⊢;omega⟩
       .rw[yv g p (os:=[] ++ [gt r k]) (by simp) (by rw[o7,b];simp;rfl)];simp[mm,km,b,iQ]
       .simp;omega
      .simp[qw,b,d];refine jP d ?_;rw[Eb ([] ++ [gt r k]) ?_ l c ?_]
       .simp;refine LJ.i (k+1,[] ++ [gt r k]) rfl ?_ rfl rfl ?_
        .dsimp only;rw[tS g p (os:=[] ++ [gt r k]) (by simp) (by rw[o7,b];simp)];simp[mm,km,b,iQ]
        .exact gO ⟨c,m,by dsimp only at k4 ⊢;simp at k4 ⊢;omega⟩
       .rw[tS g p (os:=[] ++ [gt r k]) (by simp) (by rw[o7,b];simp)];simp[mm,km,b,iQ]
       .simp;omega
     .by_cases e:km a = []
      .have h:a.length-1+1=a.length:=by have:=ax.2 h1;omega
       rw[yv g p h1 e]at *;simp[s];refine gd ?_;refine na.r (rf:=6016) (env0:=[(7,.ptr 2 0 0),(8,.ptr 3 0 0)]) (Rd:=qw) (by simp) rfl rfl qw.a qw.b (nj rfl) (nj rfl) ?_;cases b:(gt r k).jN
       .simp[qw,b,d];refine jP d ?_;rw[Eb (a ++ [gt r k]) ?_ l c ?_]
        .simp;refine LJ.i (k+1,a ++ [gt r k]) rfl ?_ rfl rfl ?_
         .dsimp only;rw[yv g p (os:=a ++ [gt r k]) (by simp) (by rw[o7,b];simp;exact e)];simp[zj,o7,b,e,iQ,h]
         .exact gO ⟨c,m,by dsimp only at k4 ⊢;simp at k4 ⊢;omega⟩
        .rw[yv g p (os:=a ++ [gt r k]) (by simp) (by rw[o7,b];simp;exact e)];simp[zj,o7,b,e,iQ,h]
        .simp;omega
       .simp[qw,b,d];refine jP d ?_;rw[Eb (a ++ [gt r k]) ?_ l c ?_]
        .simp;refine LJ.i (k+1,a ++ [gt r k]) rfl ?_ rfl rfl ?_
         .dsimp only;rw[tS g p (os:=a ++ [gt r k]) (by simp) (by rw[o7,b];simp)];simp[zj,o7,b,e,iQ,h]
         .exact gO ⟨c,m,by dsimp only at k4 ⊢;simp at k4 ⊢;omega⟩
        .rw[tS g p (os:=a ++ [gt r k]) (by simp) (by rw[o7,b];simp)];simp[zj,o7,b,e,iQ,h]
        .simp;omega
      .have h:a.length-1+1=a.length:=by have:=ax.2 h1;omega
       have z:(km a).length-1+1=(km a).length:=by have:=ax.2 e;omega
       rw[tS g p h1 e]at *;simp[s];refine gd ?_;refine na.r (rf:=6016) (env0:=[(7,.ptr 2 0 0),(8,.ptr 3 0 0)]) (Rd:=qw) (by simp) rfl rfl qw.a qw.b (nj rfl) (nj rfl) ?_;cases b:(gt r k).jN
       .simp[qw,b,d];refine jP d ?_;rw[Eb (a ++ [gt r k]) ?_ l c ?_]
        .simp;refine LJ.i (k+1,a ++ [gt r k]) rfl ?_ rfl rfl ?_
         .dsimp only;rw[tS g p (os:=a ++ [gt r k]) (by simp) (by rw[o7,b];simp;exact e)];simp[zj,o7,b,h,z]
         .exact gO ⟨c,m,by dsimp only at k4 ⊢;simp at k4 ⊢;omega⟩
        .rw[tS g p (os:=a ++ [gt r k]) (by simp) (by rw[o7,b];simp;exact e)];simp[zj,o7,b,h,z]
        .simp;omega
       .simp[qw,b,d];refine jP d ?_;rw[Eb (a ++ [gt r k]) ?_ l c ?_]
        .simp;refine LJ.i (k+1,a ++ [gt r k]) rfl ?_ rfl rfl ?_
         .dsimp only;rw[tS g p (os:=a ++ [gt r k]) (by simp) (by rw[o7,b];simp)];simp[zj,o7,b,h,z]
         .exact gO ⟨c,m,by dsimp only at k4 ⊢;simp at k4 ⊢;omega⟩
        .rw[tS g p (os:=a ++ [gt r k]) (by simp) (by rw[o7,b];simp)];simp[zj,o7,b,h,z]
        .simp;omega
    .have C:r.take k.toNat=r:=ln (by omega);rw[C]at k3
     have Q:∀o,o∈a↔o∈os\/o∈((gt g.kinds (gJ (gt p.cs i))).jt.take (j+1).toNat).flatMap (u0 g p i):=λo=>by rw[k3,j3,E.1,jq j0 v,bO,List.mem_append,or_assoc];simp
     simp[s,Ac (os:=a) l k2,Ac (os:=a) w (Nat.le_trans j2 k2),F,I];refine gd ?_;refine LJ.i (j+1,a) rfl rfl rfl rfl ?_;have:=E.2;exact gO ⟨Nat.le_trans j2 k2,Q,by dsimp only at j4 k4 ⊢;omega⟩
   .have C:(gt g.kinds (gJ (gt p.cs i))).jt.take j.toNat=(gt g.kinds (gJ (gt p.cs i))).jt:=ln (by omega);rw[C,<-B]at j3;simp[v,Ac (os:=f) w j2,I];refine gd ?_;simp[Ac (os:=f) q (Nat.le_trans t j2),x];refine LJ.i (i+1,f) rfl rfl rfl rfl ?_;exact⟨by dsimp only;omega,by dsimp only;omega,by dsimp only;omega,λo=>by rw[A,j3],by dsimp only at j4 ⊢;omega⟩
  .have B:p8 g p i = []:=by unfold p8;rw[if_neg n]
   rw[B]at A;have H:0<=i+1/\i+1<=p.cs.length/\(∀o,o∈os↔o∈(upto (i+1).toNat).flatMap (p8 g p))/\os.length<=400000000*(i+1).toNat:=⟨by omega,by omega,λo=>by rw[A];simp,by omega⟩
   by_cases J:gJ (gt p.cs i)<0
   .simp[J];refine gd ?_;simp[Ac (os:=os) q t,x];exact LJ.i (i+1,os) rfl rfl rfl rfl (pE H)
   .simp[J,n];refine gd ?_;simp[Ac (os:=os) q t,x];exact LJ.i (i+1,os) rfl rfl rfl rfl (pE H)
 .simp[hi,Ac (os:=os) q t,x];rw[af7 q t (by simp)];refine⟨os,λo=>?_,by omega,rfl⟩;rw[D,qp,show i.toNat=p.cs.length by omega]
