/- 21 -/
import Derived.Test.YtmehofoficaelaaGreatDoorV19
import Derived.Test.YtmehofoficaelaaGreatDoorV20
set_option linter.all false
open Nat renaming le_trans→aE
open List renaming length→List.l
open Int renaming toNat→Int.n
namespace Go.Proofs.YtmehofoficaelaaGreatDoor
open Go Go.AL Classical
set_option maxRecDepth 10000
set_option maxHeartbeats 8000000
abbrev D3(g:gq)(p:Pos)(x y:D):gd:=[.row 43 0 g.cells,.row 46 0 p.cells,.row 47 0 [x],.row 47 0 [y],.jH,.iu 6016 [(7,.ptr 2 0 0),(8,.ptr 3 0 0)] .ready]
def mz(os:List gY):List Pos:=os.map (·.p)
def kz(os:List gY):List Pos:=(os.filter (·.jY)).map (·.p)
def kM(g:gq)(p:Pos)(os:List gY):gd:=
 if os = []then D3 g p .gi .gi else if kz os = []then D3 g p (.gf 6 (os.l-1) 5 0 os.l) .gi ++ [.row 46 (os.l-1) (cl Pos.cells (mz os))]
 else D3 g p (.gf 6 (os.l-1) 5 0 os.l) (.gf 7 ((kz os).l-1) 5 0 (kz os).l) ++ [.row 46 (os.l-1) (cl Pos.cells (mz os)),.row 46 ((kz os).l-1) (cl Pos.cells (kz os))]
def Em(g:gq)(p:Pos):kM g p []=D3 g p .gi .gi:=rfl
def yx(g:gq)(p:Pos){os:List gY}(h:os≠[])(a:kz os = []):kM g p os=D3 g p (.gf 6 (os.l-1) 5 0 os.l) .gi ++ [.row 46 (os.l-1) (cl Pos.cells (mz os))]:=by unfold kM;rw[if_neg h,if_pos a]
def tQ(g:gq)(p:Pos){os:List gY}(h:os≠[])(a:kz os≠[]):kM g p os=D3 g p (.gf 6 (os.l-1) 5 0 os.l) (.gf 7 ((kz os).l-1) 5 0 (kz os).l) ++ [.row 46 (os.l-1) (cl Pos.cells (mz os)),.row 46 ((kz os).l-1) (cl Pos.cells (kz os))]:=by unfold kM;rw[if_neg h,if_neg a]
def pe(os:List gY)(o:gY):kz (os ++ [o])=kz os++(if o.jY then [o.p]else []):=by unfold kz;rw[dt,List.map_append];cases h:o.jY<;>simp[h]
def zn(os:List gY)(o:gY):mz (os ++ [o])=mz os ++ [o.p]:=by simp[mz]
def UK(os:List gY):(mz os).l=os.l:=by simp[mz]
def abj(os:List gY):(kz os).l<=os.l:=by unfold kz;rw[List.length_map];exact List.length_filter_le _ _
def RP(g:gq)(p:Pos)(os:List gY):(kM g p os).l=if os = []then 6 else if kz os = []then 7 else 8:=by
 unfold kM;split
 .rfl
 .split<;>rfl
def RO(g:gq)(p:Pos)(os:List gY):6<=(kM g p os).l:=by rw[RP];split<;>(try split)<;>omega
def agd(g:gq)(p:Pos)(os:List gY)(o:gY):(kM g p os).l<=(kM g p (os ++ [o])).l:=by
 rw[RP,RP,if_neg (fZ:os ++ [o]≠[])]
 by_cases a:kz os = []
 .rw[if_pos a];split<;>split<;>omega
 .rw[if_neg a,if_neg (show kz (os ++ [o])≠[]by rw[pe];simp[a])];split<;>omega
def Ym{g:gq}{p:Pos}{os:List gY}{n:Nat}(c:6<=n)(a:n<=(kM g p os).l):dedup ((((kM g p os).take n).map (o9 n)).flatten.filter (· < (kM g p os).l))=List.range' n ((kM g p os).l-n):=by
 by_cases h:os = []
 .subst h;have:n=6:=by rw[Em]at a;simp at a;omega
  subst this;rw[Em];simp
 .by_cases b:kz os = []
  .rw[yx g p h b]at *;have:n=6\/n=7:=by simp at a;omega
   rcases this with rfl|rfl<;>simp<;>rfl
  .rw[tQ g p h b]at *;have:n=6\/n=7\/n=8:=by simp at a;omega
   rcases this with rfl|rfl|rfl<;>simp<;>rfl
def Yl(g:gq)(p:Pos)(os:List gY):jz (kM g p os).l (kM g p os):=by
 by_cases h:os = []
 .subst h;rw[Em];simp
 .by_cases a:kz os = []
  .rw[yx g p h a];simp
  .rw[tQ g p h a];simp
def z'{g:gq}{p:Pos}{os:List gY}{n:Nat}{live:List Nat}{env:Env}{r:Bool}(c:6<=n)(a:n<=(kM g p os).l)(b:((forget live env).all λp=>jG n p.2)=true) :
  cut n live { env:=env,H:=kM g p os,marks:=[],iG:=r } = { env:=forget live env,H:=kM g p os,marks:=[],iG:=r }:=ac8 a b (Ym c a) (Yl g p os)
def agc{g:gq}{p:Pos}{os:List gY}{n:Nat}{d:D}(c:6<=n)(a:n<=(kM g p os).l)(b:jG n d=true):leave 0 n (kM g p os) d=(d,kM g p os):=ag9 a b (Ym c a) (Yl g p os)
def En{g:gq}{p:Pos}(os:List gY){n:Nat}{live:List Nat}{env:Env}{H:gd}{r:Bool}(c:H=kM g p os)(d:6<=n)(a:n<=(kM g p os).l)(b:((forget live env).all λp=>jG n p.2)=true) :
  cut n live { env:=env,H:=H,marks:=[],iG:=r } = { env:=forget live env,H:=H,marks:=[],iG:=r }:=by
 subst c;exact z' d a b
def f83(g:gq)(hg:gR g)(p:Pos)(u:iC g p):Wf T 213 [.iQ 5,.gC p.cells,.gC g.cells] (kM g p []) (λ_ H'=>∃os,(∀o,o∈os↔o∈qu g p)/\os.l<=3600000000/\H'=kM g p os):=by
 have V:=u.size;have W:=hg.jU.size;have P:=hg.kinds;have L:=u.side;have G:(kM g p []).l=6:=rfl;have q:=RO g p [];have x:5<(kM g p []).l:=q;refine Yg LY ?_;simp[LY];refine gx.e ((0,[]):Int×List gY) (λy=>[(0,.iQ 5),(1,.gC p.cells),(2,.gC g.cells),(14,dI p.cs),(15,.i p.cs.l),(16,.i y.1)]) (λy=>kM g p y.2) (λy=>0<=y.1/\y.1<=p.cs.l/\(∀o,o∈y.2↔o∈(upto y.1.n).flatMap (p6 g p))/\y.2.l<=400000000*y.1.n) (λy=>(p.cs.l-y.1).n) ?_ ?_
 .simp
 rintro⟨i,os⟩ ⟨i0,O,D,N⟩;dsimp only at i0 O D N ⊢;have w:=RO g p os;have I:5<(kM g p os).l:=w;have t:(kM g p []).l<=(kM g p os).l:=by rw[G];exact w
 by_cases hi:i<p.cs.l
 .have A:∀o,o∈(upto (i+1).n).flatMap (p6 g p)↔o∈os\/o∈p6 g p i:=λo=>by rw[xE i0,bK,aj,<-D];simp
  simp[hi];refine gh ?_;refine Yc (f84 (gt p.cs i)) ?_;simp
  by_cases n:kh (gt p.cs i)=p.side
  .obtain⟨m0,m1,m2,m3⟩:=Iq L.1 n;have M:=u.cs _ (gF i0 hi);have K:gN (gt p.cs i)<g.kinds.l:=yI M.2 P.1;have S:(gt g.kinds (gN (gt p.cs i))).jA.l<=4:=(hg.jA _ (gF m0 K)).1;have B:p6 g p i=(gt g.kinds (gN (gt p.cs i))).jA.flatMap (uZ g p i):=by unfold p6;rw[if_pos n]
   simp[n,(U:¬gN (gt p.cs i)<0)];refine gh ?_;refine gx.e ((0,os):Int×List gY) (λy=>[(0,.iQ 5),(1,.gC p.cells),(2,.gC g.cells),(4,.i i),(14,dI p.cs),(15,.i p.cs.l),(16,.i i),(40,.i (gt g.kinds (gN (gt p.cs i))).jA.l),(41,.i y.1)]) (λy=>kM g p y.2) (λy=>0<=y.1/\y.1<=(gt g.kinds (gN (gt p.cs i))).jA.l/\(kM g p os).l<=(kM g p y.2).l/\(∀o,o∈y.2↔o∈os\/o∈((gt g.kinds (gN (gt p.cs i))).jA.take y.1.n).flatMap (uZ g p i))/\y.2.l<=os.l+100000000*y.1.n) (λy=>((gt g.kinds (gN (gt p.cs i))).jA.l-y.1).n) ?_ ?_
   .simp
   rintro⟨j,f⟩ ⟨j0,j1,j2,j3,j4⟩;dsimp only at j0 j1 j2 j3 j4 ⊢;have l:=RO g p f;have F:5<(kM g p f).l:=l
   by_cases v:j<(gt g.kinds (gN (gt p.cs i))).jA.l
   .simp[v];refine Yq (f85 g hg p u i j ⟨i0,hi⟩ n ⟨j0,v⟩) λr E=>?_;simp;refine gx.e ((0,f):Int×List gY) (λy=>[(0,.iQ 5),(1,.gC p.cells),(2,.gC g.cells),(4,.i i),(14,dI p.cs),(15,.i p.cs.l),(16,.i i),(40,.i (gt g.kinds (gN (gt p.cs i))).jA.l),(41,.i j),(52,dN 6 gY.cells r),(53,.i r.l),(54,.i y.1)]) (λy=>kM g p y.2) (λy=>0<=y.1/\y.1<=r.l/\(kM g p f).l<=(kM g p y.2).l/\(∀o,o∈y.2↔o∈f\/o∈r.take y.1.n)/\y.2.l<=f.l+y.1.n) (λy=>(r.l-y.1).n) ?_ ?_
    .simp
    rintro⟨k,a⟩ ⟨k0,k1,k2,k3,k4⟩;dsimp only at k0 k1 k2 k3 k4 ⊢
    by_cases s:k<r.l
    .have R:a.l<2 ^ 39:=by have:=E.2;omega
     have X:=abj a;have d:=UK a;have c:=aE k2 (agd g p a (gt r k))
     have m:∀o,o∈a ++ [gt r k]↔o∈f\/o∈r.take (k+1).n:=λo=>by rw[jt k0 s,aj,aj,k3,or_assoc]
     by_cases h1:a = []
     .subst h1;rw[Em g p]at *;simp[s];refine gh ?_;refine q'.r (rf:=6016) (env0:=[(7,.ptr 2 0 0),(8,.ptr 3 0 0)]) (Rd:=qy) fZ rfl rfl qy.a qy.b (oT rfl) (oT rfl) ?_;cases b:(gt r k).jY
      .simp[qy,b,d];refine jT d ?_;rw[En ([] ++ [gt r k]) ?_ l c ?_]
       .simp;refine LJ.i (k+1,[] ++ [gt r k]) rfl ?_ rfl rfl ?_
        .dsimp only;rw[yx g p (os:=[] ++ [gt r k]) fZ (by rw[pe,b];simp;rfl)];simp[mz,kz,b,je]
        .exact gX ⟨c,m,by dsimp only at k4 ⊢;simp at k4 ⊢;omega⟩
       .rw[yx g p (os:=[] ++ [gt r k]) fZ (by rw[pe,b];simp;rfl)];simp[mz,kz,b,je]
       .simp;omega
      .simp[qy,b,d];refine jT d ?_;rw[En ([] ++ [gt r k]) ?_ l c ?_]
       .simp;refine LJ.i (k+1,[] ++ [gt r k]) rfl ?_ rfl rfl ?_
        .dsimp only;rw[tQ g p (os:=[] ++ [gt r k]) fZ (by rw[pe,b];simp)];simp[mz,kz,b,je]
        .exact gX ⟨c,m,by dsimp only at k4 ⊢;simp at k4 ⊢;omega⟩
       .rw[tQ g p (os:=[] ++ [gt r k]) fZ (by rw[pe,b];simp)];simp[mz,kz,b,je]
       .simp;omega
     .by_cases e:kz a = []
      .have h:a.l-1+1=a.l:=by have:=ay.2 h1;omega
       rw[yx g p h1 e]at *;simp[s];refine gh ?_;refine q'.r (rf:=6016) (env0:=[(7,.ptr 2 0 0),(8,.ptr 3 0 0)]) (Rd:=qy) fZ rfl rfl qy.a qy.b (oT rfl) (oT rfl) ?_;cases b:(gt r k).jY
       .simp[qy,b,d];refine jT d ?_;rw[En (a ++ [gt r k]) ?_ l c ?_]
        .simp;refine LJ.i (k+1,a ++ [gt r k]) rfl ?_ rfl rfl ?_
         .dsimp only;rw[yx g p (os:=a ++ [gt r k]) fZ (by rw[pe,b];simp;exact e)];simp[zn,pe,b,e,je,h]
         .exact gX ⟨c,m,by dsimp only at k4 ⊢;simp at k4 ⊢;omega⟩
        .rw[yx g p (os:=a ++ [gt r k]) fZ (by rw[pe,b];simp;exact e)];simp[zn,pe,b,e,je,h]
        .simp;omega
       .simp[qy,b,d];refine jT d ?_;rw[En (a ++ [gt r k]) ?_ l c ?_]
        .simp;refine LJ.i (k+1,a ++ [gt r k]) rfl ?_ rfl rfl ?_
         .dsimp only;rw[tQ g p (os:=a ++ [gt r k]) fZ (by rw[pe,b];simp)];simp[zn,pe,b,e,je,h]
         .exact gX ⟨c,m,by dsimp only at k4 ⊢;simp at k4 ⊢;omega⟩
        .rw[tQ g p (os:=a ++ [gt r k]) fZ (by rw[pe,b];simp)];simp[zn,pe,b,e,je,h]
        .simp;omega
      .have h:a.l-1+1=a.l:=by have:=ay.2 h1;omega
       have z:(kz a).l-1+1=(kz a).l:=by have:=ay.2 e;omega
       rw[tQ g p h1 e]at *;simp[s];refine gh ?_;refine q'.r (rf:=6016) (env0:=[(7,.ptr 2 0 0),(8,.ptr 3 0 0)]) (Rd:=qy) fZ rfl rfl qy.a qy.b (oT rfl) (oT rfl) ?_;cases b:(gt r k).jY
       .simp[qy,b,d];refine jT d ?_;rw[En (a ++ [gt r k]) ?_ l c ?_]
        .simp;refine LJ.i (k+1,a ++ [gt r k]) rfl ?_ rfl rfl ?_
         .dsimp only;rw[tQ g p (os:=a ++ [gt r k]) fZ (by rw[pe,b];simp;exact e)];simp[zn,pe,b,h,z]
         .exact gX ⟨c,m,by dsimp only at k4 ⊢;simp at k4 ⊢;omega⟩
        .rw[tQ g p (os:=a ++ [gt r k]) fZ (by rw[pe,b];simp;exact e)];simp[zn,pe,b,h,z]
        .simp;omega
       .simp[qy,b,d];refine jT d ?_;rw[En (a ++ [gt r k]) ?_ l c ?_]
        .simp;refine LJ.i (k+1,a ++ [gt r k]) rfl ?_ rfl rfl ?_
         .dsimp only;rw[tQ g p (os:=a ++ [gt r k]) fZ (by rw[pe,b];simp)];simp[zn,pe,b,h,z]
         .exact gX ⟨c,m,by dsimp only at k4 ⊢;simp at k4 ⊢;omega⟩
        .rw[tQ g p (os:=a ++ [gt r k]) fZ (by rw[pe,b];simp)];simp[zn,pe,b,h,z]
        .simp;omega
    .have C:r.take k.n=r:=lC U;rw[C]at k3
     have Q:∀o,o∈a↔o∈os\/o∈((gt g.kinds (gN (gt p.cs i))).jA.take (j+1).n).flatMap (uZ g p i):=λo=>by rw[k3,j3,E.1,jt j0 v,bK,aj,or_assoc];simp
     simp[s,z' (os:=a) l k2,z' (os:=a) w (aE j2 k2),F,I];refine gh ?_;refine LJ.i (j+1,a) rfl rfl rfl rfl ?_;have:=E.2;exact gX ⟨aE j2 k2,Q,by dsimp only at j4 k4 ⊢;omega⟩
   .have C:(gt g.kinds (gN (gt p.cs i))).jA.take j.n=(gt g.kinds (gN (gt p.cs i))).jA:=lC U;rw[C,<-B]at j3;simp[v,z' (os:=f) w j2,I];refine gh ?_;simp[z' (os:=f) q (aE t j2),x];refine LJ.i (i+1,f) rfl rfl rfl rfl ?_;exact⟨gJ,gJ,gJ,λo=>by rw[A,j3],by dsimp only at j4 ⊢;omega⟩
  .have B:p6 g p i = []:=by unfold p6;rw[if_neg n]
   rw[B]at A;have H:0<=i+1/\i+1<=p.cs.l/\(∀o,o∈os↔o∈(upto (i+1).n).flatMap (p6 g p))/\os.l<=400000000*(i+1).n:=⟨U,U,λo=>by rw[A];simp,U⟩
   by_cases J:gN (gt p.cs i)<0
   .simp[J];refine gh ?_;simp[z' (os:=os) q t,x];exact LJ.i (i+1,os) rfl rfl rfl rfl (pG H)
   .simp[J,n];refine gh ?_;simp[z' (os:=os) q t,x];exact LJ.i (i+1,os) rfl rfl rfl rfl (pG H)
 .simp[hi,z' (os:=os) q t,x];rw[agc q t fZ];refine⟨os,λo=>?_,U,rfl⟩;rw[D,qu,(U:i.n=p.cs.l)]
