/- Part 21 of DisputeMatchesReference. -/
import Derived.Test.YtmehofoficaelaaGreatDoorM19
import Derived.Test.YtmehofoficaelaaGreatDoorM20
set_option linter.all false
open Nat renaming le_trans→aE
open List renaming length→List.l
open Int renaming toNat→Int.n
namespace Go.Proofs.YtmehofoficaelaaGreatDoor
open Go Go.AL Classical
set_option maxRecDepth 10000
set_option maxHeartbeats 8000000
abbrev E'(g:gv)(p:Pos)(x y:D):gg:=[.row 43 0 g.cells,.row 46 0 p.cells,.row 47 0 [x],.row 47 0 [y],.ka,.iE 6016 [(7,.ptr 2 0 0),(8,.ptr 3 0 0)] .ready]
def nf(os:List ij):List Pos:=os.map (·.p)
def kT(os:List ij):List Pos:=(os.filter (·.kn)).map (·.p)
def lx(g:gv)(p:Pos)(os:List ij):gg:=
 if os = []then E' g p .gp .gp else if kT os = []then E' g p (.gh 6 (os.l-1) 5 0 os.l) .gp ++ [.row 46 (os.l-1) (cl Pos.cells (nf os))]
 else E' g p (.gh 6 (os.l-1) 5 0 os.l) (.gh 7 ((kT os).l-1) 5 0 (kT os).l) ++ [.row 46 (os.l-1) (cl Pos.cells (nf os)),.row 46 ((kT os).l-1) (cl Pos.cells (kT os))]
def Fw(g:gv)(p:Pos):lx g p []=E' g p .gp .gp:=rfl
def zA(g:gv)(p:Pos){os:List ij}(h:os≠[])(a:kT os = []):lx g p os=E' g p (.gh 6 (os.l-1) 5 0 os.l) .gp ++ [.row 46 (os.l-1) (cl Pos.cells (nf os))]:=by unfold lx;rw[if_neg h,if_pos a]
def ve(g:gv)(p:Pos){os:List ij}(h:os≠[])(a:kT os≠[]):lx g p os=E' g p (.gh 6 (os.l-1) 5 0 os.l) (.gh 7 ((kT os).l-1) 5 0 (kT os).l) ++ [.row 46 (os.l-1) (cl Pos.cells (nf os)),.row 46 ((kT os).l-1) (cl Pos.cells (kT os))]:=by unfold lx;rw[if_neg h,if_neg a]
def p9(os:List ij)(o:ij):kT (os ++ [o])=kT os++(if o.kn then [o.p]else []):=by unfold kT;rw[cT,List.map_append];cases h:o.kn<;>simp[h]
def Aw(os:List ij)(o:ij):nf (os ++ [o])=nf os ++ [o.p]:=by simp[nf]
def V6(os:List ij):(nf os).l=os.l:=by simp[nf]
def acS(os:List ij):(kT os).l<=os.l:=by unfold kT;rw[List.length_map];exact List.length_filter_le _ _
def Te(g:gv)(p:Pos)(os:List ij):(lx g p os).l=if os = []then 6 else if kT os = []then 7 else 8:=by
 unfold lx;split
 .rfl
 .split<;>rfl
def Td(g:gv)(p:Pos)(os:List ij):6<=(lx g p os).l:=by rw[Te];split<;>(try split)<;>omega
def ahJ(g:gv)(p:Pos)(os:List ij)(o:ij):(lx g p os).l<=(lx g p (os ++ [o])).l:=by
 rw[Te,Te,if_neg (gf:os ++ [o]≠[])]
 by_cases a:kT os = []
 .rw[if_pos a];split<;>split<;>omega
 .rw[if_neg a,if_neg (show kT (os ++ [o])≠[]by rw[p9];simp[a])];split<;>omega
def Z0{g:gv}{p:Pos}{os:List ij}{n:Nat}(c:6<=n)(a:n<=(lx g p os).l):dedup ((((lx g p os).take n).map (pZ n)).flatten.filter (· < (lx g p os).l))=List.range' n ((lx g p os).l-n):=by
 by_cases h:os = []
 .subst h;have:n=6:=by rw[Fw]at a;simp at a;omega
  subst this;rw[Fw];simp
 .by_cases b:kT os = []
  .rw[zA g p h b]at *;have:n=6\/n=7:=by simp at a;omega
   rcases this with rfl|rfl<;>simp<;>rfl
  .rw[ve g p h b]at *;have:n=6\/n=7\/n=8:=by simp at a;omega
   rcases this with rfl|rfl|rfl<;>simp<;>rfl
def ZZ(g:gv)(p:Pos)(os:List ij):jM (lx g p os).l (lx g p os):=by
 by_cases h:os = []
 .subst h;rw[Fw];simp
 .by_cases a:kT os = []
  .rw[zA g p h a];simp
  .rw[ve g p h a];simp
def Bf{g:gv}{p:Pos}{os:List ij}{n:Nat}{live:List Nat}{env:Env}{r:Bool}(c:6<=n)(a:n<=(lx g p os).l)(b:((forget live env).all λp=>jW n p.2)=true) :
  cut n live { env:=env,H:=lx g p os,marks:=[],iM:=r } = { env:=forget live env,H:=lx g p os,marks:=[],iM:=r }:=aeF a b (Z0 c a) (ZZ g p os)
def ahI{g:gv}{p:Pos}{os:List ij}{n:Nat}{d:D}(c:6<=n)(a:n<=(lx g p os).l)(b:jW n d=true):leave 0 n (lx g p os) d=(d,lx g p os):=aiA a b (Z0 c a) (ZZ g p os)
def Fx{g:gv}{p:Pos}(os:List ij){n:Nat}{live:List Nat}{env:Env}{H:gg}{r:Bool}(c:H=lx g p os)(d:6<=n)(a:n<=(lx g p os).l)(b:((forget live env).all λp=>jW n p.2)=true) :
  cut n live { env:=env,H:=H,marks:=[],iM:=r } = { env:=forget live env,H:=H,marks:=[],iM:=r }:=by
 subst c;exact Bf d a b
def f83(g:gv)(hg:gZ g)(p:Pos)(v:iI g p):Wf T 213 [.jt 5,.gH p.cells,.gH g.cells] (lx g p []) (λ_ H'=>∃os,(∀o,o∈os↔o∈sj g p)/\os.l<=3600000000/\H'=lx g p os):=by
 have W:=v.size;have X:=hg.ki.size;have Q:=hg.kinds;have N:=v.side;have G:(lx g p []).l=6:=rfl;have q:=Td g p [];have z:5<(lx g p []).l:=q;refine Yg Nb ?_;simp[Nb];refine gx.e ((0,[]):Int×List ij) (λy=>[(0,.jt 5),(1,.gH p.cells),(2,.gH g.cells),(14,dI p.cs),(15,.i p.cs.l),(16,.i y.1)]) (λy=>lx g p y.2) (λy=>0<=y.1/\y.1<=p.cs.l/\(∀o,o∈y.2↔o∈(upto y.1.n).flatMap (rF g p))/\y.2.l<=400000000*y.1.n) (λy=>(p.cs.l-y.1).n) ?_ ?_
 .simp
 rintro⟨i,os⟩ ⟨i0,P,D,O⟩;dsimp only at i0 P D O ⊢;have x:=Td g p os;have I:5<(lx g p os).l:=x;have t:(lx g p []).l<=(lx g p os).l:=by rw[G];exact x
 by_cases hi:i<p.cs.l
 .have A:∀o,o∈(upto (i+1).n).flatMap (rF g p)↔o∈os\/o∈rF g p i:=λo=>by rw[yK i0,bO,aj,<-D];simp
  simp[hi];refine gi ?_;refine Yc (f84 (gt p.cs i)) ?_;simp
  by_cases n:kE (gt p.cs i)=p.side
  .obtain⟨m0,m1,m2,m3⟩:=Jl N.1 n;have M:=v.cs _ (gF i0 hi);have L:gV (gt p.cs i)<g.kinds.l:=zN M.2 Q.1;have V:(gt g.kinds (gV (gt p.cs i))).jN.l<=4:=(hg.jN _ (gF m0 L)).1;have B:rF g p i=(gt g.kinds (gV (gt p.cs i))).jN.flatMap (wH g p i):=by unfold rF;rw[if_pos n]
   simp[n,(U:¬gV (gt p.cs i)<0)];refine gi ?_;refine gx.e ((0,os):Int×List ij) (λy=>[(0,.jt 5),(1,.gH p.cells),(2,.gH g.cells),(4,.i i),(14,dI p.cs),(15,.i p.cs.l),(16,.i i),(40,.i (gt g.kinds (gV (gt p.cs i))).jN.l),(41,.i y.1)]) (λy=>lx g p y.2) (λy=>0<=y.1/\y.1<=(gt g.kinds (gV (gt p.cs i))).jN.l/\(lx g p os).l<=(lx g p y.2).l/\(∀o,o∈y.2↔o∈os\/o∈((gt g.kinds (gV (gt p.cs i))).jN.take y.1.n).flatMap (wH g p i))/\y.2.l<=os.l+100000000*y.1.n) (λy=>((gt g.kinds (gV (gt p.cs i))).jN.l-y.1).n) ?_ ?_
   .simp
   rintro⟨j,f⟩ ⟨j0,j1,j2,j3,j4⟩;dsimp only at j0 j1 j2 j3 j4 ⊢;have l:=Td g p f;have F:5<(lx g p f).l:=l
   by_cases w:j<(gt g.kinds (gV (gt p.cs i))).jN.l
   .simp[w];refine Yq (f85 g hg p v i j ⟨i0,hi⟩ n ⟨j0,w⟩) λr E=>?_;simp;refine gx.e ((0,f):Int×List ij) (λy=>[(0,.jt 5),(1,.gH p.cells),(2,.gH g.cells),(4,.i i),(14,dI p.cs),(15,.i p.cs.l),(16,.i i),(40,.i (gt g.kinds (gV (gt p.cs i))).jN.l),(41,.i j),(52,dN 6 ij.cells r),(53,.i r.l),(54,.i y.1)]) (λy=>lx g p y.2) (λy=>0<=y.1/\y.1<=r.l/\(lx g p f).l<=(lx g p y.2).l/\(∀o,o∈y.2↔o∈f\/o∈r.take y.1.n)/\y.2.l<=f.l+y.1.n) (λy=>(r.l-y.1).n) ?_ ?_
    .simp
    rintro⟨k,a⟩ ⟨k0,k1,k2,k3,k4⟩;dsimp only at k0 k1 k2 k3 k4 ⊢
    by_cases s:k<r.l
    .have S:a.l<2 ^ 39:=by have:=E.2;omega
     have R:=acS a;have d:=V6 a;have c:=aE k2 (ahJ g p a (gt r k))
     have m:∀o,o∈a ++ [gt r k]↔o∈f\/o∈r.take (k+1).n:=λo=>by rw[jI k0 s,aj,aj,k3,or_assoc]
     by_cases h1:a = []
     .subst h1;rw[Fw g p]at *;simp[s];refine gi ?_;refine sD.r (rf:=6016) (env0:=[(7,.ptr 2 0 0),(8,.ptr 3 0 0)]) (Rd:=sA) gf rfl rfl sA.a sA.b (pK rfl) (pK rfl) ?_;cases b:(gt r k).kn
      .simp[sA,b,d];refine iU d ?_;rw[Fx ([] ++ [gt r k]) ?_ l c ?_]
       .simp;refine LJ.i (k+1,[] ++ [gt r k]) rfl ?_ rfl rfl ?_
        .dsimp only;rw[zA g p (os:=[] ++ [gt r k]) gf (by rw[p9,b];simp;rfl)];simp[nf,kT,b,iY]
        .exact ic ⟨c,m,by dsimp only at k4 ⊢;simp at k4 ⊢;omega⟩
       .rw[zA g p (os:=[] ++ [gt r k]) gf (by rw[p9,b];simp;rfl)];simp[nf,kT,b,iY]
       .simp;omega
      .simp[sA,b,d];refine iU d ?_;rw[Fx ([] ++ [gt r k]) ?_ l c ?_]
       .simp;refine LJ.i (k+1,[] ++ [gt r k]) rfl ?_ rfl rfl ?_
        .dsimp only;rw[ve g p (os:=[] ++ [gt r k]) gf (by rw[p9,b];simp)];simp[nf,kT,b,iY]
        .exact ic ⟨c,m,by dsimp only at k4 ⊢;simp at k4 ⊢;omega⟩
       .rw[ve g p (os:=[] ++ [gt r k]) gf (by rw[p9,b];simp)];simp[nf,kT,b,iY]
       .simp;omega
     .by_cases e:kT a = []
      .have h:a.l-1+1=a.l:=by have:=ao.2 h1;omega
       rw[zA g p h1 e]at *;simp[s];refine gi ?_;refine sD.r (rf:=6016) (env0:=[(7,.ptr 2 0 0),(8,.ptr 3 0 0)]) (Rd:=sA) gf rfl rfl sA.a sA.b (pK rfl) (pK rfl) ?_;cases b:(gt r k).kn
       .simp[sA,b,d];refine iU d ?_;rw[Fx (a ++ [gt r k]) ?_ l c ?_]
        .simp;refine LJ.i (k+1,a ++ [gt r k]) rfl ?_ rfl rfl ?_
         .dsimp only;rw[zA g p (os:=a ++ [gt r k]) gf (by rw[p9,b];simp;exact e)];simp[Aw,p9,b,e,iY,h]
         .exact ic ⟨c,m,by dsimp only at k4 ⊢;simp at k4 ⊢;omega⟩
        .rw[zA g p (os:=a ++ [gt r k]) gf (by rw[p9,b];simp;exact e)];simp[Aw,p9,b,e,iY,h]
        .simp;omega
       .simp[sA,b,d];refine iU d ?_;rw[Fx (a ++ [gt r k]) ?_ l c ?_]
        .simp;refine LJ.i (k+1,a ++ [gt r k]) rfl ?_ rfl rfl ?_
         .dsimp only;rw[ve g p (os:=a ++ [gt r k]) gf (by rw[p9,b];simp)];simp[Aw,p9,b,e,iY,h]
         .exact ic ⟨c,m,by dsimp only at k4 ⊢;simp at k4 ⊢;omega⟩
        .rw[ve g p (os:=a ++ [gt r k]) gf (by rw[p9,b];simp)];simp[Aw,p9,b,e,iY,h]
        .simp;omega
      .have h:a.l-1+1=a.l:=by have:=ao.2 h1;omega
       have u:(kT a).l-1+1=(kT a).l:=by have:=ao.2 e;omega
       rw[ve g p h1 e]at *;simp[s];refine gi ?_;refine sD.r (rf:=6016) (env0:=[(7,.ptr 2 0 0),(8,.ptr 3 0 0)]) (Rd:=sA) gf rfl rfl sA.a sA.b (pK rfl) (pK rfl) ?_;cases b:(gt r k).kn
       .simp[sA,b,d];refine iU d ?_;rw[Fx (a ++ [gt r k]) ?_ l c ?_]
        .simp;refine LJ.i (k+1,a ++ [gt r k]) rfl ?_ rfl rfl ?_
         .dsimp only;rw[ve g p (os:=a ++ [gt r k]) gf (by rw[p9,b];simp;exact e)];simp[Aw,p9,b,h,u]
         .exact ic ⟨c,m,by dsimp only at k4 ⊢;simp at k4 ⊢;omega⟩
        .rw[ve g p (os:=a ++ [gt r k]) gf (by rw[p9,b];simp;exact e)];simp[Aw,p9,b,h,u]
        .simp;omega
       .simp[sA,b,d];refine iU d ?_;rw[Fx (a ++ [gt r k]) ?_ l c ?_]
        .simp;refine LJ.i (k+1,a ++ [gt r k]) rfl ?_ rfl rfl ?_
         .dsimp only;rw[ve g p (os:=a ++ [gt r k]) gf (by rw[p9,b];simp)];simp[Aw,p9,b,h,u]
         .exact ic ⟨c,m,by dsimp only at k4 ⊢;simp at k4 ⊢;omega⟩
        .rw[ve g p (os:=a ++ [gt r k]) gf (by rw[p9,b];simp)];simp[Aw,p9,b,h,u]
        .simp;omega
    .have C:r.take k.n=r:=lW U;rw[C]at k3
     have K:∀o,o∈a↔o∈os\/o∈((gt g.kinds (gV (gt p.cs i))).jN.take (j+1).n).flatMap (wH g p i):=λo=>by rw[k3,j3,E.1,jI j0 w,bO,aj,or_assoc];simp
     simp[s,Bf (os:=a) l k2,Bf (os:=a) x (aE j2 k2),F,I];refine gi ?_;refine LJ.i (j+1,a) rfl rfl rfl rfl ?_;have:=E.2;exact ic ⟨aE j2 k2,K,by dsimp only at j4 k4 ⊢;omega⟩
   .have C:(gt g.kinds (gV (gt p.cs i))).jN.take j.n=(gt g.kinds (gV (gt p.cs i))).jN:=lW U;rw[C,<-B]at j3;simp[w,Bf (os:=f) x j2,I];refine gi ?_;simp[Bf (os:=f) q (aE t j2),z];refine LJ.i (i+1,f) rfl rfl rfl rfl ?_;exact⟨gI,gI,gI,λo=>by rw[A,j3],by dsimp only at j4 ⊢;omega⟩
  .have B:rF g p i = []:=by unfold rF;rw[if_neg n]
   rw[B]at A;have H:0<=i+1/\i+1<=p.cs.l/\(∀o,o∈os↔o∈(upto (i+1).n).flatMap (rF g p))/\os.l<=400000000*(i+1).n:=⟨U,U,λo=>by rw[A];simp,U⟩
   by_cases J:gV (gt p.cs i)<0
   .simp[J];refine gi ?_;simp[Bf (os:=os) q t,z];exact LJ.i (i+1,os) rfl rfl rfl rfl (qt H)
   .simp[J,n];refine gi ?_;simp[Bf (os:=os) q t,z];exact LJ.i (i+1,os) rfl rfl rfl rfl (qt H)
 .simp[hi,Bf (os:=os) q t,z];rw[ahI q t gf];refine⟨os,λo=>?_,U,rfl⟩;rw[D,sj,(U:i.n=p.cs.l)]
