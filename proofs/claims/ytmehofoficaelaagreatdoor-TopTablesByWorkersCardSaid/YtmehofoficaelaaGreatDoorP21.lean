/- 21 -/
import Derived.Test.YtmehofoficaelaaGreatDoorP19
import Derived.Test.YtmehofoficaelaaGreatDoorP20
set_option linter.all false
open Nat renaming le_trans→aE
open List renaming length→List.l
open Int renaming toNat→Int.n
namespace Go.Proofs.YtmehofoficaelaaGreatDoor
open Go Go.AL Classical
set_option maxRecDepth 10000
set_option maxHeartbeats 8000000
abbrev Gr(g:gY)(p:Pos)(x y:D):gQ:=[.row 43 0 g.cells,.row 46 0 p.cells,.row 47 0 [x],.row 47 0 [y],.jJ,.iV 6016 [(7,.ptr 2 0 0),(8,.ptr 3 0 0)] .ready]
def nM(os:List iJ):List Pos:=os.map (·.p)
def lA(os:List iJ):List Pos:=(os.filter (·.kP)).map (·.p)
def lT(g:gY)(p:Pos)(os:List iJ):gQ:=
 if os = []then Gr g p .gV .gV else if lA os = []then Gr g p (.gR 6 (os.l-1) 5 0 os.l) .gV ++ [.row 46 (os.l-1) (cl Pos.cells (nM os))]
 else Gr g p (.gR 6 (os.l-1) 5 0 os.l) (.gR 7 ((lA os).l-1) 5 0 (lA os).l) ++ [.row 46 (os.l-1) (cl Pos.cells (nM os)),.row 46 ((lA os).l-1) (cl Pos.cells (lA os))]
def GL(g:gY)(p:Pos):lT g p []=Gr g p .gV .gV:=rfl
def Ar(g:gY)(p:Pos){os:List iJ}(h:os≠[])(a:lA os = []):lT g p os=Gr g p (.gR 6 (os.l-1) 5 0 os.l) .gV ++ [.row 46 (os.l-1) (cl Pos.cells (nM os))]:=by unfold lT;rw[if_neg h,if_pos a]
def wv(g:gY)(p:Pos){os:List iJ}(h:os≠[])(a:lA os≠[]):lT g p os=Gr g p (.gR 6 (os.l-1) 5 0 os.l) (.gR 7 ((lA os).l-1) 5 0 (lA os).l) ++ [.row 46 (os.l-1) (cl Pos.cells (nM os)),.row 46 ((lA os).l-1) (cl Pos.cells (lA os))]:=by unfold lT;rw[if_neg h,if_neg a]
def rr(os:List iJ)(o:iJ):lA (os ++ [o])=lA os++(if o.kP then [o.p]else []):=by unfold lA;rw[bY,List.map_append];cases h:o.kP<;>simp[h]
def Bh(os:List iJ)(o:iJ):nM (os ++ [o])=nM os ++ [o.p]:=by simp[nM]
def Y8(os:List iJ):(nM os).l=os.l:=by simp[nM]
def ae3(os:List iJ):(lA os).l<=os.l:=by unfold lA;rw[List.length_map];exact List.length_filter_le _ _
def Vo(g:gY)(p:Pos)(os:List iJ):(lT g p os).l=if os = []then 6 else if lA os = []then 7 else 8:=by
 unfold lT;split
 .rfl
 .split<;>rfl
def Vn(g:gY)(p:Pos)(os:List iJ):6<=(lT g p os).l:=by rw[Vo];split<;>(try split)<;>omega
def akv(g:gY)(p:Pos)(os:List iJ)(o:iJ):(lT g p os).l<=(lT g p (os ++ [o])).l:=by
 rw[Vo,Vo,if_neg (gP:os ++ [o]≠[])]
 by_cases a:lA os = []
 .rw[if_pos a];split<;>split<;>omega
 .rw[if_neg a,if_neg (show lA (os ++ [o])≠[]by rw[rr];simp[a])];split<;>omega
def ab1{g:gY}{p:Pos}{os:List iJ}{n:Nat}(c:6<=n)(a:n<=(lT g p os).l):dedup ((((lT g p os).take n).map (pg n)).flatten.filter (· < (lT g p os).l))=List.range' n ((lT g p os).l-n):=by
 by_cases h:os = []
 .subst h;have:n=6:=by rw[GL]at a;simp at a;omega
  subst this;rw[GL];simp
 .by_cases b:lA os = []
  .rw[Ar g p h b]at *;have:n=6\/n=7:=by simp at a;omega
   rcases this with rfl|rfl<;>simp<;>rfl
  .rw[wv g p h b]at *;have:n=6\/n=7\/n=8:=by simp at a;omega
   rcases this with rfl|rfl|rfl<;>simp<;>rfl
def ab0(g:gY)(p:Pos)(os:List iJ):jZ (lT g p os).l (lT g p os):=by
 by_cases h:os = []
 .subst h;rw[GL];simp
 .by_cases a:lA os = []
  .rw[Ar g p h a];simp
  .rw[wv g p h a];simp
def B8{g:gY}{p:Pos}{os:List iJ}{n:Nat}{live:List Nat}{env:Env}{r:Bool}(c:6<=n)(a:n<=(lT g p os).l)(b:((forget live env).all λp=>kz n p.2)=true) :
  cut n live { env:=env,H:=lT g p os,marks:=[],iI:=r } = { env:=forget live env,H:=lT g p os,marks:=[],iI:=r }:=ahc a b (ab1 c a) (ab0 g p os)
def aku{g:gY}{p:Pos}{os:List iJ}{n:Nat}{d:D}(c:6<=n)(a:n<=(lT g p os).l)(b:kz n d=true):leave 0 n (lT g p os) d=(d,lT g p os):=aly a b (ab1 c a) (ab0 g p os)
def GM{g:gY}{p:Pos}(os:List iJ){n:Nat}{live:List Nat}{env:Env}{H:gQ}{r:Bool}(c:H=lT g p os)(d:6<=n)(a:n<=(lT g p os).l)(b:((forget live env).all λp=>kz n p.2)=true) :
  cut n live { env:=env,H:=H,marks:=[],iI:=r } = { env:=forget live env,H:=H,marks:=[],iI:=r }:=by
 subst c;exact B8 d a b
def f83(g:gY)(hg:iE g)(p:Pos)(u:ja g p):Wf T 213 [.jF 5,.ie p.cells,.ie g.cells] (lT g p []) (λ_ H'=>∃os,(∀o,o∈os↔o∈su g p)/\os.l<=3600000000/\H'=lT g p os):=by
 have V:=u.size;have W:=hg.kC.size;have P:=hg.kinds;have M:=u.side;have G:(lT g p []).l=6:=rfl;have q:=Vn g p [];have x:5<(lT g p []).l:=q;refine Yg Pa ?_;simp[Pa];refine gZ.e ((0,[]):Int×List iJ) (λy=>[(0,.jF 5),(1,.ie p.cells),(2,.ie g.cells),(14,dI p.cs),(15,.i p.cs.l),(16,.i y.1)]) (λy=>lT g p y.2) (λy=>0<=y.1/\y.1<=p.cs.l/\(∀o,o∈y.2↔o∈(upto y.1.n).flatMap (rS g p))/\y.2.l<=400000000*y.1.n) (λy=>(p.cs.l-y.1).n) ?_ ?_
 .simp
 rintro⟨i,os⟩ ⟨i0,O,D,N⟩;dsimp only at i0 O D N ⊢;have w:=Vn g p os;have I:5<(lT g p os).l:=w;have t:(lT g p []).l<=(lT g p os).l:=by rw[G];exact w
 by_cases hi:i<p.cs.l
 .have A:∀o,o∈(upto (i+1).n).flatMap (rS g p)↔o∈os\/o∈rS g p i:=λo=>by rw[yz i0,cd,ai,<-D];simp
  simp[hi];refine gU ?_;refine Yc (f84 (gt p.cs i)) ?_;simp
  by_cases n:lg (gt p.cs i)=p.side
  .obtain⟨m0,m1,m2,m3⟩:=Eu M.1 n;have L:=u.cs _ (ij i0 hi);have K:iC (gt p.cs i)<g.kinds.l:=zq L.2 P.1;have S:(gt g.kinds (iC (gt p.cs i))).jv.l<=4:=(hg.jv _ (ij m0 K)).1;have B:rS g p i=(gt g.kinds (iC (gt p.cs i))).jv.flatMap (xp g p i):=by unfold rS;rw[if_pos n]
   simp[n,(U:¬iC (gt p.cs i)<0)];refine gU ?_;refine gZ.e ((0,os):Int×List iJ) (λy=>[(0,.jF 5),(1,.ie p.cells),(2,.ie g.cells),(4,.i i),(14,dI p.cs),(15,.i p.cs.l),(16,.i i),(40,.i (gt g.kinds (iC (gt p.cs i))).jv.l),(41,.i y.1)]) (λy=>lT g p y.2) (λy=>0<=y.1/\y.1<=(gt g.kinds (iC (gt p.cs i))).jv.l/\(lT g p os).l<=(lT g p y.2).l/\(∀o,o∈y.2↔o∈os\/o∈((gt g.kinds (iC (gt p.cs i))).jv.take y.1.n).flatMap (xp g p i))/\y.2.l<=os.l+100000000*y.1.n) (λy=>((gt g.kinds (iC (gt p.cs i))).jv.l-y.1).n) ?_ ?_
   .simp
   rintro⟨j,f⟩ ⟨j0,j1,j2,j3,j4⟩;dsimp only at j0 j1 j2 j3 j4 ⊢;have l:=Vn g p f;have F:5<(lT g p f).l:=l
   by_cases v:j<(gt g.kinds (iC (gt p.cs i))).jv.l
   .simp[v];refine Yq (f85 g hg p u i j ⟨i0,hi⟩ n ⟨j0,v⟩) λr E=>?_;simp;refine gZ.e ((0,f):Int×List iJ) (λy=>[(0,.jF 5),(1,.ie p.cells),(2,.ie g.cells),(4,.i i),(14,dI p.cs),(15,.i p.cs.l),(16,.i i),(40,.i (gt g.kinds (iC (gt p.cs i))).jv.l),(41,.i j),(52,dN 6 iJ.cells r),(53,.i r.l),(54,.i y.1)]) (λy=>lT g p y.2) (λy=>0<=y.1/\y.1<=r.l/\(lT g p f).l<=(lT g p y.2).l/\(∀o,o∈y.2↔o∈f\/o∈r.take y.1.n)/\y.2.l<=f.l+y.1.n) (λy=>(r.l-y.1).n) ?_ ?_
    .simp
    rintro⟨k,a⟩ ⟨k0,k1,k2,k3,k4⟩;dsimp only at k0 k1 k2 k3 k4 ⊢
    by_cases s:k<r.l
    .have R:a.l<2 ^ 39:=by have:=E.2;omega
     have X:=ae3 a;have d:=Y8 a;have c:=aE k2 (akv g p a (gt r k))
     have m:∀o,o∈a ++ [gt r k]↔o∈f\/o∈r.take (k+1).n:=λo=>by rw[jP k0 s,ai,ai,k3,or_assoc]
     by_cases h1:a = []
     .subst h1;rw[GL g p]at *;simp[s];refine gU ?_;refine nJ.r (rf:=6016) (env0:=[(7,.ptr 2 0 0),(8,.ptr 3 0 0)]) (Rd:=sQ) gP rfl rfl sQ.a sQ.b (ng rfl) (ng rfl) ?_;cases b:(gt r k).kP
      .simp[sQ,b,d];refine jM d ?_;rw[GM ([] ++ [gt r k]) ?_ l c ?_]
       .simp;refine LJ.i (k+1,[] ++ [gt r k]) rfl ?_ rfl rfl ?_
        .dsimp only;rw[Ar g p (os:=[] ++ [gt r k]) gP (by rw[rr,b];simp;rfl)];simp[nM,lA,b,jw]
        .exact iQ ⟨c,m,by dsimp only at k4 ⊢;simp at k4 ⊢;omega⟩
       .rw[Ar g p (os:=[] ++ [gt r k]) gP (by rw[rr,b];simp;rfl)];simp[nM,lA,b,jw]
       .simp;omega
      .simp[sQ,b,d];refine jM d ?_;rw[GM ([] ++ [gt r k]) ?_ l c ?_]
       .simp;refine LJ.i (k+1,[] ++ [gt r k]) rfl ?_ rfl rfl ?_
        .dsimp only;rw[wv g p (os:=[] ++ [gt r k]) gP (by rw[rr,b];simp)];simp[nM,lA,b,jw]
        .exact iQ ⟨c,m,by dsimp only at k4 ⊢;simp at k4 ⊢;omega⟩
       .rw[wv g p (os:=[] ++ [gt r k]) gP (by rw[rr,b];simp)];simp[nM,lA,b,jw]
       .simp;omega
     .by_cases e:lA a = []
      .have h:a.l-1+1=a.l:=by have:=ay.2 h1;omega
       rw[Ar g p h1 e]at *;simp[s];refine gU ?_;refine nJ.r (rf:=6016) (env0:=[(7,.ptr 2 0 0),(8,.ptr 3 0 0)]) (Rd:=sQ) gP rfl rfl sQ.a sQ.b (ng rfl) (ng rfl) ?_;cases b:(gt r k).kP
       .simp[sQ,b,d];refine jM d ?_;rw[GM (a ++ [gt r k]) ?_ l c ?_]
        .simp;refine LJ.i (k+1,a ++ [gt r k]) rfl ?_ rfl rfl ?_
         .dsimp only;rw[Ar g p (os:=a ++ [gt r k]) gP (by rw[rr,b];simp;exact e)];simp[Bh,rr,b,e,jw,h]
         .exact iQ ⟨c,m,by dsimp only at k4 ⊢;simp at k4 ⊢;omega⟩
        .rw[Ar g p (os:=a ++ [gt r k]) gP (by rw[rr,b];simp;exact e)];simp[Bh,rr,b,e,jw,h]
        .simp;omega
       .simp[sQ,b,d];refine jM d ?_;rw[GM (a ++ [gt r k]) ?_ l c ?_]
        .simp;refine LJ.i (k+1,a ++ [gt r k]) rfl ?_ rfl rfl ?_
         .dsimp only;rw[wv g p (os:=a ++ [gt r k]) gP (by rw[rr,b];simp)];simp[Bh,rr,b,e,jw,h]
         .exact iQ ⟨c,m,by dsimp only at k4 ⊢;simp at k4 ⊢;omega⟩
        .rw[wv g p (os:=a ++ [gt r k]) gP (by rw[rr,b];simp)];simp[Bh,rr,b,e,jw,h]
        .simp;omega
      .have h:a.l-1+1=a.l:=by have:=ay.2 h1;omega
       have z:(lA a).l-1+1=(lA a).l:=by have:=ay.2 e;omega
       rw[wv g p h1 e]at *;simp[s];refine gU ?_;refine nJ.r (rf:=6016) (env0:=[(7,.ptr 2 0 0),(8,.ptr 3 0 0)]) (Rd:=sQ) gP rfl rfl sQ.a sQ.b (ng rfl) (ng rfl) ?_;cases b:(gt r k).kP
       .simp[sQ,b,d];refine jM d ?_;rw[GM (a ++ [gt r k]) ?_ l c ?_]
        .simp;refine LJ.i (k+1,a ++ [gt r k]) rfl ?_ rfl rfl ?_
         .dsimp only;rw[wv g p (os:=a ++ [gt r k]) gP (by rw[rr,b];simp;exact e)];simp[Bh,rr,b,h,z]
         .exact iQ ⟨c,m,by dsimp only at k4 ⊢;simp at k4 ⊢;omega⟩
        .rw[wv g p (os:=a ++ [gt r k]) gP (by rw[rr,b];simp;exact e)];simp[Bh,rr,b,h,z]
        .simp;omega
       .simp[sQ,b,d];refine jM d ?_;rw[GM (a ++ [gt r k]) ?_ l c ?_]
        .simp;refine LJ.i (k+1,a ++ [gt r k]) rfl ?_ rfl rfl ?_
         .dsimp only;rw[wv g p (os:=a ++ [gt r k]) gP (by rw[rr,b];simp)];simp[Bh,rr,b,h,z]
         .exact iQ ⟨c,m,by dsimp only at k4 ⊢;simp at k4 ⊢;omega⟩
        .rw[wv g p (os:=a ++ [gt r k]) gP (by rw[rr,b];simp)];simp[Bh,rr,b,h,z]
        .simp;omega
    .have C:r.take k.n=r:=nf U;rw[C]at k3
     have Q:∀o,o∈a↔o∈os\/o∈((gt g.kinds (iC (gt p.cs i))).jv.take (j+1).n).flatMap (xp g p i):=λo=>by rw[k3,j3,E.1,jP j0 v,cd,ai,or_assoc];simp
     simp[s,B8 (os:=a) l k2,B8 (os:=a) w (aE j2 k2),F,I];refine gU ?_;refine LJ.i (j+1,a) rfl rfl rfl rfl ?_;have:=E.2;exact iQ ⟨aE j2 k2,Q,by dsimp only at j4 k4 ⊢;omega⟩
   .have C:(gt g.kinds (iC (gt p.cs i))).jv.take j.n=(gt g.kinds (iC (gt p.cs i))).jv:=nf U;rw[C,<-B]at j3;simp[v,B8 (os:=f) w j2,I];refine gU ?_;simp[B8 (os:=f) q (aE t j2),x];refine LJ.i (i+1,f) rfl rfl rfl rfl ?_;exact⟨iv,iv,iv,λo=>by rw[A,j3],by dsimp only at j4 ⊢;omega⟩
  .have B:rS g p i = []:=by unfold rS;rw[if_neg n]
   rw[B]at A;have H:0<=i+1/\i+1<=p.cs.l/\(∀o,o∈os↔o∈(upto (i+1).n).flatMap (rS g p))/\os.l<=400000000*(i+1).n:=⟨U,U,λo=>by rw[A];simp,U⟩
   by_cases J:iC (gt p.cs i)<0
   .simp[J];refine gU ?_;simp[B8 (os:=os) q t,x];exact LJ.i (i+1,os) rfl rfl rfl rfl (tV H)
   .simp[J,n];refine gU ?_;simp[B8 (os:=os) q t,x];exact LJ.i (i+1,os) rfl rfl rfl rfl (tV H)
 .simp[hi,B8 (os:=os) q t,x];rw[aku q t gP];refine⟨os,λo=>?_,U,rfl⟩;rw[D,su,(U:i.n=p.cs.l)]
