/- Part 21 of DisputeSettles. -/
import Derived.Test.YtmehofoficaelaaGreatDoorS19
import Derived.Test.YtmehofoficaelaaGreatDoorS20
set_option linter.all false
namespace Go.Proofs.YtmehofoficaelaaGreatDoor
open Go Go.AL Classical
set_option maxRecDepth 10000
set_option maxHeartbeats 8000000
abbrev D9(g:gj)(p:Pos)(x y:D):U:=[.row 43 0 g.cells,.row 46 0 p.cells,.row 47 0 [x],.row 47 0 [y],.jE,.im 6016 [(7,.ptr 2 0 0),(8,.ptr 3 0 0)] .ready]
def mq(os:List gQ):List Pos:=os.map (·.p)
def kl(os:List gQ):List Pos:=(os.filter (·.jM)).map (·.p)
def kF(g:gj)(p:Pos)(os:List gQ):U:=
 if os = []then D9 g p .gg .gg else if kl os = []then D9 g p (.fZ 6 (os.length-1) 5 0 os.length) .gg ++ [.row 46 (os.length-1) (cl Pos.cells (mq os))]
 else D9 g p (.fZ 6 (os.length-1) 5 0 os.length) (.fZ 7 ((kl os).length-1) 5 0 (kl os).length) ++ [.row 46 (os.length-1) (cl Pos.cells (mq os)),.row 46 ((kl os).length-1) (cl Pos.cells (kl os))]
def Et(g:gj)(p:Pos):kF g p []=D9 g p .gg .gg:=rfl
def yD(g:gj)(p:Pos){os:List gQ}(h:os≠[])(a:kl os = []):kF g p os=D9 g p (.fZ 6 (os.length-1) 5 0 os.length) .gg ++ [.row 46 (os.length-1) (cl Pos.cells (mq os))]:=by unfold kF;rw[if_neg h,if_pos a]
def tY(g:gj)(p:Pos){os:List gQ}(h:os≠[])(a:kl os≠[]):kF g p os=D9 g p (.fZ 6 (os.length-1) 5 0 os.length) (.fZ 7 ((kl os).length-1) 5 0 (kl os).length) ++ [.row 46 (os.length-1) (cl Pos.cells (mq os)),.row 46 ((kl os).length-1) (cl Pos.cells (kl os))]:=by unfold kF;rw[if_neg h,if_neg a]
def o8(os:List gQ)(o:gQ):kl (os ++ [o])=kl os++(if o.jM then [o.p]else []):=by unfold kl;rw[c8,List.map_append];cases h:o.jM<;>simp[h]
def zx(os:List gQ)(o:gQ):mq (os ++ [o])=mq os ++ [o.p]:=by simp[mq]
def Vx(os:List gQ):(mq os).length=os.length:=by simp[mq]
def ab1(os:List gQ):(kl os).length<=os.length:=by unfold kl;rw[List.length_map];exact List.length_filter_le _ _
def SA(g:gj)(p:Pos)(os:List gQ):(kF g p os).length=if os = []then 6 else if kl os = []then 7 else 8:=by
 unfold kF;split
 .rfl
 .split<;>rfl
def Sz(g:gj)(p:Pos)(os:List gQ):6<=(kF g p os).length:=by rw[SA];split<;>(try split)<;>omega
def ag2(g:gj)(p:Pos)(os:List gQ)(o:gQ):(kF g p os).length<=(kF g p (os ++ [o])).length:=by
 rw[SA,SA,if_neg (show os ++ [o]≠[]by simp)]
 by_cases a:kl os = []
 .rw[if_pos a];split<;>split<;>omega
 .rw[if_neg a,if_neg (show kl (os ++ [o])≠[]by rw[o8];simp[a])];split<;>omega
def Zf{g:gj}{p:Pos}{os:List gQ}{n:Nat}(c:6<=n)(a:n<=(kF g p os).length):dedup ((((kF g p os).take n).map (oJ n)).flatten.filter (· < (kF g p os).length))=List.range' n ((kF g p os).length-n):=by
 by_cases h:os = []
 .subst h;have:n=6:=by rw[Et]at a;simp at a;omega
  subst this;rw[Et];simp
 .by_cases b:kl os = []
  .rw[yD g p h b]at *;have:n=6\/n=7:=by simp at a;omega
   rcases this with rfl|rfl<;>simp<;>rfl
  .rw[tY g p h b]at *;have:n=6\/n=7\/n=8:=by simp at a;omega
   rcases this with rfl|rfl|rfl<;>simp<;>rfl
def Ze(g:gj)(p:Pos)(os:List gQ):ju (kF g p os).length (kF g p os):=by
 by_cases h:os = []
 .subst h;rw[Et];simp
 .by_cases a:kl os = []
  .rw[yD g p h a];simp
  .rw[tY g p h a];simp
def An{g:gj}{p:Pos}{os:List gQ}{n:Nat}{live:List Nat}{env:Env}{r:Bool}(c:6<=n)(a:n<=(kF g p os).length)(b:((forget live env).all λp=>jv n p.2)=true) :
  cut n live { env:=env,H:=kF g p os,marks:=[],ic:=r } = { env:=forget live env,H:=kF g p os,marks:=[],ic:=r }:=ad3 a b (Zf c a) (Ze g p os)
def ag1{g:gj}{p:Pos}{os:List gQ}{n:Nat}{d:D}(c:6<=n)(a:n<=(kF g p os).length)(b:jv n d=true):leave 0 n (kF g p os) d=(d,kF g p os):=ahW a b (Zf c a) (Ze g p os)
def Eu{g:gj}{p:Pos}(os:List gQ){n:Nat}{live:List Nat}{env:Env}{H:U}{r:Bool}(c:H=kF g p os)(d:6<=n)(a:n<=(kF g p os).length)(b:((forget live env).all λp=>jv n p.2)=true) :
  cut n live { env:=env,H:=H,marks:=[],ic:=r } = { env:=forget live env,H:=H,marks:=[],ic:=r }:=by
 subst c;exact An d a b
def f83(g:gj)(hg:gU g)(p:Pos)(u:iz g p):Wf T 213 [.ja 5,.gC p.cells,.gC g.cells] (kF g p []) (λ_ H'=>∃os,(∀o,o∈os↔o∈qn g p)/\os.length<=3600000000/\H'=kF g p os):=by
 have U:=u.size;have V:=hg.jJ.size;have P:=hg.kinds;have M:=u.side;have G:(kF g p []).length=6:=rfl;have q:=Sz g p [];have x:5<(kF g p []).length:=q;refine Yg Mu ?_;simp[Mu];refine gp.e ((0,[]):Int×List gQ) (λy=>[(0,.ja 5),(1,.gC p.cells),(2,.gC g.cells),(14,dI p.cs),(15,.i p.cs.length),(16,.i y.1)]) (λy=>kF g p y.2) (λy=>0<=y.1/\y.1<=p.cs.length/\(∀o,o∈y.2↔o∈(upto y.1.toNat).flatMap (p5 g p))/\y.2.length<=400000000*y.1.toNat) (λy=>(p.cs.length-y.1).toNat) ?_ ?_
 .simp
 rintro⟨i,os⟩ ⟨i0,O,D,N⟩;dsimp only at i0 O D N ⊢;have w:=Sz g p os;have I:5<(kF g p os).length:=w;have t:(kF g p []).length<=(kF g p os).length:=by rw[G];exact w
 by_cases hi:i<p.cs.length
 .have A:∀o,o∈(upto (i+1).toNat).flatMap (p5 g p)↔o∈os\/o∈p5 g p i:=λo=>by rw[xM i0,bP,List.mem_append,<-D];simp
  simp[hi];refine gf ?_;refine Yc (f84 (gt p.cs i)) ?_;simp
  by_cases n:jZ (gt p.cs i)=p.side
  .obtain⟨m0,m1,m2,m3⟩:=IJ M.1 n;have L:=u.cs _ (gA i0 hi);have K:gI (gt p.cs i)<g.kinds.length:=yP L.2 P.1;have S:(gt g.kinds (gI (gt p.cs i))).jr.length<=4:=(hg.jr _ (gA m0 K)).1;have B:p5 g p i=(gt g.kinds (gI (gt p.cs i))).jr.flatMap (vh g p i):=by unfold p5;rw[if_pos n]
   simp[n,show¬gI (gt p.cs i)<0 by omega];refine gf ?_;refine gp.e ((0,os):Int×List gQ) (λy=>[(0,.ja 5),(1,.gC p.cells),(2,.gC g.cells),(4,.i i),(14,dI p.cs),(15,.i p.cs.length),(16,.i i),(40,.i (gt g.kinds (gI (gt p.cs i))).jr.length),(41,.i y.1)]) (λy=>kF g p y.2) (λy=>0<=y.1/\y.1<=(gt g.kinds (gI (gt p.cs i))).jr.length/\(kF g p os).length<=(kF g p y.2).length/\(∀o,o∈y.2↔o∈os\/o∈((gt g.kinds (gI (gt p.cs i))).jr.take y.1.toNat).flatMap (vh g p i))/\y.2.length<=os.length+100000000*y.1.toNat) (λy=>((gt g.kinds (gI (gt p.cs i))).jr.length-y.1).toNat) ?_ ?_
   .simp
   rintro⟨j,f⟩ ⟨j0,j1,j2,j3,j4⟩;dsimp only at j0 j1 j2 j3 j4 ⊢;have l:=Sz g p f;have F:5<(kF g p f).length:=l
   by_cases v:j<(gt g.kinds (gI (gt p.cs i))).jr.length
   .simp[v];refine Yq (f85 g hg p u i j ⟨i0,hi⟩ n ⟨j0,v⟩) λr E=>?_;simp;refine gp.e ((0,f):Int×List gQ) (λy=>[(0,.ja 5),(1,.gC p.cells),(2,.gC g.cells),(4,.i i),(14,dI p.cs),(15,.i p.cs.length),(16,.i i),(40,.i (gt g.kinds (gI (gt p.cs i))).jr.length),(41,.i j),(52,dN 6 gQ.cells r),(53,.i r.length),(54,.i y.1)]) (λy=>kF g p y.2) (λy=>0<=y.1/\y.1<=r.length/\(kF g p f).length<=(kF g p y.2).length/\(∀o,o∈y.2↔o∈f\/o∈r.take y.1.toNat)/\y.2.length<=f.length+y.1.toNat) (λy=>(r.length-y.1).toNat) ?_ ?_
    .simp
    rintro⟨k,a⟩ ⟨k0,k1,k2,k3,k4⟩;dsimp only at k0 k1 k2 k3 k4 ⊢
    by_cases s:k<r.length
    .have R:a.length<2 ^ 39:=by have:=E.2;omega
     have W:=ab1 a;have d:=Vx a;have c:=Nat.le_trans k2 (ag2 g p a (gt r k))
     have m:∀o,o∈a ++ [gt r k]↔o∈f\/o∈r.take (k+1).toNat:=λo=>by rw[jn k0 s,List.mem_append,List.mem_append,k3,or_assoc]
     by_cases h1:a = []
     .subst h1;rw[Et g p]at *;simp[s];refine gf ?_;refine qx.r (rf:=6016) (env0:=[(7,.ptr 2 0 0),(8,.ptr 3 0 0)]) (Rd:=qu) (by simp) rfl rfl qu.a qu.b (oL rfl) (oL rfl) ?_;cases b:(gt r k).jM
      .simp[qu,b,d];refine jD d ?_;rw[Eu ([] ++ [gt r k]) ?_ l c ?_]
       .simp;refine LJ.i (k+1,[] ++ [gt r k]) rfl ?_ rfl rfl ?_
        .dsimp only;rw[yD g p (os:=[] ++ [gt r k]) (by simp) (by rw[o8,b];simp;rfl)];simp[mq,kl,b,iM]
        .exact gJ ⟨c,m,by dsimp only at k4 ⊢;simp at k4 ⊢;omega⟩
       .rw[yD g p (os:=[] ++ [gt r k]) (by simp) (by rw[o8,b];simp;rfl)];simp[mq,kl,b,iM]
       .simp;omega
      .simp[qu,b,d];refine jD d ?_;rw[Eu ([] ++ [gt r k]) ?_ l c ?_]
       .simp;refine LJ.i (k+1,[] ++ [gt r k]) rfl ?_ rfl rfl ?_
        .dsimp only;rw[tY g p (os:=[] ++ [gt r k]) (by simp) (by rw[o8,b];simp)];simp[mq,kl,b,iM]
        .exact gJ ⟨c,m,by dsimp only at k4 ⊢;simp at k4 ⊢;omega⟩
       .rw[tY g p (os:=[] ++ [gt r k]) (by simp) (by rw[o8,b];simp)];simp[mq,kl,b,iM]
       .simp;omega
     .by_cases e:kl a = []
      .have h:a.length-1+1=a.length:=by have:=aw.2 h1;omega
       rw[yD g p h1 e]at *;simp[s];refine gf ?_;refine qx.r (rf:=6016) (env0:=[(7,.ptr 2 0 0),(8,.ptr 3 0 0)]) (Rd:=qu) (by simp) rfl rfl qu.a qu.b (oL rfl) (oL rfl) ?_;cases b:(gt r k).jM
       .simp[qu,b,d];refine jD d ?_;rw[Eu (a ++ [gt r k]) ?_ l c ?_]
        .simp;refine LJ.i (k+1,a ++ [gt r k]) rfl ?_ rfl rfl ?_
         .dsimp only;rw[yD g p (os:=a ++ [gt r k]) (by simp) (by rw[o8,b];simp;exact e)];simp[zx,o8,b,e,iM,h]
         .exact gJ ⟨c,m,by dsimp only at k4 ⊢;simp at k4 ⊢;omega⟩
        .rw[yD g p (os:=a ++ [gt r k]) (by simp) (by rw[o8,b];simp;exact e)];simp[zx,o8,b,e,iM,h]
        .simp;omega
       .simp[qu,b,d];refine jD d ?_;rw[Eu (a ++ [gt r k]) ?_ l c ?_]
        .simp;refine LJ.i (k+1,a ++ [gt r k]) rfl ?_ rfl rfl ?_
         .dsimp only;rw[tY g p (os:=a ++ [gt r k]) (by simp) (by rw[o8,b];simp)];simp[zx,o8,b,e,iM,h]
         .exact gJ ⟨c,m,by dsimp only at k4 ⊢;simp at k4 ⊢;omega⟩
        .rw[tY g p (os:=a ++ [gt r k]) (by simp) (by rw[o8,b];simp)];simp[zx,o8,b,e,iM,h]
        .simp;omega
      .have h:a.length-1+1=a.length:=by have:=aw.2 h1;omega
       have z:(kl a).length-1+1=(kl a).length:=by have:=aw.2 e;omega
       rw[tY g p h1 e]at *;simp[s];refine gf ?_;refine qx.r (rf:=6016) (env0:=[(7,.ptr 2 0 0),(8,.ptr 3 0 0)]) (Rd:=qu) (by simp) rfl rfl qu.a qu.b (oL rfl) (oL rfl) ?_;cases b:(gt r k).jM
       .simp[qu,b,d];refine jD d ?_;rw[Eu (a ++ [gt r k]) ?_ l c ?_]
        .simp;refine LJ.i (k+1,a ++ [gt r k]) rfl ?_ rfl rfl ?_
         .dsimp only;rw[tY g p (os:=a ++ [gt r k]) (by simp) (by rw[o8,b];simp;exact e)];simp[zx,o8,b,h,z]
         .exact gJ ⟨c,m,by dsimp only at k4 ⊢;simp at k4 ⊢;omega⟩
        .rw[tY g p (os:=a ++ [gt r k]) (by simp) (by rw[o8,b];simp;exact e)];simp[zx,o8,b,h,z]
        .simp;omega
       .simp[qu,b,d];refine jD d ?_;rw[Eu (a ++ [gt r k]) ?_ l c ?_]
        .simp;refine LJ.i (k+1,a ++ [gt r k]) rfl ?_ rfl rfl ?_
         .dsimp only;rw[tY g p (os:=a ++ [gt r k]) (by simp) (by rw[o8,b];simp)];simp[zx,o8,b,h,z]
         .exact gJ ⟨c,m,by dsimp only at k4 ⊢;simp at k4 ⊢;omega⟩
        .rw[tY g p (os:=a ++ [gt r k]) (by simp) (by rw[o8,b];simp)];simp[zx,o8,b,h,z]
        .simp;omega
    .have C:r.take k.toNat=r:=lr (by omega);rw[C]at k3
     have Q:∀o,o∈a↔o∈os\/o∈((gt g.kinds (gI (gt p.cs i))).jr.take (j+1).toNat).flatMap (vh g p i):=λo=>by rw[k3,j3,E.1,jn j0 v,bP,List.mem_append,or_assoc];simp
     simp[s,An (os:=a) l k2,An (os:=a) w (Nat.le_trans j2 k2),F,I];refine gf ?_;refine LJ.i (j+1,a) rfl rfl rfl rfl ?_;have:=E.2;exact gJ ⟨Nat.le_trans j2 k2,Q,by dsimp only at j4 k4 ⊢;omega⟩
   .have C:(gt g.kinds (gI (gt p.cs i))).jr.take j.toNat=(gt g.kinds (gI (gt p.cs i))).jr:=lr (by omega);rw[C,<-B]at j3;simp[v,An (os:=f) w j2,I];refine gf ?_;simp[An (os:=f) q (Nat.le_trans t j2),x];refine LJ.i (i+1,f) rfl rfl rfl rfl ?_;exact⟨by dsimp only;omega,by dsimp only;omega,by dsimp only;omega,λo=>by rw[A,j3],by dsimp only at j4 ⊢;omega⟩
  .have B:p5 g p i = []:=by unfold p5;rw[if_neg n]
   rw[B]at A;have H:0<=i+1/\i+1<=p.cs.length/\(∀o,o∈os↔o∈(upto (i+1).toNat).flatMap (p5 g p))/\os.length<=400000000*(i+1).toNat:=⟨by omega,by omega,λo=>by rw[A];simp,by omega⟩
   by_cases J:gI (gt p.cs i)<0
   .simp[J];refine gf ?_;simp[An (os:=os) q t,x];exact LJ.i (i+1,os) rfl rfl rfl rfl (pD H)
   .simp[J,n];refine gf ?_;simp[An (os:=os) q t,x];exact LJ.i (i+1,os) rfl rfl rfl rfl (pD H)
 .simp[hi,An (os:=os) q t,x];rw[ag1 q t (by simp)];refine⟨os,λo=>?_,by omega,rfl⟩;rw[D,qn,show i.toNat=p.cs.length by omega]
