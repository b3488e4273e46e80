/- Part 21 of DisputeHonest. -/
import Derived.Test.YtmehofoficaelaaGreatDoorH19
import Derived.Test.YtmehofoficaelaaGreatDoorH20
set_option linter.all false
namespace Go.Proofs.YtmehofoficaelaaGreatDoor
open Go Go.AL Classical
set_option maxRecDepth 10000
set_option maxHeartbeats 8000000
abbrev BZ(g:fu)(p:Pos)(x y:D):U:=[.row 43 0 g.cells,.row 46 0 p.cells,.row 47 0 [x],.row 47 0 [y],.km,.gM 6016 [(7,.ptr 2 0 0),(8,.ptr 3 0 0)] .ready]
def lB(os:List gh):List Pos:=os.map (·.p)
def jD(os:List gh):List Pos:=(os.filter (·.je)).map (·.p)
def jP(g:fu)(p:Pos)(os:List gh):U:=
 if os = []then BZ g p .fw .fw else if jD os = []then BZ g p (.fm 6 (os.length-1) 5 0 os.length) .fw ++ [.row 46 (os.length-1) (cl Pos.cells (lB os))]
 else BZ g p (.fm 6 (os.length-1) 5 0 os.length) (.fm 7 ((jD os).length-1) 5 0 (jD os).length) ++ [.row 46 (os.length-1) (cl Pos.cells (lB os)),.row 46 ((jD os).length-1) (cl Pos.cells (jD os))]
theorem Ca(g:fu)(p:Pos):jP g p []=BZ g p .fw .fw:=rfl
theorem wL(g:fu)(p:Pos){os:List gh}(h:os≠[])(a:jD os = []):jP g p os=BZ g p (.fm 6 (os.length-1) 5 0 os.length) .fw ++ [.row 46 (os.length-1) (cl Pos.cells (lB os))]:=by unfold jP;rw[if_neg h,if_pos a]
theorem sy(g:fu)(p:Pos){os:List gh}(h:os≠[])(a:jD os≠[]):jP g p os=BZ g p (.fm 6 (os.length-1) 5 0 os.length) (.fm 7 ((jD os).length-1) 5 0 (jD os).length) ++ [.row 46 (os.length-1) (cl Pos.cells (lB os)),.row 46 ((jD os).length-1) (cl Pos.cells (jD os))]:=by unfold jP;rw[if_neg h,if_neg a]
theorem nU(os:List gh)(o:gh):jD (os ++ [o])=jD os++(if o.je then [o.p]else []):=by unfold jD;rw[ew,List.map_append];cases h:o.je<;>simp[h]
theorem xD(os:List gh)(o:gh):lB (os ++ [o])=lB os ++ [o.p]:=by simp[lB]
theorem R8(os:List gh):(lB os).length=os.length:=by simp[lB]
theorem X8(os:List gh):(jD os).length<=os.length:=by unfold jD;rw[List.length_map];exact List.length_filter_le _ _
theorem O4(g:fu)(p:Pos)(os:List gh):(jP g p os).length=if os = []then 6 else if jD os = []then 7 else 8:=by
 unfold jP;split
 .rfl
 .split<;>rfl
theorem O3(g:fu)(p:Pos)(os:List gh):6<=(jP g p os).length:=by rw[O4];split<;>(try split)<;>omega
theorem acT(g:fu)(p:Pos)(os:List gh)(o:gh):(jP g p os).length<=(jP g p (os ++ [o])).length:=by
 rw[O4,O4,if_neg (show os ++ [o]≠[]by simp)]
 by_cases a:jD os = []
 .rw[if_pos a];split<;>split<;>omega
 .rw[if_neg a,if_neg (show jD (os ++ [o])≠[]by rw[nU];simp[a])];split<;>omega
theorem Vc{g:fu}{p:Pos}{os:List gh}{n:Nat}(c:6<=n)(a:n<=(jP g p os).length):dedup ((((jP g p os).take n).map (nN n)).flatten.filter (· < (jP g p os).length))=List.range' n ((jP g p os).length-n):=by
 by_cases h:os = []
 .subst h;have:n=6:=by rw[Ca]at a;simp at a;omega
  subst this;rw[Ca];simp
 .by_cases b:jD os = []
  .rw[wL g p h b]at *;have:n=6\/n=7:=by simp at a;omega
   rcases this with rfl|rfl<;>simp<;>rfl
  .rw[sy g p h b]at *;have:n=6\/n=7\/n=8:=by simp at a;omega
   rcases this with rfl|rfl|rfl<;>simp<;>rfl
theorem Vb(g:fu)(p:Pos)(os:List gh):jC (jP g p os).length (jP g p os):=by
 by_cases h:os = []
 .subst h;rw[Ca];simp
 .by_cases a:jD os = []
  .rw[wL g p h a];simp
  .rw[sy g p h a];simp
theorem yg{g:fu}{p:Pos}{os:List gh}{n:Nat}{live:List Nat}{env:Env}{r:Bool}(c:6<=n)(a:n<=(jP g p os).length)(b:((forget live env).all λp=>kh n p.2)=true) :
  cut n live { env:=env,H:=jP g p os,marks:=[],gW:=r } = { env:=forget live env,H:=jP g p os,marks:=[],gW:=r }:=Z4 a b (Vc c a) (Vb g p os)
theorem acS{g:fu}{p:Pos}{os:List gh}{n:Nat}{d:D}(c:6<=n)(a:n<=(jP g p os).length)(b:kh n d=true):leave 0 n (jP g p os) d=(d,jP g p os):=adQ a b (Vc c a) (Vb g p os)
theorem Cb{g:fu}{p:Pos}(os:List gh){n:Nat}{live:List Nat}{env:Env}{H:U}{r:Bool}(c:H=jP g p os)(d:6<=n)(a:n<=(jP g p os).length)(b:((forget live env).all λp=>kh n p.2)=true) :
  cut n live { env:=env,H:=H,marks:=[],gW:=r } = { env:=forget live env,H:=H,marks:=[],gW:=r }:=by
 subst c;exact yg d a b
theorem f83(g:fu)(hg:gu g)(p:Pos)(u:gJ g p):Wf T 213 [.iw 5,.fH p.cells,.fH g.cells] (jP g p []) (λ_ H'=>∃os,(∀o,o∈os↔o∈pg g p)/\os.length<=3600000000/\H'=jP g p os):=by
 have U:=u.size;have V:=hg.jb.size;have P:=hg.kinds;have L:=u.side;have G:(jP g p []).length=6:=rfl;have q:=O3 g p [];have x:5<(jP g p []).length:=q;refine Yg Jl ?_;simp[Jl];refine fE.e ((0,[]):Int×List gh) (λy=>[(0,.iw 5),(1,.fH p.cells),(2,.fH g.cells),(14,dI p.cs),(15,.i p.cs.length),(16,.i y.1)]) (λy=>jP g p y.2) (λy=>0<=y.1/\y.1<=p.cs.length/\(∀o,o∈y.2↔o∈(upto y.1.toNat).flatMap (oU g p))/\y.2.length<=400000000*y.1.toNat) (λy=>(p.cs.length-y.1).toNat) ?_ ?_
 .simp
 rintro⟨i,os⟩ ⟨i0,O,D,N⟩;dsimp only at i0 O D N ⊢;have w:=O3 g p os;have I:5<(jP g p os).length:=w;have t:(jP g p []).length<=(jP g p os).length:=by rw[G];exact w
 by_cases hi:i<p.cs.length
 .have A:∀o,o∈(upto (i+1).toNat).flatMap (oU g p)↔o∈os\/o∈oU g p i:=λo=>by rw[vH i0,bE,List.mem_append,<-D];simp
  simp[hi];refine fo ?_;refine Yc (f84 (gt p.cs i)) ?_;simp
  by_cases n:jr (gt p.cs i)=p.side
  .obtain⟨m0,m1,m2,m3⟩:=Fw L.1 n;have M:=u.cs _ (fM i0 hi);have K:fX (gt p.cs i)<g.kinds.length:=wY M.2 P.1;have W:(gt g.kinds (fX (gt p.cs i))).iG.length<=4:=(hg.iG _ (fM m0 K)).1;have B:oU g p i=(gt g.kinds (fX (gt p.cs i))).iG.flatMap (tq g p i):=by unfold oU;rw[if_pos n]
   simp[n,show¬fX (gt p.cs i)<0 by omega];refine fo ?_;refine fE.e ((0,os):Int×List gh) (λy=>[(0,.iw 5),(1,.fH p.cells),(2,.fH g.cells),(4,.i i),(14,dI p.cs),(15,.i p.cs.length),(16,.i i),(40,.i (gt g.kinds (fX (gt p.cs i))).iG.length),(41,.i y.1)]) (λy=>jP g p y.2) (λy=>0<=y.1/\y.1<=(gt g.kinds (fX (gt p.cs i))).iG.length/\(jP g p os).length<=(jP g p y.2).length/\(∀o,o∈y.2↔o∈os\/o∈((gt g.kinds (fX (gt p.cs i))).iG.take y.1.toNat).flatMap (tq g p i))/\y.2.length<=os.length+100000000*y.1.toNat) (λy=>((gt g.kinds (fX (gt p.cs i))).iG.length-y.1).toNat) ?_ ?_
   .simp
   rintro⟨j,f⟩ ⟨j0,j1,j2,j3,j4⟩;dsimp only at j0 j1 j2 j3 j4 ⊢;have l:=O3 g p f;have F:5<(jP g p f).length:=l
   by_cases v:j<(gt g.kinds (fX (gt p.cs i))).iG.length
   .simp[v];refine Yq (f85 g hg p u i j ⟨i0,hi⟩ n ⟨j0,v⟩) λr E=>?_;simp;refine fE.e ((0,f):Int×List gh) (λy=>[(0,.iw 5),(1,.fH p.cells),(2,.fH g.cells),(4,.i i),(14,dI p.cs),(15,.i p.cs.length),(16,.i i),(40,.i (gt g.kinds (fX (gt p.cs i))).iG.length),(41,.i j),(52,dN 6 gh.cells r),(53,.i r.length),(54,.i y.1)]) (λy=>jP g p y.2) (λy=>0<=y.1/\y.1<=r.length/\(jP g p f).length<=(jP g p y.2).length/\(∀o,o∈y.2↔o∈f\/o∈r.take y.1.toNat)/\y.2.length<=f.length+y.1.toNat) (λy=>(r.length-y.1).toNat) ?_ ?_
    .simp
    rintro⟨k,a⟩ ⟨k0,k1,k2,k3,k4⟩;dsimp only at k0 k1 k2 k3 k4 ⊢
    by_cases s:k<r.length
    .have S:a.length<2 ^ 39:=by have:=E.2;omega
     have R:=X8 a;have d:=R8 a;have c:=Nat.le_trans k2 (acT g p a (gt r k))
     have m:∀o,o∈a ++ [gt r k]↔o∈f\/o∈r.take (k+1).toNat:=λo=>by rw[iD k0 s,List.mem_append,List.mem_append,k3,or_assoc]
     by_cases h1:a = []
     .subst h1;rw[Ca g p]at *;simp[s];refine fo ?_;refine rl.r (rf:=6016) (env0:=[(7,.ptr 2 0 0),(8,.ptr 3 0 0)]) (Rd:=po) (by simp) rfl rfl po.a po.b (oB rfl) (oB rfl) ?_;cases b:(gt r k).je
      .simp[po,b,d];refine ja d ?_;rw[Cb ([] ++ [gt r k]) ?_ l c ?_]
       .simp;refine LJ.i (k+1,[] ++ [gt r k]) rfl ?_ rfl rfl ?_
        .dsimp only;rw[wL g p (os:=[] ++ [gt r k]) (by simp) (by rw[nU,b];simp;rfl)];simp[lB,jD,b,iF]
        .exact gg ⟨c,m,by dsimp only at k4 ⊢;simp at k4 ⊢;omega⟩
       .rw[wL g p (os:=[] ++ [gt r k]) (by simp) (by rw[nU,b];simp;rfl)];simp[lB,jD,b,iF]
       .simp;omega
      .simp[po,b,d];refine ja d ?_;rw[Cb ([] ++ [gt r k]) ?_ l c ?_]
       .simp;refine LJ.i (k+1,[] ++ [gt r k]) rfl ?_ rfl rfl ?_
        .dsimp only;rw[sy g p (os:=[] ++ [gt r k]) (by simp) (by rw[nU,b];simp)];simp[lB,jD,b,iF]
        .exact gg ⟨c,m,by dsimp only at k4 ⊢;simp at k4 ⊢;omega⟩
       .rw[sy g p (os:=[] ++ [gt r k]) (by simp) (by rw[nU,b];simp)];simp[lB,jD,b,iF]
       .simp;omega
     .by_cases e:jD a = []
      .have h:a.length-1+1=a.length:=by have:=av.2 h1;omega
       rw[wL g p h1 e]at *;simp[s];refine fo ?_;refine rl.r (rf:=6016) (env0:=[(7,.ptr 2 0 0),(8,.ptr 3 0 0)]) (Rd:=po) (by simp) rfl rfl po.a po.b (oB rfl) (oB rfl) ?_;cases b:(gt r k).je
       .simp[po,b,d];refine ja d ?_;rw[Cb (a ++ [gt r k]) ?_ l c ?_]
        .simp;refine LJ.i (k+1,a ++ [gt r k]) rfl ?_ rfl rfl ?_
         .dsimp only;rw[wL g p (os:=a ++ [gt r k]) (by simp) (by rw[nU,b];simp;exact e)];simp[xD,nU,b,e,iF,h]
         .exact gg ⟨c,m,by dsimp only at k4 ⊢;simp at k4 ⊢;omega⟩
        .rw[wL g p (os:=a ++ [gt r k]) (by simp) (by rw[nU,b];simp;exact e)];simp[xD,nU,b,e,iF,h]
        .simp;omega
       .simp[po,b,d];refine ja d ?_;rw[Cb (a ++ [gt r k]) ?_ l c ?_]
        .simp;refine LJ.i (k+1,a ++ [gt r k]) rfl ?_ rfl rfl ?_
         .dsimp only;rw[sy g p (os:=a ++ [gt r k]) (by simp) (by rw[nU,b];simp)];simp[xD,nU,b,e,iF,h]
         .exact gg ⟨c,m,by dsimp only at k4 ⊢;simp at k4 ⊢;omega⟩
        .rw[sy g p (os:=a ++ [gt r k]) (by simp) (by rw[nU,b];simp)];simp[xD,nU,b,e,iF,h]
        .simp;omega
      .have h:a.length-1+1=a.length:=by have:=av.2 h1;omega
       have z:(jD a).length-1+1=(jD a).length:=by have:=av.2 e;omega
       rw[sy g p h1 e]at *;simp[s];refine fo ?_;refine rl.r (rf:=6016) (env0:=[(7,.ptr 2 0 0),(8,.ptr 3 0 0)]) (Rd:=po) (by simp) rfl rfl po.a po.b (oB rfl) (oB rfl) ?_;cases b:(gt r k).je
       .simp[po,b,d];refine ja d ?_;rw[Cb (a ++ [gt r k]) ?_ l c ?_]
        .simp;refine LJ.i (k+1,a ++ [gt r k]) rfl ?_ rfl rfl ?_
         .dsimp only;rw[sy g p (os:=a ++ [gt r k]) (by simp) (by rw[nU,b];simp;exact e)];simp[xD,nU,b,h,z]
         .exact gg ⟨c,m,by dsimp only at k4 ⊢;simp at k4 ⊢;omega⟩
        .rw[sy g p (os:=a ++ [gt r k]) (by simp) (by rw[nU,b];simp;exact e)];simp[xD,nU,b,h,z]
        .simp;omega
       .simp[po,b,d];refine ja d ?_;rw[Cb (a ++ [gt r k]) ?_ l c ?_]
        .simp;refine LJ.i (k+1,a ++ [gt r k]) rfl ?_ rfl rfl ?_
         .dsimp only;rw[sy g p (os:=a ++ [gt r k]) (by simp) (by rw[nU,b];simp)];simp[xD,nU,b,h,z]
         .exact gg ⟨c,m,by dsimp only at k4 ⊢;simp at k4 ⊢;omega⟩
        .rw[sy g p (os:=a ++ [gt r k]) (by simp) (by rw[nU,b];simp)];simp[xD,nU,b,h,z]
        .simp;omega
    .have C:r.take k.toNat=r:=kq (by omega);rw[C]at k3
     have Q:∀o,o∈a↔o∈os\/o∈((gt g.kinds (fX (gt p.cs i))).iG.take (j+1).toNat).flatMap (tq g p i):=λo=>by rw[k3,j3,E.1,iD j0 v,bE,List.mem_append,or_assoc];simp
     simp[s,yg (os:=a) l k2,yg (os:=a) w (Nat.le_trans j2 k2),F,I];refine fo ?_;refine LJ.i (j+1,a) rfl rfl rfl rfl ?_;have:=E.2;exact gg ⟨Nat.le_trans j2 k2,Q,by dsimp only at j4 k4 ⊢;omega⟩
   .have C:(gt g.kinds (fX (gt p.cs i))).iG.take j.toNat=(gt g.kinds (fX (gt p.cs i))).iG:=kq (by omega);rw[C,<-B]at j3;simp[v,yg (os:=f) w j2,I];refine fo ?_;simp[yg (os:=f) q (Nat.le_trans t j2),x];refine LJ.i (i+1,f) rfl rfl rfl rfl ?_;exact⟨by dsimp only;omega,by dsimp only;omega,by dsimp only;omega,λo=>by rw[A,j3],by dsimp only at j4 ⊢;omega⟩
  .have B:oU g p i = []:=by unfold oU;rw[if_neg n]
   rw[B]at A;have H:0<=i+1/\i+1<=p.cs.length/\(∀o,o∈os↔o∈(upto (i+1).toNat).flatMap (oU g p))/\os.length<=400000000*(i+1).toNat:=⟨by omega,by omega,λo=>by rw[A];simp,by omega⟩
   by_cases J:fX (gt p.cs i)<0
   .simp[J];refine fo ?_;simp[yg (os:=os) q t,x];exact LJ.i (i+1,os) rfl rfl rfl rfl (oV H)
   .simp[J,n];refine fo ?_;simp[yg (os:=os) q t,x];exact LJ.i (i+1,os) rfl rfl rfl rfl (oV H)
 .simp[hi,yg (os:=os) q t,x];rw[acS q t (by simp)];refine⟨os,λo=>?_,by omega,rfl⟩;rw[D,pg,show i.toNat=p.cs.length by omega]
