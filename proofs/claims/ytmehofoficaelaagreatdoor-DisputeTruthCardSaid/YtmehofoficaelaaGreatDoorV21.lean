/- Part 21 of DisputeTruth. -/
import Derived.Test.YtmehofoficaelaaGreatDoorV19
import Derived.Test.YtmehofoficaelaaGreatDoorV20
set_option linter.all false
namespace Go.Proofs.YtmehofoficaelaaGreatDoor
open Go Go.AL Classical
set_option maxRecDepth 10000
set_option maxHeartbeats 8000000
abbrev Ds(g:fY)(p:Pos)(x y:D):U:=[.row 43 0 g.cells,.row 46 0 p.cells,.row 47 0 [x],.row 47 0 [y],.jv,.ia 6016 [(7,.ptr 2 0 0),(8,.ptr 3 0 0)] .ready]
def ma(os:List gJ):List Pos:=os.map (·.p)
def kc(os:List gJ):List Pos:=(os.filter (·.jF)).map (·.p)
def kr(g:fY)(p:Pos)(os:List gJ):U:=
 if os = []then Ds g p .fX .fX else if kc os = []then Ds g p (.fM 6 (os.length-1) 5 0 os.length) .fX ++ [.row 46 (os.length-1) (cl Pos.cells (ma os))]
 else Ds g p (.fM 6 (os.length-1) 5 0 os.length) (.fM 7 ((kc os).length-1) 5 0 (kc os).length) ++ [.row 46 (os.length-1) (cl Pos.cells (ma os)),.row 46 ((kc os).length-1) (cl Pos.cells (kc os))]
theorem DK(g:fY)(p:Pos):kr g p []=Ds g p .fX .fX:=rfl
theorem xX(g:fY)(p:Pos){os:List gJ}(h:os≠[])(a:kc os = []):kr g p os=Ds g p (.fM 6 (os.length-1) 5 0 os.length) .fX ++ [.row 46 (os.length-1) (cl Pos.cells (ma os))]:=by unfold kr;rw[if_neg h,if_pos a]
theorem tw(g:fY)(p:Pos){os:List gJ}(h:os≠[])(a:kc os≠[]):kr g p os=Ds g p (.fM 6 (os.length-1) 5 0 os.length) (.fM 7 ((kc os).length-1) 5 0 (kc os).length) ++ [.row 46 (os.length-1) (cl Pos.cells (ma os)),.row 46 ((kc os).length-1) (cl Pos.cells (kc os))]:=by unfold kr;rw[if_neg h,if_neg a]
theorem oN(os:List gJ)(o:gJ):kc (os ++ [o])=kc os++(if o.jF then [o.p]else []):=by unfold kc;rw[dh,List.map_append];cases h:o.jF<;>simp[h]
theorem yP(os:List gJ)(o:gJ):ma (os ++ [o])=ma os ++ [o.p]:=by simp[ma]
theorem Ut(os:List gJ):(ma os).length=os.length:=by simp[ma]
theorem aaS(os:List gJ):(kc os).length<=os.length:=by unfold kc;rw[List.length_map];exact List.length_filter_le _ _
theorem Rm(g:fY)(p:Pos)(os:List gJ):(kr g p os).length=if os = []then 6 else if kc os = []then 7 else 8:=by
 unfold kr;split
 .rfl
 .split<;>rfl
theorem Rl(g:fY)(p:Pos)(os:List gJ):6<=(kr g p os).length:=by rw[Rm];split<;>(try split)<;>omega
theorem afC(g:fY)(p:Pos)(os:List gJ)(o:gJ):(kr g p os).length<=(kr g p (os ++ [o])).length:=by
 rw[Rm,Rm,if_neg (show os ++ [o]≠[]by simp)]
 by_cases a:kc os = []
 .rw[if_pos a];split<;>split<;>omega
 .rw[if_neg a,if_neg (show kc (os ++ [o])≠[]by rw[oN];simp[a])];split<;>omega
theorem XM{g:fY}{p:Pos}{os:List gJ}{n:Nat}(c:6<=n)(a:n<=(kr g p os).length):dedup ((((kr g p os).take n).map (oG n)).flatten.filter (· < (kr g p os).length))=List.range' n ((kr g p os).length-n):=by
 by_cases h:os = []
 .subst h;have:n=6:=by rw[DK]at a;simp at a;omega
  subst this;rw[DK];simp
 .by_cases b:kc os = []
  .rw[xX g p h b]at *;have:n=6\/n=7:=by simp at a;omega
   rcases this with rfl|rfl<;>simp<;>rfl
  .rw[tw g p h b]at *;have:n=6\/n=7\/n=8:=by simp at a;omega
   rcases this with rfl|rfl|rfl<;>simp<;>rfl
theorem XL(g:fY)(p:Pos)(os:List gJ):jl (kr g p os).length (kr g p os):=by
 by_cases h:os = []
 .subst h;rw[DK];simp
 .by_cases a:kc os = []
  .rw[xX g p h a];simp
  .rw[tw g p h a];simp
theorem zA{g:fY}{p:Pos}{os:List gJ}{n:Nat}{live:List Nat}{env:Env}{r:Bool}(c:6<=n)(a:n<=(kr g p os).length)(b:((forget live env).all λp=>jm n p.2)=true) :
  cut n live { env:=env,H:=kr g p os,marks:=[],iq:=r } = { env:=forget live env,H:=kr g p os,marks:=[],iq:=r }:=acK a b (XM c a) (XL g p os)
theorem afB{g:fY}{p:Pos}{os:List gJ}{n:Nat}{d:D}(c:6<=n)(a:n<=(kr g p os).length)(b:jm n d=true):leave 0 n (kr g p os) d=(d,kr g p os):=agy a b (XM c a) (XL g p os)
theorem DL{g:fY}{p:Pos}(os:List gJ){n:Nat}{live:List Nat}{env:Env}{H:U}{r:Bool}(c:H=kr g p os)(d:6<=n)(a:n<=(kr g p os).length)(b:((forget live env).all λp=>jm n p.2)=true) :
  cut n live { env:=env,H:=H,marks:=[],iq:=r } = { env:=forget live env,H:=H,marks:=[],iq:=r }:=by
 subst c;exact zA d a b
theorem f83(g:fY)(hg:gN g)(p:Pos)(u:ij g p):Wf T 213 [.iP 5,.gi p.cells,.gi g.cells] (kr g p []) (λ_ H'=>∃os,(∀o,o∈os↔o∈pY g p)/\os.length<=3600000000/\H'=kr g p os):=by
 have V:=u.size;have W:=hg.jB.size;have P:=hg.kinds;have M:=u.side;have G:(kr g p []).length=6:=rfl;have q:=Rl g p [];have x:5<(kr g p []).length:=q;refine Yg Li ?_;simp[Li];refine fZ.e ((0,[]):Int×List gJ) (λy=>[(0,.iP 5),(1,.gi p.cells),(2,.gi g.cells),(14,dI p.cs),(15,.i p.cs.length),(16,.i y.1)]) (λy=>kr g p y.2) (λy=>0<=y.1/\y.1<=p.cs.length/\(∀o,o∈y.2↔o∈(upto y.1.toNat).flatMap (pH g p))/\y.2.length<=400000000*y.1.toNat) (λy=>(p.cs.length-y.1).toNat) ?_ ?_
 .simp
 rintro⟨i,os⟩ ⟨i0,O,D,N⟩;dsimp only at i0 O D N ⊢;have w:=Rl g p os;have I:5<(kr g p os).length:=w;have t:(kr g p []).length<=(kr g p os).length:=by rw[G];exact w
 by_cases hi:i<p.cs.length
 .have A:∀o,o∈(upto (i+1).toNat).flatMap (pH g p)↔o∈os\/o∈pH g p i:=λo=>by rw[xa i0,bK,List.mem_append,<-D];simp
  simp[hi];refine fQ ?_;refine Yc (f84 (gt p.cs i)) ?_;simp
  by_cases n:jS (gt p.cs i)=p.side
  .obtain⟨m0,m1,m2,m3⟩:=Hw M.1 n;have L:=u.cs _ (gq i0 hi);have K:gC (gt p.cs i)<g.kinds.length:=yf L.2 P.1;have U:(gt g.kinds (gC (gt p.cs i))).jh.length<=4:=(hg.jh _ (gq m0 K)).1;have B:pH g p i=(gt g.kinds (gC (gt p.cs i))).jh.flatMap (uF g p i):=by unfold pH;rw[if_pos n]
   simp[n,show¬gC (gt p.cs i)<0 by omega];refine fQ ?_;refine fZ.e ((0,os):Int×List gJ) (λy=>[(0,.iP 5),(1,.gi p.cells),(2,.gi g.cells),(4,.i i),(14,dI p.cs),(15,.i p.cs.length),(16,.i i),(40,.i (gt g.kinds (gC (gt p.cs i))).jh.length),(41,.i y.1)]) (λy=>kr g p y.2) (λy=>0<=y.1/\y.1<=(gt g.kinds (gC (gt p.cs i))).jh.length/\(kr g p os).length<=(kr g p y.2).length/\(∀o,o∈y.2↔o∈os\/o∈((gt g.kinds (gC (gt p.cs i))).jh.take y.1.toNat).flatMap (uF g p i))/\y.2.length<=os.length+100000000*y.1.toNat) (λy=>((gt g.kinds (gC (gt p.cs i))).jh.length-y.1).toNat) ?_ ?_
   .simp
   rintro⟨j,f⟩ ⟨j0,j1,j2,j3,j4⟩;dsimp only at j0 j1 j2 j3 j4 ⊢;have l:=Rl g p f;have F:5<(kr g p f).length:=l
   by_cases v:j<(gt g.kinds (gC (gt p.cs i))).jh.length
   .simp[v];refine Yq (f85 g hg p u i j ⟨i0,hi⟩ n ⟨j0,v⟩) λr E=>?_;simp;refine fZ.e ((0,f):Int×List gJ) (λy=>[(0,.iP 5),(1,.gi p.cells),(2,.gi g.cells),(4,.i i),(14,dI p.cs),(15,.i p.cs.length),(16,.i i),(40,.i (gt g.kinds (gC (gt p.cs i))).jh.length),(41,.i j),(52,dN 6 gJ.cells r),(53,.i r.length),(54,.i y.1)]) (λy=>kr g p y.2) (λy=>0<=y.1/\y.1<=r.length/\(kr g p f).length<=(kr g p y.2).length/\(∀o,o∈y.2↔o∈f\/o∈r.take y.1.toNat)/\y.2.length<=f.length+y.1.toNat) (λy=>(r.length-y.1).toNat) ?_ ?_
    .simp
    rintro⟨k,a⟩ ⟨k0,k1,k2,k3,k4⟩;dsimp only at k0 k1 k2 k3 k4 ⊢
    by_cases s:k<r.length
    .have S:a.length<2 ^ 39:=by have:=E.2;omega
     have R:=aaS a;have d:=Ut a;have c:=Nat.le_trans k2 (afC g p a (gt r k))
     have m:∀o,o∈a ++ [gt r k]↔o∈f\/o∈r.take (k+1).toNat:=λo=>by rw[jd k0 s,List.mem_append,List.mem_append,k3,or_assoc]
     by_cases h1:a = []
     .subst h1;rw[DK g p]at *;simp[s];refine fQ ?_;refine qc.r (rf:=6016) (env0:=[(7,.ptr 2 0 0),(8,.ptr 3 0 0)]) (Rd:=p8) (by simp) rfl rfl p8.a p8.b (om rfl) (om rfl) ?_;cases b:(gt r k).jF
      .simp[p8,b,d];refine jH d ?_;rw[DL ([] ++ [gt r k]) ?_ l c ?_]
       .simp;refine LJ.i (k+1,[] ++ [gt r k]) rfl ?_ rfl rfl ?_
        .dsimp only;rw[xX g p (os:=[] ++ [gt r k]) (by simp) (by rw[oN,b];simp;rfl)];simp[ma,kc,b,iI]
        .exact gI ⟨c,m,by dsimp only at k4 ⊢;simp at k4 ⊢;omega⟩
       .rw[xX g p (os:=[] ++ [gt r k]) (by simp) (by rw[oN,b];simp;rfl)];simp[ma,kc,b,iI]
       .simp;omega
      .simp[p8,b,d];refine jH d ?_;rw[DL ([] ++ [gt r k]) ?_ l c ?_]
       .simp;refine LJ.i (k+1,[] ++ [gt r k]) rfl ?_ rfl rfl ?_
        .dsimp only;rw[tw g p (os:=[] ++ [gt r k]) (by simp) (by rw[oN,b];simp)];simp[ma,kc,b,iI]
        .exact gI ⟨c,m,by dsimp only at k4 ⊢;simp at k4 ⊢;omega⟩
       .rw[tw g p (os:=[] ++ [gt r k]) (by simp) (by rw[oN,b];simp)];simp[ma,kc,b,iI]
       .simp;omega
     .by_cases e:kc a = []
      .have h:a.length-1+1=a.length:=by have:=ax.2 h1;omega
       rw[xX g p h1 e]at *;simp[s];refine fQ ?_;refine qc.r (rf:=6016) (env0:=[(7,.ptr 2 0 0),(8,.ptr 3 0 0)]) (Rd:=p8) (by simp) rfl rfl p8.a p8.b (om rfl) (om rfl) ?_;cases b:(gt r k).jF
       .simp[p8,b,d];refine jH d ?_;rw[DL (a ++ [gt r k]) ?_ l c ?_]
        .simp;refine LJ.i (k+1,a ++ [gt r k]) rfl ?_ rfl rfl ?_
         .dsimp only;rw[xX g p (os:=a ++ [gt r k]) (by simp) (by rw[oN,b];simp;exact e)];simp[yP,oN,b,e,iI,h]
         .exact gI ⟨c,m,by dsimp only at k4 ⊢;simp at k4 ⊢;omega⟩
        .rw[xX g p (os:=a ++ [gt r k]) (by simp) (by rw[oN,b];simp;exact e)];simp[yP,oN,b,e,iI,h]
        .simp;omega
       .simp[p8,b,d];refine jH d ?_;rw[DL (a ++ [gt r k]) ?_ l c ?_]
        .simp;refine LJ.i (k+1,a ++ [gt r k]) rfl ?_ rfl rfl ?_
         .dsimp only;rw[tw g p (os:=a ++ [gt r k]) (by simp) (by rw[oN,b];simp)];simp[yP,oN,b,e,iI,h]
         .exact gI ⟨c,m,by dsimp only at k4 ⊢;simp at k4 ⊢;omega⟩
        .rw[tw g p (os:=a ++ [gt r k]) (by simp) (by rw[oN,b];simp)];simp[yP,oN,b,e,iI,h]
        .simp;omega
      .have h:a.length-1+1=a.length:=by have:=ax.2 h1;omega
       have z:(kc a).length-1+1=(kc a).length:=by have:=ax.2 e;omega
       rw[tw g p h1 e]at *;simp[s];refine fQ ?_;refine qc.r (rf:=6016) (env0:=[(7,.ptr 2 0 0),(8,.ptr 3 0 0)]) (Rd:=p8) (by simp) rfl rfl p8.a p8.b (om rfl) (om rfl) ?_;cases b:(gt r k).jF
       .simp[p8,b,d];refine jH d ?_;rw[DL (a ++ [gt r k]) ?_ l c ?_]
        .simp;refine LJ.i (k+1,a ++ [gt r k]) rfl ?_ rfl rfl ?_
         .dsimp only;rw[tw g p (os:=a ++ [gt r k]) (by simp) (by rw[oN,b];simp;exact e)];simp[yP,oN,b,h,z]
         .exact gI ⟨c,m,by dsimp only at k4 ⊢;simp at k4 ⊢;omega⟩
        .rw[tw g p (os:=a ++ [gt r k]) (by simp) (by rw[oN,b];simp;exact e)];simp[yP,oN,b,h,z]
        .simp;omega
       .simp[p8,b,d];refine jH d ?_;rw[DL (a ++ [gt r k]) ?_ l c ?_]
        .simp;refine LJ.i (k+1,a ++ [gt r k]) rfl ?_ rfl rfl ?_
         .dsimp only;rw[tw g p (os:=a ++ [gt r k]) (by simp) (by rw[oN,b];simp)];simp[yP,oN,b,h,z]
         .exact gI ⟨c,m,by dsimp only at k4 ⊢;simp at k4 ⊢;omega⟩
        .rw[tw g p (os:=a ++ [gt r k]) (by simp) (by rw[oN,b];simp)];simp[yP,oN,b,h,z]
        .simp;omega
    .have C:r.take k.toNat=r:=kW (by omega);rw[C]at k3
     have Q:∀o,o∈a↔o∈os\/o∈((gt g.kinds (gC (gt p.cs i))).jh.take (j+1).toNat).flatMap (uF g p i):=λo=>by rw[k3,j3,E.1,jd j0 v,bK,List.mem_append,or_assoc];simp
     simp[s,zA (os:=a) l k2,zA (os:=a) w (Nat.le_trans j2 k2),F,I];refine fQ ?_;refine LJ.i (j+1,a) rfl rfl rfl rfl ?_;have:=E.2;exact gI ⟨Nat.le_trans j2 k2,Q,by dsimp only at j4 k4 ⊢;omega⟩
   .have C:(gt g.kinds (gC (gt p.cs i))).jh.take j.toNat=(gt g.kinds (gC (gt p.cs i))).jh:=kW (by omega);rw[C,<-B]at j3;simp[v,zA (os:=f) w j2,I];refine fQ ?_;simp[zA (os:=f) q (Nat.le_trans t j2),x];refine LJ.i (i+1,f) rfl rfl rfl rfl ?_;exact⟨by dsimp only;omega,by dsimp only;omega,by dsimp only;omega,λo=>by rw[A,j3],by dsimp only at j4 ⊢;omega⟩
  .have B:pH g p i = []:=by unfold pH;rw[if_neg n]
   rw[B]at A;have H:0<=i+1/\i+1<=p.cs.length/\(∀o,o∈os↔o∈(upto (i+1).toNat).flatMap (pH g p))/\os.length<=400000000*(i+1).toNat:=⟨by omega,by omega,λo=>by rw[A];simp,by omega⟩
   by_cases J:gC (gt p.cs i)<0
   .simp[J];refine fQ ?_;simp[zA (os:=os) q t,x];exact LJ.i (i+1,os) rfl rfl rfl rfl (o9 H)
   .simp[J,n];refine fQ ?_;simp[zA (os:=os) q t,x];exact LJ.i (i+1,os) rfl rfl rfl rfl (o9 H)
 .simp[hi,zA (os:=os) q t,x];rw[afB q t (by simp)];refine⟨os,λo=>?_,by omega,rfl⟩;rw[D,pY,show i.toNat=p.cs.length by omega]
