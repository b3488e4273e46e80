/- Part 43 of DisputeWorkers. -/
import Derived.Test.YtmehofoficaelaaGreatDoorW42
set_option linter.all false
namespace Go.Proofs.YtmehofoficaelaaGreatDoor
open Go Go.AL Classical
set_option maxRecDepth 10000
set_option maxHeartbeats 4000000
theorem afp{α:Type}[Inhabited α]{l:List α}{x:α}{n:Int}(h:n.toNat=l.length):gt (l ++ [x]) n=x:=by unfold gt;rw[List.getD_eq_getElem?_getD,ai (by omega),h,bS];rfl
theorem aeT(g:gi)(hg:gV g)(l:List Pos)(hl:pa g l)(O:0<l.length):Wf T 71 [dG g,gZ l,.sl 1 ((gC g l).map fI)] [] (Ey gY λr=>r.length=l.length/\∀k:Int,0<=k->k<l.length->kA (jT g l (gC g l)) r k):=by
 have E:=hl.len;have Q:(gC g l).length=l.length:=by simp[gC]
 refine Yg LI ?_;simp[LI];refine Yn (aeX g hg l hl) ?_;simp;have N:(l.map (s0 g)).length=l.length:=by simp
 have M:=KI.start hl;generalize P:l.map (s0 g)=v0 at *;refine gj.e ((1,true,l.length,v0):Int×Bool×Nat×List Kn) (λy=>[(1,gZ l),(2,.sl 1 ((gC g l).map fI)),(7,.fY (if y.2.1 then 1 else 2) y.2.2.1 3 0 l.length),(8,.i y.1)]) (λy=>.row 43 0 g.cells :: .row 245 l.length (cl fK v0)::(if y.2.1 then []else [.row 245 y.2.2.1 (cl fK y.2.2.2)])) (λy=>1<=y.1/\y.1<=l.length+1/\KI g l y.1 y.2.2.2/\(y.2.1=true->y.2.2.1=l.length/\y.2.2.2=v0/\y.1=1)) (λy=>l.length+1-y.1.toNat) ?_ ?_
 .exact⟨by simp,by simp;omega,M,λ_=>⟨rfl,rfl,rfl⟩⟩
 rintro⟨n,b,p,v⟩ ⟨n0,n1,m,B⟩;dsimp only at n0 n1 m B ⊢;have n2:=m.len
 have H:∀i:Int,0<=i->i<l.length->∀k∈gt (gC g l) i,0<=k/\k<v.length:=λi a c k o=>by have:=(ru hl a c).2 k o;omega
 have C:∀i:Int,0<=i->i<l.length->(gt (gC g l) i).length<2 ^ 40:=λi a c=>by rw[(ru hl a c).1,List.length_map];have:=Au hg (hl.ok _ (gy a c));omega
 have z:∀i:Int,0<=i->i<l.length->∀k∈gt (gC g l) i,(gt v k).2.2=true->0<=(gt v k).2.1:=λi a c k o e=>m.nn ((ru hl a c).2 k o).1 ((ru hl a c).2 k o).2 e;have u:∀i:Int,0<=i->i<l.length->(gt v i).2.2=false->0<(gt (gC g l) i).length:=λi a c e=>ax.2 (m.ne hl (by omega) a c e);cases b
 .simp;refine j' ?_ ?_<;>intro h
  .refine gj.e ((0,v):Int×List Kn) (λy=>[(1,gZ l),(2,.sl 1 ((gC g l).map fI)),(7,.fY 2 p 3 0 l.length),(8,.i n),(9,.fY 3 1 3 0 l.length),(10,.i y.1)]) (λy=>[.row 43 0 g.cells,.row 245 l.length (cl fK v0),.row 245 p (cl fK v),.row 245 1 (cl fK y.2)]) (λy=>0<=y.1/\y.1<=l.length/\y.2.length=l.length/\∀k:Int,0<=k->k<l.length->gt y.2 k=if k<y.1/\(gt v k).2.2=false then pL v (gt (gC g l) k) n else gt v k) (λy=>l.length-y.1.toNat) ?_ ?_
   .exact⟨by simp,by simp,n2,λk k0 k1=>by rw[if_neg (by dsimp only;omega)]⟩
   rintro⟨j,now⟩ ⟨j0,j1,j2,j3⟩;dsimp only at j0 j1 j2 j3 ⊢;simp;(with_reducible repeat' first|refine Xk ?_<;>try simp|refine Xs ?_ ?_<;>intro h<;>(try intro F)<;>(try simp[h])<;>try omega|refine Xg ?_|omega)
   .refine LJ.e (j+1,now) ?_;refine gO ⟨j2,λk k0 k1=>?_⟩;dsimp only;rw[j3 k k0 k1]
    by_cases e:k=j
    .subst e;rw[if_neg (by omega),if_neg (by simp[*])]
    .simp only[show k<j+1↔k<j by omega]
   .refine gx.r rfl rfl (Wu v _ n (by omega) (u j j0 ‹_› ‹_›) (C j j0 ‹_›) (H j j0 ‹_›) (z j j0 ‹_›)) (by simp[n2]) (by simp[flat,tF]) (by simp) ?_;simp;refine gd ?_;have d:=MJ (f:=fK) now j (by omega) (pL v (gt (gC g l) j) n);rw[DC]at d;refine LJ.i (j+1,pt now j (pL v (gt (gC g l) j) n)) (by first|rfl|simp[<-d]) (by first|rfl|simp[<-d]) rfl rfl ?_;have L:=iP (l:=now) (n:=j) (v:=pL v (gt (gC g l) j) n) j0 (by omega);refine Ay (λk k0 k1=>?_);dsimp only;rw[pR j0 (by omega) k0,j3 k k0 k1]
    by_cases e:k=j
    .subst e;rw[if_pos rfl,if_pos ⟨by omega,‹_›⟩]
    .rw[if_neg e];simp only[show k<j+1↔k<j by omega]
   .refine LJ.e (n+1,false,1,now) ?_;refine gO ⟨?_,λh=>by cases h⟩;refine m.step hg hl n0 j2 λk k0 k1=>?_;rw[j3 k k0 k1];simp only[show k<j by omega,true_and]
  .have t:n=l.length+1:=by omega
   subst t;refine gj.e ((0,v,[]):Int×List Kn×List fZ) (λy=>[(1,gZ l),(7,.fY 2 p 3 0 l.length),(11,.fY 3 y.2.2.length 2 0 y.2.2.length),(12,.i y.1)]) (λy=>[.row 43 0 g.cells,.row 245 l.length (cl fK v0),.row 245 p (cl fK y.2.1),.row 86 y.2.2.length (cl fS y.2.2)]) (λy=>0<=y.1/\y.1<=l.length/\y.2.1.length=l.length/\y.2.2.length=y.1.toNat/\(∀k:Int,0<=k->k<y.1->gt y.2.2 k=if (gt v k).2.2=true then((gt v k).1,(gt v k).2.1)else(2,0))/\(∀k:Int,y.1<=k->k<l.length->gt y.2.1 k=gt v k)) (λy=>l.length-y.1.toNat) ?_ ?_
   .exact⟨by simp,by simp,n2,by simp,λk k0 k1=>by dsimp only at k1;omega,λk k0 k1=>rfl⟩
   rintro⟨j,w,out⟩ ⟨j0,j1,j2,j3,j4,j5⟩;dsimp only at j0 j1 j2 j3 j4 j5 ⊢
   by_cases s:j<l.length
   .have d:=acr (l:=w) (n:=j) (by omega) 2 0;have D:∀v,(pt w j v).length=w.length:=λv=>iP j0 (by omega);have I:∀v,gt (pt w j v) j=v:=λv=>DG j0 (by omega);have G:=j5 j (by omega) s
    have A:∀(x:fZ),((gt v j).2.2=true->x=((gt v j).1,(gt v j).2.1))->((gt v j).2.2=false->x=(2,0))->∀k:Int,0<=k->k<j+1->gt (out ++ [x]) k=if (gt v k).2.2=true then((gt v k).1,(gt v k).2.1)else(2,0):=λx K J k k0 k1=>by
     by_cases e:k=j
     .subst e;rw[afp (by omega)]
      by_cases q:(gt v k).2.2=true
      .rw[if_pos q];exact K q
      .rw[if_neg q];exact J (by simpa using q)
     .rw[afn (by omega) (by omega)];exact j4 k k0 (by omega)
    simp[s,d];refine abE d D I ?_ ?_<;>intro h
    .refine LJ.e (j+1,w,out ++ [((gt w j).1,(gt w j).2.1)]) ?_;rw[G]at *;refine⟨by dsimp only;omega,by dsimp only;omega,by dsimp only;omega,by dsimp only;omega,by simp;omega,A _ (λ_=>rfl) (λe=>by simp[*]at e),λk k0 k1=>j5 k (by dsimp only at k0;omega) k1⟩
    .refine LJ.e (j+1,pt w j (2,0,false),out ++ [(2,0)]) ?_;rw[G]at *;refine⟨by dsimp only;omega,by dsimp only;omega,by dsimp only;omega,by dsimp only;rw[D];omega,by simp;omega,A _ (λe=>by simp[*]at e) (λ_=>rfl),λk k0 k1=>?_⟩;dsimp only at k0 ⊢;rw[pR j0 (by omega) (by omega),if_neg (by omega)];exact j5 k (by omega) k1
   .simp[s];exact Ey.i out rfl rfl ⟨by omega,m.done hg hl (by omega) λk k0 k1=>j4 k k0 (by omega)⟩
 .obtain⟨rfl,rfl,rfl⟩:=B rfl;simp;(with_reducible repeat' first|refine Xk ?_<;>try simp|refine Xs ?_ ?_<;>intro h<;>(try intro F)<;>(try simp[h])<;>try omega|refine Xg ?_|omega)
  .refine gj.e ((0,v):Int×List Kn) (λy=>[(1,gZ l),(2,.sl 1 ((gC g l).map fI)),(7,.fY 1 l.length 3 0 l.length),(8,.i 1),(9,.fY 2 1 3 0 l.length),(10,.i y.1)]) (λy=>[.row 43 0 g.cells,.row 245 l.length (cl fK v),.row 245 1 (cl fK y.2)]) (λy=>0<=y.1/\y.1<=l.length/\y.2.length=l.length/\∀k:Int,0<=k->k<l.length->gt y.2 k=if k<y.1/\(gt v k).2.2=false then pL v (gt (gC g l) k) 1 else gt v k) (λy=>l.length-y.1.toNat) ?_ ?_
   .exact⟨by simp,by simp,n2,λk k0 k1=>by rw[if_neg (by dsimp only;omega)]⟩
   rintro⟨j,now⟩ ⟨j0,j1,j2,j3⟩;dsimp only at j0 j1 j2 j3 ⊢;simp;(with_reducible repeat' first|refine Xk ?_<;>try simp|refine Xs ?_ ?_<;>intro h<;>(try intro F)<;>(try simp[h])<;>try omega|refine Xg ?_|omega)
   .refine LJ.e (j+1,now) ?_;refine gO ⟨j2,λk k0 k1=>?_⟩;dsimp only;rw[j3 k k0 k1]
    by_cases e:k=j
    .subst e;rw[if_neg (by omega),if_neg (by simp[*])]
    .simp only[show k<j+1↔k<j by omega]
   .refine gx.r rfl rfl (Wu v _ 1 (by omega) (u j j0 ‹_› ‹_›) (C j j0 ‹_›) (H j j0 ‹_›) (z j j0 ‹_›)) (by simp[n2]) (by simp[flat,tF]) (by simp) ?_;simp;refine gd ?_;have d:=MJ (f:=fK) now j (by omega) (pL v (gt (gC g l) j) 1);rw[DC]at d;refine LJ.i (j+1,pt now j (pL v (gt (gC g l) j) 1)) (by first|rfl|simp[<-d]) (by first|rfl|simp[<-d]) rfl rfl ?_;have L:=iP (l:=now) (n:=j) (v:=pL v (gt (gC g l) j) 1) j0 (by omega);refine Ay (λk k0 k1=>?_);dsimp only;rw[pR j0 (by omega) k0,j3 k k0 k1]
    by_cases e:k=j
    .subst e;rw[if_pos rfl,if_pos ⟨by omega,‹_›⟩]
    .rw[if_neg e];simp only[show k<j+1↔k<j by omega]
   .refine LJ.e (1+1,false,1,now) ?_;refine gO ⟨?_,λh=>by cases h⟩;refine m.step hg hl (by omega) j2 λk k0 k1=>?_;rw[j3 k k0 k1];simp only[show k<j by omega,true_and]
theorem aeK(g:gi)(hg:gV g)(l:List Pos)(hl:pa g l)(b:0<l.length):Wf T 25 [dG g,gZ l] [] (Ey (λx:List fZ×List Int=>.agg [gY x.1,dI x.2,.i 0]) λx=>x.1.length=l.length/\∀k:Int,0<=k->k<l.length->kA (jT g l (gC g l)) x.1 k):=by refine Yg Kt ?_;simp[Kt];refine Yc (f37 g hg l hl) ?_;simp;refine Yq (aeT g hg l hl b) λv a=>?_;simp;refine Yq (f39 g hg l hl v a.1) λf c=>?_;simp;exact Ey.i (v,f) rfl rfl a
