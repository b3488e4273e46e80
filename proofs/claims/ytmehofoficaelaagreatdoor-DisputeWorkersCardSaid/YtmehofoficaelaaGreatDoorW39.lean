/- Part 39 of DisputeWorkers. -/
import Derived.Test.YtmehofoficaelaaGreatDoorW37
import Derived.Test.YtmehofoficaelaaGreatDoorW38
import Derived.Test.YtmehofoficaelaaGreatDoorW26
set_option linter.all false
namespace Go.Proofs.YtmehofoficaelaaGreatDoor
open Go Go.AL Classical
set_option maxRecDepth 10000
set_option maxHeartbeats 8000000
section
variable{H G R:U}{k j:Nat}{o o':Ob}
@[simp] theorem UT:(H++G).set H.length o=H++G.set 0 o:=by rw[dy _ _ (by omega),bS]
end
section
variable{id n:Nat}{live keys:List Nat}{K:iY}{s:St}{J:Env->U->List Nat->Bool->Prop}
@[simp ↓ high] theorem arX:xS id n (9999::live) K (.norm s)=K (.norm { s with env:=forget (9999::live) s.env }):=by rw[U0,P2]
@[simp ↓ high] theorem ar0:xS id n (9999::live) K (.exit id s)=K (.norm { s with env:=forget (9999::live) s.env }):=by rw[U1,P2]
@[simp ↓ high] theorem av1:wi n (9999::live) keys J K (.norm s)=J (forget keys (forget (9999::live) s.env)) s.H s.marks s.iD:=by rw[Zk,P2]
end
@[simp] theorem avf(r:fZ):sJ (lA r) = .agg [.i r.1,.i r.2]:=rfl
theorem ag6{n:Nat}{H G:U}{v g:Nat}{x:List Int}(k:H.length=n)(d:jj n H)(b:G[v]? = some (.row 3 g (cl f1 x)))(f:x≠[]) :
  leave 0 n (H++G) (.fY (n+v) g 1 0 x.length)=(dN 1 f1 x,H):=by
 have m:=(ae.1 b).1
 have l:(((H++G).take n).map (oZ n)).flatten = []:=flatten_nil λo c=>by rw[aV (by omega),af (by omega)]at c;exact S4 (d o c)
 have e:iI (ji n []) (n+v)=none:=by
  unfold iI ji;rw[List.map_nil,az,dF];intro p j;obtain⟨u,h,rfl⟩:=ar.1 j;rw[bj]at h;have:u≠n+v:=by omega
  simpa using this
 have i:AL.rowAt (H++G) (n+v) g=some (3,cl f1 x):=by unfold AL.rowAt;rw[ai (by omega),show n+v-H.length=v by omega,b];simp
 unfold leave;rw[if_neg (by rw[ak];omega)];simp only;rw[l];show(gq (iI (ji n [])) (H++G) 40 _,rC (ji n []) (H++G))=_;rw[IS k d,AL.TE,e,aaP,i,vu rfl];refine cL ?_ rfl
 cases x with
 | nil=>exact absurd rfl f
 | cons a r=>rfl
theorem aeH:Wf T 126 [.val (.int .u64 0)] [] (Is (.i 0)):=o5 (k:=40) (by kernel_rfl)
theorem aeM{H:U}:Wf T 189 [.gg,.i 0,.i 0] H (λd H'=>d = .tup []/\H'=H):=by refine Yg Lh ?_;simp[Lh];refine gj.un ?_;refine kP.u ?_;simp
theorem aeN{H:U}:Wf T 125 [.gg,.i 0,.i 0,.i 0] H (λd H'=>d = .tup []/\H'=H):=by refine Yg K2 ?_;simp[K2];refine gj.un ?_;refine kP.u ?_;simp;refine gx.kH rfl rfl aeM ?_;rintro _ H' ⟨rfl,rfl⟩;simp
theorem Wr{H:U}:Wf T 67 [.gg] H (λd H'=>d = .tup []/\H'=H):=by refine Yg KG ?_;simp[KG];refine Yc (aeH) ?_;simp;refine gx.kH rfl rfl aeN ?_;rintro _ H' ⟨rfl,rfl⟩;simp
def abC(n:Nat)(G:U)(out:List Int)(d:D):Prop:=(out = []/\d = .gg)\/(out≠[]/\∃v g,d = .fY (n+(v+1)) g 1 0 out.length/\G[v+1]? = some (.row 3 g (cl f1 out)))
theorem wh{H G:U}{d:D}(gf:jj H.length H)(a:ju H.length d=true):leave 0 H.length (H++G) d=(d,H):=Y' rfl gf a
attribute [-simp] uL
theorem Qk{H:U}{ck sr n:Nat}{M:Nat->kh}{ow:Nat->Nat×Nat×Nat}{P:Nat->Nat}{Q:Nat->Nat->Nat}{cells:List D}(W:mj H ck sr n M ow P Q)(gf:jj H.length H)(I:H[ck]? = some (.row 168 0 cells))(S:cells[12]? = some (.fY sr 0 1 0 n))
  {cm:List gK} (h8:cm.length<=100000) {i:Int} (i0:0<=i) (i1:i<n) (hM:M i.toNat=gM cm i) {w:fZ->Bool} {Qp:FuncId} {cap:List D}
  (hw:∀(r:fZ) (dst:Option Nat) (s:St) (K:St->Prop),(∀(v:Nat) (o:Ob),H[v]? = some o->s.H[v]? = some o)->K { s with env:=put s.env dst (.b (w r)) }->gx T Qp (.agg [.i r.1,.i r.2]::cap) dst s K .mk) :
  Wf T 119 [.ptr ck 0 0,.i i,.fn (.func Qp) [] cap] H (λd H'=>d=dN 1 f1 (kf (λc=>jK c i&&w (kI c i)) cm cm.length)/\H'=H):=by
 obtain⟨u,_⟩:=W.mp i.toNat (by omega);have X:=W.ls i.toNat (by omega);have gX:=W.row;rw[hM]at u X
 have hj:((List.range n).map λj=>D.gD (P j))[i.toNat]? = some (.gD (P i.toNat)):=by rw[au,bN (by omega)];rfl
 obtain⟨p,J⟩:∃p,P i.toNat=p:=⟨_,rfl⟩;obtain⟨q,yw⟩:∃q,Q i.toNat=q:=⟨_,rfl⟩;rw[J]at u hj;rw[yw]at u X;have gH:i<(n:Int):=i1;have sA:=(ae.1 I).1;have iF:=(ae.1 u).1;have O:∀G,(H++G)[p]? = some (.map KS (iV q 0 (gM cm i))):=λG=>by rw[ah iF,u]
 refine Yg JL ?_;simp[JL,I,S,gX,J,u,i0,gH];(with_reducible repeat' first|refine Xk ?_<;>try simp[I,S,gX,J,u,i0,gH]|refine Xs ?_ ?_<;>intro h<;>(try intro h')<;>(try simp[h,I,S,gX,J,u,i0,gH])<;>try omega|refine Xg ?_|omega);refine gj.e (([.jl (.gD p) (gM cm i).length []],[],[],.gg):U×List Nat×List Int×D) (λy=>[(2,.fn (.func Qp) [] cap),(7,y.2.2.2),(17,.ptr H.length 0 0)]) (λy=>H++y.1) (λy=>y.1[0]? = some (.jl (.gD p) (gM cm i).length y.2.1)/\tz cm i w y.2.1 y.2.2.1/\abC H.length y.1 y.2.2.1 y.2.2.2) (λy=>(gM cm i).length-y.2.1.length) ?_ ?_
 .exact⟨rfl,tz.start,.inl ⟨rfl,rfl⟩⟩
 rintro⟨G,seen,out,d⟩ ⟨Z,hS,N⟩;dsimp only at Z hS N ⊢;have D1:=(ae.1 Z).1;have D9:=hS.len;simp;refine uE.at (m:=p) (since:=(gM cm i).length) (seen:=seen) (kk:=KS) (es:=iV q 0 (gM cm i)) (by simp[Z]) (by simp[O]) (by simp) (λV=>?_) λt kv dv he hi=>?_
 .have V:∀t,t<(gM cm i).length->t∈seen:=by simpa using V
  have DW:=hS.done V;simp;refine gd ?_;rcases N with⟨rfl,rfl⟩|⟨L,v,g,rfl,f⟩
  .refine gx.kH rfl rfl Wr ?_;rintro _ H' ⟨rfl,rfl⟩;have:kf (λc=>jK c i&&w (kI c i)) cm cm.length = []:=by rw[<-DW];simp
   rw[this];simp[wh gf,dN]
  .refine gx.kH rfl rfl (f160 (l:=out) (t:=3) (K:=λd H'=>d = .tup []/\H'=H++G.set (v+1) (.row 3 g (cl f1 (kf (λc=>jK c i&&w (kI c i)) cm cm.length)))) (ax.2 L) (by omega) (by simp[f]) ⟨rfl,by simp[DW]⟩) ?_;rintro _ H' ⟨rfl,rfl⟩;have F:(kf (λc=>jK c i&&w (kI c i)) cm cm.length).length=out.length:=by rw[<-DW,eC]
   have px:=ag6 (G:=G.set (v+1) (.row 3 g (cl f1 (kf (λc=>jK c i&&w (kI c i)) cm cm.length)))) (v:=v+1) (g:=g) rfl gf (by rw[aI (ae.1 f).1]) (λe=>L (ay.1 (by rw[<-F,e];rfl)));rw[F]at px;simp[px]
 .rw[vq]at he;obtain⟨x,B,kM⟩:=aj.1 he;cases kM;rw[aQ]at *;obtain⟨Ya,_⟩:=X t x B;have ie:=(Nq B).2;have z:=hS.step B hi;have pB:=IN hS.nd hS.lt (ae.1 B).1 hi;have Eg:=(ae.1 Ya).1;have A:∀G,(H++G)[q t]? = some (.row 3 (x.2.length-1) (cl f1 x.2)):=λG=>by rw[ah Eg,Ya];rfl
  have jB:(iV q 0 (gM cm i))[t]? = some (lA x.1,oI (q t) x.2):=by rw[vq,B];simp
  obtain⟨a,Bt⟩:∃a,G.set 0 (.jl (.gD p) (gM cm i).length (seen ++ [t]))=a:=⟨_,rfl⟩;have E:a[0]? = some (.jl (.gD p) (gM cm i).length (seen ++ [t])):=by rw[<-Bt,aI D1]
  have QU:∀(v:Nat) (o:Ob),G[v+1]? = some o->a[v+1]? = some o:=λv o f=>by rw[<-Bt,aB (by omega)];exact f
  have e:(H++G).set H.length (.jl (.gD p) (gM cm i).length (seen ++ [t]))=H++a:=by rw[UT,Bt]
  have NK:=(ae.1 E).1;rw[e];obtain⟨b,hb⟩:∃b,w x.1=b:=⟨_,rfl⟩;rw[hb]at z
  have sI:x.2.length<=cm.length:=by rw[(Nq B).1];exact Av _ _ ((Ez _ _ _).imp λh e=>by omega) λk hk=>(Ao.1 hk).1
  simp[O,jB,E];refine qz O jB E ?_;refine hw x.1 _ _ _ (λv o f=>?_) ?_
  .have C:=(ae.1 f).1;simp[ah C,f]
  rw[hb]
  have Y:(gM cm i).length-(seen ++ [t]).length<(gM cm i).length-seen.length:=by have:=pB.2.2;rw[ak,aY]at this ⊢;omega
  have BM:∀(R:U),(a++R)[0]? = some (.jl (.gD p) (gM cm i).length (seen ++ [t])):=λR=>by rw[ah NK];exact E
  cases b
  .rw[if_neg (by simp)]at z;simp;refine LJ.e (_,seen ++ [t],out,d) ?_;refine⟨Y,BM _,z,?_⟩;rcases N with h|⟨h1,v,g,h2,h3⟩
   .exact .inl h
   .exact .inr ⟨h1,v,g,h2,by rw[ah (ae.1 (QU _ _ h3)).1];exact QU _ _ h3⟩
  .rw[if_pos rfl]at z;rcases N with⟨rfl,rfl⟩|⟨L,v,g,rfl,f⟩
   .simp[A,oI];(with_reducible repeat' first|refine Xk ?_<;>try simp[A,oI]|refine Xs ?_ ?_<;>intro h<;>(try intro h')<;>(try simp[h,A,oI])<;>try omega|refine Xg ?_|omega);rw[bq]at z;refine⟨λe=>absurd e ie,λ_=>(p9 ?_)⟩;refine LJ.i (_,seen ++ [t],x.2,_) rfl rfl rfl rfl ?_;refine⟨Y,BM _,z,.inr ⟨ie,a.length,0,rfl,?_⟩⟩;rw[abS];rfl
   .have Yw:=QU _ _ f;have C:=(ae.1 Yw).1;have R8:∀R:U,(a++R)[v+1]? = some (.row 3 g (cl f1 out)):=λR=>by rw[ah C];exact Yw
    have B4:∀(R:U) (o:Ob),(a++R).set (v+1) o=a.set (v+1) o++R:=λR o=>aM _ _ C;simp[A,oI,R8,B4];(with_reducible repeat' first|refine Xk ?_<;>try simp[A,oI,R8,B4]|refine Xs ?_ ?_<;>intro h<;>(try intro h')<;>(try simp[h,A,oI,R8,B4])<;>try omega|refine Xg ?_|omega);refine LJ.i (_,seen ++ [t],out++x.2,.fY (H.length+(v+1)) (g+1) 1 0 (out.length+x.2.length)) (by simp) rfl rfl rfl ?_;refine⟨Y,?_,z,.inr ⟨by simp[L],v,g+1,by simp,?_⟩⟩
    .dsimp only;rw[ah (by rw[ao];exact NK),aB (by omega)];exact E
    .dsimp only;rw[ah (by rw[ao];exact C),aI C]
end Go.Proofs.YtmehofoficaelaaGreatDoor
namespace Go.Proofs.YtmehofoficaelaaGreatDoor
open Go Go.AL Classical
theorem ahi{A:mg}{v:List fZ}{i:Int}(h0:∀k∈gt A.nx i,0<=(gt v k).2)(s:A.ov i=false):kA A v i↔gt v i=nI ((gt A.nx i).map λk=>gt v k):=by
 have c:∀o p:Int,(o,p)∈((gt A.nx i).map λk=>gt v k)↔∃k∈gt A.nx i,gt v k=(o,p):=λo p=>by rw[ar]
 have l:(∀r∈(gt A.nx i).map (λk=>gt v k),r.1=1)↔∀k∈gt A.nx i,(gt v k).1=1:=by simp
 have n:((gt A.nx i).map λk=>gt v k)≠[]↔gt A.nx i≠[]:=by simp
 unfold nI kA
 by_cases j:jA ((gt A.nx i).map λk=>gt v k) 3 = []
 .have y:∀k∈gt A.nx i,(gt v k).1≠3:=λk a e=>by have:(gt v k).2∈jA ((gt A.nx i).map λk=>gt v k) 3:=ti.2 ((c _ _).2 ⟨k,a,cL e rfl⟩);rw[j]at this;cases this
  rw[if_neg (λh=>h j)]
  by_cases b:gt A.nx i≠[]/\∀k∈gt A.nx i,(gt v k).1=1
  .rw[if_pos ⟨n.2 b.1,ED.2 (l.2 b.2)⟩]
   have t:jA ((gt A.nx i).map λk=>gt v k) 1≠[]:=λe=>by obtain⟨k,a⟩:=cI _ b.1;have:(gt v k).2∈jA ((gt A.nx i).map λk=>gt v k) 1:=ti.2 ((c _ _).2 ⟨k,a,cL (b.2 k a) rfl⟩);rw[e]at this;cases this
   obtain⟨q,d,f⟩:=(c _ _).1 (ti.1 (Oo t));have u:∀k∈gt A.nx i,(gt v k).2<=yJ (jA ((gt A.nx i).map λk=>gt v k) 1):=λk a=>Of (ti.2 ((c _ _).2 ⟨k,a,cL (b.2 k a) rfl⟩));have g:=h0 q d;rw[f]at g;generalize yJ (jA ((gt A.nx i).map λk=>gt v k) 1)=m at *;constructor
   .grind
   .intro e;exact .inr ⟨s,.inr (.inl ⟨m+1,by dsimp only at g;omega,e,λk a=>⟨b.2 k a,by have:=u k a;omega⟩,q,d,by rw[f];dsimp only;omega⟩)⟩
  .rw[if_neg (λh=>b ⟨n.1 h.1,l.1 (ED.1 h.2)⟩)];constructor
   .grind
   .grind
 .rw[if_pos j];obtain⟨q,d,f⟩:=(c _ _).1 (ti.1 (As j));have x:∀k∈gt A.nx i,(gt v k).1=3->tj (jA ((gt A.nx i).map λk=>gt v k) 3)<=(gt v k).2:=λk a e=>Cf (ti.2 ((c _ _).2 ⟨k,a,cL e rfl⟩));have g:=h0 q d;rw[f]at g;generalize tj (jA ((gt A.nx i).map λk=>gt v k) 3)=m at *;constructor
  .grind
  .intro e;exact .inr ⟨s,.inl ⟨m+1,by dsimp only at g;omega,e,⟨q,d,by rw[f];congr 1;omega⟩,λk a w=>by have:=x k a w;omega⟩⟩
theorem ahj{A:mg}{v:List fZ}{i:Int}(a:A.ov i=true):kA A v i↔gt v i=(A.rs i,0):=by
 constructor
 .rintro(⟨_,e⟩|⟨e,_⟩)
  .exact e
  .grind
 .exact λe=>.inl ⟨a,e⟩
end Go.Proofs.YtmehofoficaelaaGreatDoor
namespace Go.Proofs.YtmehofoficaelaaGreatDoor
open Go Go.AL Classical
set_option maxRecDepth 10000
set_option maxHeartbeats 8000000
section
variable{nx:List (List Int)}
end
attribute [-simp] uL U0 Zk U1
end Go.Proofs.YtmehofoficaelaaGreatDoor
namespace Go.Proofs.YtmehofoficaelaaGreatDoor
open Go Go.AL Classical
theorem abq{v:List fZ}{b:List Bool}{x:List Int}:∀n:Nat,n<=x.length->(∀j:Nat,j<n->gt b (gt x (j:Int))=false/\(gt v (gt x (j:Int))).1=1)->(lO v b x n).1=n
 | 0,_,_=>rfl
 | n+1,hn,h=>by rw[lO,if_pos (h n (by omega))];have:=abq (v:=v) (b:=b) (x:=x) n (by omega) λj a=>h j (by omega);dsimp only;omega
theorem TV{v:List fZ}{b:List Bool}{x:List Int}:∀n:Nat,(lO v b x n).1=n->∀j:Nat,j<n->gt b (gt x (j:Int))=false/\(gt v (gt x (j:Int))).1=1
 | 0,_,j,hj=>by omega
 | n+1,h,j,hj=>by
  have gH:=Pu v b x n;rw[lO]at h;split at h
  .rename_i a;dsimp only at h
   by_cases e:j=n
   .subst e;exact a
   .exact TV (v:=v) (b:=b) (x:=x) n (by omega) j (by omega)
  .omega
theorem Pv{v:List fZ}{b:List Bool}{x:List Int}:∀n:Nat,(lO v b x n).1=n->∀j:Nat,j<n->(gt v (gt x (j:Int))).2<=(lO v b x n).2
 | 0,_,j,hj=>by omega
 | n+1,h,j,hj=>by
  have gH:=Pu v b x n;rw[lO]at h ⊢;split at h
  .rename_i a;rw[if_pos a];dsimp only at h ⊢
   by_cases e:j=n
   .subst e;omega
   .have:=Pv (v:=v) (b:=b) (x:=x) n (by omega) j (by omega);omega
  .omega
theorem SS{x:List Int}{k:Int}:k∈x↔∃j:Nat,j<x.length/\gt x (j:Int)=k:=by
 rw[wm];constructor
 .rintro⟨n,n0,n1,e⟩;exact⟨n.toNat,by omega,by rw[show((n.toNat:Nat):Int)=n by omega];exact e⟩
 .rintro⟨j,a,e⟩;exact⟨j,by omega,by omega,e⟩
section
variable{g:gi}{l:List Pos}{nx:List (List Int)}{part:List Int}{bu:Int}
structure FI(g:gi)(l:List Pos)(nx:List (List Int))(part:List Int)(v0:List fZ)(n:Int)(v:List fZ)(b:List Bool):Prop where
 vl:v.length=l.length
 bl:b.length=l.length
 out:∀k:Int,0<=k->k<l.length->k ∉ part->gt b k=false/\gt v k=gt v0 k
 dec:∀i∈part,gt b i=false->(0<=(gt v i).2/\(gt v i).2<n)/\(((stat g (gt l i)).2=true/\gt v i=((stat g (gt l i)).1,0))\/((stat g (gt l i)).2=false/\(
  (∃m,1<=m/\gt v i=(1,m)/\(∃k∈gt nx i,gt b k=false/\gt v k=(3,m-1))/\∀k∈gt nx i,gt b k=false->(gt v k).1=3->m-1<=(gt v k).2) \/
  (∃m,1<=m/\gt v i=(3,m)/\(∀k∈gt nx i,gt b k=false/\(gt v k).1=1/\(gt v k).2<=m-1)/\∃k∈gt nx i,(gt v k).2=m-1))))
 Co:∀i∈part,gt b i=true->0<n->(stat g (gt l i)).2=false/\(∀k∈gt nx i,gt b k=false->(gt v k).1=3->n-1<=(gt v k).2) /\
  (gt nx i≠[]->(∀k∈gt nx i,gt b k=false/\(gt v k).1=1)->∃k∈gt nx i,n-1<=(gt v k).2)
theorem FI.step(o:xH g l nx part bu){v0:List fZ}(h0:∀k:Int,0<=k->k<l.length->0<=(gt v0 k).2){n:Int}(n0:0<=n){v:List fZ}{b:List Bool}(h:FI g l nx part v0 n v b):FI g l nx part v0 (n+1) (rV g l nx part v b n) (rB g l nx part v b n):=by
 have hV:=λ{k:Int} (k0:0<=k) (k1:k<l.length)=>W4 o h.vl h.bl (n:=n) k0 k1;have I:=λ{k:Int} (k0:0<=k) (k1:k<l.length)=>QH o (v:=v) h.bl (n:=n) k0 k1;have gH:∀i∈part,∀k∈gt nx i,0<=k/\k<l.length:=λi hi k d=>(o.ZM i (o.prt i hi).1 (o.prt i hi).2).1 k d
 have M:∀k,k∈sv g l nx part v b n↔k∈part/\(pg g (gt l k) v b (gt nx k) n).2=true/\gt b k=true:=λk=>by unfold sv S5;rw[aN,Bool.and_eq_true]
 have X:∀k,k∈sv g l nx part v b n->(M0 g l nx v b n k).2=n:=λk d=>by
  unfold M0 pg;split
  .rename_i e;rw[e]
  .split<;>rfl
 have f:∀k:Int,0<=k->k<l.length->gt b k=false->gt (rB g l nx part v b n) k=false/\gt (rV g l nx part v b n) k=gt v k:=λk k0 k1 e=>by
  have T:k ∉ sv g l nx part v b n:=λr=>by rw[((M k).1 r).2.2]at e;cases e
  rw[hV k0 k1,I k0 k1,if_neg T,if_neg T];exact⟨e,rfl⟩
 have G:∀k:Int,0<=k->k<l.length->gt (rB g l nx part v b n) k=false->(gt b k=false/\gt (rV g l nx part v b n) k=gt v k)\/(k∈sv g l nx part v b n/\(gt (rV g l nx part v b n) k).2=n):=λk k0 k1 e=>by
  by_cases r:k∈sv g l nx part v b n
  .right;rw[hV k0 k1,if_pos r];exact⟨r,X k r⟩
  .left;rw[I k0 k1,if_neg r]at e;rw[hV k0 k1,if_neg r];exact⟨e,rfl⟩
 have K:∀k:Int,0<=k->k<l.length->gt b k=false->0<=(gt v k).2:=λk k0 k1 e=>by
  by_cases S:k∈part
  .exact(h.dec k S e).1.1
  .rw[(h.out k k0 k1 S).2];exact h0 k k0 k1
 refine⟨am5 o h.vl h.bl,am4 o h.bl,λk k0 k1 d=>?_,λi hi e=>?_,λi hi e _=>?_⟩
 .obtain⟨a,c⟩:=h.out k k0 k1 d;obtain⟨a',c'⟩:=f k k0 k1 a;exact⟨a',c'.trans c⟩
 .obtain⟨i0,E⟩:=o.prt i hi;rcases G i i0 E e with⟨O,e2⟩|⟨r,a4⟩
  .obtain⟨L,H⟩:=h.dec i hi O;rw[e2];refine⟨⟨L.1,by omega⟩,?_⟩;rcases H with⟨J,c2⟩|⟨J,⟨m,m1,c2,⟨k,d,D,F⟩,c5⟩|⟨m,m1,c2,D,k,d,F⟩⟩
   .exact .inl ⟨J,c2⟩
   .refine .inr ⟨J,.inl ⟨m,m1,c2,⟨k,d,?_⟩,λq p A t=>?_⟩⟩
    .have:=f k (gH i hi k d).1 (gH i hi k d).2 D;exact⟨this.1,this.2.trans F⟩
    .rcases G q (gH i hi q p).1 (gH i hi q p).2 A with⟨y,b2⟩|⟨_,b2⟩
     .rw[b2]at t ⊢;exact c5 q p y t
     .rw[c2]at L;dsimp only at L;omega
   .refine .inr ⟨J,.inr ⟨m,m1,c2,λq p=>?_,k,d,?_⟩⟩
    .obtain⟨d1,d2,d3⟩:=D q p;have:=f q (gH i hi q p).1 (gH i hi q p).2 d1;rw[this.2];exact⟨this.1,d2,d3⟩
    .rw[(f k (gH i hi k d).1 (gH i hi k d).2 (D k d).1).2];exact F
  .obtain⟨_,s,N⟩:=(M i).1 r;refine⟨by omega,?_⟩;have Y:gt (rV g l nx part v b n) i=(pg g (gt l i) v b (gt nx i) n).1:=by rw[hV i0 E,if_pos r];rfl
   rw[Y]
   by_cases u:n=0
   .subst u;unfold pg at s ⊢;rw[if_pos rfl]at s ⊢;exact .inl ⟨s,rfl⟩
   .obtain⟨W,V,p3⟩:=h.Co i hi N (by omega);refine .inr ⟨W,?_⟩;unfold pg at s ⊢;rw[if_neg u]at s ⊢
    by_cases hl:Cc v b (gt nx i) n
    .rw[if_pos hl];obtain⟨k,d,D,F⟩:=hl;refine .inl ⟨n,by omega,rfl,⟨k,d,?_⟩,λq p A t=>?_⟩
     .have:=f k (gH i hi k d).1 (gH i hi k d).2 D;exact⟨this.1,this.2.trans F⟩
     .rcases G q (gH i hi q p).1 (gH i hi q p).2 A with⟨y,b2⟩|⟨_,b2⟩
      .rw[b2]at t ⊢;exact V q p y t
      .omega
    .rw[if_neg hl]at s ⊢;simp only[decide_eq_true_eq]at s;obtain⟨w0,w1,w2⟩:=s;have H:=TV _ w1;have hg:=Pv _ w1;refine .inr ⟨n,by omega,rfl,λq p=>?_,?_⟩
     .obtain⟨j,z,rfl⟩:=SS.1 p;have U:=f _ (gH i hi _ p).1 (gH i hi _ p).2 (H j z).1;have:=hg j z;rw[U.2];exact⟨U.1,(H j z).2,by omega⟩
     .rcases TW v b (gt nx i) (gt nx i).length (Nat.le_refl _)with O|⟨q,p,q1,q2,q3⟩
      .omega
      .refine⟨q,p,?_⟩;rw[(f q (gH i hi q p).1 (gH i hi q p).2 q1).2];omega
 .obtain⟨i0,E⟩:=o.prt i hi
  have Q:i ∉ sv g l nx part v b n:=λr=>by rw[I i0 E,if_pos r]at e;cases e
  rw[I i0 E,if_neg Q]at e
  have w:(pg g (gt l i) v b (gt nx i) n).2=false:=by
   by_cases B:(pg g (gt l i) v b (gt nx i) n).2=true
   .exact absurd ((M i).2 ⟨hi,B,e⟩) Q
   .simpa using B
  have NT:(stat g (gt l i)).2=false:=by
   by_cases u:n=0
   .unfold pg at w;rw[if_pos u]at w;exact w
   .exact(h.Co i hi e (by omega)).1
  have P:n≠0->¬Cc v b (gt nx i) n:=λu hl=>by unfold pg at w;rw[if_neg u,if_pos hl]at w;cases w
  refine⟨NT,λk d A t=>?_,λR Z=>?_⟩
  .rcases G k (gH i hi k d).1 (gH i hi k d).2 A with⟨y,b2⟩|⟨_,b2⟩
   .rw[b2]at t ⊢
    by_cases u:n=0
    .have:=K k (gH i hi k d).1 (gH i hi k d).2 y;omega
    .have h1:=(h.Co i hi e (by omega)).2.1 k d y t;have s:(gt v k).2≠n-1:=λN=>P u ⟨k,d,y,cL t N⟩;omega
   .omega
  .by_cases B:∃k∈gt nx i,n<=(gt (rV g l nx part v b n) k).2
   .obtain⟨k,d,B⟩:=B;exact⟨k,d,by omega⟩
   .exfalso
    have C:∀k∈gt nx i,gt b k=false/\(gt v k).1=1/\(gt v k).2<n:=λk d=>by
     have h1:¬n<=(gt (rV g l nx part v b n) k).2:=λs=>B ⟨k,d,s⟩;obtain⟨A,t⟩:=Z k d;rcases G k (gH i hi k d).1 (gH i hi k d).2 A with⟨y,b2⟩|⟨_,b2⟩
     .rw[b2]at t h1;exact⟨y,t,by omega⟩
     .omega
    have ke:0<(gt nx i).length:=ax.2 R
    by_cases u:n=0
    .have d:=gy (l:=gt nx i) (n:=0) (by omega) (by omega);have h1:=C _ d;have s:=K _ (gH i hi _ d).1 (gH i hi _ d).2 h1.1;omega
    .obtain⟨k,d,h1⟩:=(h.Co i hi e (by omega)).2.2 R λk d=>⟨(C k d).1,(C k d).2.1⟩
     have w1:=abq (v:=v) (b:=b) (x:=gt nx i) _ (Nat.le_refl _) λj z=>by have:=C _ (SS.2 ⟨j,z,rfl⟩);exact⟨this.1,this.2.1⟩
     have w2:(lO v b (gt nx i) (gt nx i).length).2=n-1:=by
      obtain⟨j,z,rfl⟩:=SS.1 d;have g1:=Pv _ w1 j z;rcases TW v b (gt nx i) (gt nx i).length (Nat.le_refl _)with O|⟨q,p,_,_,q3⟩
      .have:=K _ (gH i hi _ d).1 (gH i hi _ d).2 (C _ d).1;omega
      .have:=(C q p).2.2;omega
     unfold pg at w;rw[if_neg u,if_neg (P u)]at w;simp only[decide_eq_false_iff_not]at w;exact w ⟨by omega,w1,w2⟩
end
end Go.Proofs.YtmehofoficaelaaGreatDoor
namespace Go.Proofs.YtmehofoficaelaaGreatDoor
open Go Go.AL Classical
section
variable{g:gi}{l:List Pos}{nx:List (List Int)}{part:List Int}{bu:Int}
theorem ae3(o:xH g l nx part bu){v0 V:List fZ}{B:List Bool}{n:Int}(n0:0<n)(j:FI g l nx part v0 n V B)
  (w:∀k:Int,0<=k->k<l.length->gt B k=false->(gt V k).1≠2->(gt V k).2<n-1):∀i∈part,kA (jT g l nx) (wV part V B).1 i:=by
 obtain⟨_,f2⟩:=Wy o j.vl j.bl;have gH:∀i∈part,∀k∈gt nx i,0<=k/\k<l.length:=λi hi k b=>(o.ZM i (o.prt i hi).1 (o.prt i hi).2).1 k b
 have b:∀k:Int,0<=k->k<l.length->gt B k=false->gt (wV part V B).1 k=gt V k:=λk k0 k1 e=>by rw[(f2 k k0 k1).1,if_neg λh=>by rw[e]at h;exact absurd h.2 (by simp)]
 have hs:∀k:Int,0<=k->k<l.length->(gt (wV part V B).1 k).1≠2->gt B k=false:=λk k0 k1 e=>by
  by_cases x:k∈part
  .by_cases Xu:gt B k=true
   .rw[(f2 k k0 k1).1,if_pos ⟨x,Xu⟩]at e;exact absurd rfl e
   .simpa using Xu
  .exact(j.out k k0 k1 x).1
 intro i hi;obtain⟨i0,p⟩:=o.prt i hi
 by_cases e:gt B i=true
 .obtain⟨C,A,z⟩:=j.Co i hi e n0;refine .inr ⟨C,.inr (.inr ⟨by rw[(f2 i i0 p).1,if_pos ⟨hi,e⟩],λk a d=>?_,λ⟨D,y⟩=>?_⟩)⟩
  .obtain⟨k0,k1⟩:=gH i hi k a;have c:=hs k k0 k1 (by omega);rw[b k k0 k1 c]at d;have h1:=A k a c d;have E:=w k k0 k1 c (by omega);omega
  .obtain⟨k,a,h1⟩:=z D λk a=>by obtain⟨k0,k1⟩:=gH i hi k a;have d:=y k a;have c:=hs k k0 k1 (by omega);rw[b k k0 k1 c]at d;exact⟨c,d⟩
   obtain⟨k0,k1⟩:=gH i hi k a;have d:=y k a;have c:=hs k k0 k1 (by omega);rw[b k k0 k1 c]at d;have E:=w k k0 k1 c (by omega);omega
 .have r:gt B i=false:=by simpa using e
  rcases(j.dec i hi r).2 with⟨t,c2⟩|⟨t,⟨m,v,c2,⟨k,a,s,u⟩,F⟩|⟨m,v,c2,s,k,a,u⟩⟩
  .exact .inl ⟨t,by rw[b i i0 p r];exact c2⟩
  .refine .inr ⟨t,.inl ⟨m,v,by rw[b i i0 p r];exact c2,⟨k,a,by rw[b k (gH i hi k a).1 (gH i hi k a).2 s];exact u⟩,λq f d=>?_⟩⟩;obtain⟨q0,q1⟩:=gH i hi q f;have c:=hs q q0 q1 (by omega);rw[b q q0 q1 c]at d ⊢;exact F q f c d
  .refine .inr ⟨t,.inr (.inl ⟨m,v,by rw[b i i0 p r];exact c2,λq f=>?_,k,a,?_⟩)⟩
   .obtain⟨d1,d2⟩:=s q f;rw[b q (gH i hi q f).1 (gH i hi q f).2 d1];exact d2
   .rw[b k (gH i hi k a).1 (gH i hi k a).2 (s k a).1];exact u
end
section
variable{g:gi}{l:List Pos}{m:List Int}
end
end Go.Proofs.YtmehofoficaelaaGreatDoor
namespace Go.Proofs.YtmehofoficaelaaGreatDoor
open Go Go.AL Classical
structure VB(A:mg)(n:Nat)(P R:List Int)(v:List fZ)(lf:List Int):Prop where
 vl:v.length=n
 ll:lf.length=n
 nd:(P++R).Nodup
 qr:∀k∈P++R,0<=k/\k<n
 qi:∀k∈P++R,(gt v k).1≠0
 z:∀k:Int,0<=k->k<n->k ∉ P++R->gt v k=(0,0)
 ov:∀k:Int,0<=k->k<n->A.ov k=true->k∈P++R/\gt v k=(A.rs k,0)
 mono:(P++R).Pairwise λa b=>(gt v a).2<=(gt v b).2
 top:∀i R',R=i::R'->∀a∈P++R,(gt v a).2<=(gt v i).2+1
 nn:∀a∈P++R,0<=(gt v a).2/\(gt v a).2<=(P++R).length
 st:∀k∈P++R,A.ov k=false ->
  (∃m,1<=m/\gt v k=(1,m)/\(∃c∈gt A.nx k,gt v c=(3,m-1))/\∀c∈gt A.nx k,(gt v c).1=3->m-1<=(gt v c).2) \/
  (∃m,1<=m/\gt v k=(3,m)/\(∀c∈gt A.nx k,(gt v c).1=1/\(gt v c).2<=m-1)/\∃c∈gt A.nx k,(gt v c).2=m-1)
section
variable{A:mg}{n:Nat}{P R d:List Int}{v:List fZ}{lf:List Int}{i k t:Int}
structure VS(A:mg)(n:Nat)(m:Int)(R:List Int)(v:List fZ)(lf:List Int):Prop where
 vl:v.length=n
 ll:lf.length=n
 nd:R.Nodup
 qr:∀k,k∈R↔(0<=k/\k<m)/\A.ov k=true
 vv:∀k:Int,0<=k->k<n->gt v k=if k∈R then(A.rs k,0)else(0,0)
 lv:∀k:Int,0<=k->k<m->gt lf k=(gt A.nx k).length
end
end Go.Proofs.YtmehofoficaelaaGreatDoor
namespace Go.Proofs.YtmehofoficaelaaGreatDoor
open Go Go.AL Classical
set_option maxRecDepth 10000
set_option maxHeartbeats 8000000
attribute [-simp] ag4
end Go.Proofs.YtmehofoficaelaaGreatDoor
namespace Go.Proofs.YtmehofoficaelaaGreatDoor
open Go Go.AL Classical
set_option maxRecDepth 10000
set_option maxHeartbeats 16000000
attribute [local simp] HF H5 tp Pj
end Go.Proofs.YtmehofoficaelaaGreatDoor
namespace Go.Proofs.YtmehofoficaelaaGreatDoor
open Go Go.AL Classical
set_option maxRecDepth 10000
set_option maxHeartbeats 16000000
attribute [local simp] HF H5 tp Pj
theorem sT.s{T:iB}{rf:Nat}{live:List Nat}{x:X}{s a:St}{K:iY}(hs:s=a)(h:sT T rf live x a K .mk):sT T rf live x s K .mk:=by subst hs;exact h
section
variable{g:gi}{l:List Pos}{nx:List (List Int)}{part:List Int}{bu:Int}
end
end Go.Proofs.YtmehofoficaelaaGreatDoor
namespace Go.Proofs.YtmehofoficaelaaGreatDoor
open Go Go.AL Classical
set_option maxRecDepth 10000
set_option maxHeartbeats 8000000
theorem acv{l:List fZ}{n:Int}(h:n.toNat<l.length):(cl fS l).drop (n.toNat*2)=fS (gt l n)++cl fS (l.drop (n.toNat+1)):=by rw[uK,bK h,nM];congr 1;unfold gt;rw[List.getD_eq_getElem?_getD,List.getElem?_eq_getElem h];rfl
theorem aeO(v:List fZ)(b:v.length<=4000):Wf T 17 [gY v,gY v] [] (Is (.b true)):=by
 refine Yg Li ?_;simp[Li];refine gj.e (0:Int) (λy=>[(0,gY v),(1,gY v),(5,.i y)]) (λy=>[]) (λy=>0<=y/\y<=v.length) (λy=>(v.length-y).toNat) ?_ ?_
 .simp
 rintro i ⟨i0,a⟩;dsimp only at i0 a ⊢
 by_cases hi:i<v.length
 .simp[hi];refine gd ?_;refine LJ.e (i+1) ?_;omega
 .simp[hi]
set_option maxHeartbeats 16000000
theorem gx.s{T:iB}{f:FuncId}{args:List D}{dst:Option Nat}{s a:St}{K:St->Prop}(hs:s=a)(h:gx T f args dst a K .mk):gx T f args dst s K .mk:=by subst hs;exact h
theorem f82(l:List fZ)(h:0<l.length)(b:l.length<2 ^ 40):Wf T 184 [gY l] [] (λd H=>d = .fY 0 1 2 0 l.length/\H = [.row 86 1 (cl fS l)]):=by refine Yg L3 ?_;simp[L3];refine oA.i (a:=.b false) (by cases l with|nil=>exact absurd h (by simp)|cons a r=>rfl) ?_;simp;exact mK
end Go.Proofs.YtmehofoficaelaaGreatDoor
namespace Go.Proofs.YtmehofoficaelaaGreatDoor
open Go Go.AL Classical
set_option maxRecDepth 10000
set_option maxHeartbeats 8000000
def H0(g:gi)(n:Nat)(v:List fZ)(lf:List Int):U:=[.row 43 0 g.cells,.row 86 0 (cl fS v),.row 51 0 [.fY 1 0 2 0 n],.row 3 0 (cl f1 lf),.row 37 0 [.gg]]
theorem acu{v:List fZ}{n:Int}(h:n.toNat<v.length):(cl fS v)[n.toNat*2]? = some (.i (gt v n).1):=by
 have:=acv h;rw[Bi]at this;have a:((cl fS v).drop (n.toNat*2))[0]? = some (.i (gt v n).1):=by rw[this];rfl
 rwa [aG,cy]at a
section
variable{nx:List (List Int)}
end
end Go.Proofs.YtmehofoficaelaaGreatDoor
namespace Go.Proofs.YtmehofoficaelaaGreatDoor
open Go Go.AL Classical
set_option maxRecDepth 10000
set_option maxHeartbeats 8000000
theorem f102(L:List Int)(h0:0<L.length)(m:L.length<=4000000000):Wf T 145 [dI L] [] (Ey D.i λr=>r∈L/\∀x∈L,r<=x):=by
 refine Yg Jo ?_;simp[Jo];(with_reducible repeat' first|refine Xk ?_<;>try simp|refine Xs ?_ ?_<;>intro h<;>(try intro o)<;>(try simp[h])<;>try omega|refine Xg ?_|omega);refine gj.e ((1,gt L 0):Int×Int) (λy=>[(0,dI L),(3,.i y.2),(4,.i y.1)]) (λy=>[]) (λy=>1<=y.1/\y.1<=L.length/\y.2∈L/\∀j:Int,0<=j->j<y.1->y.2<=gt L j) (λy=>(L.length-y.1).toNat) ?_ ?_
 .refine⟨by simp,by dsimp only;omega,gy (by omega) (by omega),λj j0 j1=>?_⟩;dsimp only at j1 ⊢;rw[show j=0 by omega];exact dX _
 rintro⟨i,r⟩ ⟨i0,d,c,b⟩;dsimp only at i0 d c b ⊢
 by_cases hi:i<L.length
 .simp[hi];refine gd ?_;have k:=gy (l:=L) (n:=i) (by omega) hi;refine LJ.e (i+1,min r (gt L i)) ?_;refine gO ⟨?_,λj j0 j1=>?_⟩
  .dsimp only;rcases(show min r (gt L i)=r\/min r (gt L i)=gt L i by omega)with e|e<;>rw[e]<;>assumption
  .dsimp only at j1 ⊢
   by_cases e:j=i
   .subst e;omega
   .have:=b j j0 (by omega);omega
 .simp[hi];refine gd ?_;refine Ey.i r rfl rfl ⟨c,λx f=>?_⟩;obtain⟨a,g,p,rfl⟩:=wm.1 f;exact b a g (by omega)
theorem f103(L:List Int)(h0:0<L.length)(m:L.length<=4000000000):Wf T 146 [dI L] [] (Ey D.i λr=>r∈L/\∀x∈L,x<=r):=by
 refine Yg Jq ?_;simp[Jq];(with_reducible repeat' first|refine Xk ?_<;>try simp|refine Xs ?_ ?_<;>intro h<;>(try intro o)<;>(try simp[h])<;>try omega|refine Xg ?_|omega);refine gj.e ((1,gt L 0):Int×Int) (λy=>[(0,dI L),(3,.i y.2),(4,.i y.1)]) (λy=>[]) (λy=>1<=y.1/\y.1<=L.length/\y.2∈L/\∀j:Int,0<=j->j<y.1->gt L j<=y.2) (λy=>(L.length-y.1).toNat) ?_ ?_
 .refine⟨by simp,by dsimp only;omega,gy (by omega) (by omega),λj j0 j1=>?_⟩;dsimp only at j1 ⊢;rw[show j=0 by omega];exact dX _
 rintro⟨i,r⟩ ⟨i0,d,c,b⟩;dsimp only at i0 d c b ⊢
 by_cases hi:i<L.length
 .simp[hi];refine gd ?_;have k:=gy (l:=L) (n:=i) (by omega) hi;refine LJ.e (i+1,max r (gt L i)) ?_;refine gO ⟨?_,λj j0 j1=>?_⟩
  .dsimp only;rcases(show max r (gt L i)=r\/max r (gt L i)=gt L i by omega)with e|e<;>rw[e]<;>assumption
  .dsimp only at j1 ⊢
   by_cases e:j=i
   .subst e;omega
   .have:=b j j0 (by omega);omega
 .simp[hi];refine gd ?_;refine Ey.i r rfl rfl ⟨c,λx f=>?_⟩;obtain⟨a,g,p,rfl⟩:=wm.1 f;exact b a g (by omega)
def kr(v:List fZ)(x:List Int)(o:Int):List Int:=(x.filter λk=>decide ((gt v k).1=o)).map λk=>(gt v k).2
theorem Zo{v:List fZ}{x:List Int}{o k:Int}(h:(gt v k).1=o):kr v (x ++ [k]) o=kr v x o ++ [(gt v k).2]:=by simp[kr,h]
theorem Zn{v:List fZ}{x:List Int}{o k:Int}(h:(gt v k).1≠o):kr v (x ++ [k]) o=kr v x o:=by simp[kr,h]
theorem Zl(v:List fZ)(x:List Int)(o:Int):(kr v x o).length<=x.length:=by unfold kr;rw[List.length_map];exact List.length_filter_le _ _
theorem ahp{v:List fZ}{x:List Int}{o n:Int}:n∈kr v x o↔∃k∈x,gt v k=(o,n):=by
 unfold kr;rw[ar];constructor
 .rintro⟨k,a,rfl⟩;rw[aN]at a;exact⟨k,a.1,cL (by simpa using a.2) rfl⟩
 .rintro⟨k,a,e⟩;exact⟨k,aN.2 ⟨a,by simp[e]⟩,by rw[e]⟩
def Dg(v:List fZ)(x:List Int)(r:fZ):Prop:=
 (∃m∈kr v x 3,(∀y∈kr v x 3,m<=y)/\r=(1,m+1)) \/
 (kr v x 3 = []/\(kr v x 1).length=x.length/\∃m∈kr v x 1,(∀y∈kr v x 1,y<=m)/\r=(3,m+1)) \/
 (kr v x 3 = []/\¬(kr v x 1≠[]/\(kr v x 1).length=x.length)/\r=(2,0))
def dL(l:List Int)(n:Nat):D:=if l = []then .gg else .fY n (l.length-1) 1 0 l.length
def rL(l:List Int):U:=if l = []then []else [.row 3 (l.length-1) (cl f1 l)]
def HL(a b:List Int):U:=.row 86 0 [.i 0,.i 0]::(rL a++rL b)
theorem f56(v:List fZ)(x:List Int)(s:∀k∈x,0<=k/\k<v.length)(N:x.length<=4000000000)(z:∀k:Int,0<=k->k<v.length->0<=(gt v k).2/\(gt v k).2<=4000):Wf T 89 [gY v,dN 1 f1 x] [] (Ey (λr:fZ=>.agg [.i r.1,.i r.2]) λr=>Dg v x r):=by
 have E:∀o,kr v [] o = []:=λ_=>rfl;have I:∀n,dL [] n = .gg:=λ_=>rfl;refine Yg LQ ?_;simp[LQ];refine gd ?_;refine gj.e (0:Int) (λy=>[(0,gY v),(1,dN 1 f1 x),(4,.ptr 0 0 0),(5,dL (kr v (x.take y.toNat) 3) 1),(6,dL (kr v (x.take y.toNat) 1) (if kr v (x.take y.toNat) 3 = []then 1 else 2)),(9,dN 1 f1 x),(10,.i x.length),(11,.i y)]) (λy=>HL (kr v (x.take y.toNat) 3) (kr v (x.take y.toNat) 1)) (λy=>0<=y/\y<=x.length) (λy=>(x.length-y).toNat) ?_ ?_ (by simp[E,I]) (by simp[E,HL,rL])
 .simp
 rintro i ⟨i0,L⟩;have J:=Zl v (x.take i.toNat) 3;have F:=Zl v (x.take i.toNat) 1;rw[aK]at J F
 by_cases hi:i<x.length
 .have B:=s _ (gy i0 hi)
  have m:(x.take (i+1).toNat)=x.take i.toNat ++ [gt x i]:=by rw[show(i+1).toNat=i.toNat+1 by omega,dp,List.getElem?_eq_getElem (by omega),dT,<-jg i0 hi]
  have O:=acu (v:=v) (n:=gt x i) (by omega);simp[hi];generalize gt x i=k at *;generalize D:kr v (x.take i.toNat) 3=a at *;generalize C:kr v (x.take i.toNat) 1=b at *;have K:=z k B.1 B.2;have q3:(gt v k).1=3->kr v (x.take (i+1).toNat) 3=a ++ [(gt v k).2]:=λh=>by rw[m,Zo h,D]
  have j:(gt v k).1≠3->kr v (x.take (i+1).toNat) 3=a:=λh=>by rw[m,Zn h,D]
  have q1:(gt v k).1=1->kr v (x.take (i+1).toNat) 1=b ++ [(gt v k).2]:=λh=>by rw[m,Zo h,C]
  have l:(gt v k).1≠1->kr v (x.take (i+1).toNat) 1=b:=λh=>by rw[m,Zn h,C]
  have w:a = []\/0<a.length:=by cases a<;>simp
  have u:b = []\/0<b.length:=by cases b<;>simp
  have gH:((x.length:Int)-(i+1)).toNat<((x.length:Int)-i).toNat/\0<=i+1/\i+1<=x.length:=by omega
  by_cases c:a = []<;>by_cases d:b = []
  all_goals
   first|have w:=w.resolve_left c|skip
   first|have u:=u.resolve_left d|skip
   (with_reducible repeat' first|refine Xk ?_<;>try simp[c,d,dL,rL,HL]|refine Xs ?_ ?_<;>intro h<;>(try intro H)<;>(try simp[h,c,d,dL,rL,HL])<;>try omega|refine Xg ?_|omega)
  all_goals
   first
    | (have f:=q3 ‹_›;have g:=l (by omega);refine LJ.i (i+1) (by simp[f,g,dL,c,d]<;>omega) (by simp[f,g,HL,rL,c,d,iQ]<;>omega) rfl rfl gH)
    | (have f:=j ‹_›;have g:=q1 ‹_›;refine LJ.i (i+1) (by simp[f,g,dL,c,d]<;>omega) (by simp[f,g,HL,rL,c,d,iQ]<;>omega) rfl rfl gH)
    | (have f:=j (by assumption);have g:=l (by assumption);refine LJ.i (i+1) (by simp[f,g,dL,c,d]) (by simp[f,g,HL,rL,c,d]) rfl rfl gH)
 .rw[af (by omega)]at *;simp[hi]
  by_cases c:kr v x 3 = []<;>by_cases d:kr v x 1 = []
  all_goals
   simp[c,d,dL,rL,HL];(with_reducible repeat' first|refine Xk ?_<;>try simp[c,d,dL,rL,HL]|refine Xs ?_ ?_<;>intro h<;>(try intro H)<;>(try simp[h,c,d,dL,rL,HL])<;>try omega|refine Xg ?_|omega)
  all_goals
   first
    | exact Ey.i (2,0) rfl rfl (.inr (.inr ⟨c,λ⟨h1,G⟩=>by omega,rfl⟩))
    | exact Ey.i (2,0) rfl rfl (.inr (.inr ⟨c,λ⟨h1,G⟩=>h1 d,rfl⟩))
    | exact absurd (ax.2 c) ‹_›
    | exact absurd (ax.2 d) ‹_›
    | skip
  all_goals
   refine gx.s (by simp[c,d];rfl) ?_
  all_goals
   first
    | refine gx.rq rfl rfl (f102 (kr v x 3) (by omega) (by omega)) (by simp) (λ_=>by simp[flat]) (λ_=>by simp) ?_
    | refine gx.rq rfl rfl (f103 (kr v x 1) (by omega) (by omega)) (by simp) (λ_=>by simp[flat]) (λ_=>by simp) ?_
  all_goals
   rintro r ⟨p,t⟩
   have M:0<=r/\r<=4000:=by obtain⟨q,A,e⟩:=ahp.1 p;have:=z q (s q A).1 (s q A).2;rwa [e]at this
   simp[c,d];refine lh c d ?_
  all_goals
   first
    | exact Ey.i (1,r+1) rfl rfl (.inl ⟨r,p,t,rfl⟩)
    | exact Ey.i (3,r+1) rfl rfl (.inr (.inl ⟨c,by omega,r,p,t,rfl⟩))
theorem Zm(v:List fZ)(x:List Int)(o:Int):kr v x o=jA (x.map λk=>gt v k) o:=by unfold kr jA;rw[List.filter_map,cz];rfl
theorem Dg.mk{v:List fZ}{x:List Int}{r:fZ}(h:Dg v x r):r=nI (x.map λk=>gt v k):=by
 unfold nI;rw[<-Zm,<-Zm,List.length_map];rcases h with⟨m,c,l,rfl⟩|⟨f,h1,m,c,g,rfl⟩|⟨f,h1,rfl⟩
 .have d:kr v x 3≠[]:=λe=>by rw[e]at c;cases c
  have a:=Cf c;have b:=l _ (As d);rw[if_pos d,show tj (kr v x 3)=m by omega]
 .have d:kr v x 1≠[]:=λe=>by rw[e]at c;cases c
  have a:=Of c;have b:=g _ (Oo d)
  have i:(x.map λk=>gt v k)≠[]:=λe=>by have j:=List.map_eq_nil_iff.1 e;subst j;exact d rfl
  rw[if_neg (λh=>h f),if_pos ⟨i,h1⟩,show yJ (kr v x 1)=m by omega]
 .rw[if_neg (λh=>h f),if_neg];rintro⟨a,b⟩;refine h1 ⟨λe=>a ?_,b⟩;rw[e]at b;rw[aU b.symm];rfl
theorem Dg.iff{A:mg}{v:List fZ}{i:Int}{r:fZ}(h0:∀k∈gt A.nx i,0<=(gt v k).2)(b:A.ov i=false)(a:Dg v (gt A.nx i) r):kA A v i↔gt v i=r:=by rw[a.mk];exact ahi h0 b
theorem gx.w{T:iB}{f:FuncId}{args:List D}{dst:Option Nat}{s a:St}{K:St->Prop}(hs:s=a)(h:gx T f args dst a K .mk):gx T f args dst s K .mk:=by subst hs;exact h
theorem ZG{l:List fZ}{x:fZ}{o:Int}(h:x.1=o):jA (l ++ [x]) o=jA l o ++ [x.2]:=by simp[jA,h]
theorem ZF{l:List fZ}{x:fZ}{o:Int}(h:x.1≠o):jA (l ++ [x]) o=jA l o:=by simp[jA,h]
@[simp] theorem awh(o:Int):jA [] o = []:=rfl
theorem ZE(l:List fZ)(o:Int):(jA l o).length<=l.length:=by unfold jA;rw[List.length_map];exact List.length_filter_le _ _
theorem aoz{α:Type}[Inhabited α]{l:List α}{i:Int}(i0:0<=i)(a:i<l.length):l.take (i+1).toNat=l.take i.toNat ++ [gt l i]:=by rw[show(i+1).toNat=i.toNat+1 by omega,dp,List.getElem?_eq_getElem (by omega),dT,<-jg i0 a]
theorem aee(l:List fZ)(h0:0<l.length)(N:l.length<=4000000000)(J:∀x∈l,0<=x.2/\x.2<=4000):Wf T 135 [gY l] [] (Is (.agg [.i (nI l).1,.i (nI l).2])):=by
 refine Yg JS ?_;simp[JS];refine gj.e ((0,0,0):Int×Nat×Nat) (λy=>[(0,gY l),(2,.ptr 0 0 0),(3,.fY 1 y.2.1 1 0 (jA (l.take y.1.toNat) 3).length),(4,.fY 2 y.2.2 1 0 (jA (l.take y.1.toNat) 1).length),(9,gY l),(10,.i l.length),(11,.i y.1)]) (λy=>[.row 86 0 [.i 0,.i 0],.row 3 y.2.1 (cl f1 (jA (l.take y.1.toNat) 3)),.row 3 y.2.2 (cl f1 (jA (l.take y.1.toNat) 1))]) (λy=>0<=y.1/\y.1<=l.length) (λy=>(l.length-y.1).toNat) ?_ ?_
 .simp
 rintro⟨i,q,p⟩ ⟨i0,H⟩;dsimp only at i0 H ⊢;have u:=ZE (l.take i.toNat) 3;have k:=ZE (l.take i.toNat) 1;rw[aK]at u k
 by_cases hi:i<l.length
 .have e:=aoz (l:=l) i0 hi;have z:(gt l i).1=3->jA (l.take (i+1).toNat) 3=jA (l.take i.toNat) 3 ++ [(gt l i).2]:=λh=>by rw[e,ZG h]
  have s:(gt l i).1≠3->jA (l.take (i+1).toNat) 3=jA (l.take i.toNat) 3:=λh=>by rw[e,ZF h]
  have C:(gt l i).1=1->jA (l.take (i+1).toNat) 1=jA (l.take i.toNat) 1 ++ [(gt l i).2]:=λh=>by rw[e,ZG h]
  have t:(gt l i).1≠1->jA (l.take (i+1).toNat) 1=jA (l.take i.toNat) 1:=λh=>by rw[e,ZF h]
  obtain⟨A,n⟩:∃A,jA (l.take i.toNat) 3=A:=⟨_,rfl⟩;obtain⟨B,m⟩:∃B,jA (l.take i.toNat) 1=B:=⟨_,rfl⟩;rw[n]at u z s ⊢;rw[m]at k C t ⊢;have gH:((l.length:Int)-(i+1)).toNat<((l.length:Int)-i).toNat/\0<=i+1/\i+1<=l.length:=by omega
  simp[hi];(with_reducible repeat' first|refine Xk ?_<;>try simp|refine Xs ?_ ?_<;>intro h<;>(try intro O)<;>(try simp[h])<;>try omega|refine Xg ?_|omega)
  .have b:=z ‹_›;have c:=t (by omega);refine LJ.i (i+1,q+1,p) (by simp[b,c]) (by simp[b,c]) rfl rfl gH
  .have b:=s (by omega);have c:=C ‹_›;refine LJ.i (i+1,q,p+1) (by simp[b,c]) (by simp[b,c]) rfl rfl gH
  .have b:=s (by assumption);have c:=t (by assumption);refine LJ.i (i+1,q,p) (by simp[b,c]) (by simp[b,c]) rfl rfl gH
 .have G:i=l.length:=by omega
  subst G;rw[af (by omega)]at *;obtain⟨r,a⟩:∃r,nI l=r:=⟨_,rfl⟩;have w:∀o,∀y∈jA l o,0<=y/\y<=4000:=λo y I=>by have:=J _ (ti.1 I);exact this
  rw[a];unfold nI at a;obtain⟨A,n⟩:∃A,jA l 3=A:=⟨_,rfl⟩;obtain⟨B,m⟩:∃B,jA l 1=B:=⟨_,rfl⟩;have v:=w 3;have D:=w 1;rw[n]at u a v ⊢;rw[m]at k a D ⊢;have E:l≠[]:=ax.1 h0;simp[hi]
  by_cases f:A = []
  .rw[if_neg (λh=>h f)]at a;subst f
   by_cases g:B.length=l.length
   .rw[if_pos ⟨E,g⟩]at a;subst a;simp[g];refine gd ?_;refine gx.w (by simp;rfl) ?_;refine gx.rq rfl rfl (f103 B (by omega) (by omega)) (by simp[g]) (λ_=>by simp[flat]) (λ_=>by simp) ?_;rintro r ⟨d,j⟩;have L:=Of d;have K:=j _ (Oo (l:=B) λe=>by rw[e]at d;cases d);have e:r=yJ B:=by omega
    have M:=D r d;subst e;simp;exact mK
   .rw[if_neg (λh=>g h.2)]at a;subst a;simp[g];exact mK
  .rw[if_pos f]at a;subst a;have F:0<A.length:=ax.2 f;simp[F];refine gd ?_;refine gx.w (by simp;rfl) ?_;refine gx.rq rfl rfl (f102 A (by omega) (by omega)) (by simp) (λ_=>by simp[flat]) (λ_=>by simp) ?_;rintro r ⟨d,j⟩;have L:=Cf d;have K:=j _ (As f);have e:r=tj A:=by omega
   have M:=v r d;subst e;simp;exact mK
end Go.Proofs.YtmehofoficaelaaGreatDoor
namespace Go.Proofs.YtmehofoficaelaaGreatDoor
open Go Go.AL Classical
set_option maxRecDepth 10000
set_option maxHeartbeats 8000000
attribute [-simp] uL
theorem aea(r:fZ):Wf T 121 [.agg [.i r.1,.i r.2]] [] (Is (.b (lC r))):=by
 obtain⟨a,b⟩:=r;unfold lC;dsimp only
 by_cases e:a=2
 .subst e
  by_cases c:b=0
  .subst c;refine Yg uD ?_;simp[uD]
  .refine Yg uD ?_;simp[uD,c]
 .by_cases c:a=1
  .subst c;refine Yg uD ?_;simp[uD]
  .by_cases d:a=3
   .subst d;refine Yg uD ?_;simp[uD]
   .refine Yg uD ?_;simp[uD,e,c,d]
theorem ad9(r:fZ):Wf T 120 [.agg [.i r.1,.i r.2]] [] (Is (.b (!lC r))):=by have c:=aea r;obtain⟨b,a⟩:∃b,lC r=b:=⟨_,rfl⟩;rw[a]at c ⊢;refine Yg JN ?_;simp[JN];refine Yc (c) ?_;simp
theorem aep(r q:fZ):Wf T 187 [.agg [.i r.1,.i r.2],.gu [.i q.1,.i q.2]] [] (Is (.b (decide (r≠q)))):=by obtain⟨a,b⟩:=r;obtain⟨x,y⟩:=q;refine Yg J0 ?_;simp[J0]
theorem aeq(r:fZ)(n:Int):Wf T 188 [.agg [.i r.1,.i r.2],.gu [.i n]] [] (Is (.b (decide (r.1≠2/\r.2=n)))):=by
 obtain⟨a,b⟩:=r;dsimp only
 by_cases c:a=2
 .subst c;refine Yg C4 ?_;simp[C4]
 .refine Yg C4 ?_;simp[C4,c]
@[simp] theorem av6(G:kh):xn (v8 G []) = -1:=rfl
theorem Ql{H:U}{ck sr n:Nat}{M:Nat->kh}{ow:Nat->Nat×Nat×Nat}{P:Nat->Nat}{Q:Nat->Nat->Nat}{cells:List D}(Y:mj H ck sr n M ow P Q)(gf:jj H.length H)(E:H[ck]? = some (.row 168 0 cells))(A:cells[12]? = some (.fY sr 0 1 0 n))
  {cm:List gK} {i:Int} (i0:0<=i) (I:i<n) (hM:M i.toNat=gM cm i) (pY:∀r∈sd cm i,lC r=true) :
  Wf T 122 [.ptr ck 0 0,.i i] H (λd H'=>d = .i (me (sd cm i))/\H'=H):=by
 obtain⟨k,_⟩:=Y.mp i.toNat (by omega);have N:=Y.row;rw[hM]at k
 have hj:((List.range n).map λj=>D.gD (P j))[i.toNat]? = some (.gD (P i.toNat)):=by rw[au,bN (by omega)];rfl
 obtain⟨p,w⟩:∃p,P i.toNat=p:=⟨_,rfl⟩;obtain⟨q,yw⟩:∃q,Q i.toNat=q:=⟨_,rfl⟩;rw[w]at k hj;rw[yw]at k;have iF:=(ae.1 k).1;have c:∀G,(H++G)[p]? = some (.map KS (iV q 0 (gM cm i))):=λG=>by rw[ah iF,k]
 refine Yg JO ?_;simp[JO,E,A,N,w,k,i0,I];(with_reducible repeat' first|refine Xk ?_<;>try simp[E,A,N,w,k,i0,I]|refine Xs ?_ ?_<;>intro h<;>(try intro L)<;>(try simp[h,E,A,N,w,k,i0,I])<;>try omega|refine Xg ?_|omega);refine gj.e (([.jl (.gD p) (gM cm i).length []],[]):U×List Nat) (λy=>[(5,.i (xn (v8 (gM cm i) y.2))),(14,.ptr H.length 0 0)]) (λy=>H++y.1) (λy=>y.1[0]? = some (.jl (.gD p) (gM cm i).length y.2)/\y.2.Nodup/\∀t∈y.2,t<(gM cm i).length) (λy=>(gM cm i).length-y.2.length) ?_ ?_
 .exact⟨rfl,.nil,λ_ h=>by cases h⟩
 rintro⟨G,seen⟩ ⟨K,X,O⟩;dsimp only at K X O ⊢;have D1:=(ae.1 K).1;simp;refine uE.at (m:=p) (since:=(gM cm i).length) (seen:=seen) (kk:=KS) (es:=iV q 0 (gM cm i)) (by simp[K]) (by simp[c]) (by simp) (λF=>?_) λt kv dv J hi=>?_
 .have F:∀t,t<(gM cm i).length->t∈seen:=by simpa using F
  have DW:=agU F O
  have yn:xn (v8 (gM cm i) seen)=me (sd cm i):=by
   rw[ahn λr hr a=>?_]
   .exact ahq DW
   .have:=pY r ((DW r).1 hr);unfold lC at this;simp only[decide_eq_true_eq]at this;rcases this with rfl|h
    .exact absurd rfl a
    .exact h.2
  simp;refine gd ?_;simp[wh gf,yn]
 .rw[vq]at J;obtain⟨x,u,kM⟩:=aj.1 J;cases kM;have B:=IN X O (ae.1 u).1 hi;have f:(iV q 0 (gM cm i))[t]? = some (lA x.1,oI (q t) x.2):=by rw[vq,u];simp
  have C:=agV (seen:=seen) u;obtain⟨ks,V⟩:∃ks,v8 (gM cm i) seen=ks:=⟨_,rfl⟩;rw[V]at C ⊢;obtain⟨m,Z⟩:∃m,xn ks=m:=⟨_,rfl⟩;have W:xn (v8 (gM cm i) (seen ++ [t]))=wj m x.1:=by rw[C,aho,Z]
  obtain⟨o,S⟩:∃o,G.set 0 (.jl (.gD p) (gM cm i).length (seen ++ [t]))=o:=⟨_,rfl⟩;have b:o[0]? = some (.jl (.gD p) (gM cm i).length (seen ++ [t])):=by rw[<-S,aI D1]
  have e:(H++G).set H.length (.jl (.gD p) (gM cm i).length (seen ++ [t]))=H++o:=by rw[UT,S]
  have NK:=(ae.1 b).1;have BM:∀(R:U),(o++R)[0]? = some (.jl (.gD p) (gM cm i).length (seen ++ [t])):=λR=>by rw[ah NK];exact b
  have uS:(gM cm i).length-(seen ++ [t]).length<(gM cm i).length-seen.length:=by have:=B.2.2;rw[ak,aY]at this ⊢;omega
  have z:∀ {R:U} {v:Int},v=wj m x.1->LJ (λy:U×List Nat=>[(5,.i (xn (v8 (gM cm i) y.2))),(14,.ptr H.length 0 0)]) (λy=>H++y.1) [] false (λs=>(gM cm i).length-s.2.length<(gM cm i).length-seen.length/\s.1[0]? = some (.jl (.gD p) (gM cm i).length s.2)/\s.2.Nodup/\∀t∈s.2,t<(gM cm i).length) .mk [(5,.i v),(14,.ptr H.length 0 0)] (H++(o++R)) [] false:=λ{R v} hv=>by subst hv;exact LJ.i (o++R,seen ++ [t]) (by simp[W]) rfl rfl rfl ⟨uS,BM _,B.1,B.2.1⟩
  rw[e,Z];obtain⟨⟨r1,r2⟩,ls⟩:=x;dsimp only at *;clear S e C W V J u
  by_cases a:r1=2
  .subst a;simp[c,f,b];refine qz c f b ?_;refine z ?_;simp[wj]
  .by_cases g:m<0
   .simp[c,f,b,a,g];(with_reducible repeat' first|refine Xk ?_<;>try simp[c,f,b,a,g]|refine Xs ?_ ?_<;>intro h<;>(try intro L)<;>(try simp[h,c,f,b,a,g])<;>try omega|refine Xg ?_|omega);refine z ?_;simp[wj,a,g]
   .by_cases l:r2<m
    .simp[c,f,b,a,g,l];(with_reducible repeat' first|refine Xk ?_<;>try simp[c,f,b,a,g,l]|refine Xs ?_ ?_<;>intro h<;>(try intro L)<;>(try simp[h,c,f,b,a,g,l])<;>try omega|refine Xg ?_|omega);refine z ?_;simp[wj,a,l]
    .simp[c,f,b,a,g,l];(with_reducible repeat' first|refine Xk ?_<;>try simp[c,f,b,a,g,l]|refine Xs ?_ ?_<;>intro h<;>(try intro L)<;>(try simp[h,c,f,b,a,g,l])<;>try omega|refine Xg ?_|omega);refine z ?_;simp[wj,a,g,l]
end Go.Proofs.YtmehofoficaelaaGreatDoor
namespace Go.Proofs.YtmehofoficaelaaGreatDoor
open Go Go.AL Classical
theorem YX(a b:Int):AL.keyOf (.agg [.i a,.i b])=some (lA (a,b)):=rfl
theorem Xr(r:fZ):KS.has (lA r)=true:=rfl
theorem adx(Q:Nat->Nat){G:kh}{i t:Nat}{k:Value}{d:D}(h:(iV Q i G)[t]? = some (k,d)):(iV Q i G).set t (k,d)=iV Q i G:=by obtain⟨h1,a⟩:=ae.1 h;rw[<-a,eA]
theorem ahy{H:U}{v t:Nat}{q:Nat->Nat}{G:kh}{r:fZ}{x:List Int}(c:H[v]? = some (.map KS (iV q 0 G)))(b:oh r G=some (t,x)) :
  yH KS .gg (.gD v) (.agg [.i r.1,.i r.2]) H=some (.tup [oI (q t) x,.i t],.obj v (.map KS (iV q 0 G))):=by
 have h1:=SM q r G 0 0;rw[b]at h1;simp only[aH,aQ]at h1;have a:=SP q r (oI (q t) x) G 0;rw[b]at a
 have d:(iV q 0 G)[t]? = some (lA r,oI (q t) x):=by rw[vq,(zH (k:=0) b).1];simp
 dsimp only at a;rw[adx q d]at a;unfold yH;rw[YX];simp only[SH,c,mapOf];rw[if_pos ⟨trivial,Xr _⟩,h1];dsimp only;rw[a]
theorem ahx{H:U}{v:Nat}{q:Nat->Nat}{G:kh}{r:fZ}(c:H[v]? = some (.map KS (iV q 0 G)))(b:oh r G=none) :
  yH KS .gg (.gD v) (.agg [.i r.1,.i r.2]) H=some (.tup [.gg,.i G.length],.obj v (.map KS (iV q 0 G ++ [(lA r,.gg)]))):=by
 have h1:=SM q r G 0 0;rw[b]at h1;simp only[Option.map_none]at h1;have a:=SP q r .gg G 0;rw[b]at a;dsimp only at a;unfold yH;rw[YX];simp only[SH,c,mapOf];rw[if_pos ⟨trivial,Xr _⟩,h1];dsimp only;rw[a,Be]
theorem VR{H:U}{v t:Nat}{es:List (Value×D)}{k:Value}{d0 d:D}(a:H[v]? = some (.map KS es))(b:es[t]? = some (k,d0)) :
  Ba (.gD v) (.i t) d H=some (.any,.obj v (.map KS (es.set t (k,d)))):=by
 unfold Ba;simp only[SH,a,mapOf,bt,b];rw[if_pos (by omega)]
theorem wA{n m:Nat}(h:n<=m){d:D}(a:mZ n d=true):mZ m d=true:=by cases d<;>first|exact a|(simp only[mZ,decide_eq_true_eq]at a ⊢;omega)
theorem FN{n m:Nat}(h:n<=m){cs:List D}(b:cs.all (mZ n)=true):cs.all (mZ m)=true:=
 List.all_eq_true.2 λd a=>wA h (List.all_eq_true.1 b d a)
theorem EW{n m:Nat}(h:n<=m){d:D}(c:ju n d=true):ju m d=true:=by
 cases d with
 | agg cs=>exact FN h c
 | tup cs=>exact FN h c
 | gu cs=>exact FN h c
 | fn f a b=>
  simp only[ju,Bool.and_eq_true]at c ⊢;exact⟨FN h c.1,FN h c.2⟩
 | any=>exact wA (n:=n) (d:=.any) h c
 | val v=>exact wA (n:=n) (d:=.val v) h c
 | sl sz es=>exact wA (n:=n) (d:=.sl sz es) h c
 | fY v g sz off len=>exact wA (n:=n) (d:=.fY v g sz off len) h c
 | gg=>exact wA (n:=n) (d:=.gg) h c
 | ptr v g off=>exact wA (n:=n) (d:=.ptr v g off) h c
 | gD v=>exact wA (n:=n) (d:=.gD v) h c
 | iT v=>exact wA (n:=n) (d:=.iT v) h c
 | l4 vs=>exact wA (n:=n) (d:=.l4 vs) h c
theorem ZS{n m:Nat}(h:n<=m){o:Ob}(a:ni n o=true):ni m o=true:=by
 cases o with
 | row t g cs=>exact List.all_eq_true.2 λd b=>EW h (List.all_eq_true.1 a d b)
 | map kk es=>exact List.all_eq_true.2 λd b=>EW h (List.all_eq_true.1 a d b)
 | ib rf env st=>exact List.all_eq_true.2 λd b=>EW h (List.all_eq_true.1 a d b)
 | sO=>rfl
 | jl m since seen=>exact wA h a
 | ja=>rfl
 | dead=>rfl
 | lT=>cases a
theorem xq{n m:Nat}{H:U}(h:n<=m)(b:jj n H):jj m H:=λo a=>ZS h (b o a)
theorem uk{n:Nat}{H G:U}(h:jj n H)(b:jj n G):jj n (H++G):=λo a=>by
 rcases List.mem_append.1 a with a|a
 .exact h o a
 .exact b o a
