/- Part 40 of DisputeReferee. -/
import Derived.Test.YtmehofoficaelaaGreatDoorR38
import Derived.Test.YtmehofoficaelaaGreatDoorR39
import Derived.Test.YtmehofoficaelaaGreatDoorR26
set_option linter.all false
namespace Go.Proofs.YtmehofoficaelaaGreatDoor
open Go Go.AL Classical
set_option maxRecDepth 10000
set_option maxHeartbeats 8000000
section
variable{H G R:U}{k j:Nat}{o o':Ob}
@[simp] theorem SG:(H++G).set H.length o=H++G.set 0 o:=by rw[dW _ _ (by omega),bS]
end
section
variable{id n:Nat}{live keys:List Nat}{K:iE}{s:St}{J:Env->U->List Nat->Bool->Prop}
@[simp ↓ high] theorem aoM:wG id n (9999::live) K (.norm s)=K (.norm { s with env:=forget (9999::live) s.env }):=by rw[SM,NN]
@[simp ↓ high] theorem aoP:wG id n (9999::live) K (.exit id s)=K (.norm { s with env:=forget (9999::live) s.env }):=by rw[SN,NN]
@[simp ↓ high] theorem asN:xq n (9999::live) keys J K (.norm s)=J (forget keys (forget (9999::live) s.env)) s.H s.marks s.ik:=by rw[WI,NN]
end
@[simp] theorem ar1(r:fE):rz (kX r) = .agg [.i r.1,.i r.2]:=rfl
theorem aeA{n:Nat}{H G:U}{v g:Nat}{x:List Int}(k:H.length=n)(d:jO n H)(b:G[v]? = some (.row 3 g (cl f1 x)))(f:x≠[]) :
  leave 0 n (H++G) (.fy (n+v) g 1 0 x.length)=(dN 1 f1 x,H):=by
 have m:=(ae.1 b).1
 have l:(((H++G).take n).map (nZ n)).flatten = []:=flatten_nil λo c=>by rw[aV (by omega),af (by omega)]at c;exact QF (d o c)
 have e:il (iG n []) (n+v)=none:=by
  unfold il iG;rw[List.map_nil,ax,dq];intro p j;obtain⟨u,h,rfl⟩:=aq.1 j;rw[a8]at h;have:u≠n+v:=by omega
  simpa using this
 have i:AL.rowAt (H++G) (n+v) g=some (3,cl f1 x):=by unfold AL.rowAt;rw[ai (by omega),show n+v-H.length=v by omega,b];simp
 unfold leave;rw[if_neg (by rw[au];omega)];simp only;rw[l];show(fL (il (iG n [])) (H++G) 40 _,p6 (iG n []) (H++G))=_;rw[GK k d,AL.Rk,e,Yl,i,uq rfl];refine ew ?_ rfl
 cases x with
 | nil=>exact absurd rfl f
 | cons a r=>rfl
theorem ab7:Wf T 126 [.val (.int .u64 0)] [] (Is (.i 0)):=od (k:=40) (by kernel_rfl)
theorem ace{H:U}:Wf T 189 [.fJ,.i 0,.i 0] H (λd H'=>d = .tup []/\H'=H):=by refine Yg Jf ?_;simp[Jf];refine fO.un ?_;refine kj.u ?_;simp
theorem acf{H:U}:Wf T 125 [.fJ,.i 0,.i 0,.i 0] H (λd H'=>d = .tup []/\H'=H):=by refine Yg I1 ?_;simp[I1];refine fO.un ?_;refine kj.u ?_;simp;refine fY.lW rfl rfl ace ?_;rintro _ H' ⟨rfl,rfl⟩;simp
theorem acb{H:U}:Wf T 67 [.fJ] H (λd H'=>d = .tup []/\H'=H):=by refine Yg II ?_;simp[II];refine Yc (ab7) ?_;simp;refine fY.lW rfl rfl acf ?_;rintro _ H' ⟨rfl,rfl⟩;simp
def Y'(n:Nat)(G:U)(out:List Int)(d:D):Prop:=(out = []/\d = .fJ)\/(out≠[]/\∃v g,d = .fy (n+(v+1)) g 1 0 out.length/\G[v+1]? = some (.row 3 g (cl f1 out)))
theorem y4{H G:U}{d:D}(fG:jO H.length H)(a:kA H.length d=true):leave 0 H.length (H++G) d=(d,H):=aez rfl fG a
attribute [-simp] rQ
theorem N8{H:U}{ck sr n:Nat}{M:Nat->jK}{ow:Nat->Nat×Nat×Nat}{P:Nat->Nat}{Q:Nat->Nat->Nat}{cells:List D}(W:mh H ck sr n M ow P Q)(fG:jO H.length H)(J:H[ck]? = some (.row 168 0 cells))(S:cells[12]? = some (.fy sr 0 1 0 n))
  {cm:List gp} (h8:cm.length<=100000) {i:Int} (i0:0<=i) (i1:i<n) (hM:M i.toNat=gH cm i) {w:fE->Bool} {Oc:FuncId} {cap:List D}
  (hw:∀(r:fE) (dst:Option Nat) (s:St) (K:St->Prop),(∀(v:Nat) (o:Ob),H[v]? = some o->s.H[v]? = some o)->K { s with env:=put s.env dst (.b (w r)) }->fY T Oc (.agg [.i r.1,.i r.2]::cap) dst s K .mk) :
  Wf T 119 [.ptr ck 0 0,.i i,.fn (.func Oc) [] cap] H (λd H'=>d=dN 1 f1 (jI (λc=>ie c i&&w (iW c i)) cm cm.length)/\H'=H):=by
 obtain⟨u,_⟩:=W.mp i.toNat (by omega);have X:=W.ls i.toNat (by omega);have gw:=W.row;rw[hM]at u X
 have hj:((List.range n).map λj=>D.gg (P j))[i.toNat]? = some (.gg (P i.toNat)):=by rw[ar,bE (by omega)];rfl
 obtain⟨p,I⟩:∃p,P i.toNat=p:=⟨_,rfl⟩;obtain⟨q,AM⟩:∃q,Q i.toNat=q:=⟨_,rfl⟩;rw[I]at u hj;rw[AM]at u X;have gq:i<(n:Int):=i1;have rp:=(ae.1 J).1;have gX:=(ae.1 u).1;have O:∀G,(H++G)[p]? = some (.map KS (iC q 0 (gH cm i))):=λG=>by rw[ah gX,u]
 refine Yg HH ?_;simp[HH,J,S,gw,I,u,i0,gq];(with_reducible repeat' first|refine Xk ?_<;>try simp[J,S,gw,I,u,i0,gq]|refine Xs ?_ ?_<;>intro h<;>(try intro h')<;>(try simp[h,J,S,gw,I,u,i0,gq])<;>try omega|refine Xg ?_|omega);refine fO.e (([.jb (.gg p) (gH cm i).length []],[],[],.fJ):U×List Nat×List Int×D) (λy=>[(2,.fn (.func Oc) [] cap),(7,y.2.2.2),(17,.ptr H.length 0 0)]) (λy=>H++y.1) (λy=>y.1[0]? = some (.jb (.gg p) (gH cm i).length y.2.1)/\sx cm i w y.2.1 y.2.2.1/\Y' H.length y.1 y.2.2.1 y.2.2.2) (λy=>(gH cm i).length-y.2.1.length) ?_ ?_
 .exact⟨rfl,sx.start,.inl ⟨rfl,rfl⟩⟩
 rintro⟨G,seen,out,d⟩ ⟨Z,hS,N⟩;dsimp only at Z hS N ⊢;have Pc:=(ae.1 Z).1;have CG:=hS.len;simp;refine tZ.at (m:=p) (since:=(gH cm i).length) (seen:=seen) (kk:=KS) (es:=iC q 0 (gH cm i)) (by simp[Z]) (by simp[O]) (by simp) (λV=>?_) λt kv dv he hi=>?_
 .have V:∀t,t<(gH cm i).length->t∈seen:=by simpa using V
  have Cv:=hS.done V;simp;refine fD ?_;rcases N with⟨rfl,rfl⟩|⟨L,v,g,rfl,f⟩
  .refine fY.lW rfl rfl acb ?_;rintro _ H' ⟨rfl,rfl⟩;have:jI (λc=>ie c i&&w (iW c i)) cm cm.length = []:=by rw[<-Cv];simp
   rw[this];simp[y4 fG,dN]
  .refine fY.lW rfl rfl (f160 (l:=out) (t:=3) (K:=λd H'=>d = .tup []/\H'=H++G.set (v+1) (.row 3 g (cl f1 (jI (λc=>ie c i&&w (iW c i)) cm cm.length)))) (av.2 L) (by omega) (by simp[f]) ⟨rfl,by simp[Cv]⟩) ?_;rintro _ H' ⟨rfl,rfl⟩;have F:(jI (λc=>ie c i&&w (iW c i)) cm cm.length).length=out.length:=by rw[<-Cv,ff]
   have oG:=aeA (G:=G.set (v+1) (.row 3 g (cl f1 (jI (λc=>ie c i&&w (iW c i)) cm cm.length)))) (v:=v+1) (g:=g) rfl fG (by rw[aY (ae.1 f).1]) (λe=>L (az.1 (by rw[<-F,e];rfl)));rw[F]at oG;simp[oG]
 .rw[wP]at he;obtain⟨x,B,kf⟩:=aj.1 he;cases kf;rw[aM]at *;obtain⟨VG,_⟩:=X t x B;have gS:=(Ld B).2;have z:=hS.step B hi;have sW:=MN hS.nd hS.lt (ae.1 B).1 hi;have qn:=(ae.1 VG).1;have A:∀G,(H++G)[q t]? = some (.row 3 (x.2.length-1) (cl f1 x.2)):=λG=>by rw[ah qn,VG];rfl
  have jA:(iC q 0 (gH cm i))[t]? = some (kX x.1,oI (q t) x.2):=by rw[wP,B];simp
  obtain⟨a,Af⟩:∃a,G.set 0 (.jb (.gg p) (gH cm i).length (seen ++ [t]))=a:=⟨_,rfl⟩;have E:a[0]? = some (.jb (.gg p) (gH cm i).length (seen ++ [t])):=by rw[<-Af,aY Pc]
  have OJ:∀(v:Nat) (o:Ob),G[v+1]? = some o->a[v+1]? = some o:=λv o f=>by rw[<-Af,bR (by omega)];exact f
  have e:(H++G).set H.length (.jb (.gg p) (gH cm i).length (seen ++ [t]))=H++a:=by rw[SG,Af]
  have Lz:=(ae.1 E).1;rw[e];obtain⟨b,hb⟩:∃b,w x.1=b:=⟨_,rfl⟩;rw[hb]at z
  have ry:x.2.length<=cm.length:=by rw[(Ld B).1];exact A8 _ _ ((AX _ _ _).imp λh e=>by omega) λk hk=>(yY.1 hk).1
  simp[O,jA,E];refine pe O jA E ?_;refine hw x.1 _ _ _ (λv o f=>?_) ?_
  .have C:=(ae.1 f).1;simp[ah C,f]
  rw[hb]
  have Y:(gH cm i).length-(seen ++ [t]).length<(gH cm i).length-seen.length:=by have:=sW.2.2;rw[au,cz]at this ⊢;omega
  have Ax:∀(R:U),(a++R)[0]? = some (.jb (.gg p) (gH cm i).length (seen ++ [t])):=λR=>by rw[ah Lz];exact E
  cases b
  .rw[if_neg (by simp)]at z;simp;refine LJ.e (_,seen ++ [t],out,d) ?_;refine⟨Y,Ax _,z,?_⟩;rcases N with h|⟨h1,v,g,h2,h3⟩
   .exact .inl h
   .exact .inr ⟨h1,v,g,h2,by rw[ah (ae.1 (OJ _ _ h3)).1];exact OJ _ _ h3⟩
  .rw[if_pos rfl]at z;rcases N with⟨rfl,rfl⟩|⟨L,v,g,rfl,f⟩
   .simp[A,oI];(with_reducible repeat' first|refine Xk ?_<;>try simp[A,oI]|refine Xs ?_ ?_<;>intro h<;>(try intro h')<;>(try simp[h,A,oI])<;>try omega|refine Xg ?_|omega);rw[bG]at z;refine⟨λe=>absurd e gS,λ_=>(qy ?_)⟩;refine LJ.i (_,seen ++ [t],x.2,_) rfl rfl rfl rfl ?_;refine⟨Y,Ax _,z,.inr ⟨gS,a.length,0,rfl,?_⟩⟩;rw[Zo];rfl
   .have VV:=OJ _ _ f;have C:=(ae.1 VV).1;have PS:∀R:U,(a++R)[v+1]? = some (.row 3 g (cl f1 out)):=λR=>by rw[ah C];exact VV
    have PT:∀(R:U) (o:Ob),(a++R).set (v+1) o=a.set (v+1) o++R:=λR o=>bn _ _ C;simp[A,oI,PS,PT];(with_reducible repeat' first|refine Xk ?_<;>try simp[A,oI,PS,PT]|refine Xs ?_ ?_<;>intro h<;>(try intro h')<;>(try simp[h,A,oI,PS,PT])<;>try omega|refine Xg ?_|omega);refine LJ.i (_,seen ++ [t],out++x.2,.fy (H.length+(v+1)) (g+1) 1 0 (out.length+x.2.length)) (by simp) rfl rfl rfl ?_;refine⟨Y,?_,z,.inr ⟨by simp[L],v,g+1,by simp,?_⟩⟩
    .dsimp only;rw[ah (by rw[aF];exact Lz),bR (by omega)];exact E
    .dsimp only;rw[ah (by rw[aF];exact C),aY C]
end Go.Proofs.YtmehofoficaelaaGreatDoor
namespace Go.Proofs.YtmehofoficaelaaGreatDoor
open Go Go.AL Classical
set_option maxRecDepth 10000
set_option maxHeartbeats 8000000
section
variable{nx:List (List Int)}
end
attribute [-simp] rQ SM WI SN
end Go.Proofs.YtmehofoficaelaaGreatDoor
namespace Go.Proofs.YtmehofoficaelaaGreatDoor
open Go Go.AL Classical
theorem YU{v:List fE}{b:List Bool}{x:List Int}:∀n:Nat,n<=x.length->(∀j:Nat,j<n->gt b (gt x (j:Int))=false/\(gt v (gt x (j:Int))).1=1)->(lg v b x n).1=n
 | 0,_,_=>rfl
 | n+1,hn,h=>by rw[lg,if_pos (h n (by omega))];have:=YU (v:=v) (b:=b) (x:=x) n (by omega) λj a=>h j (by omega);dsimp only;omega
theorem RC{v:List fE}{b:List Bool}{x:List Int}:∀n:Nat,(lg v b x n).1=n->∀j:Nat,j<n->gt b (gt x (j:Int))=false/\(gt v (gt x (j:Int))).1=1
 | 0,_,j,hj=>by omega
 | n+1,h,j,hj=>by
  have gq:=Nf v b x n;rw[lg]at h;split at h
  .rename_i a;dsimp only at h
   by_cases e:j=n
   .subst e;exact a
   .exact RC (v:=v) (b:=b) (x:=x) n (by omega) j (by omega)
  .omega
theorem Ng{v:List fE}{b:List Bool}{x:List Int}:∀n:Nat,(lg v b x n).1=n->∀j:Nat,j<n->(gt v (gt x (j:Int))).2<=(lg v b x n).2
 | 0,_,j,hj=>by omega
 | n+1,h,j,hj=>by
  have gq:=Nf v b x n;rw[lg]at h ⊢;split at h
  .rename_i a;rw[if_pos a];dsimp only at h ⊢
   by_cases e:j=n
   .subst e;omega
   .have:=Ng (v:=v) (b:=b) (x:=x) n (by omega) j (by omega);omega
  .omega
theorem Qx{x:List Int}{k:Int}:k∈x↔∃j:Nat,j<x.length/\gt x (j:Int)=k:=by
 rw[xw];constructor
 .rintro⟨n,n0,n1,e⟩;exact⟨n.toNat,by omega,by rw[show((n.toNat:Nat):Int)=n by omega];exact e⟩
 .rintro⟨j,a,e⟩;exact⟨j,by omega,by omega,e⟩
section
variable{g:fH}{l:List Pos}{nx:List (List Int)}{part:List Int}{bu:Int}
structure FI(g:fH)(l:List Pos)(nx:List (List Int))(part:List Int)(v0:List fE)(n:Int)(v:List fE)(b:List Bool):Prop where
 vl:v.length=l.length
 bl:b.length=l.length
 out:∀k:Int,0<=k->k<l.length->k ∉ part->gt b k=false/\gt v k=gt v0 k
 dec:∀i∈part,gt b i=false->(0<=(gt v i).2/\(gt v i).2<n)/\(((stat g (gt l i)).2=true/\gt v i=((stat g (gt l i)).1,0))\/((stat g (gt l i)).2=false/\(
  (∃m,1<=m/\gt v i=(1,m)/\(∃k∈gt nx i,gt b k=false/\gt v k=(3,m-1))/\∀k∈gt nx i,gt b k=false->(gt v k).1=3->m-1<=(gt v k).2) \/
  (∃m,1<=m/\gt v i=(3,m)/\(∀k∈gt nx i,gt b k=false/\(gt v k).1=1/\(gt v k).2<=m-1)/\∃k∈gt nx i,(gt v k).2=m-1))))
 Bc:∀i∈part,gt b i=true->0<n->(stat g (gt l i)).2=false/\(∀k∈gt nx i,gt b k=false->(gt v k).1=3->n-1<=(gt v k).2) /\
  (gt nx i≠[]->(∀k∈gt nx i,gt b k=false/\(gt v k).1=1)->∃k∈gt nx i,n-1<=(gt v k).2)
theorem FI.step(o:wx g l nx part bu){v0:List fE}(h0:∀k:Int,0<=k->k<l.length->0<=(gt v0 k).2){n:Int}(n0:0<=n){v:List fE}{b:List Bool}(h:FI g l nx part v0 n v b):FI g l nx part v0 (n+1) (rV g l nx part v b n) (rB g l nx part v b n):=by
 have hV:=λ{k:Int} (k0:0<=k) (k1:k<l.length)=>UH o h.vl h.bl (n:=n) k0 k1;have I:=λ{k:Int} (k0:0<=k) (k1:k<l.length)=>Oy o (v:=v) h.bl (n:=n) k0 k1;have gq:∀i∈part,∀k∈gt nx i,0<=k/\k<l.length:=λi hi k d=>(o.W6 i (o.prt i hi).1 (o.prt i hi).2).1 k d
 have N:∀k,k∈rm g l nx part v b n↔k∈part/\(ot g (gt l k) v b (gt nx k) n).2=true/\gt b k=true:=λk=>by unfold rm QG;rw[aO,Bool.and_eq_true]
 have Y:∀k,k∈rm g l nx part v b n->(KJ g l nx v b n k).2=n:=λk d=>by
  unfold KJ ot;split
  .rename_i e;rw[e]
  .split<;>rfl
 have f:∀k:Int,0<=k->k<l.length->gt b k=false->gt (rB g l nx part v b n) k=false/\gt (rV g l nx part v b n) k=gt v k:=λk k0 k1 e=>by
  have T:k ∉ rm g l nx part v b n:=λr=>by rw[((N k).1 r).2.2]at e;cases e
  rw[hV k0 k1,I k0 k1,if_neg T,if_neg T];exact⟨e,rfl⟩
 have G:∀k:Int,0<=k->k<l.length->gt (rB g l nx part v b n) k=false->(gt b k=false/\gt (rV g l nx part v b n) k=gt v k)\/(k∈rm g l nx part v b n/\(gt (rV g l nx part v b n) k).2=n):=λk k0 k1 e=>by
  by_cases r:k∈rm g l nx part v b n
  .right;rw[hV k0 k1,if_pos r];exact⟨r,Y k r⟩
  .left;rw[I k0 k1,if_neg r]at e;rw[hV k0 k1,if_neg r];exact⟨e,rfl⟩
 have K:∀k:Int,0<=k->k<l.length->gt b k=false->0<=(gt v k).2:=λk k0 k1 e=>by
  by_cases S:k∈part
  .exact(h.dec k S e).1.1
  .rw[(h.out k k0 k1 S).2];exact h0 k k0 k1
 refine⟨aj8 o h.vl h.bl,aj7 o h.bl,λk k0 k1 d=>?_,λi hi e=>?_,λi hi e _=>?_⟩
 .obtain⟨a,c⟩:=h.out k k0 k1 d;obtain⟨a',c'⟩:=f k k0 k1 a;exact⟨a',c'.trans c⟩
 .obtain⟨i0,E⟩:=o.prt i hi;rcases G i i0 E e with⟨P,e2⟩|⟨r,a5⟩
  .obtain⟨L,H⟩:=h.dec i hi P;rw[e2];refine⟨⟨L.1,by omega⟩,?_⟩;rcases H with⟨J,c2⟩|⟨J,⟨m,m1,c2,⟨k,d,D,F⟩,c5⟩|⟨m,m1,c2,D,k,d,F⟩⟩
   .exact .inl ⟨J,c2⟩
   .refine .inr ⟨J,.inl ⟨m,m1,c2,⟨k,d,?_⟩,λq p A t=>?_⟩⟩
    .have:=f k (gq i hi k d).1 (gq i hi k d).2 D;exact⟨this.1,this.2.trans F⟩
    .rcases G q (gq i hi q p).1 (gq i hi q p).2 A with⟨y,b2⟩|⟨_,b2⟩
     .rw[b2]at t ⊢;exact c5 q p y t
     .rw[c2]at L;dsimp only at L;omega
   .refine .inr ⟨J,.inr ⟨m,m1,c2,λq p=>?_,k,d,?_⟩⟩
    .obtain⟨d1,d2,d3⟩:=D q p;have:=f q (gq i hi q p).1 (gq i hi q p).2 d1;rw[this.2];exact⟨this.1,d2,d3⟩
    .rw[(f k (gq i hi k d).1 (gq i hi k d).2 (D k d).1).2];exact F
  .obtain⟨_,s,O⟩:=(N i).1 r;refine⟨by omega,?_⟩;have Z:gt (rV g l nx part v b n) i=(ot g (gt l i) v b (gt nx i) n).1:=by rw[hV i0 E,if_pos r];rfl
   rw[Z]
   by_cases u:n=0
   .subst u;unfold ot at s ⊢;rw[if_pos rfl]at s ⊢;exact .inl ⟨s,rfl⟩
   .obtain⟨X,W,p3⟩:=h.Bc i hi O (by omega);refine .inr ⟨X,?_⟩;unfold ot at s ⊢;rw[if_neg u]at s ⊢
    by_cases hl:A0 v b (gt nx i) n
    .rw[if_pos hl];obtain⟨k,d,D,F⟩:=hl;refine .inl ⟨n,by omega,rfl,⟨k,d,?_⟩,λq p A t=>?_⟩
     .have:=f k (gq i hi k d).1 (gq i hi k d).2 D;exact⟨this.1,this.2.trans F⟩
     .rcases G q (gq i hi q p).1 (gq i hi q p).2 A with⟨y,b2⟩|⟨_,b2⟩
      .rw[b2]at t ⊢;exact W q p y t
      .omega
    .rw[if_neg hl]at s ⊢;simp only[decide_eq_true_eq]at s;obtain⟨w0,w1,w2⟩:=s;have H:=RC _ w1;have hg:=Ng _ w1;refine .inr ⟨n,by omega,rfl,λq p=>?_,?_⟩
     .obtain⟨j,z,rfl⟩:=Qx.1 p;have U:=f _ (gq i hi _ p).1 (gq i hi _ p).2 (H j z).1;have:=hg j z;rw[U.2];exact⟨U.1,(H j z).2,by omega⟩
     .rcases RD v b (gt nx i) (gt nx i).length (Nat.le_refl _)with P|⟨q,p,q1,q2,q3⟩
      .omega
      .refine⟨q,p,?_⟩;rw[(f q (gq i hi q p).1 (gq i hi q p).2 q1).2];omega
 .obtain⟨i0,E⟩:=o.prt i hi
  have Q:i ∉ rm g l nx part v b n:=λr=>by rw[I i0 E,if_pos r]at e;cases e
  rw[I i0 E,if_neg Q]at e
  have w:(ot g (gt l i) v b (gt nx i) n).2=false:=by
   by_cases B:(ot g (gt l i) v b (gt nx i) n).2=true
   .exact absurd ((N i).2 ⟨hi,B,e⟩) Q
   .simpa using B
  have M:(stat g (gt l i)).2=false:=by
   by_cases u:n=0
   .unfold ot at w;rw[if_pos u]at w;exact w
   .exact(h.Bc i hi e (by omega)).1
  have R:n≠0->¬A0 v b (gt nx i) n:=λu hl=>by unfold ot at w;rw[if_neg u,if_pos hl]at w;cases w
  refine⟨M,λk d A t=>?_,λV ha=>?_⟩
  .rcases G k (gq i hi k d).1 (gq i hi k d).2 A with⟨y,b2⟩|⟨_,b2⟩
   .rw[b2]at t ⊢
    by_cases u:n=0
    .have:=K k (gq i hi k d).1 (gq i hi k d).2 y;omega
    .have h1:=(h.Bc i hi e (by omega)).2.1 k d y t;have s:(gt v k).2≠n-1:=λO=>R u ⟨k,d,y,ew t O⟩;omega
   .omega
  .by_cases B:∃k∈gt nx i,n<=(gt (rV g l nx part v b n) k).2
   .obtain⟨k,d,B⟩:=B;exact⟨k,d,by omega⟩
   .exfalso
    have C:∀k∈gt nx i,gt b k=false/\(gt v k).1=1/\(gt v k).2<n:=λk d=>by
     have h1:¬n<=(gt (rV g l nx part v b n) k).2:=λs=>B ⟨k,d,s⟩;obtain⟨A,t⟩:=ha k d;rcases G k (gq i hi k d).1 (gq i hi k d).2 A with⟨y,b2⟩|⟨_,b2⟩
     .rw[b2]at t h1;exact⟨y,t,by omega⟩
     .omega
    have jM:0<(gt nx i).length:=av.2 V
    by_cases u:n=0
    .have d:=fZ (l:=gt nx i) (n:=0) (by omega) (by omega);have h1:=C _ d;have s:=K _ (gq i hi _ d).1 (gq i hi _ d).2 h1.1;omega
    .obtain⟨k,d,h1⟩:=(h.Bc i hi e (by omega)).2.2 V λk d=>⟨(C k d).1,(C k d).2.1⟩
     have w1:=YU (v:=v) (b:=b) (x:=gt nx i) _ (Nat.le_refl _) λj z=>by have:=C _ (Qx.2 ⟨j,z,rfl⟩);exact⟨this.1,this.2.1⟩
     have w2:(lg v b (gt nx i) (gt nx i).length).2=n-1:=by
      obtain⟨j,z,rfl⟩:=Qx.1 d;have g1:=Ng _ w1 j z;rcases RD v b (gt nx i) (gt nx i).length (Nat.le_refl _)with P|⟨q,p,_,_,q3⟩
      .have:=K _ (gq i hi _ d).1 (gq i hi _ d).2 (C _ d).1;omega
      .have:=(C q p).2.2;omega
     unfold ot at w;rw[if_neg u,if_neg (R u)]at w;simp only[decide_eq_false_iff_not]at w;exact w ⟨by omega,w1,w2⟩
end
end Go.Proofs.YtmehofoficaelaaGreatDoor
namespace Go.Proofs.YtmehofoficaelaaGreatDoor
open Go Go.AL Classical
section
variable{g:fH}{l:List Pos}{nx:List (List Int)}{part:List Int}{bu:Int}
theorem acx(o:wx g l nx part bu){v0 V:List fE}{B:List Bool}{n:Int}(n0:0<n)(j:FI g l nx part v0 n V B)
  (w:∀k:Int,0<=k->k<l.length->gt B k=false->(gt V k).1≠2->(gt V k).2<n-1):∀i∈part,pd (lQ g l nx) (vB part V B).1 i:=by
 obtain⟨_,f2⟩:=Ug o j.vl j.bl;have gq:∀i∈part,∀k∈gt nx i,0<=k/\k<l.length:=λi hi k b=>(o.W6 i (o.prt i hi).1 (o.prt i hi).2).1 k b
 have b:∀k:Int,0<=k->k<l.length->gt B k=false->gt (vB part V B).1 k=gt V k:=λk k0 k1 e=>by rw[(f2 k k0 k1).1,if_neg λh=>by rw[e]at h;exact absurd h.2 (by simp)]
 have hs:∀k:Int,0<=k->k<l.length->(gt (vB part V B).1 k).1≠2->gt B k=false:=λk k0 k1 e=>by
  by_cases x:k∈part
  .by_cases z:gt B k=true
   .rw[(f2 k k0 k1).1,if_pos ⟨x,z⟩]at e;exact absurd rfl e
   .simpa using z
  .exact(j.out k k0 k1 x).1
 intro i hi;obtain⟨i0,p⟩:=o.prt i hi
 by_cases e:gt B i=true
 .obtain⟨D,C,A⟩:=j.Bc i hi e n0;refine .inr ⟨D,.inr (.inr ⟨by rw[(f2 i i0 p).1,if_pos ⟨hi,e⟩],λk a d=>?_,λ⟨F,y⟩=>?_⟩)⟩
  .obtain⟨k0,k1⟩:=gq i hi k a;have c:=hs k k0 k1 (by omega);rw[b k k0 k1 c]at d;have h1:=C k a c d;have E:=w k k0 k1 c (by omega);omega
  .obtain⟨k,a,h1⟩:=A F λk a=>by obtain⟨k0,k1⟩:=gq i hi k a;have d:=y k a;have c:=hs k k0 k1 (by omega);rw[b k k0 k1 c]at d;exact⟨c,d⟩
   obtain⟨k0,k1⟩:=gq i hi k a;have d:=y k a;have c:=hs k k0 k1 (by omega);rw[b k k0 k1 c]at d;have E:=w k k0 k1 c (by omega);omega
 .have r:gt B i=false:=by simpa using e
  rcases(j.dec i hi r).2 with⟨t,c2⟩|⟨t,⟨m,v,c2,⟨k,a,s,u⟩,G⟩|⟨m,v,c2,s,k,a,u⟩⟩
  .exact .inl ⟨t,by rw[b i i0 p r];exact c2⟩
  .refine .inr ⟨t,.inl ⟨m,v,by rw[b i i0 p r];exact c2,⟨k,a,by rw[b k (gq i hi k a).1 (gq i hi k a).2 s];exact u⟩,λq f d=>?_⟩⟩;obtain⟨q0,q1⟩:=gq i hi q f;have c:=hs q q0 q1 (by omega);rw[b q q0 q1 c]at d ⊢;exact G q f c d
  .refine .inr ⟨t,.inr (.inl ⟨m,v,by rw[b i i0 p r];exact c2,λq f=>?_,k,a,?_⟩)⟩
   .obtain⟨d1,d2⟩:=s q f;rw[b q (gq i hi q f).1 (gq i hi q f).2 d1];exact d2
   .rw[b k (gq i hi k a).1 (gq i hi k a).2 (s k a).1];exact u
end
section
variable{g:fH}{l:List Pos}{m:List Int}
end
end Go.Proofs.YtmehofoficaelaaGreatDoor
namespace Go.Proofs.YtmehofoficaelaaGreatDoor
open Go Go.AL Classical
structure VB(A:ny)(n:Nat)(P R:List Int)(v:List fE)(lf:List Int):Prop where
 vl:v.length=n
 ll:lf.length=n
 nd:(P++R).Nodup
 qr:∀k∈P++R,0<=k/\k<n
 qi:∀k∈P++R,(gt v k).1≠0
 z:∀k:Int,0<=k->k<n->k ∉ P++R->gt v k=(0,0)
 ov:∀k:Int,0<=k->k<n->A.ov k=true->k∈P++R/\gt v k=(A.rs k,0)
 mono:(P++R).Pairwise λa b=>(gt v a).2<=(gt v b).2
 top:∀i R',R=i::R'->∀a∈P++R,(gt v a).2<=(gt v i).2+1
 nn:∀a∈P++R,0<=(gt v a).2/\(gt v a).2<=(P++R).length
 st:∀k∈P++R,A.ov k=false ->
  (∃m,1<=m/\gt v k=(1,m)/\(∃c∈gt A.nx k,gt v c=(3,m-1))/\∀c∈gt A.nx k,(gt v c).1=3->m-1<=(gt v c).2) \/
  (∃m,1<=m/\gt v k=(3,m)/\(∀c∈gt A.nx k,(gt v c).1=1/\(gt v c).2<=m-1)/\∃c∈gt A.nx k,(gt v c).2=m-1)
section
variable{A:ny}{n:Nat}{P R d:List Int}{v:List fE}{lf:List Int}{i k t:Int}
structure VS(A:ny)(n:Nat)(m:Int)(R:List Int)(v:List fE)(lf:List Int):Prop where
 vl:v.length=n
 ll:lf.length=n
 nd:R.Nodup
 qr:∀k,k∈R↔(0<=k/\k<m)/\A.ov k=true
 vv:∀k:Int,0<=k->k<n->gt v k=if k∈R then(A.rs k,0)else(0,0)
 lv:∀k:Int,0<=k->k<m->gt lf k=(gt A.nx k).length
end
end Go.Proofs.YtmehofoficaelaaGreatDoor
namespace Go.Proofs.YtmehofoficaelaaGreatDoor
open Go Go.AL Classical
set_option maxRecDepth 10000
set_option maxHeartbeats 8000000
attribute [-simp] aex
end Go.Proofs.YtmehofoficaelaaGreatDoor
namespace Go.Proofs.YtmehofoficaelaaGreatDoor
open Go Go.AL Classical
set_option maxRecDepth 10000
set_option maxHeartbeats 16000000
attribute [local simp] HF H5 tp M4
end Go.Proofs.YtmehofoficaelaaGreatDoor
namespace Go.Proofs.YtmehofoficaelaaGreatDoor
open Go Go.AL Classical
set_option maxRecDepth 10000
set_option maxHeartbeats 16000000
attribute [local simp] HF H5 tp M4
section
variable{g:fH}{l:List Pos}{nx:List (List Int)}{part:List Int}{bu:Int}
end
end Go.Proofs.YtmehofoficaelaaGreatDoor
namespace Go.Proofs.YtmehofoficaelaaGreatDoor
open Go Go.AL Classical
set_option maxRecDepth 10000
set_option maxHeartbeats 8000000
def H0(g:fH)(n:Nat)(v:List fE)(lf:List Int):U:=[.row 43 0 g.cells,.row 86 0 (cl fS v),.row 51 0 [.fy 1 0 2 0 n],.row 3 0 (cl f1 lf),.row 37 0 [.fJ]]
section
variable{nx:List (List Int)}
end
end Go.Proofs.YtmehofoficaelaaGreatDoor
namespace Go.Proofs.YtmehofoficaelaaGreatDoor
open Go Go.AL Classical
set_option maxRecDepth 10000
set_option maxHeartbeats 8000000
theorem f102(L:List Int)(h0:0<L.length)(m:L.length<=4000000000):Wf T 145 [dI L] [] (Ey D.i λr=>r∈L/\∀x∈L,r<=x):=by
 refine Yg Hl ?_;simp[Hl];(with_reducible repeat' first|refine Xk ?_<;>try simp|refine Xs ?_ ?_<;>intro h<;>(try intro o)<;>(try simp[h])<;>try omega|refine Xg ?_|omega);refine fO.e ((1,gt L 0):Int×Int) (λy=>[(0,dI L),(3,.i y.2),(4,.i y.1)]) (λy=>[]) (λy=>1<=y.1/\y.1<=L.length/\y.2∈L/\∀j:Int,0<=j->j<y.1->y.2<=gt L j) (λy=>(L.length-y.1).toNat) ?_ ?_
 .refine⟨by simp,by dsimp only;omega,fZ (by omega) (by omega),λj j0 j1=>?_⟩;dsimp only at j1 ⊢;rw[show j=0 by omega];exact Int.le_refl _
 rintro⟨i,r⟩ ⟨i0,d,c,b⟩;dsimp only at i0 d c b ⊢
 by_cases hi:i<L.length
 .simp[hi];refine fD ?_;have k:=fZ (l:=L) (n:=i) (by omega) hi;refine LJ.e (i+1,min r (gt L i)) ?_;refine gx ⟨?_,λj j0 j1=>?_⟩
  .dsimp only;rcases(show min r (gt L i)=r\/min r (gt L i)=gt L i by omega)with e|e<;>rw[e]<;>assumption
  .dsimp only at j1 ⊢
   by_cases e:j=i
   .subst e;omega
   .have:=b j j0 (by omega);omega
 .simp[hi];refine fD ?_;refine Ey.i r rfl rfl ⟨c,λx f=>?_⟩;obtain⟨a,g,p,rfl⟩:=xw.1 f;exact b a g (by omega)
theorem f103(L:List Int)(h0:0<L.length)(m:L.length<=4000000000):Wf T 146 [dI L] [] (Ey D.i λr=>r∈L/\∀x∈L,x<=r):=by
 refine Yg Hq ?_;simp[Hq];(with_reducible repeat' first|refine Xk ?_<;>try simp|refine Xs ?_ ?_<;>intro h<;>(try intro o)<;>(try simp[h])<;>try omega|refine Xg ?_|omega);refine fO.e ((1,gt L 0):Int×Int) (λy=>[(0,dI L),(3,.i y.2),(4,.i y.1)]) (λy=>[]) (λy=>1<=y.1/\y.1<=L.length/\y.2∈L/\∀j:Int,0<=j->j<y.1->gt L j<=y.2) (λy=>(L.length-y.1).toNat) ?_ ?_
 .refine⟨by simp,by dsimp only;omega,fZ (by omega) (by omega),λj j0 j1=>?_⟩;dsimp only at j1 ⊢;rw[show j=0 by omega];exact Int.le_refl _
 rintro⟨i,r⟩ ⟨i0,d,c,b⟩;dsimp only at i0 d c b ⊢
 by_cases hi:i<L.length
 .simp[hi];refine fD ?_;have k:=fZ (l:=L) (n:=i) (by omega) hi;refine LJ.e (i+1,max r (gt L i)) ?_;refine gx ⟨?_,λj j0 j1=>?_⟩
  .dsimp only;rcases(show max r (gt L i)=r\/max r (gt L i)=gt L i by omega)with e|e<;>rw[e]<;>assumption
  .dsimp only at j1 ⊢
   by_cases e:j=i
   .subst e;omega
   .have:=b j j0 (by omega);omega
 .simp[hi];refine fD ?_;refine Ey.i r rfl rfl ⟨c,λx f=>?_⟩;obtain⟨a,g,p,rfl⟩:=xw.1 f;exact b a g (by omega)
theorem fY.w{T:ia}{f:FuncId}{args:List D}{dst:Option Nat}{s a:St}{K:St->Prop}(hs:s=a)(h:fY T f args dst a K .mk):fY T f args dst s K .mk:=by subst hs;exact h
theorem W0{l:List fE}{x:fE}{o:Int}(h:x.1=o):jT (l ++ [x]) o=jT l o ++ [x.2]:=by simp[jT,h]
theorem WZ{l:List fE}{x:fE}{o:Int}(h:x.1≠o):jT (l ++ [x]) o=jT l o:=by simp[jT,h]
@[simp] theorem as3(o:Int):jT [] o = []:=rfl
theorem WY(l:List fE)(o:Int):(jT l o).length<=l.length:=by unfold jT;rw[List.length_map];exact List.length_filter_le _ _
theorem alw{α:Type}[Inhabited α]{l:List α}{i:Int}(i0:0<=i)(a:i<l.length):l.take (i+1).toNat=l.take i.toNat ++ [gt l i]:=by rw[show(i+1).toNat=i.toNat+1 by omega,eJ,List.getElem?_eq_getElem (by omega),eD,<-jc i0 a]
theorem abG(l:List fE)(h0:0<l.length)(N:l.length<=4000000000)(K:∀x∈l,0<=x.2/\x.2<=4000):Wf T 135 [gY l] [] (Is (.agg [.i (nX l).1,.i (nX l).2])):=by
 refine Yg HO ?_;simp[HO];refine fO.e ((0,0,0):Int×Nat×Nat) (λy=>[(0,gY l),(2,.ptr 0 0 0),(3,.fy 1 y.2.1 1 0 (jT (l.take y.1.toNat) 3).length),(4,.fy 2 y.2.2 1 0 (jT (l.take y.1.toNat) 1).length),(9,gY l),(10,.i l.length),(11,.i y.1)]) (λy=>[.row 86 0 [.i 0,.i 0],.row 3 y.2.1 (cl f1 (jT (l.take y.1.toNat) 3)),.row 3 y.2.2 (cl f1 (jT (l.take y.1.toNat) 1))]) (λy=>0<=y.1/\y.1<=l.length) (λy=>(l.length-y.1).toNat) ?_ ?_
 .simp
 rintro⟨i,s,q⟩ ⟨i0,I⟩;dsimp only at i0 I ⊢;have t:=WY (l.take i.toNat) 3;have k:=WY (l.take i.toNat) 1;rw[aJ]at t k
 by_cases hi:i<l.length
 .have e:=alw (l:=l) i0 hi;have C:(gt l i).1=3->jT (l.take (i+1).toNat) 3=jT (l.take i.toNat) 3 ++ [(gt l i).2]:=λh=>by rw[e,W0 h]
  have u:(gt l i).1≠3->jT (l.take (i+1).toNat) 3=jT (l.take i.toNat) 3:=λh=>by rw[e,WZ h]
  have D:(gt l i).1=1->jT (l.take (i+1).toNat) 1=jT (l.take i.toNat) 1 ++ [(gt l i).2]:=λh=>by rw[e,W0 h]
  have v:(gt l i).1≠1->jT (l.take (i+1).toNat) 1=jT (l.take i.toNat) 1:=λh=>by rw[e,WZ h]
  obtain⟨A,p⟩:∃A,jT (l.take i.toNat) 3=A:=⟨_,rfl⟩;obtain⟨B,n⟩:∃B,jT (l.take i.toNat) 1=B:=⟨_,rfl⟩;rw[p]at t C u ⊢;rw[n]at k D v ⊢;have gq:((l.length:Int)-(i+1)).toNat<((l.length:Int)-i).toNat/\0<=i+1/\i+1<=l.length:=by omega
  simp[hi];(with_reducible repeat' first|refine Xk ?_<;>try simp|refine Xs ?_ ?_<;>intro h<;>(try intro O)<;>(try simp[h])<;>try omega|refine Xg ?_|omega)
  .have b:=C ‹_›;have c:=v (by omega);refine LJ.i (i+1,s+1,q) (by simp[b,c]) (by simp[b,c]) rfl rfl gq
  .have b:=u (by omega);have c:=D ‹_›;refine LJ.i (i+1,s,q+1) (by simp[b,c]) (by simp[b,c]) rfl rfl gq
  .have b:=u (by assumption);have c:=v (by assumption);refine LJ.i (i+1,s,q) (by simp[b,c]) (by simp[b,c]) rfl rfl gq
 .have H:i=l.length:=by omega
  subst H;rw[af (by omega)]at *;obtain⟨r,a⟩:∃r,nX l=r:=⟨_,rfl⟩;have z:∀o,∀y∈jT l o,0<=y/\y<=4000:=λo y J=>by have:=K _ (y7.1 J);exact this
  rw[a];unfold nX at a;obtain⟨A,p⟩:∃A,jT l 3=A:=⟨_,rfl⟩;obtain⟨B,n⟩:∃B,jT l 1=B:=⟨_,rfl⟩;have w:=z 3;have E:=z 1;rw[p]at t a w ⊢;rw[n]at k a E ⊢;have F:l≠[]:=av.1 h0;simp[hi]
  by_cases f:A = []
  .rw[if_neg (λh=>h f)]at a;subst f
   by_cases g:B.length=l.length
   .rw[if_pos ⟨F,g⟩]at a;subst a;simp[g];refine fD ?_;refine fY.w (by simp;rfl) ?_;refine fY.rq rfl rfl (f103 B (by omega) (by omega)) (by simp[g]) (λ_=>by simp[flat]) (λ_=>by simp) ?_;rintro r ⟨d,j⟩;have M:=Wu d;have L:=j _ (WT (l:=B) λe=>by rw[e]at d;cases d);have e:r=C3 B:=by omega
    have m:=E r d;subst e;simp;exact mE
   .rw[if_neg (λh=>g h.2)]at a;subst a;simp[g];exact mE
  .rw[if_pos f]at a;subst a;have G:0<A.length:=av.2 f;simp[G];refine fD ?_;refine fY.w (by simp;rfl) ?_;refine fY.rq rfl rfl (f102 A (by omega) (by omega)) (by simp) (λ_=>by simp[flat]) (λ_=>by simp) ?_;rintro r ⟨d,j⟩;have M:=F8 d;have L:=j _ (C5 f);have e:r=uY A:=by omega
   have m:=w r d;subst e;simp;exact mE
end Go.Proofs.YtmehofoficaelaaGreatDoor
namespace Go.Proofs.YtmehofoficaelaaGreatDoor
open Go Go.AL Classical
set_option maxRecDepth 10000
set_option maxHeartbeats 8000000
attribute [-simp] rQ
theorem abD(r:fE):Wf T 121 [.agg [.i r.1,.i r.2]] [] (Is (.b (kM r))):=by
 obtain⟨a,b⟩:=r;unfold kM;dsimp only
 by_cases e:a=2
 .subst e
  by_cases c:b=0
  .subst c;refine Yg tm ?_;simp[tm]
  .refine Yg tm ?_;simp[tm,c]
 .by_cases c:a=1
  .subst c;refine Yg tm ?_;simp[tm]
  .by_cases d:a=3
   .subst d;refine Yg tm ?_;simp[tm]
   .refine Yg tm ?_;simp[tm,e,c,d]
theorem abC(r:fE):Wf T 120 [.agg [.i r.1,.i r.2]] [] (Is (.b (!kM r))):=by have c:=abD r;obtain⟨b,a⟩:∃b,kM r=b:=⟨_,rfl⟩;rw[a]at c ⊢;refine Yg HK ?_;simp[HK];refine Yc (c) ?_;simp
theorem abR(r q:fE):Wf T 187 [.agg [.i r.1,.i r.2],.fV [.i q.1,.i q.2]] [] (Is (.b (decide (r≠q)))):=by obtain⟨a,b⟩:=r;obtain⟨x,y⟩:=q;refine Yg HV ?_;simp[HV]
theorem abS(r:fE)(n:Int):Wf T 188 [.agg [.i r.1,.i r.2],.fV [.i n]] [] (Is (.b (decide (r.1≠2/\r.2=n)))):=by
 obtain⟨a,b⟩:=r;dsimp only
 by_cases c:a=2
 .subst c;refine Yg BE ?_;simp[BE]
 .refine Yg BE ?_;simp[BE,c]
@[simp] theorem asS(G:jK):vX (uV G []) = -1:=rfl
theorem N9{H:U}{ck sr n:Nat}{M:Nat->jK}{ow:Nat->Nat×Nat×Nat}{P:Nat->Nat}{Q:Nat->Nat->Nat}{cells:List D}(X:mh H ck sr n M ow P Q)(fG:jO H.length H)(E:H[ck]? = some (.row 168 0 cells))(B:cells[12]? = some (.fy sr 0 1 0 n))
  {cm:List gp} {i:Int} (i0:0<=i) (I:i<n) (hM:M i.toNat=gH cm i) (nU:∀r∈sd cm i,kM r=true) :
  Wf T 122 [.ptr ck 0 0,.i i] H (λd H'=>d = .i (lL (sd cm i))/\H'=H):=by
 obtain⟨k,_⟩:=X.mp i.toNat (by omega);have N:=X.row;rw[hM]at k
 have hj:((List.range n).map λj=>D.gg (P j))[i.toNat]? = some (.gg (P i.toNat)):=by rw[ar,bE (by omega)];rfl
 obtain⟨p,w⟩:∃p,P i.toNat=p:=⟨_,rfl⟩;obtain⟨q,AM⟩:∃q,Q i.toNat=q:=⟨_,rfl⟩;rw[w]at k hj;rw[AM]at k;have gX:=(ae.1 k).1;have c:∀G,(H++G)[p]? = some (.map KS (iC q 0 (gH cm i))):=λG=>by rw[ah gX,k]
 refine Yg HL ?_;simp[HL,E,B,N,w,k,i0,I];(with_reducible repeat' first|refine Xk ?_<;>try simp[E,B,N,w,k,i0,I]|refine Xs ?_ ?_<;>intro h<;>(try intro L)<;>(try simp[h,E,B,N,w,k,i0,I])<;>try omega|refine Xg ?_|omega);refine fO.e (([.jb (.gg p) (gH cm i).length []],[]):U×List Nat) (λy=>[(5,.i (vX (uV (gH cm i) y.2))),(14,.ptr H.length 0 0)]) (λy=>H++y.1) (λy=>y.1[0]? = some (.jb (.gg p) (gH cm i).length y.2)/\y.2.Nodup/\∀t∈y.2,t<(gH cm i).length) (λy=>(gH cm i).length-y.2.length) ?_ ?_
 .exact⟨rfl,.nil,λ_ h=>by cases h⟩
 rintro⟨G,seen⟩ ⟨K,W,O⟩;dsimp only at K W O ⊢;have Pc:=(ae.1 K).1;simp;refine tZ.at (m:=p) (since:=(gH cm i).length) (seen:=seen) (kk:=KS) (es:=iC q 0 (gH cm i)) (by simp[K]) (by simp[c]) (by simp) (λF=>?_) λt kv dv J hi=>?_
 .have F:∀t,t<(gH cm i).length->t∈seen:=by simpa using F
  have Z:=aeo F O
  have w9:vX (uV (gH cm i) seen)=lL (sd cm i):=by
   rw[aeO λr hr a=>?_]
   .exact aeQ Z
   .have:=nU r ((Z r).1 hr);unfold kM at this;simp only[decide_eq_true_eq]at this;rcases this with rfl|h
    .exact absurd rfl a
    .exact h.2
  simp;refine fD ?_;simp[y4 fG,w9]
 .rw[wP]at J;obtain⟨x,u,kf⟩:=aj.1 J;cases kf;have A:=MN W O (ae.1 u).1 hi;have f:(iC q 0 (gH cm i))[t]? = some (kX x.1,oI (q t) x.2):=by rw[wP,u];simp
  have C:=aep (seen:=seen) u;obtain⟨ks,AE⟩:∃ks,uV (gH cm i) seen=ks:=⟨_,rfl⟩;rw[AE]at C ⊢;obtain⟨m,Y⟩:∃m,vX ks=m:=⟨_,rfl⟩;have V:vX (uV (gH cm i) (seen ++ [t]))=uX m x.1:=by rw[C,aeP,Y]
  obtain⟨o,S⟩:∃o,G.set 0 (.jb (.gg p) (gH cm i).length (seen ++ [t]))=o:=⟨_,rfl⟩;have b:o[0]? = some (.jb (.gg p) (gH cm i).length (seen ++ [t])):=by rw[<-S,aY Pc]
  have e:(H++G).set H.length (.jb (.gg p) (gH cm i).length (seen ++ [t]))=H++o:=by rw[SG,S]
  have Lz:=(ae.1 b).1;have Ax:∀(R:U),(o++R)[0]? = some (.jb (.gg p) (gH cm i).length (seen ++ [t])):=λR=>by rw[ah Lz];exact b
  have vI:(gH cm i).length-(seen ++ [t]).length<(gH cm i).length-seen.length:=by have:=A.2.2;rw[au,cz]at this ⊢;omega
  have z:∀ {R:U} {v:Int},v=uX m x.1->LJ (λy:U×List Nat=>[(5,.i (vX (uV (gH cm i) y.2))),(14,.ptr H.length 0 0)]) (λy=>H++y.1) [] false (λs=>(gH cm i).length-s.2.length<(gH cm i).length-seen.length/\s.1[0]? = some (.jb (.gg p) (gH cm i).length s.2)/\s.2.Nodup/\∀t∈s.2,t<(gH cm i).length) .mk [(5,.i v),(14,.ptr H.length 0 0)] (H++(o++R)) [] false:=λ{R v} hv=>by subst hv;exact LJ.i (o++R,seen ++ [t]) (by simp[V]) rfl rfl rfl ⟨vI,Ax _,A.1,A.2.1⟩
  rw[e,Y];obtain⟨⟨r1,r2⟩,ls⟩:=x;dsimp only at *;clear S e C V AE J u
  by_cases a:r1=2
  .subst a;simp[c,f,b];refine pe c f b ?_;refine z ?_;simp[uX]
  .by_cases g:m<0
   .simp[c,f,b,a,g];(with_reducible repeat' first|refine Xk ?_<;>try simp[c,f,b,a,g]|refine Xs ?_ ?_<;>intro h<;>(try intro L)<;>(try simp[h,c,f,b,a,g])<;>try omega|refine Xg ?_|omega);refine z ?_;simp[uX,a,g]
   .by_cases l:r2<m
    .simp[c,f,b,a,g,l];(with_reducible repeat' first|refine Xk ?_<;>try simp[c,f,b,a,g,l]|refine Xs ?_ ?_<;>intro h<;>(try intro L)<;>(try simp[h,c,f,b,a,g,l])<;>try omega|refine Xg ?_|omega);refine z ?_;simp[uX,a,l]
    .simp[c,f,b,a,g,l];(with_reducible repeat' first|refine Xk ?_<;>try simp[c,f,b,a,g,l]|refine Xs ?_ ?_<;>intro h<;>(try intro L)<;>(try simp[h,c,f,b,a,g,l])<;>try omega|refine Xg ?_|omega);refine z ?_;simp[uX,a,g,l]
end Go.Proofs.YtmehofoficaelaaGreatDoor
namespace Go.Proofs.YtmehofoficaelaaGreatDoor
open Go Go.AL Classical
theorem Wm(a b:Int):AL.keyOf (.agg [.i a,.i b])=some (kX (a,b)):=rfl
theorem U3(r:fE):KS.has (kX r)=true:=rfl
theorem aa7(Q:Nat->Nat){G:jK}{i t:Nat}{k:Value}{d:D}(h:(iC Q i G)[t]? = some (k,d)):(iC Q i G).set t (k,d)=iC Q i G:=by obtain⟨h1,a⟩:=ae.1 h;rw[<-a,dT]
theorem aeY{H:U}{v t:Nat}{q:Nat->Nat}{G:jK}{r:fE}{x:List Int}(c:H[v]? = some (.map KS (iC q 0 G)))(b:ng r G=some (t,x)) :
  xu KS .fJ (.gg v) (.agg [.i r.1,.i r.2]) H=some (.tup [oI (q t) x,.i t],.obj v (.map KS (iC q 0 G))):=by
 have h1:=Qr q r G 0 0;rw[b]at h1;simp only[aD,aM]at h1;have a:=Qu q r (oI (q t) x) G 0;rw[b]at a
 have d:(iC q 0 G)[t]? = some (kX r,oI (q t) x):=by rw[wP,(yw (k:=0) b).1];simp
 dsimp only at a;rw[aa7 q d]at a;unfold xu;rw[Wm];simp only[Qn,c,mapOf];rw[if_pos ⟨trivial,U3 _⟩,h1];dsimp only;rw[a]
theorem aeX{H:U}{v:Nat}{q:Nat->Nat}{G:jK}{r:fE}(c:H[v]? = some (.map KS (iC q 0 G)))(b:ng r G=none) :
  xu KS .fJ (.gg v) (.agg [.i r.1,.i r.2]) H=some (.tup [.fJ,.i G.length],.obj v (.map KS (iC q 0 G ++ [(kX r,.fJ)]))):=by
 have h1:=Qr q r G 0 0;rw[b]at h1;simp only[Option.map_none]at h1;have a:=Qu q r .fJ G 0;rw[b]at a;dsimp only at a;unfold xu;rw[Wm];simp only[Qn,c,mapOf];rw[if_pos ⟨trivial,U3 _⟩,h1];dsimp only;rw[a,zU]
theorem TG{H:U}{v t:Nat}{es:List (Value×D)}{k:Value}{d0 d:D}(a:H[v]? = some (.map KS es))(b:es[t]? = some (k,d0)) :
  zQ (.gg v) (.i t) d H=some (.any,.obj v (.map KS (es.set t (k,d)))):=by
 unfold zQ;simp only[Qn,a,mapOf,bU,b];rw[if_pos (by omega)]
theorem u7{n m:Nat}(h:n<=m){d:D}(a:mB n d=true):mB m d=true:=by cases d<;>first|exact a|(simp only[mB,decide_eq_true_eq]at a ⊢;omega)
theorem D6{n m:Nat}(h:n<=m){cs:List D}(b:cs.all (mB n)=true):cs.all (mB m)=true:=
 List.all_eq_true.2 λd a=>u7 h (List.all_eq_true.1 b d a)
theorem GM{n m:Nat}(h:n<=m){d:D}(c:kA n d=true):kA m d=true:=by
 cases d with
 | agg cs=>exact D6 h c
 | tup cs=>exact D6 h c
 | fV cs=>exact D6 h c
 | fn f a b=>
  simp only[kA,Bool.and_eq_true]at c ⊢;exact⟨D6 h c.1,D6 h c.2⟩
 | any=>exact u7 (n:=n) (d:=.any) h c
 | val v=>exact u7 (n:=n) (d:=.val v) h c
 | sl sz es=>exact u7 (n:=n) (d:=.sl sz es) h c
 | fy v g sz off len=>exact u7 (n:=n) (d:=.fy v g sz off len) h c
 | fJ=>exact u7 (n:=n) (d:=.fJ) h c
 | ptr v g off=>exact u7 (n:=n) (d:=.ptr v g off) h c
 | gg v=>exact u7 (n:=n) (d:=.gg v) h c
 | iH v=>exact u7 (n:=n) (d:=.iH v) h c
 | lD vs=>exact u7 (n:=n) (d:=.lD vs) h c
theorem Xb{n m:Nat}(h:n<=m){o:Ob}(a:n9 n o=true):n9 m o=true:=by
 cases o with
 | row t g cs=>exact List.all_eq_true.2 λd b=>GM h (List.all_eq_true.1 a d b)
 | map kk es=>exact List.all_eq_true.2 λd b=>GM h (List.all_eq_true.1 a d b)
 | gV rf env st=>exact List.all_eq_true.2 λd b=>GM h (List.all_eq_true.1 a d b)
 | rF=>rfl
 | jb m since seen=>exact u7 h a
 | kD=>rfl
 | dead=>rfl
 | lu=>cases a
theorem Gf{n m:Nat}{H:U}(h:n<=m)(b:jO n H):jO m H:=λo a=>Xb h (b o a)
theorem za{n:Nat}{H G:U}(h:jO n H)(b:jO n G):jO n (H++G):=λo a=>by
 rcases List.mem_append.1 a with a|a
 .exact h o a
 .exact b o a
end Go.Proofs.YtmehofoficaelaaGreatDoor
namespace Go.Proofs.YtmehofoficaelaaGreatDoor
open Go Go.AL Classical
def oset(ow:Nat->Nat×Nat×Nat)(v:Nat)(a:Nat×Nat×Nat):Nat->Nat×Nat×Nat:=λw=>if w=v then a else ow w
theorem Xq(ow:Nat->Nat×Nat×Nat)(v:Nat)(a:Nat×Nat×Nat):oset ow v a v=a:=if_pos rfl
theorem Bb{ow:Nat->Nat×Nat×Nat}{v w:Nat}{a:Nat×Nat×Nat}(h:w≠v):oset ow v a w=ow w:=if_neg h
theorem mS{H:U}{v:Nat}{o:Ob}(h:H[v]? = some o):v<H.length:=(ae.1 h).1
theorem kT{H G:U}{v:Nat}{o:Ob}(h:H[v]? = some o):(H++G)[v]? = some o:=by rw[ah (mS h)];exact h
theorem mh.own{H:U}{ck sr n:Nat}{M:Nat->jK}{ow:Nat->Nat×Nat×Nat}{P:Nat->Nat}{Q:Nat->Nat->Nat}(h:mh H ck sr n M ow P Q){v:Nat}(g:H.length<=v)(f:ck<v)(a:Nat×Nat×Nat):mh H ck sr n M (oset ow v a) P Q:=by
 have ne:∀ {w o},H[w]? = some o->w≠v:=λe=>by have:=mS e;omega
 refine⟨?_,?_,h.row,λj b=>?_,λj b t x d=>?_⟩
 .rw[Bb (by omega)];exact h.fc
 .rw[Bb (ne h.row)];exact h.fs
 .obtain⟨h1,c⟩:=h.mp j b;exact⟨h1,by rw[Bb (ne h1)];exact c⟩
 .obtain⟨h1,c⟩:=h.ls j b t x d;exact⟨h1,by rw[Bb (ne h1)];exact c⟩
def Y7(Hc:U)(ow:Nat->Nat×Nat×Nat)(bad:List Int)(d:D):Prop:=
 (bad = []/\d = .fJ)\/(bad≠[]/\∃v g,d = .fy v g 1 0 bad.length/\Hc[v]? = some (.row 3 g (cl f1 bad))/\ow v=(4,0,0))
structure HI(H0 Hc:U)(ck sr n:Nat)(C:Ob)(M:Nat->jK)(bad:List Int)(d:D)(b:Option (Nat×Ob))(ow:Nat->Nat×Nat×Nat)(P:Nat->Nat)(Q:Nat->Nat->Nat):Prop where
 sg:mh Hc ck sr n M ow P Q
 ct:Hc[ck]? = some C
 ok:jO Hc.length Hc
 lt:ck<H0.length
 kp:∀v o,H0[v]? = some o->v≠ck->Hc[v]? = some o/\ow v=(5,0,0)
 bd:Y7 Hc ow bad d
 bx:∀p,b=some p->Hc[p.1]? = some p.2/\ow p.1=(6,0,0)
section
variable{H0 Hc:U}{ck sr n:Nat}{C:Ob}{M:Nat->jK}{bad:List Int}{d:D}{b:Option (Nat×Ob)}{ow:Nat->Nat×Nat×Nat}{P:Nat->Nat}{Q:Nat->Nat->Nat}
theorem HI.more(h:HI H0 Hc ck sr n C M bad d b ow P Q){o:Ob}(l:n9 (Hc.length+1) o=true)(a:Nat×Nat×Nat):HI H0 (Hc ++ [o]) ck sr n C M bad d b (oset ow Hc.length a) P Q:=by
 have ne:∀ {w o},Hc[w]? = some o->w≠Hc.length:=λj=>by have:=mS j;omega
 refine⟨(h.sg.own (Nat.le_refl _) (mS h.ct) a).mono λv o e _=>kT e,kT h.ct,?_,h.lt,λv o e m=>?_,?_,λp k=>?_⟩
 .rw[au,cz];refine za (Gf (by omega) h.ok) λx i=>?_;rw[List.mem_singleton.1 i];exact l
 .obtain⟨h1,c⟩:=h.kp v o e m;exact⟨kT h1,by rw[Bb (ne h1)];exact c⟩
 .rcases h.bd with h1|⟨h1,v,g,c,f,q⟩
  .exact .inl h1
  .exact .inr ⟨h1,v,g,c,kT f,by rw[Bb (ne f)];exact q⟩
 .obtain⟨h1,c⟩:=h.bx p k;exact⟨kT h1,by rw[Bb (ne h1)];exact c⟩
theorem HI.box(h:HI H0 Hc ck sr n C M bad d b ow P Q){o:Ob}(c:n9 (Hc.length+1) o=true):HI H0 (Hc ++ [o]) ck sr n C M bad d (some (Hc.length,o)) (oset ow Hc.length (6,0,0)) P Q:=by
 have h1:=h.more c (6,0,0)
 exact⟨h1.sg,h1.ct,h1.ok,h1.lt,h1.kp,h1.bd,λp a=>by
  cases a
  exact⟨by rw[ai (by omega),bS];rfl,Xq _ _ _⟩⟩
theorem HI.nob(h:HI H0 Hc ck sr n C M bad d b ow P Q):HI H0 Hc ck sr n C M bad d none ow P Q:=⟨h.sg,h.ct,h.ok,h.lt,h.kp,h.bd,λ_ a=>by cases a⟩
theorem HI.SI(h:HI H0 Hc ck sr n C M [] .fJ b ow P Q)(k:Int):∃a,HI H0 (Hc ++ [p5 [k]]) ck sr n C M [k] (.fy Hc.length 0 1 0 1) b a P Q:=by have h1:=h.more (o:=p5 [k]) (by unfold p5;exact Gh _) (4,0,0);exact⟨_,h1.sg,h1.ct,h1.ok,h1.lt,h1.kp,.inr ⟨by simp,_,_,rfl,by rw[ai (by omega),bS];rfl,Xq _ _ _⟩,h1.bx⟩
theorem HI.SJ{v g:Nat}{k:Int}(h:HI H0 Hc ck sr n C M bad (.fy v g 1 0 bad.length) b ow P Q)(r:bad≠[])(f:Hc[v]? = some (.row 3 g (cl f1 bad)))(l:ow v=(4,0,0)) :
  HI H0 (Hc.set v (.row 3 (g+1) (cl f1 (bad ++ [k])))) ck sr n C M (bad ++ [k]) (.fy v (g+1) 1 0 (bad.length+1)) b ow P Q:=by
 have hl:=mS f;have key:∀w o,Hc[w]? = some o->ow w≠(4,0,0)->(Hc.set v (.row 3 (g+1) (cl f1 (bad ++ [k]))))[w]? = some o:=λw o d q=>by grind
 refine⟨?_,key _ _ h.ct (by rw[h.sg.fc];simp),?_,h.lt,λw o d m=>?_,.inr ⟨by simp,v,g+1,by simp,by rw[aY hl],l⟩,λp i=>?_⟩
 .refine⟨h.sg.fc,h.sg.fs,key _ _ h.sg.row (by rw[h.sg.fs];simp),λj c=>?_,λj c t x e=>?_⟩
  .obtain⟨h1,a⟩:=h.sg.mp j c;exact⟨key _ _ h1 (by rw[a];simp),a⟩
  .obtain⟨h1,a⟩:=h.sg.ls j c t x e;exact⟨key _ _ h1 (by rw[a];simp),a⟩
 .rw[aF];exact A' h.ok (Gh _)
 .obtain⟨h1,a⟩:=h.kp w o d m;exact⟨key _ _ h1 (by rw[a];simp),a⟩
 .obtain⟨h1,a⟩:=h.bx p i;exact⟨key _ _ h1 (by rw[a];simp),a⟩
theorem HI.rest{f:U}{k:Nat->jK}{j:Nat->Nat×Nat×Nat}{Q':Nat->Nat->Nat}(h:HI H0 Hc ck sr n C M bad d b ow P Q)(hs:mh f ck sr n k j P Q')(fG:jO f.length f)
  (i:∀v o,Hc[v]? = some o->ow v=(0,0,0)\/ow v=(4,0,0)\/ow v=(5,0,0)\/ow v=(6,0,0)->f[v]? = some o/\j v=ow v):HI H0 f ck sr n C k bad d b j P Q':=by
 refine⟨hs,(i _ _ h.ct (.inl h.sg.fc)).1,fG,h.lt,λw o l q=>?_,?_,λp m=>?_⟩
 .obtain⟨h1,a⟩:=h.kp w o l q;obtain⟨e,c⟩:=i _ _ h1 (.inr (.inr (.inl a)));exact⟨e,c.trans a⟩
 .rcases h.bd with h1|⟨h1,v,g,a,e,c⟩
  .exact .inl h1
  .obtain⟨s,r⟩:=i _ _ e (.inr (.inl c));exact .inr ⟨h1,v,g,a,s,r.trans c⟩
 .obtain⟨h1,a⟩:=h.bx p m;obtain⟨e,c⟩:=i _ _ h1 (.inr (.inr (.inr a)));exact⟨e,c.trans a⟩
theorem HI.old(h:HI H0 Hc ck sr n C M bad d b ow P Q){j t:Nat}{r:fE}{x:List Int}{k:Int}(f:j<n)(i:ng r (M j)=some (t,x)) :
  HI H0 ((Hc.set (Q j t) (p5 (x ++ [k]))).set (P j) (.map KS ((iC (Q j) 0 (M j)).set t (kX r,oI (Q j t) (x ++ [k]))))) ck sr n C (vb M j (nf r k (M j))) bad d b ow P Q:=by
 obtain⟨q,_⟩:=yw (k:=k) i;obtain⟨m,g⟩:=h.sg.mp j f;obtain⟨q1,q2⟩:=h.sg.ls j f t _ q;have s:P j≠Q j t:=λe=>by rw[e,q2]at g;simp at g
 have key:∀v o,Hc[v]? = some o->v≠P j->v≠Q j t->((Hc.set (Q j t) (p5 (x ++ [k]))).set (P j) (.map KS ((iC (Q j) 0 (M j)).set t (kX r,oI (Q j t) (x ++ [k])))))[v]? = some o:=λv o a h1 l=>by grind
 refine h.rest (h.sg.old f i ?_ ?_ λv o a h1 l _=>key v o a h1 l) ?_ λv o a u=>⟨key v o a (λe=>?_) (λe=>?_),rfl⟩
 .grind
 .grind
 .rw[aF,aF];refine A' (A' h.ok (by unfold p5;exact Gh _)) ?_;have p:=h.ok _ (List.mem_of_getElem? m);refine List.all_eq_true.2 λy c=>?_;rcases dt c with c|rfl
  .exact List.all_eq_true.1 p y c
  .show decide (Q j t<Hc.length)=true;exact decide_eq_true (mS q1)
 .grind
 .grind
theorem HI.new(h:HI H0 Hc ck sr n C M bad d b ow P Q){j:Nat}{r:fE}{k:Int}(l:j<n)(p:ng r (M j)=none) :
  ∃c Q',HI H0 ((Hc.set (P j) (.map KS (iC (Q j) 0 (M j) ++ [(kX r,oI Hc.length [k])]))) ++ [p5 [k]]) ck sr n C (vb M j (nf r k (M j))) bad d b c P Q'/\∀w,w<Hc.length->c w=ow w:=by
 obtain⟨g,s⟩:=h.sg.mp j l;have key:∀v o,Hc[v]? = some o->v≠P j->((Hc.set (P j) (.map KS (iC (Q j) 0 (M j) ++ [(kX r,oI Hc.length [k])]))) ++ [p5 [k]])[v]? = some o:=λv o i h1=>by grind
 obtain⟨c,Q',hs,f⟩:=h.sg.new (H':=(Hc.set (P j) (.map KS (iC (Q j) 0 (M j) ++ [(kX r,oI Hc.length [k])]))) ++ [p5 [k]]) (v:=Hc.length) (k:=k) l p (mS h.ct) (Nat.le_refl _)
  (by rw[ah (by rw[aF];exact mS g),aY (mS g)]) (by rw[ai (by rw[aF];omega),aF,bS];rfl) λw o f h1 _=>key w o f h1
 refine⟨c,Q',h.rest hs ?_ λv o i t=>⟨key v o i λe=>?_,f v (by have:=mS i;omega)⟩,λw hl=>f w (by omega)⟩
 .rw[au,aF,cz];refine za (A' (Gf (by omega) h.ok) ?_) λx m=>?_
  .have q:=h.ok _ (List.mem_of_getElem? g);refine List.all_eq_true.2 λy a=>?_;rcases List.mem_append.1 a with a|a
   .exact GM (by omega) (List.all_eq_true.1 q y a)
   .rw[List.mem_singleton.1 a];show decide (Hc.length<Hc.length+1)=true;exact decide_eq_true (by omega)
  .rw[List.mem_singleton.1 m];unfold p5;exact Gh _
 .grind
end
def oM(b n k:Nat):List D:=(List.range n).map λj=>if j<k then D.gg (b+(j+1))else .val (.map none)
theorem akA(b n:Nat):oM b n 0=List.replicate n (.val (.map none)):=by unfold oM;refine bQ (by simp) λi h1 a=>by simp
theorem Yb(b n k:Nat):(oM b n k).length=n:=by simp[oM]
theorem akB(b n:Nat):oM b n n=(List.range n).map λj=>D.gg (b+(j+1)):=by unfold oM;refine ak λj a=>?_;rw[a8]at a;rw[if_pos a]
theorem akC{b n k:Nat}(h:k<n):(oM b n k).take k ++ .gg (b+(k+1))::(oM b n k).drop (k+1)=oM b n (k+1):=by
 refine bN λi=>?_;have hl:((oM b n k).take k).length=k:=by rw[aJ,Yb];omega
 by_cases h1:i<k
 .rw[ah (by omega),List.getElem?_take_of_lt h1];unfold oM;rw[ar,ar,bE (by omega)];simp only[aD];rw[if_pos h1,if_pos (by omega)]
 .rw[ai (by omega),hl]
  by_cases a:i=k
  .subst a;rw[bS,e7];unfold oM;rw[ar,bE h];simp only[aD];rw[if_pos (by omega)]
  .rw[show i-k=(i-k-1)+1 by omega,cW,aH,show k+1+(i-k-1)=i by omega];unfold oM;rw[ar,ar]
   by_cases c:i<n
   .grind
   .grind
theorem HI.start{H:U}{ck n:Nat}{o C:Ob}(fG:jO H.length H)(f:H[ck]? = some o)(h:n9 (H.length+1) C=true) :
  ∃ow P Q,HI H (H.set ck C++(.row 170 0 (oM H.length n n)::List.replicate n (.map KS []))) ck H.length n C (λ_=>[]) [] .fJ none ow P Q:=by
 have hl:=mS f;have e:∀j,j<n->(H.set ck C++(.row 170 0 (oM H.length n n)::List.replicate n (.map KS [])))[H.length+(j+1)]? = some (.map KS []):=λj a=>by grind
 refine⟨λv=>if v=ck then(0,0,0)else if v<H.length then(5,0,0)else if v=H.length then(1,0,0)else(2,v-H.length-1,0),λj=>H.length+(j+1),λ_ _=>0,⟨?_,?_,?_,λj a=>?_,λj a t x b=>?_⟩,?_,?_,hl,λv x i k=>⟨?_,?_⟩,.inl ⟨rfl,rfl⟩,λp g=>by cases g⟩
 .grind
 .grind
 .rw[ai (by rw[aF];omega),aF,bS,e7,akB]
 .refine⟨e j a,?_⟩;rw[if_neg (by omega),if_neg (by omega),if_neg (by omega)];congr 2;omega
 .cases b
 .grind
 .rw[au,aF,aG,dY];refine za (A' (Gf (by omega) fG) (Xb (by omega) h)) λx b=>?_;rcases aw.1 b with rfl|b
  .refine List.all_eq_true.2 λd c=>?_;unfold oM at c;obtain⟨j,a,rfl⟩:=aq.1 c;rw[a8]at a;rw[if_pos a];exact decide_eq_true (by omega)
  .simp_all
 .grind
 .grind
end Go.Proofs.YtmehofoficaelaaGreatDoor
namespace Go.Proofs.YtmehofoficaelaaGreatDoor
open Go Go.AL Classical
set_option maxRecDepth 10000
set_option maxHeartbeats 16000000
theorem aec{p:gp->Bool}{L:List Cw}{k:Int}(k0:0<=k)(a:k<L.length):jI p (cs L) (k+1).toNat=if p (gt L k).c=true then jI p (cs L) k.toNat ++ [k]else jI p (cs L) k.toNat:=by
 have b:gt (cs L) k=(gt L k).c:=by unfold cs;rw[jc k0 (by rw[List.length_map];exact a),jc k0 a,List.getElem_map]
 rw[show(k+1).toNat=k.toNat+1 by omega,jI,show((k.toNat:Nat):Int)=k by omega,b]
theorem aaE(L:List Cw):(cs L).length=L.length:=by simp[cs]
theorem SH{cl:List gp}{n:Nat}(h:0<=kl cl n):kl cl n<n/\lk (sd cl (kl cl n))=true:=by
 rcases BV cl n with⟨h1,_⟩|⟨h1,a,_⟩
 .omega
 .exact⟨h1.2,a⟩
