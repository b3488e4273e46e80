/- Part 39 of DisputeTruth. -/
import Derived.Test.YtmehofoficaelaaGreatDoorV37
import Derived.Test.YtmehofoficaelaaGreatDoorV38
import Derived.Test.YtmehofoficaelaaGreatDoorV26
set_option linter.all false
namespace Go.Proofs.YtmehofoficaelaaGreatDoor
open Go Go.AL Classical
set_option maxRecDepth 10000
set_option maxHeartbeats 8000000
section
variable{H G R:U}{k j:Nat}{o o':Ob}
@[simp] theorem UA:(H++G).set H.length o=H++G.set 0 o:=by rw[dw _ _ (by omega),bV]
end
section
variable{id n:Nat}{live keys:List Nat}{K:iQ}{s:St}{J:Env->U->List Nat->Bool->Prop}
@[simp ↓ high] theorem ara:xt id n (9999::live) K (.norm s)=K (.norm { s with env:=forget (9999::live) s.env }):=by rw[UH,Pw]
@[simp ↓ high] theorem ard:xt id n (9999::live) K (.exit id s)=K (.norm { s with env:=forget (9999::live) s.env }):=by rw[UI,Pw]
@[simp ↓ high] theorem avj:vJ n (9999::live) keys J K (.norm s)=J (forget keys (forget (9999::live) s.env)) s.H s.marks s.iq:=by rw[YU,Pw]
end
@[simp] theorem auy(r:fO):se (lj r) = .agg [.i r.1,.i r.2]:=rfl
theorem agA{n:Nat}{H G:U}{v g:Nat}{x:List Int}(k:H.length=n)(d:jl n H)(b:G[v]? = some (.row 3 g (cl f1 x)))(f:x≠[]) :
  leave 0 n (H++G) (.fM (n+v) g 1 0 x.length)=(dN 1 f1 x,H):=by
 have m:=(ae.1 b).1
 have l:(((H++G).take n).map (oG n)).flatten = []:=flatten_nil λo c=>by rw[aU (by omega),af (by omega)]at c;exact SC (d o c)
 have e:iB (iV n []) (n+v)=none:=by
  unfold iB iV;rw[List.map_nil,az,dC];intro p j;obtain⟨u,h,rfl⟩:=ao.1 j;rw[bj]at h;have:u≠n+v:=by omega
  simpa using this
 have i:AL.rowAt (H++G) (n+v) g=some (3,cl f1 x):=by unfold AL.rowAt;rw[ai (by omega),show n+v-H.length=v by omega,b];simp
 unfold leave;rw[if_neg (by rw[aj];omega)];simp only;rw[l];show(gd (iB (iV n [])) (H++G) 40 _,qq (iV n []) (H++G))=_;rw[Ig k d,AL.Th,e,aaz,i,u6 rfl];refine cO ?_ rfl
 cases x with
 | nil=>exact absurd rfl f
 | cons a r=>rfl
theorem aee:Wf T 126 [.val (.int .u64 0)] [] (Is (.i 0)):=oL (k:=40) (by kernel_rfl)
theorem aej{H:U}:Wf T 189 [.fX,.i 0,.i 0] H (λd H'=>d = .tup []/\H'=H):=by refine Yg KA ?_;simp[KA];refine fZ.un ?_;refine kH.u ?_;simp
theorem aek{H:U}:Wf T 125 [.fX,.i 0,.i 0,.i 0] H (λd H'=>d = .tup []/\H'=H):=by refine Yg Kl ?_;simp[Kl];refine fZ.un ?_;refine kH.u ?_;simp;refine gj.kU rfl rfl aej ?_;rintro _ H' ⟨rfl,rfl⟩;simp
theorem V3{H:U}:Wf T 67 [.fX] H (λd H'=>d = .tup []/\H'=H):=by refine Yg J5 ?_;simp[J5];refine Yc (aee) ?_;simp;refine gj.kU rfl rfl aek ?_;rintro _ H' ⟨rfl,rfl⟩;simp
def abl(n:Nat)(G:U)(out:List Int)(d:D):Prop:=(out = []/\d = .fX)\/(out≠[]/\∃v g,d = .fM (n+(v+1)) g 1 0 out.length/\G[v+1]? = some (.row 3 g (cl f1 out)))
theorem zQ{H G:U}{d:D}(fV:jl H.length H)(a:jm H.length d=true):leave 0 H.length (H++G) d=(d,H):=agz rfl fV a
attribute [-simp] s7
theorem PT{H:U}{ck sr n:Nat}{M:Nat->jY}{ow:Nat->Nat×Nat×Nat}{P:Nat->Nat}{Q:Nat->Nat->Nat}{cells:List D}(W:l8 H ck sr n M ow P Q)(fV:jl H.length H)(I:H[ck]? = some (.row 168 0 cells))(S:cells[12]? = some (.fM sr 0 1 0 n))
  {cm:List gA} (h8:cm.length<=100000) {i:Int} (i0:0<=i) (i1:i<n) (hM:M i.toNat=gF cm i) {w:fO->Bool} {PY:FuncId} {cap:List D}
  (hw:∀(r:fO) (dst:Option Nat) (s:St) (K:St->Prop),(∀(v:Nat) (o:Ob),H[v]? = some o->s.H[v]? = some o)->K { s with env:=put s.env dst (.b (w r)) }->gj T PY (.agg [.i r.1,.i r.2]::cap) dst s K .mk) :
  Wf T 119 [.ptr ck 0 0,.i i,.fn (.func PY) [] cap] H (λd H'=>d=dN 1 f1 (jX (λc=>jC c i&&w (ky c i)) cm cm.length)/\H'=H):=by
 obtain⟨u,_⟩:=W.mp i.toNat (by omega);have X:=W.ls i.toNat (by omega);have gP:=W.row;rw[hM]at u X
 have hj:((List.range n).map λj=>D.gx (P j))[i.toNat]? = some (.gx (P i.toNat)):=by rw[av,bJ (by omega)];rfl
 obtain⟨p,J⟩:∃p,P i.toNat=p:=⟨_,rfl⟩;obtain⟨q,xY⟩:∃q,Q i.toNat=q:=⟨_,rfl⟩;rw[J]at u hj;rw[xY]at u X;have gy:i<(n:Int):=i1;have rW:=(ae.1 I).1;have iz:=(ae.1 u).1;have O:∀G,(H++G)[p]? = some (.map KS (iM q 0 (gF cm i))):=λG=>by rw[ah iz,u]
 refine Yg Je ?_;simp[Je,I,S,gP,J,u,i0,gy];(with_reducible repeat' first|refine Xk ?_<;>try simp[I,S,gP,J,u,i0,gy]|refine Xs ?_ ?_<;>intro h<;>(try intro h')<;>(try simp[h,I,S,gP,J,u,i0,gy])<;>try omega|refine Xg ?_|omega);refine fZ.e (([.iX (.gx p) (gF cm i).length []],[],[],.fX):U×List Nat×List Int×D) (λy=>[(2,.fn (.func PY) [] cap),(7,y.2.2.2),(17,.ptr H.length 0 0)]) (λy=>H++y.1) (λy=>y.1[0]? = some (.iX (.gx p) (gF cm i).length y.2.1)/\sY cm i w y.2.1 y.2.2.1/\abl H.length y.1 y.2.2.1 y.2.2.2) (λy=>(gF cm i).length-y.2.1.length) ?_ ?_
 .exact⟨rfl,sY.start,.inl ⟨rfl,rfl⟩⟩
 rintro⟨G,seen,out,d⟩ ⟨Z,hS,N⟩;dsimp only at Z hS N ⊢;have DA:=(ae.1 Z).1;have DI:=hS.len;simp;refine tX.at (m:=p) (since:=(gF cm i).length) (seen:=seen) (kk:=KS) (es:=iM q 0 (gF cm i)) (by simp[Z]) (by simp[O]) (by simp) (λV=>?_) λt kv dv he hi=>?_
 .have V:∀t,t<(gF cm i).length->t∈seen:=by simpa using V
  have Dv:=hS.done V;simp;refine fQ ?_;rcases N with⟨rfl,rfl⟩|⟨L,v,g,rfl,f⟩
  .refine gj.kU rfl rfl V3 ?_;rintro _ H' ⟨rfl,rfl⟩;have:jX (λc=>jC c i&&w (ky c i)) cm cm.length = []:=by rw[<-Dv];simp
   rw[this];simp[zQ fV,dN]
  .refine gj.kU rfl rfl (f160 (l:=out) (t:=3) (K:=λd H'=>d = .tup []/\H'=H++G.set (v+1) (.row 3 g (cl f1 (jX (λc=>jC c i&&w (ky c i)) cm cm.length)))) (ax.2 L) (by omega) (by simp[f]) ⟨rfl,by simp[Dv]⟩) ?_;rintro _ H' ⟨rfl,rfl⟩;have F:(jX (λc=>jC c i&&w (ky c i)) cm cm.length).length=out.length:=by rw[<-Dv,eu]
   have o4:=agA (G:=G.set (v+1) (.row 3 g (cl f1 (jX (λc=>jC c i&&w (ky c i)) cm cm.length)))) (v:=v+1) (g:=g) rfl fV (by rw[aL (ae.1 f).1]) (λe=>L (ay.1 (by rw[<-F,e];rfl)));rw[F]at o4;simp[o4]
 .rw[u4]at he;obtain⟨x,B,kE⟩:=ak.1 he;cases kE;rw[aQ]at *;obtain⟨XP,_⟩:=X t x B;have gU:=(MK B).2;have z:=hS.step B hi;have o7:=Ib hS.nd hS.lt (ae.1 B).1 hi;have DN:=(ae.1 XP).1;have A:∀G,(H++G)[q t]? = some (.row 3 (x.2.length-1) (cl f1 x.2)):=λG=>by rw[ah DN,XP];rfl
  have js:(iM q 0 (gF cm i))[t]? = some (lj x.1,oI (q t) x.2):=by rw[u4,B];simp
  obtain⟨a,A3⟩:∃a,G.set 0 (.iX (.gx p) (gF cm i).length (seen ++ [t]))=a:=⟨_,rfl⟩;have E:a[0]? = some (.iX (.gx p) (gF cm i).length (seen ++ [t])):=by rw[<-A3,aL DA]
  have Qr:∀(v:Nat) (o:Ob),G[v+1]? = some o->a[v+1]? = some o:=λv o f=>by rw[<-A3,aB (by omega)];exact f
  have e:(H++G).set H.length (.iX (.gx p) (gF cm i).length (seen ++ [t]))=H++a:=by rw[UA,A3]
  have M6:=(ae.1 E).1;rw[e];obtain⟨b,hb⟩:∃b,w x.1=b:=⟨_,rfl⟩;rw[hb]at z
  have sc:x.2.length<=cm.length:=by rw[(MK B).1];exact zV _ _ ((D3 _ _ _).imp λh e=>by omega) λk hk=>(zO.1 hk).1
  simp[O,js,E];refine qJ O js E ?_;refine hw x.1 _ _ _ (λv o f=>?_) ?_
  .have C:=(ae.1 f).1;simp[ah C,f]
  rw[hb]
  have Y:(gF cm i).length-(seen ++ [t]).length<(gF cm i).length-seen.length:=by have:=o7.2.2;rw[aj,aV]at this ⊢;omega
  have Bk:∀(R:U),(a++R)[0]? = some (.iX (.gx p) (gF cm i).length (seen ++ [t])):=λR=>by rw[ah M6];exact E
  cases b
  .rw[if_neg (by simp)]at z;simp;refine LJ.e (_,seen ++ [t],out,d) ?_;refine⟨Y,Bk _,z,?_⟩;rcases N with h|⟨h1,v,g,h2,h3⟩
   .exact .inl h
   .exact .inr ⟨h1,v,g,h2,by rw[ah (ae.1 (Qr _ _ h3)).1];exact Qr _ _ h3⟩
  .rw[if_pos rfl]at z;rcases N with⟨rfl,rfl⟩|⟨L,v,g,rfl,f⟩
   .simp[A,oI];(with_reducible repeat' first|refine Xk ?_<;>try simp[A,oI]|refine Xs ?_ ?_<;>intro h<;>(try intro h')<;>(try simp[h,A,oI])<;>try omega|refine Xg ?_|omega);rw[bp]at z;refine⟨λe=>absurd e gU,λ_=>(pI ?_)⟩;refine LJ.i (_,seen ++ [t],x.2,_) rfl rfl rfl rfl ?_;refine⟨Y,Bk _,z,.inr ⟨gU,a.length,0,rfl,?_⟩⟩;rw[abB];rfl
   .have X6:=Qr _ _ f;have C:=(ae.1 X6).1;have RH:∀R:U,(a++R)[v+1]? = some (.row 3 g (cl f1 out)):=λR=>by rw[ah C];exact X6
    have BC:∀(R:U) (o:Ob),(a++R).set (v+1) o=a.set (v+1) o++R:=λR o=>aO _ _ C;simp[A,oI,RH,BC];(with_reducible repeat' first|refine Xk ?_<;>try simp[A,oI,RH,BC]|refine Xs ?_ ?_<;>intro h<;>(try intro h')<;>(try simp[h,A,oI,RH,BC])<;>try omega|refine Xg ?_|omega);refine LJ.i (_,seen ++ [t],out++x.2,.fM (H.length+(v+1)) (g+1) 1 0 (out.length+x.2.length)) (by simp) rfl rfl rfl ?_;refine⟨Y,?_,z,.inr ⟨by simp[L],v,g+1,by simp,?_⟩⟩
    .dsimp only;rw[ah (by rw[ar];exact M6),aB (by omega)];exact E
    .dsimp only;rw[ah (by rw[ar];exact C),aL C]
end Go.Proofs.YtmehofoficaelaaGreatDoor
namespace Go.Proofs.YtmehofoficaelaaGreatDoor
open Go Go.AL Classical
theorem agM{A:l6}{v:List fO}{i:Int}(h0:∀k∈gt A.nx i,0<=(gt v k).2)(n:A.ov i=false):kn A v i↔gt v i=nu ((gt A.nx i).map λk=>gt v k):=by
 have c:∀o p:Int,(o,p)∈((gt A.nx i).map λk=>gt v k)↔∃k∈gt A.nx i,gt v k=(o,p):=λo p=>by rw[ao]
 have l:(∀r∈(gt A.nx i).map (λk=>gt v k),r.1=1)↔∀k∈gt A.nx i,(gt v k).1=1:=by simp
 have s:((gt A.nx i).map λk=>gt v k)≠[]↔gt A.nx i≠[]:=by simp
 unfold nu kn
 by_cases j:jq ((gt A.nx i).map λk=>gt v k) 3 = []
 .have y:∀k∈gt A.nx i,(gt v k).1≠3:=λk a e=>by have:(gt v k).2∈jq ((gt A.nx i).map λk=>gt v k) 3:=sR.2 ((c _ _).2 ⟨k,a,cO e rfl⟩);rw[j]at this;cases this
  rw[if_neg (λh=>h j)]
  by_cases b:gt A.nx i≠[]/\∀k∈gt A.nx i,(gt v k).1=1
  .rw[if_pos ⟨s.2 b.1,D8.2 (l.2 b.2)⟩]
   have t:jq ((gt A.nx i).map λk=>gt v k) 1≠[]:=λe=>by obtain⟨k,a⟩:=cI _ b.1;have:(gt v k).2∈jq ((gt A.nx i).map λk=>gt v k) 1:=sR.2 ((c _ _).2 ⟨k,a,cO (b.2 k a) rfl⟩);rw[e]at this;cases this
   obtain⟨q,d,f⟩:=(c _ _).1 (sR.1 (NM t));have u:∀k∈gt A.nx i,(gt v k).2<=yi (jq ((gt A.nx i).map λk=>gt v k) 1):=λk a=>NF (sR.2 ((c _ _).2 ⟨k,a,cO (b.2 k a) rfl⟩));have g:=h0 q d;rw[f]at g;generalize yi (jq ((gt A.nx i).map λk=>gt v k) 1)=m at *;constructor
   .grind
   .intro e;exact .inr ⟨n,.inr (.inl ⟨m+1,by dsimp only at g;omega,e,λk a=>⟨b.2 k a,by have:=u k a;omega⟩,q,d,by rw[f];dsimp only;omega⟩)⟩
  .rw[if_neg (λh=>b ⟨s.1 h.1,l.1 (D8.1 h.2)⟩)];constructor
   .grind
   .grind
 .rw[if_pos j];obtain⟨q,d,f⟩:=(c _ _).1 (sR.1 (zT j));have x:∀k∈gt A.nx i,(gt v k).1=3->sT (jq ((gt A.nx i).map λk=>gt v k) 3)<=(gt v k).2:=λk a e=>BN (sR.2 ((c _ _).2 ⟨k,a,cO e rfl⟩));have g:=h0 q d;rw[f]at g;generalize sT (jq ((gt A.nx i).map λk=>gt v k) 3)=m at *;constructor
  .grind
  .intro e;exact .inr ⟨n,.inl ⟨m+1,by dsimp only at g;omega,e,⟨q,d,by rw[f];congr 1;omega⟩,λk a w=>by have:=x k a w;omega⟩⟩
theorem agN{A:l6}{v:List fO}{i:Int}(a:A.ov i=true):kn A v i↔gt v i=(A.rs i,0):=by
 constructor
 .rintro(⟨_,e⟩|⟨e,_⟩)
  .exact e
  .grind
 .exact λe=>.inl ⟨a,e⟩
end Go.Proofs.YtmehofoficaelaaGreatDoor
namespace Go.Proofs.YtmehofoficaelaaGreatDoor
open Go Go.AL Classical
set_option maxRecDepth 10000
set_option maxHeartbeats 8000000
section
variable{nx:List (List Int)}
end
attribute [-simp] s7 UH YU UI
end Go.Proofs.YtmehofoficaelaaGreatDoor
namespace Go.Proofs.YtmehofoficaelaaGreatDoor
open Go Go.AL Classical
theorem aa6{v:List fO}{b:List Bool}{x:List Int}:∀n:Nat,n<=x.length->(∀j:Nat,j<n->gt b (gt x (j:Int))=false/\(gt v (gt x (j:Int))).1=1)->(lF v b x n).1=n
 | 0,_,_=>rfl
 | n+1,hn,h=>by rw[lF,if_pos (h n (by omega))];have:=aa6 (v:=v) (b:=b) (x:=x) n (by omega) λj a=>h j (by omega);dsimp only;omega
theorem TB{v:List fO}{b:List Bool}{x:List Int}:∀n:Nat,(lF v b x n).1=n->∀j:Nat,j<n->gt b (gt x (j:Int))=false/\(gt v (gt x (j:Int))).1=1
 | 0,_,j,hj=>by omega
 | n+1,h,j,hj=>by
  have gy:=OS v b x n;rw[lF]at h;split at h
  .rename_i a;dsimp only at h
   by_cases e:j=n
   .subst e;exact a
   .exact TB (v:=v) (b:=b) (x:=x) n (by omega) j (by omega)
  .omega
theorem OT{v:List fO}{b:List Bool}{x:List Int}:∀n:Nat,(lF v b x n).1=n->∀j:Nat,j<n->(gt v (gt x (j:Int))).2<=(lF v b x n).2
 | 0,_,j,hj=>by omega
 | n+1,h,j,hj=>by
  have gy:=OS v b x n;rw[lF]at h ⊢;split at h
  .rename_i a;rw[if_pos a];dsimp only at h ⊢
   by_cases e:j=n
   .subst e;omega
   .have:=OT (v:=v) (b:=b) (x:=x) n (by omega) j (by omega);omega
  .omega
theorem Su{x:List Int}{k:Int}:k∈x↔∃j:Nat,j<x.length/\gt x (j:Int)=k:=by
 rw[vL];constructor
 .rintro⟨n,n0,n1,e⟩;exact⟨n.toNat,by omega,by rw[show((n.toNat:Nat):Int)=n by omega];exact e⟩
 .rintro⟨j,a,e⟩;exact⟨j,by omega,by omega,e⟩
section
variable{g:fY}{l:List Pos}{nx:List (List Int)}{part:List Int}{bu:Int}
structure FI(g:fY)(l:List Pos)(nx:List (List Int))(part:List Int)(v0:List fO)(n:Int)(v:List fO)(b:List Bool):Prop where
 vl:v.length=l.length
 bl:b.length=l.length
 out:∀k:Int,0<=k->k<l.length->k ∉ part->gt b k=false/\gt v k=gt v0 k
 dec:∀i∈part,gt b i=false->(0<=(gt v i).2/\(gt v i).2<n)/\(((stat g (gt l i)).2=true/\gt v i=((stat g (gt l i)).1,0))\/((stat g (gt l i)).2=false/\(
  (∃m,1<=m/\gt v i=(1,m)/\(∃k∈gt nx i,gt b k=false/\gt v k=(3,m-1))/\∀k∈gt nx i,gt b k=false->(gt v k).1=3->m-1<=(gt v k).2) \/
  (∃m,1<=m/\gt v i=(3,m)/\(∀k∈gt nx i,gt b k=false/\(gt v k).1=1/\(gt v k).2<=m-1)/\∃k∈gt nx i,(gt v k).2=m-1))))
 BW:∀i∈part,gt b i=true->0<n->(stat g (gt l i)).2=false/\(∀k∈gt nx i,gt b k=false->(gt v k).1=3->n-1<=(gt v k).2) /\
  (gt nx i≠[]->(∀k∈gt nx i,gt b k=false/\(gt v k).1=1)->∃k∈gt nx i,n-1<=(gt v k).2)
theorem FI.step(o:xf g l nx part bu){v0:List fO}(h0:∀k:Int,0<=k->k<l.length->0<=(gt v0 k).2){n:Int}(n0:0<=n){v:List fO}{b:List Bool}(h:FI g l nx part v0 n v b):FI g l nx part v0 (n+1) (rV g l nx part v b n) (rB g l nx part v b n):=by
 have hV:=λ{k:Int} (k0:0<=k) (k1:k<l.length)=>WH o h.vl h.bl (n:=n) k0 k1;have I:=λ{k:Int} (k0:0<=k) (k1:k<l.length)=>Qf o (v:=v) h.bl (n:=n) k0 k1;have gy:∀i∈part,∀k∈gt nx i,0<=k/\k<l.length:=λi hi k d=>(o.Zo i (o.prt i hi).1 (o.prt i hi).2).1 k d
 have M:∀k,k∈rR g l nx part v b n↔k∈part/\(oU g (gt l k) v b (gt nx k) n).2=true/\gt b k=true:=λk=>by unfold rR SD;rw[aM,Bool.and_eq_true]
 have X:∀k,k∈rR g l nx part v b n->(Mm g l nx v b n k).2=n:=λk d=>by
  unfold Mm oU;split
  .rename_i e;rw[e]
  .split<;>rfl
 have f:∀k:Int,0<=k->k<l.length->gt b k=false->gt (rB g l nx part v b n) k=false/\gt (rV g l nx part v b n) k=gt v k:=λk k0 k1 e=>by
  have S:k ∉ rR g l nx part v b n:=λr=>by rw[((M k).1 r).2.2]at e;cases e
  rw[hV k0 k1,I k0 k1,if_neg S,if_neg S];exact⟨e,rfl⟩
 have G:∀k:Int,0<=k->k<l.length->gt (rB g l nx part v b n) k=false->(gt b k=false/\gt (rV g l nx part v b n) k=gt v k)\/(k∈rR g l nx part v b n/\(gt (rV g l nx part v b n) k).2=n):=λk k0 k1 e=>by
  by_cases r:k∈rR g l nx part v b n
  .right;rw[hV k0 k1,if_pos r];exact⟨r,X k r⟩
  .left;rw[I k0 k1,if_neg r]at e;rw[hV k0 k1,if_neg r];exact⟨e,rfl⟩
 have K:∀k:Int,0<=k->k<l.length->gt b k=false->0<=(gt v k).2:=λk k0 k1 e=>by
  by_cases R:k∈part
  .exact(h.dec k R e).1.1
  .rw[(h.out k k0 k1 R).2];exact h0 k k0 k1
 refine⟨amq o h.vl h.bl,amp o h.bl,λk k0 k1 d=>?_,λi hi e=>?_,λi hi e _=>?_⟩
 .obtain⟨a,c⟩:=h.out k k0 k1 d;obtain⟨a',c'⟩:=f k k0 k1 a;exact⟨a',c'.trans c⟩
 .obtain⟨i0,E⟩:=o.prt i hi;rcases G i i0 E e with⟨O,e2⟩|⟨r,a4⟩
  .obtain⟨L,H⟩:=h.dec i hi O;rw[e2];refine⟨⟨L.1,by omega⟩,?_⟩;rcases H with⟨J,c2⟩|⟨J,⟨m,m1,c2,⟨k,d,D,F⟩,c5⟩|⟨m,m1,c2,D,k,d,F⟩⟩
   .exact .inl ⟨J,c2⟩
   .refine .inr ⟨J,.inl ⟨m,m1,c2,⟨k,d,?_⟩,λq p A t=>?_⟩⟩
    .have:=f k (gy i hi k d).1 (gy i hi k d).2 D;exact⟨this.1,this.2.trans F⟩
    .rcases G q (gy i hi q p).1 (gy i hi q p).2 A with⟨y,b2⟩|⟨_,b2⟩
     .rw[b2]at t ⊢;exact c5 q p y t
     .rw[c2]at L;dsimp only at L;omega
   .refine .inr ⟨J,.inr ⟨m,m1,c2,λq p=>?_,k,d,?_⟩⟩
    .obtain⟨d1,d2,d3⟩:=D q p;have:=f q (gy i hi q p).1 (gy i hi q p).2 d1;rw[this.2];exact⟨this.1,d2,d3⟩
    .rw[(f k (gy i hi k d).1 (gy i hi k d).2 (D k d).1).2];exact F
  .obtain⟨_,s,N⟩:=(M i).1 r;refine⟨by omega,?_⟩;have Y:gt (rV g l nx part v b n) i=(oU g (gt l i) v b (gt nx i) n).1:=by rw[hV i0 E,if_pos r];rfl
   rw[Y]
   by_cases u:n=0
   .subst u;unfold oU at s ⊢;rw[if_pos rfl]at s ⊢;exact .inl ⟨s,rfl⟩
   .obtain⟨W,V,p3⟩:=h.BW i hi N (by omega);refine .inr ⟨W,?_⟩;unfold oU at s ⊢;rw[if_neg u]at s ⊢
    by_cases hl:BK v b (gt nx i) n
    .rw[if_pos hl];obtain⟨k,d,D,F⟩:=hl;refine .inl ⟨n,by omega,rfl,⟨k,d,?_⟩,λq p A t=>?_⟩
     .have:=f k (gy i hi k d).1 (gy i hi k d).2 D;exact⟨this.1,this.2.trans F⟩
     .rcases G q (gy i hi q p).1 (gy i hi q p).2 A with⟨y,b2⟩|⟨_,b2⟩
      .rw[b2]at t ⊢;exact V q p y t
      .omega
    .rw[if_neg hl]at s ⊢;simp only[decide_eq_true_eq]at s;obtain⟨w0,w1,w2⟩:=s;have H:=TB _ w1;have hg:=OT _ w1;refine .inr ⟨n,by omega,rfl,λq p=>?_,?_⟩
     .obtain⟨j,z,rfl⟩:=Su.1 p;have T:=f _ (gy i hi _ p).1 (gy i hi _ p).2 (H j z).1;have:=hg j z;rw[T.2];exact⟨T.1,(H j z).2,by omega⟩
     .rcases TC v b (gt nx i) (gt nx i).length (Nat.le_refl _)with O|⟨q,p,q1,q2,q3⟩
      .omega
      .refine⟨q,p,?_⟩;rw[(f q (gy i hi q p).1 (gy i hi q p).2 q1).2];omega
 .obtain⟨i0,E⟩:=o.prt i hi
  have Q:i ∉ rR g l nx part v b n:=λr=>by rw[I i0 E,if_pos r]at e;cases e
  rw[I i0 E,if_neg Q]at e
  have w:(oU g (gt l i) v b (gt nx i) n).2=false:=by
   by_cases B:(oU g (gt l i) v b (gt nx i) n).2=true
   .exact absurd ((M i).2 ⟨hi,B,e⟩) Q
   .simpa using B
  have Nf:(stat g (gt l i)).2=false:=by
   by_cases u:n=0
   .unfold oU at w;rw[if_pos u]at w;exact w
   .exact(h.BW i hi e (by omega)).1
  have P:n≠0->¬BK v b (gt nx i) n:=λu hl=>by unfold oU at w;rw[if_neg u,if_pos hl]at w;cases w
  refine⟨Nf,λk d A t=>?_,λU Z=>?_⟩
  .rcases G k (gy i hi k d).1 (gy i hi k d).2 A with⟨y,b2⟩|⟨_,b2⟩
   .rw[b2]at t ⊢
    by_cases u:n=0
    .have:=K k (gy i hi k d).1 (gy i hi k d).2 y;omega
    .have h1:=(h.BW i hi e (by omega)).2.1 k d y t;have s:(gt v k).2≠n-1:=λN=>P u ⟨k,d,y,cO t N⟩;omega
   .omega
  .by_cases B:∃k∈gt nx i,n<=(gt (rV g l nx part v b n) k).2
   .obtain⟨k,d,B⟩:=B;exact⟨k,d,by omega⟩
   .exfalso
    have C:∀k∈gt nx i,gt b k=false/\(gt v k).1=1/\(gt v k).2<n:=λk d=>by
     have h1:¬n<=(gt (rV g l nx part v b n) k).2:=λs=>B ⟨k,d,s⟩;obtain⟨A,t⟩:=Z k d;rcases G k (gy i hi k d).1 (gy i hi k d).2 A with⟨y,b2⟩|⟨_,b2⟩
     .rw[b2]at t h1;exact⟨y,t,by omega⟩
     .omega
    have kb:0<(gt nx i).length:=ax.2 U
    by_cases u:n=0
    .have d:=gq (l:=gt nx i) (n:=0) (by omega) (by omega);have h1:=C _ d;have s:=K _ (gy i hi _ d).1 (gy i hi _ d).2 h1.1;omega
    .obtain⟨k,d,h1⟩:=(h.BW i hi e (by omega)).2.2 U λk d=>⟨(C k d).1,(C k d).2.1⟩
     have w1:=aa6 (v:=v) (b:=b) (x:=gt nx i) _ (Nat.le_refl _) λj z=>by have:=C _ (Su.2 ⟨j,z,rfl⟩);exact⟨this.1,this.2.1⟩
     have w2:(lF v b (gt nx i) (gt nx i).length).2=n-1:=by
      obtain⟨j,z,rfl⟩:=Su.1 d;have g1:=OT _ w1 j z;rcases TC v b (gt nx i) (gt nx i).length (Nat.le_refl _)with O|⟨q,p,_,_,q3⟩
      .have:=K _ (gy i hi _ d).1 (gy i hi _ d).2 (C _ d).1;omega
      .have:=(C q p).2.2;omega
     unfold oU at w;rw[if_neg u,if_neg (P u)]at w;simp only[decide_eq_false_iff_not]at w;exact w ⟨by omega,w1,w2⟩
end
end Go.Proofs.YtmehofoficaelaaGreatDoor
namespace Go.Proofs.YtmehofoficaelaaGreatDoor
open Go Go.AL Classical
section
variable{g:fY}{l:List Pos}{nx:List (List Int)}{part:List Int}{bu:Int}
theorem aeA(o:xf g l nx part bu){v0 V:List fO}{B:List Bool}{n:Int}(n0:0<n)(j:FI g l nx part v0 n V B)
  (w:∀k:Int,0<=k->k<l.length->gt B k=false->(gt V k).1≠2->(gt V k).2<n-1):∀i∈part,kn (jM g l nx) (wC part V B).1 i:=by
 obtain⟨_,f2⟩:=V9 o j.vl j.bl;have gy:∀i∈part,∀k∈gt nx i,0<=k/\k<l.length:=λi hi k b=>(o.Zo i (o.prt i hi).1 (o.prt i hi).2).1 k b
 have b:∀k:Int,0<=k->k<l.length->gt B k=false->gt (wC part V B).1 k=gt V k:=λk k0 k1 e=>by rw[(f2 k k0 k1).1,if_neg λh=>by rw[e]at h;exact absurd h.2 (by simp)]
 have hs:∀k:Int,0<=k->k<l.length->(gt (wC part V B).1 k).1≠2->gt B k=false:=λk k0 k1 e=>by
  by_cases x:k∈part
  .by_cases z:gt B k=true
   .rw[(f2 k k0 k1).1,if_pos ⟨x,z⟩]at e;exact absurd rfl e
   .simpa using z
  .exact(j.out k k0 k1 x).1
 intro i hi;obtain⟨i0,p⟩:=o.prt i hi
 by_cases e:gt B i=true
 .obtain⟨D,C,A⟩:=j.BW i hi e n0;refine .inr ⟨D,.inr (.inr ⟨by rw[(f2 i i0 p).1,if_pos ⟨hi,e⟩],λk a d=>?_,λ⟨F,y⟩=>?_⟩)⟩
  .obtain⟨k0,k1⟩:=gy i hi k a;have c:=hs k k0 k1 (by omega);rw[b k k0 k1 c]at d;have h1:=C k a c d;have E:=w k k0 k1 c (by omega);omega
  .obtain⟨k,a,h1⟩:=A F λk a=>by obtain⟨k0,k1⟩:=gy i hi k a;have d:=y k a;have c:=hs k k0 k1 (by omega);rw[b k k0 k1 c]at d;exact⟨c,d⟩
   obtain⟨k0,k1⟩:=gy i hi k a;have d:=y k a;have c:=hs k k0 k1 (by omega);rw[b k k0 k1 c]at d;have E:=w k k0 k1 c (by omega);omega
 .have r:gt B i=false:=by simpa using e
  rcases(j.dec i hi r).2 with⟨t,c2⟩|⟨t,⟨m,v,c2,⟨k,a,s,u⟩,G⟩|⟨m,v,c2,s,k,a,u⟩⟩
  .exact .inl ⟨t,by rw[b i i0 p r];exact c2⟩
  .refine .inr ⟨t,.inl ⟨m,v,by rw[b i i0 p r];exact c2,⟨k,a,by rw[b k (gy i hi k a).1 (gy i hi k a).2 s];exact u⟩,λq f d=>?_⟩⟩;obtain⟨q0,q1⟩:=gy i hi q f;have c:=hs q q0 q1 (by omega);rw[b q q0 q1 c]at d ⊢;exact G q f c d
  .refine .inr ⟨t,.inr (.inl ⟨m,v,by rw[b i i0 p r];exact c2,λq f=>?_,k,a,?_⟩)⟩
   .obtain⟨d1,d2⟩:=s q f;rw[b q (gy i hi q f).1 (gy i hi q f).2 d1];exact d2
   .rw[b k (gy i hi k a).1 (gy i hi k a).2 (s k a).1];exact u
end
section
variable{g:fY}{l:List Pos}{m:List Int}
end
end Go.Proofs.YtmehofoficaelaaGreatDoor
namespace Go.Proofs.YtmehofoficaelaaGreatDoor
open Go Go.AL Classical
structure VB(A:l6)(n:Nat)(P R:List Int)(v:List fO)(lf:List Int):Prop where
 vl:v.length=n
 ll:lf.length=n
 nd:(P++R).Nodup
 qr:∀k∈P++R,0<=k/\k<n
 qi:∀k∈P++R,(gt v k).1≠0
 z:∀k:Int,0<=k->k<n->k ∉ P++R->gt v k=(0,0)
 ov:∀k:Int,0<=k->k<n->A.ov k=true->k∈P++R/\gt v k=(A.rs k,0)
 mono:(P++R).Pairwise λa b=>(gt v a).2<=(gt v b).2
 top:∀i R',R=i::R'->∀a∈P++R,(gt v a).2<=(gt v i).2+1
 nn:∀a∈P++R,0<=(gt v a).2/\(gt v a).2<=(P++R).length
 st:∀k∈P++R,A.ov k=false ->
  (∃m,1<=m/\gt v k=(1,m)/\(∃c∈gt A.nx k,gt v c=(3,m-1))/\∀c∈gt A.nx k,(gt v c).1=3->m-1<=(gt v c).2) \/
  (∃m,1<=m/\gt v k=(3,m)/\(∀c∈gt A.nx k,(gt v c).1=1/\(gt v c).2<=m-1)/\∃c∈gt A.nx k,(gt v c).2=m-1)
section
variable{A:l6}{n:Nat}{P R d:List Int}{v:List fO}{lf:List Int}{i k t:Int}
structure VS(A:l6)(n:Nat)(m:Int)(R:List Int)(v:List fO)(lf:List Int):Prop where
 vl:v.length=n
 ll:lf.length=n
 nd:R.Nodup
 qr:∀k,k∈R↔(0<=k/\k<m)/\A.ov k=true
 vv:∀k:Int,0<=k->k<n->gt v k=if k∈R then(A.rs k,0)else(0,0)
 lv:∀k:Int,0<=k->k<m->gt lf k=(gt A.nx k).length
end
end Go.Proofs.YtmehofoficaelaaGreatDoor
namespace Go.Proofs.YtmehofoficaelaaGreatDoor
open Go Go.AL Classical
set_option maxRecDepth 10000
set_option maxHeartbeats 8000000
attribute [-simp] agx
end Go.Proofs.YtmehofoficaelaaGreatDoor
namespace Go.Proofs.YtmehofoficaelaaGreatDoor
open Go Go.AL Classical
set_option maxRecDepth 10000
set_option maxHeartbeats 16000000
attribute [local simp] HF H5 tp OG
end Go.Proofs.YtmehofoficaelaaGreatDoor
namespace Go.Proofs.YtmehofoficaelaaGreatDoor
open Go Go.AL Classical
set_option maxRecDepth 10000
set_option maxHeartbeats 16000000
attribute [local simp] HF H5 tp OG
theorem sZ.s{T:il}{rf:Nat}{live:List Nat}{x:X}{s a:St}{K:iQ}(hs:s=a)(h:sZ T rf live x a K .mk):sZ T rf live x s K .mk:=by subst hs;exact h
section
variable{g:fY}{l:List Pos}{nx:List (List Int)}{part:List Int}{bu:Int}
end
end Go.Proofs.YtmehofoficaelaaGreatDoor
namespace Go.Proofs.YtmehofoficaelaaGreatDoor
open Go Go.AL Classical
set_option maxRecDepth 10000
set_option maxHeartbeats 8000000
theorem acb{l:List fO}{n:Int}(h:n.toNat<l.length):(cl fS l).drop (n.toNat*2)=fS (gt l n)++cl fS (l.drop (n.toNat+1)):=by rw[uf,bH h,mO];congr 1;unfold gt;rw[List.getD_eq_getElem?_getD,List.getElem?_eq_getElem h];rfl
theorem ael(v:List fO)(b:v.length<=4000):Wf T 17 [ie v,ie v] [] (Is (.b true)):=by
 refine Yg KB ?_;simp[KB];refine fZ.e (0:Int) (λy=>[(0,ie v),(1,ie v),(5,.i y)]) (λy=>[]) (λy=>0<=y/\y<=v.length) (λy=>(v.length-y).toNat) ?_ ?_
 .simp
 rintro i ⟨i0,a⟩;dsimp only at i0 a ⊢
 by_cases hi:i<v.length
 .simp[hi];refine fQ ?_;refine LJ.e (i+1) ?_;omega
 .simp[hi]
set_option maxHeartbeats 16000000
theorem gj.s{T:il}{f:FuncId}{args:List D}{dst:Option Nat}{s a:St}{K:St->Prop}(hs:s=a)(h:gj T f args dst a K .mk):gj T f args dst s K .mk:=by subst hs;exact h
end Go.Proofs.YtmehofoficaelaaGreatDoor
namespace Go.Proofs.YtmehofoficaelaaGreatDoor
open Go Go.AL Classical
set_option maxRecDepth 10000
set_option maxHeartbeats 8000000
def H0(g:fY)(n:Nat)(v:List fO)(lf:List Int):U:=[.row 43 0 g.cells,.row 86 0 (cl fS v),.row 51 0 [.fM 1 0 2 0 n],.row 3 0 (cl f1 lf),.row 37 0 [.fX]]
theorem aca{v:List fO}{n:Int}(h:n.toNat<v.length):(cl fS v)[n.toNat*2]? = some (.i (gt v n).1):=by
 have:=acb h;rw[AS]at this;have a:((cl fS v).drop (n.toNat*2))[0]? = some (.i (gt v n).1):=by rw[this];rfl
 rwa [aI,cz]at a
section
variable{nx:List (List Int)}
end
end Go.Proofs.YtmehofoficaelaaGreatDoor
namespace Go.Proofs.YtmehofoficaelaaGreatDoor
open Go Go.AL Classical
set_option maxRecDepth 10000
set_option maxHeartbeats 8000000
theorem f102(L:List Int)(h0:0<L.length)(m:L.length<=4000000000):Wf T 145 [dI L] [] (Ey D.i λr=>r∈L/\∀x∈L,r<=x):=by
 refine Yg IQ ?_;simp[IQ];(with_reducible repeat' first|refine Xk ?_<;>try simp|refine Xs ?_ ?_<;>intro h<;>(try intro o)<;>(try simp[h])<;>try omega|refine Xg ?_|omega);refine fZ.e ((1,gt L 0):Int×Int) (λy=>[(0,dI L),(3,.i y.2),(4,.i y.1)]) (λy=>[]) (λy=>1<=y.1/\y.1<=L.length/\y.2∈L/\∀j:Int,0<=j->j<y.1->y.2<=gt L j) (λy=>(L.length-y.1).toNat) ?_ ?_
 .refine⟨by simp,by dsimp only;omega,gq (by omega) (by omega),λj j0 j1=>?_⟩;dsimp only at j1 ⊢;rw[show j=0 by omega];exact dS _
 rintro⟨i,r⟩ ⟨i0,d,c,b⟩;dsimp only at i0 d c b ⊢
 by_cases hi:i<L.length
 .simp[hi];refine fQ ?_;have k:=gq (l:=L) (n:=i) (by omega) hi;refine LJ.e (i+1,min r (gt L i)) ?_;refine gI ⟨?_,λj j0 j1=>?_⟩
  .dsimp only;rcases(show min r (gt L i)=r\/min r (gt L i)=gt L i by omega)with e|e<;>rw[e]<;>assumption
  .dsimp only at j1 ⊢
   by_cases e:j=i
   .subst e;omega
   .have:=b j j0 (by omega);omega
 .simp[hi];refine fQ ?_;refine Ey.i r rfl rfl ⟨c,λx f=>?_⟩;obtain⟨a,g,p,rfl⟩:=vL.1 f;exact b a g (by omega)
theorem f103(L:List Int)(h0:0<L.length)(m:L.length<=4000000000):Wf T 146 [dI L] [] (Ey D.i λr=>r∈L/\∀x∈L,x<=r):=by
 refine Yg IX ?_;simp[IX];(with_reducible repeat' first|refine Xk ?_<;>try simp|refine Xs ?_ ?_<;>intro h<;>(try intro o)<;>(try simp[h])<;>try omega|refine Xg ?_|omega);refine fZ.e ((1,gt L 0):Int×Int) (λy=>[(0,dI L),(3,.i y.2),(4,.i y.1)]) (λy=>[]) (λy=>1<=y.1/\y.1<=L.length/\y.2∈L/\∀j:Int,0<=j->j<y.1->gt L j<=y.2) (λy=>(L.length-y.1).toNat) ?_ ?_
 .refine⟨by simp,by dsimp only;omega,gq (by omega) (by omega),λj j0 j1=>?_⟩;dsimp only at j1 ⊢;rw[show j=0 by omega];exact dS _
 rintro⟨i,r⟩ ⟨i0,d,c,b⟩;dsimp only at i0 d c b ⊢
 by_cases hi:i<L.length
 .simp[hi];refine fQ ?_;have k:=gq (l:=L) (n:=i) (by omega) hi;refine LJ.e (i+1,max r (gt L i)) ?_;refine gI ⟨?_,λj j0 j1=>?_⟩
  .dsimp only;rcases(show max r (gt L i)=r\/max r (gt L i)=gt L i by omega)with e|e<;>rw[e]<;>assumption
  .dsimp only at j1 ⊢
   by_cases e:j=i
   .subst e;omega
   .have:=b j j0 (by omega);omega
 .simp[hi];refine fQ ?_;refine Ey.i r rfl rfl ⟨c,λx f=>?_⟩;obtain⟨a,g,p,rfl⟩:=vL.1 f;exact b a g (by omega)
def ki(v:List fO)(x:List Int)(o:Int):List Int:=(x.filter λk=>decide ((gt v k).1=o)).map λk=>(gt v k).2
theorem YY{v:List fO}{x:List Int}{o k:Int}(h:(gt v k).1=o):ki v (x ++ [k]) o=ki v x o ++ [(gt v k).2]:=by simp[ki,h]
theorem YX{v:List fO}{x:List Int}{o k:Int}(h:(gt v k).1≠o):ki v (x ++ [k]) o=ki v x o:=by simp[ki,h]
theorem YV(v:List fO)(x:List Int)(o:Int):(ki v x o).length<=x.length:=by unfold ki;rw[List.length_map];exact List.length_filter_le _ _
theorem agT{v:List fO}{x:List Int}{o n:Int}:n∈ki v x o↔∃k∈x,gt v k=(o,n):=by
 unfold ki;rw[ao];constructor
 .rintro⟨k,a,rfl⟩;rw[aM]at a;exact⟨k,a.1,cO (by simpa using a.2) rfl⟩
 .rintro⟨k,a,e⟩;exact⟨k,aM.2 ⟨a,by simp[e]⟩,by rw[e]⟩
def CJ(v:List fO)(x:List Int)(r:fO):Prop:=
 (∃m∈ki v x 3,(∀y∈ki v x 3,m<=y)/\r=(1,m+1)) \/
 (ki v x 3 = []/\(ki v x 1).length=x.length/\∃m∈ki v x 1,(∀y∈ki v x 1,y<=m)/\r=(3,m+1)) \/
 (ki v x 3 = []/\¬(ki v x 1≠[]/\(ki v x 1).length=x.length)/\r=(2,0))
def dL(l:List Int)(n:Nat):D:=if l = []then .fX else .fM n (l.length-1) 1 0 l.length
def rL(l:List Int):U:=if l = []then []else [.row 3 (l.length-1) (cl f1 l)]
def HL(a b:List Int):U:=.row 86 0 [.i 0,.i 0]::(rL a++rL b)
theorem f56(v:List fO)(x:List Int)(m:∀k∈x,0<=k/\k<v.length)(N:x.length<=4000000000)(u:∀k:Int,0<=k->k<v.length->0<=(gt v k).2/\(gt v k).2<=4000):Wf T 89 [ie v,dN 1 f1 x] [] (Ey (λr:fO=>.agg [.i r.1,.i r.2]) λr=>CJ v x r):=by
 have C:∀o,ki v [] o = []:=λ_=>rfl;have I:∀n,dL [] n = .fX:=λ_=>rfl;refine Yg K8 ?_;simp[K8];refine fQ ?_;refine fZ.e (0:Int) (λy=>[(0,ie v),(1,dN 1 f1 x),(4,.ptr 0 0 0),(5,dL (ki v (x.take y.toNat) 3) 1),(6,dL (ki v (x.take y.toNat) 1) (if ki v (x.take y.toNat) 3 = []then 1 else 2)),(9,dN 1 f1 x),(10,.i x.length),(11,.i y)]) (λy=>HL (ki v (x.take y.toNat) 3) (ki v (x.take y.toNat) 1)) (λy=>0<=y/\y<=x.length) (λy=>(x.length-y).toNat) ?_ ?_ (by simp[C,I]) (by simp[C,HL,rL])
 .simp
 rintro i ⟨i0,L⟩;have J:=YV v (x.take i.toNat) 3;have F:=YV v (x.take i.toNat) 1;rw[aK]at J F
 by_cases hi:i<x.length
 .have z:=m _ (gq i0 hi)
  have j:(x.take (i+1).toNat)=x.take i.toNat ++ [gt x i]:=by rw[show(i+1).toNat=i.toNat+1 by omega,dm,List.getElem?_eq_getElem (by omega),dQ,<-jb i0 hi]
  have O:=aca (v:=v) (n:=gt x i) (by omega);simp[hi];generalize gt x i=k at *;generalize B:ki v (x.take i.toNat) 3=a at *;generalize A:ki v (x.take i.toNat) 1=b at *;have K:=u k z.1 z.2;have q3:(gt v k).1=3->ki v (x.take (i+1).toNat) 3=a ++ [(gt v k).2]:=λh=>by rw[j,YY h,B]
  have D:(gt v k).1≠3->ki v (x.take (i+1).toNat) 3=a:=λh=>by rw[j,YX h,B]
  have q1:(gt v k).1=1->ki v (x.take (i+1).toNat) 1=b ++ [(gt v k).2]:=λh=>by rw[j,YY h,A]
  have E:(gt v k).1≠1->ki v (x.take (i+1).toNat) 1=b:=λh=>by rw[j,YX h,A]
  have t:a = []\/0<a.length:=by cases a<;>simp
  have s:b = []\/0<b.length:=by cases b<;>simp
  have gy:((x.length:Int)-(i+1)).toNat<((x.length:Int)-i).toNat/\0<=i+1/\i+1<=x.length:=by omega
  by_cases c:a = []<;>by_cases d:b = []
  all_goals
   first|have t:=t.resolve_left c|skip
   first|have s:=s.resolve_left d|skip
   (with_reducible repeat' first|refine Xk ?_<;>try simp[c,d,dL,rL,HL]|refine Xs ?_ ?_<;>intro h<;>(try intro H)<;>(try simp[h,c,d,dL,rL,HL])<;>try omega|refine Xg ?_|omega)
  all_goals
   first
    | (have f:=q3 ‹_›;have g:=E (by omega);refine LJ.i (i+1) (by simp[f,g,dL,c,d]<;>omega) (by simp[f,g,HL,rL,c,d,iI]<;>omega) rfl rfl gy)
    | (have f:=D ‹_›;have g:=q1 ‹_›;refine LJ.i (i+1) (by simp[f,g,dL,c,d]<;>omega) (by simp[f,g,HL,rL,c,d,iI]<;>omega) rfl rfl gy)
    | (have f:=D (by assumption);have g:=E (by assumption);refine LJ.i (i+1) (by simp[f,g,dL,c,d]) (by simp[f,g,HL,rL,c,d]) rfl rfl gy)
 .rw[af (by omega)]at *;simp[hi]
  by_cases c:ki v x 3 = []<;>by_cases d:ki v x 1 = []
  all_goals
   simp[c,d,dL,rL,HL];(with_reducible repeat' first|refine Xk ?_<;>try simp[c,d,dL,rL,HL]|refine Xs ?_ ?_<;>intro h<;>(try intro H)<;>(try simp[h,c,d,dL,rL,HL])<;>try omega|refine Xg ?_|omega)
  all_goals
   first
    | exact Ey.i (2,0) rfl rfl (.inr (.inr ⟨c,λ⟨h1,G⟩=>by omega,rfl⟩))
    | exact Ey.i (2,0) rfl rfl (.inr (.inr ⟨c,λ⟨h1,G⟩=>h1 d,rfl⟩))
    | exact absurd (ax.2 c) ‹_›
    | exact absurd (ax.2 d) ‹_›
    | skip
  all_goals
   refine gj.s (by simp[c,d];rfl) ?_
  all_goals
   first
    | refine gj.rq rfl rfl (f102 (ki v x 3) (by omega) (by omega)) (by simp) (λ_=>by simp[flat]) (λ_=>by simp) ?_
    | refine gj.rq rfl rfl (f103 (ki v x 1) (by omega) (by omega)) (by simp) (λ_=>by simp[flat]) (λ_=>by simp) ?_
  all_goals
   rintro r ⟨l,p⟩
   have M:0<=r/\r<=4000:=by obtain⟨q,w,e⟩:=agT.1 l;have:=u q (m q w).1 (m q w).2;rwa [e]at this
   simp[c,d];refine kM c d ?_
  all_goals
   first
    | exact Ey.i (1,r+1) rfl rfl (.inl ⟨r,l,p,rfl⟩)
    | exact Ey.i (3,r+1) rfl rfl (.inr (.inl ⟨c,by omega,r,l,p,rfl⟩))
theorem YW(v:List fO)(x:List Int)(o:Int):ki v x o=jq (x.map λk=>gt v k) o:=by unfold ki jq;rw[List.filter_map,bY];rfl
theorem CJ.mk{v:List fO}{x:List Int}{r:fO}(h:CJ v x r):r=nu (x.map λk=>gt v k):=by
 unfold nu;rw[<-YW,<-YW,List.length_map];rcases h with⟨m,c,l,rfl⟩|⟨f,h1,m,c,g,rfl⟩|⟨f,h1,rfl⟩
 .have d:ki v x 3≠[]:=λe=>by rw[e]at c;cases c
  have a:=BN c;have b:=l _ (zT d);rw[if_pos d,show sT (ki v x 3)=m by omega]
 .have d:ki v x 1≠[]:=λe=>by rw[e]at c;cases c
  have a:=NF c;have b:=g _ (NM d)
  have i:(x.map λk=>gt v k)≠[]:=λe=>by have j:=List.map_eq_nil_iff.1 e;subst j;exact d rfl
  rw[if_neg (λh=>h f),if_pos ⟨i,h1⟩,show yi (ki v x 1)=m by omega]
 .rw[if_neg (λh=>h f),if_neg];rintro⟨a,b⟩;refine h1 ⟨λe=>a ?_,b⟩;rw[e]at b;rw[aZ b.symm];rfl
theorem CJ.iff{A:l6}{v:List fO}{i:Int}{r:fO}(h0:∀k∈gt A.nx i,0<=(gt v k).2)(b:A.ov i=false)(a:CJ v (gt A.nx i) r):kn A v i↔gt v i=r:=by rw[a.mk];exact agM h0 b
theorem gj.w{T:il}{f:FuncId}{args:List D}{dst:Option Nat}{s a:St}{K:St->Prop}(hs:s=a)(h:gj T f args dst a K .mk):gj T f args dst s K .mk:=by subst hs;exact h
theorem Zi{l:List fO}{x:fO}{o:Int}(h:x.1=o):jq (l ++ [x]) o=jq l o ++ [x.2]:=by simp[jq,h]
theorem Zh{l:List fO}{x:fO}{o:Int}(h:x.1≠o):jq (l ++ [x]) o=jq l o:=by simp[jq,h]
@[simp] theorem avz(o:Int):jq [] o = []:=rfl
theorem Zg(l:List fO)(o:Int):(jq l o).length<=l.length:=by unfold jq;rw[List.length_map];exact List.length_filter_le _ _
theorem anT{α:Type}[Inhabited α]{l:List α}{i:Int}(i0:0<=i)(a:i<l.length):l.take (i+1).toNat=l.take i.toNat ++ [gt l i]:=by rw[show(i+1).toNat=i.toNat+1 by omega,dm,List.getElem?_eq_getElem (by omega),dQ,<-jb i0 a]
theorem adN(l:List fO)(h0:0<l.length)(N:l.length<=4000000000)(J:∀x∈l,0<=x.2/\x.2<=4000):Wf T 135 [ie l] [] (Is (.agg [.i (nu l).1,.i (nu l).2])):=by
 refine Yg Jk ?_;simp[Jk];refine fZ.e ((0,0,0):Int×Nat×Nat) (λy=>[(0,ie l),(2,.ptr 0 0 0),(3,.fM 1 y.2.1 1 0 (jq (l.take y.1.toNat) 3).length),(4,.fM 2 y.2.2 1 0 (jq (l.take y.1.toNat) 1).length),(9,ie l),(10,.i l.length),(11,.i y.1)]) (λy=>[.row 86 0 [.i 0,.i 0],.row 3 y.2.1 (cl f1 (jq (l.take y.1.toNat) 3)),.row 3 y.2.2 (cl f1 (jq (l.take y.1.toNat) 1))]) (λy=>0<=y.1/\y.1<=l.length) (λy=>(l.length-y.1).toNat) ?_ ?_
 .simp
 rintro⟨i,q,p⟩ ⟨i0,H⟩;dsimp only at i0 H ⊢;have u:=Zg (l.take i.toNat) 3;have k:=Zg (l.take i.toNat) 1;rw[aK]at u k
 by_cases hi:i<l.length
 .have e:=anT (l:=l) i0 hi;have z:(gt l i).1=3->jq (l.take (i+1).toNat) 3=jq (l.take i.toNat) 3 ++ [(gt l i).2]:=λh=>by rw[e,Zi h]
  have s:(gt l i).1≠3->jq (l.take (i+1).toNat) 3=jq (l.take i.toNat) 3:=λh=>by rw[e,Zh h]
  have C:(gt l i).1=1->jq (l.take (i+1).toNat) 1=jq (l.take i.toNat) 1 ++ [(gt l i).2]:=λh=>by rw[e,Zi h]
  have t:(gt l i).1≠1->jq (l.take (i+1).toNat) 1=jq (l.take i.toNat) 1:=λh=>by rw[e,Zh h]
  obtain⟨A,n⟩:∃A,jq (l.take i.toNat) 3=A:=⟨_,rfl⟩;obtain⟨B,m⟩:∃B,jq (l.take i.toNat) 1=B:=⟨_,rfl⟩;rw[n]at u z s ⊢;rw[m]at k C t ⊢;have gy:((l.length:Int)-(i+1)).toNat<((l.length:Int)-i).toNat/\0<=i+1/\i+1<=l.length:=by omega
  simp[hi];(with_reducible repeat' first|refine Xk ?_<;>try simp|refine Xs ?_ ?_<;>intro h<;>(try intro O)<;>(try simp[h])<;>try omega|refine Xg ?_|omega)
  .have b:=z ‹_›;have c:=t (by omega);refine LJ.i (i+1,q+1,p) (by simp[b,c]) (by simp[b,c]) rfl rfl gy
  .have b:=s (by omega);have c:=C ‹_›;refine LJ.i (i+1,q,p+1) (by simp[b,c]) (by simp[b,c]) rfl rfl gy
  .have b:=s (by assumption);have c:=t (by assumption);refine LJ.i (i+1,q,p) (by simp[b,c]) (by simp[b,c]) rfl rfl gy
 .have G:i=l.length:=by omega
  subst G;rw[af (by omega)]at *;obtain⟨r,a⟩:∃r,nu l=r:=⟨_,rfl⟩;have w:∀o,∀y∈jq l o,0<=y/\y<=4000:=λo y I=>by have:=J _ (sR.1 I);exact this
  rw[a];unfold nu at a;obtain⟨A,n⟩:∃A,jq l 3=A:=⟨_,rfl⟩;obtain⟨B,m⟩:∃B,jq l 1=B:=⟨_,rfl⟩;have v:=w 3;have D:=w 1;rw[n]at u a v ⊢;rw[m]at k a D ⊢;have E:l≠[]:=ax.1 h0;simp[hi]
  by_cases f:A = []
  .rw[if_neg (λh=>h f)]at a;subst f
   by_cases g:B.length=l.length
   .rw[if_pos ⟨E,g⟩]at a;subst a;simp[g];refine fQ ?_;refine gj.w (by simp;rfl) ?_;refine gj.rq rfl rfl (f103 B (by omega) (by omega)) (by simp[g]) (λ_=>by simp[flat]) (λ_=>by simp) ?_;rintro r ⟨d,j⟩;have L:=NF d;have K:=j _ (NM (l:=B) λe=>by rw[e]at d;cases d);have e:r=yi B:=by omega
    have M:=D r d;subst e;simp;exact mE
   .rw[if_neg (λh=>g h.2)]at a;subst a;simp[g];exact mE
  .rw[if_pos f]at a;subst a;have F:0<A.length:=ax.2 f;simp[F];refine fQ ?_;refine gj.w (by simp;rfl) ?_;refine gj.rq rfl rfl (f102 A (by omega) (by omega)) (by simp) (λ_=>by simp[flat]) (λ_=>by simp) ?_;rintro r ⟨d,j⟩;have L:=BN d;have K:=j _ (zT f);have e:r=sT A:=by omega
   have M:=v r d;subst e;simp;exact mE
end Go.Proofs.YtmehofoficaelaaGreatDoor
namespace Go.Proofs.YtmehofoficaelaaGreatDoor
open Go Go.AL Classical
set_option maxRecDepth 10000
set_option maxHeartbeats 8000000
attribute [-simp] s7
theorem adJ(r:fO):Wf T 121 [.agg [.i r.1,.i r.2]] [] (Is (.b (ln r))):=by
 obtain⟨a,b⟩:=r;unfold ln;dsimp only
 by_cases e:a=2
 .subst e
  by_cases c:b=0
  .subst c;refine Yg tW ?_;simp[tW]
  .refine Yg tW ?_;simp[tW,c]
 .by_cases c:a=1
  .subst c;refine Yg tW ?_;simp[tW]
  .by_cases d:a=3
   .subst d;refine Yg tW ?_;simp[tW]
   .refine Yg tW ?_;simp[tW,e,c,d]
theorem adI(r:fO):Wf T 120 [.agg [.i r.1,.i r.2]] [] (Is (.b (!ln r))):=by have c:=adJ r;obtain⟨b,a⟩:∃b,ln r=b:=⟨_,rfl⟩;rw[a]at c ⊢;refine Yg Jg ?_;simp[Jg];refine Yc (c) ?_;simp
theorem adY(r q:fO):Wf T 187 [.agg [.i r.1,.i r.2],.gi [.i q.1,.i q.2]] [] (Is (.b (decide (r≠q)))):=by obtain⟨a,b⟩:=r;obtain⟨x,y⟩:=q;refine Yg Jr ?_;simp[Jr]
theorem adZ(r:fO)(n:Int):Wf T 188 [.agg [.i r.1,.i r.2],.gi [.i n]] [] (Is (.b (decide (r.1≠2/\r.2=n)))):=by
 obtain⟨a,b⟩:=r;dsimp only
 by_cases c:a=2
 .subst c;refine Yg Ct ?_;simp[Ct]
 .refine Yg Ct ?_;simp[Ct,c]
@[simp] theorem avo(G:jY):wX (vH G []) = -1:=rfl
theorem PU{H:U}{ck sr n:Nat}{M:Nat->jY}{ow:Nat->Nat×Nat×Nat}{P:Nat->Nat}{Q:Nat->Nat->Nat}{cells:List D}(Y:l8 H ck sr n M ow P Q)(fV:jl H.length H)(E:H[ck]? = some (.row 168 0 cells))(A:cells[12]? = some (.fM sr 0 1 0 n))
  {cm:List gA} {i:Int} (i0:0<=i) (I:i<n) (hM:M i.toNat=gF cm i) (pB:∀r∈sd cm i,ln r=true) :
  Wf T 122 [.ptr ck 0 0,.i i] H (λd H'=>d = .i (lZ (sd cm i))/\H'=H):=by
 obtain⟨k,_⟩:=Y.mp i.toNat (by omega);have N:=Y.row;rw[hM]at k
 have hj:((List.range n).map λj=>D.gx (P j))[i.toNat]? = some (.gx (P i.toNat)):=by rw[av,bJ (by omega)];rfl
 obtain⟨p,w⟩:∃p,P i.toNat=p:=⟨_,rfl⟩;obtain⟨q,xY⟩:∃q,Q i.toNat=q:=⟨_,rfl⟩;rw[w]at k hj;rw[xY]at k;have iz:=(ae.1 k).1;have c:∀G,(H++G)[p]? = some (.map KS (iM q 0 (gF cm i))):=λG=>by rw[ah iz,k]
 refine Yg Jh ?_;simp[Jh,E,A,N,w,k,i0,I];(with_reducible repeat' first|refine Xk ?_<;>try simp[E,A,N,w,k,i0,I]|refine Xs ?_ ?_<;>intro h<;>(try intro L)<;>(try simp[h,E,A,N,w,k,i0,I])<;>try omega|refine Xg ?_|omega);refine fZ.e (([.iX (.gx p) (gF cm i).length []],[]):U×List Nat) (λy=>[(5,.i (wX (vH (gF cm i) y.2))),(14,.ptr H.length 0 0)]) (λy=>H++y.1) (λy=>y.1[0]? = some (.iX (.gx p) (gF cm i).length y.2)/\y.2.Nodup/\∀t∈y.2,t<(gF cm i).length) (λy=>(gF cm i).length-y.2.length) ?_ ?_
 .exact⟨rfl,.nil,λ_ h=>by cases h⟩
 rintro⟨G,seen⟩ ⟨K,X,O⟩;dsimp only at K X O ⊢;have DA:=(ae.1 K).1;simp;refine tX.at (m:=p) (since:=(gF cm i).length) (seen:=seen) (kk:=KS) (es:=iM q 0 (gF cm i)) (by simp[K]) (by simp[c]) (by simp) (λF=>?_) λt kv dv J hi=>?_
 .have F:∀t,t<(gF cm i).length->t∈seen:=by simpa using F
  have Dv:=ago F O
  have xS:wX (vH (gF cm i) seen)=lZ (sd cm i):=by
   rw[agR λr hr a=>?_]
   .exact agU Dv
   .have:=pB r ((Dv r).1 hr);unfold ln at this;simp only[decide_eq_true_eq]at this;rcases this with rfl|h
    .exact absurd rfl a
    .exact h.2
  simp;refine fQ ?_;simp[zQ fV,xS]
 .rw[u4]at J;obtain⟨x,u,kE⟩:=ak.1 J;cases kE;have C:=Ib X O (ae.1 u).1 hi;have f:(iM q 0 (gF cm i))[t]? = some (lj x.1,oI (q t) x.2):=by rw[u4,u];simp
  have B:=agp (seen:=seen) u;obtain⟨ks,V⟩:∃ks,vH (gF cm i) seen=ks:=⟨_,rfl⟩;rw[V]at B ⊢;obtain⟨m,Z⟩:∃m,wX ks=m:=⟨_,rfl⟩;have W:wX (vH (gF cm i) (seen ++ [t]))=vK m x.1:=by rw[B,agS,Z]
  obtain⟨o,S⟩:∃o,G.set 0 (.iX (.gx p) (gF cm i).length (seen ++ [t]))=o:=⟨_,rfl⟩;have b:o[0]? = some (.iX (.gx p) (gF cm i).length (seen ++ [t])):=by rw[<-S,aL DA]
  have e:(H++G).set H.length (.iX (.gx p) (gF cm i).length (seen ++ [t]))=H++o:=by rw[UA,S]
  have M6:=(ae.1 b).1;have Bk:∀(R:U),(o++R)[0]? = some (.iX (.gx p) (gF cm i).length (seen ++ [t])):=λR=>by rw[ah M6];exact b
  have uv:(gF cm i).length-(seen ++ [t]).length<(gF cm i).length-seen.length:=by have:=C.2.2;rw[aj,aV]at this ⊢;omega
  have z:∀ {R:U} {v:Int},v=vK m x.1->LJ (λy:U×List Nat=>[(5,.i (wX (vH (gF cm i) y.2))),(14,.ptr H.length 0 0)]) (λy=>H++y.1) [] false (λs=>(gF cm i).length-s.2.length<(gF cm i).length-seen.length/\s.1[0]? = some (.iX (.gx p) (gF cm i).length s.2)/\s.2.Nodup/\∀t∈s.2,t<(gF cm i).length) .mk [(5,.i v),(14,.ptr H.length 0 0)] (H++(o++R)) [] false:=λ{R v} hv=>by subst hv;exact LJ.i (o++R,seen ++ [t]) (by simp[W]) rfl rfl rfl ⟨uv,Bk _,C.1,C.2.1⟩
  rw[e,Z];obtain⟨⟨r1,r2⟩,ls⟩:=x;dsimp only at *;clear S e B W V J u
  by_cases a:r1=2
  .subst a;simp[c,f,b];refine qJ c f b ?_;refine z ?_;simp[vK]
  .by_cases g:m<0
   .simp[c,f,b,a,g];(with_reducible repeat' first|refine Xk ?_<;>try simp[c,f,b,a,g]|refine Xs ?_ ?_<;>intro h<;>(try intro L)<;>(try simp[h,c,f,b,a,g])<;>try omega|refine Xg ?_|omega);refine z ?_;simp[vK,a,g]
   .by_cases l:r2<m
    .simp[c,f,b,a,g,l];(with_reducible repeat' first|refine Xk ?_<;>try simp[c,f,b,a,g,l]|refine Xs ?_ ?_<;>intro h<;>(try intro L)<;>(try simp[h,c,f,b,a,g,l])<;>try omega|refine Xg ?_|omega);refine z ?_;simp[vK,a,l]
    .simp[c,f,b,a,g,l];(with_reducible repeat' first|refine Xk ?_<;>try simp[c,f,b,a,g,l]|refine Xs ?_ ?_<;>intro h<;>(try intro L)<;>(try simp[h,c,f,b,a,g,l])<;>try omega|refine Xg ?_|omega);refine z ?_;simp[vK,a,g,l]
end Go.Proofs.YtmehofoficaelaaGreatDoor
namespace Go.Proofs.YtmehofoficaelaaGreatDoor
open Go Go.AL Classical
theorem YC(a b:Int):AL.keyOf (.agg [.i a,.i b])=some (lj (a,b)):=rfl
theorem W5(r:fO):KS.has (lj r)=true:=rfl
theorem ada(Q:Nat->Nat){G:jY}{i t:Nat}{k:Value}{d:D}(h:(iM Q i G)[t]? = some (k,d)):(iM Q i G).set t (k,d)=iM Q i G:=by obtain⟨h1,a⟩:=ae.1 h;rw[<-a,et]
theorem ag2{H:U}{v t:Nat}{q:Nat->Nat}{G:jY}{r:fO}{x:List Int}(c:H[v]? = some (.map KS (iM q 0 G)))(b:nQ r G=some (t,x)) :
  yg KS .fX (.gx v) (.agg [.i r.1,.i r.2]) H=some (.tup [oI (q t) x,.i t],.obj v (.map KS (iM q 0 G))):=by
 have h1:=Sm q r G 0 0;rw[b]at h1;simp only[aG,aQ]at h1;have a:=Sq q r (oI (q t) x) G 0;rw[b]at a
 have d:(iM q 0 G)[t]? = some (lj r,oI (q t) x):=by rw[u4,(zb (k:=0) b).1];simp
 dsimp only at a;rw[ada q d]at a;unfold yg;rw[YC];simp only[Si,c,mapOf];rw[if_pos ⟨trivial,W5 _⟩,h1];dsimp only;rw[a]
theorem ag1{H:U}{v:Nat}{q:Nat->Nat}{G:jY}{r:fO}(c:H[v]? = some (.map KS (iM q 0 G)))(b:nQ r G=none) :
  yg KS .fX (.gx v) (.agg [.i r.1,.i r.2]) H=some (.tup [.fX,.i G.length],.obj v (.map KS (iM q 0 G ++ [(lj r,.fX)]))):=by
 have h1:=Sm q r G 0 0;rw[b]at h1;simp only[Option.map_none]at h1;have a:=Sq q r .fX G 0;rw[b]at a;dsimp only at a;unfold yg;rw[YC];simp only[Si,c,mapOf];rw[if_pos ⟨trivial,W5 _⟩,h1];dsimp only;rw[a,AO]
theorem Vv{H:U}{v t:Nat}{es:List (Value×D)}{k:Value}{d0 d:D}(a:H[v]? = some (.map KS es))(b:es[t]? = some (k,d0)) :
  AJ (.gx v) (.i t) d H=some (.any,.obj v (.map KS (es.set t (k,d)))):=by
 unfold AJ;simp only[Si,a,mapOf,bF,b];rw[if_pos (by omega)]
theorem vR{n m:Nat}(h:n<=m){d:D}(a:mU n d=true):mU m d=true:=by cases d<;>first|exact a|(simp only[mU,decide_eq_true_eq]at a ⊢;omega)
theorem Ff{n m:Nat}(h:n<=m){cs:List D}(b:cs.all (mU n)=true):cs.all (mU m)=true:=
 List.all_eq_true.2 λd a=>vR h (List.all_eq_true.1 b d a)
theorem Er{n m:Nat}(h:n<=m){d:D}(c:jm n d=true):jm m d=true:=by
 cases d with
 | agg cs=>exact Ff h c
 | tup cs=>exact Ff h c
 | gi cs=>exact Ff h c
 | fn f a b=>
  simp only[jm,Bool.and_eq_true]at c ⊢;exact⟨Ff h c.1,Ff h c.2⟩
 | any=>exact vR (n:=n) (d:=.any) h c
 | val v=>exact vR (n:=n) (d:=.val v) h c
 | sl sz es=>exact vR (n:=n) (d:=.sl sz es) h c
 | fM v g sz off len=>exact vR (n:=n) (d:=.fM v g sz off len) h c
 | fX=>exact vR (n:=n) (d:=.fX) h c
 | ptr v g off=>exact vR (n:=n) (d:=.ptr v g off) h c
 | gx v=>exact vR (n:=n) (d:=.gx v) h c
 | iP v=>exact vR (n:=n) (d:=.iP v) h c
 | lS vs=>exact vR (n:=n) (d:=.lS vs) h c
theorem Zu{n m:Nat}(h:n<=m){o:Ob}(a:mT n o=true):mT m o=true:=by
 cases o with
 | row t g cs=>exact List.all_eq_true.2 λd b=>Er h (List.all_eq_true.1 a d b)
 | map kk es=>exact List.all_eq_true.2 λd b=>Er h (List.all_eq_true.1 a d b)
 | ia rf env st=>exact List.all_eq_true.2 λd b=>Er h (List.all_eq_true.1 a d b)
 | sn=>rfl
 | iX m since seen=>exact vR h a
 | jv=>rfl
 | dead=>rfl
 | lL=>cases a
theorem wZ{n m:Nat}{H:U}(h:n<=m)(b:jl n H):jl m H:=λo a=>Zu h (b o a)
theorem tN{n:Nat}{H G:U}(h:jl n H)(b:jl n G):jl n (H++G):=λo a=>by
 rcases List.mem_append.1 a with a|a
 .exact h o a
 .exact b o a
