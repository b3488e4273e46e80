/- Part 40 of DisputeHonest. -/
import Derived.Test.YtmehofoficaelaaGreatDoorH38
import Derived.Test.YtmehofoficaelaaGreatDoorH39
import Derived.Test.YtmehofoficaelaaGreatDoorH26
set_option linter.all false
namespace Go.Proofs.YtmehofoficaelaaGreatDoor
open Go Go.AL Classical
set_option maxRecDepth 10000
set_option maxHeartbeats 8000000
section
variable{H G R:U}{k j:Nat}{o o':Ob}
@[simp] theorem Sf:(H++G).set H.length o=H++G.set 0 o:=by rw[dR _ _ (by omega),cj]
end
section
variable{id n:Nat}{live keys:List Nat}{K:iq}{s:St}{J:Env->U->List Nat->Bool->Prop}
@[simp ↓ high] theorem an6:vV id n (9999::live) K (.norm s)=K (.norm { s with env:=forget (9999::live) s.env }):=by rw[Sl,Nn]
@[simp ↓ high] theorem an9:vV id n (9999::live) K (.exit id s)=K (.norm { s with env:=forget (9999::live) s.env }):=by rw[Sm,Nn]
@[simp ↓ high] theorem ar7:wX n (9999::live) keys J K (.norm s)=J (forget keys (forget (9999::live) s.env)) s.H s.marks s.gW:=by rw[Wa,Nn]
end
@[simp] theorem arj(r:fq):qw (kJ r) = .agg [.i r.1,.i r.2]:=rfl
theorem adS{n:Nat}{H G:U}{v g:Nat}{x:List Int}(k:H.length=n)(d:jC n H)(b:G[v]? = some (.row 3 g (cl f1 x)))(f:x≠[]) :
  leave 0 n (H++G) (.fm (n+v) g 1 0 x.length)=(dN 1 f1 x,H):=by
 have m:=(ae.1 b).1
 have l:(((H++G).take n).map (nN n)).flatten = []:=flatten_nil λo c=>by rw[aT (by omega),af (by omega)]at c;exact Qd (d o c)
 have e:gX (iv n []) (n+v)=none:=by
  unfold gX iv;rw[List.map_nil,ay,dj];intro p j;obtain⟨u,h,rfl⟩:=au.1 j;rw[a7]at h;have:u≠n+v:=by omega
  simpa using this
 have i:AL.rowAt (H++G) (n+v) g=some (3,cl f1 x):=by unfold AL.rowAt;rw[ai (by omega),show n+v-H.length=v by omega,b];simp
 unfold leave;rw[if_neg (by rw[ar];omega)];simp only;rw[l];show(fy (gX (iv n [])) (H++G) 40 _,pJ (iv n []) (H++G))=_;rw[Gb k d,AL.QP,e,XP,i,tS rfl];refine eN ?_ rfl
 cases x with
 | nil=>exact absurd rfl f
 | cons a r=>rfl
theorem abu:Wf T 126 [.val (.int .u64 0)] [] (Is (.i 0)):=nS (k:=40) (by kernel_rfl)
theorem abA{H:U}:Wf T 189 [.fw,.i 0,.i 0] H (λd H'=>d = .tup []/\H'=H):=by refine Yg IL ?_;simp[IL];refine fE.un ?_;refine jY.u ?_;simp
theorem abB{H:U}:Wf T 125 [.fw,.i 0,.i 0,.i 0] H (λd H'=>d = .tup []/\H'=H):=by refine Yg Ix ?_;simp[Ix];refine fE.un ?_;refine jY.u ?_;simp;refine fL.lG rfl rfl abA ?_;rintro _ H' ⟨rfl,rfl⟩;simp
theorem aby{H:U}:Wf T 67 [.fw] H (λd H'=>d = .tup []/\H'=H):=by refine Yg Ib ?_;simp[Ib];refine Yc (abu) ?_;simp;refine fL.lG rfl rfl abB ?_;rintro _ H' ⟨rfl,rfl⟩;simp
def YD(n:Nat)(G:U)(out:List Int)(d:D):Prop:=(out = []/\d = .fw)\/(out≠[]/\∃v g,d = .fm (n+(v+1)) g 1 0 out.length/\G[v+1]? = some (.row 3 g (cl f1 out)))
theorem yA{H G:U}{d:D}(ft:jC H.length H)(a:kh H.length d=true):leave 0 H.length (H++G) d=(d,H):=adR rfl ft a
attribute [-simp] uZ
theorem NI{H:U}{ck sr n:Nat}{M:Nat->jz}{ow:Nat->Nat×Nat×Nat}{P:Nat->Nat}{Q:Nat->Nat->Nat}{cells:List D}(X:lY H ck sr n M ow P Q)(ft:jC H.length H)(J:H[ck]? = some (.row 168 0 cells))(V:cells[12]? = some (.fm sr 0 1 0 n))
  {cm:List gx} (h8:cm.length<=100000) {i:Int} (i0:0<=i) (i1:i<n) (hM:M i.toNat=gw cm i) {w:fq->Bool} {NM:FuncId} {cap:List D}
  (hw:∀(r:fq) (dst:Option Nat) (s:St) (K:St->Prop),(∀(v:Nat) (o:Ob),H[v]? = some o->s.H[v]? = some o)->K { s with env:=put s.env dst (.b (w r)) }->fL T NM (.agg [.i r.1,.i r.2]::cap) dst s K .mk) :
  Wf T 119 [.ptr ck 0 0,.i i,.fn (.func NM) [] cap] H (λd H'=>d=dN 1 f1 (jx (λc=>jZ c i&&w (kb c i)) cm cm.length)/\H'=H):=by
 obtain⟨u,_⟩:=X.mp i.toNat (by omega);have Y:=X.ls i.toNat (by omega);have gv:=X.row;rw[hM]at u Y
 have hj:((List.range n).map λj=>D.fV (P j))[i.toNat]? = some (.fV (P i.toNat)):=by rw[aq,bC (by omega)];rfl
 obtain⟨p,I⟩:∃p,P i.toNat=p:=⟨_,rfl⟩;obtain⟨q,Ag⟩:∃q,Q i.toNat=q:=⟨_,rfl⟩;rw[I]at u hj;rw[Ag]at u Y;have fZ:i<(n:Int):=i1;have qp:=(ae.1 J).1;have gU:=(ae.1 u).1;have S:∀G,(H++G)[p]? = some (.map KS (il q 0 (gw cm i))):=λG=>by rw[ah gU,u]
 refine Yg Ha ?_;simp[Ha,J,V,gv,I,u,i0,fZ];(with_reducible repeat' first|refine Xk ?_<;>try simp[J,V,gv,I,u,i0,fZ]|refine Xs ?_ ?_<;>intro h<;>(try intro h')<;>(try simp[h,J,V,gv,I,u,i0,fZ])<;>try omega|refine Xg ?_|omega);refine fE.e (([.iM (.fV p) (gw cm i).length []],[],[],.fw):U×List Nat×List Int×D) (λy=>[(2,.fn (.func NM) [] cap),(7,y.2.2.2),(17,.ptr H.length 0 0)]) (λy=>H++y.1) (λy=>y.1[0]? = some (.iM (.fV p) (gw cm i).length y.2.1)/\rU cm i w y.2.1 y.2.2.1/\YD H.length y.1 y.2.2.1 y.2.2.2) (λy=>(gw cm i).length-y.2.1.length) ?_ ?_
 .exact⟨rfl,rU.start,.inl ⟨rfl,rfl⟩⟩
 rintro⟨G,seen,out,d⟩ ⟨hG,hS,N⟩;dsimp only at hG hS N ⊢;have OM:=(ae.1 hG).1;have B9:=hS.len;simp;refine tH.at (m:=p) (since:=(gw cm i).length) (seen:=seen) (kk:=KS) (es:=il q 0 (gw cm i)) (by simp[hG]) (by simp[S]) (by simp) (λW=>?_) λt kv dv he hi=>?_
 .have W:∀t,t<(gw cm i).length->t∈seen:=by simpa using W
  have B1:=hS.done W;simp;refine fo ?_;rcases N with⟨rfl,rfl⟩|⟨L,v,g,rfl,f⟩
  .refine fL.lG rfl rfl aby ?_;rintro _ H' ⟨rfl,rfl⟩;have:jx (λc=>jZ c i&&w (kb c i)) cm cm.length = []:=by rw[<-B1];simp
   rw[this];simp[yA ft,dN]
  .refine fL.lG rfl rfl (f160 (l:=out) (t:=3) (K:=λd H'=>d = .tup []/\H'=H++G.set (v+1) (.row 3 g (cl f1 (jx (λc=>jZ c i&&w (kb c i)) cm cm.length)))) (av.2 L) (by omega) (by simp[f]) ⟨rfl,by simp[B1]⟩) ?_;rintro _ H' ⟨rfl,rfl⟩;have F:(jx (λc=>jZ c i&&w (kb c i)) cm cm.length).length=out.length:=by rw[<-B1,eX]
   have om:=adS (G:=G.set (v+1) (.row 3 g (cl f1 (jx (λc=>jZ c i&&w (kb c i)) cm cm.length)))) (v:=v+1) (g:=g) rfl ft (by rw[aX (ae.1 f).1]) (λe=>L (az.1 (by rw[<-F,e];rfl)));rw[F]at om;simp[om]
 .rw[wi]at he;obtain⟨x,B,jV⟩:=aj.1 he;cases jV;rw[aL]at *;obtain⟨Vd,_⟩:=Y t x B;have gK:=(KH B).2;have z:=hS.step B hi;have sC:=Ml hS.nd hS.lt (ae.1 B).1 hi;have EV:=(ae.1 Vd).1;have A:∀G,(H++G)[q t]? = some (.row 3 (x.2.length-1) (cl f1 x.2)):=λG=>by rw[ah EV,Vd];rfl
  have jo:(il q 0 (gw cm i))[t]? = some (kJ x.1,oI (q t) x.2):=by rw[wi,B];simp
  obtain⟨a,O⟩:∃a,G.set 0 (.iM (.fV p) (gw cm i).length (seen ++ [t]))=a:=⟨_,rfl⟩;have E:a[0]? = some (.iM (.fV p) (gw cm i).length (seen ++ [t])):=by rw[<-O,aX OM]
  have Of:∀(v:Nat) (o:Ob),G[v+1]? = some o->a[v+1]? = some o:=λv o f=>by rw[<-O,bQ (by omega)];exact f
  have e:(H++G).set H.length (.iM (.fV p) (gw cm i).length (seen ++ [t]))=H++a:=by rw[Sf,O]
  have K5:=(ae.1 E).1;rw[e];obtain⟨b,hb⟩:∃b,w x.1=b:=⟨_,rfl⟩;rw[hb]at z
  have qv:x.2.length<=cm.length:=by rw[(KH B).1];exact AB _ _ ((Ap _ _ _).imp λh e=>by omega) λk hk=>(yy.1 hk).1
  simp[S,jo,E];refine pR S jo E ?_;refine hw x.1 _ _ _ (λv o f=>?_) ?_
  .have C:=(ae.1 f).1;simp[ah C,f]
  rw[hb]
  have Z:(gw cm i).length-(seen ++ [t]).length<(gw cm i).length-seen.length:=by have:=sC.2.2;rw[ar,cy]at this ⊢;omega
  have zV:∀(R:U),(a++R)[0]? = some (.iM (.fV p) (gw cm i).length (seen ++ [t])):=λR=>by rw[ah K5];exact E
  cases b
  .rw[if_neg (by simp)]at z;simp;refine LJ.e (_,seen ++ [t],out,d) ?_;refine⟨Z,zV _,z,?_⟩;rcases N with h|⟨h1,v,g,h2,h3⟩
   .exact .inl h
   .exact .inr ⟨h1,v,g,h2,by rw[ah (ae.1 (Of _ _ h3)).1];exact Of _ _ h3⟩
  .rw[if_pos rfl]at z;rcases N with⟨rfl,rfl⟩|⟨L,v,g,rfl,f⟩
   .simp[A,oI];(with_reducible repeat' first|refine Xk ?_<;>try simp[A,oI]|refine Xs ?_ ?_<;>intro h<;>(try intro h')<;>(try simp[h,A,oI])<;>try omega|refine Xg ?_|omega);rw[br]at z;refine⟨λe=>absurd e gK,λ_=>(qe ?_)⟩;refine LJ.i (_,seen ++ [t],x.2,_) rfl rfl rfl rfl ?_;refine⟨Z,zV _,z,.inr ⟨gK,a.length,0,rfl,?_⟩⟩;rw[YQ];rfl
   .have Vq:=Of _ _ f;have C:=(ae.1 Vq).1;have Po:∀R:U,(a++R)[v+1]? = some (.row 3 g (cl f1 out)):=λR=>by rw[ah C];exact Vq
    have Pp:∀(R:U) (o:Ob),(a++R).set (v+1) o=a.set (v+1) o++R:=λR o=>bk _ _ C;simp[A,oI,Po,Pp];(with_reducible repeat' first|refine Xk ?_<;>try simp[A,oI,Po,Pp]|refine Xs ?_ ?_<;>intro h<;>(try intro h')<;>(try simp[h,A,oI,Po,Pp])<;>try omega|refine Xg ?_|omega);refine LJ.i (_,seen ++ [t],out++x.2,.fm (H.length+(v+1)) (g+1) 1 0 (out.length+x.2.length)) (by simp) rfl rfl rfl ?_;refine⟨Z,?_,z,.inr ⟨by simp[L],v,g+1,by simp,?_⟩⟩
    .dsimp only;rw[ah (by rw[aF];exact K5),bQ (by omega)];exact E
    .dsimp only;rw[ah (by rw[aF];exact C),aX C]
end Go.Proofs.YtmehofoficaelaaGreatDoor
namespace Go.Proofs.YtmehofoficaelaaGreatDoor
open Go Go.AL Classical
set_option maxRecDepth 10000
set_option maxHeartbeats 8000000
section
variable{nx:List (List Int)}
end
attribute [-simp] uZ Sl Wa Sm
end Go.Proofs.YtmehofoficaelaaGreatDoor
namespace Go.Proofs.YtmehofoficaelaaGreatDoor
open Go Go.AL Classical
theorem Ym{v:List fq}{b:List Bool}{x:List Int}:∀n:Nat,n<=x.length->(∀j:Nat,j<n->gt b (gt x (j:Int))=false/\(gt v (gt x (j:Int))).1=1)->(kM v b x n).1=n
 | 0,_,_=>rfl
 | n+1,hn,h=>by rw[kM,if_pos (h n (by omega))];have:=Ym (v:=v) (b:=b) (x:=x) n (by omega) λj a=>h j (by omega);dsimp only;omega
theorem Q6{v:List fq}{b:List Bool}{x:List Int}:∀n:Nat,(kM v b x n).1=n->∀j:Nat,j<n->gt b (gt x (j:Int))=false/\(gt v (gt x (j:Int))).1=1
 | 0,_,j,hj=>by omega
 | n+1,h,j,hj=>by
  have fZ:=MO v b x n;rw[kM]at h;split at h
  .rename_i a;dsimp only at h
   by_cases e:j=n
   .subst e;exact a
   .exact Q6 (v:=v) (b:=b) (x:=x) n (by omega) j (by omega)
  .omega
theorem MP{v:List fq}{b:List Bool}{x:List Int}:∀n:Nat,(kM v b x n).1=n->∀j:Nat,j<n->(gt v (gt x (j:Int))).2<=(kM v b x n).2
 | 0,_,j,hj=>by omega
 | n+1,h,j,hj=>by
  have fZ:=MO v b x n;rw[kM]at h ⊢;split at h
  .rename_i a;rw[if_pos a];dsimp only at h ⊢
   by_cases e:j=n
   .subst e;omega
   .have:=MP (v:=v) (b:=b) (x:=x) n (by omega) j (by omega);omega
  .omega
theorem P6{x:List Int}{k:Int}:k∈x↔∃j:Nat,j<x.length/\gt x (j:Int)=k:=by
 rw[w6];constructor
 .rintro⟨n,n0,n1,e⟩;exact⟨n.toNat,by omega,by rw[show((n.toNat:Nat):Int)=n by omega];exact e⟩
 .rintro⟨j,a,e⟩;exact⟨j,by omega,by omega,e⟩
section
variable{g:fu}{l:List Pos}{nx:List (List Int)}{part:List Int}{bu:Int}
structure FI(g:fu)(l:List Pos)(nx:List (List Int))(part:List Int)(v0:List fq)(n:Int)(v:List fq)(b:List Bool):Prop where
 vl:v.length=l.length
 bl:b.length=l.length
 out:∀k:Int,0<=k->k<l.length->k ∉ part->gt b k=false/\gt v k=gt v0 k
 dec:∀i∈part,gt b i=false->(0<=(gt v i).2/\(gt v i).2<n)/\(((stat g (gt l i)).2=true/\gt v i=((stat g (gt l i)).1,0))\/((stat g (gt l i)).2=false/\(
  (∃m,1<=m/\gt v i=(1,m)/\(∃k∈gt nx i,gt b k=false/\gt v k=(3,m-1))/\∀k∈gt nx i,gt b k=false->(gt v k).1=3->m-1<=(gt v k).2) \/
  (∃m,1<=m/\gt v i=(3,m)/\(∀k∈gt nx i,gt b k=false/\(gt v k).1=1/\(gt v k).2<=m-1)/\∃k∈gt nx i,(gt v k).2=m-1))))
 AH:∀i∈part,gt b i=true->0<n->(stat g (gt l i)).2=false/\(∀k∈gt nx i,gt b k=false->(gt v k).1=3->n-1<=(gt v k).2) /\
  (gt nx i≠[]->(∀k∈gt nx i,gt b k=false/\(gt v k).1=1)->∃k∈gt nx i,n-1<=(gt v k).2)
theorem FI.step(o:vM g l nx part bu){v0:List fq}(h0:∀k:Int,0<=k->k<l.length->0<=(gt v0 k).2){n:Int}(n0:0<=n){v:List fq}{b:List Bool}(h:FI g l nx part v0 n v b):FI g l nx part v0 (n+1) (rV g l nx part v b n) (rB g l nx part v b n):=by
 have hV:=λ{k:Int} (k0:0<=k) (k1:k<l.length)=>Ug o h.vl h.bl (n:=n) k0 k1;have I:=λ{k:Int} (k0:0<=k) (k1:k<l.length)=>N4 o (v:=v) h.bl (n:=n) k0 k1;have fZ:∀i∈part,∀k∈gt nx i,0<=k/\k<l.length:=λi hi k d=>(o.WB i (o.prt i hi).1 (o.prt i hi).2).1 k d
 have N:∀k,k∈qn g l nx part v b n↔k∈part/\(n9 g (gt l k) v b (gt nx k) n).2=true/\gt b k=true:=λk=>by unfold qn Qe;rw[aV,Bool.and_eq_true]
 have Y:∀k,k∈qn g l nx part v b n->(Kg g l nx v b n k).2=n:=λk d=>by
  unfold Kg n9;split
  .rename_i e;rw[e]
  .split<;>rfl
 have f:∀k:Int,0<=k->k<l.length->gt b k=false->gt (rB g l nx part v b n) k=false/\gt (rV g l nx part v b n) k=gt v k:=λk k0 k1 e=>by
  have T:k ∉ qn g l nx part v b n:=λr=>by rw[((N k).1 r).2.2]at e;cases e
  rw[hV k0 k1,I k0 k1,if_neg T,if_neg T];exact⟨e,rfl⟩
 have G:∀k:Int,0<=k->k<l.length->gt (rB g l nx part v b n) k=false->(gt b k=false/\gt (rV g l nx part v b n) k=gt v k)\/(k∈qn g l nx part v b n/\(gt (rV g l nx part v b n) k).2=n):=λk k0 k1 e=>by
  by_cases r:k∈qn g l nx part v b n
  .right;rw[hV k0 k1,if_pos r];exact⟨r,Y k r⟩
  .left;rw[I k0 k1,if_neg r]at e;rw[hV k0 k1,if_neg r];exact⟨e,rfl⟩
 have K:∀k:Int,0<=k->k<l.length->gt b k=false->0<=(gt v k).2:=λk k0 k1 e=>by
  by_cases S:k∈part
  .exact(h.dec k S e).1.1
  .rw[(h.out k k0 k1 S).2];exact h0 k k0 k1
 refine⟨ajt o h.vl h.bl,ajs o h.bl,λk k0 k1 d=>?_,λi hi e=>?_,λi hi e _=>?_⟩
 .obtain⟨a,c⟩:=h.out k k0 k1 d;obtain⟨a',c'⟩:=f k k0 k1 a;exact⟨a',c'.trans c⟩
 .obtain⟨i0,E⟩:=o.prt i hi;rcases G i i0 E e with⟨P,e2⟩|⟨r,a5⟩
  .obtain⟨L,H⟩:=h.dec i hi P;rw[e2];refine⟨⟨L.1,by omega⟩,?_⟩;rcases H with⟨J,c2⟩|⟨J,⟨m,m1,c2,⟨k,d,D,F⟩,c5⟩|⟨m,m1,c2,D,k,d,F⟩⟩
   .exact .inl ⟨J,c2⟩
   .refine .inr ⟨J,.inl ⟨m,m1,c2,⟨k,d,?_⟩,λq p A t=>?_⟩⟩
    .have:=f k (fZ i hi k d).1 (fZ i hi k d).2 D;exact⟨this.1,this.2.trans F⟩
    .rcases G q (fZ i hi q p).1 (fZ i hi q p).2 A with⟨y,b2⟩|⟨_,b2⟩
     .rw[b2]at t ⊢;exact c5 q p y t
     .rw[c2]at L;dsimp only at L;omega
   .refine .inr ⟨J,.inr ⟨m,m1,c2,λq p=>?_,k,d,?_⟩⟩
    .obtain⟨d1,d2,d3⟩:=D q p;have:=f q (fZ i hi q p).1 (fZ i hi q p).2 d1;rw[this.2];exact⟨this.1,d2,d3⟩
    .rw[(f k (fZ i hi k d).1 (fZ i hi k d).2 (D k d).1).2];exact F
  .obtain⟨_,s,O⟩:=(N i).1 r;refine⟨by omega,?_⟩;have Z:gt (rV g l nx part v b n) i=(n9 g (gt l i) v b (gt nx i) n).1:=by rw[hV i0 E,if_pos r];rfl
   rw[Z]
   by_cases u:n=0
   .subst u;unfold n9 at s ⊢;rw[if_pos rfl]at s ⊢;exact .inl ⟨s,rfl⟩
   .obtain⟨X,W,p3⟩:=h.AH i hi O (by omega);refine .inr ⟨X,?_⟩;unfold n9 at s ⊢;rw[if_neg u]at s ⊢
    by_cases hl:As v b (gt nx i) n
    .rw[if_pos hl];obtain⟨k,d,D,F⟩:=hl;refine .inl ⟨n,by omega,rfl,⟨k,d,?_⟩,λq p A t=>?_⟩
     .have:=f k (fZ i hi k d).1 (fZ i hi k d).2 D;exact⟨this.1,this.2.trans F⟩
     .rcases G q (fZ i hi q p).1 (fZ i hi q p).2 A with⟨y,b2⟩|⟨_,b2⟩
      .rw[b2]at t ⊢;exact W q p y t
      .omega
    .rw[if_neg hl]at s ⊢;simp only[decide_eq_true_eq]at s;obtain⟨w0,w1,w2⟩:=s;have H:=Q6 _ w1;have hg:=MP _ w1;refine .inr ⟨n,by omega,rfl,λq p=>?_,?_⟩
     .obtain⟨j,z,rfl⟩:=P6.1 p;have U:=f _ (fZ i hi _ p).1 (fZ i hi _ p).2 (H j z).1;have:=hg j z;rw[U.2];exact⟨U.1,(H j z).2,by omega⟩
     .rcases Q7 v b (gt nx i) (gt nx i).length (Nat.le_refl _)with P|⟨q,p,q1,q2,q3⟩
      .omega
      .refine⟨q,p,?_⟩;rw[(f q (fZ i hi q p).1 (fZ i hi q p).2 q1).2];omega
 .obtain⟨i0,E⟩:=o.prt i hi
  have Q:i ∉ qn g l nx part v b n:=λr=>by rw[I i0 E,if_pos r]at e;cases e
  rw[I i0 E,if_neg Q]at e
  have w:(n9 g (gt l i) v b (gt nx i) n).2=false:=by
   by_cases B:(n9 g (gt l i) v b (gt nx i) n).2=true
   .exact absurd ((N i).2 ⟨hi,B,e⟩) Q
   .simpa using B
  have M:(stat g (gt l i)).2=false:=by
   by_cases u:n=0
   .unfold n9 at w;rw[if_pos u]at w;exact w
   .exact(h.AH i hi e (by omega)).1
  have R:n≠0->¬As v b (gt nx i) n:=λu hl=>by unfold n9 at w;rw[if_neg u,if_pos hl]at w;cases w
  refine⟨M,λk d A t=>?_,λV ha=>?_⟩
  .rcases G k (fZ i hi k d).1 (fZ i hi k d).2 A with⟨y,b2⟩|⟨_,b2⟩
   .rw[b2]at t ⊢
    by_cases u:n=0
    .have:=K k (fZ i hi k d).1 (fZ i hi k d).2 y;omega
    .have h1:=(h.AH i hi e (by omega)).2.1 k d y t;have s:(gt v k).2≠n-1:=λO=>R u ⟨k,d,y,eN t O⟩;omega
   .omega
  .by_cases B:∃k∈gt nx i,n<=(gt (rV g l nx part v b n) k).2
   .obtain⟨k,d,B⟩:=B;exact⟨k,d,by omega⟩
   .exfalso
    have C:∀k∈gt nx i,gt b k=false/\(gt v k).1=1/\(gt v k).2<n:=λk d=>by
     have h1:¬n<=(gt (rV g l nx part v b n) k).2:=λs=>B ⟨k,d,s⟩;obtain⟨A,t⟩:=ha k d;rcases G k (fZ i hi k d).1 (fZ i hi k d).2 A with⟨y,b2⟩|⟨_,b2⟩
     .rw[b2]at t h1;exact⟨y,t,by omega⟩
     .omega
    have jB:0<(gt nx i).length:=av.2 V
    by_cases u:n=0
    .have d:=fM (l:=gt nx i) (n:=0) (by omega) (by omega);have h1:=C _ d;have s:=K _ (fZ i hi _ d).1 (fZ i hi _ d).2 h1.1;omega
    .obtain⟨k,d,h1⟩:=(h.AH i hi e (by omega)).2.2 V λk d=>⟨(C k d).1,(C k d).2.1⟩
     have w1:=Ym (v:=v) (b:=b) (x:=gt nx i) _ (Nat.le_refl _) λj z=>by have:=C _ (P6.2 ⟨j,z,rfl⟩);exact⟨this.1,this.2.1⟩
     have w2:(kM v b (gt nx i) (gt nx i).length).2=n-1:=by
      obtain⟨j,z,rfl⟩:=P6.1 d;have g1:=MP _ w1 j z;rcases Q7 v b (gt nx i) (gt nx i).length (Nat.le_refl _)with P|⟨q,p,_,_,q3⟩
      .have:=K _ (fZ i hi _ d).1 (fZ i hi _ d).2 (C _ d).1;omega
      .have:=(C q p).2.2;omega
     unfold n9 at w;rw[if_neg u,if_neg (R u)]at w;simp only[decide_eq_false_iff_not]at w;exact w ⟨by omega,w1,w2⟩
end
end Go.Proofs.YtmehofoficaelaaGreatDoor
namespace Go.Proofs.YtmehofoficaelaaGreatDoor
open Go Go.AL Classical
section
variable{g:fu}{l:List Pos}{nx:List (List Int)}{part:List Int}{bu:Int}
theorem abP(o:vM g l nx part bu){v0 V:List fq}{B:List Bool}{n:Int}(n0:0<n)(j:FI g l nx part v0 n V B)
  (w:∀k:Int,0<=k->k<l.length->gt B k=false->(gt V k).1≠2->(gt V k).2<n-1):∀i∈part,oX (lM g l nx) (u7 part V B).1 i:=by
 obtain⟨_,f2⟩:=TN o j.vl j.bl;have fZ:∀i∈part,∀k∈gt nx i,0<=k/\k<l.length:=λi hi k b=>(o.WB i (o.prt i hi).1 (o.prt i hi).2).1 k b
 have b:∀k:Int,0<=k->k<l.length->gt B k=false->gt (u7 part V B).1 k=gt V k:=λk k0 k1 e=>by rw[(f2 k k0 k1).1,if_neg λh=>by rw[e]at h;exact absurd h.2 (by simp)]
 have hs:∀k:Int,0<=k->k<l.length->(gt (u7 part V B).1 k).1≠2->gt B k=false:=λk k0 k1 e=>by
  by_cases x:k∈part
  .by_cases z:gt B k=true
   .rw[(f2 k k0 k1).1,if_pos ⟨x,z⟩]at e;exact absurd rfl e
   .simpa using z
  .exact(j.out k k0 k1 x).1
 intro i hi;obtain⟨i0,p⟩:=o.prt i hi
 by_cases e:gt B i=true
 .obtain⟨D,C,A⟩:=j.AH i hi e n0;refine .inr ⟨D,.inr (.inr ⟨by rw[(f2 i i0 p).1,if_pos ⟨hi,e⟩],λk a d=>?_,λ⟨F,y⟩=>?_⟩)⟩
  .obtain⟨k0,k1⟩:=fZ i hi k a;have c:=hs k k0 k1 (by omega);rw[b k k0 k1 c]at d;have h1:=C k a c d;have E:=w k k0 k1 c (by omega);omega
  .obtain⟨k,a,h1⟩:=A F λk a=>by obtain⟨k0,k1⟩:=fZ i hi k a;have d:=y k a;have c:=hs k k0 k1 (by omega);rw[b k k0 k1 c]at d;exact⟨c,d⟩
   obtain⟨k0,k1⟩:=fZ i hi k a;have d:=y k a;have c:=hs k k0 k1 (by omega);rw[b k k0 k1 c]at d;have E:=w k k0 k1 c (by omega);omega
 .have r:gt B i=false:=by simpa using e
  rcases(j.dec i hi r).2 with⟨t,c2⟩|⟨t,⟨m,v,c2,⟨k,a,s,u⟩,G⟩|⟨m,v,c2,s,k,a,u⟩⟩
  .exact .inl ⟨t,by rw[b i i0 p r];exact c2⟩
  .refine .inr ⟨t,.inl ⟨m,v,by rw[b i i0 p r];exact c2,⟨k,a,by rw[b k (fZ i hi k a).1 (fZ i hi k a).2 s];exact u⟩,λq f d=>?_⟩⟩;obtain⟨q0,q1⟩:=fZ i hi q f;have c:=hs q q0 q1 (by omega);rw[b q q0 q1 c]at d ⊢;exact G q f c d
  .refine .inr ⟨t,.inr (.inl ⟨m,v,by rw[b i i0 p r];exact c2,λq f=>?_,k,a,?_⟩)⟩
   .obtain⟨d1,d2⟩:=s q f;rw[b q (fZ i hi q f).1 (fZ i hi q f).2 d1];exact d2
   .rw[b k (fZ i hi k a).1 (fZ i hi k a).2 (s k a).1];exact u
end
section
variable{g:fu}{l:List Pos}{m:List Int}
end
end Go.Proofs.YtmehofoficaelaaGreatDoor
namespace Go.Proofs.YtmehofoficaelaaGreatDoor
open Go Go.AL Classical
structure VB(A:nu)(n:Nat)(P R:List Int)(v:List fq)(lf:List Int):Prop where
 vl:v.length=n
 ll:lf.length=n
 nd:(P++R).Nodup
 qr:∀k∈P++R,0<=k/\k<n
 qi:∀k∈P++R,(gt v k).1≠0
 z:∀k:Int,0<=k->k<n->k ∉ P++R->gt v k=(0,0)
 ov:∀k:Int,0<=k->k<n->A.ov k=true->k∈P++R/\gt v k=(A.rs k,0)
 mono:(P++R).Pairwise λa b=>(gt v a).2<=(gt v b).2
 top:∀i R',R=i::R'->∀a∈P++R,(gt v a).2<=(gt v i).2+1
 nn:∀a∈P++R,0<=(gt v a).2/\(gt v a).2<=(P++R).length
 st:∀k∈P++R,A.ov k=false ->
  (∃m,1<=m/\gt v k=(1,m)/\(∃c∈gt A.nx k,gt v c=(3,m-1))/\∀c∈gt A.nx k,(gt v c).1=3->m-1<=(gt v c).2) \/
  (∃m,1<=m/\gt v k=(3,m)/\(∀c∈gt A.nx k,(gt v c).1=1/\(gt v c).2<=m-1)/\∃c∈gt A.nx k,(gt v c).2=m-1)
section
variable{A:nu}{n:Nat}{P R d:List Int}{v:List fq}{lf:List Int}{i k t:Int}
structure VS(A:nu)(n:Nat)(m:Int)(R:List Int)(v:List fq)(lf:List Int):Prop where
 vl:v.length=n
 ll:lf.length=n
 nd:R.Nodup
 qr:∀k,k∈R↔(0<=k/\k<m)/\A.ov k=true
 vv:∀k:Int,0<=k->k<n->gt v k=if k∈R then(A.rs k,0)else(0,0)
 lv:∀k:Int,0<=k->k<m->gt lf k=(gt A.nx k).length
end
end Go.Proofs.YtmehofoficaelaaGreatDoor
namespace Go.Proofs.YtmehofoficaelaaGreatDoor
open Go Go.AL Classical
set_option maxRecDepth 10000
set_option maxHeartbeats 8000000
attribute [-simp] adP
end Go.Proofs.YtmehofoficaelaaGreatDoor
namespace Go.Proofs.YtmehofoficaelaaGreatDoor
open Go Go.AL Classical
set_option maxRecDepth 10000
set_option maxHeartbeats 16000000
attribute [local simp] HF H5 tp MC
end Go.Proofs.YtmehofoficaelaaGreatDoor
namespace Go.Proofs.YtmehofoficaelaaGreatDoor
open Go Go.AL Classical
set_option maxRecDepth 10000
set_option maxHeartbeats 16000000
attribute [local simp] HF H5 tp MC
section
variable{g:fu}{l:List Pos}{nx:List (List Int)}{part:List Int}{bu:Int}
end
end Go.Proofs.YtmehofoficaelaaGreatDoor
namespace Go.Proofs.YtmehofoficaelaaGreatDoor
open Go Go.AL Classical
set_option maxRecDepth 10000
set_option maxHeartbeats 8000000
def H0(g:fu)(n:Nat)(v:List fq)(lf:List Int):U:=[.row 43 0 g.cells,.row 86 0 (cl fS v),.row 51 0 [.fm 1 0 2 0 n],.row 3 0 (cl f1 lf),.row 37 0 [.fw]]
section
variable{nx:List (List Int)}
end
end Go.Proofs.YtmehofoficaelaaGreatDoor
namespace Go.Proofs.YtmehofoficaelaaGreatDoor
open Go Go.AL Classical
set_option maxRecDepth 10000
set_option maxHeartbeats 8000000
theorem f102(L:List Int)(h0:0<L.length)(m:L.length<=4000000000):Wf T 145 [dI L] [] (Ey D.i λr=>r∈L/\∀x∈L,r<=x):=by
 refine Yg GM ?_;simp[GM];(with_reducible repeat' first|refine Xk ?_<;>try simp|refine Xs ?_ ?_<;>intro h<;>(try intro o)<;>(try simp[h])<;>try omega|refine Xg ?_|omega);refine fE.e ((1,gt L 0):Int×Int) (λy=>[(0,dI L),(3,.i y.2),(4,.i y.1)]) (λy=>[]) (λy=>1<=y.1/\y.1<=L.length/\y.2∈L/\∀j:Int,0<=j->j<y.1->y.2<=gt L j) (λy=>(L.length-y.1).toNat) ?_ ?_
 .refine⟨by simp,by dsimp only;omega,fM (by omega) (by omega),λj j0 j1=>?_⟩;dsimp only at j1 ⊢;rw[show j=0 by omega];exact dA _
 rintro⟨i,r⟩ ⟨i0,d,c,b⟩;dsimp only at i0 d c b ⊢
 by_cases hi:i<L.length
 .simp[hi];refine fo ?_;have k:=fM (l:=L) (n:=i) (by omega) hi;refine LJ.e (i+1,min r (gt L i)) ?_;refine gg ⟨?_,λj j0 j1=>?_⟩
  .dsimp only;rcases(show min r (gt L i)=r\/min r (gt L i)=gt L i by omega)with e|e<;>rw[e]<;>assumption
  .dsimp only at j1 ⊢
   by_cases e:j=i
   .subst e;omega
   .have:=b j j0 (by omega);omega
 .simp[hi];refine fo ?_;refine Ey.i r rfl rfl ⟨c,λx f=>?_⟩;obtain⟨a,g,p,rfl⟩:=w6.1 f;exact b a g (by omega)
theorem f103(L:List Int)(h0:0<L.length)(m:L.length<=4000000000):Wf T 146 [dI L] [] (Ey D.i λr=>r∈L/\∀x∈L,x<=r):=by
 refine Yg GQ ?_;simp[GQ];(with_reducible repeat' first|refine Xk ?_<;>try simp|refine Xs ?_ ?_<;>intro h<;>(try intro o)<;>(try simp[h])<;>try omega|refine Xg ?_|omega);refine fE.e ((1,gt L 0):Int×Int) (λy=>[(0,dI L),(3,.i y.2),(4,.i y.1)]) (λy=>[]) (λy=>1<=y.1/\y.1<=L.length/\y.2∈L/\∀j:Int,0<=j->j<y.1->gt L j<=y.2) (λy=>(L.length-y.1).toNat) ?_ ?_
 .refine⟨by simp,by dsimp only;omega,fM (by omega) (by omega),λj j0 j1=>?_⟩;dsimp only at j1 ⊢;rw[show j=0 by omega];exact dA _
 rintro⟨i,r⟩ ⟨i0,d,c,b⟩;dsimp only at i0 d c b ⊢
 by_cases hi:i<L.length
 .simp[hi];refine fo ?_;have k:=fM (l:=L) (n:=i) (by omega) hi;refine LJ.e (i+1,max r (gt L i)) ?_;refine gg ⟨?_,λj j0 j1=>?_⟩
  .dsimp only;rcases(show max r (gt L i)=r\/max r (gt L i)=gt L i by omega)with e|e<;>rw[e]<;>assumption
  .dsimp only at j1 ⊢
   by_cases e:j=i
   .subst e;omega
   .have:=b j j0 (by omega);omega
 .simp[hi];refine fo ?_;refine Ey.i r rfl rfl ⟨c,λx f=>?_⟩;obtain⟨a,g,p,rfl⟩:=w6.1 f;exact b a g (by omega)
theorem fL.w{T:gO}{f:FuncId}{args:List D}{dst:Option Nat}{s a:St}{K:St->Prop}(hs:s=a)(h:fL T f args dst a K .mk):fL T f args dst s K .mk:=by subst hs;exact h
theorem Wv{l:List fq}{x:fq}{o:Int}(h:x.1=o):jH (l ++ [x]) o=jH l o ++ [x.2]:=by simp[jH,h]
theorem Wu{l:List fq}{x:fq}{o:Int}(h:x.1≠o):jH (l ++ [x]) o=jH l o:=by simp[jH,h]
@[simp] theorem aso(o:Int):jH [] o = []:=rfl
theorem Ws(l:List fq)(o:Int):(jH l o).length<=l.length:=by unfold jH;rw[List.length_map];exact List.length_filter_le _ _
theorem akP{α:Type}[Inhabited α]{l:List α}{i:Int}(i0:0<=i)(a:i<l.length):l.take (i+1).toNat=l.take i.toNat ++ [gt l i]:=by rw[show(i+1).toNat=i.toNat+1 by omega,eF,List.getElem?_eq_getElem (by omega),ey,<-jh i0 a]
theorem aa0(l:List fq)(h0:0<l.length)(N:l.length<=4000000000)(K:∀x∈l,0<=x.2/\x.2<=4000):Wf T 135 [gQ l] [] (Is (.agg [.i (nJ l).1,.i (nJ l).2])):=by
 refine Yg Hi ?_;simp[Hi];refine fE.e ((0,0,0):Int×Nat×Nat) (λy=>[(0,gQ l),(2,.ptr 0 0 0),(3,.fm 1 y.2.1 1 0 (jH (l.take y.1.toNat) 3).length),(4,.fm 2 y.2.2 1 0 (jH (l.take y.1.toNat) 1).length),(9,gQ l),(10,.i l.length),(11,.i y.1)]) (λy=>[.row 86 0 [.i 0,.i 0],.row 3 y.2.1 (cl f1 (jH (l.take y.1.toNat) 3)),.row 3 y.2.2 (cl f1 (jH (l.take y.1.toNat) 1))]) (λy=>0<=y.1/\y.1<=l.length) (λy=>(l.length-y.1).toNat) ?_ ?_
 .simp
 rintro⟨i,s,q⟩ ⟨i0,I⟩;dsimp only at i0 I ⊢;have t:=Ws (l.take i.toNat) 3;have k:=Ws (l.take i.toNat) 1;rw[aK]at t k
 by_cases hi:i<l.length
 .have e:=akP (l:=l) i0 hi;have C:(gt l i).1=3->jH (l.take (i+1).toNat) 3=jH (l.take i.toNat) 3 ++ [(gt l i).2]:=λh=>by rw[e,Wv h]
  have u:(gt l i).1≠3->jH (l.take (i+1).toNat) 3=jH (l.take i.toNat) 3:=λh=>by rw[e,Wu h]
  have D:(gt l i).1=1->jH (l.take (i+1).toNat) 1=jH (l.take i.toNat) 1 ++ [(gt l i).2]:=λh=>by rw[e,Wv h]
  have v:(gt l i).1≠1->jH (l.take (i+1).toNat) 1=jH (l.take i.toNat) 1:=λh=>by rw[e,Wu h]
  obtain⟨A,p⟩:∃A,jH (l.take i.toNat) 3=A:=⟨_,rfl⟩;obtain⟨B,n⟩:∃B,jH (l.take i.toNat) 1=B:=⟨_,rfl⟩;rw[p]at t C u ⊢;rw[n]at k D v ⊢;have fZ:((l.length:Int)-(i+1)).toNat<((l.length:Int)-i).toNat/\0<=i+1/\i+1<=l.length:=by omega
  simp[hi];(with_reducible repeat' first|refine Xk ?_<;>try simp|refine Xs ?_ ?_<;>intro h<;>(try intro O)<;>(try simp[h])<;>try omega|refine Xg ?_|omega)
  .have b:=C ‹_›;have c:=v (by omega);refine LJ.i (i+1,s+1,q) (by simp[b,c]) (by simp[b,c]) rfl rfl fZ
  .have b:=u (by omega);have c:=D ‹_›;refine LJ.i (i+1,s,q+1) (by simp[b,c]) (by simp[b,c]) rfl rfl fZ
  .have b:=u (by assumption);have c:=v (by assumption);refine LJ.i (i+1,s,q) (by simp[b,c]) (by simp[b,c]) rfl rfl fZ
 .have H:i=l.length:=by omega
  subst H;rw[af (by omega)]at *;obtain⟨r,a⟩:∃r,nJ l=r:=⟨_,rfl⟩;have z:∀o,∀y∈jH l o,0<=y/\y<=4000:=λo y J=>by have:=K _ (yD.1 J);exact this
  rw[a];unfold nJ at a;obtain⟨A,p⟩:∃A,jH l 3=A:=⟨_,rfl⟩;obtain⟨B,n⟩:∃B,jH l 1=B:=⟨_,rfl⟩;have w:=z 3;have E:=z 1;rw[p]at t a w ⊢;rw[n]at k a E ⊢;have F:l≠[]:=av.1 h0;simp[hi]
  by_cases f:A = []
  .rw[if_neg (λh=>h f)]at a;subst f
   by_cases g:B.length=l.length
   .rw[if_pos ⟨F,g⟩]at a;subst a;simp[g];refine fo ?_;refine fL.w (by simp;rfl) ?_;refine fL.rq rfl rfl (f103 B (by omega) (by omega)) (by simp[g]) (λ_=>by simp[flat]) (λ_=>by simp) ?_;rintro r ⟨d,j⟩;have M:=VY d;have L:=j _ (Wm (l:=B) λe=>by rw[e]at d;cases d);have e:r=Ct B:=by omega
    have m:=E r d;subst e;simp;exact lZ
   .rw[if_neg (λh=>g h.2)]at a;subst a;simp[g];exact lZ
  .rw[if_pos f]at a;subst a;have G:0<A.length:=av.2 f;simp[G];refine fo ?_;refine fL.w (by simp;rfl) ?_;refine fL.rq rfl rfl (f102 A (by omega) (by omega)) (by simp) (λ_=>by simp[flat]) (λ_=>by simp) ?_;rintro r ⟨d,j⟩;have M:=FA d;have L:=j _ (Cv f);have e:r=uB A:=by omega
   have m:=w r d;subst e;simp;exact lZ
end Go.Proofs.YtmehofoficaelaaGreatDoor
namespace Go.Proofs.YtmehofoficaelaaGreatDoor
open Go Go.AL Classical
set_option maxRecDepth 10000
set_option maxHeartbeats 8000000
attribute [-simp] uZ
theorem aaX(r:fq):Wf T 121 [.agg [.i r.1,.i r.2]] [] (Is (.b (lW r))):=by
 obtain⟨a,b⟩:=r;unfold lW;dsimp only
 by_cases e:a=2
 .subst e
  by_cases c:b=0
  .subst c;refine Yg sV ?_;simp[sV]
  .refine Yg sV ?_;simp[sV,c]
 .by_cases c:a=1
  .subst c;refine Yg sV ?_;simp[sV]
  .by_cases d:a=3
   .subst d;refine Yg sV ?_;simp[sV]
   .refine Yg sV ?_;simp[sV,e,c,d]
theorem aaW(r:fq):Wf T 120 [.agg [.i r.1,.i r.2]] [] (Is (.b (!lW r))):=by have c:=aaX r;obtain⟨b,a⟩:∃b,lW r=b:=⟨_,rfl⟩;rw[a]at c ⊢;refine Yg Hf ?_;simp[Hf];refine Yc (c) ?_;simp
theorem abd(r q:fq):Wf T 187 [.agg [.i r.1,.i r.2],.fH [.i q.1,.i q.2]] [] (Is (.b (decide (r≠q)))):=by obtain⟨a,b⟩:=r;obtain⟨x,y⟩:=q;refine Yg Hr ?_;simp[Hr]
theorem abe(r:fq)(n:Int):Wf T 188 [.agg [.i r.1,.i r.2],.fH [.i n]] [] (Is (.b (decide (r.1≠2/\r.2=n)))):=by
 obtain⟨a,b⟩:=r;dsimp only
 by_cases c:a=2
 .subst c;refine Yg A8 ?_;simp[A8]
 .refine Yg A8 ?_;simp[A8,c]
@[simp] theorem asc(G:jz):vB (uv G []) = -1:=rfl
theorem NJ{H:U}{ck sr n:Nat}{M:Nat->jz}{ow:Nat->Nat×Nat×Nat}{P:Nat->Nat}{Q:Nat->Nat->Nat}{cells:List D}(Y:lY H ck sr n M ow P Q)(ft:jC H.length H)(F:H[ck]? = some (.row 168 0 cells))(E:cells[12]? = some (.fm sr 0 1 0 n))
  {cm:List gx} {i:Int} (i0:0<=i) (J:i<n) (hM:M i.toNat=gw cm i) (oP:∀r∈sd cm i,lW r=true) :
  Wf T 122 [.ptr ck 0 0,.i i] H (λd H'=>d = .i (lx (sd cm i))/\H'=H):=by
 obtain⟨k,_⟩:=Y.mp i.toNat (by omega);have O:=Y.row;rw[hM]at k
 have hj:((List.range n).map λj=>D.fV (P j))[i.toNat]? = some (.fV (P i.toNat)):=by rw[aq,bC (by omega)];rfl
 obtain⟨p,u⟩:∃p,P i.toNat=p:=⟨_,rfl⟩;obtain⟨q,Ag⟩:∃q,Q i.toNat=q:=⟨_,rfl⟩;rw[u]at k hj;rw[Ag]at k;have gU:=(ae.1 k).1;have c:∀G,(H++G)[p]? = some (.map KS (il q 0 (gw cm i))):=λG=>by rw[ah gU,k]
 refine Yg Hg ?_;simp[Hg,F,E,O,u,k,i0,J];(with_reducible repeat' first|refine Xk ?_<;>try simp[F,E,O,u,k,i0,J]|refine Xs ?_ ?_<;>intro h<;>(try intro N)<;>(try simp[h,F,E,O,u,k,i0,J])<;>try omega|refine Xg ?_|omega);refine fE.e (([.iM (.fV p) (gw cm i).length []],[]):U×List Nat) (λy=>[(5,.i (vB (uv (gw cm i) y.2))),(14,.ptr H.length 0 0)]) (λy=>H++y.1) (λy=>y.1[0]? = some (.iM (.fV p) (gw cm i).length y.2)/\y.2.Nodup/\∀t∈y.2,t<(gw cm i).length) (λy=>(gw cm i).length-y.2.length) ?_ ?_
 .exact⟨rfl,.nil,λ_ h=>by cases h⟩
 rintro⟨G,seen⟩ ⟨L,W,S⟩;dsimp only at L W S ⊢;have OM:=(ae.1 L).1;simp;refine tH.at (m:=p) (since:=(gw cm i).length) (seen:=seen) (kk:=KS) (es:=il q 0 (gw cm i)) (by simp[L]) (by simp[c]) (by simp) (λI=>?_) λt kv dv K hi=>?_
 .have I:∀t,t<(gw cm i).length->t∈seen:=by simpa using I
  have B1:=adG I S
  have wG:vB (uv (gw cm i) seen)=lx (sd cm i):=by
   rw[ad6 λr hr a=>?_]
   .exact ad8 B1
   .have:=oP r ((B1 r).1 hr);unfold lW at this;simp only[decide_eq_true_eq]at this;rcases this with rfl|h
    .exact absurd rfl a
    .exact h.2
  simp;refine fo ?_;simp[yA ft,wG]
 .rw[wi]at K;obtain⟨x,w,jV⟩:=aj.1 K;cases jV;have B:=Ml W S (ae.1 w).1 hi;have f:(il q 0 (gw cm i))[t]? = some (kJ x.1,oI (q t) x.2):=by rw[wi,w];simp
  have C:=adH (seen:=seen) w;obtain⟨ks,V⟩:∃ks,uv (gw cm i) seen=ks:=⟨_,rfl⟩;rw[V]at C ⊢;obtain⟨m,Z⟩:∃m,vB ks=m:=⟨_,rfl⟩;have X:vB (uv (gw cm i) (seen ++ [t]))=uz m x.1:=by rw[C,ad7,Z]
  obtain⟨o,A⟩:∃o,G.set 0 (.iM (.fV p) (gw cm i).length (seen ++ [t]))=o:=⟨_,rfl⟩;have b:o[0]? = some (.iM (.fV p) (gw cm i).length (seen ++ [t])):=by rw[<-A,aX OM]
  have e:(H++G).set H.length (.iM (.fV p) (gw cm i).length (seen ++ [t]))=H++o:=by rw[Sf,A]
  have K5:=(ae.1 b).1;have zV:∀(R:U),(o++R)[0]? = some (.iM (.fV p) (gw cm i).length (seen ++ [t])):=λR=>by rw[ah K5];exact b
  have vi:(gw cm i).length-(seen ++ [t]).length<(gw cm i).length-seen.length:=by have:=B.2.2;rw[ar,cy]at this ⊢;omega
  have z:∀ {R:U} {v:Int},v=uz m x.1->LJ (λy:U×List Nat=>[(5,.i (vB (uv (gw cm i) y.2))),(14,.ptr H.length 0 0)]) (λy=>H++y.1) [] false (λs=>(gw cm i).length-s.2.length<(gw cm i).length-seen.length/\s.1[0]? = some (.iM (.fV p) (gw cm i).length s.2)/\s.2.Nodup/\∀t∈s.2,t<(gw cm i).length) .mk [(5,.i v),(14,.ptr H.length 0 0)] (H++(o++R)) [] false:=λ{R v} hv=>by subst hv;exact LJ.i (o++R,seen ++ [t]) (by simp[X]) rfl rfl rfl ⟨vi,zV _,B.1,B.2.1⟩
  rw[e,Z];obtain⟨⟨r1,r2⟩,ls⟩:=x;dsimp only at *;clear A e C X V K w
  by_cases a:r1=2
  .subst a;simp[c,f,b];refine pR c f b ?_;refine z ?_;simp[uz]
  .by_cases g:m<0
   .simp[c,f,b,a,g];(with_reducible repeat' first|refine Xk ?_<;>try simp[c,f,b,a,g]|refine Xs ?_ ?_<;>intro h<;>(try intro N)<;>(try simp[h,c,f,b,a,g])<;>try omega|refine Xg ?_|omega);refine z ?_;simp[uz,a,g]
   .by_cases l:r2<m
    .simp[c,f,b,a,g,l];(with_reducible repeat' first|refine Xk ?_<;>try simp[c,f,b,a,g,l]|refine Xs ?_ ?_<;>intro h<;>(try intro N)<;>(try simp[h,c,f,b,a,g,l])<;>try omega|refine Xg ?_|omega);refine z ?_;simp[uz,a,l]
    .simp[c,f,b,a,g,l];(with_reducible repeat' first|refine Xk ?_<;>try simp[c,f,b,a,g,l]|refine Xs ?_ ?_<;>intro h<;>(try intro N)<;>(try simp[h,c,f,b,a,g,l])<;>try omega|refine Xg ?_|omega);refine z ?_;simp[uz,a,g,l]
end Go.Proofs.YtmehofoficaelaaGreatDoor
namespace Go.Proofs.YtmehofoficaelaaGreatDoor
open Go Go.AL Classical
theorem VR(a b:Int):AL.keyOf (.agg [.i a,.i b])=some (kJ (a,b)):=rfl
theorem UC(r:fq):KS.has (kJ r)=true:=rfl
theorem aau(Q:Nat->Nat){G:jz}{i t:Nat}{k:Value}{d:D}(h:(il Q i G)[t]? = some (k,d)):(il Q i G).set t (k,d)=il Q i G:=by obtain⟨h1,a⟩:=ae.1 h;rw[<-a,dQ]
theorem aeg{H:U}{v t:Nat}{q:Nat->Nat}{G:jz}{r:fq}{x:List Int}(c:H[v]? = some (.map KS (il q 0 G)))(b:mS r G=some (t,x)) :
  wZ KS .fw (.fV v) (.agg [.i r.1,.i r.2]) H=some (.tup [oI (q t) x,.i t],.obj v (.map KS (il q 0 G))):=by
 have h1:=P0 q r G 0 0;rw[b]at h1;simp only[aD,aL]at h1;have a:=P3 q r (oI (q t) x) G 0;rw[b]at a
 have d:(il q 0 G)[t]? = some (kJ r,oI (q t) x):=by rw[wi,(xW (k:=0) b).1];simp
 dsimp only at a;rw[aau q d]at a;unfold wZ;rw[VR];simp only[PW,c,mapOf];rw[if_pos ⟨trivial,UC _⟩,h1];dsimp only;rw[a]
theorem aef{H:U}{v:Nat}{q:Nat->Nat}{G:jz}{r:fq}(c:H[v]? = some (.map KS (il q 0 G)))(b:mS r G=none) :
  wZ KS .fw (.fV v) (.agg [.i r.1,.i r.2]) H=some (.tup [.fw,.i G.length],.obj v (.map KS (il q 0 G ++ [(kJ r,.fw)]))):=by
 have h1:=P0 q r G 0 0;rw[b]at h1;simp only[Option.map_none]at h1;have a:=P3 q r .fw G 0;rw[b]at a;dsimp only at a;unfold wZ;rw[VR];simp only[PW,c,mapOf];rw[if_pos ⟨trivial,UC _⟩,h1];dsimp only;rw[a,zo]
theorem Te{H:U}{v t:Nat}{es:List (Value×D)}{k:Value}{d0 d:D}(a:H[v]? = some (.map KS es))(b:es[t]? = some (k,d0)) :
  zk (.fV v) (.i t) d H=some (.any,.obj v (.map KS (es.set t (k,d)))):=by
 unfold zk;simp only[PW,a,mapOf,b9,b];rw[if_pos (by omega)]
theorem uH{n m:Nat}(h:n<=m){d:D}(a:mi n d=true):mi m d=true:=by cases d<;>first|exact a|(simp only[mi,decide_eq_true_eq]at a ⊢;omega)
theorem Dy{n m:Nat}(h:n<=m){cs:List D}(b:cs.all (mi n)=true):cs.all (mi m)=true:=
 List.all_eq_true.2 λd a=>uH h (List.all_eq_true.1 b d a)
theorem Gd{n m:Nat}(h:n<=m){d:D}(c:kh n d=true):kh m d=true:=by
 cases d with
 | agg cs=>exact Dy h c
 | tup cs=>exact Dy h c
 | fH cs=>exact Dy h c
 | fn f a b=>
  simp only[kh,Bool.and_eq_true]at c ⊢;exact⟨Dy h c.1,Dy h c.2⟩
 | any=>exact uH (n:=n) (d:=.any) h c
 | val v=>exact uH (n:=n) (d:=.val v) h c
 | sl sz es=>exact uH (n:=n) (d:=.sl sz es) h c
 | fm v g sz off len=>exact uH (n:=n) (d:=.fm v g sz off len) h c
 | fw=>exact uH (n:=n) (d:=.fw) h c
 | ptr v g off=>exact uH (n:=n) (d:=.ptr v g off) h c
 | fV v=>exact uH (n:=n) (d:=.fV v) h c
 | iw v=>exact uH (n:=n) (d:=.iw v) h c
 | kZ vs=>exact uH (n:=n) (d:=.kZ vs) h c
theorem WH{n m:Nat}(h:n<=m){o:Ob}(a:nP n o=true):nP m o=true:=by
 cases o with
 | row t g cs=>exact List.all_eq_true.2 λd b=>Gd h (List.all_eq_true.1 a d b)
 | map kk es=>exact List.all_eq_true.2 λd b=>Gd h (List.all_eq_true.1 a d b)
 | gM rf env st=>exact List.all_eq_true.2 λd b=>Gd h (List.all_eq_true.1 a d b)
 | q'=>rfl
 | iM m since seen=>exact uH h a
 | km=>rfl
 | dead=>rfl
 | kR=>cases a
theorem FK{n m:Nat}{H:U}(h:n<=m)(b:jC n H):jC m H:=λo a=>WH h (b o a)
theorem yF{n:Nat}{H G:U}(h:jC n H)(b:jC n G):jC n (H++G):=λo a=>by
 rcases List.mem_append.1 a with a|a
 .exact h o a
 .exact b o a
end Go.Proofs.YtmehofoficaelaaGreatDoor
namespace Go.Proofs.YtmehofoficaelaaGreatDoor
open Go Go.AL Classical
def oset(ow:Nat->Nat×Nat×Nat)(v:Nat)(a:Nat×Nat×Nat):Nat->Nat×Nat×Nat:=λw=>if w=v then a else ow w
theorem WW(ow:Nat->Nat×Nat×Nat)(v:Nat)(a:Nat×Nat×Nat):oset ow v a v=a:=if_pos rfl
theorem AG{ow:Nat->Nat×Nat×Nat}{v w:Nat}{a:Nat×Nat×Nat}(h:w≠v):oset ow v a w=ow w:=if_neg h
theorem mG{H:U}{v:Nat}{o:Ob}(h:H[v]? = some o):v<H.length:=(ae.1 h).1
theorem ln{H G:U}{v:Nat}{o:Ob}(h:H[v]? = some o):(H++G)[v]? = some o:=by rw[ah (mG h)];exact h
theorem lY.own{H:U}{ck sr n:Nat}{M:Nat->jz}{ow:Nat->Nat×Nat×Nat}{P:Nat->Nat}{Q:Nat->Nat->Nat}(h:lY H ck sr n M ow P Q){v:Nat}(g:H.length<=v)(f:ck<v)(a:Nat×Nat×Nat):lY H ck sr n M (oset ow v a) P Q:=by
 have ne:∀ {w o},H[w]? = some o->w≠v:=λe=>by have:=mG e;omega
 refine⟨?_,?_,h.row,λj b=>?_,λj b t x d=>?_⟩
 .rw[AG (by omega)];exact h.fc
 .rw[AG (ne h.row)];exact h.fs
 .obtain⟨h1,c⟩:=h.mp j b;exact⟨h1,by rw[AG (ne h1)];exact c⟩
 .obtain⟨h1,c⟩:=h.ls j b t x d;exact⟨h1,by rw[AG (ne h1)];exact c⟩
def YB(Hc:U)(ow:Nat->Nat×Nat×Nat)(bad:List Int)(d:D):Prop:=
 (bad = []/\d = .fw)\/(bad≠[]/\∃v g,d = .fm v g 1 0 bad.length/\Hc[v]? = some (.row 3 g (cl f1 bad))/\ow v=(4,0,0))
structure HI(H0 Hc:U)(ck sr n:Nat)(C:Ob)(M:Nat->jz)(bad:List Int)(d:D)(b:Option (Nat×Ob))(ow:Nat->Nat×Nat×Nat)(P:Nat->Nat)(Q:Nat->Nat->Nat):Prop where
 sg:lY Hc ck sr n M ow P Q
 ct:Hc[ck]? = some C
 ok:jC Hc.length Hc
 lt:ck<H0.length
 kp:∀v o,H0[v]? = some o->v≠ck->Hc[v]? = some o/\ow v=(5,0,0)
 bd:YB Hc ow bad d
 bx:∀p,b=some p->Hc[p.1]? = some p.2/\ow p.1=(6,0,0)
section
variable{H0 Hc:U}{ck sr n:Nat}{C:Ob}{M:Nat->jz}{bad:List Int}{d:D}{b:Option (Nat×Ob)}{ow:Nat->Nat×Nat×Nat}{P:Nat->Nat}{Q:Nat->Nat->Nat}
theorem HI.more(h:HI H0 Hc ck sr n C M bad d b ow P Q){o:Ob}(l:nP (Hc.length+1) o=true)(a:Nat×Nat×Nat):HI H0 (Hc ++ [o]) ck sr n C M bad d b (oset ow Hc.length a) P Q:=by
 have ne:∀ {w o},Hc[w]? = some o->w≠Hc.length:=λj=>by have:=mG j;omega
 refine⟨(h.sg.own (Nat.le_refl _) (mG h.ct) a).mono λv o e _=>ln e,ln h.ct,?_,h.lt,λv o e m=>?_,?_,λp k=>?_⟩
 .rw[ar,cy];refine yF (FK (by omega) h.ok) λx i=>?_;rw[List.mem_singleton.1 i];exact l
 .obtain⟨h1,c⟩:=h.kp v o e m;exact⟨ln h1,by rw[AG (ne h1)];exact c⟩
 .rcases h.bd with h1|⟨h1,v,g,c,f,q⟩
  .exact .inl h1
  .exact .inr ⟨h1,v,g,c,ln f,by rw[AG (ne f)];exact q⟩
 .obtain⟨h1,c⟩:=h.bx p k;exact⟨ln h1,by rw[AG (ne h1)];exact c⟩
theorem HI.box(h:HI H0 Hc ck sr n C M bad d b ow P Q){o:Ob}(c:nP (Hc.length+1) o=true):HI H0 (Hc ++ [o]) ck sr n C M bad d (some (Hc.length,o)) (oset ow Hc.length (6,0,0)) P Q:=by
 have h1:=h.more c (6,0,0)
 exact⟨h1.sg,h1.ct,h1.ok,h1.lt,h1.kp,h1.bd,λp a=>by
  cases a
  exact⟨by rw[ai (by omega),cj];rfl,WW _ _ _⟩⟩
theorem HI.nob(h:HI H0 Hc ck sr n C M bad d b ow P Q):HI H0 Hc ck sr n C M bad d none ow P Q:=⟨h.sg,h.ct,h.ok,h.lt,h.kp,h.bd,λ_ a=>by cases a⟩
theorem HI.Sh(h:HI H0 Hc ck sr n C M [] .fw b ow P Q)(k:Int):∃a,HI H0 (Hc ++ [pI [k]]) ck sr n C M [k] (.fm Hc.length 0 1 0 1) b a P Q:=by have h1:=h.more (o:=pI [k]) (by unfold pI;exact FM _) (4,0,0);exact⟨_,h1.sg,h1.ct,h1.ok,h1.lt,h1.kp,.inr ⟨by simp,_,_,rfl,by rw[ai (by omega),cj];rfl,WW _ _ _⟩,h1.bx⟩
theorem HI.Si{v g:Nat}{k:Int}(h:HI H0 Hc ck sr n C M bad (.fm v g 1 0 bad.length) b ow P Q)(r:bad≠[])(f:Hc[v]? = some (.row 3 g (cl f1 bad)))(l:ow v=(4,0,0)) :
  HI H0 (Hc.set v (.row 3 (g+1) (cl f1 (bad ++ [k])))) ck sr n C M (bad ++ [k]) (.fm v (g+1) 1 0 (bad.length+1)) b ow P Q:=by
 have hl:=mG f;have key:∀w o,Hc[w]? = some o->ow w≠(4,0,0)->(Hc.set v (.row 3 (g+1) (cl f1 (bad ++ [k]))))[w]? = some o:=λw o d q=>by grind
 refine⟨?_,key _ _ h.ct (by rw[h.sg.fc];simp),?_,h.lt,λw o d m=>?_,.inr ⟨by simp,v,g+1,by simp,by rw[aX hl],l⟩,λp i=>?_⟩
 .refine⟨h.sg.fc,h.sg.fs,key _ _ h.sg.row (by rw[h.sg.fs];simp),λj c=>?_,λj c t x e=>?_⟩
  .obtain⟨h1,a⟩:=h.sg.mp j c;exact⟨key _ _ h1 (by rw[a];simp),a⟩
  .obtain⟨h1,a⟩:=h.sg.ls j c t x e;exact⟨key _ _ h1 (by rw[a];simp),a⟩
 .rw[aF];exact AE h.ok (FM _)
 .obtain⟨h1,a⟩:=h.kp w o d m;exact⟨key _ _ h1 (by rw[a];simp),a⟩
 .obtain⟨h1,a⟩:=h.bx p i;exact⟨key _ _ h1 (by rw[a];simp),a⟩
theorem HI.rest{f:U}{k:Nat->jz}{j:Nat->Nat×Nat×Nat}{Q':Nat->Nat->Nat}(h:HI H0 Hc ck sr n C M bad d b ow P Q)(hs:lY f ck sr n k j P Q')(ft:jC f.length f)
  (i:∀v o,Hc[v]? = some o->ow v=(0,0,0)\/ow v=(4,0,0)\/ow v=(5,0,0)\/ow v=(6,0,0)->f[v]? = some o/\j v=ow v):HI H0 f ck sr n C k bad d b j P Q':=by
 refine⟨hs,(i _ _ h.ct (.inl h.sg.fc)).1,ft,h.lt,λw o l q=>?_,?_,λp m=>?_⟩
 .obtain⟨h1,a⟩:=h.kp w o l q;obtain⟨e,c⟩:=i _ _ h1 (.inr (.inr (.inl a)));exact⟨e,c.trans a⟩
 .rcases h.bd with h1|⟨h1,v,g,a,e,c⟩
  .exact .inl h1
  .obtain⟨s,r⟩:=i _ _ e (.inr (.inl c));exact .inr ⟨h1,v,g,a,s,r.trans c⟩
 .obtain⟨h1,a⟩:=h.bx p m;obtain⟨e,c⟩:=i _ _ h1 (.inr (.inr (.inr a)));exact⟨e,c.trans a⟩
theorem HI.old(h:HI H0 Hc ck sr n C M bad d b ow P Q){j t:Nat}{r:fq}{x:List Int}{k:Int}(f:j<n)(i:mS r (M j)=some (t,x)) :
  HI H0 ((Hc.set (Q j t) (pI (x ++ [k]))).set (P j) (.map KS ((il (Q j) 0 (M j)).set t (kJ r,oI (Q j t) (x ++ [k]))))) ck sr n C (uJ M j (mR r k (M j))) bad d b ow P Q:=by
 obtain⟨q,_⟩:=xW (k:=k) i;obtain⟨m,g⟩:=h.sg.mp j f;obtain⟨q1,q2⟩:=h.sg.ls j f t _ q;have s:P j≠Q j t:=λe=>by rw[e,q2]at g;simp at g
 have key:∀v o,Hc[v]? = some o->v≠P j->v≠Q j t->((Hc.set (Q j t) (pI (x ++ [k]))).set (P j) (.map KS ((il (Q j) 0 (M j)).set t (kJ r,oI (Q j t) (x ++ [k])))))[v]? = some o:=λv o a h1 l=>by grind
 refine h.rest (h.sg.old f i ?_ ?_ λv o a h1 l _=>key v o a h1 l) ?_ λv o a u=>⟨key v o a (λe=>?_) (λe=>?_),rfl⟩
 .grind
 .grind
 .rw[aF,aF];refine AE (AE h.ok (by unfold pI;exact FM _)) ?_;have p:=h.ok _ (List.mem_of_getElem? m);refine List.all_eq_true.2 λy c=>?_;rcases dm c with c|rfl
  .exact List.all_eq_true.1 p y c
  .show decide (Q j t<Hc.length)=true;exact decide_eq_true (mG q1)
 .grind
 .grind
theorem HI.new(h:HI H0 Hc ck sr n C M bad d b ow P Q){j:Nat}{r:fq}{k:Int}(l:j<n)(p:mS r (M j)=none) :
  ∃c Q',HI H0 ((Hc.set (P j) (.map KS (il (Q j) 0 (M j) ++ [(kJ r,oI Hc.length [k])]))) ++ [pI [k]]) ck sr n C (uJ M j (mR r k (M j))) bad d b c P Q'/\∀w,w<Hc.length->c w=ow w:=by
 obtain⟨g,s⟩:=h.sg.mp j l;have key:∀v o,Hc[v]? = some o->v≠P j->((Hc.set (P j) (.map KS (il (Q j) 0 (M j) ++ [(kJ r,oI Hc.length [k])]))) ++ [pI [k]])[v]? = some o:=λv o i h1=>by grind
 obtain⟨c,Q',hs,f⟩:=h.sg.new (H':=(Hc.set (P j) (.map KS (il (Q j) 0 (M j) ++ [(kJ r,oI Hc.length [k])]))) ++ [pI [k]]) (v:=Hc.length) (k:=k) l p (mG h.ct) (Nat.le_refl _)
  (by rw[ah (by rw[aF];exact mG g),aX (mG g)]) (by rw[ai (by rw[aF];omega),aF,cj];rfl) λw o f h1 _=>key w o f h1
 refine⟨c,Q',h.rest hs ?_ λv o i t=>⟨key v o i λe=>?_,f v (by have:=mG i;omega)⟩,λw hl=>f w (by omega)⟩
 .rw[ar,aF,cy];refine yF (AE (FK (by omega) h.ok) ?_) λx m=>?_
  .have q:=h.ok _ (List.mem_of_getElem? g);refine List.all_eq_true.2 λy a=>?_;rcases List.mem_append.1 a with a|a
   .exact Gd (by omega) (List.all_eq_true.1 q y a)
   .rw[List.mem_singleton.1 a];show decide (Hc.length<Hc.length+1)=true;exact decide_eq_true (by omega)
  .rw[List.mem_singleton.1 m];unfold pI;exact FM _
 .grind
end
def ox(b n k:Nat):List D:=(List.range n).map λj=>if j<k then D.fV (b+(j+1))else .val (.map none)
theorem ajV(b n:Nat):ox b n 0=List.replicate n (.val (.map none)):=by unfold ox;refine b6 (by simp) λi h1 a=>by simp
theorem XE(b n k:Nat):(ox b n k).length=n:=by simp[ox]
theorem ajW(b n:Nat):ox b n n=(List.range n).map λj=>D.fV (b+(j+1)):=by unfold ox;refine ao λj a=>?_;rw[a7]at a;rw[if_pos a]
theorem ajX{b n k:Nat}(h:k<n):(ox b n k).take k ++ .fV (b+(k+1))::(ox b n k).drop (k+1)=ox b n (k+1):=by
 refine bL λi=>?_;have hl:((ox b n k).take k).length=k:=by rw[aK,XE];omega
 by_cases h1:i<k
 .rw[ah (by omega),List.getElem?_take_of_lt h1];unfold ox;rw[aq,aq,bC (by omega)];simp only[aD];rw[if_pos h1,if_pos (by omega)]
 .rw[ai (by omega),hl]
  by_cases a:i=k
  .subst a;rw[cj,eU];unfold ox;rw[aq,bC h];simp only[aD];rw[if_pos (by omega)]
  .rw[show i-k=(i-k-1)+1 by omega,cU,aH,show k+1+(i-k-1)=i by omega];unfold ox;rw[aq,aq]
   by_cases c:i<n
   .grind
   .grind
theorem HI.start{H:U}{ck n:Nat}{o C:Ob}(ft:jC H.length H)(e:H[ck]? = some o)(g:nP (H.length+1) C=true) :
  ∃ow P Q,HI H (H.set ck C++(.row 170 0 (ox H.length n n)::List.replicate n (.map KS []))) ck H.length n C (λ_=>[]) [] .fw none ow P Q:=by
 have hl:=mG e;have h:∀j,j<n->(H.set ck C++(.row 170 0 (ox H.length n n)::List.replicate n (.map KS [])))[H.length+(j+1)]? = some (.map KS []):=λj a=>by grind
 refine⟨λv=>if v=ck then(0,0,0)else if v<H.length then(5,0,0)else if v=H.length then(1,0,0)else(2,v-H.length-1,0),λj=>H.length+(j+1),λ_ _=>0,⟨?_,?_,?_,λj a=>?_,λj a t x b=>?_⟩,?_,?_,hl,λv x i k=>⟨?_,?_⟩,.inl ⟨rfl,rfl⟩,λp f=>by cases f⟩
 .grind
 .grind
 .rw[ai (by rw[aF];omega),aF,cj,eU,ajW]
 .refine⟨h j a,?_⟩;rw[if_neg (by omega),if_neg (by omega),if_neg (by omega)];congr 2;omega
 .cases b
 .grind
 .rw[ar,aF,aG,dT];refine yF (AE (FK (by omega) ft) (WH (by omega) g)) λx b=>?_;rcases aw.1 b with rfl|b
  .refine List.all_eq_true.2 λd c=>?_;unfold ox at c;obtain⟨j,a,rfl⟩:=au.1 c;rw[a7]at a;rw[if_pos a];exact decide_eq_true (by omega)
  .simp_all
 .grind
 .grind
end Go.Proofs.YtmehofoficaelaaGreatDoor
namespace Go.Proofs.YtmehofoficaelaaGreatDoor
open Go Go.AL Classical
set_option maxRecDepth 10000
set_option maxHeartbeats 16000000
theorem adv{p:gx->Bool}{L:List Cw}{k:Int}(k0:0<=k)(a:k<L.length):jx p (cs L) (k+1).toNat=if p (gt L k).c=true then jx p (cs L) k.toNat ++ [k]else jx p (cs L) k.toNat:=by
 have b:gt (cs L) k=(gt L k).c:=by unfold cs;rw[jh k0 (by rw[List.length_map];exact a),jh k0 a,List.getElem_map]
 rw[show(k+1).toNat=k.toNat+1 by omega,jx,show((k.toNat:Nat):Int)=k by omega,b]
theorem Z2(L:List Cw):(cs L).length=L.length:=by simp[cs]
theorem Sg{cl:List gx}{n:Nat}(h:0<=lR cl n):lR cl n<n/\l4 (sd cl (lR cl n))=true:=by
 rcases JH cl n with⟨h1,_⟩|⟨h1,a,_⟩
 .omega
 .exact⟨h1.2,a⟩
