/- 40 -/
import Derived.Test.YtmehofoficaelaaGreatDoorV38
import Derived.Test.YtmehofoficaelaaGreatDoorV39
import Derived.Test.YtmehofoficaelaaGreatDoorV26
set_option linter.all false
open List renaming all_eq_true→aE,getElem?_eq_getElem→bs,length_map→b4,mem_singleton→cc,length_filter_le→cp,mem_of_getElem?→di,replicate→dr,range→dx,length→List.l
open Option renaming some→bb,none→en
open Bool renaming true→eh,false→ek
open Int renaming toNat→Int.n
namespace Go.Proofs.YtmehofoficaelaaGreatDoor
open Go Go.AL Classical
set_option maxRecDepth 10000
set_option maxHeartbeats 8000000
section
variable{H G R:gd}{k j:Nat}{o o':Ob}
@[simp] theorem UR:(H++G).set H.l o=H++G.set 0 o:=by rw[dA _ _ U,bW]
end
section
variable{id n:Nat}{live keys:List Nat}{K:jb}{s:St}{J:Env->gd->List Nat->Bool->Prop}
@[simp ↓ high] theorem arN:xT id n (9999::live) K (.norm s)=K (.norm { s with env:=forget (9999::live) s.env }):=by rw[UY,P6]
@[simp ↓ high] theorem arQ:xT id n (9999::live) K (.exit id s)=K (.norm { s with env:=forget (9999::live) s.env }):=by rw[UZ,P6]
@[simp ↓ high] theorem avR:wj n (9999::live) keys J K (.norm s)=J (forget keys (forget (9999::live) s.env)) s.H s.marks s.iG:=by rw[Zv,P6]
end
@[simp] theorem au6(r:gg):sM (lJ r) = .agg [.i r.1,.i r.2]:=rfl
theorem ahb{n:Nat}{H G:gd}{v g:Nat}{x:List Int}(k:H.l=n)(c:jz n H)(f:G[v]? = bb (.row 3 g (cl f1 x)))(e:x≠[]) :
  leave 0 n (H++G) (.gf (n+v) g 1 0 x.l)=(dN 1 f1 x,H):=by
 have m:=(ae.1 f).1
 have l:(((H++G).take n).map (o9 n)).flatten = []:=flatten_nil λo b=>by rw[aW U,af U]at b;exact S5 (c o b)
 have d:iR (jn n []) (n+v)=none:=by unfold iR jn;rw[List.map_nil,aB,dJ];intro p j;obtain⟨u,h,rfl⟩:=az.1 j;rw[bp]at h;have:u≠n+v:=U;simpa using this
 have i:AL.rowAt (H++G) (n+v) g=bb (3,cl f1 x):=n9;unfold leave;rw[if_neg (by rw[aq];omega)];simp only;rw[l];show(gw (iR (jn n [])) (H++G) 40 _,rD (jn n []) (H++G))=_;rw[I2 k c,AL.TH,d,aaZ,i,vx rfl];refine dh ?_ rfl
 cases x with
 | nil=>exact absurd rfl e
 | cons a r=>rfl
def aeN:Wf T 126 [.val (.int .u64 0)] [] (Is (.i 0)):=pc (k:=40) gu
def aeS{H:gd}:Wf T 189 [.gi,.i 0,.i 0] H (λd H'=>d = .tup []/\H'=H):=by refine Yg Lh ?_;simp[Lh];refine gx.un ?_;refine kU.u ?_;simp
def aeT{H:gd}:Wf T 125 [.gi,.i 0,.i 0,.i 0] H (λd H'=>d = .tup []/\H'=H):=by refine Yg K2 ?_;simp[K2];refine gx.un ?_;refine kU.u ?_;simp;refine gy.lr rfl rfl aeS ?_;rintro _ H' ⟨rfl,rfl⟩;simp
def Wv{H:gd}:Wf T 67 [.gi] H (λd H'=>d = .tup []/\H'=H):=by refine Yg KG ?_;simp[KG];refine Yc (aeN) ?_;simp;refine gy.lr rfl rfl aeT ?_;rintro _ H' ⟨rfl,rfl⟩;simp
def abK(n:Nat)(G:gd)(out:List Int)(d:D):Prop:=(out = []/\d = .gi)\/(out≠[]/\∃v g,d = .gf (n+(v+1)) g 1 0 out.l/\G[v+1]? = bb (.row 3 g (cl f1 out)))
def Ap{H G:gd}{d:D}(gp:jz H.l H)(a:jG H.l d=eh):leave 0 H.l (H++G) d=(d,H):=aha rfl gp a
attribute [-simp] uK
def Qm{H:gd}{ck sr n:Nat}{M:Nat->kn}{ow:Nat->Nat×Nat×Nat}{P:Nat->Nat}{Q:Nat->Nat->Nat}{cells:List D}(Y:mw H ck sr n M ow P Q)(gp:jz H.l H)(F:H[ck]? = bb (.row 168 0 cells))(S:cells[12]? = bb (.gf sr 0 1 0 n))
  {cm:List gV} (h8:cm.l<=100000) {i:Int} (i0:0<=i) (i1:i<n) (hM:M i.n=gU cm i) {w:gg->Bool} {Qt:FuncId} {cap:List D}
  (hw:∀(r:gg) (dst:Option Nat) (s:St) (K:St->Prop),(∀(v:Nat) (o:Ob),H[v]? = bb o->s.H[v]? = bb o)->K { s with env:=put s.env dst (.b (w r)) }->gy T Qt (.agg [.i r.1,.i r.2]::cap) dst s K .mk) :
  Wf T 119 [.ptr ck 0 0,.i i,.fn (.func Qt) [] cap] H (λd H'=>d=dN 1 f1 (km (λc=>mR c i&&w (mb c i)) cm cm.l)/\H'=H):=by
 obtain⟨u,_⟩:=Y.mp i.n U;have Z:=Y.ls i.n U;have W:=Y.row;rw[hM]at u Z;have hj:((dx n).map λj=>D.gH (P j))[i.n]? = bb (.gH (P i.n)):=jS;obtain⟨p,I⟩:∃p,P i.n=p:=⟨_,rfl⟩;obtain⟨q,yy⟩:∃q,Q i.n=q:=⟨_,rfl⟩;rw[I]at u hj;rw[yy]at u Z;have X:i<(n:Int):=i1;have sB:=(ae.1 F).1;have iP:=(ae.1 u).1;have O:∀G,(H++G)[p]? = bb (.map KS (jd q 0 (gU cm i))):=λG=>by rw[ah iP,u]
 refine Yg JQ ?_;simp[JQ,F,S,W,I,u,i0,X];(with_reducible repeat' first|refine Xk ?_<;>try simp[F,S,W,I,u,i0,X]|refine Xs ?_ ?_<;>intro h<;>(try intro h')<;>(try simp[h,F,S,W,I,u,i0,X])<;>try omega|refine Xg ?_|omega);refine gx.e (([.jo (.gH p) (gU cm i).l []],[],[],.gi):gd×List Nat×List Int×D) (λy=>[(2,.fn (.func Qt) [] cap),(7,y.2.2.2),(17,.ptr H.l 0 0)]) (λy=>H++y.1) (λy=>y.1[0]? = bb (.jo (.gH p) (gU cm i).l y.2.1)/\tu cm i w y.2.1 y.2.2.1/\abK H.l y.1 y.2.2.1 y.2.2.2) (λy=>(gU cm i).l-y.2.1.l) ?_ ?_
 .exact⟨rfl,tu.start,.inl ⟨rfl,rfl⟩⟩
 rintro⟨G,seen,out,d⟩ ⟨hG,hS,N⟩;dsimp only at hG hS N ⊢;have Eb:=(ae.1 hG).1;have Ej:=hS.len;simp;refine uC.at (m:=p) (since:=(gU cm i).l) (seen:=seen) (kk:=KS) (es:=jd q 0 (gU cm i)) (by simp[hG]) (by simp[O]) fZ (λV=>?_) λt kv dv he hi=>?_
 .have V:∀t,t<(gU cm i).l->t∈seen:=by simpa using V
  have D6:=hS.done V;simp;refine gh ?_;rcases N with⟨rfl,rfl⟩|⟨L,v,g,rfl,f⟩
  .refine gy.lr rfl rfl Wv ?_;rintro _ H' ⟨rfl,rfl⟩;have:km (λc=>mR c i&&w (mb c i)) cm cm.l = []:=by rw[<-D6];simp
   rw[this];simp[Ap gp,dN]
  .refine gy.lr rfl rfl (f160 (l:=out) (t:=3) (K:=λd H'=>d = .tup []/\H'=H++G.set (v+1) (.row 3 g (cl f1 (km (λc=>mR c i&&w (mb c i)) cm cm.l)))) (ay.2 L) U (by simp[f]) ⟨rfl,by simp[D6]⟩) ?_;rintro _ H' ⟨rfl,rfl⟩;have C:(km (λc=>mR c i&&w (mb c i)) cm cm.l).l=out.l:=by rw[<-D6,eC]
   have o5:=ahb (G:=G.set (v+1) (.row 3 g (cl f1 (km (λc=>mR c i&&w (mb c i)) cm cm.l)))) (v:=v+1) (g:=g) rfl gp (by rw[aN (ae.1 f).1]) (λe=>L (aA.1 (by rw[<-C,e];rfl)));rw[C]at o5;simp[o5]
 .rw[vt]at he;obtain⟨x,B,kR⟩:=ao.1 he;cases kR;rw[aR]at *;obtain⟨Yo,_⟩:=Z t x B;have ij:=(Nn B).2;have z:=hS.step B hi;have pW:=IZ hS.nd hS.lt (ae.1 B).1 hi;have Et:=(ae.1 Yo).1;have A:∀G,(H++G)[q t]? = bb (.row 3 (x.2.l-1) (cl f1 x.2)):=λG=>by rw[ah Et,Yo];rfl
  have jV:(jd q 0 (gU cm i))[t]? = bb (lJ x.1,oI (q t) x.2):=by rw[vt,B];simp
  obtain⟨a,BA⟩:∃a,G.set 0 (.jo (.gH p) (gU cm i).l (seen ++ [t]))=a:=⟨_,rfl⟩;have E:a[0]? = bb (.jo (.gH p) (gU cm i).l (seen ++ [t])):=by rw[<-BA,aN Eb]
  have QW:∀(v:Nat) (o:Ob),G[v+1]? = bb o->a[v+1]? = bb o:=λv o f=>by rw[<-BA,aM U];exact f
  have e:(H++G).set H.l (.jo (.gH p) (gU cm i).l (seen ++ [t]))=H++a:=by rw[UR,BA]
  have Rw:=(ae.1 E).1;rw[e];obtain⟨b,hb⟩:∃b,w x.1=b:=⟨_,rfl⟩;rw[hb]at z
  have qp:x.2.l<=cm.l:=by rw[(Nn B).1];exact Ax _ _ ((EK _ _ _).imp λh e=>U) λk hk=>(An.1 hk).1
  simp[O,jV,E];refine nL O jV E ?_;refine hw x.1 _ _ _ (λv o f=>?_) ?_
  .have J:=(ae.1 f).1;simp[ah J,f]
  rw[hb];have hm:(gU cm i).l-(seen ++ [t]).l<(gU cm i).l-seen.l:=jS;have BR:∀(R:gd),(a++R)[0]? = bb (.jo (.gH p) (gU cm i).l (seen ++ [t])):=λR=>by rw[ah Rw];exact E
  cases b
  .rw[if_neg fZ]at z;simp;refine LJ.e (_,seen ++ [t],out,d) ?_;refine⟨hm,BR _,z,?_⟩;rcases N with h|⟨h1,v,g,h2,h3⟩
   .exact .inl h
   .exact .inr ⟨h1,v,g,h2,by rw[ah (ae.1 (QW _ _ h3)).1];exact QW _ _ h3⟩
  .rw[if_pos rfl]at z;rcases N with⟨rfl,rfl⟩|⟨L,v,g,rfl,f⟩
   .simp[A,oI];(with_reducible repeat' first|refine Xk ?_<;>try simp[A,oI]|refine Xs ?_ ?_<;>intro h<;>(try intro h')<;>(try simp[h,A,oI])<;>try omega|refine Xg ?_|omega);rw[bI]at z;refine⟨λe=>absurd e ij,λ_=>(pb ?_)⟩;refine LJ.i (_,seen ++ [t],x.2,_) rfl rfl rfl rfl ?_;refine⟨hm,BR _,z,.inr ⟨ij,a.l,0,rfl,?_⟩⟩;rw[abY];rfl
   .have YI:=QW _ _ f;have J:=(ae.1 YI).1;have Sa:∀R:gd,(a++R)[v+1]? = bb (.row 3 g (cl f1 out)):=λR=>by rw[ah J];exact YI
    have B7:∀(R:gd) (o:Ob),(a++R).set (v+1) o=a.set (v+1) o++R:=λR o=>aP _ _ J;simp[A,oI,Sa,B7];(with_reducible repeat' first|refine Xk ?_<;>try simp[A,oI,Sa,B7]|refine Xs ?_ ?_<;>intro h<;>(try intro h')<;>(try simp[h,A,oI,Sa,B7])<;>try omega|refine Xg ?_|omega);refine LJ.i (_,seen ++ [t],out++x.2,.gf (H.l+(v+1)) (g+1) 1 0 (out.l+x.2.l)) fZ rfl rfl rfl ?_;refine⟨hm,?_,z,.inr ⟨by simp[L],v,g+1,fZ,?_⟩⟩
    .grind
    .grind
end Go.Proofs.YtmehofoficaelaaGreatDoor
namespace Go.Proofs.YtmehofoficaelaaGreatDoor
open Go Go.AL Classical
def ahn{A:mc}{v:List gg}{i:Int}(h0:∀k∈gt A.nx i,0<=(gt v k).2)(s:A.ov i=ek):na A v i↔gt v i=oP ((gt A.nx i).map λk=>gt v k):=by
 have c:∀o p:Int,(o,p)∈((gt A.nx i).map λk=>gt v k)↔∃k∈gt A.nx i,gt v k=(o,p):=λo p=>by rw[az]
 have l:(∀r∈(gt A.nx i).map (λk=>gt v k),r.1=1)↔∀k∈gt A.nx i,(gt v k).1=1:=fZ;have n:((gt A.nx i).map λk=>gt v k)≠[]↔gt A.nx i≠[]:=fZ;unfold oP na
 by_cases j:ja ((gt A.nx i).map λk=>gt v k) 3 = []
 .have y:∀k∈gt A.nx i,(gt v k).1≠3:=λk a e=>by have:(gt v k).2∈ja ((gt A.nx i).map λk=>gt v k) 3:=Au.2 ((c _ _).2 ⟨k,a,dh e rfl⟩);rw[j]at this;cases this
  rw[if_neg (λh=>h j)]
  by_cases b:gt A.nx i≠[]/\∀k∈gt A.nx i,(gt v k).1=1
  .rw[if_pos ⟨n.2 b.1,ZO.2 (l.2 b.2)⟩]
   have t:ja ((gt A.nx i).map λk=>gt v k) 1≠[]:=λe=>by obtain⟨k,a⟩:=dO _ b.1;have:(gt v k).2∈ja ((gt A.nx i).map λk=>gt v k) 1:=Au.2 ((c _ _).2 ⟨k,a,dh (b.2 k a) rfl⟩);rw[e]at this;cases this
   obtain⟨q,d,f⟩:=(c _ _).1 (Au.1 (Oq t));have u:∀k∈gt A.nx i,(gt v k).2<=yL (ja ((gt A.nx i).map λk=>gt v k) 1):=λk a=>Oe (Au.2 ((c _ _).2 ⟨k,a,dh (b.2 k a) rfl⟩));have g:=h0 q d;rw[f]at g;generalize yL (ja ((gt A.nx i).map λk=>gt v k) 1)=m at *;constructor
   .grind
   .intro e;exact .inr ⟨s,.inr (.inl ⟨m+1,by dsimp only at g;omega,e,λk a=>⟨b.2 k a,by have:=u k a;omega⟩,q,d,by rw[f];dsimp only;omega⟩)⟩
  .rw[if_neg (λh=>b ⟨n.1 h.1,l.1 (ZO.1 h.2)⟩)];constructor
   .grind
   .grind
 .rw[if_pos j];obtain⟨q,d,f⟩:=(c _ _).1 (Au.1 (Av j));have x:∀k∈gt A.nx i,(gt v k).1=3->th (ja ((gt A.nx i).map λk=>gt v k) 3)<=(gt v k).2:=λk a e=>EO (Au.2 ((c _ _).2 ⟨k,a,dh e rfl⟩));have g:=h0 q d;rw[f]at g;generalize th (ja ((gt A.nx i).map λk=>gt v k) 3)=m at *;constructor
  .grind
  .intro e;exact .inr ⟨s,.inl ⟨m+1,by dsimp only at g;omega,e,⟨q,d,by rw[f];congr 1;omega⟩,λk a w=>by have:=x k a w;omega⟩⟩
def aho{A:mc}{v:List gg}{i:Int}(a:A.ov i=eh):na A v i↔gt v i=(A.rs i,0):=by
 constructor
 .rintro(⟨_,e⟩|⟨e,_⟩)
  .exact e
  .grind
 .exact λe=>.inl ⟨a,e⟩
set_option maxRecDepth 10000
set_option maxHeartbeats 8000000
section
variable{nx:List (List Int)}
end
attribute [-simp] uK UY Zv UZ
end Go.Proofs.YtmehofoficaelaaGreatDoor
namespace Go.Proofs.YtmehofoficaelaaGreatDoor
open Go Go.AL Classical
structure VB(A:mc)(n:Nat)(P R:List Int)(v:List gg)(lf:List Int):Prop where
 vl:v.l=n
 ll:lf.l=n
 nd:(P++R).Nodup
 qr:∀k∈P++R,0<=k/\k<n
 qi:∀k∈P++R,(gt v k).1≠0
 z:∀k:Int,0<=k->k<n->k ∉ P++R->gt v k=(0,0)
 ov:∀k:Int,0<=k->k<n->A.ov k=eh->k∈P++R/\gt v k=(A.rs k,0)
 mono:(P++R).Pairwise λa b=>(gt v a).2<=(gt v b).2
 top:∀i R',R=i::R'->∀a∈P++R,(gt v a).2<=(gt v i).2+1
 nn:∀a∈P++R,0<=(gt v a).2/\(gt v a).2<=(P++R).l
 st:∀k∈P++R,A.ov k=ek ->
  (∃m,1<=m/\gt v k=(1,m)/\(∃c∈gt A.nx k,gt v c=(3,m-1))/\∀c∈gt A.nx k,(gt v c).1=3->m-1<=(gt v c).2) \/
  (∃m,1<=m/\gt v k=(3,m)/\(∀c∈gt A.nx k,(gt v c).1=1/\(gt v c).2<=m-1)/\∃c∈gt A.nx k,(gt v c).2=m-1)
section
variable{A:mc}{n:Nat}{P R d:List Int}{v:List gg}{lf:List Int}{i k t:Int}
structure VS(A:mc)(n:Nat)(m:Int)(R:List Int)(v:List gg)(lf:List Int):Prop where
 vl:v.l=n
 ll:lf.l=n
 nd:R.Nodup
 qr:∀k,k∈R↔(0<=k/\k<m)/\A.ov k=eh
 vv:∀k:Int,0<=k->k<n->gt v k=if k∈R then(A.rs k,0)else(0,0)
 lv:∀k:Int,0<=k->k<m->gt lf k=(gt A.nx k).l
end
set_option maxRecDepth 10000
set_option maxHeartbeats 8000000
attribute [-simp] ag8
end Go.Proofs.YtmehofoficaelaaGreatDoor
namespace Go.Proofs.YtmehofoficaelaaGreatDoor
open Go Go.AL Classical
set_option maxRecDepth 10000
set_option maxHeartbeats 16000000
attribute [local simp] HF H5 tp Pq
end Go.Proofs.YtmehofoficaelaaGreatDoor
namespace Go.Proofs.YtmehofoficaelaaGreatDoor
open Go Go.AL Classical
set_option maxRecDepth 10000
set_option maxHeartbeats 16000000
attribute [local simp] HF H5 tp Pq
theorem tv.s{T:iF}{rf:Nat}{live:List Nat}{x:X}{s a:St}{K:jb}(hs:s=a)(h:tv T rf live x a K .mk):tv T rf live x s K .mk:=by subst hs;exact h
section
variable{g:gq}{l:List Pos}{nx:List (List Int)}{part:List Int}{bu:Int}
end
end Go.Proofs.YtmehofoficaelaaGreatDoor
namespace Go.Proofs.YtmehofoficaelaaGreatDoor
open Go Go.AL Classical
set_option maxRecDepth 10000
set_option maxHeartbeats 8000000
def acA{l:List gg}{n:Int}(h:n.n<l.l):(cl fS l).drop (n.n*2)=fS (gt l n)++cl fS (l.drop (n.n+1)):=by rw[uH,bH h,nb];congr 1;unfold gt;rw[List.getD_eq_getElem?_getD,bs h];rfl
set_option maxHeartbeats 16000000
theorem gy.s{T:iF}{f:FuncId}{args:List D}{dst:Option Nat}{s a:St}{K:St->Prop}(hs:s=a)(h:gy T f args dst a K .mk):gy T f args dst s K .mk:=by subst hs;exact h
end Go.Proofs.YtmehofoficaelaaGreatDoor
namespace Go.Proofs.YtmehofoficaelaaGreatDoor
open Go Go.AL Classical
set_option maxRecDepth 10000
set_option maxHeartbeats 8000000
def H0(g:gq)(n:Nat)(v:List gg)(lf:List Int):gd:=[.row 43 0 g.cells,.row 86 0 (cl fS v),.row 51 0 [.gf 1 0 2 0 n],.row 3 0 (cl f1 lf),.row 37 0 [.gi]]
def acz{v:List gg}{n:Int}(h:n.n<v.l):(cl fS v)[n.n*2]? = bb (.i (gt v n).1):=by
 have:=acA h;rw[DJ]at this;have a:((cl fS v).drop (n.n*2))[0]? = bb (.i (gt v n).1):=by rw[this];rfl
 rwa [aK,cA]at a
section
variable{nx:List (List Int)}
end
def f102(L:List Int)(h0:0<L.l)(m:L.l<=4000000000):Wf T 145 [dI L] [] (Ey D.i λr=>r∈L/\∀x∈L,r<=x):=by
 refine Yg Jx ?_;simp[Jx];(with_reducible repeat' first|refine Xk ?_<;>try simp|refine Xs ?_ ?_<;>intro h<;>(try intro o)<;>(try simp[h])<;>try omega|refine Xg ?_|omega);refine gx.e ((1,gt L 0):Int×Int) (λy=>[(0,dI L),(3,.i y.2),(4,.i y.1)]) (λy=>[]) (λy=>1<=y.1/\y.1<=L.l/\y.2∈L/\∀j:Int,0<=j->j<y.1->y.2<=gt L j) (λy=>(L.l-y.1).n) ?_ ?_
 .refine⟨fZ,gJ,gF U U,λj j0 j1=>?_⟩;dsimp only at j1 ⊢;rw[(U:j=0)];exact dZ _
 rintro⟨i,r⟩ ⟨i0,d,c,b⟩;dsimp only at i0 d c b ⊢
 by_cases hi:i<L.l
 .simp[hi];refine gh ?_;have k:=gF (l:=L) (n:=i) U hi;refine LJ.e (i+1,min r (gt L i)) ?_;refine gX ⟨?_,λj j0 j1=>?_⟩
  .dsimp only;rcases(U:min r (gt L i)=r\/min r (gt L i)=gt L i)with e|e<;>rw[e]<;>assumption
  .dsimp only at j1 ⊢
   by_cases e:j=i
   .subst e;omega
   .have:=b j j0 U;omega
 .simp[hi];refine gh ?_;refine Ey.i r rfl rfl ⟨c,λx f=>?_⟩;obtain⟨a,g,p,rfl⟩:=yM.1 f;exact b a g U
def f103(L:List Int)(h0:0<L.l)(m:L.l<=4000000000):Wf T 146 [dI L] [] (Ey D.i λr=>r∈L/\∀x∈L,x<=r):=by
 refine Yg Jz ?_;simp[Jz];(with_reducible repeat' first|refine Xk ?_<;>try simp|refine Xs ?_ ?_<;>intro h<;>(try intro o)<;>(try simp[h])<;>try omega|refine Xg ?_|omega);refine gx.e ((1,gt L 0):Int×Int) (λy=>[(0,dI L),(3,.i y.2),(4,.i y.1)]) (λy=>[]) (λy=>1<=y.1/\y.1<=L.l/\y.2∈L/\∀j:Int,0<=j->j<y.1->gt L j<=y.2) (λy=>(L.l-y.1).n) ?_ ?_
 .refine⟨fZ,gJ,gF U U,λj j0 j1=>?_⟩;dsimp only at j1 ⊢;rw[(U:j=0)];exact dZ _
 rintro⟨i,r⟩ ⟨i0,d,c,b⟩;dsimp only at i0 d c b ⊢
 by_cases hi:i<L.l
 .simp[hi];refine gh ?_;have k:=gF (l:=L) (n:=i) U hi;refine LJ.e (i+1,max r (gt L i)) ?_;refine gX ⟨?_,λj j0 j1=>?_⟩
  .dsimp only;rcases(U:max r (gt L i)=r\/max r (gt L i)=gt L i)with e|e<;>rw[e]<;>assumption
  .dsimp only at j1 ⊢
   by_cases e:j=i
   .subst e;omega
   .have:=b j j0 U;omega
 .simp[hi];refine gh ?_;refine Ey.i r rfl rfl ⟨c,λx f=>?_⟩;obtain⟨a,g,p,rfl⟩:=yM.1 f;exact b a g U
def kF(v:List gg)(x:List Int)(o:Int):List Int:=(x.filter λk=>decide ((gt v k).1=o)).map λk=>(gt v k).2
def ZA{v:List gg}{x:List Int}{o k:Int}(h:(gt v k).1=o):kF v (x ++ [k]) o=kF v x o ++ [(gt v k).2]:=by simp[kF,h]
def Zz{v:List gg}{x:List Int}{o k:Int}(h:(gt v k).1≠o):kF v (x ++ [k]) o=kF v x o:=by simp[kF,h]
def Zx(v:List gg)(x:List Int)(o:Int):(kF v x o).l<=x.l:=by unfold kF;rw[b4];exact cp _ _
def ahu{v:List gg}{x:List Int}{o n:Int}:n∈kF v x o↔∃k∈x,gt v k=(o,n):=by
 unfold kF;rw[az];constructor
 .rintro⟨k,a,rfl⟩;rw[aS]at a;exact⟨k,a.1,dh (by simpa using a.2) rfl⟩
 .rintro⟨k,a,e⟩;exact⟨k,aS.2 ⟨a,by simp[e]⟩,by rw[e]⟩
def Di(v:List gg)(x:List Int)(r:gg):Prop:=
 (∃m∈kF v x 3,(∀y∈kF v x 3,m<=y)/\r=(1,m+1)) \/
 (kF v x 3 = []/\(kF v x 1).l=x.l/\∃m∈kF v x 1,(∀y∈kF v x 1,y<=m)/\r=(3,m+1)) \/
 (kF v x 3 = []/\¬(kF v x 1≠[]/\(kF v x 1).l=x.l)/\r=(2,0))
def dL(l:List Int)(n:Nat):D:=if l = []then .gi else .gf n (l.l-1) 1 0 l.l
def rL(l:List Int):gd:=if l = []then []else [.row 3 (l.l-1) (cl f1 l)]
def HL(a b:List Int):gd:=.row 86 0 [.i 0,.i 0]::(rL a++rL b)
def f56(v:List gg)(x:List Int)(t:∀k∈x,0<=k/\k<v.l)(O:x.l<=4000000000)(A:∀k:Int,0<=k->k<v.l->0<=(gt v k).2/\(gt v k).2<=4000):Wf T 89 [iw v,dN 1 f1 x] [] (Ey (λr:gg=>.agg [.i r.1,.i r.2]) λr=>Di v x r):=by
 have F:∀o,kF v [] o = []:=λ_=>rfl;have K:∀n,dL [] n = .gi:=λ_=>rfl;refine Yg LN ?_;simp[LN];refine gh ?_;refine gx.e (0:Int) (λy=>[(0,iw v),(1,dN 1 f1 x),(4,.ptr 0 0 0),(5,dL (kF v (x.take y.n) 3) 1),(6,dL (kF v (x.take y.n) 1) (if kF v (x.take y.n) 3 = []then 1 else 2)),(9,dN 1 f1 x),(10,.i x.l),(11,.i y)]) (λy=>HL (kF v (x.take y.n) 3) (kF v (x.take y.n) 1)) (λy=>0<=y/\y<=x.l) (λy=>(x.l-y).n) ?_ ?_ (by simp[F,K]) (by simp[F,HL,rL])
 .simp
 rintro i ⟨i0,M⟩;have G:=Zx v (x.take i.n) 3;have H:=Zx v (x.take i.n) 1;rw[aJ]at G H
 by_cases hi:i<x.l
 .have C:=t _ (gF i0 hi)
  have m:(x.take (i+1).n)=x.take i.n ++ [gt x i]:=by rw[(U:(i+1).n=i.n+1),du,bs U,dT,<-iX i0 hi]
  have P:=acz (v:=v) (n:=gt x i) U;simp[hi];generalize gt x i=k at *;generalize E:kF v (x.take i.n) 3=a at *;generalize D:kF v (x.take i.n) 1=b at *;have L:=A k C.1 C.2;have q3:(gt v k).1=3->kF v (x.take (i+1).n) 3=a ++ [(gt v k).2]:=λh=>by rw[m,ZA h,E]
  have j:(gt v k).1≠3->kF v (x.take (i+1).n) 3=a:=λh=>by rw[m,Zz h,E]
  have q1:(gt v k).1=1->kF v (x.take (i+1).n) 1=b ++ [(gt v k).2]:=λh=>by rw[m,ZA h,D]
  have l:(gt v k).1≠1->kF v (x.take (i+1).n) 1=b:=λh=>by rw[m,Zz h,D]
  have z:a = []\/0<a.l:=by cases a<;>simp
  have w:b = []\/0<b.l:=by cases b<;>simp
  have s:((x.l:Int)-(i+1)).n<((x.l:Int)-i).n/\0<=i+1/\i+1<=x.l:=U
  by_cases c:a = []<;>by_cases d:b = []
  all_goals
   first|have z:=z.resolve_left c|skip
   first|have w:=w.resolve_left d|skip
   (with_reducible repeat' first|refine Xk ?_<;>try simp[c,d,dL,rL,HL]|refine Xs ?_ ?_<;>intro h<;>(try intro J)<;>(try simp[h,c,d,dL,rL,HL])<;>try omega|refine Xg ?_|omega)
  all_goals
   first
    | (have f:=q3 ‹_›;have g:=l U;refine LJ.i (i+1) (by simp[f,g,dL,c,d]<;>omega) (by simp[f,g,HL,rL,c,d,je]<;>omega) rfl rfl s)
    | (have f:=j ‹_›;have g:=q1 ‹_›;refine LJ.i (i+1) (by simp[f,g,dL,c,d]<;>omega) (by simp[f,g,HL,rL,c,d,je]<;>omega) rfl rfl s)
    | (have f:=j jZ;have g:=l jZ;refine LJ.i (i+1) (by simp[f,g,dL,c,d]) (by simp[f,g,HL,rL,c,d]) rfl rfl s)
 .rw[af U]at *;simp[hi]
  by_cases c:kF v x 3 = []<;>by_cases d:kF v x 1 = []
  all_goals
   simp[c,d,dL,rL,HL];(with_reducible repeat' first|refine Xk ?_<;>try simp[c,d,dL,rL,HL]|refine Xs ?_ ?_<;>intro h<;>(try intro J)<;>(try simp[h,c,d,dL,rL,HL])<;>try omega|refine Xg ?_|omega)
  all_goals
   first
    | exact Ey.i (2,0) rfl rfl (.inr (.inr ⟨c,λ⟨h1,I⟩=>U,rfl⟩))
    | exact Ey.i (2,0) rfl rfl (.inr (.inr ⟨c,λ⟨h1,I⟩=>h1 d,rfl⟩))
    | exact absurd (ay.2 c) ‹_›
    | exact absurd (ay.2 d) ‹_›
    | skip
  all_goals
   refine gy.s (by simp[c,d];rfl) ?_
  all_goals
   first
    | refine gy.rq rfl rfl (f102 (kF v x 3) U U) fZ (λ_=>by simp[flat]) (λ_=>fZ) ?_
    | refine gy.rq rfl rfl (f103 (kF v x 1) U U) fZ (λ_=>by simp[flat]) (λ_=>fZ) ?_
  all_goals
   rintro r ⟨p,u⟩
   have N:0<=r/\r<=4000:=by obtain⟨q,B,e⟩:=ahu.1 p;have:=A q (t q B).1 (t q B).2;rwa [e]at this
   simp[c,d];refine kP c d ?_
  all_goals
   first
    | exact Ey.i (1,r+1) rfl rfl (.inl ⟨r,p,u,rfl⟩)
    | exact Ey.i (3,r+1) rfl rfl (.inr (.inl ⟨c,U,r,p,u,rfl⟩))
def Zy(v:List gg)(x:List Int)(o:Int):kF v x o=ja (x.map λk=>gt v k) o:=by unfold kF ja;rw[List.filter_map,b7];rfl
def Di.mk{v:List gg}{x:List Int}{r:gg}(h:Di v x r):r=oP (x.map λk=>gt v k):=by
 unfold oP;rw[<-Zy,<-Zy,b4];rcases h with⟨m,c,l,rfl⟩|⟨f,h1,m,c,g,rfl⟩|⟨f,h1,rfl⟩
 .have d:kF v x 3≠[]:=λe=>by rw[e]at c;cases c
  have a:=EO c;have b:=l _ (Av d);rw[if_pos d,(U:th (kF v x 3)=m)]
 .have d:kF v x 1≠[]:=λe=>by rw[e]at c;cases c
  have a:=Oe c;have b:=g _ (Oq d)
  have i:(x.map λk=>gt v k)≠[]:=λe=>by have j:=List.map_eq_nil_iff.1 e;subst j;exact d rfl
  rw[if_neg (λh=>h f),if_pos ⟨i,h1⟩,(U:yL (kF v x 1)=m)]
 .rw[if_neg (λh=>h f),if_neg];rintro⟨a,b⟩;refine h1 ⟨λe=>a ?_,b⟩;rw[e]at b;rw[aV b.symm];rfl
def Di.iff{A:mc}{v:List gg}{i:Int}{r:gg}(h0:∀k∈gt A.nx i,0<=(gt v k).2)(b:A.ov i=ek)(a:Di v (gt A.nx i) r):na A v i↔gt v i=r:=by rw[a.mk];exact ahn h0 b
def gy.w{T:iF}{f:FuncId}{args:List D}{dst:Option Nat}{s a:St}{K:St->Prop}(hs:s=a)(h:gy T f args dst a K .mk):gy T f args dst s K .mk:=by subst hs;exact h
def Oy{l:List gg}{x:gg}{o:Int}(h:x.1=o):ja (l ++ [x]) o=ja l o ++ [x.2]:=by simp[ja,h]
def Ox{l:List gg}{x:gg}{o:Int}(h:x.1≠o):ja (l ++ [x]) o=ja l o:=by simp[ja,h]
@[simp] theorem av7(o:Int):ja [] o = []:=rfl
theorem Ow(l:List gg)(o:Int):(ja l o).l<=l.l:=by unfold ja;rw[b4];exact cp _ _
def abk{α:Type}[Inhabited α]{l:List α}{i:Int}(i0:0<=i)(a:i<l.l):l.take (i+1).n=l.take i.n ++ [gt l i]:=by rw[(U:(i+1).n=i.n+1),du,bs U,dT,<-iX i0 a]
def ael(l:List gg)(h0:0<l.l)(O:l.l<=4000000000)(K:∀x∈l,0<=x.2/\x.2<=4000):Wf T 135 [iw l] [] (Is (.agg [.i (oP l).1,.i (oP l).2])):=by
 refine Yg C4 ?_;simp[C4];refine gx.e ((0,0,0):Int×Nat×Nat) (λy=>[(0,iw l),(2,.ptr 0 0 0),(3,.gf 1 y.2.1 1 0 (ja (l.take y.1.n) 3).l),(4,.gf 2 y.2.2 1 0 (ja (l.take y.1.n) 1).l),(9,iw l),(10,.i l.l),(11,.i y.1)]) (λy=>[.row 86 0 [.i 0,.i 0],.row 3 y.2.1 (cl f1 (ja (l.take y.1.n) 3)),.row 3 y.2.2 (cl f1 (ja (l.take y.1.n) 1))]) (λy=>0<=y.1/\y.1<=l.l) (λy=>(l.l-y.1).n) ?_ ?_
 .simp
 rintro⟨i,t,s⟩ ⟨i0,I⟩;dsimp only at i0 I ⊢;have j:=Ow (l.take i.n) 3;have m:=Ow (l.take i.n) 1;rw[aJ]at j m
 by_cases hi:i<l.l
 .have e:=abk (l:=l) i0 hi;have C:(gt l i).1=3->ja (l.take (i+1).n) 3=ja (l.take i.n) 3 ++ [(gt l i).2]:=λh=>by rw[e,Oy h]
  have u:(gt l i).1≠3->ja (l.take (i+1).n) 3=ja (l.take i.n) 3:=λh=>by rw[e,Ox h]
  have D:(gt l i).1=1->ja (l.take (i+1).n) 1=ja (l.take i.n) 1 ++ [(gt l i).2]:=λh=>by rw[e,Oy h]
  have v:(gt l i).1≠1->ja (l.take (i+1).n) 1=ja (l.take i.n) 1:=λh=>by rw[e,Ox h]
  obtain⟨A,q⟩:∃A,ja (l.take i.n) 3=A:=⟨_,rfl⟩;obtain⟨B,p⟩:∃B,ja (l.take i.n) 1=B:=⟨_,rfl⟩;rw[q]at j C u ⊢;rw[p]at m D v ⊢;have n:((l.l:Int)-(i+1)).n<((l.l:Int)-i).n/\0<=i+1/\i+1<=l.l:=U;simp[hi];(with_reducible repeat' first|refine Xk ?_<;>try simp|refine Xs ?_ ?_<;>intro h<;>(try intro P)<;>(try simp[h])<;>try omega|refine Xg ?_|omega)
  .have b:=C ‹_›;have c:=v U;refine LJ.i (i+1,t+1,s) (by simp[b,c]) (by simp[b,c]) rfl rfl n
  .have b:=u U;have c:=D ‹_›;refine LJ.i (i+1,t,s+1) (by simp[b,c]) (by simp[b,c]) rfl rfl n
  .have b:=u jZ;have c:=v jZ;refine LJ.i (i+1,t,s) (by simp[b,c]) (by simp[b,c]) rfl rfl n
 .have H:i=l.l:=by omega
  subst H;rw[af U]at *;obtain⟨r,a⟩:∃r,oP l=r:=⟨_,rfl⟩;have z:∀o,∀y∈ja l o,0<=y/\y<=4000:=λo y J=>by have:=K _ (Au.1 J);exact this
  rw[a];unfold oP at a;obtain⟨A,q⟩:∃A,ja l 3=A:=⟨_,rfl⟩;obtain⟨B,p⟩:∃B,ja l 1=B:=⟨_,rfl⟩;have w:=z 3;have E:=z 1;rw[q]at j a w ⊢;rw[p]at m a E ⊢;have F:l≠[]:=ay.1 h0;simp[hi]
  by_cases g:A = []
  .rw[if_neg (λh=>h g)]at a;subst g
   by_cases f:B.l=l.l
   .rw[if_pos ⟨F,f⟩]at a;subst a;simp[f];refine gh ?_;refine gy.w mu ?_;refine gy.rq rfl rfl (f103 B U U) (by simp[f]) (λ_=>by simp[flat]) (λ_=>fZ) ?_;rintro r ⟨d,k⟩;have M:=Oe d;have L:=k _ (Oq (l:=B) λe=>by rw[e]at d;cases d);have e:r=yL B:=U;have N:=E r d;subst e;simp;exact mI
   .rw[if_neg (λh=>f h.2)]at a;subst a;simp[f];exact mI
  .rw[if_pos g]at a;subst a;have G:0<A.l:=ay.2 g;simp[G];refine gh ?_;refine gy.w mu ?_;refine gy.rq rfl rfl (f102 A U U) fZ (λ_=>by simp[flat]) (λ_=>fZ) ?_;rintro r ⟨d,k⟩;have M:=EO d;have L:=k _ (Av g);have e:r=th A:=U;have N:=w r d;subst e;simp;exact mI
attribute [-simp] uK
def aeh(r:gg):Wf T 121 [.agg [.i r.1,.i r.2]] [] (Is (.b (nH r))):=by
 obtain⟨a,b⟩:=r;unfold nH;dsimp only
 by_cases e:a=2
 .subst e
  by_cases c:b=0
  .subst c;refine Yg uB ?_;simp[uB]
  .refine Yg uB ?_;simp[uB,c]
 .by_cases c:a=1
  .subst c;refine Yg uB ?_;simp[uB]
  .by_cases d:a=3
   .subst d;refine Yg uB ?_;simp[uB]
   .refine Yg uB ?_;simp[uB,e,c,d]
def aeg(r:gg):Wf T 120 [.agg [.i r.1,.i r.2]] [] (Is (.b (!nH r))):=by have c:=aeh r;obtain⟨b,a⟩:∃b,nH r=b:=⟨_,rfl⟩;rw[a]at c ⊢;refine Yg JS ?_;simp[JS];refine Yc (c) ?_;simp
def aex(r q:gg):Wf T 187 [.agg [.i r.1,.i r.2],.gC [.i q.1,.i q.2]] [] (Is (.b (decide (r≠q)))):=by obtain⟨a,b⟩:=r;obtain⟨x,y⟩:=q;refine Yg J3 ?_;simp[J3]
def aey(r:gg)(n:Int):Wf T 188 [.agg [.i r.1,.i r.2],.gC [.i n]] [] (Is (.b (decide (r.1≠2/\r.2=n)))):=by
 obtain⟨a,b⟩:=r;dsimp only
 by_cases c:a=2
 .subst c;refine Yg C6 ?_;simp[C6]
 .refine Yg C6 ?_;simp[C6,c]
@[simp] theorem avW(G:kn):xv (wh G []) = -1:=rfl
theorem Qn{H:gd}{ck sr n:Nat}{M:Nat->kn}{ow:Nat->Nat×Nat×Nat}{P:Nat->Nat}{Q:Nat->Nat->Nat}{cells:List D}(Y:mw H ck sr n M ow P Q)(gp:jz H.l H)(E:H[ck]? = bb (.row 168 0 cells))(A:cells[12]? = bb (.gf sr 0 1 0 n))
  {cm:List gV} {i:Int} (i0:0<=i) (J:i<n) (hM:M i.n=gU cm i) (rl:∀r∈sd cm i,nH r=eh) :
  Wf T 122 [.ptr ck 0 0,.i i] H (λd H'=>d = .i (oB (sd cm i))/\H'=H):=by
 obtain⟨k,_⟩:=Y.mp i.n U;have I:=Y.row;rw[hM]at k
 have hj:((dx n).map λj=>D.gH (P j))[i.n]? = bb (.gH (P i.n)):=by rw[ax,bS U];rfl
 obtain⟨p,w⟩:∃p,P i.n=p:=⟨_,rfl⟩;obtain⟨q,yy⟩:∃q,Q i.n=q:=⟨_,rfl⟩;rw[w]at k hj;rw[yy]at k;have iP:=(ae.1 k).1;have c:∀G,(H++G)[p]? = bb (.map KS (jd q 0 (gU cm i))):=λG=>by rw[ah iP,k]
 refine Yg JT ?_;simp[JT,E,A,I,w,k,i0,J];(with_reducible repeat' first|refine Xk ?_<;>try simp[E,A,I,w,k,i0,J]|refine Xs ?_ ?_<;>intro h<;>(try intro N)<;>(try simp[h,E,A,I,w,k,i0,J])<;>try omega|refine Xg ?_|omega);refine gx.e (([.jo (.gH p) (gU cm i).l []],[]):gd×List Nat) (λy=>[(5,.i (xv (wh (gU cm i) y.2))),(14,.ptr H.l 0 0)]) (λy=>H++y.1) (λy=>y.1[0]? = bb (.jo (.gH p) (gU cm i).l y.2)/\y.2.Nodup/\∀t∈y.2,t<(gU cm i).l) (λy=>(gU cm i).l-y.2.l) ?_ ?_
 .exact⟨rfl,.nil,λ_ h=>by cases h⟩
 rintro⟨G,seen⟩ ⟨L,X,O⟩;dsimp only at L X O ⊢;have Eb:=(ae.1 L).1;simp;refine uC.at (m:=p) (since:=(gU cm i).l) (seen:=seen) (kk:=KS) (es:=jd q 0 (gU cm i)) (by simp[L]) (by simp[c]) fZ (λF=>?_) λt kv dv K hi=>?_
 .have F:∀t,t<(gU cm i).l->t∈seen:=by simpa using F
  have D6:=agY F O
  have vP:xv (wh (gU cm i) seen)=oB (sd cm i):=by
   rw[ahs λr hr a=>?_]
   .exact ahv D6
   .have:=rl r ((D6 r).1 hr);unfold nH at this;simp only[decide_eq_true_eq]at this;rcases this with rfl|h
    .exact absurd rfl a
    .exact h.2
  simp;refine gh ?_;simp[Ap gp,vP]
 .rw[vt]at K;obtain⟨x,u,kR⟩:=ao.1 K;cases kR;have B:=IZ X O (ae.1 u).1 hi;have f:(jd q 0 (gU cm i))[t]? = bb (lJ x.1,oI (q t) x.2):=by rw[vt,u];simp
  have C:=agZ (seen:=seen) u;obtain⟨ks,V⟩:∃ks,wh (gU cm i) seen=ks:=⟨_,rfl⟩;rw[V]at C ⊢;obtain⟨m,Z⟩:∃m,xv ks=m:=⟨_,rfl⟩;have W:xv (wh (gU cm i) (seen ++ [t]))=wm m x.1:=by rw[C,aht,Z]
  obtain⟨o,S⟩:∃o,G.set 0 (.jo (.gH p) (gU cm i).l (seen ++ [t]))=o:=⟨_,rfl⟩;have b:o[0]? = bb (.jo (.gH p) (gU cm i).l (seen ++ [t])):=by rw[<-S,aN Eb]
  have e:(H++G).set H.l (.jo (.gH p) (gU cm i).l (seen ++ [t]))=H++o:=by rw[UR,S]
  have Rw:=(ae.1 b).1;have BR:∀(R:gd),(o++R)[0]? = bb (.jo (.gH p) (gU cm i).l (seen ++ [t])):=λR=>by rw[ah Rw];exact b
  have uS:(gU cm i).l-(seen ++ [t]).l<(gU cm i).l-seen.l:=by have:=B.2.2;rw[aq,bj]at this ⊢;omega
  have z:∀ {R:gd} {v:Int},v=wm m x.1->LJ (λy:gd×List Nat=>[(5,.i (xv (wh (gU cm i) y.2))),(14,.ptr H.l 0 0)]) (λy=>H++y.1) [] ek (λs=>(gU cm i).l-s.2.l<(gU cm i).l-seen.l/\s.1[0]? = bb (.jo (.gH p) (gU cm i).l s.2)/\s.2.Nodup/\∀t∈s.2,t<(gU cm i).l) .mk [(5,.i v),(14,.ptr H.l 0 0)] (H++(o++R)) [] false:=λ{R v} hv=>by subst hv;exact LJ.i (o++R,seen ++ [t]) (by simp[W]) rfl rfl rfl ⟨uS,BR _,B.1,B.2.1⟩
  rw[e,Z];obtain⟨⟨r1,r2⟩,ls⟩:=x;dsimp only at *;clear S e C W V K u
  by_cases a:r1=2
  .subst a;simp[c,f,b];refine nL c f b ?_;refine z ?_;simp[wm]
  .by_cases g:m<0
   .simp[c,f,b,a,g];(with_reducible repeat' first|refine Xk ?_<;>try simp[c,f,b,a,g]|refine Xs ?_ ?_<;>intro h<;>(try intro N)<;>(try simp[h,c,f,b,a,g])<;>try omega|refine Xg ?_|omega);refine z ?_;simp[wm,a,g]
   .by_cases l:r2<m
    .simp[c,f,b,a,g,l];(with_reducible repeat' first|refine Xk ?_<;>try simp[c,f,b,a,g,l]|refine Xs ?_ ?_<;>intro h<;>(try intro N)<;>(try simp[h,c,f,b,a,g,l])<;>try omega|refine Xg ?_|omega);refine z ?_;simp[wm,a,l]
    .simp[c,f,b,a,g,l];(with_reducible repeat' first|refine Xk ?_<;>try simp[c,f,b,a,g,l]|refine Xs ?_ ?_<;>intro h<;>(try intro N)<;>(try simp[h,c,f,b,a,g,l])<;>try omega|refine Xg ?_|omega);refine z ?_;simp[wm,a,g,l]
end Go.Proofs.YtmehofoficaelaaGreatDoor
namespace Go.Proofs.YtmehofoficaelaaGreatDoor
open Go Go.AL Classical
def Ze(a b:Int):AL.keyOf (.agg [.i a,.i b])=bb (lJ (a,b)):=rfl
def XE(r:gg):KS.has (lJ r)=true:=rfl
def adC(Q:Nat->Nat){G:kn}{i t:Nat}{k:Value}{d:D}(h:(jd Q i G)[t]? = bb (k,d)):(jd Q i G).set t (k,d)=jd Q i G:=by obtain⟨h1,a⟩:=ae.1 h;rw[<-a,eA]
def ahC{H:gd}{v t:Nat}{q:Nat->Nat}{G:kn}{r:gg}{x:List Int}(c:H[v]? = bb (.map KS (jd q 0 G)))(b:oj r G=bb (t,x)) :
  yJ KS .gi (.gH v) (.agg [.i r.1,.i r.2]) H=bb (.tup [oI (q t) x,.i t],.obj v (.map KS (jd q 0 G))):=by
 have h1:=SN q r G 0 0;rw[b]at h1;simp only[aH,aR]at h1;have a:=SQ q r (oI (q t) x) G 0;rw[b]at a
 have d:(jd q 0 G)[t]? = bb (lJ r,oI (q t) x):=by rw[vt,(zJ (k:=0) b).1];simp
 dsimp only at a;rw[adC q d]at a;unfold yJ;rw[Ze];simp only[SJ,c,mapOf];rw[if_pos ⟨trivial,XE _⟩,h1];dsimp only;rw[a]
def ahB{H:gd}{v:Nat}{q:Nat->Nat}{G:kn}{r:gg}(c:H[v]? = bb (.map KS (jd q 0 G)))(b:oj r G=en) :
  yJ KS .gi (.gH v) (.agg [.i r.1,.i r.2]) H=bb (.tup [.gi,.i G.l],.obj v (.map KS (jd q 0 G ++ [(lJ r,.gi)]))):=by
 have h1:=SN q r G 0 0;rw[b]at h1;simp only[Option.map_none]at h1;have a:=SQ q r .gi G 0;rw[b]at a;dsimp only at a;unfold yJ;rw[Ze];simp only[SJ,c,mapOf];rw[if_pos ⟨trivial,XE _⟩,h1];dsimp only;rw[a,Bl]
def VT{H:gd}{v t:Nat}{es:List (Value×D)}{k:Value}{d0 d:D}(a:H[v]? = bb (.map KS es))(b:es[t]? = bb (k,d0)) :
  Bh (.gH v) (.i t) d H=bb (.any,.obj v (.map KS (es.set t (k,d)))):=by
 unfold Bh;simp only[SJ,a,mapOf,bF,b];rw[if_pos U]
def wA{n m:Nat}(h:n<=m){d:D}(a:nk n d=eh):nk m d=true:=by cases d<;>first|exact a|(simp only[nk,decide_eq_true_eq]at a ⊢;omega)
def F3{n m:Nat}(h:n<=m){cs:List D}(b:cs.all (nk n)=eh):cs.all (nk m)=true:=
 aE.2 λd a=>wA h (aE.1 b d a)
def E'{n m:Nat}(h:n<=m){d:D}(c:jG n d=eh):jG m d=true:=by
 cases d with
 | agg cs=>exact F3 h c
 | tup cs=>exact F3 h c
 | gC cs=>exact F3 h c
 | fn f a b=>
  simp only[jG,ai]at c ⊢;exact⟨F3 h c.1,F3 h c.2⟩
 | any=>exact wA (n:=n) (d:=.any) h c
 | val v=>exact wA (n:=n) (d:=.val v) h c
 | sl sz es=>exact wA (n:=n) (d:=.sl sz es) h c
 | gf v g sz off len=>exact wA (n:=n) (d:=.gf v g sz off len) h c
 | gi=>exact wA (n:=n) (d:=.gi) h c
 | ptr v g off=>exact wA (n:=n) (d:=.ptr v g off) h c
 | gH v=>exact wA (n:=n) (d:=.gH v) h c
 | iQ v=>exact wA (n:=n) (d:=.iQ v) h c
 | kW vs=>exact wA (n:=n) (d:=.kW vs) h c
def Z2{n m:Nat}(h:n<=m){o:Ob}(a:nG n o=eh):nG m o=true:=by
 cases o with
 | row t g cs=>exact aE.2 λd b=>E' h (aE.1 a d b)
 | map kk es=>exact aE.2 λd b=>E' h (aE.1 a d b)
 | iu rf env st=>exact aE.2 λd b=>E' h (aE.1 a d b)
 | sh=>rfl
 | jo m since seen=>exact wA h a
 | jH=>rfl
 | dead=>rfl
 | lT=>cases a
def xy{n m:Nat}{H:gd}(h:n<=m)(b:jz n H):jz m H:=λo a=>Z2 h (b o a)
def ui{n:Nat}{H G:gd}(h:jz n H)(b:jz n G):jz n (H++G):=λo a=>by
 rcases aj.1 a with a|a
 .exact h o a
 .exact b o a
def oset(ow:Nat->Nat×Nat×Nat)(v:Nat)(a:Nat×Nat×Nat):Nat->Nat×Nat×Nat:=λw=>if w=v then a else ow w
def aai(ow:Nat->Nat×Nat×Nat)(v:Nat)(a:Nat×Nat×Nat):oset ow v a v=a:=if_pos rfl
def Cp{ow:Nat->Nat×Nat×Nat}{v w:Nat}{a:Nat×Nat×Nat}(h:w≠v):oset ow v a w=ow w:=if_neg h
def jw{H:gd}{v:Nat}{o:Ob}(h:H[v]? = bb o):v<H.l:=(ae.1 h).1
def iD{H G:gd}{v:Nat}{o:Ob}(h:H[v]? = bb o):(H++G)[v]? = bb o:=by rw[ah (jw h)];exact h
def mw.own{H:gd}{ck sr n:Nat}{M:Nat->kn}{ow:Nat->Nat×Nat×Nat}{P:Nat->Nat}{Q:Nat->Nat->Nat}(h:mw H ck sr n M ow P Q){v:Nat}(g:H.l<=v)(f:ck<v)(a:Nat×Nat×Nat):mw H ck sr n M (oset ow v a) P Q:=by
 have ne:∀ {w o},H[w]? = bb o->w≠v:=λe=>by have:=jw e;omega
 refine⟨?_,?_,h.row,λj b=>?_,λj b t x d=>?_⟩
 .rw[Cp U];exact h.fc
 .rw[Cp (ne h.row)];exact h.fs
 .obtain⟨h1,c⟩:=h.mp j b;exact⟨h1,by rw[Cp (ne h1)];exact c⟩
 .obtain⟨h1,c⟩:=h.ls j b t x d;exact⟨h1,by rw[Cp (ne h1)];exact c⟩
def abI(Hc:gd)(ow:Nat->Nat×Nat×Nat)(bad:List Int)(d:D):Prop:=
 (bad = []/\d = .gi)\/(bad≠[]/\∃v g,d = .gf v g 1 0 bad.l/\Hc[v]? = bb (.row 3 g (cl f1 bad))/\ow v=(4,0,0))
structure HI(H0 Hc:gd)(ck sr n:Nat)(C:Ob)(M:Nat->kn)(bad:List Int)(d:D)(b:Option (Nat×Ob))(ow:Nat->Nat×Nat×Nat)(P:Nat->Nat)(Q:Nat->Nat->Nat):Prop where
 sg:mw Hc ck sr n M ow P Q
 ct:Hc[ck]? = bb C
 ok:jz Hc.l Hc
 lt:ck<H0.l
 kp:∀v o,H0[v]? = bb o->v≠ck->Hc[v]? = bb o/\ow v=(5,0,0)
 bd:abI Hc ow bad d
 bx:∀p,b=bb p->Hc[p.1]? = bb p.2/\ow p.1=(6,0,0)
section
variable{H0 Hc:gd}{ck sr n:Nat}{C:Ob}{M:Nat->kn}{bad:List Int}{d:D}{b:Option (Nat×Ob)}{ow:Nat->Nat×Nat×Nat}{P:Nat->Nat}{Q:Nat->Nat->Nat}
theorem HI.more(h:HI H0 Hc ck sr n C M bad d b ow P Q){o:Ob}(l:nG (Hc.l+1) o=eh)(a:Nat×Nat×Nat):HI H0 (Hc ++ [o]) ck sr n C M bad d b (oset ow Hc.l a) P Q:=by
 have ne:∀ {w o},Hc[w]? = bb o->w≠Hc.l:=λj=>by have:=jw j;omega
 refine⟨(h.sg.own (Nat.le_refl _) (jw h.ct) a).mono λv o e _=>iD e,iD h.ct,?_,h.lt,λv o e m=>?_,?_,λp k=>?_⟩
 .rw[aq,bj];refine ui (xy U h.ok) λx i=>?_;rw[cc.1 i];exact l
 .obtain⟨h1,c⟩:=h.kp v o e m;exact⟨iD h1,by rw[Cp (ne h1)];exact c⟩
 .rcases h.bd with h1|⟨h1,v,g,c,f,q⟩
  .exact .inl h1
  .exact .inr ⟨h1,v,g,c,iD f,by rw[Cp (ne f)];exact q⟩
 .obtain⟨h1,c⟩:=h.bx p k;exact⟨iD h1,by rw[Cp (ne h1)];exact c⟩
theorem HI.box(h:HI H0 Hc ck sr n C M bad d b ow P Q){o:Ob}(c:nG (Hc.l+1) o=eh):HI H0 (Hc ++ [o]) ck sr n C M bad d (bb (Hc.l,o)) (oset ow Hc.l (6,0,0)) P Q:=by
 have h1:=h.more c (6,0,0)
 exact⟨h1.sg,h1.ct,h1.ok,h1.lt,h1.kp,h1.bd,λp a=>by
  cases a
  exact⟨by rw[ak U,bW];rfl,aai _ _ _⟩⟩
theorem HI.nob(h:HI H0 Hc ck sr n C M bad d b ow P Q):HI H0 Hc ck sr n C M bad d en ow P Q:=⟨h.sg,h.ct,h.ok,h.lt,h.kp,h.bd,λ_ a=>by cases a⟩
theorem HI.UT(h:HI H0 Hc ck sr n C M [] .gi b ow P Q)(k:Int):∃a,HI H0 (Hc ++ [rC [k]]) ck sr n C M [k] (.gf Hc.l 0 1 0 1) b a P Q:=by have h1:=h.more (o:=rC [k]) (by unfold rC;exact AA _) (4,0,0);exact⟨_,h1.sg,h1.ct,h1.ok,h1.lt,h1.kp,.inr ⟨fZ,_,_,rfl,by rw[ak U,bW];rfl,aai _ _ _⟩,h1.bx⟩
theorem HI.UU{v g:Nat}{k:Int}(h:HI H0 Hc ck sr n C M bad (.gf v g 1 0 bad.l) b ow P Q)(r:bad≠[])(f:Hc[v]? = bb (.row 3 g (cl f1 bad)))(l:ow v=(4,0,0)) :
  HI H0 (Hc.set v (.row 3 (g+1) (cl f1 (bad ++ [k])))) ck sr n C M (bad ++ [k]) (.gf v (g+1) 1 0 (bad.l+1)) b ow P Q:=by
 have hl:=jw f;have key:∀w o,Hc[w]? = bb o->ow w≠(4,0,0)->(Hc.set v (.row 3 (g+1) (cl f1 (bad ++ [k]))))[w]? = bb o:=λw o d q=>jS;refine⟨?_,key _ _ h.ct (by rw[h.sg.fc];simp),?_,h.lt,λw o d m=>?_,.inr ⟨fZ,v,g+1,fZ,by rw[aN hl],l⟩,λp i=>?_⟩
 .refine⟨h.sg.fc,h.sg.fs,key _ _ h.sg.row (by rw[h.sg.fs];simp),λj c=>?_,λj c t x e=>?_⟩
  .obtain⟨h1,a⟩:=h.sg.mp j c;exact⟨key _ _ h1 (by rw[a];simp),a⟩
  .obtain⟨h1,a⟩:=h.sg.ls j c t x e;exact⟨key _ _ h1 (by rw[a];simp),a⟩
 .rw[aw];exact p5 h.ok (AA _)
 .obtain⟨h1,a⟩:=h.kp w o d m;exact⟨key _ _ h1 (by rw[a];simp),a⟩
 .obtain⟨h1,a⟩:=h.bx p i;exact⟨key _ _ h1 (by rw[a];simp),a⟩
theorem HI.rest{f:gd}{k:Nat->kn}{j:Nat->Nat×Nat×Nat}{Q':Nat->Nat->Nat}(h:HI H0 Hc ck sr n C M bad d b ow P Q)(hs:mw f ck sr n k j P Q')(gp:jz f.l f)
  (i:∀v o,Hc[v]? = bb o->ow v=(0,0,0)\/ow v=(4,0,0)\/ow v=(5,0,0)\/ow v=(6,0,0)->f[v]? = bb o/\j v=ow v):HI H0 f ck sr n C k bad d b j P Q':=by
 refine⟨hs,(i _ _ h.ct (.inl h.sg.fc)).1,gp,h.lt,λw o l q=>?_,?_,λp m=>?_⟩
 .obtain⟨h1,a⟩:=h.kp w o l q;obtain⟨e,c⟩:=i _ _ h1 (.inr (.inr (.inl a)));exact⟨e,c.trans a⟩
 .rcases h.bd with h1|⟨h1,v,g,a,e,c⟩
  .exact .inl h1
  .obtain⟨s,r⟩:=i _ _ e (.inr (.inl c));exact .inr ⟨h1,v,g,a,s,r.trans c⟩
 .obtain⟨h1,a⟩:=h.bx p m;obtain⟨e,c⟩:=i _ _ h1 (.inr (.inr (.inr a)));exact⟨e,c.trans a⟩
theorem HI.old(h:HI H0 Hc ck sr n C M bad d b ow P Q){j t:Nat}{r:gg}{x:List Int}{k:Int}(f:j<n)(i:oj r (M j)=bb (t,x)) :
  HI H0 ((Hc.set (Q j t) (rC (x ++ [k]))).set (P j) (.map KS ((jd (Q j) 0 (M j)).set t (lJ r,oI (Q j t) (x ++ [k]))))) ck sr n C (wD M j (oi r k (M j))) bad d b ow P Q:=by
 obtain⟨q,_⟩:=zJ (k:=k) i;obtain⟨m,g⟩:=h.sg.mp j f;obtain⟨q1,q2⟩:=h.sg.ls j f t _ q;have u:P j≠Q j t:=λe=>by rw[e,q2]at g;simp at g
 have key:∀v o,Hc[v]? = bb o->v≠P j->v≠Q j t->((Hc.set (Q j t) (rC (x ++ [k]))).set (P j) (.map KS ((jd (Q j) 0 (M j)).set t (lJ r,oI (Q j t) (x ++ [k])))))[v]? = bb o:=λv o a h1 l=>jS;refine h.rest (h.sg.old f i ?_ ?_ λv o a h1 l _=>key v o a h1 l) ?_ λv o a s=>⟨key v o a (λe=>?_) (λe=>?_),rfl⟩
 .grind
 .grind
 .rw[aw,aw];refine p5 (p5 h.ok (by unfold rC;exact AA _)) ?_;have p:=h.ok _ (di m);refine aE.2 λy c=>?_;rcases dK c with c|rfl
  .exact aE.1 p y c
  .show decide (Q j t<Hc.l)=eh;exact decide_eq_true (jw q1)
 .grind
 .grind
theorem HI.new(h:HI H0 Hc ck sr n C M bad d b ow P Q){j:Nat}{r:gg}{k:Int}(l:j<n)(p:oj r (M j)=en) :
  ∃c Q',HI H0 ((Hc.set (P j) (.map KS (jd (Q j) 0 (M j) ++ [(lJ r,oI Hc.l [k])]))) ++ [rC [k]]) ck sr n C (wD M j (oi r k (M j))) bad d b c P Q'/\∀w,w<Hc.l->c w=ow w:=by
 obtain⟨g,s⟩:=h.sg.mp j l;have key:∀v o,Hc[v]? = bb o->v≠P j->((Hc.set (P j) (.map KS (jd (Q j) 0 (M j) ++ [(lJ r,oI Hc.l [k])]))) ++ [rC [k]])[v]? = bb o:=λv o i h1=>jS
 obtain⟨c,Q',hs,f⟩:=h.sg.new (H':=(Hc.set (P j) (.map KS (jd (Q j) 0 (M j) ++ [(lJ r,oI Hc.l [k])]))) ++ [rC [k]]) (v:=Hc.l) (k:=k) l p (jw h.ct) (Nat.le_refl _)
  (by rw[ah (by rw[aw];exact jw g),aN (jw g)]) (by rw[ak (by rw[aw];omega),aw,bW];rfl) λw o f h1 _=>key w o f h1
 refine⟨c,Q',h.rest hs ?_ λv o i t=>⟨key v o i λe=>?_,f v (by have:=jw i;omega)⟩,λw hl=>f w U⟩
 .rw[aq,aw,bj];refine ui (p5 (xy U h.ok) ?_) λx m=>?_
  .have q:=h.ok _ (di g);refine aE.2 λy a=>?_;rcases aj.1 a with a|a
   .exact E' U (aE.1 q y a)
   .rw[cc.1 a];show decide (Hc.l<Hc.l+1)=eh;exact decide_eq_true U
  .rw[cc.1 m];unfold rC;exact AA _
 .grind
end
def pH(b n k:Nat):List D:=(dx n).map λj=>if j<k then D.gH (b+(j+1))else .val (.map en)
def anq(b n:Nat):pH b n 0=dr n (.val (.map en)):=by unfold pH;refine bg fZ λi h1 a=>fZ
def aaS(b n k:Nat):(pH b n k).l=n:=by simp[pH]
def anr(b n:Nat):pH b n n=(dx n).map λj=>D.gH (b+(j+1)):=by unfold pH;refine au λj a=>?_;rw[bp]at a;rw[if_pos a]
def ans{b n k:Nat}(h:k<n):(pH b n k).take k ++ .gH (b+(k+1))::(pH b n k).drop (k+1)=pH b n (k+1):=by
 refine bU λi=>?_;have hl:((pH b n k).take k).l=k:=by rw[aJ,aaS];omega
 by_cases h1:i<k
 .rw[ah U,List.getElem?_take_of_lt h1];unfold pH;rw[ax,ax,bS U];simp only[aH];rw[if_pos h1,if_pos U]
 .rw[ak U,hl]
  by_cases a:i=k
  .subst a;rw[bW,fD];unfold pH;rw[ax,bS h];simp only[aH];rw[if_pos U]
  .rw[(U:i-k=(i-k-1)+1),dp,aK,(U:k+1+(i-k-1)=i)];unfold pH;rw[ax,ax]
   by_cases c:i<n
   .grind
   .grind
def HI.start{H:gd}{ck n:Nat}{o C:Ob}(gp:jz H.l H)(f:H[ck]? = bb o)(h:nG (H.l+1) C=eh) :
  ∃ow P Q,HI H (H.set ck C++(.row 170 0 (pH H.l n n)::dr n (.map KS []))) ck H.l n C (λ_=>[]) [] .gi en ow P Q:=by
 have hl:=jw f;have c:∀j,j<n->(H.set ck C++(.row 170 0 (pH H.l n n)::dr n (.map KS [])))[H.l+(j+1)]? = bb (.map KS []):=λj a=>jS;refine⟨λv=>if v=ck then(0,0,0)else if v<H.l then(5,0,0)else if v=H.l then(1,0,0)else(2,v-H.l-1,0),λj=>H.l+(j+1),λ_ _=>0,⟨?_,?_,?_,λj a=>?_,λj a t x b=>?_⟩,?_,?_,hl,λv x i k=>⟨?_,?_⟩,.inl ⟨rfl,rfl⟩,λp g=>by cases g⟩
 .grind
 .grind
 .rw[ak (by rw[aw];omega),aw,bW,fD,anr]
 .refine⟨c j a,?_⟩;rw[if_neg U,if_neg U,if_neg U];congr 2;omega
 .cases b
 .grind
 .rw[aq,aw,aI,eD];refine ui (p5 (xy U gp) (Z2 U h)) λx b=>?_;rcases av.1 b with rfl|b
  .refine aE.2 λd e=>?_;unfold pH at e;obtain⟨j,a,rfl⟩:=az.1 e;rw[bp]at a;rw[if_pos a];exact decide_eq_true U
  .simp_all
 .grind
 .grind
set_option maxRecDepth 10000
set_option maxHeartbeats 16000000
def agN{p:gV->Bool}{L:List Cw}{k:Int}(k0:0<=k)(a:k<L.l):km p (cs L) (k+1).n=if p (gt L k).c=eh then km p (cs L) k.n ++ [k]else km p (cs L) k.n:=by
 have b:gt (cs L) k=(gt L k).c:=by unfold cs;rw[iX k0 (by rw[b4];exact a),iX k0 a,List.getElem_map]
 rw[(U:(k+1).n=k.n+1),km,(U:((k.n:Nat):Int)=k),b]
def wX(L:List Cw):(cs L).l=L.l:=by simp[cs]
def US{cl:List gV}{n:Nat}(h:0<=lE cl n):lE cl n<n/\nQ (sd cl (lE cl n))=true:=by
 rcases Mk cl n with⟨h1,_⟩|⟨h1,a,_⟩
 .omega
 .grind
