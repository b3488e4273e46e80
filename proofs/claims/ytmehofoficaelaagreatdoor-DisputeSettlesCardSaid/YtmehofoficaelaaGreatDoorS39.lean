/- Part 39 of DisputeSettles. -/
import Derived.Test.YtmehofoficaelaaGreatDoorS37
import Derived.Test.YtmehofoficaelaaGreatDoorS38
set_option linter.all false
namespace Go.Proofs.YtmehofoficaelaaGreatDoor
open Go Go.AL Classical
set_option maxRecDepth 10000
set_option maxHeartbeats 8000000
section
variable{H G R:U}{k j:Nat}{o o':Ob}
@[simp] theorem VG:(H++G).set H.length o=H++G.set 0 o:=by rw[dD _ _ (by omega),b6]
end
section
variable{id n:Nat}{live keys:List Nat}{K:iU}{s:St}{J:Env->U->List Nat->Bool->Prop}
@[simp ↓ high] theorem asO:vC id n (9999::live) K (.norm s)=K (.norm { s with env:=forget (9999::live) s.env }):=by rw[Qn,QJ]
@[simp ↓ high] theorem asR:vC id n (9999::live) K (.exit id s)=K (.norm { s with env:=forget (9999::live) s.env }):=by rw[Qo,QJ]
@[simp ↓ high] theorem awS:vg n (9999::live) keys J K (.norm s)=J (forget keys (forget (9999::live) s.env)) s.H s.marks s.ic:=by rw[Tq,QJ]
end
@[simp] theorem av7(r:gd):sJ (lB r) = .agg [.i r.1,.i r.2]:=rfl
theorem ahY{n:Nat}{H G:U}{v g:Nat}{x:List Int}(k:H.length=n)(d:ju n H)(b:G[v]? = some (.row 3 g (cl f1 x)))(f:x≠[]) :
  leave 0 n (H++G) (.fZ (n+v) g 1 0 x.length)=(dN 1 f1 x,H):=by
 have m:=(ae.1 b).1
 have l:(((H++G).take n).map (oJ n)).flatten = []:=flatten_nil λo c=>by rw[aW (by omega),af (by omega)]at c;exact TP (d o c)
 have e:iv (iI n []) (n+v)=none:=by
  unfold iv iI;rw[List.map_nil,az,dj];intro p j;obtain⟨u,h,rfl⟩:=List.mem_map.1 j;rw[a8]at h;have:u≠n+v:=by omega
  simpa using this
 have i:AL.rowAt (H++G) (n+v) g=some (3,cl f1 x):=by unfold AL.rowAt;rw[ai (by omega),show n+v-H.length=v by omega,b];simp
 unfold leave;rw[if_neg (by rw[aj];omega)];simp only;rw[l];show(gq (iv (iI n [])) (H++G) 40 _,pF (iI n []) (H++G))=_;rw[Jk k d,AL.Fg,e,PG,i,tM rfl];refine cG ?_ rfl
 cases x with
 | nil=>exact absurd rfl f
 | cons a r=>rfl
def afz:Wf T 126 [.val (.int .u64 0)] [] (Is (.i 0)):=o6 (k:=40) (by kernel_rfl)
def afE{H:U}:Wf T 189 [.gg,.i 0,.i 0] H (λd H'=>d = .tup []/\H'=H):=by refine Yg LL ?_;simp[LL];refine gp.un ?_;refine kS.u ?_;simp
def afF{H:U}:Wf T 125 [.gg,.i 0,.i 0,.i 0] H (λd H'=>d = .tup []/\H'=H):=by refine Yg Ls ?_;simp[Ls];refine gp.un ?_;refine kS.u ?_;simp;refine gx.kG rfl rfl afE ?_;rintro _ H' ⟨rfl,rfl⟩;simp
def Xi{H:U}:Wf T 67 [.gg] H (λd H'=>d = .tup []/\H'=H):=by refine Yg K9 ?_;simp[K9];refine Yc (afz) ?_;simp;refine gx.kG rfl rfl afF ?_;rintro _ H' ⟨rfl,rfl⟩;simp
def acA(n:Nat)(G:U)(out:List Int)(d:D):Prop:=(out = []/\d = .gg)\/(out≠[]/\∃v g,d = .fZ (n+(v+1)) g 1 0 out.length/\G[v+1]? = some (.row 3 g (cl f1 out)))
def AD{H G:U}{d:D}(gi:ju H.length H)(a:jv H.length d=true):leave 0 H.length (H++G) d=(d,H):=ahX rfl gi a
attribute [-simp] tH
def Q3{H:U}{ck sr n:Nat}{M:Nat->kd}{ow:Nat->Nat×Nat×Nat}{P:Nat->Nat}{Q:Nat->Nat->Nat}{cells:List D}(W:mn H ck sr n M ow P Q)(gi:ju H.length H)(I:H[ck]? = some (.row 168 0 cells))(S:cells[12]? = some (.fZ sr 0 1 0 n))
  {cm:List gK} (h8:cm.length<=100000) {i:Int} (i0:0<=i) (i1:i<n) (hM:M i.toNat=gN cm i) {w:gd->Bool} {Q8:FuncId} {cap:List D}
  (hw:∀(r:gd) (dst:Option Nat) (s:St) (K:St->Prop),(∀(v:Nat) (o:Ob),H[v]? = some o->s.H[v]? = some o)->K { s with env:=put s.env dst (.b (w r)) }->gx T Q8 (.agg [.i r.1,.i r.2]::cap) dst s K .mk) :
  Wf T 119 [.ptr ck 0 0,.i i,.fn (.func Q8) [] cap] H (λd H'=>d=dN 1 f1 (kc (λc=>kA c i&&w (kD c i)) cm cm.length)/\H'=H):=by
 obtain⟨u,_⟩:=W.mp i.toNat (by omega);have X:=W.ls i.toNat (by omega);have gY:=W.row;rw[hM]at u X
 have hj:((List.range n).map λj=>D.gH (P j))[i.toNat]? = some (.gH (P i.toNat)):=by rw[au,bO (by omega)];rfl
 obtain⟨p,J⟩:∃p,P i.toNat=p:=⟨_,rfl⟩;obtain⟨q,yE⟩:∃q,Q i.toNat=q:=⟨_,rfl⟩;rw[J]at u hj;rw[yE]at u X;have gF:i<(n:Int):=i1;have oS:=(ae.1 I).1;have iL:=(ae.1 u).1;have O:∀G,(H++G)[p]? = some (.map KS (iY q 0 (gN cm i))):=λG=>by rw[ah iL,u]
 refine Yg Kb ?_;simp[Kb,I,S,gY,J,u,i0,gF];(with_reducible repeat' first|refine Xk ?_<;>try simp[I,S,gY,J,u,i0,gF]|refine Xs ?_ ?_<;>intro h<;>(try intro h')<;>(try simp[h,I,S,gY,J,u,i0,gF])<;>try omega|refine Xg ?_|omega);refine gp.e (([.jj (.gH p) (gN cm i).length []],[],[],.gg):U×List Nat×List Int×D) (λy=>[(2,.fn (.func Q8) [] cap),(7,y.2.2.2),(17,.ptr H.length 0 0)]) (λy=>H++y.1) (λy=>y.1[0]? = some (.jj (.gH p) (gN cm i).length y.2.1)/\tB cm i w y.2.1 y.2.2.1/\acA H.length y.1 y.2.2.1 y.2.2.2) (λy=>(gN cm i).length-y.2.1.length) ?_ ?_
 .exact⟨rfl,tB.start,.inl ⟨rfl,rfl⟩⟩
 rintro⟨G,seen,out,d⟩ ⟨Z,hS,N⟩;dsimp only at Z hS N ⊢;have B4:=(ae.1 Z).1;have Ep:=hS.len;simp;refine uJ.at (m:=p) (since:=(gN cm i).length) (seen:=seen) (kk:=KS) (es:=iY q 0 (gN cm i)) (by simp[Z]) (by simp[O]) (by simp) (λV=>?_) λt kv dv he hi=>?_
 .have V:∀t,t<(gN cm i).length->t∈seen:=by simpa using V
  have Eb:=hS.done V;simp;refine gf ?_;rcases N with⟨rfl,rfl⟩|⟨L,v,g,rfl,f⟩
  .refine gx.kG rfl rfl Xi ?_;rintro _ H' ⟨rfl,rfl⟩;have:kc (λc=>kA c i&&w (kD c i)) cm cm.length = []:=by rw[<-Eb];simp
   rw[this];simp[AD gi,dN]
  .refine gx.kG rfl rfl (f160 (l:=out) (t:=3) (K:=λd H'=>d = .tup []/\H'=H++G.set (v+1) (.row 3 g (cl f1 (kc (λc=>kA c i&&w (kD c i)) cm cm.length)))) (aw.2 L) (by omega) (by simp[f]) ⟨rfl,by simp[Eb]⟩) ?_;rintro _ H' ⟨rfl,rfl⟩;have F:(kc (λc=>kA c i&&w (kD c i)) cm cm.length).length=out.length:=by rw[<-Eb,eH]
   have pv:=ahY (G:=G.set (v+1) (.row 3 g (cl f1 (kc (λc=>kA c i&&w (kD c i)) cm cm.length)))) (v:=v+1) (g:=g) rfl gi (by rw[aH (ae.1 f).1]) (λe=>L (ax.1 (by rw[<-F,e];rfl)));rw[F]at pv;simp[pv]
 .rw[vL]at he;obtain⟨x,B,kO⟩:=ak.1 he;cases kO;rw[aR]at *;obtain⟨Zg,_⟩:=X t x B;have gW:=(NS B).2;have z:=hS.step B hi;have pA:=Jh hS.nd hS.lt (ae.1 B).1 hi;have Ez:=(ae.1 Zg).1;have A:∀G,(H++G)[q t]? = some (.row 3 (x.2.length-1) (cl f1 x.2)):=λG=>by rw[ah Ez,Zg];rfl
  have jA:(iY q 0 (gN cm i))[t]? = some (lB x.1,oI (q t) x.2):=by rw[vL,B];simp
  obtain⟨a,BG⟩:∃a,G.set 0 (.jj (.gH p) (gN cm i).length (seen ++ [t]))=a:=⟨_,rfl⟩;have E:a[0]? = some (.jj (.gH p) (gN cm i).length (seen ++ [t])):=by rw[<-BG,aH B4]
  have RF:∀(v:Nat) (o:Ob),G[v+1]? = some o->a[v+1]? = some o:=λv o f=>by rw[<-BG,ay (by omega)];exact f
  have e:(H++G).set H.length (.jj (.gH p) (gN cm i).length (seen ++ [t]))=H++a:=by rw[VG,BG]
  have Oh:=(ae.1 E).1;rw[e];obtain⟨b,hb⟩:∃b,w x.1=b:=⟨_,rfl⟩;rw[hb]at z
  have r8:x.2.length<=cm.length:=by rw[(NS B).1];exact AI _ _ ((EP _ _ _).imp λh e=>by omega) λk hk=>(AA.1 hk).1
  simp[O,jA,E];refine qy O jA E ?_;refine hw x.1 _ _ _ (λv o f=>?_) ?_
  .have C:=(ae.1 f).1;simp[ah C,f]
  rw[hb]
  have Y:(gN cm i).length-(seen ++ [t]).length<(gN cm i).length-seen.length:=by have:=pA.2.2;rw[aj,aV]at this ⊢;omega
  have B6:∀(R:U),(a++R)[0]? = some (.jj (.gH p) (gN cm i).length (seen ++ [t])):=λR=>by rw[ah Oh];exact E
  cases b
  .rw[if_neg (by simp)]at z;simp;refine LJ.e (_,seen ++ [t],out,d) ?_;refine⟨Y,B6 _,z,?_⟩;rcases N with h|⟨h1,v,g,h2,h3⟩
   .exact .inl h
   .exact .inr ⟨h1,v,g,h2,by rw[ah (ae.1 (RF _ _ h3)).1];exact RF _ _ h3⟩
  .rw[if_pos rfl]at z;rcases N with⟨rfl,rfl⟩|⟨L,v,g,rfl,f⟩
   .simp[A,oI];(with_reducible repeat' first|refine Xk ?_<;>try simp[A,oI]|refine Xs ?_ ?_<;>intro h<;>(try intro h')<;>(try simp[h,A,oI])<;>try omega|refine Xg ?_|omega);rw[aS]at z;refine⟨λe=>absurd e gW,λ_=>(qo ?_)⟩;refine LJ.i (_,seen ++ [t],x.2,_) rfl rfl rfl rfl ?_;refine⟨Y,B6 _,z,.inr ⟨gW,a.length,0,rfl,?_⟩⟩;rw[acR];rfl
   .have Zu:=RF _ _ f;have C:=(ae.1 Zu).1;have SY:∀R:U,(a++R)[v+1]? = some (.row 3 g (cl f1 out)):=λR=>by rw[ah C];exact Zu
    have Cn:∀(R:U) (o:Ob),(a++R).set (v+1) o=a.set (v+1) o++R:=λR o=>aO _ _ C;simp[A,oI,SY,Cn];(with_reducible repeat' first|refine Xk ?_<;>try simp[A,oI,SY,Cn]|refine Xs ?_ ?_<;>intro h<;>(try intro h')<;>(try simp[h,A,oI,SY,Cn])<;>try omega|refine Xg ?_|omega);refine LJ.i (_,seen ++ [t],out++x.2,.fZ (H.length+(v+1)) (g+1) 1 0 (out.length+x.2.length)) (by simp) rfl rfl rfl ?_;refine⟨Y,?_,z,.inr ⟨by simp[L],v,g+1,by simp,?_⟩⟩
    .dsimp only;rw[ah (by rw[ar];exact Oh),ay (by omega)];exact E
    .dsimp only;rw[ah (by rw[ar];exact C),aH C]
end Go.Proofs.YtmehofoficaelaaGreatDoor
namespace Go.Proofs.YtmehofoficaelaaGreatDoor
open Go Go.AL Classical
def aib{A:lG}{v:List gd}{i:Int}(h0:∀k∈gt A.nx i,0<=(gt v k).2)(n:A.ov i=false):ke A v i↔gt v i=nM ((gt A.nx i).map λk=>gt v k):=by
 have c:∀o p:Int,(o,p)∈((gt A.nx i).map λk=>gt v k)↔∃k∈gt A.nx i,gt v k=(o,p):=λo p=>by rw[List.mem_map]
 have l:(∀r∈(gt A.nx i).map (λk=>gt v k),r.1=1)↔∀k∈gt A.nx i,(gt v k).1=1:=by simp
 have s:((gt A.nx i).map λk=>gt v k)≠[]↔gt A.nx i≠[]:=by simp
 unfold nM ke
 by_cases j:jy ((gt A.nx i).map λk=>gt v k) 3 = []
 .have y:∀k∈gt A.nx i,(gt v k).1≠3:=λk a e=>by have:(gt v k).2∈jy ((gt A.nx i).map λk=>gt v k) 3:=tu.2 ((c _ _).2 ⟨k,a,cG e rfl⟩);rw[j]at this;cases this
  rw[if_neg (λh=>h j)]
  by_cases b:gt A.nx i≠[]/\∀k∈gt A.nx i,(gt v k).1=1
  .rw[if_pos ⟨s.2 b.1,EV.2 (l.2 b.2)⟩]
   have u:jy ((gt A.nx i).map λk=>gt v k) 1≠[]:=λe=>by obtain⟨k,a⟩:=cM _ b.1;have:(gt v k).2∈jy ((gt A.nx i).map λk=>gt v k) 1:=tu.2 ((c _ _).2 ⟨k,a,cG (b.2 k a) rfl⟩);rw[e]at this;cases this
   obtain⟨q,d,f⟩:=(c _ _).1 (tu.1 (O3 u));have w:∀k∈gt A.nx i,(gt v k).2<=yS (jy ((gt A.nx i).map λk=>gt v k) 1):=λk a=>OU (tu.2 ((c _ _).2 ⟨k,a,cG (b.2 k a) rfl⟩));have g:=h0 q d;rw[f]at g;generalize yS (jy ((gt A.nx i).map λk=>gt v k) 1)=m at *;constructor
   .grind
   .intro e;exact .inr ⟨n,.inr (.inl ⟨m+1,by dsimp only at g;omega,e,λk a=>⟨b.2 k a,by have:=w k a;omega⟩,q,d,by rw[f];dsimp only;omega⟩)⟩
  .rw[if_neg (λh=>b ⟨s.1 h.1,l.1 (EV.1 h.2)⟩)];constructor
   .grind
   .grind
 .rw[if_pos j];obtain⟨q,d,f⟩:=(c _ _).1 (tu.1 (AG j));have t:∀k∈gt A.nx i,(gt v k).1=3->tv (jy ((gt A.nx i).map λk=>gt v k) 3)<=(gt v k).2:=λk a e=>Cz (tu.2 ((c _ _).2 ⟨k,a,cG e rfl⟩));have g:=h0 q d;rw[f]at g;generalize tv (jy ((gt A.nx i).map λk=>gt v k) 3)=m at *;constructor
  .grind
  .intro e;exact .inr ⟨n,.inl ⟨m+1,by dsimp only at g;omega,e,⟨q,d,by rw[f];congr 1;omega⟩,λk a x=>by have:=t k a x;omega⟩⟩
def aic{A:lG}{v:List gd}{i:Int}(a:A.ov i=true):ke A v i↔gt v i=(A.rs i,0):=by
 constructor
 .rintro(⟨_,e⟩|⟨e,_⟩)
  .exact e
  .grind
 .exact λe=>.inl ⟨a,e⟩
end Go.Proofs.YtmehofoficaelaaGreatDoor
namespace Go.AL
open Go
def Jb{ks:mP}{v i:Nat}(h:iv ks v=some i):ks[i]? = some (v,true):=by
 unfold iv at h;rw[cI]at h;obtain⟨hi,a,_⟩:=h;rw[List.getElem?_eq_getElem hi];congr 1;have:ks[i].2=true/\ks[i].1=v:=by simpa using a
 exact cG this.2 this.1
def aoc{ks:mP}{v:Nat}(h:(v,true)∈ks):∃i,iv ks v=some i:=by
 unfold iv
 cases a:ks.findIdx? (λp=>p.2&&p.1 == v)with
 | some i=>exact⟨i,rfl⟩
 | none=>
  rw[dj]at a;have:=a _ h;simp at this
def abG{ks:mP}{H:U}{v i:Nat}{o:Ob}(h:iv ks v=some i)(a:H[v]? = some o):(pF ks H)[i]? = some (ot (iv ks) H o):=by unfold pF;rw[au,Jb h];simp[a]
def BI(a:List (List Int))(H:U):Prop:=∃(cells:List D) (f:Nat->Nat),H[0]? = some (.row 37 0 cells)/\cells.length=a.length /\
 (∀j,j<a.length->cells[j]? = some (if a.getD j [] = []then .gg else .fZ (f j) ((a.getD j []).length-1) 1 0 (a.getD j []).length)) /\
 (∀j,j<a.length->a.getD j []≠[]->0<f j/\H[f j]? = some (.row 3 ((a.getD j []).length-1) (cl f1 (a.getD j [])))) /\
 (∀i j,i<a.length->j<a.length->a.getD i []≠[]->a.getD j []≠[]->f i=f j->i=j)
theorem BI.cut{k:List (List Int)}{H:U}(h:BI k H){n:Nat}(E:1<=n)(live:List Nat)(env:Env)(r:Bool):BI k (AL.cut n live { env:=env,H:=H,marks:=[],ic:=r }).H:=by
 unfold AL.cut;dsimp only;split
 .exact h
 rename_i F;obtain⟨cells,f,h0,hl,v,u,hi⟩:=h;have G:0<H.length:=(ae.1 h0).1;generalize B:dedup ((((forget live env).map λp=>jk n p.2).flatten++((H.take n).map (oJ n)).flatten++([]:List Nat).filter (n<=·)).filter (· < H.length))=K
 have o:∀j,j<k.length->k.getD j []≠[]->n<=f j->f j∈K:=λj d c q=>by
  rw[<-B];refine GL (aL.2 ⟨bk _ (bI _ ?_),by simpa using (ae.1 (u j d c).2).1⟩);rw[a7];refine⟨_,List.mem_map.2 ⟨.row 37 0 cells,?_,rfl⟩,?_⟩
  .refine aB.2 ⟨0,?_⟩;rw[aD,if_pos (by omega),h0]
  .rw[aiL,a7];refine⟨_,List.mem_map.2 ⟨_,List.mem_of_getElem? (v j d),rfl⟩,?_⟩;rw[if_neg c,ab4,if_pos q];simp
 have l:∀j,j<k.length->k.getD j []≠[]->∃i,iv (iI n K) (f j)=some i:=λj d c=>by
  refine aoc ?_;unfold iI;rw[List.mem_append]
  by_cases q:n<=f j
  .exact .inr (List.mem_map.2 ⟨_,o j d c q,rfl⟩)
  .exact .inl (List.mem_map.2 ⟨_,a8.2 (by omega),rfl⟩)
 have z:iv (iI n K) 0=some 0:=by unfold iI;obtain⟨m,rfl⟩:∃m,n=m+1:=⟨n-1,by omega⟩;rw[List.range_succ_eq_map];simp[iv,List.findIdx?_cons]
 generalize iI n K=ks at *;refine⟨cells.map (gq (iv ks) H 40),λj=>(iv ks (f j)).getD 0,abG z h0,by rw[List.length_map,hl],λj d=>?_,λj d c=>?_,λi j g d c t e=>?_⟩
 .rw[au,v j d]
  by_cases c:k.getD j [] = []
  .rw[if_pos c,if_pos c];rfl
  .obtain⟨i,g⟩:=l j d c;rw[if_neg c,if_neg c];simp only[aF,abJ g,g,aT]
 .obtain⟨i,g⟩:=l j d c;obtain⟨D,A⟩:=u j d c;dsimp only;rw[g,aT];refine⟨?_,?_⟩
  .show 0<i
   by_cases e:i=0
   .subst e;have a:=Jb g;have b:=Jb z;rw[a]at b;simp at b;omega
   .omega
  .have:=abG g A;rw[this];simp only[ot,PJ (tG _)]
 .obtain⟨a,w⟩:=l i g c;obtain⟨b,s⟩:=l j d t;dsimp only at e;rw[w,s]at e;have C:a=b:=e;subst C;have x:=Jb w;have y:=Jb s;rw[x]at y;simp at y;exact hi i j g d c t y
def ad5{n:Nat}{live:List Nat}{env:Env}{H:U}{r:Bool}(c:sh n (forget live env)):(AL.cut n live { env:=env,H:=H,marks:=[],ic:=r }).env=forget live env:=by
 unfold AL.cut;dsimp only;split
 .rfl
 .dsimp only
  conv=>rhs;rw[<-aY (forget live env)]
  refine aq λp b=>?_;rw[(c p b).2 _ H λv a=>?_]
  .rfl
  .generalize dedup _=K;unfold iI iv;rw[List.findIdx?_append,show((List.range n).map λv=>(v,true)).findIdx? (λp=>p.2&&p.1 == v)=some v from ?_]
   .rfl
   .rw[cI];exact⟨by simpa using a,by simp,λj d=>by simp;omega⟩
def BI.put{a:List (List Int)}{H H':U}{cells:List D}{f:Nat->Nat}(bl:cells.length=a.length)
  (bc:∀j,j<a.length->cells[j]? = some (if a.getD j [] = []then .gg else .fZ (f j) ((a.getD j []).length-1) 1 0 (a.getD j []).length))
  (t:∀j,j<a.length->a.getD j []≠[]->0<f j/\H[f j]? = some (.row 3 ((a.getD j []).length-1) (cl f1 (a.getD j []))))
  (s:∀i j,i<a.length->j<a.length->a.getD i []≠[]->a.getD j []≠[]->f i=f j->i=j)
  {k p:Nat} {x:List Int} (r:k<a.length) (m:x≠[]) (o:0<p) (h0:H'[0]? = some (.row 37 0 (cells.set k (.fZ p (x.length-1) 1 0 x.length))))
  (n:H'[p]? = some (.row 3 (x.length-1) (cl f1 x))) (kp:∀j,j<a.length->j≠k->a.getD j []≠[]->H'[f j]? = H[f j]?/\f j≠p):BI (a.set k x) H':=by
 have l:∀j,(a.set k x).getD j []=if j=k then x else a.getD j []:=λj=>by
  rw[List.getD_eq_getElem?_getD,bL,List.getD_eq_getElem?_getD]
  by_cases e:k=j
  .subst e;simp[r]
  .rw[if_neg e,if_neg λq=>e q.symm]
 refine⟨_,λj=>if j=k then p else f j,h0,by simp[bl],λj b=>?_,λj b c=>?_,λi j hi b c h e=>?_⟩
 .rw[l,bL];rw[ar]at b
  by_cases e:j=k
  .subst e;simp[m,bl,b]
  .rw[if_neg λq=>e q.symm,if_neg e,bc j b];simp[e]
 .rw[l]at c ⊢;rw[ar]at b
  by_cases e:j=k
  .simp only[if_pos e];exact⟨o,n⟩
  .simp only[if_neg e]at c ⊢;rw[(kp j b e c).1];exact t j b c
 .rw[l]at c h;rw[ar]at hi b;dsimp only at e
  by_cases g:i=k<;>by_cases d:j=k
  .rw[g,d]
  .rw[if_pos g,if_neg d]at e;rw[if_neg d]at h;exact absurd e.symm (kp j b d h).2
  .rw[if_neg g,if_pos d]at e;rw[if_neg g]at c;exact absurd e (kp i hi g c).2
  .rw[if_neg g,if_neg d]at e;rw[if_neg g]at c;rw[if_neg d]at h;exact s i j hi b c h e
def E0{n k v g w o l:Nat}{env:Env}(c:v<n)(h:sh n env):sh n ((k,.fZ v g w o l)::env):=λp a=>by
 rcases ao.1 a with rfl|a
 .exact⟨by rw[ab4,if_neg (by omega)],λρ H b=>by rw[abJ (b v c)]⟩
 .exact h p a
def BI.c{b:List (List Int)}{H:U}(h:BI b H){n:Nat}(c:1<=n){live:List Nat}{env:Env}(d:sh n (forget live env))(r:Bool) :
  ∃H',AL.cut n live { env:=env,H:=H,marks:=[],ic:=r } = { env:=forget live env,H:=H',marks:=[],ic:=r }/\BI b H':=by
 refine⟨_,?_,h.cut c live env r⟩;have h1:=ad5 (H:=H) (r:=r) d;generalize hs:AL.cut n live { env:=env,H:=H,marks:=[],ic:=r }=s at *
 have a:s.marks = []/\s.ic=r:=by rw[<-hs];unfold AL.cut;dsimp only;split<;>exact⟨rfl,rfl⟩
 obtain⟨e,H2,m,f⟩:=s;dsimp only at h1 a ⊢;rw[h1,a.1,a.2]
def MS{id n:Nat}{live:List Nat}{K:iU}{env:Env}{H:U}{r:Bool}{a:List (List Int)}(h:BI a H)(b:1<=n)(c:sh n (forget live env))
  (k:∀H',BI a H'->K (.norm { env:=forget live env,H:=H',marks:=[],ic:=r })):vC id n live K (.norm { env:=env,H:=H,marks:=[],ic:=r }):=by
 obtain⟨H',e,d⟩:=h.c b c r;rw[Qn,e];exact k H' d
def Tp{n:Nat}{live keys:List Nat}{J:Env->U->List Nat->Bool->Prop}{K:iU}{env:Env}{H:U}{r:Bool}{a:List (List Int)}(h:BI a H)(b:1<=n)(c:sh n (forget live env))
  (k:∀H',BI a H'->J (forget keys (forget live env)) H' [] r):vg n live keys J K (.norm { env:=env,H:=H,marks:=[],ic:=r }):=by
 obtain⟨H',e,d⟩:=h.c b c r;rw[Tq,e];exact k H' d
def BI.start(n:Nat):BI (List.replicate n []) [.row 37 0 (List.replicate n .gg)]:=
 ⟨_,λ_=>0,rfl,by simp,λj a=>by simp at a ⊢;simp[a],λj a b=>by simp at a;simp[a]at b,λi j hi a b=>by simp at hi;simp[hi]at b⟩
def ac6{id n:Nat}{live:List Nat}{K:iU}{env:Env}{H:U}{r:Bool}{a:List (List Int)}(h:BI a H)(b:1<=n)(c:sh n (forget live env))
  (k:∀H',BI a H'->K (.norm { env:=forget live env,H:=H',marks:=[],ic:=r })):vC id n live K (.exit id { env:=env,H:=H,marks:=[],ic:=r }):=by
 obtain⟨H',e,d⟩:=h.c b c r;rw[Qo,e];exact k H' d
end Go.AL
namespace Go.Proofs.YtmehofoficaelaaGreatDoor
open Go Go.AL Classical
set_option maxRecDepth 10000
set_option maxHeartbeats 8000000
def pK(i:Int):List Int->List (List Int)->List (List Int)
 | [],bs=>bs
 | k::r,bs=>pK i r (pt bs k (gt bs k ++ [i]))
def nc(nx:List (List Int)):Nat->List (List Int)
 | 0=>List.replicate nx.length []
 | n+1=>pK n (gt nx (n:Int)) (nc nx n)
theorem VQ(i k:Int):∀(r:List Int) (a:List (List Int)),pK i (r ++ [k]) a=pt (pK i r a) k (gt (pK i r a) k ++ [i])
 | [],_=>rfl
 | _::r,_=>VQ i k r _
theorem Qm(i:Int):∀(r:List Int) (a:List (List Int)),(∀k∈r,0<=k/\k<a.length)->(pK i r a).length=a.length
 | [],_,_=>rfl
 | k::r,a,h=>by have h1:=h k (by simp);have b:=iC (v:=gt a k ++ [i]) h1.1 h1.2;rw[pK,Qm i r _ λj c=>by rw[b];exact h j (by simp[c]),b]
theorem Ql(i:Int):∀(r:List Int) (a:List (List Int)),(∀k∈r,0<=k/\k<a.length)->∀j:Int,0<=j->(gt (pK i r a) j).length<=(gt a j).length+r.length
 | [],_,_,_,_=>by simp[pK]
 | k::r,a,h,j,b=>by
  have h1:=h k (by simp);have d:=iC (v:=gt a k ++ [i]) h1.1 h1.2;have c:=Ql i r (pt a k (gt a k ++ [i])) (λj b=>by rw[d];exact h j (by simp[b])) j b;rw[lK h1.1 h1.2 b]at c;rw[pK]
  by_cases e:j=k
  .rw[if_pos e]at c;subst e;simp at c ⊢;omega
  .rw[if_neg e]at c;simp;omega
section
variable{nx:List (List Int)}
theorem x5(a:∀x∈nx,∀k∈x,0<=k/\k<nx.length):∀n:Nat,n<=nx.length->(nc nx n).length=nx.length
 | 0,_=>by simp[nc]
 | n+1,h=>by have:=x5 a n (by omega);rw[nc,Qm,this];rw[this];exact a _ (gA (by omega) (by omega))
theorem Qk(b:∀x∈nx,∀k∈x,0<=k/\k<nx.length)(c:∀x∈nx,x.length<=4000000000):∀n:Nat,n<=nx.length->∀j:Int,0<=j->(gt (nc nx n) j).length<=n*4000000000
 | 0,_,j,hj=>by
  have:∀a∈nc nx 0,a = []:=λa e=>dY e
  by_cases h:j<(nc nx 0).length
  .rw[this _ (gA hj h)];simp
  .unfold gt;rw[List.getD_eq_getElem?_getD,bp (by omega)];show([]:List Int).length<=_;simp
 | n+1,h,j,hj=>by have h1:=Qk b c n (by omega) j hj;have d:=gA (l:=nx) (n:=(n:Int)) (by omega) (by omega);have g:=Ql n (gt nx (n:Int)) (nc nx n) (by rw[x5 b n (by omega)];exact b _ d) j hj;have f:=c _ d;rw[nc];omega
end
theorem Xx{α:Type}(f:List Int->α):∀a:List (List Int),(a.map λb=>[f b]).flatten=a.map f
 | []=>rfl
 | b::r=>by simp[Xx f r]
def zd{a:List (List Int)}{H:U}(h:BI a H):1<=H.length:=by obtain⟨_,_,b,_⟩:=h;exact(ae.1 b).1
def Gw(nx:List (List Int)):closed (.sl 1 (nx.map fN))=true:=by simp
def adL(x:List Int):closed (dN 1 f1 x)=true:=by simp
def acw{c:List (List Int)}{H:U}(h:BI c H){n:Nat}(m:n=c.length):leave 0 0 H (.fZ 0 0 1 0 n)=(.sl 1 (c.map fN),[]):=by
 obtain⟨cells,f,k,bl,bc,q,s⟩:=h;have hl:0<H.length:=(ae.1 k).1;subst m;unfold leave;rw[if_neg (by omega)];simp only[ec,List.map_nil,dJ,az,List.filter_nil];have i:∀v,iv (iI 0 (dedup [])) v=none:=λv=>by simp[iI,dedup,iv]
 refine cG ?_ (by simp[iI,dedup,pF]);show gq (iv (iI 0 (dedup []))) H 40 (.fZ 0 0 1 0 c.length)=_;generalize iv (iI 0 (dedup []))=ρ at *;rw[AL.Fg,i,PG];have l:AL.rowAt H 0 0=some (37,cells):=by simp[rowAt,k]
 rw[l];unfold mK;dsimp only;rw[if_pos (by omega),cO,ei]
 have o:cells.map (gq ρ H 39)=cl fN c:=by
  rw[nO];have:c.map fN=c.map λb=>[dN 1 f1 b]:=aq λb _=>s6 b;rw[this,Xx];refine bQ λj=>?_;rw[au,au]
  by_cases d:j<c.length
  .rw[bc j d,List.getElem?_eq_getElem d];have p:c.getD j []=c[j]:=by rw[List.getD_eq_getElem?_getD,List.getElem?_eq_getElem d];rfl
   have e:=q j d;rw[p]at e ⊢;generalize c[j]=b at *
   by_cases g:b = []
   .subst g;rfl
   .rw[if_neg g];have e:=(e g).2;simp only[aF,AL.Fg,i,PG];rw[show AL.rowAt H (f j) (b.length-1)=some (3,cl f1 b)by simp[rowAt,e],tM rfl]
    cases b with
    | nil=>exact absurd rfl g
    | cons a r=>rfl
  .rw[bp (by omega),bp (by omega)];rfl
 rw[o,nO,M5 (f:=fN) (sz:=1) (Fl.len (f:=fN))]
attribute [-simp] tH Qn Tq Qo
def f55(nx:List (List Int))(g:∀x∈nx,∀k∈x,0<=k/\k<nx.length)(S:nx.length<=4000)(r:∀x∈nx,x.length<=4000000000):Wf T 59 [.sl 1 (nx.map fN)] [] (Is (.sl 1 ((nc nx nx.length).map fN))):=by
 refine Yg Mk ?_;simp[Mk];refine gf ?_;refine gp.e ((0,[.row 37 0 (List.replicate nx.length .gg)]):Int×U) (λy=>[(3,.fZ 0 0 1 0 nx.length),(11,.sl 1 (nx.map fN)),(12,.i nx.length),(13,.i y.1)]) (λy=>y.2) (λy=>0<=y.1/\y.1<=nx.length/\BI (nc nx y.1.toNat) y.2) (λy=>(nx.length-y.1).toNat) ?_ ?_
 .simp[nc,BI.start]
 rintro⟨i,H⟩ ⟨i0,O,a⟩;dsimp only at i0 O a ⊢
 by_cases hi:i<nx.length
 .simp[hi,s6];refine gf ?_;refine gp.e ((0,H):Int×U) (λy=>[(3,.fZ 0 0 1 0 nx.length),(4,.i i),(11,.sl 1 (nx.map fN)),(12,.i nx.length),(13,.i i),(18,dN 1 f1 (gt nx i)),(19,.i (gt nx i).length),(20,.i y.1)]) (λy=>y.2) (λy=>0<=y.1/\y.1<=(gt nx i).length/\BI (pK i ((gt nx i).take y.1.toNat) (nc nx i.toNat)) y.2) (λy=>((gt nx i).length-y.1).toNat) ?_ ?_
  .simp[pK,a]
  rintro⟨j,H1⟩ ⟨j0,j1,j2⟩;dsimp only at j0 j1 j2 ⊢;have R:=r _ (gA i0 hi)
  by_cases b:j<(gt nx i).length
  .obtain⟨cells,f,o,bl,bc,l,B⟩:=j2;have C:=(ae.1 o).1;have gF:=g _ (gA i0 hi) _ (gA j0 b);simp[b];generalize N:gt (gt nx i) j=k at *;generalize w:pK i ((gt nx i).take j.toNat) (nc nx i.toNat)=bs at *
   have E:bs.length=nx.length:=by rw[<-w,Qm,x5 g _ (by omega)];rw[x5 g _ (by omega)];exactλk h=>g _ (gA i0 hi) k (aN h)
   have W:(gt bs k).length<=17000000000000:=by have h1:=Ql i ((gt nx i).take j.toNat) (nc nx i.toNat) (by rw[x5 g _ (by omega)];exactλk h=>g _ (gA i0 hi) k (aN h)) k gF.1;have d:=Qk g r i.toNat (by omega) k gF.1;have m:=r _ (gA i0 hi);rw[w,aJ]at h1;omega
   have F:pK i ((gt nx i).take (j+1).toNat) (nc nx i.toNat)=bs.set k.toNat (gt bs k ++ [i]):=by rw[show(j+1).toNat=j.toNat+1 by omega,cU,List.getElem?_eq_getElem (by omega),c9,VQ,w,<-iZ j0 b,N,AO gF.1 (by omega)]
   have q:=bc k.toNat (by omega);have D:bs.getD k.toNat []=gt bs k:=rfl;rw[D]at q;have q0:∀G,(H1++G)[0]? = some (.row 37 0 cells):=λG=>by rw[ah C,o]
   have q1:∀G (h:0<(H1++G).length),(H1++G)[0]'h = .row 37 0 cells:=λG h=>by have:=q0 G;rw[List.getElem?_eq_getElem h]at this;exact bU this
   have s:∀ {n:Nat},0<n->∀ {j:Int},sh n [(3,.fZ 0 0 1 0 nx.length),(4,.i i),(11,.sl 1 (nx.map fN)),(12,.i nx.length),(13,.i i),(18,dN 1 f1 (gt nx i)),(19,.i (gt nx i).length),(20,.i j)]:=λP=>
    E0 P (ru rfl (ru (Gw nx) (ru rfl (ru rfl (ru (adL _) (ru rfl (ru rfl EZ)))))))
   by_cases c:gt bs k = []
   .rw[if_pos c]at q;simp[o,gF];simp[q];refine jD o ?_;simp[q0,q1,bl,E,gF];refine gf ?_
    have A:BI (bs.set k.toNat (gt bs k ++ [i])) ((H1 ++ [Ob.row 3 0 [.i i],Ob.row 3 0 [.i i]]).set 0 (Ob.row 37 0 (pt cells k (.fZ (H1.length+1) 0 1 0 1)))):=by
     rw[c,AO gF.1 (by omega)];refine BI.put bl bc l B (by omega) (by simp) (p:=H1.length+1) (by omega) ?_ ?_ λj b K c=>?_
     .simp
     .rw[ay (by omega)];simp[iM]
     .have:=(ae.1 (l j b c).2).1;rw[ay (by have:=(l j b c).1;omega),ah this];exact⟨rfl,by omega⟩
    refine MS (id:=3) A (by omega) (by exact s C) λH2 d=>?_;simp;refine gf ?_;refine Tp d (zd a) (by exact s (zd a)) λt m=>?_;refine LJ.e (j+1,t) ?_;refine gJ ?_;dsimp only;rw[F];exact m
   .rw[if_neg c]at q;have u:=(l k.toNat (by omega) c).2;rw[D]at u;have M:=(ae.1 u).1;have z:=(l k.toNat (by omega) c).1;have q2:∀G,(H1++G)[f k.toNat]? = some (.row 3 ((gt bs k).length-1) (cl f1 (gt bs k))):=λG=>by rw[ah M,u]
    have q3:∀G y,((H1++G).set (f k.toNat) y)[0]? = some (.row 37 0 cells):=λG y=>by rw[ay (by omega),q0]
    have q4:∀G y (h:0<((H1++G).set (f k.toNat) y).length),((H1++G).set (f k.toNat) y)[0]'h = .row 37 0 cells:=λG y h=>by rw[List.getElem_set_ne (by omega),q1]
    simp[o,gF,q];refine kJ o u ?_;simp[q2];refine gf ?_;simp[q3,q4,bl,E,gF];have V:0<(gt bs k).length:=aw.2 c
    have A:BI (bs.set k.toNat (gt bs k ++ [i])) (((H1 ++ [Ob.row 3 0 [.i i]]).set (f k.toNat) (Ob.row 3 ((gt bs k).length-1+1) (cl f1 (gt bs k ++ [i])))).set 0 (Ob.row 37 0 (pt cells k (.fZ (f k.toNat) ((gt bs k).length-1+1) 1 0 ((gt bs k).length+1))))):=by
     rw[AO gF.1 (by omega)];have r:(gt bs k ++ [i]).length=(gt bs k).length+1:=by simp
     rw[<-r,show(gt bs k).length-1+1=(gt bs k ++ [i]).length-1 by omega];refine BI.put bl bc l B (by omega) (by simp) z ?_ ?_ λj b K v=>?_
     .rw[aH (by simp)]
     .rw[ay (by omega),aH (by simp;omega)]
     .have L:=(ae.1 (l j b v).2).1;have J:f j≠f k.toNat:=λe=>K (B j k.toNat b (by omega) v (by rw[D];exact c) e);rw[ay (by have:=(l j b v).1;omega),ay (λe=>J e.symm),ah L];exact⟨rfl,J⟩
    refine MS (id:=3) A (by omega) (by exact s C) λH2 d=>?_;simp;refine gf ?_;refine Tp d (zd a) (by exact s (zd a)) λt m=>?_;refine LJ.e (j+1,t) ?_;refine gJ ?_;dsimp only;rw[F];exact m
  .simp[b];refine MS (id:=2) j2 (zd a) (by exact E0 (zd a) (ru (Gw nx) (ru rfl (ru rfl EZ)))) λH2 d=>?_;refine MS (id:=1) d (zd a) (by exact E0 (zd a) (ru (Gw nx) (ru rfl (ru rfl EZ)))) λt m=>?_;simp;refine gf ?_;refine Tp m (by omega) (by exact E0 (by omega) (ru (Gw nx) (ru rfl (ru rfl EZ)))) λQ I=>?_;refine LJ.e (i+1,Q) ?_;refine gJ ?_;dsimp only;rw[show(i+1).toNat=i.toNat+1 by omega,nc,show((i.toNat:Nat):Int)=i by omega];rw[af (by omega)]at I;exact I
 .simp[hi];refine ac6 (id:=0) a (by omega) (by exact E0 (by omega) EZ) λH2 d=>?_;simp;refine gf ?_;rw[show i.toNat=nx.length by omega]at d;rw[acw d (by rw[x5 g _ (by omega)])];exact⟨rfl,rfl⟩
end Go.Proofs.YtmehofoficaelaaGreatDoor
namespace Go.Proofs.YtmehofoficaelaaGreatDoor
open Go Go.AL Classical
theorem aci{v:List gd}{b:List Bool}{x:List Int}:∀n:Nat,n<=x.length->(∀j:Nat,j<n->gt b (gt x (j:Int))=false/\(gt v (gt x (j:Int))).1=1)->(lR v b x n).1=n
 | 0,_,_=>rfl
 | n+1,hn,h=>by rw[lR,if_pos (h n (by omega))];have:=aci (v:=v) (b:=b) (x:=x) n (by omega) λj a=>h j (by omega);dsimp only;omega
theorem UI{v:List gd}{b:List Bool}{x:List Int}:∀n:Nat,(lR v b x n).1=n->∀j:Nat,j<n->gt b (gt x (j:Int))=false/\(gt v (gt x (j:Int))).1=1
 | 0,_,j,hj=>by omega
 | n+1,h,j,hj=>by
  have gF:=P8 v b x n;rw[lR]at h;split at h
  .rename_i a;dsimp only at h
   by_cases e:j=n
   .subst e;exact a
   .exact UI (v:=v) (b:=b) (x:=x) n (by omega) j (by omega)
  .omega
theorem P9{v:List gd}{b:List Bool}{x:List Int}:∀n:Nat,(lR v b x n).1=n->∀j:Nat,j<n->(gt v (gt x (j:Int))).2<=(lR v b x n).2
 | 0,_,j,hj=>by omega
 | n+1,h,j,hj=>by
  have gF:=P8 v b x n;rw[lR]at h ⊢;split at h
  .rename_i a;rw[if_pos a];dsimp only at h ⊢
   by_cases e:j=n
   .subst e;omega
   .have:=P9 (v:=v) (b:=b) (x:=x) n (by omega) j (by omega);omega
  .omega
def TH{x:List Int}{k:Int}:k∈x↔∃j:Nat,j<x.length/\gt x (j:Int)=k:=by
 rw[um];constructor
 .rintro⟨n,n0,n1,e⟩;exact⟨n.toNat,by omega,by rw[show((n.toNat:Nat):Int)=n by omega];exact e⟩
 .rintro⟨j,a,e⟩;exact⟨j,by omega,by omega,e⟩
section
variable{g:gj}{l:List Pos}{nx:List (List Int)}{part:List Int}{bu:Int}
structure FI(g:gj)(l:List Pos)(nx:List (List Int))(part:List Int)(v0:List gd)(n:Int)(v:List gd)(b:List Bool):Prop where
 vl:v.length=l.length
 bl:b.length=l.length
 out:∀k:Int,0<=k->k<l.length->k ∉ part->gt b k=false/\gt v k=gt v0 k
 dec:∀i∈part,gt b i=false->(0<=(gt v i).2/\(gt v i).2<n)/\(((stat g (gt l i)).2=true/\gt v i=((stat g (gt l i)).1,0))\/((stat g (gt l i)).2=false/\(
  (∃m,1<=m/\gt v i=(1,m)/\(∃k∈gt nx i,gt b k=false/\gt v k=(3,m-1))/\∀k∈gt nx i,gt b k=false->(gt v k).1=3->m-1<=(gt v k).2) \/
  (∃m,1<=m/\gt v i=(3,m)/\(∀k∈gt nx i,gt b k=false/\(gt v k).1=1/\(gt v k).2<=m-1)/\∃k∈gt nx i,(gt v k).2=m-1))))
 CL:∀i∈part,gt b i=true->0<n->(stat g (gt l i)).2=false/\(∀k∈gt nx i,gt b k=false->(gt v k).1=3->n-1<=(gt v k).2) /\
  (gt nx i≠[]->(∀k∈gt nx i,gt b k=false/\(gt v k).1=1)->∃k∈gt nx i,n-1<=(gt v k).2)
theorem FI.step(o:xR g l nx part bu){v0:List gd}(h0:∀k:Int,0<=k->k<l.length->0<=(gt v0 k).2){n:Int}(n0:0<=n){v:List gd}{b:List Bool}(h:FI g l nx part v0 n v b):FI g l nx part v0 (n+1) (rV g l nx part v b n) (rB g l nx part v b n):=by
 have hV:=λ{k:Int} (k0:0<=k) (k1:k<l.length)=>X1 o h.vl h.bl (n:=n) k0 k1;have I:=λ{k:Int} (k0:0<=k) (k1:k<l.length)=>Rt o (v:=v) h.bl (n:=n) k0 k1;have gF:∀i∈part,∀k∈gt nx i,0<=k/\k<l.length:=λi hi k d=>(o.nxk i (o.prt i hi).1 (o.prt i hi).2).1 k d
 have M:∀k,k∈sy g l nx part v b n↔k∈part/\(pe g (gt l k) v b (gt nx k) n).2=true/\gt b k=true:=λk=>by unfold sy TQ;rw[aL,Bool.and_eq_true]
 have X:∀k,k∈sy g l nx part v b n->(Nt g l nx v b n k).2=n:=λk d=>by
  unfold Nt pe;split
  .rename_i e;rw[e]
  .split<;>rfl
 have f:∀k:Int,0<=k->k<l.length->gt b k=false->gt (rB g l nx part v b n) k=false/\gt (rV g l nx part v b n) k=gt v k:=λk k0 k1 e=>by
  have S:k ∉ sy g l nx part v b n:=λr=>by rw[((M k).1 r).2.2]at e;cases e
  rw[hV k0 k1,I k0 k1,if_neg S,if_neg S];exact⟨e,rfl⟩
 have G:∀k:Int,0<=k->k<l.length->gt (rB g l nx part v b n) k=false->(gt b k=false/\gt (rV g l nx part v b n) k=gt v k)\/(k∈sy g l nx part v b n/\(gt (rV g l nx part v b n) k).2=n):=λk k0 k1 e=>by
  by_cases r:k∈sy g l nx part v b n
  .right;rw[hV k0 k1,if_pos r];exact⟨r,X k r⟩
  .left;rw[I k0 k1,if_neg r]at e;rw[hV k0 k1,if_neg r];exact⟨e,rfl⟩
 have K:∀k:Int,0<=k->k<l.length->gt b k=false->0<=(gt v k).2:=λk k0 k1 e=>by
  by_cases R:k∈part
  .exact(h.dec k R e).1.1
  .rw[(h.out k k0 k1 R).2];exact h0 k k0 k1
 refine⟨anV o h.vl h.bl,anU o h.bl,λk k0 k1 d=>?_,λi hi e=>?_,λi hi e _=>?_⟩
 .obtain⟨a,c⟩:=h.out k k0 k1 d;obtain⟨a',c'⟩:=f k k0 k1 a;exact⟨a',c'.trans c⟩
 .obtain⟨i0,E⟩:=o.prt i hi;rcases G i i0 E e with⟨O,e2⟩|⟨r,a4⟩
  .obtain⟨L,H⟩:=h.dec i hi O;rw[e2];refine⟨⟨L.1,by omega⟩,?_⟩;rcases H with⟨J,c2⟩|⟨J,⟨m,m1,c2,⟨k,d,D,F⟩,c5⟩|⟨m,m1,c2,D,k,d,F⟩⟩
   .exact .inl ⟨J,c2⟩
   .refine .inr ⟨J,.inl ⟨m,m1,c2,⟨k,d,?_⟩,λq p A t=>?_⟩⟩
    .have:=f k (gF i hi k d).1 (gF i hi k d).2 D;exact⟨this.1,this.2.trans F⟩
    .rcases G q (gF i hi q p).1 (gF i hi q p).2 A with⟨y,b2⟩|⟨_,b2⟩
     .rw[b2]at t ⊢;exact c5 q p y t
     .rw[c2]at L;dsimp only at L;omega
   .refine .inr ⟨J,.inr ⟨m,m1,c2,λq p=>?_,k,d,?_⟩⟩
    .obtain⟨d1,d2,d3⟩:=D q p;have:=f q (gF i hi q p).1 (gF i hi q p).2 d1;rw[this.2];exact⟨this.1,d2,d3⟩
    .rw[(f k (gF i hi k d).1 (gF i hi k d).2 (D k d).1).2];exact F
  .obtain⟨_,s,N⟩:=(M i).1 r;refine⟨by omega,?_⟩;have Y:gt (rV g l nx part v b n) i=(pe g (gt l i) v b (gt nx i) n).1:=by rw[hV i0 E,if_pos r];rfl
   rw[Y]
   by_cases u:n=0
   .subst u;unfold pe at s ⊢;rw[if_pos rfl]at s ⊢;exact .inl ⟨s,rfl⟩
   .obtain⟨W,V,p3⟩:=h.CL i hi N (by omega);refine .inr ⟨W,?_⟩;unfold pe at s ⊢;rw[if_neg u]at s ⊢
    by_cases hl:Cv v b (gt nx i) n
    .rw[if_pos hl];obtain⟨k,d,D,F⟩:=hl;refine .inl ⟨n,by omega,rfl,⟨k,d,?_⟩,λq p A t=>?_⟩
     .have:=f k (gF i hi k d).1 (gF i hi k d).2 D;exact⟨this.1,this.2.trans F⟩
     .rcases G q (gF i hi q p).1 (gF i hi q p).2 A with⟨y,b2⟩|⟨_,b2⟩
      .rw[b2]at t ⊢;exact V q p y t
      .omega
    .rw[if_neg hl]at s ⊢;simp only[decide_eq_true_eq]at s;obtain⟨w0,w1,w2⟩:=s;have H:=UI _ w1;have hg:=P9 _ w1;refine .inr ⟨n,by omega,rfl,λq p=>?_,?_⟩
     .obtain⟨j,z,rfl⟩:=TH.1 p;have T:=f _ (gF i hi _ p).1 (gF i hi _ p).2 (H j z).1;have:=hg j z;rw[T.2];exact⟨T.1,(H j z).2,by omega⟩
     .rcases UJ v b (gt nx i) (gt nx i).length (Nat.le_refl _)with O|⟨q,p,q1,q2,q3⟩
      .omega
      .refine⟨q,p,?_⟩;rw[(f q (gF i hi q p).1 (gF i hi q p).2 q1).2];omega
 .obtain⟨i0,E⟩:=o.prt i hi
  have Q:i ∉ sy g l nx part v b n:=λr=>by rw[I i0 E,if_pos r]at e;cases e
  rw[I i0 E,if_neg Q]at e
  have w:(pe g (gt l i) v b (gt nx i) n).2=false:=by
   by_cases B:(pe g (gt l i) v b (gt nx i) n).2=true
   .exact absurd ((M i).2 ⟨hi,B,e⟩) Q
   .simpa using B
  have Es:(stat g (gt l i)).2=false:=by
   by_cases u:n=0
   .unfold pe at w;rw[if_pos u]at w;exact w
   .exact(h.CL i hi e (by omega)).1
  have P:n≠0->¬Cv v b (gt nx i) n:=λu hl=>by unfold pe at w;rw[if_neg u,if_pos hl]at w;cases w
  refine⟨Es,λk d A t=>?_,λU Z=>?_⟩
  .rcases G k (gF i hi k d).1 (gF i hi k d).2 A with⟨y,b2⟩|⟨_,b2⟩
   .rw[b2]at t ⊢
    by_cases u:n=0
    .have:=K k (gF i hi k d).1 (gF i hi k d).2 y;omega
    .have h1:=(h.CL i hi e (by omega)).2.1 k d y t;have s:(gt v k).2≠n-1:=λN=>P u ⟨k,d,y,cG t N⟩;omega
   .omega
  .by_cases B:∃k∈gt nx i,n<=(gt (rV g l nx part v b n) k).2
   .obtain⟨k,d,B⟩:=B;exact⟨k,d,by omega⟩
   .exfalso
    have C:∀k∈gt nx i,gt b k=false/\(gt v k).1=1/\(gt v k).2<n:=λk d=>by
     have h1:¬n<=(gt (rV g l nx part v b n) k).2:=λs=>B ⟨k,d,s⟩;obtain⟨A,t⟩:=Z k d;rcases G k (gF i hi k d).1 (gF i hi k d).2 A with⟨y,b2⟩|⟨_,b2⟩
     .rw[b2]at t h1;exact⟨y,t,by omega⟩
     .omega
    have kj:0<(gt nx i).length:=aw.2 U
    by_cases u:n=0
    .have d:=gA (l:=gt nx i) (n:=0) (by omega) (by omega);have h1:=C _ d;have s:=K _ (gF i hi _ d).1 (gF i hi _ d).2 h1.1;omega
    .obtain⟨k,d,h1⟩:=(h.CL i hi e (by omega)).2.2 U λk d=>⟨(C k d).1,(C k d).2.1⟩
     have w1:=aci (v:=v) (b:=b) (x:=gt nx i) _ (Nat.le_refl _) λj z=>by have:=C _ (TH.2 ⟨j,z,rfl⟩);exact⟨this.1,this.2.1⟩
     have w2:(lR v b (gt nx i) (gt nx i).length).2=n-1:=by
      obtain⟨j,z,rfl⟩:=TH.1 d;have g1:=P9 _ w1 j z;rcases UJ v b (gt nx i) (gt nx i).length (Nat.le_refl _)with O|⟨q,p,_,_,q3⟩
      .have:=K _ (gF i hi _ d).1 (gF i hi _ d).2 (C _ d).1;omega
      .have:=(C q p).2.2;omega
     unfold pe at w;rw[if_neg u,if_neg (P u)]at w;simp only[decide_eq_false_iff_not]at w;exact w ⟨by omega,w1,w2⟩
end
end Go.Proofs.YtmehofoficaelaaGreatDoor
namespace Go.Proofs.YtmehofoficaelaaGreatDoor
open Go Go.AL Classical
section
variable{g:gj}{l:List Pos}{nx:List (List Int)}{part:List Int}{bu:Int}
theorem afW(o:xR g l nx part bu){v0 V:List gd}{B:List Bool}{n:Int}(n0:0<n)(j:FI g l nx part v0 n V B)
  (w:∀k:Int,0<=k->k<l.length->gt B k=false->(gt V k).1≠2->(gt V k).2<n-1):∀i∈part,ke (ji g l nx) (xe part V B).1 i:=by
 obtain⟨_,f2⟩:=Xp o j.vl j.bl;have gF:∀i∈part,∀k∈gt nx i,0<=k/\k<l.length:=λi hi k b=>(o.nxk i (o.prt i hi).1 (o.prt i hi).2).1 k b
 have b:∀k:Int,0<=k->k<l.length->gt B k=false->gt (xe part V B).1 k=gt V k:=λk k0 k1 e=>by rw[(f2 k k0 k1).1,if_neg λh=>by rw[e]at h;exact absurd h.2 (by simp)]
 have hs:∀k:Int,0<=k->k<l.length->(gt (xe part V B).1 k).1≠2->gt B k=false:=λk k0 k1 e=>by
  by_cases x:k∈part
  .by_cases z:gt B k=true
   .rw[(f2 k k0 k1).1,if_pos ⟨x,z⟩]at e;exact absurd rfl e
   .simpa using z
  .exact(j.out k k0 k1 x).1
 intro i hi;obtain⟨i0,p⟩:=o.prt i hi
 by_cases e:gt B i=true
 .obtain⟨D,C,A⟩:=j.CL i hi e n0;refine .inr ⟨D,.inr (.inr ⟨by rw[(f2 i i0 p).1,if_pos ⟨hi,e⟩],λk a d=>?_,λ⟨F,y⟩=>?_⟩)⟩
  .obtain⟨k0,k1⟩:=gF i hi k a;have c:=hs k k0 k1 (by omega);rw[b k k0 k1 c]at d;have h1:=C k a c d;have E:=w k k0 k1 c (by omega);omega
  .obtain⟨k,a,h1⟩:=A F λk a=>by obtain⟨k0,k1⟩:=gF i hi k a;have d:=y k a;have c:=hs k k0 k1 (by omega);rw[b k k0 k1 c]at d;exact⟨c,d⟩
   obtain⟨k0,k1⟩:=gF i hi k a;have d:=y k a;have c:=hs k k0 k1 (by omega);rw[b k k0 k1 c]at d;have E:=w k k0 k1 c (by omega);omega
 .have r:gt B i=false:=by simpa using e
  rcases(j.dec i hi r).2 with⟨t,c2⟩|⟨t,⟨m,v,c2,⟨k,a,s,u⟩,G⟩|⟨m,v,c2,s,k,a,u⟩⟩
  .exact .inl ⟨t,by rw[b i i0 p r];exact c2⟩
  .refine .inr ⟨t,.inl ⟨m,v,by rw[b i i0 p r];exact c2,⟨k,a,by rw[b k (gF i hi k a).1 (gF i hi k a).2 s];exact u⟩,λq f d=>?_⟩⟩;obtain⟨q0,q1⟩:=gF i hi q f;have c:=hs q q0 q1 (by omega);rw[b q q0 q1 c]at d ⊢;exact G q f c d
  .refine .inr ⟨t,.inr (.inl ⟨m,v,by rw[b i i0 p r];exact c2,λq f=>?_,k,a,?_⟩)⟩
   .obtain⟨d1,d2⟩:=s q f;rw[b q (gF i hi q f).1 (gF i hi q f).2 d1];exact d2
   .rw[b k (gF i hi k a).1 (gF i hi k a).2 (s k a).1];exact u
end
section
variable{g:gj}{l:List Pos}{m:List Int}
end
end Go.Proofs.YtmehofoficaelaaGreatDoor
namespace Go.Proofs.YtmehofoficaelaaGreatDoor
open Go Go.AL Classical
section
variable{g:gj}{l:List Pos}{m:List Int}
theorem aia(b:ox g l){v v':List gd}(e:v.length=l.length)(d:v'.length=l.length)(h:∀k:Int,0<=k->k<l.length->ke (ji g l (gw g l)) v k)(c:∀k:Int,0<=k->k<l.length->ke (ji g l (gw g l)) v' k):v=v':=
 Rs (e.trans d.symm) λj j0 j1=>aid (A:=ji g l (gw g l)) (S:=λi=>0<=i/\i<l.length) (λi hi k a=>(pC b hi.1 hi.2).2 k a) (λi hi=>h i hi.1 hi.2) (λi hi=>c i hi.1 hi.2) j ⟨j0,by omega⟩
end
end Go.Proofs.YtmehofoficaelaaGreatDoor
namespace Go.Proofs.YtmehofoficaelaaGreatDoor
open Go Go.AL Classical
structure VB(A:lG)(n:Nat)(P R:List Int)(v:List gd)(lf:List Int):Prop where
 vl:v.length=n
 ll:lf.length=n
 nd:(P++R).Nodup
 qr:∀k∈P++R,0<=k/\k<n
 qi:∀k∈P++R,(gt v k).1≠0
 z:∀k:Int,0<=k->k<n->k ∉ P++R->gt v k=(0,0)
 ov:∀k:Int,0<=k->k<n->A.ov k=true->k∈P++R/\gt v k=(A.rs k,0)
 mono:(P++R).Pairwise λa b=>(gt v a).2<=(gt v b).2
 top:∀i R',R=i::R'->∀a∈P++R,(gt v a).2<=(gt v i).2+1
 nn:∀a∈P++R,0<=(gt v a).2/\(gt v a).2<=(P++R).length
 st:∀k∈P++R,A.ov k=false ->
  (∃m,1<=m/\gt v k=(1,m)/\(∃c∈gt A.nx k,gt v c=(3,m-1))/\∀c∈gt A.nx k,(gt v c).1=3->m-1<=(gt v c).2) \/
  (∃m,1<=m/\gt v k=(3,m)/\(∀c∈gt A.nx k,(gt v c).1=1/\(gt v c).2<=m-1)/\∃c∈gt A.nx k,(gt v c).2=m-1)
noncomputable def wN(A:lG)(P:List Int)(v:List gd)(k:Int):Nat:=(gt A.nx k).countP λc=>decide (c∈P/\(gt v c).1=1)
def US(A:lG)(n:Nat)(P R d:List Int)(t:Int)(v:List gd)(lf:List Int):Prop:=∀k:Int,0<=k->k<n->k ∉ P++R ->
 (∀c∈P,c∈gt A.nx k->(gt v c).1≠3)/\(t=3->k ∉ d)/\gt lf k=(gt A.nx k).length-wN A P v k-(if t=1 then d.count k else 0:Nat)/\(gt A.nx k≠[]->0<gt lf k)
section
variable{A:lG}{n:Nat}{P R d:List Int}{v:List gd}{lf:List Int}{i k t:Int}
theorem CE(g:(P++R).Nodup)(c:∀k∈P++R,0<=k/\k<n):(P++R).length<=n:=by
 have h1:((P++R).map Int.toNat).Nodup:=by refine et.2 (dZ ?_ g);intro a b d h e;have:=c a d;have:=c b h;omega
 have:=EX h1 (m:=List.range n) λx f=>by obtain⟨a,d,rfl⟩:=List.mem_map.1 f;have:=c a d;exact a8.2 (by omega)
 simpa using this
theorem VB.push(Q:∀k:Int,0<=k->k<n->∀c∈gt A.nx k,0<=c/\c<n)(h:VB A n P (i::R) v lf)(k0:0<=k)(k1:k<n)(D:k ∉ P++i::R){o:Int}(ho:o=1\/o=3){T:List Int}(hl:T.length=n)
  (hs:(o=1/\i∈gt A.nx k/\(gt v i).1=3/\∀c∈gt A.nx k,c∈P->(gt v c).1≠3)\/(o=3/\i∈gt A.nx k/\∀c∈gt A.nx k,(gt v c).1=1/\(c∈P\/c=i))) :
  VB A n P (i::(R ++ [k])) (pt v k (o,(gt v i).2+1)) T:=by
 have s:P++i::(R ++ [k])=(P++i::R) ++ [k]:=by simp
 have Ii:=h.z k k0 k1 D;have hg:∀c:Int,0<=c->gt (pt v k (o,(gt v i).2+1)) c=if c=k then(o,(gt v i).2+1)else gt v c:=λc d=>lK k0 (by rw[h.vl];exact k1) d
 have l:∀c∈P++i::R,gt (pt v k (o,(gt v i).2+1)) c=gt v c:=λc d=>by rw[hg c (h.qr c d).1,if_neg (show c≠k fromλe=>D (e▸d))]
 have w:gt (pt v k (o,(gt v i).2+1)) k=(o,(gt v i).2+1):=by rw[hg k k0,if_pos rfl]
 have C:i∈P++i::R:=by simp
 have a':A.ov k=false:=by
  by_cases e:A.ov k=true
  .exact absurd (h.ov k k0 k1 e).1 D
  .simpa using e
 have H:=h.top i R rfl;have N:=h.mono;have K:∀c∈P,(gt v c).2<=(gt v i).2:=λc d=>(bn.1 N).2.2 c d i (by simp);have I:∀c∈R,(gt v i).2<=(gt v c).2:=λc d=>(aX.1 (bn.1 N).2.1).1 c d
 have u:∀c:Int,0<=c->(gt v c).1=1\/(gt v c).1=3->gt (pt v k (o,(gt v i).2+1)) c=gt v c:=λc t d=>by rw[hg c t,if_neg (show c≠k fromλe=>?_)];rw[e,Ii]at d;simp at d
 have U:∀c:Int,0<=c->(gt (pt v k (o,(gt v i).2+1)) c).1=3->(gt v c).1=3\/(o=3/\gt (pt v k (o,(gt v i).2+1)) c=(3,(gt v i).2+1)):=λc t d=>by
  by_cases e:c=k
  .rw[e,w]at d ⊢;exact .inr ⟨d,by rw[show o=3 from d]⟩
  .rw[hg c t,if_neg e]at d;exact .inl d
 refine{ vl:=?_,ll:=hl,nd:=?_,qr:=?_,qi:=?_,z:=?_,ov:=?_,mono:=?_,top:=?_,nn:=?_,st:=?_ }
 .rw[iC k0 (by rw[h.vl];exact k1)];exact h.vl
 .rw[s,bR];exact⟨h.nd,by simp,λa f b y e=>D (by rw[List.mem_singleton.1 y]at e;exact e▸f)⟩
 .intro c d;rw[s]at d;rcases List.mem_append.1 d with d|d
  .exact h.qr c d
  .rw[List.mem_singleton.1 d];exact⟨k0,k1⟩
 .intro c d;rw[s]at d;rcases List.mem_append.1 d with d|d
  .rw[l c d];exact h.qi c d
  .rw[List.mem_singleton.1 d,w];dsimp only;omega
 .intro c t M d;rw[s]at d;rw[hg c t,if_neg λe=>d (by simp[e])];exact h.z c t M λY=>d (bk _ Y)
 .intro c t M d;obtain⟨h1,Z⟩:=h.ov c t M d;exact⟨by rw[s];exact bk _ h1,by rw[l c h1];exact Z⟩
 .rw[s,bn];refine⟨?_,by simp,λa f b y=>?_⟩
  .refine dZ ?_ h.mono;intro a b f y V;rw[l a f,l b y];exact V
  .rw[List.mem_singleton.1 y,w,l a f];exact H a f
 .intro j R' e a f;rw[cS]at e;rw[<-e.1,l i C];rw[s]at f;rcases List.mem_append.1 f with f|f
  .rw[l a f];exact H a f
  .rw[List.mem_singleton.1 f,w];exact dw _
 .intro a f;rw[s]at f ⊢;have hi:=h.nn i C;rcases List.mem_append.1 f with f|f
  .rw[l a f];have:=h.nn a f;rw[aj];omega
  .rw[List.mem_singleton.1 f,w,aj];simp only[aV];omega
 .intro c d Es;rw[s]at d;rcases List.mem_append.1 d with d|d
  .have p:=λq g=>(Q c (h.qr c d).1 (h.qr c d).2 q g).1;rw[l c d];have O:=H c d;rcases h.st c d Es with⟨m,m1,e,⟨q,g,E⟩,W⟩|⟨m,m1,e,x,q,g,E⟩
   .refine .inl ⟨m,m1,e,⟨q,g,by rw[u q (p q g) (.inr (by rw[E]))];exact E⟩,λq g L=>?_⟩;rcases U q (p q g) L with r|⟨_,r⟩
    .rw[u q (p q g) (.inr r)];exact W q g r
    .rw[r];rw[e]at O;dsimp only at O ⊢;omega
   .refine .inr ⟨m,m1,e,λq g=>by rw[u q (p q g) (.inl (x q g).1)];exact x q g,q,g,by rw[u q (p q g) (.inl (x q g).1)];exact E⟩
  .rw[List.mem_singleton.1 d,w];have p:=λq g=>(Q k k0 k1 q g);have hi:=h.nn i C;rcases hs with⟨rfl,G,J,X⟩|⟨rfl,G,x⟩
   .refine .inl ⟨(gt v i).2+1,by omega,rfl,⟨i,G,?_⟩,λc d L=>?_⟩
    .rw[l i C,show(gt v i).2+1-1=(gt v i).2 by omega,<-J]
    .rcases U c (p c d).1 L with r|⟨r,_⟩
     .rw[u c (p c d).1 (.inr r)]
      have F:c∈P++i::R:=by
       by_cases F:c∈P++i::R
       .exact F
       .rw[h.z c (p c d).1 (p c d).2 F]at r;simp at r
      rcases List.mem_append.1 F with h1|h1
      .exact absurd r (X c d h1)
      .rcases ao.1 h1 with h1|h1
       .rw[h1];omega
       .have:=I c h1;omega
     .simp at r
   .refine .inr ⟨(gt v i).2+1,by omega,rfl,λc d=>?_,i,G,by rw[l i C];omega⟩;obtain⟨S,B⟩:=x c d;rw[u c (p c d).1 (.inl S)];refine⟨S,?_⟩;rcases B with B|B
    .have:=K c B;omega
    .rw[B];omega
theorem US.t0(h:US A n P R [] t v lf)(e:Int):US A n P R [] e v lf:=λk k0 k1 f=>by obtain⟨a,b,c,d⟩:=h k k0 k1 f;refine⟨a,λ_=>by simp,?_,d⟩;simpa using c
theorem US.skip(h:US A n P (i::R) d t v lf)(f:k∈P++i::R\/(t≠1/\t≠3)):US A n P (i::R) (d ++ [k]) t v lf:=λq q0 q1 j=>by
 obtain⟨a,b,c,e⟩:=h q q0 q1 j;refine⟨a,λl=>?_,?_,e⟩
 .rw[List.mem_append,List.mem_singleton];rintro(h1|h1)
  .exact b l h1
  .rcases f with f|f
   .exact j (h1▸f)
   .exact f.2 l
 .rw[c]
  by_cases g:t=1
  .rcases f with f|f
   .have:k≠q:=λe=>j (e▸f);rw[if_pos g,if_pos g,dz,dK,if_neg (by simpa using this),bX]
   .exact absurd g f.1
  .rw[if_neg g,if_neg g]
theorem QG{q:Int}(h:q≠k):(d ++ [k]).count q=d.count q:=by rw[dz,dK,if_neg (by simpa usingλe=>h e.symm),bX]
theorem ach{v':List gd}(h:∀c∈P,gt v' c=gt v c)(q:Int):wN A P v' q=wN A P v q:=by
 unfold wN;refine List.countP_congr λc _=>?_;simp only[decide_eq_true_eq];constructor
 .rintro⟨a,b⟩;exact⟨a,by rw[<-h c a];exact b⟩
 .rintro⟨a,b⟩;exact⟨a,by rw[h c a];exact b⟩
theorem apj(s:∀k:Int,0<=k->k<n->∀c∈gt A.nx k,0<=c/\c<n)(h:VB A n P (i::R) v lf)(p:US A n P (i::R) d (gt v i).1 v lf)(k0:0<=k)(k1:k<n)(j:k ∉ P++i::R)(r:i∈gt A.nx k)(e:(gt v i).1=3) :
  VB A n P (i::(R ++ [k])) (pt v k (1,(gt v i).2+1)) lf/\US A n P (i::(R ++ [k])) (d ++ [k]) (gt v i).1 (pt v k (1,(gt v i).2+1)) lf:=by
 obtain⟨a,_⟩:=p k k0 k1 j
 have m:∀c∈P,gt (pt v k (1,(gt v i).2+1)) c=gt v c:=λc g=>by rw[lK k0 (by rw[h.vl];exact k1) (h.qr c (by simp[g])).1,if_neg (show c≠k fromλe=>j (e▸(by simp[g])))]
 refine⟨h.push s k0 k1 j (.inl rfl) h.ll (.inl ⟨rfl,r,e,λc g hP=>a c hP g⟩),λq q0 q1 o=>?_⟩;have l:q≠k:=λe=>o (by simp[e])
 obtain⟨a,b,c,f⟩:=p q q0 q1 λt=>o (by
  rcases List.mem_append.1 t with h1|h1
  .simp[h1]
  .rcases ao.1 h1 with h1|h1<;>simp[h1])
 refine⟨λc g w=>by rw[m c g];exact a c g w,λu=>?_,?_,f⟩
 .rw[List.mem_append,List.mem_singleton];rintro(h1|h1)
  .exact b u h1
  .exact l h1
 .rw[ach m,c,QG l]
theorem apk(h:VB A n P (i::R) v lf)(o:US A n P (i::R) d (gt v i).1 v lf)(k0:0<=k)(k1:k<n)(s:k ∉ P++i::R)(r:i∈gt A.nx k)(e:(gt v i).1=1)(hl:gt lf k-1≠0) :
  VB A n P (i::R) v (pt lf k (gt lf k-1))/\US A n P (i::R) (d ++ [k]) (gt v i).1 v (pt lf k (gt lf k-1)):=by
 have l:k<lf.length:=by rw[h.ll];exact k1
 refine⟨{ h with ll:=by rw[iC k0 l];exact h.ll },λq q0 q1 m=>?_⟩;obtain⟨a,b,c,f⟩:=o q q0 q1 m;rw[lK k0 l q0]
 by_cases g:q=k
 .subst g;rw[if_pos rfl];refine⟨a,λj=>absurd (e.symm.trans j) (by simp),?_,λp=>?_⟩
  .rw[c,if_pos e,if_pos e,dz,dK,if_pos (by simp)];omega
  .have:=f p;omega
 .rw[if_neg g];refine⟨a,λj=>absurd (e.symm.trans j) (by simp),?_,f⟩;rw[c,QG g]
theorem acK{L:List Int}{p q:Int->Bool}(e:∀c∈L,¬(p c=true/\q c=true))(h:L.length<=L.countP p+L.countP q):∀c∈L,p c=true\/q c=true:=by
 induction L with
 | nil=>intro c d;cases d
 | cons x L f=>
  have h1:=e x (by simp);have g:=de (p:=p) (l:=L);rw[bJ,bJ,aC]at h
  have i:L.countP p+L.countP q<=L.length:=by
   clear f h g h1
   induction L with
   | nil=>simp
   | cons y L f=>
    have h1:=e y (by simp);have j:=f λc d=>e c (by rcases ao.1 d with h|h<;>simp[h]);rw[bJ,bJ,aC]
    by_cases a:p y=true<;>by_cases b:q y=true<;>simp[a,b]at h1 ⊢ <;> omega
  intro c d
  by_cases a:p x=true<;>by_cases b:q x=true<;>simp[a,b]at h1 h
  .rcases ao.1 d with rfl|d
   .exact .inl a
   .exact f (λc d=>e c (by simp[d])) (by omega) c d
  .rcases ao.1 d with rfl|d
   .exact .inr b
   .exact f (λc d=>e c (by simp[d])) (by omega) c d
  .omega
theorem apl(y:∀k:Int,0<=k->k<n->∀c∈gt A.nx k,0<=c/\c<n)(h:VB A n P (i::R) v lf)(t:US A n P (i::R) d (gt v i).1 v lf)(k0:0<=k)(k1:k<n)(l:k ∉ P++i::R)(w:i∈gt A.nx k)(e:(gt v i).1=1)(hl:gt lf k-1=0)
  (D:d.count k+1<=(gt A.nx k).count i) :
  VB A n P (i::(R ++ [k])) (pt v k (3,(gt v i).2+1)) (pt lf k (gt lf k-1))/\US A n P (i::(R ++ [k])) (d ++ [k]) (gt v i).1 (pt v k (3,(gt v i).2+1)) (pt lf k (gt lf k-1)):=by
 have m:k<lf.length:=by rw[h.ll];exact k1
 obtain⟨_,_,c,_⟩:=t k k0 k1 l;have B:i ∉ P:=λj=>(bR.1 h.nd).2.2 i j i (by simp) rfl
 have x:=acK (L:=gt A.nx k) (p:=λc=>decide (c∈P/\(gt v c).1=1)) (q:=λc=>c == i) (λc _=>by
  rintro⟨h1,u⟩;simp only[decide_eq_true_eq]at h1;simp only[beq_iff_eq]at u
  exact B (u▸h1.1)) (by
  rw[if_pos e]at c;unfold wN at c;have E:(gt A.nx k).count i=(gt A.nx k).countP (λc=>c == i):=rfl
  omega)
 have r:∀c∈P,gt (pt v k (3,(gt v i).2+1)) c=gt v c:=λc g=>by rw[lK k0 (by rw[h.vl];exact k1) (h.qr c (by simp[g])).1,if_neg (show c≠k fromλe=>l (e▸(by simp[g])))]
 refine⟨h.push y k0 k1 l (.inr rfl) (by rw[iC k0 m];exact h.ll) (.inr ⟨rfl,w,λc g=>?_⟩),λq q0 q1 s=>?_⟩
 .rcases x c g with h1|h1
  .simp only[decide_eq_true_eq]at h1;exact⟨h1.2,.inl h1.1⟩
  .simp only[beq_iff_eq]at h1;rw[h1];exact⟨e,.inr rfl⟩
 have o:q≠k:=λe=>s (by simp[e])
 obtain⟨a,b,c,f⟩:=t q q0 q1 λj=>s (by
  rcases List.mem_append.1 j with h1|h1
  .simp[h1]
  .rcases ao.1 h1 with h1|h1<;>simp[h1])
 rw[lK k0 m q0,if_neg o];refine⟨λc g C=>by rw[r c g];exact a c g C,λz=>absurd (e.symm.trans z) (by simp),?_,f⟩;rw[ach r,c,QG o]
theorem agK(h:VB A n P (i::R) v lf)(z:US A n P (i::R) d (gt v i).1 v lf)(y:∀k:Int,0<=k->k<n->d.count k=(gt A.nx k).count i) :
  VB A n (P ++ [i]) R v lf/\US A n (P ++ [i]) R [] 0 v lf:=by
 have g:(P ++ [i])++R=P++i::R:=by simp
 have C:i ∉ P:=λw=>(bR.1 h.nd).2.2 i w i (by simp) rfl;refine⟨⟨h.vl,h.ll,by rw[g];exact h.nd,by rw[g];exact h.qr,by rw[g];exact h.qi,by rw[g];exact h.z,by rw[g];exact h.ov,by rw[g];exact h.mono,?_,by rw[g];exact h.nn,by rw[g];exact h.st⟩,λk k0 k1 r=>?_⟩
 .intro j E e a s;rw[g]at s;have h1:=h.top i R rfl a s;have D:=(aX.1 (bn.1 h.mono).2.1).1 j (by rw[e];simp);omega
 .rw[g]at r;obtain⟨a,b,c,f⟩:=z k k0 k1 r;have m:=y k k0 k1;refine⟨λq u l=>?_,λe=>by simp at e,?_,f⟩
  .rcases List.mem_append.1 u with h1|h1
   .exact a q h1 l
   .rw[List.mem_singleton.1 h1]at l ⊢;intro B;refine b B (ea.1 ?_);rw[m];exact ea.2 l
  .rw[if_neg (show¬((0:Int)=1)by decide),c]
   have:wN A (P ++ [i]) v k=wN A P v k+(if (gt v i).1=1 then d.count k else 0):=by
    rw[m];unfold wN;clear c f b a m
    induction gt A.nx k with
    | nil=>simp
    | cons x L t=>
     rw[bJ,bJ,List.count_cons,t]
     by_cases o:x=i
     .subst o;simp[C];split<;>simp_all<;>omega
     .simp[o]
      by_cases p:x∈P/\(gt v x).1=1
      .simp[p];omega
      .simp[p]
   rw[this]
   push_cast
   omega
theorem apx(D:∀k:Int,0<=k->k<n->∀c∈gt A.nx k,0<=c/\c<n)(h:VB A n P [] v lf)(E:US A n P [] [] 0 v lf){v':List gd}(t:∀k:Int,0<=k->k<n->gt v' k=if (gt v k).1=0 then(2,(gt v k).2)else gt v k) :
  ∀k:Int,0<=k->k<n->ke A v' k:=λk k0 k1=>by
 have d:=D k k0 k1;have z:∀c:Int,0<=c->c<n->(gt v c).1=1\/(gt v c).1=3->gt v' c=gt v c:=λc o l e=>by rw[t c o l,if_neg (by omega)]
 have s:∀c:Int,0<=c->c<n->(gt v' c).1=1\/(gt v' c).1=3->gt v' c=gt v c:=λc o l e=>by
  rw[t c o l]at e ⊢;split at e
  .simp at e
  .rename_i h;rw[if_neg h]
 by_cases r:k∈P ++ []
 .have x:gt v' k=gt v k:=by rw[t k k0 k1,if_neg (h.qi k r)]
  by_cases g:A.ov k=true
  .exact .inl ⟨g,by rw[x];exact(h.ov k k0 k1 g).2⟩
  .have g:A.ov k=false:=by simpa using g
   rcases h.st k r g with⟨m,m1,e,⟨q,b,u⟩,B⟩|⟨m,m1,e,p,q,b,u⟩
   .refine .inr ⟨g,.inl ⟨m,m1,by rw[x];exact e,⟨q,b,by rw[z q (d q b).1 (d q b).2 (.inr (by rw[u]))];exact u⟩,λc i j=>?_⟩⟩;have:=s c (d c i).1 (d c i).2 (.inr j);rw[this]at j ⊢;exact B c i j
   .refine .inr ⟨g,.inr (.inl ⟨m,m1,by rw[x];exact e,λc i=>by rw[z c (d c i).1 (d c i).2 (.inl (p c i).1)];exact p c i,q,b,by rw[z q (d q b).1 (d q b).2 (.inl (p q b).1)];exact u⟩)⟩
 .have C:=h.z k k0 k1 r;obtain⟨a,_,c,f⟩:=E k k0 k1 r
  have g:A.ov k=false:=by
   by_cases g:A.ov k=true
   .exact absurd (h.ov k k0 k1 g).1 r
   .simpa using g
  have hP:∀c:Int,0<=c->c<n->(gt v' c).1=1\/(gt v' c).1=3->c∈P:=λc o l e=>by
   have G:=s c o l e
   by_cases i:c∈P ++ []
   .simpa using i
   .rw[G,h.z c o l i]at e;simp at e
  refine .inr ⟨g,.inr (.inr ⟨by rw[t k k0 k1,C];rfl,λq b j=>?_,λ⟨F,p⟩=>?_⟩)⟩
  .have y:=hP q (d q b).1 (d q b).2 (.inr j);rw[s q (d q b).1 (d q b).2 (.inr j)]at j;exact a q y b j
  .have h1:=f F;rw[c]at h1
   have:wN A P v k=(gt A.nx k).length:=by unfold wN;refine List.countP_eq_length.2 λq b=>?_;have w:=p q b;have y:=hP q (d q b).1 (d q b).2 (.inl w);rw[s q (d q b).1 (d q b).2 (.inl w)]at w;simpa using ⟨y,w⟩
   simp[this]at h1
structure VS(A:lG)(n:Nat)(m:Int)(R:List Int)(v:List gd)(lf:List Int):Prop where
 vl:v.length=n
 ll:lf.length=n
 nd:R.Nodup
 qr:∀k,k∈R↔(0<=k/\k<m)/\A.ov k=true
 vv:∀k:Int,0<=k->k<n->gt v k=if k∈R then(A.rs k,0)else(0,0)
 lv:∀k:Int,0<=k->k<m->gt lf k=(gt A.nx k).length
theorem VS.start(A:lG)(n:Nat):VS A n 0 [] (List.replicate n (0,0)) (List.replicate n 0):=
 ⟨by simp,by simp,by simp,λk=>by simp;omega,λk k0 k1=>by rw[agk k0 k1];simp,λk k0 k1=>by omega⟩
theorem VS.no{m:Int}(h:VS A n m R v lf)(m0:0<=m)(m1:m<n)(c:A.ov m=false):VS A n (m+1) R v (pt lf m (gt A.nx m).length):=by
 have hl:m<lf.length:=by rw[h.ll];exact m1
 refine⟨h.vl,by rw[iC m0 hl];exact h.ll,h.nd,λk=>?_,h.vv,λk k0 k1=>?_⟩
 .rw[h.qr k];refine⟨λ⟨a,b⟩=>⟨by omega,b⟩,λ⟨a,b⟩=>⟨?_,b⟩⟩;have:k≠m:=λe=>by rw[e,c]at b;cases b
  omega
 .rw[lK m0 hl k0]
  by_cases e:k=m
  .rw[if_pos e,e]
  .rw[if_neg e];exact h.lv k k0 (by omega)
theorem VS.yes{m:Int}(h:VS A n m R v lf)(m0:0<=m)(m1:m<n)(f:A.ov m=true):VS A n (m+1) (R ++ [m]) (pt v m (A.rs m,0)) (pt lf m (gt A.nx m).length):=by
 have hl:m<lf.length:=by rw[h.ll];exact m1
 have d:m<v.length:=by rw[h.vl];exact m1
 have c:m ∉ R:=λc=>by have:=((h.qr m).1 c).1;omega
 refine⟨by rw[iC m0 d];exact h.vl,by rw[iC m0 hl];exact h.ll,?_,λk=>?_,λk k0 k1=>?_,λk k0 k1=>?_⟩
 .rw[bR];exact⟨h.nd,by simp,λa i b g e=>c (by rw[List.mem_singleton.1 g]at e;exact e▸i)⟩
 .rw[List.mem_append,List.mem_singleton,h.qr k];constructor
  .rintro(⟨a,b⟩|rfl)
   .exact⟨by omega,b⟩
   .exact⟨by omega,f⟩
  .rintro⟨a,b⟩
   by_cases e:k=m
   .exact .inr e
   .exact .inl ⟨by omega,b⟩
 .rw[lK m0 d k0]
  by_cases e:k=m
  .rw[if_pos e,if_pos (by simp[e]),e]
  .rw[if_neg e,h.vv k k0 k1];simp[e]
 .rw[lK m0 hl k0]
  by_cases e:k=m
  .rw[if_pos e,e]
  .rw[if_neg e];exact h.lv k k0 (by omega)
theorem VS.done(h:VS A n n R v lf)(m:∀k:Int,A.ov k=true->A.rs k≠0):VB A n [] R v lf/\US A n [] R [] 0 v lf:=by
 have j:=λk (d:k∈R)=>(h.qr k).1 d
 have f:=λk (d:k∈R)=>by have:=h.vv k (j k d).1.1 (j k d).1.2;rwa [if_pos d]at this
 refine⟨⟨h.vl,h.ll,by simpa using h.nd,λk d=>(j k (by simpa using d)).1,λk d=>?_,λk k0 k1 d=>?_,λk k0 k1 l=>?_,?_,λi r e a g=>?_,λa g=>?_,λk d l=>?_⟩,λk k0 k1 d=>⟨λc o=>(by cases o),λe=>(by simp at e),?_,λq=>?_⟩⟩
 .rw[aS]at d;rw[f k d];exact m k (j k d).2
 .rw[aS]at d;rw[h.vv k k0 k1,if_neg d]
 .have d:=(h.qr k).2 ⟨⟨k0,k1⟩,l⟩;exact⟨by simpa using d,f k d⟩
 .rw[aS];refine dZ (R:=λ_ _=>True) ?_ (List.pairwise_of_forall λ_ _=>trivial);intro a b g p _;rw[f a g,f b p];exact dw _
 .rw[aS]at g;rw[f a g,f i (by rw[e];simp)];simp
 .rw[aS]at g ⊢;rw[f a g];simp
 .rw[aS]at d;rw[(j k d).2]at l;cases l
 .rw[h.lv k k0 k1,if_neg (by decide)];unfold wN;simp
 .rw[h.lv k k0 k1];have:=aw.2 q;omega
end
end Go.Proofs.YtmehofoficaelaaGreatDoor
namespace Go.Proofs.YtmehofoficaelaaGreatDoor
open Go Go.AL Classical
set_option maxRecDepth 10000
set_option maxHeartbeats 8000000
attribute [-simp] OV
def afP(g:gj)(n:Nat)(v:List gd)(lf:List Int)(p:Pos)(k o x:Int)(h:0<=k/\k<n)(a:v.length=n) :
  Wf T 57 [.i k,.i o,.i x,.ptr 2 0 0,.ptr 4 0 0] [.row 43 0 g.cells,.row 86 0 (cl fS v),.row 51 0 [.fZ 1 0 2 0 n],.row 3 0 (cl f1 lf),.row 37 0 [.gg],.row 46 0 p.cells] (λd H'=>d = .tup [] /\
   H' = [.row 43 0 g.cells,.row 86 0 (cl fS (pt v k (o,x))),.row 51 0 [.fZ 1 0 2 0 n],.row 3 0 (cl f1 lf),.row 37 0 [.fZ 6 0 1 0 1],.row 46 0 p.cells,.row 3 0 [.i k]]):=by
 refine Yg zp ?_;simp[zp];(with_reducible repeat' first|refine Xk ?_<;>try simp[uP]|refine Xs ?_ ?_<;>intro h<;>(try intro b)<;>(try simp[h,uP])<;>try omega|refine Xg ?_|omega);simp only[uP];simp[OV]
def Q6(g:gj)(n:Nat)(v:List gd)(lf L:List Int)(b a:Nat)(G:U)(f:G = []\/∃p:Pos,G = [.row 46 0 p.cells])(k o x:Int)(h:0<=k/\k<n)(j:v.length=n)(e:L.length<=4000)(c:a<=L.length) :
  Wf T 57 [.i k,.i o,.i x,.ptr 2 0 0,.ptr 4 0 0] ([.row 43 0 g.cells,.row 86 0 (cl fS v),.row 51 0 [.fZ 1 0 2 0 n],.row 3 0 (cl f1 lf),.row 37 0 [.fZ 5 b 1 a (L.length-a)],.row 3 b (cl f1 L)]++G) (λd H'=>d = .tup [] /\
   H' = [.row 43 0 g.cells,.row 86 0 (cl fS (pt v k (o,x))),.row 51 0 [.fZ 1 0 2 0 n],.row 3 0 (cl f1 lf),.row 37 0 [.fZ 5 (b+1) 1 0 (L.length-a+1)],.row 3 (b+1) (cl f1 (L.drop a ++ [k]))]++G):=by
 rcases f with rfl|⟨p,rfl⟩
 .refine Yg zp ?_;simp[zp];(with_reducible repeat' first|refine Xk ?_<;>try simp[uP]|refine Xs ?_ ?_<;>intro h<;>(try intro i)<;>(try simp[h,uP])<;>try omega|refine Xg ?_|omega);simp only[uP];simp[OV]
 .refine Yg zp ?_;simp[zp];(with_reducible repeat' first|refine Xk ?_<;>try simp[uP]|refine Xs ?_ ?_<;>intro h<;>(try intro i)<;>(try simp[h,uP])<;>try omega|refine Xg ?_|omega);simp only[uP];simp[OV]
end Go.Proofs.YtmehofoficaelaaGreatDoor
namespace Go.Proofs.YtmehofoficaelaaGreatDoor
open Go Go.AL Classical
set_option maxRecDepth 10000
set_option maxHeartbeats 16000000
attribute [local simp] HF H5 tp PZ
end Go.Proofs.YtmehofoficaelaaGreatDoor
namespace Go.Proofs.YtmehofoficaelaaGreatDoor
open Go Go.AL Classical
set_option maxRecDepth 10000
set_option maxHeartbeats 16000000
attribute [local simp] HF H5 tp PZ
theorem tC.s{T:iD}{rf:Nat}{live:List Nat}{x:X}{s s':St}{K:iU}(hs:s=s')(h:tC T rf live x s' K .mk):tC T rf live x s K .mk:=by subst hs;exact h
section
variable{g:gj}{l:List Pos}{nx:List (List Int)}{part:List Int}{bu:Int}
end
end Go.Proofs.YtmehofoficaelaaGreatDoor
namespace Go.Proofs.YtmehofoficaelaaGreatDoor
open Go Go.AL Classical
set_option maxRecDepth 10000
set_option maxHeartbeats 8000000
def QA{l:List gd}{n:Int}(h:n.toNat<l.length):(cl fS l).drop (n.toNat*2)=fS (gt l n)++cl fS (l.drop (n.toNat+1)):=by rw[uQ,bA h,mD];congr 1;unfold gt;rw[List.getD_eq_getElem?_getD,List.getElem?_eq_getElem h];rfl
def adw{l:List gd}{n:Int}(h:n.toNat<l.length)(a:Int):(cl fS l).take (n.toNat*2) ++ .i a::(cl fS l).drop (n.toNat*2+1)=cl fS (pt l n (a,(gt l n).2)):=by
 have e:(cl fS l).drop (n.toNat*2+1) = .i (gt l n).2::cl fS (l.drop (n.toNat+1)):=by rw[<-bZ,QA h,xd];rfl
 rw[e,w6];unfold pt;rw[<-zH,mD,xd];rfl
def afG(v:List gd)(b:v.length<=4000):Wf T 17 [iw v,iw v] [] (Is (.b true)):=by
 refine Yg LN ?_;simp[LN];refine gp.e (0:Int) (λy=>[(0,iw v),(1,iw v),(5,.i y)]) (λy=>[]) (λy=>0<=y/\y<=v.length) (λy=>(v.length-y).toNat) ?_ ?_
 .simp
 rintro i ⟨i0,a⟩;dsimp only at i0 a ⊢
 by_cases hi:i<v.length
 .simp[hi];refine gf ?_;refine LJ.e (i+1) ?_;omega
 .simp[hi]
