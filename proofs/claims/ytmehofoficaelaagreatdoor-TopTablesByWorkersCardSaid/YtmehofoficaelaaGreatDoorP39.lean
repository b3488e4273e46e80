/- 39 -/
import Derived.Test.YtmehofoficaelaaGreatDoorP37
import Derived.Test.YtmehofoficaelaaGreatDoorP38
set_option linter.all false
open List renaming mem_singleton→aE,replicate→bf,getElem?_eq_getElem→cc,getD_eq_getElem?_getD→cp,range→ej,map_nil→ek,length→List.l
open Bool renaming false→di,true→dx
open Option renaming some→eh
open Int renaming toNat→Int.n
namespace Go.Proofs.YtmehofoficaelaaGreatDoor
open Go Go.AL Classical
set_option maxRecDepth 10000
set_option maxHeartbeats 8000000
section
variable{H G R:gQ}{k j:Nat}{o o':Ob}
@[simp] theorem Zg:(H++G).set H.l o=H++G.set 0 o:=by rw[c8 _ _ U,b6]
end
section
variable{id n:Nat}{live keys:List Nat}{K:jD}{s:St}{J:Env->gQ->List Nat->Bool->Prop}
@[simp ↓ high] theorem axj:vN id n (9999::live) K (.norm s)=K (.norm { s with env:=forget (9999::live) s.env }):=by rw[C5,TF]
@[simp ↓ high] theorem axm:vN id n (9999::live) K (.exit id s)=K (.norm { s with env:=forget (9999::live) s.env }):=by rw[I4,TF]
@[simp ↓ high] theorem aBm:vz n (9999::live) keys J K (.norm s)=J (forget keys (forget (9999::live) s.env)) s.H s.marks s.iI:=by rw[Et,TF]
end
@[simp] theorem aAA(r:gT):uC (mH r) = .agg [.i r.1,.i r.2]:=rfl
theorem alz{n:Nat}{H G:gQ}{v g:Nat}{x:List Int}(k:H.l=n)(c:jZ n H)(f:G[v]? = eh (.row 3 g (cl f1 x)))(e:x≠[]) :
  leave 0 n (H++G) (.gR (n+v) g 1 0 x.l)=(dN 1 f1 x,H):=by
 have l:=(ae.1 f).1
 have e2:(((H++G).take n).map (pg n)).flatten = []:=flatten_nil λo b=>by rw[aV U,af U]at b;exact WL (c o b)
 have d:iP (jx n []) (n+v)=none:=by unfold iP jx;rw[ek,az,cM];intro p j;obtain⟨u,h,rfl⟩:=aj.1 j;rw[aZ]at h;have:u≠n+v:=U;simpa using this
 have i:AL.rowAt (H++G) (n+v) g=eh (3,cl f1 x):=pK;unfold leave;rw[if_neg (by rw[aq];omega)];simp only;rw[e2];show(ib (iP (jx n [])) (H++G) 40 _,pJ (jx n []) (H++G))=_;rw[LZ k c,AL.EZ,d,LX,i,uX rfl];refine cZ ?_ rfl
 cases x with
 | nil=>exact absurd rfl e
 | cons a r=>rfl
def aiW:Wf T 126 [.val (.int .u64 0)] [] (Is (.i 0)):=rn (k:=40) ia
def ai0{H:gQ}:Wf T 189 [.gV,.i 0,.i 0] H (λd H'=>d = .tup []/\H'=H):=by refine Yg Oy ?_;simp[Oy];refine gZ.un ?_;refine kT.u ?_;simp
def ai1{H:gQ}:Wf T 125 [.gV,.i 0,.i 0,.i 0] H (λd H'=>d = .tup []/\H'=H):=by refine Yg Og ?_;simp[Og];refine gZ.un ?_;refine kT.u ?_;simp;refine ik.kZ rfl rfl ai0 ?_;rintro _ H' ⟨rfl,rfl⟩;simp
def aaU{H:gQ}:Wf T 67 [.gV] H (λd H'=>d = .tup []/\H'=H):=by refine Yg NV ?_;simp[NV];refine Yc (aiW) ?_;simp;refine ik.kZ rfl rfl ai1 ?_;rintro _ H' ⟨rfl,rfl⟩;simp
def afH(n:Nat)(G:gQ)(out:List Int)(d:D):Prop:=(out = []/\d = .gV)\/(out≠[]/\∃v g,d = .gR (n+(v+1)) g 1 0 out.l/\G[v+1]? = eh (.row 3 g (cl f1 out)))
def yh{H G:gQ}{d:D}(gW:jZ H.l H)(a:kz H.l d=dx):leave 0 H.l (H++G) d=(d,H):=acJ rfl gW a
attribute [-simp] pQ
def TW{H:gQ}{ck sr n:Nat}{M:Nat->lr}{ow:Nat->Nat×Nat×Nat}{P:Nat->Nat}{Q:Nat->Nat->Nat}{cells:List D}(X:nI H ck sr n M ow P Q)(gW:jZ H.l H)(V:H[ck]? = eh (.row 168 0 cells))(tJ:cells[12]? = eh (.gR sr 0 1 0 n))
  {cm:List iF} (h8:cm.l<=100000) {i:Int} (i0:0<=i) (i1:i<n) (hM:M i.n=iH cm i) {w:gT->Bool} {T1:FuncId} {cap:List D}
  (hw:∀(r:gT) (dst:Option Nat) (s:St) (K:St->Prop),(∀(v:Nat) (o:Ob),H[v]? = eh o->s.H[v]? = eh o)->K { s with env:=put s.env dst (.b (w r)) }->ik T T1 (.agg [.i r.1,.i r.2]::cap) dst s K .mk) :
  Wf T 119 [.ptr ck 0 0,.i i,.fn (.func T1) [] cap] H (λd H'=>d=dN 1 f1 (lq (λc=>kN c i&&w (lW c i)) cm cm.l)/\H'=H):=by
 obtain⟨z,_⟩:=X.mp i.n U;have Y:=X.ls i.n U;have iX:=X.row;rw[hM]at z Y;have hj:((ej n).map λj=>D.im (P j))[i.n]? = eh (.im (P i.n)):=kM;obtain⟨p,S⟩:∃p,P i.n=p:=⟨_,rfl⟩;obtain⟨q,D'⟩:∃q,Q i.n=q:=⟨_,rfl⟩;rw[S]at z hj;rw[D']at z Y;have iG:i<(n:Int):=i1;have qz:=(ae.1 V).1;have kc:=(ae.1 z).1;have O:∀G,(H++G)[p]? = eh (.map KS (jN q 0 (iH cm i))):=λG=>by rw[ah kc,z]
 refine Yg MX ?_;simp[MX,V,tJ,iX,S,z,i0,iG];refine pM (And.intro V tJ) (And.intro iX S) (And.intro z i0) iG ?_;refine gZ.e (([.jO (.im p) (iH cm i).l []],[],[],.gV):gQ×List Nat×List Int×D) (λy=>[(2,.fn (.func T1) [] cap),(7,y.2.2.2),(17,.ptr H.l 0 0)]) (λy=>H++y.1) (λy=>y.1[0]? = eh (.jO (.im p) (iH cm i).l y.2.1)/\vK cm i w y.2.1 y.2.2.1/\afH H.l y.1 y.2.2.1 y.2.2.2) (λy=>(iH cm i).l-y.2.1.l) ?_ ?_
 .exact⟨rfl,vK.start,.inl ⟨rfl,rfl⟩⟩
 rintro⟨G,seen,out,d⟩ ⟨hG,hS,N⟩;dsimp only at hG hS N ⊢;have BY:=(ae.1 hG).1;have Kr:=hS.len;simp;refine ub.at (m:=p) (since:=(iH cm i).l) (seen:=seen) (kk:=KS) (es:=jN q 0 (iH cm i)) (by simp[hG]) (by simp[O]) gP (λW=>?_) λt kv dv he hi=>?_
 .have W:∀t,t<(iH cm i).l->t∈seen:=by simpa using W
  have Gt:=hS.done W;simp;refine gU ?_;rcases N with⟨rfl,rfl⟩|⟨L,v,g,rfl,f⟩
  .refine ik.kZ rfl rfl aaU ?_;rintro _ H' ⟨rfl,rfl⟩;have:lq (λc=>kN c i&&w (lW c i)) cm cm.l = []:=by rw[<-Gt];simp
   rw[this];simp[yh gW,dN]
  .refine ik.kZ rfl rfl (f160 (l:=out) (t:=3) (K:=λd H'=>d = .tup []/\H'=H++G.set (v+1) (.row 3 g (cl f1 (lq (λc=>kN c i&&w (lW c i)) cm cm.l)))) (ay.2 L) U (by simp[f]) ⟨rfl,by simp[Gt]⟩) ?_;rintro _ H' ⟨rfl,rfl⟩;have F:(lq (λc=>kN c i&&w (lW c i)) cm cm.l).l=out.l:=by rw[<-Gt,dZ]
   have s7:=alz (G:=G.set (v+1) (.row 3 g (cl f1 (lq (λc=>kN c i&&w (lW c i)) cm cm.l)))) (v:=v+1) (g:=g) rfl gW (by rw[aN (ae.1 f).1]) (λe=>L (aA.1 (by rw[<-F,e];rfl)));rw[F]at s7;simp[s7]
 .rw[xK]at he;obtain⟨x,B,l6⟩:=ar.1 he;cases l6;rw[aR]at *;obtain⟨E,_⟩:=Y t x B;have iU:=(Qx B).2;have u:=hS.step B hi;have rh:=LV hS.nd hS.lt (ae.1 B).1 hi;have B9:=(ae.1 E).1;have A:∀G,(H++G)[q t]? = eh (.row 3 (x.2.l-1) (cl f1 x.2)):=λG=>by rw[ah B9,E];rfl
  have kR:(jN q 0 (iH cm i))[t]? = eh (mH x.1,oI (q t) x.2):=by rw[xK,B];simp
  obtain⟨a,DF⟩:∃a,G.set 0 (.jO (.im p) (iH cm i).l (seen ++ [t]))=a:=⟨_,rfl⟩;have I:a[0]? = eh (.jO (.im p) (iH cm i).l (seen ++ [t])):=by rw[<-DF,aN BY]
  have Uu:∀(v:Nat) (o:Ob),G[v+1]? = eh o->a[v+1]? = eh o:=λv o f=>by rw[<-DF,aC U];exact f
  have e:(H++G).set H.l (.jO (.im p) (iH cm i).l (seen ++ [t]))=H++a:=by rw[Zg,DF]
  have U4:=(ae.1 I).1;rw[e];obtain⟨b,hb⟩:∃b,w x.1=b:=⟨_,rfl⟩;rw[hb]at u
  have sm:x.2.l<=cm.l:=by rw[(Qx B).1];exact yl _ _ ((G7 _ _ _).imp λh e=>U) λk hk=>(Ck.1 hk).1
  simp[O,kR,I];refine kf O kR I ?_;refine hw x.1 _ _ _ (λv o f=>?_) ?_
  .have J:=(ae.1 f).1;simp[ah J,f]
  rw[hb];have Z:(iH cm i).l-(seen ++ [t]).l<(iH cm i).l-seen.l:=kM;have QY:∀(R:gQ),(a++R)[0]? = eh (.jO (.im p) (iH cm i).l (seen ++ [t])):=λR=>by rw[ah U4];exact I
  cases b
  .rw[if_neg gP]at u;simp;refine LJ.e (_,seen ++ [t],out,d) ?_;refine⟨Z,QY _,u,?_⟩;rcases N with h|⟨h1,v,g,h2,h3⟩
   .exact .inl h
   .exact .inr ⟨h1,v,g,h2,by rw[ah (ae.1 (Uu _ _ h3)).1];exact Uu _ _ h3⟩
  .rw[if_pos rfl]at u;rcases N with⟨rfl,rfl⟩|⟨L,v,g,rfl,f⟩
   .simp[A,oI];(with_reducible repeat' first|refine Xk ?_<;>try simp[A,oI]|refine Xs ?_ ?_<;>intro h<;>(try intro h')<;>(try simp[h,A,oI])<;>try omega|refine Xg ?_|omega);rw[aS]at u;refine⟨λe=>absurd e iU,λ_=>(oO ?_)⟩;refine LJ.i (_,seen ++ [t],x.2,_) rfl rfl rfl rfl ?_;refine⟨Z,QY _,u,.inr ⟨iU,a.l,0,rfl,?_⟩⟩;rw[afW];rfl
   .have C:=Uu _ _ f;have J:=(ae.1 C).1;have VI:∀R:gQ,(a++R)[v+1]? = eh (.row 3 g (cl f1 out)):=λR=>by rw[ah J];exact C
    have Ed:∀(R:gQ) (o:Ob),(a++R).set (v+1) o=a.set (v+1) o++R:=λR o=>aP _ _ J;simp[A,oI,VI,Ed];(with_reducible repeat' first|refine Xk ?_<;>try simp[A,oI,VI,Ed]|refine Xs ?_ ?_<;>intro h<;>(try intro h')<;>(try simp[h,A,oI,VI,Ed])<;>try omega|refine Xg ?_|omega);refine LJ.i (_,seen ++ [t],out++x.2,.gR (H.l+(v+1)) (g+1) 1 0 (out.l+x.2.l)) gP rfl rfl rfl ?_;refine⟨Z,?_,u,.inr ⟨by simp[L],v,g+1,gP,?_⟩⟩
    .grind
    .grind
end Go.Proofs.YtmehofoficaelaaGreatDoor
namespace Go.Proofs.YtmehofoficaelaaGreatDoor
open Go Go.AL Classical
def alO{A:mM}{v:List gT}{i:Int}(h0:∀k∈gt A.nx i,0<=(gt v k).2)(s:A.ov i=di):kE A v i↔gt v i=pe ((gt A.nx i).map λk=>gt v k):=by
 have c:∀o p:Int,(o,p)∈((gt A.nx i).map λk=>gt v k)↔∃k∈gt A.nx i,gt v k=(o,p):=λo p=>by rw[aj]
 have l:(∀r∈(gt A.nx i).map (λk=>gt v k),r.1=1)↔∀k∈gt A.nx i,(gt v k).1=1:=gP;have n:((gt A.nx i).map λk=>gt v k)≠[]↔gt A.nx i≠[]:=gP;unfold pe kE
 by_cases j:kA ((gt A.nx i).map λk=>gt v k) 3 = []
 .have x:∀k∈gt A.nx i,(gt v k).1≠3:=λk a e=>by have:(gt v k).2∈kA ((gt A.nx i).map λk=>gt v k) 3:=vB.2 ((c _ _).2 ⟨k,a,cZ e rfl⟩);rw[j]at this;cases this
  rw[if_neg (λh=>h j)]
  by_cases b:gt A.nx i≠[]/\∀k∈gt A.nx i,(gt v k).1=1
  .rw[if_pos ⟨n.2 b.1,Ho.2 (l.2 b.2)⟩]
   have u:kA ((gt A.nx i).map λk=>gt v k) 1≠[]:=λe=>by obtain⟨k,a⟩:=de _ b.1;have:(gt v k).2∈kA ((gt A.nx i).map λk=>gt v k) 1:=vB.2 ((c _ _).2 ⟨k,a,cZ (b.2 k a) rfl⟩);rw[e]at this;cases this
   obtain⟨q,d,f⟩:=(c _ _).1 (vB.1 (RO u));have w:∀k∈gt A.nx i,(gt v k).2<=AG (kA ((gt A.nx i).map λk=>gt v k) 1):=λk a=>RC (vB.2 ((c _ _).2 ⟨k,a,cZ (b.2 k a) rfl⟩));have g:=h0 q d;rw[f]at g;generalize AG (kA ((gt A.nx i).map λk=>gt v k) 1)=m at *;constructor
   .grind
   .intro e;exact .inr ⟨s,.inr (.inl ⟨m+1,by dsimp only at g;omega,e,λk a=>⟨b.2 k a,by have:=w k a;omega⟩,q,d,by rw[f];dsimp only;omega⟩)⟩
  .rw[if_neg (λh=>b ⟨n.1 h.1,l.1 (Ho.1 h.2)⟩)];constructor
   .grind
   .grind
 .rw[if_pos j];obtain⟨q,d,f⟩:=(c _ _).1 (vB.1 (Cp j));have t:∀k∈gt A.nx i,(gt v k).1=3->vC (kA ((gt A.nx i).map λk=>gt v k) 3)<=(gt v k).2:=λk a e=>EB (vB.2 ((c _ _).2 ⟨k,a,cZ e rfl⟩));have g:=h0 q d;rw[f]at g;generalize vC (kA ((gt A.nx i).map λk=>gt v k) 3)=m at *;constructor
  .grind
  .intro e;exact .inr ⟨s,.inl ⟨m+1,by dsimp only at g;omega,e,⟨q,d,by rw[f];congr 1;omega⟩,λk a e2=>by have:=t k a e2;omega⟩⟩
def alP{A:mM}{v:List gT}{i:Int}(a:A.ov i=dx):kE A v i↔gt v i=(A.rs i,0):=by
 constructor
 .rintro(⟨_,e⟩|⟨e,_⟩)
  .exact e
  .grind
 .exact λe=>.inl ⟨a,e⟩
end Go.Proofs.YtmehofoficaelaaGreatDoor
namespace Go.AL
open Go
def LN{ks:nX}{v i:Nat}(h:iP ks v=eh i):ks[i]? = eh (v,dx):=by
 unfold iP at h;rw[cG]at h;obtain⟨hi,a,_⟩:=h;rw[cc hi];congr 1;have:ks[i].2=dx/\ks[i].1=v:=by simpa using a
 exact cZ this.2 this.1
def asw{ks:nX}{v:Nat}(h:(v,dx)∈ks):∃i,iP ks v=eh i:=by
 unfold iP
 cases a:ks.findIdx? (λp=>p.2&&p.1 == v)with
 | some i=>exact⟨i,rfl⟩
 | none=>
  rw[cM]at a;have:=a _ h;simp at this
def aeH{ks:nX}{H:gQ}{v i:Nat}{o:Ob}(h:iP ks v=eh i)(a:H[v]? = eh o):(pJ ks H)[i]? = eh (lG (iP ks) H o):=by unfold pJ;rw[aw,LN h];simp[a]
def BI(a:List (List Int))(H:gQ):Prop:=∃(cells:List D) (f:Nat->Nat),H[0]? = eh (.row 37 0 cells)/\cells.l=a.l /\
 (∀j,j<a.l->cells[j]? = eh (if a.getD j [] = []then .gV else .gR (f j) ((a.getD j []).l-1) 1 0 (a.getD j []).l)) /\
 (∀j,j<a.l->a.getD j []≠[]->0<f j/\H[f j]? = eh (.row 3 ((a.getD j []).l-1) (cl f1 (a.getD j [])))) /\
 (∀i j,i<a.l->j<a.l->a.getD i []≠[]->a.getD j []≠[]->f i=f j->i=j)
theorem BI.cut{k:List (List Int)}{H:gQ}(h:BI k H){n:Nat}(F:1<=n)(live:List Nat)(env:Env)(r:Bool):BI k (AL.cut n live { env:=env,H:=H,marks:=[],iI:=r }).H:=by
 unfold AL.cut;dsimp only;split
 .exact h
 rename_i E;obtain⟨cells,f,h0,hl,w,v,hi⟩:=h;have G:0<H.l:=(ae.1 h0).1;generalize B:dedup ((((forget live env).map λp=>jQ n p.2).flatten++((H.take n).map (pg n)).flatten++([]:List Nat).filter (n<=·)).filter (· < H.l))=K
 have o:∀j,j<k.l->k.getD j []≠[]->n<=f j->f j∈K:=λj d c q=>by
  rw[<-B];refine Jr (aH.2 ⟨bp _ (bK _ ?_),by simpa using (ae.1 (v j d c).2).1⟩);rw[bq];refine⟨_,aj.2 ⟨.row 37 0 cells,?_,rfl⟩,?_⟩
  .refine aG.2 ⟨0,?_⟩;rw[aJ,if_pos U,h0]
  .rw[adB,bq];refine⟨_,aj.2 ⟨_,List.mem_of_getElem? (w j d),rfl⟩,?_⟩;rw[if_neg c,Xz,if_pos q];simp
 have l:∀j,j<k.l->k.getD j []≠[]->∃i,iP (jx n K) (f j)=eh i:=λj d c=>by
  refine asw ?_;unfold jx;rw[ai]
  by_cases q:n<=f j
  .exact .inr (aj.2 ⟨_,o j d c q,rfl⟩)
  .exact .inl (aj.2 ⟨_,aZ.2 U,rfl⟩)
 have s:iP (jx n K) 0=eh 0:=by unfold jx;obtain⟨m,rfl⟩:∃m,n=m+1:=⟨n-1,U⟩;rw[List.range_succ_eq_map];simp[iP,fG]
 generalize jx n K=ks at *;refine⟨cells.map (ib (iP ks) H 40),λj=>(iP ks (f j)).getD 0,aeH s h0,by rw[List.length_map,hl],λj d=>?_,λj d c=>?_,λi j g d c u e=>?_⟩
 .rw[aw,w j d]
  by_cases c:k.getD j [] = []
  .rw[if_pos c,if_pos c];rfl
  .obtain⟨i,g⟩:=l j d c;rw[if_neg c,if_neg c];simp only[aK,Sz g,g,bh]
 .obtain⟨i,g⟩:=l j d c;obtain⟨D,A⟩:=v j d c;dsimp only;rw[g,bh];refine⟨?_,?_⟩
  .show 0<i
   by_cases e:i=0
   .subst e;have a:=LN g;have b:=LN s;rw[a]at b;simp at b;omega
   .omega
  .have:=aeH g A;rw[this];simp only[lG,L0 (uR _)]
 .obtain⟨a,z⟩:=l i g c;obtain⟨b,t⟩:=l j d u;dsimp only at e;rw[z,t]at e;have C:a=b:=e;subst C;have x:=LN z;have y:=LN t;rw[x]at y;simp at y;exact hi i j g d c u y
def ahe{n:Nat}{live:List Nat}{env:Env}{H:gQ}{r:Bool}(c:ph n (forget live env)):(AL.cut n live { env:=env,H:=H,marks:=[],iI:=r }).env=forget live env:=by
 unfold AL.cut;dsimp only;split
 .rfl
 .dsimp only
  conv=>rhs;rw[<-bn (forget live env)]
  refine au λp b=>?_;rw[(c p b).2 _ H λv a=>?_]
  .rfl
  .generalize dedup _=K;unfold jx iP;rw[fm,show((ej n).map λv=>(v,dx)).findIdx? (λp=>p.2&&p.1 == v)=eh v from ?_]
   .rfl
   .rw[cG];exact⟨by simpa using a,gP,λj d=>iz⟩
def BI.put{a:List (List Int)}{H H':gQ}{cells:List D}{f:Nat->Nat}(bl:cells.l=a.l)
  (bc:∀j,j<a.l->cells[j]? = eh (if a.getD j [] = []then .gV else .gR (f j) ((a.getD j []).l-1) 1 0 (a.getD j []).l))
  (s:∀j,j<a.l->a.getD j []≠[]->0<f j/\H[f j]? = eh (.row 3 ((a.getD j []).l-1) (cl f1 (a.getD j []))))
  (r:∀i j,i<a.l->j<a.l->a.getD i []≠[]->a.getD j []≠[]->f i=f j->i=j)
  {k p:Nat} {x:List Int} (o:k<a.l) (l:x≠[]) (n:0<p) (h0:H'[0]? = eh (.row 37 0 (cells.set k (.gR p (x.l-1) 1 0 x.l))))
  (m:H'[p]? = eh (.row 3 (x.l-1) (cl f1 x))) (kp:∀j,j<a.l->j≠k->a.getD j []≠[]->H'[f j]? = H[f j]?/\f j≠p):BI (a.set k x) H':=by
 have h:∀j,(a.set k x).getD j []=if j=k then x else a.getD j []:=λj=>by
  rw[cp,bI,cp]
  by_cases e:k=j
  .subst e;simp[o]
  .rw[if_neg e,if_neg λq=>e q.symm]
 refine⟨_,λj=>if j=k then p else f j,h0,by simp[bl],λj b=>?_,λj b c=>?_,λi j hi b c g e=>?_⟩
 .rw[h,bI];rw[av]at b
  by_cases e:j=k
  .subst e;simp[l,bl,b]
  .rw[if_neg λq=>e q.symm,if_neg e,bc j b];simp[e]
 .rw[h]at c ⊢;rw[av]at b
  by_cases e:j=k
  .simp only[if_pos e];exact⟨n,m⟩
  .simp only[if_neg e]at c ⊢;rw[(kp j b e c).1];exact s j b c
 .rw[h]at c g;rw[av]at hi b;dsimp only at e
  by_cases d:i=k<;>by_cases e2:j=k
  .rw[d,e2]
  .rw[if_pos d,if_neg e2]at e;rw[if_neg e2]at g;exact absurd e.symm (kp j b e2 g).2
  .rw[if_neg d,if_pos e2]at e;rw[if_neg d]at c;exact absurd e (kp i hi d c).2
  .rw[if_neg d,if_neg e2]at e;rw[if_neg d]at c;rw[if_neg e2]at g;exact r i j hi b c g e
def Hu{n k v g w o l:Nat}{env:Env}(c:v<n)(h:ph n env):ph n ((k,.gR v g w o l)::env):=λp a=>by
 rcases ak.1 a with rfl|a
 .exact⟨by rw[Xz,if_neg U],λρ H b=>by rw[Sz (b v c)]⟩
 .exact h p a
def BI.c{b:List (List Int)}{H:gQ}(h:BI b H){n:Nat}(c:1<=n){live:List Nat}{env:Env}(d:ph n (forget live env))(r:Bool) :
  ∃H',AL.cut n live { env:=env,H:=H,marks:=[],iI:=r } = { env:=forget live env,H:=H',marks:=[],iI:=r }/\BI b H':=by
 refine⟨_,?_,h.cut c live env r⟩;have h1:=ahe (H:=H) (r:=r) d;generalize hs:AL.cut n live { env:=env,H:=H,marks:=[],iI:=r }=s at *
 have a:s.marks = []/\s.iI=r:=by rw[<-hs];unfold AL.cut;dsimp only;split<;>exact⟨rfl,rfl⟩
 obtain⟨e,H2,m,f⟩:=s;dsimp only at h1 a ⊢;rw[h1,a.1,a.2]
def Py{id n:Nat}{live:List Nat}{K:jD}{env:Env}{H:gQ}{r:Bool}{a:List (List Int)}(h:BI a H)(b:1<=n)(c:ph n (forget live env))
  (k:∀H',BI a H'->K (.norm { env:=forget live env,H:=H',marks:=[],iI:=r })):vN id n live K (.norm { env:=env,H:=H,marks:=[],iI:=r }):=by
 obtain⟨H',e,d⟩:=h.c b c r;rw[C5,e];exact k H' d
def Wg{n:Nat}{live keys:List Nat}{J:Env->gQ->List Nat->Bool->Prop}{K:jD}{env:Env}{H:gQ}{r:Bool}{a:List (List Int)}(h:BI a H)(b:1<=n)(c:ph n (forget live env))
  (k:∀H',BI a H'->J (forget keys (forget live env)) H' [] r):vz n live keys J K (.norm { env:=env,H:=H,marks:=[],iI:=r }):=by
 obtain⟨H',e,d⟩:=h.c b c r;rw[Et,e];exact k H' d
def BI.start(n:Nat):BI (bf n []) [.row 37 0 (bf n .gV)]:=
 ⟨_,λ_=>0,rfl,gP,λj a=>by simp at a ⊢;simp[a],λj a b=>by simp at a;simp[a]at b,λi j hi a b=>by simp at hi;simp[hi]at b⟩
def agb{id n:Nat}{live:List Nat}{K:jD}{env:Env}{H:gQ}{r:Bool}{a:List (List Int)}(h:BI a H)(b:1<=n)(c:ph n (forget live env))
  (k:∀H',BI a H'->K (.norm { env:=forget live env,H:=H',marks:=[],iI:=r })):vN id n live K (.exit id { env:=env,H:=H,marks:=[],iI:=r }):=by
 obtain⟨H',e,d⟩:=h.c b c r;rw[I4,e];exact k H' d
end Go.AL
namespace Go.Proofs.YtmehofoficaelaaGreatDoor
open Go Go.AL Classical
set_option maxRecDepth 10000
set_option maxHeartbeats 8000000
def rY(i:Int):List Int->List (List Int)->List (List Int)
 | [],bs=>bs
 | k::r,bs=>rY i r (pt bs k (gt bs k ++ [i]))
def oT(nx:List (List Int)):Nat->List (List Int)
 | 0=>bf nx.l []
 | n+1=>rY n (gt nx (n:Int)) (oT nx n)
theorem Zq(i k:Int):∀(r:List Int) (a:List (List Int)),rY i (r ++ [k]) a=pt (rY i r a) k (gt (rY i r a) k ++ [i])
 | [],_=>rfl
 | _::r,_=>Zq i k r _
theorem Te(i:Int):∀(r:List Int) (a:List (List Int)),(∀k∈r,0<=k/\k<a.l)->(rY i r a).l=a.l
 | [],_,_=>rfl
 | k::r,a,h=>by have h1:=h k gP;have b:=jy (v:=gt a k ++ [i]) h1.1 h1.2;rw[rY,Te i r _ λj c=>by rw[b];exact h j (by simp[c]),b]
theorem Td(i:Int):∀(r:List Int) (a:List (List Int)),(∀k∈r,0<=k/\k<a.l)->∀j:Int,0<=j->(gt (rY i r a) j).l<=(gt a j).l+r.l
 | [],_,_,_,_=>by simp[rY]
 | k::r,a,h,j,b=>by
  have h1:=h k gP;have d:=jy (v:=gt a k ++ [i]) h1.1 h1.2;have c:=Td i r (pt a k (gt a k ++ [i])) (λj b=>by rw[d];exact h j (by simp[b])) j b;rw[mY h1.1 h1.2 b]at c;rw[rY]
  by_cases e:j=k
  .rw[if_pos e]at c;subst e;simp at c ⊢;omega
  .rw[if_neg e]at c;simp;omega
section
variable{nx:List (List Int)}
theorem zQ(a:∀x∈nx,∀k∈x,0<=k/\k<nx.l):∀n:Nat,n<=nx.l->(oT nx n).l=nx.l
 | 0,_=>by simp[oT]
 | n+1,h=>by have:=zQ a n U;rw[oT,Te,this];rw[this];exact a _ (ij U U)
theorem Tc(b:∀x∈nx,∀k∈x,0<=k/\k<nx.l)(c:∀x∈nx,x.l<=4000000000):∀n:Nat,n<=nx.l->∀j:Int,0<=j->(gt (oT nx n) j).l<=n*4000000000
 | 0,_,j,hj=>by
  have:∀a∈oT nx 0,a = []:=λa e=>eF e
  by_cases h:j<(oT nx 0).l
  .rw[this _ (ij hj h)];simp
  .unfold gt;rw[cp,aY U];show([]:List Int).l<=_;simp
 | n+1,h,j,hj=>by have h1:=Tc b c n U j hj;have d:=ij (l:=nx) (n:=(n:Int)) U U;have g:=Td n (gt nx (n:Int)) (oT nx n) (by rw[zQ b n U];exact b _ d) j hj;have f:=c _ d;rw[oT];omega
end
theorem abd{α:Type}(f:List Int->α):∀a:List (List Int),(a.map λb=>[f b]).flatten=a.map f
 | []=>rfl
 | b::r=>by simp[abd f r]
def A2{a:List (List Int)}{H:gQ}(h:BI a H):1<=H.l:=by obtain⟨_,_,b,_⟩:=h;exact(ae.1 b).1
def Jg(nx:List (List Int)):closed (.sl 1 (nx.map fN))=true:=by simp
def agR(x:List Int):closed (dN 1 f1 x)=true:=by simp
def afx{c:List (List Int)}{H:gQ}(h:BI c H){n:Nat}(m:n=c.l):leave 0 0 H (.gR 0 0 1 0 n)=(.sl 1 (c.map fN),[]):=by
 obtain⟨cells,f,k,bl,bc,q,s⟩:=h;have hl:0<H.l:=(ae.1 k).1;subst m;unfold leave;rw[if_neg U];simp only[eI,ek,ea,az,dD];have i:∀v,iP (jx 0 (dedup [])) v=none:=λv=>by simp[jx,dedup,iP]
 refine cZ ?_ (by simp[jx,dedup,pJ]);show ib (iP (jx 0 (dedup []))) H 40 (.gR 0 0 1 0 c.l)=_;generalize iP (jx 0 (dedup []))=ρ at *;rw[AL.EZ,i,LX];have l:AL.rowAt H 0 0=eh (37,cells):=by simp[rowAt,k]
 rw[l];unfold oq;dsimp only;rw[if_pos U,dm,eJ]
 have o:cells.map (ib ρ H 39)=cl fN c:=by
  rw[pO];have:c.map fN=c.map λb=>[dN 1 f1 b]:=au λb _=>sC b;rw[this,abd];refine bN λj=>?_;rw[aw,aw]
  by_cases d:j<c.l
  .rw[bc j d,cc d];have p:c.getD j []=c[j]:=by rw[cp,cc d];rfl
   have e:=q j d;rw[p]at e ⊢;generalize c[j]=b at *
   by_cases g:b = []
   .subst g;rfl
   .rw[if_neg g];have e:=(e g).2;simp only[aK,AL.EZ,i,LX];rw[show AL.rowAt H (f j) (b.l-1)=eh (3,cl f1 b)by simp[rowAt,e],uX rfl]
    cases b with
    | nil=>exact absurd rfl g
    | cons a r=>rfl
  .rw[aY U,aY U];rfl
 rw[o,pO,PL (f:=fN) (sz:=1) (Fl.len (f:=fN))]
attribute [-simp] pQ C5 Et I4
def f55(nx:List (List Int))(g:∀x∈nx,∀k∈x,0<=k/\k<nx.l)(V:nx.l<=4000)(r:∀x∈nx,x.l<=4000000000):Wf T 59 [.sl 1 (nx.map fN)] [] (Is (.sl 1 ((oT nx nx.l).map fN))):=by
 refine Yg O2 ?_;simp[O2];refine gU ?_;refine gZ.e ((0,[.row 37 0 (bf nx.l .gV)]):Int×gQ) (λy=>[(3,.gR 0 0 1 0 nx.l),(11,.sl 1 (nx.map fN)),(12,.i nx.l),(13,.i y.1)]) (λy=>y.2) (λy=>0<=y.1/\y.1<=nx.l/\BI (oT nx y.1.n) y.2) (λy=>(nx.l-y.1).n) ?_ ?_
 .simp[oT,BI.start]
 rintro⟨i,H⟩ ⟨i0,O,a⟩;dsimp only at i0 O a ⊢
 by_cases hi:i<nx.l
 .simp[hi,sC];refine gU ?_;refine gZ.e ((0,H):Int×gQ) (λy=>[(3,.gR 0 0 1 0 nx.l),(4,.i i),(11,.sl 1 (nx.map fN)),(12,.i nx.l),(13,.i i),(18,dN 1 f1 (gt nx i)),(19,.i (gt nx i).l),(20,.i y.1)]) (λy=>y.2) (λy=>0<=y.1/\y.1<=(gt nx i).l/\BI (rY i ((gt nx i).take y.1.n) (oT nx i.n)) y.2) (λy=>((gt nx i).l-y.1).n) ?_ ?_
  .simp[rY,a]
  rintro⟨j,H1⟩ ⟨j0,j1,j2⟩;dsimp only at j0 j1 j2 ⊢;have S:=r _ (ij i0 hi)
  by_cases b:j<(gt nx i).l
  .obtain⟨cells,f,o,bl,bc,l,B⟩:=j2;have C:=(ae.1 o).1;have iG:=g _ (ij i0 hi) _ (ij j0 b);simp[b];generalize N:gt (gt nx i) j=k at *;generalize w:rY i ((gt nx i).take j.n) (oT nx i.n)=bs at *
   have F:bs.l=nx.l:=by rw[<-w,Te,zQ g _ U];rw[zQ g _ U];exactλk h=>g _ (ij i0 hi) k (aQ h)
   have W:(gt bs k).l<=17000000000000:=by have h1:=Td i ((gt nx i).take j.n) (oT nx i.n) (by rw[zQ g _ U];exactλk h=>g _ (ij i0 hi) k (aQ h)) k iG.1;have d:=Tc g r i.n U k iG.1;have m:=r _ (ij i0 hi);rw[w,aM]at h1;omega
   have E:rY i ((gt nx i).take (j+1).n) (oT nx i.n)=bs.set k.n (gt bs k ++ [i]):=by rw[(U:(j+1).n=j.n+1),du,cc U,dB,Zq,w,<-jU j0 b,N,yn iG.1 U]
   have q:=bc k.n U;have D:bs.getD k.n []=gt bs k:=rfl;rw[D]at q;have q0:∀G,(H1++G)[0]? = eh (.row 37 0 cells):=λG=>by rw[ah C,o]
   have q1:∀G (h:0<(H1++G).l),(H1++G)[0]'h = .row 37 0 cells:=λG h=>by have:=q0 G;rw[cc h]at this;exact cA this
   have s:∀ {n:Nat},0<n->∀ {j:Int},ph n [(3,.gR 0 0 1 0 nx.l),(4,.i i),(11,.sl 1 (nx.map fN)),(12,.i nx.l),(13,.i i),(18,dN 1 f1 (gt nx i)),(19,.i (gt nx i).l),(20,.i j)]:=λP=>
    Hu P (rQ rfl (rQ (Jg nx) (rQ rfl (rQ rfl (rQ (agR _) (rQ rfl (rQ rfl EI)))))))
   by_cases c:gt bs k = []
   .rw[if_pos c]at q;simp[o,iG];simp[q];refine jM o ?_;simp[q0,q1,bl,F,iG];refine gU ?_
    have A:BI (bs.set k.n (gt bs k ++ [i])) ((H1 ++ [Ob.row 3 0 [.i i],Ob.row 3 0 [.i i]]).set 0 (Ob.row 37 0 (pt cells k (.gR (H1.l+1) 0 1 0 1)))):=by
     rw[c,yn iG.1 U];refine BI.put bl bc l B U gP (p:=H1.l+1) U ?_ ?_ λj b K c=>?_
     .simp
     .rw[aC U];simp[jw]
     .have:=(ae.1 (l j b c).2).1;rw[aC (by have:=(l j b c).1;omega),ah this];exact⟨rfl,U⟩
    refine Py (id:=3) A U (by exact s C) λH2 d=>?_;simp;refine gU ?_;refine Wg d (A2 a) (by exact s (A2 a)) λt m=>?_;refine LJ.e (j+1,t) ?_;refine iQ ?_;dsimp only;rw[E];exact m
   .rw[if_neg c]at q;have u:=(l k.n U c).2;rw[D]at u;have M:=(ae.1 u).1;have z:=(l k.n U c).1;have q2:∀G,(H1++G)[f k.n]? = eh (.row 3 ((gt bs k).l-1) (cl f1 (gt bs k))):=λG=>by rw[ah M,u]
    have q3:∀G y,((H1++G).set (f k.n) y)[0]? = eh (.row 37 0 cells):=λG y=>by rw[aC U,q0]
    have q4:∀G y (h:0<((H1++G).set (f k.n) y).l),((H1++G).set (f k.n) y)[0]'h = .row 37 0 cells:=λG y h=>by rw[List.getElem_set_ne U,q1]
    simp[o,iG,q];refine ko o u ?_;simp[q2];refine gU ?_;simp[q3,q4,bl,F,iG];have R:0<(gt bs k).l:=ay.2 c
    have A:BI (bs.set k.n (gt bs k ++ [i])) (((H1 ++ [Ob.row 3 0 [.i i]]).set (f k.n) (Ob.row 3 ((gt bs k).l-1+1) (cl f1 (gt bs k ++ [i])))).set 0 (Ob.row 37 0 (pt cells k (.gR (f k.n) ((gt bs k).l-1+1) 1 0 ((gt bs k).l+1))))):=by
     rw[yn iG.1 U];have r:(gt bs k ++ [i]).l=(gt bs k).l+1:=gP;rw[<-r,(U:(gt bs k).l-1+1=(gt bs k ++ [i]).l-1)];refine BI.put bl bc l B U gP z ?_ ?_ λj b K v=>?_
     .rw[aN gP]
     .rw[aC U,aN iz]
     .have L:=(ae.1 (l j b v).2).1;have I:f j≠f k.n:=λe=>K (B j k.n b U v (by rw[D];exact c) e);rw[aC (by have:=(l j b v).1;omega),aC (λe=>I e.symm),ah L];exact⟨rfl,I⟩
    refine Py (id:=3) A U (by exact s C) λH2 d=>?_;simp;refine gU ?_;refine Wg d (A2 a) (by exact s (A2 a)) λt m=>?_;refine LJ.e (j+1,t) ?_;refine iQ ?_;dsimp only;rw[E];exact m
  .simp[b];refine Py (id:=2) j2 (A2 a) (by exact Hu (A2 a) (rQ (Jg nx) (rQ rfl (rQ rfl EI)))) λH2 d=>?_;refine Py (id:=1) d (A2 a) (by exact Hu (A2 a) (rQ (Jg nx) (rQ rfl (rQ rfl EI)))) λt m=>?_;simp;refine gU ?_;refine Wg m U (by exact Hu U (rQ (Jg nx) (rQ rfl (rQ rfl EI)))) λQ J=>?_;refine LJ.e (i+1,Q) ?_;refine iQ ?_;dsimp only;rw[(U:(i+1).n=i.n+1),oT,(U:((i.n:Nat):Int)=i)];rw[af U]at J;exact J
 .simp[hi];refine agb (id:=0) a U (by exact Hu U EI) λH2 d=>?_;simp;refine gU ?_;rw[(U:i.n=nx.l)]at d;rw[afx d (by rw[zQ g _ U])];exact⟨rfl,rfl⟩
end Go.Proofs.YtmehofoficaelaaGreatDoor
namespace Go.Proofs.YtmehofoficaelaaGreatDoor
open Go Go.AL Classical
theorem afl{v:List gT}{b:List Bool}{x:List Int}:∀n:Nat,n<=x.l->(∀j:Nat,j<n->gt b (gt x (j:Int))=di/\(gt v (gt x (j:Int))).1=1)->(mL v b x n).1=n
 | 0,_,_=>rfl
 | n+1,hn,h=>by rw[mL,if_pos (h n U)];have:=afl (v:=v) (b:=b) (x:=x) n U λj a=>h j U;dsimp only;omega
theorem afm{v:List gT}{b:List Bool}{x:List Int}:∀n:Nat,(mL v b x n).1=n->∀j:Nat,j<n->gt b (gt x (j:Int))=di/\(gt v (gt x (j:Int))).1=1
 | 0,_,j,hj=>U
 | n+1,h,j,hj=>by
  have iG:=SZ v b x n;rw[mL]at h;split at h
  .rename_i a;dsimp only at h
   by_cases e:j=n
   .grind
   .exact afm (v:=v) (b:=b) (x:=x) n U j U
  .omega
theorem XH{v:List gT}{b:List Bool}{x:List Int}:∀n:Nat,(mL v b x n).1=n->∀j:Nat,j<n->(gt v (gt x (j:Int))).2<=(mL v b x n).2
 | 0,_,j,hj=>U
 | n+1,h,j,hj=>by
  have iG:=SZ v b x n;rw[mL]at h ⊢;split at h
  .rename_i a;rw[if_pos a];dsimp only at h ⊢
   by_cases e:j=n
   .grind
   .have:=XH (v:=v) (b:=b) (x:=x) n U j U;omega
  .omega
def WB{x:List Int}{k:Int}:k∈x↔∃j:Nat,j<x.l/\gt x (j:Int)=k:=by
 rw[th];constructor
 .rintro⟨n,n0,n1,e⟩;exact⟨n.n,U,by rw[(U:((n.n:Nat):Int)=n)];exact e⟩
 .grind
section
variable{g:gY}{l:List Pos}{nx:List (List Int)}{part:List Int}{bu:Int}
structure FI(g:gY)(l:List Pos)(nx:List (List Int))(part:List Int)(v0:List gT)(n:Int)(v:List gT)(b:List Bool):Prop where
 vl:v.l=l.l
 bl:b.l=l.l
 out:∀k:Int,0<=k->k<l.l->k ∉ part->gt b k=di/\gt v k=gt v0 k
 dec:∀i∈part,gt b i=di->(0<=(gt v i).2/\(gt v i).2<n)/\(((stat g (gt l i)).2=dx/\gt v i=((stat g (gt l i)).1,0))\/((stat g (gt l i)).2=di/\(
  (∃m,1<=m/\gt v i=(1,m)/\(∃k∈gt nx i,gt b k=di/\gt v k=(3,m-1))/\∀k∈gt nx i,gt b k=di->(gt v k).1=3->m-1<=(gt v k).2) \/
  (∃m,1<=m/\gt v i=(3,m)/\(∀k∈gt nx i,gt b k=di/\(gt v k).1=1/\(gt v k).2<=m-1)/\∃k∈gt nx i,(gt v k).2=m-1))))
 Lr:∀i∈part,gt b i=dx->0<n->(stat g (gt l i)).2=di/\(∀k∈gt nx i,gt b k=di->(gt v k).1=3->n-1<=(gt v k).2) /\
  (gt nx i≠[]->(∀k∈gt nx i,gt b k=di/\(gt v k).1=1)->∃k∈gt nx i,n-1<=(gt v k).2)
theorem FI.step(o:pn g l nx part bu){C:List gT}(h0:∀k:Int,0<=k->k<l.l->0<=(gt C k).2){n:Int}(n0:0<=n){v:List gT}{b:List Bool}(h:FI g l nx part C n v b):FI g l nx part C (n+1) (rV g l nx part v b n) (rB g l nx part v b n):=by
 have hV:=λ{k:Int} (k0:0<=k) (k1:k<l.l)=>Gb o h.vl h.bl (n:=n) k0 k1;have V:=λ{k:Int} (k0:0<=k) (k1:k<l.l)=>Dz o (v:=v) h.bl (n:=n) k0 k1;have iG:∀i∈part,∀k∈gt nx i,0<=k/\k<l.l:=λi hi k d=>(o.Ht i (o.prt i hi).1 (o.prt i hi).2).1 k d
 have T:∀k,k∈sB g l nx part v b n↔k∈part/\(nu g (gt l k) v b (gt nx k) n).2=dx/\gt b k=true:=λk=>by unfold sB oB;rw[aH,Bool.and_eq_true]
 have o4:∀k,k∈sB g l nx part v b n->(uf g l nx v b n k).2=n:=λk d=>by
  unfold uf nu;split
  .grind
  .split<;>rfl
 have s:∀k:Int,0<=k->k<l.l->gt b k=di->gt (rB g l nx part v b n) k=di/\gt (rV g l nx part v b n) k=gt v k:=λk k0 k1 e=>kM;have w:∀k:Int,0<=k->k<l.l->gt (rB g l nx part v b n) k=di->(gt b k=di/\gt (rV g l nx part v b n) k=gt v k)\/(k∈sB g l nx part v b n/\(gt (rV g l nx part v b n) k).2=n):=λk k0 k1 e=>kM
 have Z:∀k:Int,0<=k->k<l.l->gt b k=di->0<=(gt v k).2:=λk k0 k1 e=>by
  by_cases I:k∈part
  .exact(h.dec k I e).1.1
  .rw[(h.out k k0 k1 I).2];exact h0 k k0 k1
 refine⟨HC o h.vl h.bl,HB o h.bl,λk k0 k1 d=>?_,λi hi e=>?_,λi hi e _=>?_⟩
 .obtain⟨a,c⟩:=h.out k k0 k1 d;obtain⟨X,c'⟩:=s k k0 k1 a;exact⟨X,c'.trans c⟩
 .obtain⟨i0,z⟩:=o.prt i hi;rcases w i i0 z e with⟨F,e2⟩|⟨D,W⟩
  .obtain⟨S,A⟩:=h.dec i hi F;rw[e2];refine⟨⟨S.1,U⟩,?_⟩;rcases A with⟨M,c2⟩|⟨M,⟨m,m1,c2,⟨k,d,L,K⟩,c5⟩|⟨m,m1,c2,L,k,d,K⟩⟩
   .grind
   .grind
   .refine .inr ⟨M,.inr ⟨m,m1,c2,λq t=>?_,k,d,?_⟩⟩
    .grind
    .grind
  .obtain⟨_,r,E⟩:=(T i).1 D;refine⟨U,?_⟩;have R:gt (rV g l nx part v b n) i=(nu g (gt l i) v b (gt nx i) n).1:=by rw[hV i0 z,if_pos D];rfl
   rw[R]
   by_cases f:n=0
   .subst f;unfold nu at r ⊢;rw[if_pos rfl]at r ⊢;exact .inl ⟨r,rfl⟩
   .obtain⟨P,p2,p3⟩:=h.Lr i hi E U;refine .inr ⟨P,?_⟩;unfold nu at r ⊢;rw[if_neg f]at r ⊢
    by_cases hl:yi v b (gt nx i) n
    .rw[if_pos hl];obtain⟨k,d,L,K⟩:=hl;refine .inl ⟨n,U,rfl,⟨k,d,?_⟩,λq t O B=>?_⟩
     .grind
     .grind
    .rw[if_neg hl]at r ⊢;simp only[decide_eq_true_eq]at r;obtain⟨w0,w1,w2⟩:=r;have A:=afm _ w1;have hg:=XH _ w1;refine .inr ⟨n,U,rfl,λq t=>?_,?_⟩
     .obtain⟨j,u,rfl⟩:=WB.1 t;have J:=s _ (iG i hi _ t).1 (iG i hi _ t).2 (A j u).1;have:=hg j u;rw[J.2];exact⟨J.1,(A j u).2,U⟩
     .rcases Mq v b (gt nx i) (gt nx i).l (Nat.le_refl _)with F|⟨q,t,q1,q2,q3⟩
      .omega
      .grind
 .obtain⟨i0,z⟩:=o.prt i hi;have Q:i ∉ sB g l nx part v b n:=λD=>kM;rw[V i0 z,if_neg Q]at e;have p:(nu g (gt l i) v b (gt nx i) n).2=false:=kM
  have Y:(stat g (gt l i)).2=false:=by
   by_cases f:n=0
   .unfold nu at p;rw[if_pos f]at p;exact p
   .exact(h.Lr i hi e U).1
  have G:n≠0->¬yi v b (gt nx i) n:=λf hl=>by unfold nu at p;rw[if_neg f,if_pos hl]at p;cases p
  refine⟨Y,λk d O B=>?_,λH ha=>?_⟩
  .rcases w k (iG i hi k d).1 (iG i hi k d).2 O with⟨N,b2⟩|⟨_,b2⟩
   .rw[b2]at B ⊢
    by_cases f:n=0
    .grind
    .have h1:=(h.Lr i hi e U).2.1 k d N B;have r:(gt v k).2≠n-1:=λE=>G f ⟨k,d,N,cZ B E⟩;omega
   .omega
  .by_cases hx:∃k∈gt nx i,n<=(gt (rV g l nx part v b n) k).2
   .simp_all
   .exfalso;have y:∀k∈gt nx i,gt b k=di/\(gt v k).1=1/\(gt v k).2<n:=λk d=>kM;have lD:0<(gt nx i).l:=ay.2 H
    by_cases f:n=0
    .have d:=ij (l:=gt nx i) (n:=0) U U;have h1:=y _ d;have r:=Z _ (iG i hi _ d).1 (iG i hi _ d).2 h1.1;omega
    .obtain⟨k,d,h1⟩:=(h.Lr i hi e U).2.2 H λk d=>⟨(y k d).1,(y k d).2.1⟩
     have w1:=afl (v:=v) (b:=b) (x:=gt nx i) _ (Nat.le_refl _) λj u=>by have:=y _ (WB.2 ⟨j,u,rfl⟩);exact⟨this.1,this.2.1⟩
     have w2:(mL v b (gt nx i) (gt nx i).l).2=n-1:=by
      obtain⟨j,u,rfl⟩:=WB.1 d;have g1:=XH _ w1 j u;rcases Mq v b (gt nx i) (gt nx i).l (Nat.le_refl _)with F|⟨q,t,_,_,q3⟩
      .grind
      .grind
     unfold nu at p;rw[if_neg f,if_neg (G f)]at p;simp only[decide_eq_false_iff_not]at p;exact p ⟨U,w1,w2⟩
end
section
variable{g:gY}{l:List Pos}{nx:List (List Int)}{part:List Int}{bu:Int}
theorem FI.lM(o:pn g l nx part bu)(a:Int){c:List gT}(h0:∀k:Int,0<=k->k<l.l->0<=(gt c k).2):∀(f:Nat) (n:Int) (v:List gT) (b:List Bool) (t:Int),0<=n->n<=4000->n+f=4001->A5 l.l v b->FI g l nx part c n v b ->
  ∃h,0<h/\FI g l nx part c h (lM g l nx part a f n v b t).2.1 (lM g l nx part a f n v b t).2.2 /\
   ∀k:Int,0<=k->k<l.l->gt (lM g l nx part a f n v b t).2.2 k=di->(gt (lM g l nx part a f n v b t).2.1 k).1≠2->(gt (lM g l nx part a f n v b t).2.1 k).2<h-1
 | 0,n,v,b,t,n0,n1,hf,_,_=>U
 | f+1,n,v,b,t,n0,n1,hf,hc,hi=>by
  have hs:=hi.step o h0 n0;have d:=hc.round o n0;have i:=hi.vl;rw[Go.Proofs.YtmehofoficaelaaGreatDoor.lM];generalize rV g l nx part v b n=V at *;generalize rB g l nx part v b n=B at *;split
  .exact FI.lM o a h0 f (n+1) V B _ U U U d hs
  .rename_i m;refine⟨n+1,U,hs,λk k0 k1 e e2=>?_⟩;have h1:=Qz V B v.l k k0 (by rw[i];exact k1) e e2;have j:=d.pz;have p:=o.len;rw[d.vl,<-i]at j;dsimp only at h1 ⊢;omega
theorem ajg(o:pn g l nx part bu){A V:List gT}{B:List Bool}{n:Int}(n0:0<n)(j:FI g l nx part A n V B)
  (w:∀k:Int,0<=k->k<l.l->gt B k=di->(gt V k).1≠2->(gt V k).2<n-1):∀i∈part,kE (jR g l nx) (oX part V B).1 i:=by
 obtain⟨_,f2⟩:=JC o j.vl j.bl;have iG:∀i∈part,∀k∈gt nx i,0<=k/\k<l.l:=λi hi k b=>(o.Ht i (o.prt i hi).1 (o.prt i hi).2).1 k b
 have b:∀k:Int,0<=k->k<l.l->gt B k=di->gt (oX part V B).1 k=gt V k:=λk k0 k1 e=>by rw[(f2 k k0 k1).1,if_neg λh=>by rw[e]at h;exact absurd h.2 gP]
 have hs:∀k:Int,0<=k->k<l.l->(gt (oX part V B).1 k).1≠2->gt B k=false:=λk k0 k1 e=>by
  by_cases x:k∈part
  .by_cases z:gt B k=dx
   .rw[(f2 k k0 k1).1,if_pos ⟨x,z⟩]at e;exact absurd rfl e
   .simpa using z
  .exact(j.out k k0 k1 x).1
 intro i hi;obtain⟨i0,p⟩:=o.prt i hi
 by_cases e:gt B i=dx
 .obtain⟨E,D,C⟩:=j.Lr i hi e n0;refine .inr ⟨E,.inr (.inr ⟨by rw[(f2 i i0 p).1,if_pos ⟨hi,e⟩],λk a d=>?_,λ⟨F,y⟩=>?_⟩)⟩
  .obtain⟨k0,k1⟩:=iG i hi k a;have c:=hs k k0 k1 U;rw[b k k0 k1 c]at d;have h1:=D k a c d;have G:=w k k0 k1 c U;omega
  .obtain⟨k,a,h1⟩:=C F λk a=>by obtain⟨k0,k1⟩:=iG i hi k a;have d:=y k a;have c:=hs k k0 k1 U;rw[b k k0 k1 c]at d;exact⟨c,d⟩
   obtain⟨k0,k1⟩:=iG i hi k a;have d:=y k a;have c:=hs k k0 k1 U;rw[b k k0 k1 c]at d;have G:=w k k0 k1 c U;omega
 .have r:gt B i=false:=by simpa using e
  rcases(j.dec i hi r).2 with⟨t,c2⟩|⟨t,⟨m,v,c2,⟨k,a,s,u⟩,H⟩|⟨m,v,c2,s,k,a,u⟩⟩
  .exact .inl ⟨t,by rw[b i i0 p r];exact c2⟩
  .refine .inr ⟨t,.inl ⟨m,v,by rw[b i i0 p r];exact c2,⟨k,a,by rw[b k (iG i hi k a).1 (iG i hi k a).2 s];exact u⟩,λq f d=>?_⟩⟩;obtain⟨q0,q1⟩:=iG i hi q f;have c:=hs q q0 q1 U;rw[b q q0 q1 c]at d ⊢;exact H q f c d
  .refine .inr ⟨t,.inr (.inl ⟨m,v,by rw[b i i0 p r];exact c2,λq f=>?_,k,a,?_⟩)⟩
   .obtain⟨d1,d2⟩:=s q f;rw[b q (iG i hi q f).1 (iG i hi q f).2 d1];exact d2
   .rw[b k (iG i hi k a).1 (iG i hi k a).2 (s k a).1];exact u
theorem ajk(o:pn g l nx part bu)(a:Int){v:List gT}(h0:∀k:Int,0<=k->k<l.l->0<=(gt v k).2)(b:A5 l.l v (mn (rep l.l) (λ_=>dx) part)) :
  ∀i∈part,kE (jR g l nx) (nZ g l nx part a v (rep l.l)).2.1 i:=by
 have j:=AQ l.l;obtain⟨m1,m2⟩:=Lf o j
 have m:FI g l nx part v 0 v (mn (rep l.l) (λ_=>dx) part):=⟨b.vl,m1,λk k0 k1 d=>⟨by rw[m2 k k0 k1,if_neg d];exact DA k0 U,rfl⟩,λi hi e=>by (rw[m2 i (o.prt i hi).1 (o.prt i hi).2,if_pos hi]at e;exact absurd e gP),λi hi e h=>U⟩
 obtain⟨n,n0,f,c⟩:=FI.lM o a h0 4001 0 v _ 0 U U U b m;unfold nZ;exact ajg o n0 f c
end
section
variable{g:gY}{l:List Pos}{m:List Int}
noncomputable def vA(m:List Int)(l:List Pos)(n:Int)(v:List gT):List gT:=(upto l.l).map λk=>if jn m (gt l k)<n then gt v k else(2,0)
theorem acV(n:Int)(v:List gT):(vA m l n v).l=l.l:=by simp[vA,upto]
theorem JL{n:Int}{v:List gT}{k:Int}(k0:0<=k)(k1:k<l.l):gt (vA m l n v) k=if jn m (gt l k)<n then gt v k else(2,0):=by
 have h1:k<(vA m l n v).l:=by rw[acV];exact k1
 rw[jU k0 h1];unfold vA upto;rw[br,br,List.getElem_range,(U:((k.n:Nat):Int)=k)]
theorem atn(hg:iE g)(C:yI g m)(t:qq g l){bu:Int}(J:1<=bu/\bu<=9223372036854775807){n:Int}(I:n∈pH m l){v:List gT}(e:v.l=l.l)
  (h:∀i:Int,0<=i->i<l.l->jn m (gt l i)<n->kE (jR g l (iq g l)) v i) :
  ∀i:Int,0<=i->i<l.l->jn m (gt l i)<=n->kE (jR g l (iq g l)) (nZ g l (iq g l) (oW m l n) bu v (rep l.l)).2.1 i:=by
 have o:=F8 hg t J (aj.2 ⟨n,I,rfl⟩:oW m l n∈pR m l);obtain⟨m1,m2⟩:=Lf o (AQ l.l);have c:∀i:Int,0<=i->i<l.l->∀k∈gt (iq g l) i,0<=k/\k<l.l:=λi i0 a=>(wI t i0 a).2;have s:=λ{i:Int} (i0:0<=i) (a:i<l.l)=>adw hg C t i0 a;have w:=acV (m:=m) (l:=l) n v;have u:∀k:Int,k∈oW m l n↔(0<=k/\k<l.l)/\jn m (gt l k)=n:=λk=>Ez
 have B:∀i:Int,0<=i->i<l.l->jn m (gt l i)<n->kE (jR g l (iq g l)) (vA m l n v) i:=λi i0 a hi=>by
  have b:∀k∈gt (iq g l) i,gt (vA m l n v) k=gt v k:=λk b=>by have:=s i0 a k b;rw[JL (c i i0 a k b).1 (c i i0 a k b).2,if_pos U]
  have f:gt (vA m l n v) i=gt v i:=by rw[JL i0 a,if_pos hi]
  exact(h i i0 a hi).congr f b
 have E:∀k:Int,0<=k->k<l.l->0<=(gt (vA m l n v) k).2:=λk k0 k1=>by
  by_cases b:jn m (gt l k)<n
  .exact(B k k0 k1 b).n0
  .rw[JL k0 k1,if_neg b];simp
 have A:A5 l.l (vA m l n v) (mn (rep l.l) (λ_=>dx) (oW m l n)):=⟨w,m1,λi i0 a eb e2=>by
  have hi:jn m (gt l i)<n:=by
   by_cases hi:jn m (gt l i)<n
   .exact hi
   .rw[JL i0 a,if_neg hi]at e2;exact absurd rfl e2
  have r:∀k∈gt (iq g l) i,gt (mn (rep l.l) (λ_=>dx) (oW m l n)) k=false:=λk b=>by have:=s i0 a k b;rw[m2 k (c i i0 a k b).1 (c i i0 a k b).2,if_neg λy=>by have:=((u k).1 y).2;omega];exact DA (c i i0 a k b).1 (by have:=(c i i0 a k b).2;omega)
  rcases B i i0 a hi with⟨K,c2⟩|⟨K,⟨q,q1,c2,⟨k,d,p⟩,z⟩|⟨q,q1,c2,p,k,d,z⟩|⟨c2,p,z⟩⟩
  .rw[c2];exact⟨gP,λh=>by simp at h⟩
  .refine⟨by rw[c2];dsimp only;omega,λ_=>⟨k,(c i i0 a k d).1,(c i i0 a k d).2,r k d,by rw[p];simp,by rw[p,c2]⟩⟩
  .refine⟨by rw[c2];dsimp only;omega,λ_=>⟨k,(c i i0 a k d).1,(c i i0 a k d).2,r k d,by rw[(p k d).1];simp,by rw[z,c2]⟩⟩
  .rw[c2]at e2;exact absurd rfl e2⟩
 have h1:=ajk o bu E A;have D:=Bz o bu w (AQ l.l)
 have j:=aa0 o (aeF hg C t n) bu e w λk k0 k1 b F=>by rw[JL k0 k1,if_pos];have:jn m (gt l k)≠n:=λe=>F ((u k).2 ⟨⟨k0,k1⟩,e⟩);omega
 have H:∀i:Int,0<=i->i<l.l->jn m (gt l i)<=n->kE (jR g l (iq g l)) (nZ g l (iq g l) (oW m l n) bu (vA m l n v) (rep l.l)).2.1 i:=λi i0 a hi=>by
  by_cases x:i∈oW m l n
  .exact h1 i x
  .have G:jn m (gt l i)<n:=by have:jn m (gt l i)≠n:=λe=>x ((u i).2 ⟨⟨i0,a⟩,e⟩);omega
   have b:∀k∈gt (iq g l) i,gt (nZ g l (iq g l) (oW m l n) bu (vA m l n v) (rep l.l)).2.1 k=gt (vA m l n v) k:=λk b=>by have:=s i0 a k b;exact(D.2 k (c i i0 a k b).1 (c i i0 a k b).2 λy=>by have:=((u k).1 y).2;omega).1
   have f:=(D.2 i i0 a x).1;exact(B i i0 a G).congr f b
 intro i i0 a hi
 have b:∀k∈gt (iq g l) i,gt (nZ g l (iq g l) (oW m l n) bu v (rep l.l)).2.1 k=gt (nZ g l (iq g l) (oW m l n) bu (vA m l n v) (rep l.l)).2.1 k:=λk b=>by have:=s i0 a k b;exact j k (c i i0 a k b).1 (c i i0 a k b).2 U
 have f:=j i i0 a hi;exact(H i i0 a hi).congr f b
end
section
variable{g:gY}{l:List Pos}{m:List Int}
theorem aa2(hg:iE g)(j:yI g m)(c:qq g l){bu:Int}(d:1<=bu/\bu<=9223372036854775807):∀(a:List Int),vL a->(∀n∈a,n∈pH m l)->∀(v:List gT),v.l=l.l ->
  (∀k:Int,0<=k->k<l.l->jn m (gt l k) ∉ a->(∀n∈a,jn m (gt l k)<n)/\kE (jR g l (iq g l)) v k) ->
  ∀k:Int,0<=k->k<l.l->kE (jR g l (iq g l)) (yZ g l bu (a.map (oW m l)) v) k
 | [],_,_,v,_,h=>λk k0 k1=>(h k k0 k1 gP).2
 | n::a,hs,hm,v,e,h=>by
  obtain⟨s1,r⟩:=aI.1 hs;have o:=F8 hg c d (aj.2 ⟨n,hm n gP,rfl⟩:oW m l n∈pR m l)
  have f:=atn hg j c d (hm n gP) e λi i0 t hi=>(h i i0 t λs=>by
   rcases ak.1 s with h1|h1
   .omega
   .have:=s1 _ h1;omega).2
  rw[List.map_cons,yZ];refine aa2 hg j c d a r (λx b=>hm x (by simp[b])) _ (Bz o bu e (AQ _)).1.1 λk k0 k1 u=>?_
  by_cases p:jn m (gt l k)=n
  .exact⟨λx b=>by rw[p];exact s1 x b,f k k0 k1 U⟩
  .have q:=h k k0 k1 (by simp[p,u]);have w:=q.1 n gP;exact⟨λx b=>q.1 x (by simp[b]),f k k0 k1 U⟩
theorem al3(hg:iE g)(a:yI g m)(b:qq g l){bu:Int}(c:1<=bu/\bu<=9223372036854775807):∀k:Int,0<=k->k<l.l->kE (jR g l (iq g l)) (zr g l m bu).2.1 k:=by rw[<-ajm hg a b c (v:=bf l.l (2,0)) gP];exact aa2 hg a b c (pH m l) (E7 _) (λn d=>d) _ gP λk k0 k1 e=>absurd (RQ.2 ⟨k,k0,k1,rfl⟩) e
theorem alN(b:qq g l){v v':List gT}(e:v.l=l.l)(d:v'.l=l.l)(h:∀k:Int,0<=k->k<l.l->kE (jR g l (iq g l)) v k)(c:∀k:Int,0<=k->k<l.l->kE (jR g l (iq g l)) v' k):v=v':=
 BE (e.trans d.symm) λj j0 j1=>acR (A:=jR g l (iq g l)) (S:=λi=>0<=i/\i<l.l) (λi hi k a=>(wI b hi.1 hi.2).2 k a) (λi hi=>h i hi.1 hi.2) (λi hi=>c i hi.1 hi.2) j ⟨j0,U⟩
end
structure VB(A:mM)(n:Nat)(P R:List Int)(v:List gT)(lf:List Int):Prop where
 vl:v.l=n
 ll:lf.l=n
 nd:(P++R).Nodup
 qr:∀k∈P++R,0<=k/\k<n
 qi:∀k∈P++R,(gt v k).1≠0
 z:∀k:Int,0<=k->k<n->k ∉ P++R->gt v k=(0,0)
 ov:∀k:Int,0<=k->k<n->A.ov k=dx->k∈P++R/\gt v k=(A.rs k,0)
 mono:(P++R).Pairwise λa b=>(gt v a).2<=(gt v b).2
 top:∀i R',R=i::R'->∀a∈P++R,(gt v a).2<=(gt v i).2+1
 nn:∀a∈P++R,0<=(gt v a).2/\(gt v a).2<=(P++R).l
 st:∀k∈P++R,A.ov k=di ->
  (∃m,1<=m/\gt v k=(1,m)/\(∃c∈gt A.nx k,gt v c=(3,m-1))/\∀c∈gt A.nx k,(gt v c).1=3->m-1<=(gt v c).2) \/
  (∃m,1<=m/\gt v k=(3,m)/\(∀c∈gt A.nx k,(gt v c).1=1/\(gt v c).2<=m-1)/\∃c∈gt A.nx k,(gt v c).2=m-1)
noncomputable def yA(A:mM)(P:List Int)(v:List gT)(k:Int):Nat:=(gt A.nx k).countP λc=>decide (c∈P/\(gt v c).1=1)
def US(A:mM)(n:Nat)(P R d:List Int)(t:Int)(v:List gT)(lf:List Int):Prop:=∀k:Int,0<=k->k<n->k ∉ P++R ->
 (∀c∈P,c∈gt A.nx k->(gt v c).1≠3)/\(t=3->k ∉ d)/\gt lf k=(gt A.nx k).l-yA A P v k-(if t=1 then d.count k else 0:Nat)/\(gt A.nx k≠[]->0<gt lf k)
section
variable{A:mM}{n:Nat}{P R d:List Int}{v:List gT}{lf:List Int}{i k t:Int}
theorem EE(g:(P++R).Nodup)(c:∀k∈P++R,0<=k/\k<n):(P++R).l<=n:=by
 have h1:((P++R).map Int.n).Nodup:=by refine eO.2 (eG ?_ g);intro a b d h e;have:=c a d;have:=c b h;omega
 have:=wL h1 (m:=ej n) λx f=>by obtain⟨a,d,rfl⟩:=aj.1 f;have:=c a d;exact aZ.2 U
 simpa using this
theorem VB.push(S:∀k:Int,0<=k->k<n->∀c∈gt A.nx k,0<=c/\c<n)(h:VB A n P (i::R) v lf)(k0:0<=k)(k1:k<n)(E:k ∉ P++i::R){o:Int}(ho:o=1\/o=3){x:List Int}(hl:x.l=n)
  (hs:(o=1/\i∈gt A.nx k/\(gt v i).1=3/\∀c∈gt A.nx k,c∈P->(gt v c).1≠3)\/(o=3/\i∈gt A.nx k/\∀c∈gt A.nx k,(gt v c).1=1/\(c∈P\/c=i))) :
  VB A n P (i::(R ++ [k])) (pt v k (o,(gt v i).2+1)) x:=by
 have s:P++i::(R ++ [k])=(P++i::R) ++ [k]:=gP;have KL:=h.z k k0 k1 E;have hg:∀c:Int,0<=c->gt (pt v k (o,(gt v i).2+1)) c=if c=k then(o,(gt v i).2+1)else gt v c:=λc d=>mY k0 (by rw[h.vl];exact k1) d
 have l:∀c∈P++i::R,gt (pt v k (o,(gt v i).2+1)) c=gt v c:=λc d=>by rw[hg c (h.qr c d).1,if_neg (show c≠k fromλe=>E (e▸d))]
 have w:gt (pt v k (o,(gt v i).2+1)) k=(o,(gt v i).2+1):=by rw[hg k k0,if_pos rfl]
 have D:i∈P++i::R:=gP
 have a':A.ov k=false:=by
  by_cases e:A.ov k=dx
  .exact absurd (h.ov k k0 k1 e).1 E
  .simpa using e
 have I:=h.top i R rfl;have O:=h.mono;have L:∀c∈P,(gt v c).2<=(gt v i).2:=λc d=>(bw.1 O).2.2 c d i gP;have J:∀c∈R,(gt v i).2<=(gt v c).2:=λc d=>(aI.1 (bw.1 O).2.1).1 c d
 have u:∀c:Int,0<=c->(gt v c).1=1\/(gt v c).1=3->gt (pt v k (o,(gt v i).2+1)) c=gt v c:=λc t d=>by rw[hg c t,if_neg (show c≠k fromλe=>?_)];rw[e,KL]at d;simp at d
 have C:∀c:Int,0<=c->(gt (pt v k (o,(gt v i).2+1)) c).1=3->(gt v c).1=3\/(o=3/\gt (pt v k (o,(gt v i).2+1)) c=(3,(gt v i).2+1)):=λc t d=>by
  by_cases e:c=k
  .rw[e,w]at d ⊢;exact .inr ⟨d,by rw[show o=3 from d]⟩
  .rw[hg c t,if_neg e]at d;exact .inl d
 refine{ vl:=?_,ll:=hl,nd:=?_,qr:=?_,qi:=?_,z:=?_,ov:=?_,mono:=?_,top:=?_,nn:=?_,st:=?_ }
 .rw[jy k0 (by rw[h.vl];exact k1)];exact h.vl
 .rw[s,a8];exact⟨h.nd,gP,λa f b B e=>E (by rw[aE.1 B]at e;exact e▸f)⟩
 .intro c d;rw[s]at d;rcases ai.1 d with d|d
  .exact h.qr c d
  .rw[aE.1 d];exact⟨k0,k1⟩
 .intro c d;rw[s]at d;rcases ai.1 d with d|d
  .rw[l c d];exact h.qi c d
  .rw[aE.1 d,w];dsimp only;omega
 .intro c t N d;rw[s]at d;rw[hg c t,if_neg λe=>d (by simp[e])];exact h.z c t N λY=>d (bp _ Y)
 .intro c t N d;obtain⟨h1,Z⟩:=h.ov c t N d;exact⟨by rw[s];exact bp _ h1,by rw[l c h1];exact Z⟩
 .rw[s,bw];refine⟨?_,gP,λa f b B=>?_⟩
  .refine eG ?_ h.mono;intro a b f B W;rw[l a f,l b B];exact W
  .rw[aE.1 B,w,l a f];exact I a f
 .intro j R' e a f;rw[cN]at e;rw[<-e.1,l i D];rw[s]at f;rcases ai.1 f with f|f
  .rw[l a f];exact I a f
  .rw[aE.1 f,w];exact cI _
 .intro a f;rw[s]at f ⊢;have hi:=h.nn i D;rcases ai.1 f with f|f
  .rw[l a f];have:=h.nn a f;rw[aq];omega
  .rw[aE.1 f,w,aq];simp only[aT];omega
 .intro c d GK;rw[s]at d;rcases ai.1 d with d|d
  .have p:=λq g=>(S c (h.qr c d).1 (h.qr c d).2 q g).1;rw[l c d];have Q:=I c d;rcases h.st c d GK with⟨m,m1,e,⟨q,g,F⟩,V⟩|⟨m,m1,e,y,q,g,F⟩
   .refine .inl ⟨m,m1,e,⟨q,g,by rw[u q (p q g) (.inr (by rw[F]))];exact F⟩,λq g M=>?_⟩;rcases C q (p q g) M with r|⟨_,r⟩
    .rw[u q (p q g) (.inr r)];exact V q g r
    .rw[r];rw[e]at Q;dsimp only at Q ⊢;omega
   .refine .inr ⟨m,m1,e,λq g=>by rw[u q (p q g) (.inl (y q g).1)];exact y q g,q,g,by rw[u q (p q g) (.inl (y q g).1)];exact F⟩
  .rw[aE.1 d,w];have p:=λq g=>(S k k0 k1 q g);have hi:=h.nn i D;rcases hs with⟨rfl,H,K,X⟩|⟨rfl,H,y⟩
   .refine .inl ⟨(gt v i).2+1,U,rfl,⟨i,H,?_⟩,λc d M=>?_⟩
    .rw[l i D,(U:(gt v i).2+1-1=(gt v i).2),<-K]
    .rcases C c (p c d).1 M with r|⟨r,_⟩
     .rw[u c (p c d).1 (.inr r)]
      have G:c∈P++i::R:=by
       by_cases G:c∈P++i::R
       .exact G
       .rw[h.z c (p c d).1 (p c d).2 G]at r;simp at r
      rcases ai.1 G with h1|h1
      .exact absurd r (X c d h1)
      .rcases ak.1 h1 with h1|h1
       .rw[h1];omega
       .have:=J c h1;omega
     .simp at r
   .refine .inr ⟨(gt v i).2+1,U,rfl,λc d=>?_,i,H,by rw[l i D];omega⟩;obtain⟨T,e2⟩:=y c d;rw[u c (p c d).1 (.inl T)];refine⟨T,?_⟩;rcases e2 with e2|e2
    .have:=L c e2;omega
    .rw[e2];omega
theorem US.t0(h:US A n P R [] t v lf)(e:Int):US A n P R [] e v lf:=λk k0 k1 f=>by obtain⟨a,b,c,d⟩:=h k k0 k1 f;refine⟨a,λ_=>gP,?_,d⟩;simpa using c
theorem US.skip(h:US A n P (i::R) d t v lf)(f:k∈P++i::R\/(t≠1/\t≠3)):US A n P (i::R) (d ++ [k]) t v lf:=λq q0 q1 j=>by
 obtain⟨a,b,c,e⟩:=h q q0 q1 j;refine⟨a,λl=>?_,?_,e⟩
 .rw[ai,aE];rintro(h1|h1)
  .exact b l h1
  .rcases f with f|f
   .exact j (h1▸f)
   .exact f.2 l
 .rw[c]
  by_cases g:t=1
  .rcases f with f|f
   .have:k≠q:=λe=>j (e▸f);rw[if_pos g,if_pos g,dS,ec,if_neg (by simpa using this),cu]
   .exact absurd g f.1
  .rw[if_neg g,if_neg g]
theorem TB{q:Int}(h:q≠k):(d ++ [k]).count q=d.count q:=by rw[dS,ec,if_neg (by simpa usingλe=>h e.symm),cu]
theorem afi{v':List gT}(h:∀c∈P,gt v' c=gt v c)(q:Int):yA A P v' q=yA A P v q:=by
 unfold yA;refine List.countP_congr λc _=>?_;simp only[decide_eq_true_eq];constructor
 .rintro⟨a,b⟩;exact⟨a,by rw[<-h c a];exact b⟩
 .rintro⟨a,b⟩;exact⟨a,by rw[h c a];exact b⟩
theorem atK(s:∀k:Int,0<=k->k<n->∀c∈gt A.nx k,0<=c/\c<n)(h:VB A n P (i::R) v lf)(p:US A n P (i::R) d (gt v i).1 v lf)(k0:0<=k)(k1:k<n)(j:k ∉ P++i::R)(r:i∈gt A.nx k)(e:(gt v i).1=3) :
  VB A n P (i::(R ++ [k])) (pt v k (1,(gt v i).2+1)) lf/\US A n P (i::(R ++ [k])) (d ++ [k]) (gt v i).1 (pt v k (1,(gt v i).2+1)) lf:=by
 obtain⟨a,_⟩:=p k k0 k1 j
 have m:∀c∈P,gt (pt v k (1,(gt v i).2+1)) c=gt v c:=λc g=>by rw[mY k0 (by rw[h.vl];exact k1) (h.qr c (by simp[g])).1,if_neg (show c≠k fromλe=>j (e▸(by simp[g])))]
 refine⟨h.push s k0 k1 j (.inl rfl) h.ll (.inl ⟨rfl,r,e,λc g hP=>a c hP g⟩),λq q0 q1 o=>?_⟩;have l:q≠k:=λe=>o (by simp[e])
 obtain⟨a,b,c,f⟩:=p q q0 q1 λt=>o (by
  rcases ai.1 t with h1|h1
  .simp[h1]
  .rcases ak.1 h1 with h1|h1<;>simp[h1])
 refine⟨λc g w=>by rw[m c g];exact a c g w,λu=>?_,?_,f⟩
 .rw[ai,aE];rintro(h1|h1)
  .exact b u h1
  .exact l h1
 .rw[afi m,c,TB l]
theorem atL(h:VB A n P (i::R) v lf)(p:US A n P (i::R) d (gt v i).1 v lf)(k0:0<=k)(k1:k<n)(s:k ∉ P++i::R)(r:i∈gt A.nx k)(e:(gt v i).1=1)(hl:gt lf k-1≠0) :
  VB A n P (i::R) v (pt lf k (gt lf k-1))/\US A n P (i::R) (d ++ [k]) (gt v i).1 v (pt lf k (gt lf k-1)):=by
 have l:k<lf.l:=by rw[h.ll];exact k1
 refine⟨{ h with ll:=by rw[jy k0 l];exact h.ll },λq q0 q1 o=>?_⟩;obtain⟨a,b,c,f⟩:=p q q0 q1 o;rw[mY k0 l q0]
 by_cases g:q=k
 .subst g;rw[if_pos rfl];refine⟨a,λj=>absurd (e.symm.trans j) gP,?_,λm=>?_⟩
  .rw[c,if_pos e,if_pos e,dS,ec,if_pos gP];omega
  .have:=f m;omega
 .rw[if_neg g];refine⟨a,λj=>absurd (e.symm.trans j) gP,?_,f⟩;rw[c,TB g]
theorem afP{L:List Int}{p q:Int->Bool}(e:∀c∈L,¬(p c=dx/\q c=dx))(h:L.l<=L.countP p+L.countP q):∀c∈L,p c=dx\/q c=true:=by
 induction L with
 | nil=>intro c d;cases d
 | cons x L f=>
  have h1:=e x gP;have g:=db (p:=p) (l:=L);rw[b7,b7,aF]at h
  have i:L.countP p+L.countP q<=L.l:=by
   clear f h g h1
   induction L with
   | nil=>simp
   | cons y L f=>
    have h1:=e y gP;have j:=f λc d=>e c (by rcases ak.1 d with h|h<;>simp[h]);rw[b7,b7,aF]
    by_cases a:p y=dx<;>by_cases b:q y=dx<;>simp[a,b]at h1 ⊢ <;> omega
  intro c d
  by_cases a:p x=dx<;>by_cases b:q x=dx<;>simp[a,b]at h1 h
  .rcases ak.1 d with rfl|d
   .exact .inl a
   .exact f (λc d=>e c (by simp[d])) U c d
  .rcases ak.1 d with rfl|d
   .exact .inr b
   .exact f (λc d=>e c (by simp[d])) U c d
  .omega
theorem atM(y:∀k:Int,0<=k->k<n->∀c∈gt A.nx k,0<=c/\c<n)(h:VB A n P (i::R) v lf)(t:US A n P (i::R) d (gt v i).1 v lf)(k0:0<=k)(k1:k<n)(l:k ∉ P++i::R)(w:i∈gt A.nx k)(e:(gt v i).1=1)(hl:gt lf k-1=0)
  (E:d.count k+1<=(gt A.nx k).count i) :
  VB A n P (i::(R ++ [k])) (pt v k (3,(gt v i).2+1)) (pt lf k (gt lf k-1))/\US A n P (i::(R ++ [k])) (d ++ [k]) (gt v i).1 (pt v k (3,(gt v i).2+1)) (pt lf k (gt lf k-1)):=by
 have m:k<lf.l:=by rw[h.ll];exact k1
 obtain⟨_,_,c,_⟩:=t k k0 k1 l;have D:i ∉ P:=λj=>(a8.1 h.nd).2.2 i j i gP rfl
 have x:=afP (L:=gt A.nx k) (p:=λc=>decide (c∈P/\(gt v c).1=1)) (q:=λc=>c == i) (λc _=>by
  rintro⟨h1,u⟩;simp only[decide_eq_true_eq]at h1;simp only[beq_iff_eq]at u
  exact D (u▸h1.1)) (by
  rw[if_pos e]at c;unfold yA at c;have z:(gt A.nx k).count i=(gt A.nx k).countP (λc=>c == i):=rfl
  omega)
 have r:∀c∈P,gt (pt v k (3,(gt v i).2+1)) c=gt v c:=λc g=>by rw[mY k0 (by rw[h.vl];exact k1) (h.qr c (by simp[g])).1,if_neg (show c≠k fromλe=>l (e▸(by simp[g])))]
 refine⟨h.push y k0 k1 l (.inr rfl) (by rw[jy k0 m];exact h.ll) (.inr ⟨rfl,w,λc g=>?_⟩),λq q0 q1 s=>?_⟩
 .rcases x c g with h1|h1
  .simp only[decide_eq_true_eq]at h1;exact⟨h1.2,.inl h1.1⟩
  .simp only[beq_iff_eq]at h1;rw[h1];exact⟨e,.inr rfl⟩
 have o:q≠k:=λe=>s (by simp[e])
 obtain⟨a,b,c,f⟩:=t q q0 q1 λj=>s (by
  rcases ai.1 j with h1|h1
  .simp[h1]
  .rcases ak.1 h1 with h1|h1<;>simp[h1])
 rw[mY k0 m q0,if_neg o];refine⟨λc g C=>by rw[r c g];exact a c g C,λB=>absurd (e.symm.trans B) gP,?_,f⟩;rw[afi r,c,TB o]
theorem aka(h:VB A n P (i::R) v lf)(z:US A n P (i::R) d (gt v i).1 v lf)(y:∀k:Int,0<=k->k<n->d.count k=(gt A.nx k).count i) :
  VB A n (P ++ [i]) R v lf/\US A n (P ++ [i]) R [] 0 v lf:=by
 have g:(P ++ [i])++R=P++i::R:=gP;have C:i ∉ P:=λw=>(a8.1 h.nd).2.2 i w i gP rfl;refine⟨⟨h.vl,h.ll,by rw[g];exact h.nd,by rw[g];exact h.qr,by rw[g];exact h.qi,by rw[g];exact h.z,by rw[g];exact h.ov,by rw[g];exact h.mono,?_,by rw[g];exact h.nn,by rw[g];exact h.st⟩,λk k0 k1 r=>?_⟩
 .intro j E e a s;rw[g]at s;have h1:=h.top i R rfl a s;have D:=(aI.1 (bw.1 h.mono).2.1).1 j (by rw[e];simp);omega
 .rw[g]at r;obtain⟨a,b,c,f⟩:=z k k0 k1 r;have m:=y k k0 k1;refine⟨λq u l=>?_,λe=>by simp at e,?_,f⟩
  .rcases ai.1 u with h1|h1
   .exact a q h1 l
   .rw[aE.1 h1]at l ⊢;intro B;refine b B (eH.1 ?_);rw[m];exact eH.2 l
  .rw[if_neg (jo:¬((0:Int)=1)),c]
   have:yA A (P ++ [i]) v k=yA A P v k+(if (gt v i).1=1 then d.count k else 0):=by
    rw[m];unfold yA;clear c f b a m
    induction gt A.nx k with
    | nil=>simp
    | cons x L t=>
     rw[b7,b7,List.count_cons,t]
     by_cases o:x=i
     .subst o;simp[C];split<;>simp_all<;>omega
     .simp[o]
      by_cases p:x∈P/\(gt v x).1=1
      .simp[p];omega
      .simp[p]
   rw[this]
   push_cast
   omega
theorem at3(E:∀k:Int,0<=k->k<n->∀c∈gt A.nx k,0<=c/\c<n)(h:VB A n P [] v lf)(F:US A n P [] [] 0 v lf){v':List gT}(t:∀k:Int,0<=k->k<n->gt v' k=if (gt v k).1=0 then(2,(gt v k).2)else gt v k) :
  ∀k:Int,0<=k->k<n->kE A v' k:=λk k0 k1=>by
 have d:=E k k0 k1;have z:∀c:Int,0<=c->c<n->(gt v c).1=1\/(gt v c).1=3->gt v' c=gt v c:=λc o l e=>by rw[t c o l,if_neg U]
 have s:∀c:Int,0<=c->c<n->(gt v' c).1=1\/(gt v' c).1=3->gt v' c=gt v c:=λc o l e=>by
  rw[t c o l]at e ⊢;split at e
  .simp at e
  .rename_i h;rw[if_neg h]
 by_cases r:k∈P ++ []
 .have x:gt v' k=gt v k:=by rw[t k k0 k1,if_neg (h.qi k r)]
  by_cases g:A.ov k=dx
  .exact .inl ⟨g,by rw[x];exact(h.ov k k0 k1 g).2⟩
  .have g:A.ov k=false:=by simpa using g
   rcases h.st k r g with⟨m,m1,e,⟨q,b,u⟩,B⟩|⟨m,m1,e,p,q,b,u⟩
   .refine .inr ⟨g,.inl ⟨m,m1,by rw[x];exact e,⟨q,b,by rw[z q (d q b).1 (d q b).2 (.inr (by rw[u]))];exact u⟩,λc i j=>?_⟩⟩;have:=s c (d c i).1 (d c i).2 (.inr j);rw[this]at j ⊢;exact B c i j
   .refine .inr ⟨g,.inr (.inl ⟨m,m1,by rw[x];exact e,λc i=>by rw[z c (d c i).1 (d c i).2 (.inl (p c i).1)];exact p c i,q,b,by rw[z q (d q b).1 (d q b).2 (.inl (p q b).1)];exact u⟩)⟩
 .have D:=h.z k k0 k1 r;obtain⟨a,_,c,f⟩:=F k k0 k1 r
  have g:A.ov k=false:=by
   by_cases g:A.ov k=dx
   .exact absurd (h.ov k k0 k1 g).1 r
   .simpa using g
  have hP:∀c:Int,0<=c->c<n->(gt v' c).1=1\/(gt v' c).1=3->c∈P:=λc o l e=>by
   have e2:=s c o l e
   by_cases i:c∈P ++ []
   .simpa using i
   .rw[e2,h.z c o l i]at e;simp at e
  refine .inr ⟨g,.inr (.inr ⟨by rw[t k k0 k1,D];rfl,λq b j=>?_,λ⟨C,p⟩=>?_⟩)⟩
  .have y:=hP q (d q b).1 (d q b).2 (.inr j);rw[s q (d q b).1 (d q b).2 (.inr j)]at j;exact a q y b j
  .have h1:=f C;rw[c]at h1
   have:yA A P v k=(gt A.nx k).l:=by unfold yA;refine List.countP_eq_length.2 λq b=>?_;have w:=p q b;have y:=hP q (d q b).1 (d q b).2 (.inl w);rw[s q (d q b).1 (d q b).2 (.inl w)]at w;simpa using ⟨y,w⟩
   simp[this]at h1
structure VS(A:mM)(n:Nat)(m:Int)(R:List Int)(v:List gT)(lf:List Int):Prop where
 vl:v.l=n
 ll:lf.l=n
 nd:R.Nodup
 qr:∀k,k∈R↔(0<=k/\k<m)/\A.ov k=dx
 vv:∀k:Int,0<=k->k<n->gt v k=if k∈R then(A.rs k,0)else(0,0)
 lv:∀k:Int,0<=k->k<m->gt lf k=(gt A.nx k).l
theorem VS.start(A:mM)(n:Nat):VS A n 0 [] (bf n (0,0)) (bf n 0):=
 ⟨gP,gP,gP,λk=>iz,λk k0 k1=>by rw[DA k0 k1];simp,λk k0 k1=>U⟩
theorem VS.no{m:Int}(h:VS A n m R v lf)(m0:0<=m)(m1:m<n)(c:A.ov m=di):VS A n (m+1) R v (pt lf m (gt A.nx m).l):=by
 have hl:m<lf.l:=by rw[h.ll];exact m1
 refine⟨h.vl,by rw[jy m0 hl];exact h.ll,h.nd,λk=>?_,h.vv,λk k0 k1=>?_⟩
 .rw[h.qr k];refine⟨λ⟨a,b⟩=>⟨U,b⟩,λ⟨a,b⟩=>⟨?_,b⟩⟩;have:k≠m:=λe=>by rw[e,c]at b;cases b
  omega
 .rw[mY m0 hl k0]
  by_cases e:k=m
  .rw[if_pos e,e]
  .rw[if_neg e];exact h.lv k k0 U
theorem VS.yes{m:Int}(h:VS A n m R v lf)(m0:0<=m)(m1:m<n)(f:A.ov m=dx):VS A n (m+1) (R ++ [m]) (pt v m (A.rs m,0)) (pt lf m (gt A.nx m).l):=by
 have hl:m<lf.l:=by rw[h.ll];exact m1
 have d:m<v.l:=by rw[h.vl];exact m1
 have c:m ∉ R:=λc=>by have:=((h.qr m).1 c).1;omega
 refine⟨by rw[jy m0 d];exact h.vl,by rw[jy m0 hl];exact h.ll,?_,λk=>?_,λk k0 k1=>?_,λk k0 k1=>?_⟩
 .rw[a8];exact⟨h.nd,gP,λa i b g e=>c (by rw[aE.1 g]at e;exact e▸i)⟩
 .rw[ai,aE,h.qr k];constructor
  .rintro(⟨a,b⟩|rfl)
   .exact⟨U,b⟩
   .exact⟨U,f⟩
  .rintro⟨a,b⟩
   by_cases e:k=m
   .exact .inr e
   .exact .inl ⟨U,b⟩
 .rw[mY m0 d k0]
  by_cases e:k=m
  .rw[if_pos e,if_pos (by simp[e]),e]
  .rw[if_neg e,h.vv k k0 k1];simp[e]
 .rw[mY m0 hl k0]
  by_cases e:k=m
  .rw[if_pos e,e]
  .rw[if_neg e];exact h.lv k k0 U
theorem VS.done(h:VS A n n R v lf)(o:∀k:Int,A.ov k=dx->A.rs k≠0):VB A n [] R v lf/\US A n [] R [] 0 v lf:=by
 have j:=λk (d:k∈R)=>(h.qr k).1 d
 have f:=λk (d:k∈R)=>by have:=h.vv k (j k d).1.1 (j k d).1.2;rwa [if_pos d]at this
 refine⟨⟨h.vl,h.ll,by simpa using h.nd,λk d=>(j k (by simpa using d)).1,λk d=>?_,λk k0 k1 d=>?_,λk k0 k1 l=>?_,?_,λi r e a g=>?_,λa g=>?_,λk d l=>?_⟩,λk k0 k1 d=>⟨λc p=>(by cases p),λe=>(by simp at e),?_,λm=>?_⟩⟩
 .rw[aS]at d;rw[f k d];exact o k (j k d).2
 .rw[aS]at d;rw[h.vv k k0 k1,if_neg d]
 .have d:=(h.qr k).2 ⟨⟨k0,k1⟩,l⟩;exact⟨by simpa using d,f k d⟩
 .rw[aS];refine eG (R:=λ_ _=>True) ?_ (List.pairwise_of_forall λ_ _=>trivial);intro a b g q _;rw[f a g,f b q];exact cI _
 .rw[aS]at g;rw[f a g,f i (by rw[e];simp)];simp
 .rw[aS]at g ⊢;rw[f a g];simp
 .rw[aS]at d;rw[(j k d).2]at l;cases l
 .rw[h.lv k k0 k1,if_neg jo];unfold yA;simp
 .rw[h.lv k k0 k1];have:=ay.2 m;omega
end
set_option maxRecDepth 10000
set_option maxHeartbeats 8000000
attribute [-simp] RD
def ajb(g:gY)(n:Nat)(v:List gT)(lf:List Int)(p:Pos)(k o x:Int)(h:0<=k/\k<n)(a:v.l=n) :
  Wf T 57 [.i k,.i o,.i x,.ptr 2 0 0,.ptr 4 0 0] [.row 43 0 g.cells,.row 86 0 (cl fS v),.row 51 0 [.gR 1 0 2 0 n],.row 3 0 (cl f1 lf),.row 37 0 [.gV],.row 46 0 p.cells] (λd H'=>d = .tup [] /\
   H' = [.row 43 0 g.cells,.row 86 0 (cl fS (pt v k (o,x))),.row 51 0 [.gR 1 0 2 0 n],.row 3 0 (cl f1 lf),.row 37 0 [.gR 6 0 1 0 1],.row 46 0 p.cells,.row 3 0 [.i k]]):=by
 refine Yg Bd ?_;simp[Bd];(with_reducible repeat' first|refine Xk ?_<;>try simp[pN]|refine Xs ?_ ?_<;>intro h<;>(try intro b)<;>(try simp[h,pN])<;>try omega|refine Xg ?_|omega);simp only[pN];simp[RD]
def TZ(g:gY)(n:Nat)(v:List gT)(lf L:List Int)(b a:Nat)(G:gQ)(f:G = []\/∃p:Pos,G = [.row 46 0 p.cells])(k o x:Int)(h:0<=k/\k<n)(j:v.l=n)(e:L.l<=4000)(c:a<=L.l) :
  Wf T 57 [.i k,.i o,.i x,.ptr 2 0 0,.ptr 4 0 0] ([.row 43 0 g.cells,.row 86 0 (cl fS v),.row 51 0 [.gR 1 0 2 0 n],.row 3 0 (cl f1 lf),.row 37 0 [.gR 5 b 1 a (L.l-a)],.row 3 b (cl f1 L)]++G) (λd H'=>d = .tup [] /\
   H' = [.row 43 0 g.cells,.row 86 0 (cl fS (pt v k (o,x))),.row 51 0 [.gR 1 0 2 0 n],.row 3 0 (cl f1 lf),.row 37 0 [.gR 5 (b+1) 1 0 (L.l-a+1)],.row 3 (b+1) (cl f1 (L.drop a ++ [k]))]++G):=by
 rcases f with rfl|⟨p,rfl⟩
 .refine Yg Bd ?_;simp[Bd];(with_reducible repeat' first|refine Xk ?_<;>try simp[pN]|refine Xs ?_ ?_<;>intro h<;>(try intro i)<;>(try simp[h,pN])<;>try omega|refine Xg ?_|omega);simp only[pN];simp[RD]
 .refine Yg Bd ?_;simp[Bd];(with_reducible repeat' first|refine Xk ?_<;>try simp[pN]|refine Xs ?_ ?_<;>intro h<;>(try intro i)<;>(try simp[h,pN])<;>try omega|refine Xg ?_|omega);simp only[pN];simp[RD]
end Go.Proofs.YtmehofoficaelaaGreatDoor
namespace Go.Proofs.YtmehofoficaelaaGreatDoor
open Go Go.AL Classical
set_option maxRecDepth 10000
set_option maxHeartbeats 16000000
attribute [local simp] HF H5 tp nG
def aup(w:Bool)(z:List gT){g:gY}{l:List Pos}{nx:List (List Int)}{part:List Int}{bu:Int}(o:pn g l nx part bu)(m:List Int)(n t:Int)(v:List gT)(b:List Bool)(Y:0<=n/\n<=4000)(ht:0<=t/\t<=40000000)(s:v.l=l.l)(c:b.l=l.l)
  {dst:Option Nat} {env:Env} {K:St->Prop} (Q:K { env:=put env dst (.b dx),H:=HF w z g l nx m part bu (t+(p8 b part bu part.l).1) (rV g l nx part v b n) (rB g l nx part v b n) .ready }) :
  nJ T 11 [.i n] dst { env:=env,H:=HF w z g l nx m part bu t v b .ready } K .mk:=by
 obtain⟨u,A⟩:∃u,u=w:=⟨w,rfl⟩;cases w
 all_goals
  have J:=o.prt;have Q5:=K7 b part bu part.l;have X:=o.pl;have xV:=o.len;refine nJ.r (rf:=3456) (env0:=[(3,.ptr 5 0 0),(4,.ptr 6 0 0),(5,.ptr 7 0 0),(9,.ptr 8 0 0)]) (Rd:=FF) (by simp[HF,H5,tp,nG,A]) rfl rfl FF.a FF.b (ng rfl) (ng rfl) ?_;simp[FF,HF,H5,tp,nG,A];refine ke.r rfl rfl (f118 v b g l nx part bu (λi hi=>by rw[c];exact J i hi) X U o.bu) (by simp[s,c]) (by simp[flat]) gP ?_;simp;refine gU ?_;refine gZ.s lO ?_;refine gZ.kg [] dx (0:Int) (λy=>[(3,.ptr 5 0 0),(10,.i n),(11,.im 12),(46,dI part),(47,.i part.l),(48,.i y)]) (λy=>HF u z g l nx m part bu (t+(p8 b part bu part.l).1) v b .busy ++ [.map (.int .i64) (qu (uf g l nx v b n) ((part.take y.n).filter (oB g l nx v b n)))]) (λy=>0<=y/\y<=part.l) (λy=>(part.l-y).n) ?_ gP (by first|rfl|(simp[jw];done)|(simp[*];done)) rfl rfl rfl ?_
  .simp
  rintro y ⟨B,V⟩;dsimp only at B V ⊢;rw[A]
  by_cases D:y<part.l
  .have iG:=J _ (ij B D);have p:=o.Ht _ iG.1 iG.2
   have M:gt part y ∉ (part.take y.n).filter (oB g l nx v b n):=λZ=>by have h1:=(aH.1 Z).1;have S:=o.nd;rw[<-cj y.n part,pa B D,a8]at S;exact S.2.2 _ h1 _ (eE ..) rfl
   have F:oB g l nx v b n (gt part y)=dx->lF (qu (uf g l nx v b n) ((part.take y.n).filter (oB g l nx v b n))) (.int .i64 (gt part y)) (.agg [.i (nu g (gt l (gt part y)) v b (gt nx (gt part y)) n).1.1,.i (nu g (gt l (gt part y)) v b (gt nx (gt part y)) n).1.2])=qu (uf g l nx v b n) ((part.take (y+1).n).filter (oB g l nx v b n)):=λh=>by rw[jP B D,bY,gx h,dD];exact adb M
   have q8:oB g l nx v b n (gt part y)=di->(part.take (y+1).n).filter (oB g l nx v b n)=(part.take y.n).filter (oB g l nx v b n):=λh=>by rw[jP B D,bY,gy (by rw[h];decide),dD,az]
   simp[D,HF,H5,tp,nG,A];refine gU ?_;refine ik.r rfl rfl (f119 g o.gm l o.ps v b nx (gt part y) n iG Y o.nxl p.1 s c p.2) (by simp[s,c]) (by simp[flat,w7]) gP ?_;simp;(with_reducible repeat' first|refine Xk ?_<;>try simp|refine Xs ?_ ?_<;>intro h<;>(try intro h')<;>(try simp[h])<;>try omega|refine Xg ?_|omega)
   .refine LJ.i (y+1) (by first|rfl|simp[F (by simp[oB, *])]) (by first|rfl|simp[F (by simp[oB, *])]) (by first|rfl|simp[F (by simp[oB, *])]) (by first|rfl|simp[F (by simp[oB, *])]) ?_;omega
   .refine LJ.i (y+1) (by first|rfl|simp[q8 (by simp[oB, *])]) (by first|rfl|simp[q8 (by simp[oB, *])]) (by first|rfl|simp[q8 (by simp[oB, *])]) (by first|rfl|simp[q8 (by simp[oB, *])]) ?_;omega
   .refine LJ.i (y+1) (by first|rfl|simp[q8 (by simp[oB, *])]) (by first|rfl|simp[q8 (by simp[oB, *])]) (by first|rfl|simp[q8 (by simp[oB, *])]) (by first|rfl|simp[q8 (by simp[oB, *])]) ?_;omega
  .have W:y=part.l:=by omega
   subst W;simp[HF,H5,tp,nG,A];unfold rV rB sB at Q;have C:∀i∈part.filter (oB g l nx v b n),0<=i/\i<l.l:=λi hi=>J i (aH.1 hi).1;refine gZ.s lO ?_;generalize part.filter (oB g l nx v b n)=ds at *;refine gZ.kg [] dx ([]:List Nat) (λy=>[(3,.ptr 5 0 0),(75,.ptr 13 0 0)]) (λy=>HF u z g l nx m part bu (t+(p8 b part bu part.l).1) (mn v (uf g l nx v b n) (gk ds y)) (mn b (λ_=>di) (gk ds y)) .busy ++ [.map (.int .i64) (qu (uf g l nx v b n) ds),.jO (.im 12) ds.l y]) (λy=>y.Nodup/\∀j∈y,j<ds.l) (λy=>ds.l-y.l) ?_ gP (by first|rfl|(simp[jw];done)|(simp[*];done)) rfl rfl rfl ?_
   .simp[gk]
   rintro q ⟨G,f⟩;dsimp only at G f ⊢;rw[A];simp[HF,H5,tp,nG,A];refine ub.at (m:=12) (since:=ds.l) (seen:=q) (kk:=.int .i64) (es:=qu (uf g l nx v b n) ds) gP gP gP (λI=>?_) λi k d R hi=>?_
   .rw[ahG]at I;simp;rw[ad0 (v:=v) (r:=gk ds q) (r':=ds) (by rw[s];exact Qv C f) (Wz f I),ad0 (v:=b) (r:=gk ds q) (r':=ds) (by rw[c];exact Qv C f) (Wz f I)];exact Q
   .obtain⟨N,rfl,rfl⟩:=ahF R;have iG:=C _ (ij (l:=ds) (n:=(i:Int)) U U);have P:=uF (uf g l nx v b n) (gk ds q) v (by rw[s];exact Qv C f);have O:=uF (λ_=>di) (gk ds q) b (by rw[c];exact Qv C f);simp[R,pN];(with_reducible repeat' first|refine Xk ?_<;>try simp[P,O,s,c,pN]|refine Xs ?_ ?_<;>intro h<;>(try intro h')<;>(try simp[h,P,O,s,c,pN])<;>try omega|refine Xg ?_|omega);refine LJ.i (q ++ [i]) (by first|rfl|simp[pN,Ga,AO]) (by first|rfl|simp[pN,Ga,AO]) (by first|rfl|simp[pN,Ga,AO]) (by first|rfl|simp[pN,Ga,AO]) ?_;refine⟨?_,?_,λj E=>?_⟩
    .have GF:(q ++ [i]).Nodup:=by rw[a8];exact⟨G,gP,λa L b c e=>hi (by rw[aE.1 c]at e;exact e▸L)⟩
     have:=wL GF (m:=ej ds.l) λx p=>by
      rcases ai.1 p with p|p
      .exact aZ.2 (f x p)
      .rw[aE.1 p];exact aZ.2 N
     simp at this ⊢;omega
    .rw[a8];exact⟨G,gP,λa L b c e=>hi (by rw[aE.1 c]at e;exact e▸L)⟩
    .rcases ai.1 E with E|E
     .exact f j E
     .rw[aE.1 E];exact N
end Go.Proofs.YtmehofoficaelaaGreatDoor
namespace Go.Proofs.YtmehofoficaelaaGreatDoor
open Go Go.AL Classical
set_option maxRecDepth 10000
set_option maxHeartbeats 16000000
attribute [local simp] HF H5 tp nG
theorem sT.s{T:jt}{rf:Nat}{live:List Nat}{x:X}{s s':St}{K:jD}(hs:s=s')(h:sT T rf live x s' K .mk):sT T rf live x s K .mk:=by subst hs;exact h
section
variable{g:gY}{l:List Pos}{nx:List (List Int)}{part:List Int}{bu:Int}
theorem f162(w:Bool)(z:List gT)(o:pn g l nx part bu)(m:List Int)(v:List gT)(b:List Bool)(p:v.l=l.l)(r:b.l=l.l) :
  Wf T 166 [.jF 11,.ptr 9 0 0] (HF w z g l nx m part bu 0 v b .ready) (λ_ H'=>H'=HF w z g l nx m part bu (lM g l nx part bu 4001 0 v b 0).1 (lM g l nx part bu 4001 0 v b 0).2.1 (lM g l nx part bu 4001 0 v b 0).2.2 .ready):=by
 obtain⟨u,j⟩:∃u,u=w:=⟨w,rfl⟩;cases w
 all_goals
  have x:=o.len;generalize s:lM g l nx part bu 4001 0 v b 0=R;refine Yg NY ?_;simp[NY];refine gZ.e ((0,v,b,0):Int×List gT×List Bool×Int) (λy=>[(0,.jF 11),(1,.ptr 9 0 0),(3,.i y.1)]) (λy=>HF u z g l nx m part bu y.2.2.2 y.2.1 y.2.2.1 .ready) (λy=>0<=y.1/\y.1<=4000/\y.2.1.l=l.l/\y.2.2.1.l=l.l/\0<=y.2.2.2/\y.2.2.2<=y.1*4000/\lM g l nx part bu (4001-y.1).n y.1 y.2.1 y.2.2.1 y.2.2.2=R) (λy=>(4001-y.1).n) ?_ ?_
  .exact⟨gP,gP,p,r,gP,gP,s⟩
  rintro⟨n,e,d,t⟩ ⟨n0,n1,i,f,t0,t1,a⟩;dsimp only at n0 n1 i f t0 t1 a ⊢;rw[j];have C:=K7 d part bu part.l;have A:=o.pl;have k:=HC o i f (n:=n);have e2:=HB o (v:=e) f (n:=n);rw[(U:(4001-n).n=(4000-n).n+1),lM,i,<-k]at a;simp[-HF];refine aup _ z o m n t e d ⟨n0,n1⟩ ⟨t0,U⟩ i f ?_;generalize rV g l nx part e d n=v2 at *;generalize rB g l nx part e d n=b2 at *;generalize (p8 d part bu part.l).1=q at *;simp[HF,H5,tp,nG,j];refine ik.r rfl rfl (f163 v2 b2 g l nx U U) (by simp[k,e2]) (by simp[flat]) gP ?_;simp;(with_reducible repeat' first|refine Xk ?_<;>try simp|refine Xs ?_ ?_<;>intro h<;>(try intro B)<;>(try simp[h])<;>try omega|refine Xg ?_|omega)
  .rw[if_pos ⟨km,km⟩]at a;refine LJ.i (n+1,v2,b2,t+q) (by first|rfl|simp[HF,H5,tp,nG,j]) (by first|rfl|simp[HF,H5,tp,nG,j]) rfl rfl ?_;dsimp only;refine⟨U,U,U,k,e2,U,U,?_⟩;rw[(U:(4001-(n+1)).n=(4000-n).n)];exact a
  .rw[if_neg (λc=>absurd c.2 km)]at a;subst a;exact⟨rfl,rfl,rfl⟩
  .rw[if_neg (λc=>absurd c.1 U)]at a;subst a;exact⟨rfl,rfl,rfl⟩
theorem f78(w:Bool)(z:List gT)(o:pn g l nx part bu)(m:List Int)(v:List gT)(b:List Bool)(H:v.l=l.l)(n:b.l=l.l) :
  Wf T 54 [tp w,dI part,.i bu] (H5 w z g l nx m v b)
   (λd H'=>d = .i (nZ g l nx part bu v b).1/\H'=H5 w z g l nx m (nZ g l nx part bu v b).2.1 (nZ g l nx part bu v b).2.2):=by
 obtain⟨u,a⟩:∃u,u=w:=⟨w,rfl⟩;cases w
 all_goals
  have k:=o.prt;have R:=o.pl;have P:=o.len;refine Yg O9 ?_;simp[O9,H5,tp,nG,a];refine gZ.e (0:Int) (λy=>[(3,.ptr 5 0 0),(4,.ptr 6 0 0),(5,.ptr 7 0 0),(20,dI part),(21,.i part.l),(22,.i y)]) (λy=>H5 u z g l nx m v (mn b (λ_=>dx) (part.take y.n)) ++ [.row 125 0 [tp u],.row 37 0 [dI part],.row 3 0 [.i bu]]) (λy=>0<=y/\y<=part.l) (λy=>(part.l-y).n) ?_ ?_
  .simp[mn]
  rintro i ⟨i0,L⟩;dsimp only at i0 L ⊢;rw[a]
  by_cases hi:i<part.l
  .have iG:=k _ (ij i0 hi);have hl:=uF (λ_=>dx) (part.take i.n) b λj N=>by rw[n];exact k j (aQ N)
   simp[hi,H5,tp,nG,a];refine ko hl n ?_;refine LJ.i (i+1) (by first|rfl|simp[H5,tp,nG,a,jP i0 hi,AO]) (by first|rfl|simp[H5,tp,nG,a,jP i0 hi,AO]) rfl rfl ?_;omega
  .have:i=part.l:=by omega
   subst this;simp[H5,tp,nG,a];refine ik.inl Ir rfl rfl (by simp[Ir]) rfl ?_;simp[Ir];refine sT.s lO ?_;refine sT.r (f:=166) (first:=[]) (cap:=[.ptr 9 0 0]) rfl rfl rfl rfl ?_;simp;have G:=f162 u z o m v (mn b (λ_=>dx) part) H (by rw[uF _ _ _ (by rw[n];exact k),n]);rw[a]at G;have K:=(LO o bu 4001 0 v (mn b (λ_=>dx) part) 0 H (by rw[uF _ _ _ (by rw[n];exact k),n])).1;unfold nZ;dsimp only;generalize lM g l nx part bu 4001 0 v (mn b (λ_=>dx) part) 0=r at *;obtain⟨t,e,c⟩:=r;obtain⟨E,x⟩:=K;dsimp only at E x G ⊢;refine Wf.mono G ?_;rintro _ H' rfl;refine⟨[(3,.ptr 5 0 0),(4,.ptr 6 0 0),(5,.ptr 7 0 0),(9,.ptr 8 0 0)],.ready,by simp[HF,H5,tp,nG,a],?_⟩;simp[HF,H5,tp,nG,a];refine gZ.s lO ?_;refine gZ.kg [10] di (0:Int) (λy=>[(3,.ptr 5 0 0),(9,.ptr 8 0 0),(96,dI part),(97,.i part.l),(98,.i y)]) (λy=>H5 u z g l nx m (oX (part.take y.n) e c).1 (oX (part.take y.n) e c).2 ++ [.row 125 0 [tp u],.row 37 0 [dI part],.row 3 0 [.i bu],.row 3 0 [.i t],.row 125 0 [tp u],.jJ]) (λy=>0<=y/\y<=part.l) (λy=>(part.l-y).n) ?_ gP (by first|rfl|(simp[jw];done)|(simp[*];done)) rfl rfl rfl ?_
   .simp
   rintro y ⟨p,J⟩;dsimp only at p J ⊢;rw[a]
   by_cases q:y<part.l
   .have iG:=k _ (ij p q);have D:∀i∈(part.take y.n).filter (λi=>gt c i),0<=i/\i<l.l:=λi hi=>k i (aQ (aH.1 hi).1);have B:(oX (part.take y.n) e c).1.l=l.l:=by unfold oX;rw[uF _ _ _ (by rw[E];exact D),E]
    have A:(oX (part.take y.n) e c).2.l=l.l:=by unfold oX;rw[uF _ _ _ (by rw[x];exact D),x]
    have C:gt (oX (part.take y.n) e c).2 (gt part y)=gt c (gt part y):=by unfold oX;dsimp only;rw[z' _ _ _ (by rw[x];exact D) _ iG.1 U,if_neg λM=>?_];have h1:=(aH.1 M).1;have I:=o.nd;rw[<-cj y.n part,pa p q,a8]at I;exact I.2.2 _ h1 _ (eE ..) rfl
    have s:gt c (gt part y)=dx->oX (part.take (y+1).n) e c=(pt (oX (part.take y.n) e c).1 (gt part y) (2,0),pt (oX (part.take y.n) e c).2 (gt part y) di):=λh=>by unfold oX;rw[jP p q,bY,gx h,dD,AO,AO]
    have q8:gt c (gt part y)=di->oX (part.take (y+1).n) e c=oX (part.take y.n) e c:=λh=>by unfold oX;rw[jP p q,bY,gy (by rw[h];decide),dD,az]
    generalize O:oX (part.take y.n) e c=F at *;obtain⟨Q,b2⟩:=F;dsimp only at B A C s q8 ⊢;simp[q,H5,tp,nG,a,O,B,A,C];(with_reducible repeat' first|refine Xk ?_<;>try simp[B,A,C,pN]|refine Xs ?_ ?_<;>intro h<;>(try intro S)<;>(try simp[h,B,A,C,pN])<;>try omega|refine Xg ?_|omega)
    .refine LJ.i (y+1) (by first|rfl|simp[H5,tp,nG,a,s h]) (by first|rfl|simp[H5,tp,nG,a,s h]) (by first|rfl|simp[H5,tp,nG,a,s h]) (by first|rfl|simp[H5,tp,nG,a,s h]) ?_;omega
    .refine LJ.i (y+1) (by first|rfl|simp[H5,tp,nG,a,q8 h]) (by first|rfl|simp[H5,tp,nG,a,q8 h]) (by first|rfl|simp[H5,tp,nG,a,q8 h]) (by first|rfl|simp[H5,tp,nG,a,q8 h]) ?_;omega
   .have:y=part.l:=by omega
    subst this;simp[H5,tp,nG,a]
end
end Go.Proofs.YtmehofoficaelaaGreatDoor
namespace Go.Proofs.YtmehofoficaelaaGreatDoor
open Go Go.AL Classical
set_option maxRecDepth 10000
set_option maxHeartbeats 8000000
def Tr{l:List gT}{n:Int}(h:n.n<l.l):(cl fS l).drop (n.n*2)=fS (gt l n)++cl fS (l.drop (n.n+1)):=by rw[xG,bW h,oG];congr 1;unfold gt;rw[cp,cc h];rfl
def Ts{l:List gT}{n:Int}(h:n.n<l.l)(a:Int):(cl fS l).take (n.n*2) ++ .i a::(cl fS l).drop (n.n*2+1)=cl fS (pt l n (a,(gt l n).2)):=by
 have e:(cl fS l).drop (n.n*2+1) = .i (gt l n).2::cl fS (l.drop (n.n+1)):=by rw[<-cJ,Tr h,z6];rfl
 rw[e,zV];unfold pt;rw[<-Da,oG,z6];rfl
def ai7(g:gY)(hg:iE g)(l:List Pos)(s:qq g l)(h0:0<l.l)(m:List Int)(H:oF g m)(n:Int)(G:1<=n/\n<=9223372036854775807):Wf T 14 [dG g,.agg [dI m],iZ l,.i n] [] (Is (.tup [iS (zr g l m n).2.1,.i (zr g l m n).1,.i 0])):=by
 have I:=s.len;have z:=λp w=>F8 hg s (m:=m) G (p:=p) w;have A:=λp w=>Z3 (m:=m) (l:=l) (p:=p) w;have L:=ahb m l;generalize C:zr g l m n=R;unfold zr at C;refine Yg OX ?_;simp[OX];refine ik.inl II rfl rfl (by simp[II]) rfl ?_;simp[II];refine Yc (f52 g hg l s h0) ?_;simp;(with_reducible repeat' first|refine Xk ?_<;>try simp|refine Xs ?_ ?_<;>intro h<;>(try intro M)<;>(try simp[h])<;>try omega|refine Xg ?_|omega);refine gZ.s lO ?_;refine gZ.e ((0,bf l.l (0,0)):Int×List gT) (λy=>[(2,iZ l),(3,.i n),(5,.ptr 1 0 0),(11,.ptr 2 0 0),(33,.i l.l),(34,.i y.1)]) (λy=>[.row 43 0 g.cells,.row 56 0 [dI m],.row 132 0 [.gR 3 0 2 0 l.l,.gR 4 0 1 0 l.l,.i g.size,.sl 1 (g.next.map fI),dI g.jC,.sl 3 (g.kinds.map Kind.cells),.i g.iw,.b g.me,dN 4 Clause.cells g.clauses,.i g.blocked,.i g.oV,iZ l,.sl 1 ((iq g l).map fN)],.row 86 0 (cl fS y.2),.row 4 0 (cl fB (bf l.l di))]) (λy=>0<=y.1/\y.1<=l.l/\y.2.l=l.l/\(∀k:Int,0<=k->k<y.1->gt y.2 k=(2,0))/\(∀k:Int,y.1<=k->k<l.l->gt y.2 k=(0,0))) (λy=>(l.l-y.1).n) ?_ ?_
 .dsimp only;refine⟨U,U,gP,λk k0 k1=>U,λk k0 k1=>DA k0 k1⟩
 rintro⟨i,v⟩ ⟨i0,u,a,c,o⟩;dsimp only at i0 u a c o ⊢
 by_cases hi:i<l.l
 .have D:=jy (v:=((2,(gt v i).2):gT)) i0 (by omega:i<v.l);have J:=o i U hi;simp[hi];refine gU ?_;refine LJ.i (i+1,pt v i (2,(gt v i).2)) (by first|rfl|simp[Ts (by omega:i.n<v.l)]) (by first|rfl|simp[Ts (by omega:i.n<v.l)]) rfl rfl ?_;dsimp only;refine⟨U,U,U,by rw[D];exact a,λk k0 k1=>?_,λk k0 k1=>?_⟩
  .by_cases e:k=i
   .subst e;rw[Dx i0 U,J]
   .rw[Dy i0 U U e];exact c k k0 U
  .rw[Dy i0 U U U];exact o k U k1
 .simp[hi];refine Yc (f77 hg H s.ok I h0) ?_;simp;have F:v=bf l.l (2,0):=BE (by simp[a]) λj j0 j1=>by rw[c j j0 U,DA j0 U]
  subst F;generalize pR m l=cut at *;refine gZ.s lO ?_;refine gZ.e ((0,bf l.l (2,0),bf l.l di,0):Int×List gT×List Bool×Int) (λy=>[(3,.i n),(11,.ptr 2 0 0),(14,.i y.2.2.2),(48,.sl 1 (cut.map fI)),(49,.i cut.l),(50,.i y.1)]) (λy=>[.row 43 0 g.cells,.row 56 0 [dI m],.row 132 0 (nG dx g l (iq g l)),.row 86 0 (cl fS y.2.1),.row 4 0 (cl fB y.2.2.1)]) (λy=>0<=y.1/\y.1<=cut.l/\y.2.1.l=l.l/\y.2.2.1.l=l.l/\0<=y.2.2.2/\y.2.2.2<=y.1*20000000/\AH g l (iq g l) n (cut.drop y.1.n) y.2.1 y.2.2.1 y.2.2.2=R) (λy=>(cut.l-y.1).n) ?_ ?_
  .exact⟨gP,gP,gP,gP,gP,gP,C⟩
  rintro⟨i,v,b,t⟩ ⟨i0,u,a,c,o,E,f⟩;dsimp only at i0 u a c o E f ⊢
  by_cases hi:i<cut.l
  .have B:=ij i0 hi;have x:=z _ B;obtain⟨P,c2,O,N⟩:=A _ B;have K:=ajj (g:=g) (l:=l) (nx:=iq g l) (bu:=n) x.pl v b;have q:=(Bz x n a c).1;rw[pa i0 hi,AH]at f;simp[hi];refine gU ?_;refine ik.kZ rfl rfl (f78 dx [] x m v b a c) ?_;rintro d H' ⟨rfl,rfl⟩;generalize nZ g l (iq g l) (gt cut i) n v b=r at *;simp[H5];refine gU ?_;refine LJ.e (i+1,r.2.1,r.2.2,t+r.1) ?_;dsimp only;refine⟨U,U,U,q.1,q.2,U,U,?_⟩;rw[(U:(i+1).n=i.n+1)];exact f
  .have:i=cut.l:=by omega
   subst this;rw[bE gP,AH]at f;subst f;simp[nG,a]
def ai2(v:List gT)(b:v.l<=4000):Wf T 17 [iS v,iS v] [] (Is (.b dx)):=by
 refine Yg Oz ?_;simp[Oz];refine gZ.e (0:Int) (λy=>[(0,iS v),(1,iS v),(5,.i y)]) (λy=>[]) (λy=>0<=y/\y<=v.l) (λy=>(v.l-y).n) ?_ ?_
 .simp
 rintro i ⟨i0,a⟩;dsimp only at i0 a ⊢
 by_cases hi:i<v.l
 .simp[hi];refine gU ?_;refine LJ.e (i+1) ?_;omega
 .simp[hi]
