/- Part 43 of DisputeMatchesReference. -/
import Derived.Test.YtmehofoficaelaaGreatDoorM42
set_option linter.all false
open List renaming all_eq_true→aE,mem_of_getElem?→b4,mem_singleton→cj,replicate→cp,range→dr,length_map→dx,length→List.l
open Option renaming some→bb,none→eh
open And renaming intro→bs
open Int renaming toNat_natCast→di,toNat→Int.n
namespace Go.Proofs.YtmehofoficaelaaGreatDoor
open Go Go.AL Classical
set_option maxRecDepth 10000
set_option maxHeartbeats 8000000
section
variable{H G R:gg}{k j:Nat}{o o':Ob}
@[simp] theorem Wd:(H++G).set H.l o=H++G.set 0 o:=by rw[dF _ _ U,b7]
end
section
variable{id n:Nat}{live keys:List Nat}{K:ju}{s:St}{J:Env->gg->List Nat->Bool->Prop}
@[simp ↓ high] theorem att:yZ id n (9999::live) K (.norm s)=K (.norm { s with env:=forget (9999::live) s.env }):=by rw[Wl,Rn]
@[simp ↓ high] theorem atw:yZ id n (9999::live) K (.exit id s)=K (.norm { s with env:=forget (9999::live) s.env }):=by rw[Wm,Rn]
@[simp ↓ high] theorem axw:xI n (9999::live) keys J K (.norm s)=J (forget keys (forget (9999::live) s.env)) s.H s.marks s.iM:=by rw[aaZ,Rn]
end
@[simp] theorem awK(r:gj):tW (ma r) = .agg [.i r.1,.i r.2]:=rfl
theorem aiC{n:Nat}{H G:gg}{v g:Nat}{x:List Int}(k:H.l=n)(c:jM n H)(f:G[v]? = bb (.row 3 g (cl f1 x)))(e:x≠[]) :
  leave 0 n (H++G) (.gh (n+v) g 1 0 x.l)=(dN 1 f1 x,H):=by
 have m:=(ae.1 f).1
 have l:(((H++G).take n).map (pZ n)).flatten = []:=flatten_nil λo b=>by rw[aZ U,af U]at b;exact Ur (c o b)
 have d:jc (jC n []) (n+v)=none:=by unfold jc jC;rw[List.map_nil,aD,dS];intro p j;obtain⟨u,h,rfl⟩:=au.1 j;rw[br]at h;have:u≠n+v:=U;simpa using this
 have i:AL.rowAt (H++G) (n+v) g=bb (3,cl f1 x):=oh;unfold leave;rw[if_neg (by rw[ar];omega)];simp only;rw[l];show(gA (jc (jC n [])) (H++G) 40 _,sV (jC n []) (H++G))=_;rw[JT k c,AL.U3,d,acA,i,xd rfl];refine cL ?_ rfl
 cases x with
 | nil=>exact absurd rfl e
 | cons a r=>rfl
def agm:Wf T 126 [.val (.int .u64 0)] [] (Is (.i 0)):=p7 (k:=40) gw
def agr{H:gg}:Wf T 189 [.gp,.i 0,.i 0] H (λd H'=>d = .tup []/\H'=H):=by refine Yg Mz ?_;simp[Mz];refine gx.un ?_;refine lG.u ?_;simp
def ags{H:gg}:Wf T 125 [.gp,.i 0,.i 0,.i 0] H (λd H'=>d = .tup []/\H'=H):=by refine Yg Ml ?_;simp[Ml];refine gx.un ?_;refine lG.u ?_;simp;refine gE.lU rfl rfl agr ?_;rintro _ H' ⟨rfl,rfl⟩;simp
def Ya{H:gg}:Wf T 67 [.gp] H (λd H'=>d = .tup []/\H'=H):=by refine Yg L4 ?_;simp[L4];refine Yc (agm) ?_;simp;refine gE.lU rfl rfl ags ?_;rintro _ H' ⟨rfl,rfl⟩;simp
def adk(n:Nat)(G:gg)(out:List Int)(d:D):Prop:=(out = []/\d = .gp)\/(out≠[]/\∃v g,d = .gh (n+(v+1)) g 1 0 out.l/\G[v+1]? = bb (.row 3 g (cl f1 out)))
def Bs{H G:gg}{d:D}(gu:jM H.l H)(a:jW H.l d=true):leave 0 H.l (H++G) d=(d,H):=aiB rfl gu a
attribute [-simp] uU
def RG{H:gg}{ck sr n:Nat}{M:Nat->kL}{ow:Nat->Nat×Nat×Nat}{P:Nat->Nat}{Q:Nat->Nat->Nat}{cells:List D}(Z:na H ck sr n M ow P Q)(gu:jM H.l H)(I:H[ck]? = bb (.row 168 0 cells))(V:cells[12]? = bb (.gh sr 0 1 0 n))
  {cm:List gR} (h8:cm.l<=100000) {i:Int} (i0:0<=i) (i1:i<n) (hM:M i.n=gY cm i) {w:gj->Bool} {RL:FuncId} {cap:List D}
  (hw:∀(r:gj) (dst:Option Nat) (s:St) (K:St->Prop),(∀(v:Nat) (o:Ob),H[v]? = bb o->s.H[v]? = bb o)->K { s with env:=put s.env dst (.b (w r)) }->gE T RL (.agg [.i r.1,.i r.2]::cap) dst s K .mk) :
  Wf T 119 [.ptr ck 0 0,.i i,.fn (.func RL) [] cap] H (λd H'=>d=dN 1 f1 (jw (λc=>ke c i&&w (jH c i)) cm cm.l)/\H'=H):=by
 obtain⟨u,_⟩:=Z.mp i.n U;have hq:=Z.ls i.n U;have Y:=Z.row;rw[hM]at u hq;have hj:((dr n).map λj=>D.gM (P j))[i.n]? = bb (.gM (P i.n)):=jZ;obtain⟨p,J⟩:∃p,P i.n=p:=⟨_,rfl⟩;obtain⟨q,zB⟩:∃q,Q i.n=q:=⟨_,rfl⟩;rw[J]at u hj;rw[zB]at u hq;have gQ:i<(n:Int):=i1;have tM:=(ae.1 I).1;have iR:=(ae.1 u).1;have S:∀G,(H++G)[p]? = bb (.map KS (jo q 0 (gY cm i))):=λG=>by rw[ah iR,u]
 refine Yg KY ?_;simp[KY,I,V,Y,J,u,i0,gQ];(with_reducible repeat' first|refine Xk ?_<;>try simp[I,V,Y,J,u,i0,gQ]|refine Xs ?_ ?_<;>intro h<;>(try intro h')<;>(try simp[h,I,V,Y,J,u,i0,gQ])<;>try omega|refine Xg ?_|omega);refine gx.e (([.jG (.gM p) (gY cm i).l []],[],[],.gp):gg×List Nat×List Int×D) (λy=>[(2,.fn (.func RL) [] cap),(7,y.2.2.2),(17,.ptr H.l 0 0)]) (λy=>H++y.1) (λy=>y.1[0]? = bb (.jG (.gM p) (gY cm i).l y.2.1)/\uO cm i w y.2.1 y.2.2.1/\adk H.l y.1 y.2.2.1 y.2.2.2) (λy=>(gY cm i).l-y.2.1.l) ?_ ?_
 .exact⟨rfl,uO.start,.inl ⟨rfl,rfl⟩⟩
 rintro⟨G,seen,out,d⟩ ⟨hG,hS,O⟩;dsimp only at hG hS O ⊢;have Fi:=(ae.1 hG).1;have C9:=hS.len;simp;refine vP.at (m:=p) (since:=(gY cm i).l) (seen:=seen) (kk:=KS) (es:=jo q 0 (gY cm i)) (by simp[hG]) (by simp[S]) gf (λX=>?_) λt kv dv he hi=>?_
 .have X:∀t,t<(gY cm i).l->t∈seen:=by simpa using X
  have W:=hS.done X;simp;refine gi ?_;rcases O with⟨rfl,rfl⟩|⟨N,v,g,rfl,f⟩
  .refine gE.lU rfl rfl Ya ?_;rintro _ H' ⟨rfl,rfl⟩;have:jw (λc=>ke c i&&w (jH c i)) cm cm.l = []:=by rw[<-W];simp
   rw[this];simp[Bs gu,dN]
  .refine gE.lU rfl rfl (f160 (l:=out) (t:=3) (K:=λd H'=>d = .tup []/\H'=H++G.set (v+1) (.row 3 g (cl f1 (jw (λc=>ke c i&&w (jH c i)) cm cm.l)))) (ao.2 N) U (by simp[f]) ⟨rfl,by simp[W]⟩) ?_;rintro _ H' ⟨rfl,rfl⟩;have E:(jw (λc=>ke c i&&w (jH c i)) cm cm.l).l=out.l:=by rw[<-W,eM]
   have pU:=aiC (G:=G.set (v+1) (.row 3 g (cl f1 (jw (λc=>ke c i&&w (jH c i)) cm cm.l)))) (v:=v+1) (g:=g) rfl gu (by rw[aQ (ae.1 f).1]) (λe=>N (aC.1 (by rw[<-E,e];rfl)));rw[E]at pU;simp[pU]
 .rw[w9]at he;obtain⟨x,B,lD⟩:=aq.1 he;cases lD;rw[aV]at *;obtain⟨Z2,_⟩:=hq t x B;have ig:=(OB B).2;have z:=hS.step B hi;have rz:=JQ hS.nd hS.lt (ae.1 B).1 hi;have Fz:=(ae.1 Z2).1;have A:∀G,(H++G)[q t]? = bb (.row 3 (x.2.l-1) (cl f1 x.2)):=λG=>by rw[ah Fz,Z2];rfl
  have kj:(jo q 0 (gY cm i))[t]? = bb (ma x.1,oI (q t) x.2):=by rw[w9,B];simp
  obtain⟨a,CL⟩:∃a,G.set 0 (.jG (.gM p) (gY cm i).l (seen ++ [t]))=a:=⟨_,rfl⟩;have F:a[0]? = bb (.jG (.gM p) (gY cm i).l (seen ++ [t])):=by rw[<-CL,aQ Fi]
  have Sl:∀(v:Nat) (o:Ob),G[v+1]? = bb o->a[v+1]? = bb o:=λv o f=>by rw[<-CL,aP U];exact f
  have e:(H++G).set H.l (.jG (.gM p) (gY cm i).l (seen ++ [t]))=H++a:=by rw[Wd,CL]
  have SP:=(ae.1 F).1;rw[e];obtain⟨b,hb⟩:∃b,w x.1=b:=⟨_,rfl⟩;rw[hb]at z
  have oz:x.2.l<=cm.l:=by rw[(OB B).1];exact zQ _ _ ((Dp _ _ _).imp λh e=>U) λk hk=>(Bq.1 hk).1
  simp[S,kj,F];refine kG S kj F ?_;refine hw x.1 _ _ _ (λv o f=>?_) ?_
  .have L:=(ae.1 f).1;simp[ah L,f]
  rw[hb];have hm:(gY cm i).l-(seen ++ [t]).l<(gY cm i).l-seen.l:=jZ;have C1:∀(R:gg),(a++R)[0]? = bb (.jG (.gM p) (gY cm i).l (seen ++ [t])):=λR=>by rw[ah SP];exact F
  cases b
  .rw[if_neg gf]at z;simp;refine LJ.e (_,seen ++ [t],out,d) ?_;refine⟨hm,C1 _,z,?_⟩;rcases O with h|⟨h1,v,g,h2,h3⟩
   .exact .inl h
   .exact .inr ⟨h1,v,g,h2,by rw[ah (ae.1 (Sl _ _ h3)).1];exact Sl _ _ h3⟩
  .rw[if_pos rfl]at z;rcases O with⟨rfl,rfl⟩|⟨N,v,g,rfl,f⟩
   .simp[A,oI];(with_reducible repeat' first|refine Xk ?_<;>try simp[A,oI]|refine Xs ?_ ?_<;>intro h<;>(try intro h')<;>(try simp[h,A,oI])<;>try omega|refine Xg ?_|omega);rw[bI]at z;refine⟨λe=>absurd e ig,λ_=>(sk ?_)⟩;refine LJ.i (_,seen ++ [t],x.2,_) rfl rfl rfl rfl ?_;refine⟨hm,C1 _,z,.inr ⟨ig,a.l,0,rfl,?_⟩⟩;rw[adz];rfl
   .have C:=Sl _ _ f;have L:=(ae.1 C).1;have Tw:∀R:gg,(a++R)[v+1]? = bb (.row 3 g (cl f1 out)):=λR=>by rw[ah L];exact C
    have Df:∀(R:gg) (o:Ob),(a++R).set (v+1) o=a.set (v+1) o++R:=λR o=>aT _ _ L;simp[A,oI,Tw,Df];(with_reducible repeat' first|refine Xk ?_<;>try simp[A,oI,Tw,Df]|refine Xs ?_ ?_<;>intro h<;>(try intro h')<;>(try simp[h,A,oI,Tw,Df])<;>try omega|refine Xg ?_|omega);refine LJ.i (_,seen ++ [t],out++x.2,.gh (H.l+(v+1)) (g+1) 1 0 (out.l+x.2.l)) gf rfl rfl rfl ?_;refine⟨hm,?_,z,.inr ⟨by simp[N],v,g+1,gf,?_⟩⟩
    .grind
    .grind
end Go.Proofs.YtmehofoficaelaaGreatDoor
namespace Go.Proofs.YtmehofoficaelaaGreatDoor
open Go Go.AL Classical
set_option maxRecDepth 10000
set_option maxHeartbeats 8000000
attribute [-simp] uU
def afN(r:gj):Wf T 121 [.agg [.i r.1,.i r.2]] [] (Is (.b (lV r))):=by
 obtain⟨a,b⟩:=r;unfold lV;dsimp only
 by_cases e:a=2
 .subst e
  by_cases c:b=0
  .subst c;refine Yg vO ?_;simp[vO]
  .refine Yg vO ?_;simp[vO,c]
 .by_cases c:a=1
  .subst c;refine Yg vO ?_;simp[vO]
  .by_cases d:a=3
   .subst d;refine Yg vO ?_;simp[vO]
   .refine Yg vO ?_;simp[vO,e,c,d]
def afM(r:gj):Wf T 120 [.agg [.i r.1,.i r.2]] [] (Is (.b (!lV r))):=by have c:=afN r;obtain⟨b,a⟩:∃b,lV r=b:=⟨_,rfl⟩;rw[a]at c ⊢;refine Yg K1 ?_;simp[K1];refine Yc (c) ?_;simp
def af5(r q:gj):Wf T 187 [.agg [.i r.1,.i r.2],.gH [.i q.1,.i q.2]] [] (Is (.b (decide (r≠q)))):=by obtain⟨a,b⟩:=r;obtain⟨x,y⟩:=q;refine Yg Lf ?_;simp[Lf]
def af6(r:gj)(n:Int):Wf T 188 [.agg [.i r.1,.i r.2],.gH [.i n]] [] (Is (.b (decide (r.1≠2/\r.2=n)))):=by
 obtain⟨a,b⟩:=r;dsimp only
 by_cases c:a=2
 .subst c;refine Yg Ea ?_;simp[Ea]
 .refine Yg Ea ?_;simp[Ea,c]
@[simp] theorem axB(G:kL):sh (xG G []) = -1:=rfl
theorem RH{H:gg}{ck sr n:Nat}{M:Nat->kL}{ow:Nat->Nat×Nat×Nat}{P:Nat->Nat}{Q:Nat->Nat->Nat}{cells:List D}(Z:na H ck sr n M ow P Q)(gu:jM H.l H)(E:H[ck]? = bb (.row 168 0 cells))(B:cells[12]? = bb (.gh sr 0 1 0 n))
  {cm:List gR} {i:Int} (i0:0<=i) (J:i<n) (hM:M i.n=gY cm i) (pV:∀r∈sd cm i,lV r=true) :
  Wf T 122 [.ptr ck 0 0,.i i] H (λd H'=>d = .i (oB (sd cm i))/\H'=H):=by
 obtain⟨k,_⟩:=Z.mp i.n U;have I:=Z.row;rw[hM]at k
 have hj:((dr n).map λj=>D.gM (P j))[i.n]? = bb (.gM (P i.n)):=by rw[ax,bW U];rfl
 obtain⟨p,u⟩:∃p,P i.n=p:=⟨_,rfl⟩;obtain⟨q,zB⟩:∃q,Q i.n=q:=⟨_,rfl⟩;rw[u]at k hj;rw[zB]at k;have iR:=(ae.1 k).1;have c:∀G,(H++G)[p]? = bb (.map KS (jo q 0 (gY cm i))):=λG=>by rw[ah iR,k]
 refine Yg K2 ?_;simp[K2,E,B,I,u,k,i0,J];(with_reducible repeat' first|refine Xk ?_<;>try simp[E,B,I,u,k,i0,J]|refine Xs ?_ ?_<;>intro h<;>(try intro N)<;>(try simp[h,E,B,I,u,k,i0,J])<;>try omega|refine Xg ?_|omega);refine gx.e (([.jG (.gM p) (gY cm i).l []],[]):gg×List Nat) (λy=>[(5,.i (sh (xG (gY cm i) y.2))),(14,.ptr H.l 0 0)]) (λy=>H++y.1) (λy=>y.1[0]? = bb (.jG (.gM p) (gY cm i).l y.2)/\y.2.Nodup/\∀t∈y.2,t<(gY cm i).l) (λy=>(gY cm i).l-y.2.l) ?_ ?_
 .exact⟨rfl,.nil,λ_ h=>by cases h⟩
 rintro⟨G,seen⟩ ⟨L,W,O⟩;dsimp only at L W O ⊢;have Fi:=(ae.1 L).1;simp;refine vP.at (m:=p) (since:=(gY cm i).l) (seen:=seen) (kk:=KS) (es:=jo q 0 (gY cm i)) (by simp[L]) (by simp[c]) gf (λF=>?_) λt kv dv K hi=>?_
 .have F:∀t,t<(gY cm i).l->t∈seen:=by simpa using F
  have Y:=aip F O
  have xt:sh (xG (gY cm i) seen)=oB (sd cm i):=by
   rw[T1 λr hr a=>?_]
   .exact aiT Y
   .have:=pV r ((Y r).1 hr);unfold lV at this;simp only[decide_eq_true_eq]at this;rcases this with rfl|h
    .exact absurd rfl a
    .exact h.2
  simp;refine gi ?_;simp[Bs gu,xt]
 .rw[w9]at K;obtain⟨x,z,lD⟩:=aq.1 K;cases lD;have A:=JQ W O (ae.1 z).1 hi;have f:(jo q 0 (gY cm i))[t]? = bb (ma x.1,oI (q t) x.2):=by rw[w9,z];simp
  have C:=aiq (seen:=seen) z;obtain⟨ks,X⟩:∃ks,xG (gY cm i) seen=ks:=⟨_,rfl⟩;rw[X]at C ⊢;obtain⟨m,hm⟩:∃m,sh ks=m:=⟨_,rfl⟩;have V:sh (xG (gY cm i) (seen ++ [t]))=wE m x.1:=by rw[C,aa0,hm]
  obtain⟨o,S⟩:∃o,G.set 0 (.jG (.gM p) (gY cm i).l (seen ++ [t]))=o:=⟨_,rfl⟩;have b:o[0]? = bb (.jG (.gM p) (gY cm i).l (seen ++ [t])):=by rw[<-S,aQ Fi]
  have e:(H++G).set H.l (.jG (.gM p) (gY cm i).l (seen ++ [t]))=H++o:=by rw[Wd,S]
  have SP:=(ae.1 b).1;have C1:∀(R:gg),(o++R)[0]? = bb (.jG (.gM p) (gY cm i).l (seen ++ [t])):=λR=>by rw[ah SP];exact b
  have wy:(gY cm i).l-(seen ++ [t]).l<(gY cm i).l-seen.l:=by have:=A.2.2;rw[ar,bn]at this ⊢;omega
  have w:∀ {R:gg} {v:Int},v=wE m x.1->LJ (λy:gg×List Nat=>[(5,.i (sh (xG (gY cm i) y.2))),(14,.ptr H.l 0 0)]) (λy=>H++y.1) [] false (λs=>(gY cm i).l-s.2.l<(gY cm i).l-seen.l/\s.1[0]? = bb (.jG (.gM p) (gY cm i).l s.2)/\s.2.Nodup/\∀t∈s.2,t<(gY cm i).l) .mk [(5,.i v),(14,.ptr H.l 0 0)] (H++(o++R)) [] false:=λ{R v} hv=>by subst hv;exact LJ.i (o++R,seen ++ [t]) (by simp[V]) rfl rfl rfl ⟨wy,C1 _,A.1,A.2.1⟩
  rw[e,hm];obtain⟨⟨r1,r2⟩,ls⟩:=x;dsimp only at *;clear S e C V X K z
  by_cases a:r1=2
  .subst a;simp[c,f,b];refine kG c f b ?_;refine w ?_;simp[wE]
  .by_cases g:m<0
   .simp[c,f,b,a,g];(with_reducible repeat' first|refine Xk ?_<;>try simp[c,f,b,a,g]|refine Xs ?_ ?_<;>intro h<;>(try intro N)<;>(try simp[h,c,f,b,a,g])<;>try omega|refine Xg ?_|omega);refine w ?_;simp[wE,a,g]
   .by_cases l:r2<m
    .simp[c,f,b,a,g,l];(with_reducible repeat' first|refine Xk ?_<;>try simp[c,f,b,a,g,l]|refine Xs ?_ ?_<;>intro h<;>(try intro N)<;>(try simp[h,c,f,b,a,g,l])<;>try omega|refine Xg ?_|omega);refine w ?_;simp[wE,a,l]
    .simp[c,f,b,a,g,l];(with_reducible repeat' first|refine Xk ?_<;>try simp[c,f,b,a,g,l]|refine Xs ?_ ?_<;>intro h<;>(try intro N)<;>(try simp[h,c,f,b,a,g,l])<;>try omega|refine Xg ?_|omega);refine w ?_;simp[wE,a,g,l]
end Go.Proofs.YtmehofoficaelaaGreatDoor
namespace Go.Proofs.YtmehofoficaelaaGreatDoor
open Go Go.AL Classical
def aaE(a b:Int):AL.keyOf (.agg [.i a,.i b])=bb (ma (a,b)):=rfl
def Zm(r:gj):KS.has (ma r)=true:=rfl
def ae6(Q:Nat->Nat){G:kL}{i t:Nat}{k:Value}{d:D}(h:(jo Q i G)[t]? = bb (k,d)):(jo Q i G).set t (k,d)=jo Q i G:=by obtain⟨h1,a⟩:=ae.1 h;rw[<-a,eJ]
def ai0{H:gg}{v t:Nat}{q:Nat->Nat}{G:kL}{r:gj}{x:List Int}(c:H[v]? = bb (.map KS (jo q 0 G)))(b:pa r G=bb (t,x)) :
  zO KS .gp (.gM v) (.agg [.i r.1,.i r.2]) H=bb (.tup [oI (q t) x,.i t],.obj v (.map KS (jo q 0 G))):=by
 have h1:=Ud q r G 0 0;rw[b]at h1;simp only[aK,aV]at h1;have a:=Ug q r (oI (q t) x) G 0;rw[b]at a
 have d:(jo q 0 G)[t]? = bb (ma r,oI (q t) x):=by rw[w9,(AT (k:=0) b).1];simp
 dsimp only at a;rw[ae6 q d]at a;unfold zO;rw[aaE];simp only[T9,c,mapOf];rw[if_pos ⟨trivial,Zm _⟩,h1];dsimp only;rw[a]
def aiZ{H:gg}{v:Nat}{q:Nat->Nat}{G:kL}{r:gj}(c:H[v]? = bb (.map KS (jo q 0 G)))(b:pa r G=eh) :
  zO KS .gp (.gM v) (.agg [.i r.1,.i r.2]) H=bb (.tup [.gp,.i G.l],.obj v (.map KS (jo q 0 G ++ [(ma r,.gp)]))):=by
 have h1:=Ud q r G 0 0;rw[b]at h1;simp only[Option.map_none]at h1;have a:=Ug q r .gp G 0;rw[b]at a;dsimp only at a;unfold zO;rw[aaE];simp only[T9,c,mapOf];rw[if_pos ⟨trivial,Zm _⟩,h1];dsimp only;rw[a,Cr]
def Xr{H:gg}{v t:Nat}{es:List (Value×D)}{k:Value}{d0 d:D}(a:H[v]? = bb (.map KS es))(b:es[t]? = bb (k,d0)) :
  Cn (.gM v) (.i t) d H=bb (.any,.obj v (.map KS (es.set t (k,d)))):=by
 unfold Cn;simp only[T9,a,mapOf,di,b];rw[if_pos U]
def xP{n m:Nat}(h:n<=m){d:D}(a:oC n d=true):oC m d=true:=by cases d<;>first|exact a|(simp only[oC,decide_eq_true_eq]at a ⊢;omega)
def G9{n m:Nat}(h:n<=m){cs:List D}(b:cs.all (oC n)=true):cs.all (oC m)=true:=
 aE.2 λd a=>xP h (aE.1 b d a)
def Gf{n m:Nat}(h:n<=m){d:D}(c:jW n d=true):jW m d=true:=by
 cases d with
 | agg cs=>exact G9 h c
 | tup cs=>exact G9 h c
 | gH cs=>exact G9 h c
 | fn f a b=>
  simp only[jW,ai]at c ⊢;exact⟨G9 h c.1,G9 h c.2⟩
 | any=>exact xP (n:=n) (d:=.any) h c
 | val v=>exact xP (n:=n) (d:=.val v) h c
 | sl sz es=>exact xP (n:=n) (d:=.sl sz es) h c
 | gh v g sz off len=>exact xP (n:=n) (d:=.gh v g sz off len) h c
 | gp=>exact xP (n:=n) (d:=.gp) h c
 | ptr v g off=>exact xP (n:=n) (d:=.ptr v g off) h c
 | gM v=>exact xP (n:=n) (d:=.gM v) h c
 | jt v=>exact xP (n:=n) (d:=.jt v) h c
 | mM vs=>exact xP (n:=n) (d:=.mM vs) h c
def abC{n m:Nat}(h:n<=m){o:Ob}(a:oO n o=true):oO m o=true:=by
 cases o with
 | row t g cs=>exact aE.2 λd b=>Gf h (aE.1 a d b)
 | map kk es=>exact aE.2 λd b=>Gf h (aE.1 a d b)
 | iE rf env st=>exact aE.2 λd b=>Gf h (aE.1 a d b)
 | ua=>rfl
 | jG m since seen=>exact xP h a
 | ka=>rfl
 | dead=>rfl
 | mF=>cases a
def yE{n m:Nat}{H:gg}(h:n<=m)(b:jM n H):jM m H:=λo a=>abC h (b o a)
def vC{n:Nat}{H G:gg}(h:jM n H)(b:jM n G):jM n (H++G):=λo a=>by
 rcases aj.1 a with a|a
 .exact h o a
 .exact b o a
def oset(ow:Nat->Nat×Nat×Nat)(v:Nat)(a:Nat×Nat×Nat):Nat->Nat×Nat×Nat:=λw=>if w=v then a else ow w
def abR(ow:Nat->Nat×Nat×Nat)(v:Nat)(a:Nat×Nat×Nat):oset ow v a v=a:=if_pos rfl
def DB{ow:Nat->Nat×Nat×Nat}{v w:Nat}{a:Nat×Nat×Nat}(h:w≠v):oset ow v a w=ow w:=if_neg h
def jQ{H:gg}{v:Nat}{o:Ob}(h:H[v]? = bb o):v<H.l:=(ae.1 h).1
def iH{H G:gg}{v:Nat}{o:Ob}(h:H[v]? = bb o):(H++G)[v]? = bb o:=by rw[ah (jQ h)];exact h
def na.own{H:gg}{ck sr n:Nat}{M:Nat->kL}{ow:Nat->Nat×Nat×Nat}{P:Nat->Nat}{Q:Nat->Nat->Nat}(h:na H ck sr n M ow P Q){v:Nat}(g:H.l<=v)(f:ck<v)(a:Nat×Nat×Nat):na H ck sr n M (oset ow v a) P Q:=by
 have ne:∀ {w o},H[w]? = bb o->w≠v:=λe=>by have:=jQ e;omega
 refine⟨?_,?_,h.row,λj b=>?_,λj b t x d=>?_⟩
 .rw[DB U];exact h.fc
 .rw[DB (ne h.row)];exact h.fs
 .obtain⟨h1,c⟩:=h.mp j b;exact⟨h1,by rw[DB (ne h1)];exact c⟩
 .obtain⟨h1,c⟩:=h.ls j b t x d;exact⟨h1,by rw[DB (ne h1)];exact c⟩
def adj(Hc:gg)(ow:Nat->Nat×Nat×Nat)(bad:List Int)(d:D):Prop:=
 (bad = []/\d = .gp)\/(bad≠[]/\∃v g,d = .gh v g 1 0 bad.l/\Hc[v]? = bb (.row 3 g (cl f1 bad))/\ow v=(4,0,0))
structure HI(H0 Hc:gg)(ck sr n:Nat)(C:Ob)(M:Nat->kL)(bad:List Int)(d:D)(b:Option (Nat×Ob))(ow:Nat->Nat×Nat×Nat)(P:Nat->Nat)(Q:Nat->Nat->Nat):Prop where
 sg:na Hc ck sr n M ow P Q
 ct:Hc[ck]? = bb C
 ok:jM Hc.l Hc
 lt:ck<H0.l
 kp:∀v o,H0[v]? = bb o->v≠ck->Hc[v]? = bb o/\ow v=(5,0,0)
 bd:adj Hc ow bad d
 bx:∀p,b=bb p->Hc[p.1]? = bb p.2/\ow p.1=(6,0,0)
section
variable{H0 Hc:gg}{ck sr n:Nat}{C:Ob}{M:Nat->kL}{bad:List Int}{d:D}{b:Option (Nat×Ob)}{ow:Nat->Nat×Nat×Nat}{P:Nat->Nat}{Q:Nat->Nat->Nat}
theorem HI.more(h:HI H0 Hc ck sr n C M bad d b ow P Q){o:Ob}(l:oO (Hc.l+1) o=true)(a:Nat×Nat×Nat):HI H0 (Hc ++ [o]) ck sr n C M bad d b (oset ow Hc.l a) P Q:=by
 have ne:∀ {w o},Hc[w]? = bb o->w≠Hc.l:=λj=>by have:=jQ j;omega
 refine⟨(h.sg.own (Nat.le_refl _) (jQ h.ct) a).mono λv o e _=>iH e,iH h.ct,?_,h.lt,λv o e m=>?_,?_,λp k=>?_⟩
 .rw[ar,bn];refine vC (yE U h.ok) λx i=>?_;rw[cj.1 i];exact l
 .obtain⟨h1,c⟩:=h.kp v o e m;exact⟨iH h1,by rw[DB (ne h1)];exact c⟩
 .rcases h.bd with h1|⟨h1,v,g,c,f,q⟩
  .exact .inl h1
  .exact .inr ⟨h1,v,g,c,iH f,by rw[DB (ne f)];exact q⟩
 .obtain⟨h1,c⟩:=h.bx p k;exact⟨iH h1,by rw[DB (ne h1)];exact c⟩
theorem HI.box(h:HI H0 Hc ck sr n C M bad d b ow P Q){o:Ob}(c:oO (Hc.l+1) o=true):HI H0 (Hc ++ [o]) ck sr n C M bad d (bb (Hc.l,o)) (oset ow Hc.l (6,0,0)) P Q:=by
 have h1:=h.more c (6,0,0)
 exact⟨h1.sg,h1.ct,h1.ok,h1.lt,h1.kp,h1.bd,λp a=>by
  cases a
  exact⟨by rw[ak U,b7];rfl,abR _ _ _⟩⟩
theorem HI.nob(h:HI H0 Hc ck sr n C M bad d b ow P Q):HI H0 Hc ck sr n C M bad d eh ow P Q:=⟨h.sg,h.ct,h.ok,h.lt,h.kp,h.bd,λ_ a=>by cases a⟩
theorem HI.Wg(h:HI H0 Hc ck sr n C M [] .gp b ow P Q)(k:Int):∃a,HI H0 (Hc ++ [sU [k]]) ck sr n C M [k] (.gh Hc.l 0 1 0 1) b a P Q:=by have h1:=h.more (o:=sU [k]) (by unfold sU;exact BD _) (4,0,0);exact⟨_,h1.sg,h1.ct,h1.ok,h1.lt,h1.kp,.inr ⟨gf,_,_,rfl,by rw[ak U,b7];rfl,abR _ _ _⟩,h1.bx⟩
theorem HI.Wh{v g:Nat}{k:Int}(h:HI H0 Hc ck sr n C M bad (.gh v g 1 0 bad.l) b ow P Q)(r:bad≠[])(f:Hc[v]? = bb (.row 3 g (cl f1 bad)))(l:ow v=(4,0,0)) :
  HI H0 (Hc.set v (.row 3 (g+1) (cl f1 (bad ++ [k])))) ck sr n C M (bad ++ [k]) (.gh v (g+1) 1 0 (bad.l+1)) b ow P Q:=by
 have hl:=jQ f;have key:∀w o,Hc[w]? = bb o->ow w≠(4,0,0)->(Hc.set v (.row 3 (g+1) (cl f1 (bad ++ [k]))))[w]? = bb o:=λw o d q=>jZ;refine⟨?_,key _ _ h.ct (by rw[h.sg.fc];simp),?_,h.lt,λw o d m=>?_,.inr ⟨gf,v,g+1,gf,by rw[aQ hl],l⟩,λp i=>?_⟩
 .refine⟨h.sg.fc,h.sg.fs,key _ _ h.sg.row (by rw[h.sg.fs];simp),λj c=>?_,λj c t x e=>?_⟩
  .obtain⟨h1,a⟩:=h.sg.mp j c;exact⟨key _ _ h1 (by rw[a];simp),a⟩
  .obtain⟨h1,a⟩:=h.sg.ls j c t x e;exact⟨key _ _ h1 (by rw[a];simp),a⟩
 .rw[az];exact rE h.ok (BD _)
 .obtain⟨h1,a⟩:=h.kp w o d m;exact⟨key _ _ h1 (by rw[a];simp),a⟩
 .obtain⟨h1,a⟩:=h.bx p i;exact⟨key _ _ h1 (by rw[a];simp),a⟩
theorem HI.rest{f:gg}{k:Nat->kL}{j:Nat->Nat×Nat×Nat}{Q':Nat->Nat->Nat}(h:HI H0 Hc ck sr n C M bad d b ow P Q)(hs:na f ck sr n k j P Q')(gu:jM f.l f)
  (i:∀v o,Hc[v]? = bb o->ow v=(0,0,0)\/ow v=(4,0,0)\/ow v=(5,0,0)\/ow v=(6,0,0)->f[v]? = bb o/\j v=ow v):HI H0 f ck sr n C k bad d b j P Q':=by
 refine⟨hs,(i _ _ h.ct (.inl h.sg.fc)).1,gu,h.lt,λw o l q=>?_,?_,λp m=>?_⟩
 .obtain⟨h1,a⟩:=h.kp w o l q;obtain⟨e,c⟩:=i _ _ h1 (.inr (.inr (.inl a)));exact⟨e,c.trans a⟩
 .rcases h.bd with h1|⟨h1,v,g,a,e,c⟩
  .exact .inl h1
  .obtain⟨s,r⟩:=i _ _ e (.inr (.inl c));exact .inr ⟨h1,v,g,a,s,r.trans c⟩
 .obtain⟨h1,a⟩:=h.bx p m;obtain⟨e,c⟩:=i _ _ h1 (.inr (.inr (.inr a)));exact⟨e,c.trans a⟩
theorem HI.old(h:HI H0 Hc ck sr n C M bad d b ow P Q){j t:Nat}{r:gj}{x:List Int}{k:Int}(f:j<n)(i:pa r (M j)=bb (t,x)) :
  HI H0 ((Hc.set (Q j t) (sU (x ++ [k]))).set (P j) (.map KS ((jo (Q j) 0 (M j)).set t (ma r,oI (Q j t) (x ++ [k]))))) ck sr n C (xR M j (o9 r k (M j))) bad d b ow P Q:=by
 obtain⟨q,_⟩:=AT (k:=k) i;obtain⟨m,g⟩:=h.sg.mp j f;obtain⟨q1,q2⟩:=h.sg.ls j f t _ q;have u:P j≠Q j t:=λe=>by rw[e,q2]at g;simp at g
 have key:∀v o,Hc[v]? = bb o->v≠P j->v≠Q j t->((Hc.set (Q j t) (sU (x ++ [k]))).set (P j) (.map KS ((jo (Q j) 0 (M j)).set t (ma r,oI (Q j t) (x ++ [k])))))[v]? = bb o:=λv o a h1 l=>jZ;refine h.rest (h.sg.old f i ?_ ?_ λv o a h1 l _=>key v o a h1 l) ?_ λv o a s=>⟨key v o a (λe=>?_) (λe=>?_),rfl⟩
 .grind
 .grind
 .rw[az,az];refine rE (rE h.ok (by unfold sU;exact BD _)) ?_;have p:=h.ok _ (b4 m);refine aE.2 λy c=>?_;rcases dT c with c|rfl
  .exact aE.1 p y c
  .show decide (Q j t<Hc.l)=true;exact decide_eq_true (jQ q1)
 .grind
 .grind
theorem HI.new(h:HI H0 Hc ck sr n C M bad d b ow P Q){j:Nat}{r:gj}{k:Int}(l:j<n)(p:pa r (M j)=eh) :
  ∃c Q',HI H0 ((Hc.set (P j) (.map KS (jo (Q j) 0 (M j) ++ [(ma r,oI Hc.l [k])]))) ++ [sU [k]]) ck sr n C (xR M j (o9 r k (M j))) bad d b c P Q'/\∀w,w<Hc.l->c w=ow w:=by
 obtain⟨g,s⟩:=h.sg.mp j l;have key:∀v o,Hc[v]? = bb o->v≠P j->((Hc.set (P j) (.map KS (jo (Q j) 0 (M j) ++ [(ma r,oI Hc.l [k])]))) ++ [sU [k]])[v]? = bb o:=λv o i h1=>jZ
 obtain⟨c,Q',hs,f⟩:=h.sg.new (H':=(Hc.set (P j) (.map KS (jo (Q j) 0 (M j) ++ [(ma r,oI Hc.l [k])]))) ++ [sU [k]]) (v:=Hc.l) (k:=k) l p (jQ h.ct) (Nat.le_refl _)
  (by rw[ah (by rw[az];exact jQ g),aQ (jQ g)]) (by rw[ak (by rw[az];omega),az,b7];rfl) λw o f h1 _=>key w o f h1
 refine⟨c,Q',h.rest hs ?_ λv o i t=>⟨key v o i λe=>?_,f v (by have:=jQ i;omega)⟩,λw hl=>f w U⟩
 .rw[ar,az,bn];refine vC (rE (yE U h.ok) ?_) λx m=>?_
  .have q:=h.ok _ (b4 g);refine aE.2 λy a=>?_;rcases aj.1 a with a|a
   .exact Gf U (aE.1 q y a)
   .rw[cj.1 a];show decide (Hc.l<Hc.l+1)=true;exact decide_eq_true U
  .rw[cj.1 m];unfold sU;exact BD _
 .grind
end
def qu(b n k:Nat):List D:=(dr n).map λj=>if j<k then D.gM (b+(j+1))else .val (.map eh)
def apa(b n:Nat):qu b n 0=cp n (.val (.map eh)):=by unfold qu;refine bj gf λi h1 a=>gf
def acs(b n k:Nat):(qu b n k).l=n:=by simp[qu]
def apb(b n:Nat):qu b n n=(dr n).map λj=>D.gM (b+(j+1)):=by unfold qu;refine aw λj a=>?_;rw[br]at a;rw[if_pos a]
def apc{b n k:Nat}(h:k<n):(qu b n k).take k ++ .gM (b+(k+1))::(qu b n k).drop (k+1)=qu b n (k+1):=by
 refine bY λi=>?_;have hl:((qu b n k).take k).l=k:=by rw[aG,acs];omega
 by_cases h1:i<k
 .rw[ah U,List.getElem?_take_of_lt h1];unfold qu;rw[ax,ax,bW U];simp only[aK];rw[if_pos h1,if_pos U]
 .rw[ak U,hl]
  by_cases a:i=k
  .subst a;rw[b7,fG];unfold qu;rw[ax,bW h];simp only[aK];rw[if_pos U]
  .rw[(U:i-k=(i-k-1)+1),dy,aM,(U:k+1+(i-k-1)=i)];unfold qu;rw[ax,ax]
   by_cases c:i<n
   .grind
   .grind
def HI.start{H:gg}{ck n:Nat}{o C:Ob}(gu:jM H.l H)(e:H[ck]? = bb o)(h:oO (H.l+1) C=true) :
  ∃ow P Q,HI H (H.set ck C++(.row 170 0 (qu H.l n n)::cp n (.map KS []))) ck H.l n C (λ_=>[]) [] .gp eh ow P Q:=by
 have hl:=jQ e;have f:∀j,j<n->(H.set ck C++(.row 170 0 (qu H.l n n)::cp n (.map KS [])))[H.l+(j+1)]? = bb (.map KS []):=λj a=>jZ;refine⟨λv=>if v=ck then(0,0,0)else if v<H.l then(5,0,0)else if v=H.l then(1,0,0)else(2,v-H.l-1,0),λj=>H.l+(j+1),λ_ _=>0,⟨?_,?_,?_,λj a=>?_,λj a t x b=>?_⟩,?_,?_,hl,λv x i k=>⟨?_,?_⟩,.inl ⟨rfl,rfl⟩,λp g=>by cases g⟩
 .grind
 .grind
 .rw[ak (by rw[az];omega),az,b7,fG,apb]
 .refine⟨f j a,?_⟩;rw[if_neg U,if_neg U,if_neg U];congr 2;omega
 .cases b
 .grind
 .rw[ar,az,aL,dK];refine vC (rE (yE U gu) (abC U h)) λx b=>?_;rcases ay.1 b with rfl|b
  .refine aE.2 λd c=>?_;unfold qu at c;obtain⟨j,a,rfl⟩:=au.1 c;rw[br]at a;rw[if_pos a];exact decide_eq_true U
  .simp_all
 .grind
 .grind
set_option maxRecDepth 10000
set_option maxHeartbeats 16000000
attribute [-simp] uU
def kO(g:gv)(l:List Pos)(nx:List (List Int))(dcl sd:D):List D:=g.cells ++ [gT l,.sl 1 (nx.map fN),dcl,sd]
def tZ{H:gg}{v:Nat}{o:Ob}(h:H[v]? = bb o):H.set v o=H:=by obtain⟨h1,a⟩:=ae.1 h;rw[<-a,eJ]
def agX{p:gR->Bool}{s:gR->gj}{cl:List gR}{n t:Nat}{r:gj}{x:List Int}(h:pa r (qh p s cl n)=bb (t,x)):x.l<=n:=by obtain⟨h1,_⟩:=AT (k:=0) h;rw[(R3 (b4 h1)).1];exact zQ _ _ ((Dp _ _ _).imp λh e=>U) λk a=>(Bq.1 a).1
def agY{p:gR->Bool}{s:gR->gj}{cl:List gR}{n t:Nat}{r:gj}{x:List Int}(h:pa r (qh p s cl n)=bb (t,x)):x≠[]:=by obtain⟨h1,_⟩:=AT (k:=0) h;exact(R3 (b4 h1)).2
def R6{L:List Cw}{k:Int}(k0:0<=k)(a:k<L.l):gt (cs L) k=(gt L k).c:=by unfold cs;rw[iV k0 (by rw[dx];exact a),iV k0 a,List.getElem_map]
def BC{n t g:Nat}{cs:List D}(h:gN cs=true):oO n (.row t g cs)=true:=aE.2 λd a=>DS (mL h d a)
def CV(H:gg)(ck:Nat)(L:List Cw)(dcl:D):Prop:=
 dcl = .sl 36 (L.map gK)\/(L = []/\dcl = .gp)\/∃v g,v≠ck/\dcl = .gh v g 36 0 L.l/\H[v]? = bb (.row 72 g (cl gK L))
def CV.len{H:gg}{ck:Nat}{L:List Cw}{dcl:D}(h:CV H ck L dcl)(H':gg):oa .slice dcl H'=bb (.i L.l):=by
 rcases h with rfl|⟨rfl,rfl⟩|⟨v,g,_,rfl,_⟩
 .simp
 .rfl
 .simp
def CV.ix{H:gg}{ck:Nat}{L:List Cw}{dcl:D}(h:CV H ck L dcl){k:Int}(k0:0<=k)(a:k<L.l) :
  ∃p,ni 36 dcl (.i k)=bb p/\∀H':gg,(∀(v:Nat) (o:Ob),H[v]? = bb o->v≠ck->H'[v]? = bb o)->xH 36 p H'=bb (.agg ((gK (gt L k)).take 36)):=by
 have b:(gK (gt L k)).l=36:=Fl.len _;rcases h with rfl|⟨rfl,rfl⟩|⟨v,g,hc,rfl,hv⟩
 .refine⟨.gH (gK (gt L k)),?_,λH' _=>?_⟩
  .unfold ni;dsimp only;rw[if_pos ⟨rfl,k0,by rw[dx];exact a⟩,iV k0 a];simp[List.getD,List.getElem?_eq_getElem (U:k.n<L.l)]
  .simp[b]
 .grind
 .simp_all
def CV.app{H:gg}{ck:Nat}{L:List Cw}{dcl:D}(h:CV H ck L dcl)(G:gg):CV (H++G) ck L dcl:=by
 rcases h with h|h|⟨v,g,b,e,a⟩
 .exact .inl h
 .exact .inr (.inl h)
 .exact .inr (.inr ⟨v,g,b,e,iH a⟩)
def afJ{H:gg}{ck:Nat}{g:gv}{l:List Pos}{nx:List (List Int)}{L:List Cw}{old dcl:D}(hd:CV H ck L dcl)(gu:jM H.l H)(G:H[ck]? = bb (.row 168 0 (kO g l nx dcl old)))(hL:∀x∈L,x.ok)(h8:L.l<=100000)(h9:l.l<=1000)(h0:0<l.l) :
  Wf T 116 [.ptr ck 0 0] H (λd H'=>∃ow P Q,HI H H' ck H.l l.l (.row 168 0 (kO g l nx dcl (.gh H.l 0 1 0 l.l))) (hM (iT l.l) (cs L) L.l) (jw (λc => !iT l.l c) (cs L) L.l) d eh ow P Q):=by
 have tM:=jQ G;have wm:=hd.len;have jB:jW (H.l+1) dcl=true:=Gf U (aE.1 (gu _ (b4 G)) dcl (by unfold kO;simp));have hG:GH H ck:=⟨tM,gu⟩;have oW:∀R o,(H++R).set ck o=H.set ck o++R:=λR o=>aT _ _ tM;have vb:∀R:gg,(H++R)[ck]? = bb (.row 168 0 (kO g l nx dcl old)):=λR=>iH G;have hz:=apa H.l l.l;obtain⟨C,hC⟩:∃C,Ob.row 168 0 (kO g l nx dcl (.gh H.l 0 1 0 l.l))=C:=⟨_,rfl⟩
 have e6:oO (H.l+1) C=true:=by rw[<-hC];unfold kO;simp[jB]
 have gD:=HI.start (n:=l.l) gu G e6;rw[hC];have Ij:C = .row 168 0 (g.cells ++ [gT l,.sl 1 (nx.map fN),dcl,.gh H.l 0 1 0 l.l]):=hC.symm;have AY:∀sd,(Ob.row 168 0 [.i g.size,.sl 1 (g.next.map fI),dI g.jS,.sl 3 (g.kinds.map Kind.cells),.i g.gX,.b g.pI,dN 4 Clause.cells g.clauses,.i g.blocked,.i g.w7,gT l,.sl 1 (nx.map fN),dcl,sd]) = .row 168 0 (kO g l nx dcl sd):=λsd=>by unfold kO;simp
 have X:∀(o:Ob) (R:gg),(H.set ck o++R)[ck]? = bb o:=λo R=>hG.iH;have SM:∀(o:Ob) (R:gg),(H.set ck o++R)[H.l]? = R[0]? := λo R=>hG.agV;have qq:∀(o o':Ob) (R:gg),(H.set ck o++R).set H.l o'=H.set ck o++R.set 0 o':=λo o' R=>hG.apt;refine Yg KV ?_;simp[KV,G,vb,oW,kO,<-hz,X];(with_reducible repeat' first|refine Xk ?_<;>try simp[G,vb,oW,kO,<-hz,X]|refine Xs ?_ ?_<;>intro h<;>(try intro h')<;>(try simp[h,G,vb,oW,kO,<-hz,X])<;>try omega|refine Xg ?_|omega);refine gx.s (by simp[vb,oW,kO];rfl) ?_;rw[AY,hC];refine gx.e (0:Int) (λy=>[(0,.ptr ck 0 0),(3,.gp),(23,.i l.l),(24,.i y)]) (λy=>H.set ck C++(.row 170 0 (qu H.l l.l y.n)::cp y.n (.map KS []))) (λy=>0<=y/\y<=l.l) (λy=>(l.l-y).n) ?_ ?_
 .simp
 rintro y ⟨y0,y1⟩;dsimp only at y0 y1 ⊢
 by_cases hy:y<l.l
 .have uE:=apc (b:=H.l) (n:=l.l) (k:=y.n) U;have iP:=acs H.l l.l y.n;simp[hy,X,SM,qq,Ij,iP];refine kG (bs hy X) (bs SM qq) (bs Ij iP) ?_;have e':pt (qu H.l l.l y.n) y (.gM (H.l+(y.n+1)))=qu H.l l.l (y.n+1):=oh;refine LJ.i (y+1) gf ?_ rfl rfl mw;rw[e',AY,hC,(U:(y+1).n=y.n+1),eO];rfl
 have zF:y=l.l:=U;subst zF;obtain⟨ow,P,Q,a⟩:=gD;rw[di];obtain⟨H1,CM⟩:∃H1,H.set ck C++(.row 170 0 (qu H.l l.l l.l)::cp l.l (.map KS []))=H1:=⟨_,rfl⟩;rw[CM]at a ⊢;have u:=a.ct;rw[Ij]at u;clear CM X SM qq hy y0 y1;simp[u,wm];refine jT u wm ?_;refine gx.e ((H1,0,[],.gp):gg×Int×List Int×D) (λy=>[(0,.ptr ck 0 0),(3,y.2.2.2),(38,dcl),(39,.i L.l),(40,.i y.2.1)]) (λy=>y.1) (λy=>(0<=y.2.1/\y.2.1<=L.l)/\y.2.2.1=jw (λc => !iT l.l c) (cs L) y.2.1.n/\y.2.2.1.l<=y.2.1.n/\∃ow P Q,HI H y.1 ck H.l l.l C (hM (iT l.l) (cs L) y.2.1.n) y.2.2.1 y.2.2.2 eh ow P Q) (λy=>(L.l-y.2.1).n) ?_ ?_
 .exact⟨gf,rfl,gf,ow,P,Q,a⟩
 clear a u;rintro⟨Hc,k,bad,Rr⟩ ⟨⟨k0,k1⟩,CU,mD,ow,P,Q,a⟩;dsimp only at k0 k1 CU mD a ⊢
 by_cases S:k<L.l
 .obtain⟨pp,tT,pC⟩:=hd.ix k0 S;have pC:=pC Hc λv o hv hc=>(a.kp v o hv hc).1;have J:=hL _ (gF k0 S);have c1:=afq (gt L k) J;have w:=TO (p:=λc => !iT l.l c) k0 S;rw[<-CU]at w;have pz:=AN J;rw[<-pz]at c1;have A:(gK (gt L k)).l=36:=Fl.len _;have V:gN (gK (gt L k))=true:=Fl.cl _;have z:(gK (gt L k)).take 36=gK (gt L k):=af U;have u:=a.ct;rw[Ij]at u;have B:∀R:gg,(Hc++R)[ck]? = bb (.row 168 0 (g.cells ++ [gT l,.sl 1 (nx.map fN),dcl,.gh H.l 0 1 0 l.l])):=λR=>iH u;obtain⟨p,hp⟩:∃p,snd (gt L k).c=p:=⟨_,rfl⟩;rw[hp]at c1;simp[S,tT,pC];refine o5 A z tT pC ?_;simp[A,z];refine ji.c rfl rfl c1 (by simp[V]) gf ?_;have q:iT l.l (gt L k).c=(p&&decide ((gt L k).c.hi<=l.l)):=by unfold iT;rw[hp]
  have F:gK (gt L k)=D.i (gt L k).c.who::D.i (gt L k).c.lo::D.i (gt L k).c.hi::dE (gt L k).em (gt L k).c.es::cl fU (gt L k).c.root:=by rw[pz];unfold Cw.cells;rfl
  have SY:(k.n:Int)=k:=U
  have ON:iT l.l (gt L k).c=false->hM (iT l.l) (cs L) (k+1).n=hM (iT l.l) (cs L) k.n:=λh=>by rw[(U:(k+1).n=k.n+1)];refine aha ?_;rw[SY,R6 k0 S];exact h
  cases p
  .rw[Bool.false_and]at q;simp only[q,Bool.not_false,if_true]at w;have hX:(gK (gt L k)).take 36++(D.i 0::D.i 0::D.i 0::D.gp::AL.cl fU (zs 32)).drop (min 36 (gK (gt L k)).l)=gK (gt L k):=oh;simp[A,z];refine jT A z ?_;rcases a.bd with⟨rfl,rfl⟩|⟨zk,v,gn,rfl,E,xk⟩
   .simp;refine gi ?_;refine LJ.i (_,k+1,[k],.gh (Hc.l+2) 0 1 0 1) gf rfl rfl rfl ?_;refine⟨gI,gU,w.symm,gO,?_⟩;dsimp only;rw[ON q,hX];have m:=(a.more (o:=.row 72 0 (gK (gt L k))) (BC V) (7,0,0)).more (o:=.row 3 0 [.i k]) rfl (7,0,0);obtain⟨p6,Y⟩:=m.Wg k;exact⟨p6,P,Q,by simpa[sU,iY]using Y⟩
   .have xl:∀R:gg,(Hc++R)[v]? = bb (.row 3 gn (AL.cl f1 bad)):=λR=>iH E;have Iy:∀(R:gg) (o:Ob),(Hc++R).set v o=Hc.set v o++R:=λR o=>aT _ _ (jQ E);simp[xl,Iy];refine jT xl Iy ?_;refine LJ.i (_,k+1,bad ++ [k],.gh v (gn+1) 1 0 (bad.l+1)) gf rfl rfl rfl ?_;refine⟨gI,gU,w.symm,gO,?_⟩;dsimp only;rw[ON q,hX];have m:=((a.Wh (k:=k) zk E xk).more (o:=.row 72 0 (gK (gt L k))) (BC V) (7,0,0)).more (o:=.row 3 0 [.i k]) rfl (7,0,0);exact⟨_,P,Q,by simpa using m⟩
  .rw[dz]at q
   by_cases Fj:(gt L k).c.hi<=l.l
   .rw[decide_eq_true Fj]at q;simp only[q,Bool.not_true,bG,if_false]at w;have IB:¬(l.l:Int)<(gt L k).c.hi:=U;have zD:=JY hp;have hX:(gK (gt L k)).take 36++(D.i 0::D.i 0::D.i 0::D.gp::AL.cl fU (zs 32)).drop (min 36 (gK (gt L k)).l)=gK (gt L k):=oh;have pU:=Rp J.em
    have Zk:(gt L k).c.root.take 32++(zs 32).drop (min 32 (gt L k).c.root.l)=(gt L k).c.root:=by rw[J.root,af (by rw[J.root];omega)];simp
    simp[A,z,hX,F,B,IB];refine o5 (bs A z) (bs hX F) (bs B IB) pU ?_;simp[pU,Zk];refine gx.s (by simp[Zk,<-F];rfl) ?_;rw[hX];have hB:=a.box (o:=.row 72 0 (gK (gt L k))) (BC V);have n':(gt L k).c.hi=(gt L k).c.lo+(gt L k).c.es.l:=U;have W:gt (cs L) (k.n:Int)=(gt L k).c:=by rw[SY,R6 k0 S]
    refine gx.e ((Hc ++ [.row 72 0 (gK (gt L k))],0):gg×Int) (λy=>[(0,.ptr ck 0 0),(3,Rr),(5,.i k),(6,.ptr Hc.l 0 0),(38,dcl),(39,.i L.l),(40,.i k),(63,dE (gt L k).em (gt L k).c.es),(64,.i (gt L k).c.es.l),(65,.i y.2)]) (λy=>y.1) (λy=>(0<=y.2/\y.2<=(gt L k).c.es.l)/\∃ow P Q,HI H y.1 ck H.l l.l C (hP (iT l.l) (cs L) k.n y.2.n) bad Rr (bb (Hc.l,.row 72 0 (gK (gt L k)))) ow P Q) (λy=>((gt L k).c.es.l-y.2).n) ?_ ?_
    .exact⟨gf,_,P,Q,by rw[show(((Hc ++ [Ob.row 72 0 (gK (gt L k))],0):gg×Int).2).n=0 from rfl,ahd];exact hB⟩
    clear a hB u B;rintro⟨f,e⟩ ⟨⟨e0,e1⟩,ow,P,Q,a⟩;dsimp only at e0 e1 a ⊢
    by_cases K:e<(gt L k).c.es.l
    .have u9:(gt L k).em=false:=by
      cases h:(gt L k).em with
      | false=>rfl
      | true=>rw[J.em h]at K;simp at K;omega
     have e3:dE (gt L k).em (gt L k).c.es=iu (gt L k).c.es:=by rw[u9];rfl
     have u:=a.ct;rw[Ij]at u;have B:∀R:gg,(f++R)[ck]? = bb (.row 168 0 (g.cells ++ [gT l,.sl 1 (nx.map fN),dcl,.gh H.l 0 1 0 l.l])):=λR=>iH u;have Zo:∀R:gg,(f++R)[Hc.l]? = bb (.row 72 0 (gK (gt L k))):=λR=>iH (a.bx _ rfl).1;have tU:∀R:gg,(f++R)[H.l]? = bb (.row 170 0 ((dr l.l).map λj=>D.gM (P j))):=λR=>iH a.sg.row;obtain⟨r,hr⟩:∃r,gt (gt L k).c.es e=r:=⟨_,rfl⟩;obtain⟨j,hj⟩:∃j:Nat,(gt L k).c.lo+e=j:=⟨((gt L k).c.lo+e).n,U⟩;have O:j<l.l:=U;have mU:=J.lo;rw[e3];simp[K,hr];refine jT K hr ?_;simp[B,Zo,tU,F,hj,O];refine kG (bs B Zo) (bs tU F) (bs hj O) ?_;have tP:(gt (cs L) (k.n:Int)).lo.n+e.n=j:=by rw[W];omega
     have gD:hP (iT l.l) (cs L) k.n (e+1).n=xR (hP (iT l.l) (cs L) k.n e.n) j (o9 r k (hP (iT l.l) (cs L) k.n e.n j)):=by have:=ahc (ad:=iT l.l) (cl:=cs L) (k:=k.n) (e:=e.n) (by rw[W];exact zD.1);rw[tP,W,(U:(e.n:Int)=e),hr,SY]at this;rw[(U:(e+1).n=e.n+1)];exact this
     have Ip:hP (iT l.l) (cs L) k.n e.n j=hM (iT l.l) (cs L) k.n j:=by have:=Zd (ad:=iT l.l) (cl:=cs L) (k:=k.n) (e:=e.n) (by rw[W];exact zD.1);rw[tP]at this;exact this
     have ig:∀t x,pa r (hP (iT l.l) (cs L) k.n e.n j)=bb (t,x)->x≠[]/\x.l<=k.n:=λt x h=>by rw[Ip]at h;exact⟨agY h,agX h⟩
     obtain⟨s,Za⟩:∃s,hP (iT l.l) (cs L) k.n e.n=s:=⟨_,rfl⟩;rw[Za]at a gD ig;clear Za Ip tP;obtain⟨p1,p2⟩:=a.sg.mp j O;have I:=jQ p1;have hS:∀(R:gg) (o:Ob),(f++R).set (P j) o=f.set (P j) o++R:=λR o=>aT _ _ I
     cases hg:pa r (s j)with
     | none=>
      have N:∀R,zO (.ints [.i64,.i64]) .gp (.gM (P j)) (.agg [.i r.1,.i r.2]) (f++R)=bb (.tup [.gp,.i (s j).l],.obj (P j) (.map KS (jo (Q j) 0 (s j) ++ [(ma r,.gp)]))):=λR=>aiZ (iH p1) hg;have hN:∀(o:Ob) (R:gg) (i:Nat),(f.set (P j) o++R)[f.l+i]? = R[i]? := λo R i=>jZ
      have M:∀(d:D) (R:gg),Cn (.gM (P j)) (.i (s j).l) d (f.set (P j) (.map KS (jo (Q j) 0 (s j) ++ [(ma r,.gp)]))++R)=bb (.any,.obj (P j) (.map KS (jo (Q j) 0 (s j) ++ [(ma r,d)]))):=λd R=>by rw[Xr (es:=jo (Q j) 0 (s j) ++ [(ma r,.gp)]) (k:=ma r) (d0:=.gp) (by rw[ah (by rw[az];exact I),aQ I]) (by rw[ak (by rw[Cr];omega),Cr,b7];rfl)];rw[dF _ _ (by rw[Cr];omega),Cr,b7];rfl
      have Z:∀(R:gg) (o o':Ob),(f.set (P j) o++R).set (P j) o'=f.set (P j) o'++R:=λR o o'=>by rw[aT _ _ (by rw[az];exact I),List.set_set]
      simp[N,hS,hN,M,Z];refine kG (bs N hS) (bs hN M) Z ?_;refine LJ.i (_,e+1) gf rfl rfl rfl ?_;refine⟨gI,gU,?_⟩;dsimp only;rw[gD];have m:=(a.more (o:=.row 86 0 [.i r.1,.i r.2]) rfl (7,0,0)).more (o:=.row 3 0 [.i k]) rfl (7,0,0);obtain⟨p6,Q',Y,_⟩:=m.new (r:=r) (k:=k) O hg;refine⟨p6,P,Q',?_⟩;have K:(f ++ [Ob.row 86 0 [.i r.1,.i r.2]] ++ [Ob.row 3 0 [.i k]]).l=f.l+2:=gf;rw[K,aN,aT _ _ I]at Y;simpa[sU,iY,oI]using Y
     | some tx=>
      obtain⟨t,x⟩:=tx;obtain⟨c7,oz⟩:=ig t x hg;have l7:0<x.l:=ao.2 c7;obtain⟨q1,q2⟩:=a.sg.ls j O t _ (AT (k:=k) hg).1;have Fz:=jQ q1;have Bg:P j≠Q j t:=λe=>by rw[e,q2]at p2;simp at p2
      have yu:∀R:gg,(f++R)[Q j t]? = bb (.row 3 (x.l-1) (AL.cl f1 x)):=λR=>iH q1;have N:∀R,zO (.ints [.i64,.i64]) .gp (.gM (P j)) (.agg [.i r.1,.i r.2]) (f++R)=bb (.tup [oI (Q j t) x,.i t],.obj (P j) (.map KS (jo (Q j) 0 (s j)))):=λR=>ai0 (iH p1) hg;have Bj:f.set (P j) (.map KS (jo (Q j) 0 (s j)))=f:=tZ p1;have hQ:∀(R:gg) (o:Ob),(f++R).set (Q j t) o=f.set (Q j t) o++R:=λR o=>aT _ _ Fz
      have M:∀(d:D) (o:Ob) (R:gg),Cn (.gM (P j)) (.i t) d (f.set (Q j t) o++R)=bb (.any,.obj (P j) (.map KS ((jo (Q j) 0 (s j)).set t (ma r,d)))):=λd o R=>by
       refine Xr (k:=ma r) (d0:=oI (Q j t) x) ?_ ?_
       .rw[ah (by rw[az];exact I),aP (cH Bg)];exact p1
       .rw[w9,(AT (k:=k) hg).1];simp
      have Z:∀(R:gg) (o o':Ob),(f.set (Q j t) o++R).set (P j) o'=(f.set (Q j t) o).set (P j) o'++R:=λR o o'=>aT _ _ (by rw[az];exact I);simp[N,hS,Bj,yu,hQ,M,Z,oI];(with_reducible repeat' first|refine Xk ?_<;>try simp[N,hS,Bj,yu,hQ,M,Z,oI]|refine Xs ?_ ?_<;>intro h<;>(try intro h')<;>(try simp[h,N,hS,Bj,yu,hQ,M,Z,oI])<;>try omega|refine Xg ?_|omega);refine LJ.i (_,e+1) gf rfl rfl rfl ?_;refine⟨gI,gU,?_⟩;dsimp only;rw[gD];have m:=((a.old (r:=r) (k:=k) O hg).more (o:=.row 86 0 [.i r.1,.i r.2]) rfl (7,0,0)).more (o:=.row 3 0 [.i k]) rfl (7,0,0);have l9:(x ++ [k]).l-1=x.l-1+1:=gO;have lD:(x ++ [k]).l=x.l+1:=gf;have:oI (Q j t) (x ++ [k]) = .gh (Q j t) (x.l-1+1) 1 0 (x.l+1):=by unfold oI;rw[l9,lD]
      rw[this]at m;unfold sU at m;rw[l9]at m;rw[aN]at m;exact⟨_,P,Q,m⟩
    have n3:e=(gt L k).c.es.l:=U
    have zp:hP (iT l.l) (cs L) k.n e.n=hM (iT l.l) (cs L) (k+1).n:=by rw[(U:(k+1).n=k.n+1)];exact ahb (by rw[W];exact q) (by rw[W];omega)
    rw[zp]at a;simp[K];refine gi ?_;refine LJ.i (f,k+1,bad,Rr) gf rfl rfl rfl ?_;exact⟨gI,gU,w.symm,gI,ow,P,Q,a.nob⟩
   .rw[decide_eq_false Fj]at q;have IB:(l.l:Int)<(gt L k).c.hi:=U;simp only[q,Bool.not_false,if_true]at w;have hX:(gK (gt L k)).take 36++(D.i 0::D.i 0::D.i 0::D.gp::AL.cl fU (zs 32)).drop (min 36 (gK (gt L k)).l)=gK (gt L k):=oh;simp[A,z,hX,F,B,IB];refine kG (bs A z) (bs hX F) (bs B IB) ?_;rcases a.bd with⟨rfl,rfl⟩|⟨zk,v,gn,rfl,E,xk⟩
    .simp;refine gi ?_;refine LJ.i (_,k+1,[k],.gh (Hc.l+2) 0 1 0 1) gf rfl rfl rfl ?_;refine⟨gI,gU,w.symm,gO,?_⟩;dsimp only;rw[ON q,hX];have m:=(a.more (o:=.row 72 0 (gK (gt L k))) (BC V) (7,0,0)).more (o:=.row 3 0 [.i k]) rfl (7,0,0);obtain⟨p6,Y⟩:=m.Wg k;exact⟨p6,P,Q,by simpa[sU,iY]using Y⟩
    .have xl:∀R:gg,(Hc++R)[v]? = bb (.row 3 gn (AL.cl f1 bad)):=λR=>iH E;have Iy:∀(R:gg) (o:Ob),(Hc++R).set v o=Hc.set v o++R:=λR o=>aT _ _ (jQ E);simp[xl,Iy];refine jT xl Iy ?_;refine LJ.i (_,k+1,bad ++ [k],.gh v (gn+1) 1 0 (bad.l+1)) gf rfl rfl rfl ?_;refine⟨gI,gU,w.symm,gO,?_⟩;dsimp only;rw[ON q,hX];have m:=((a.Wh (k:=k) zk E xk).more (o:=.row 72 0 (gK (gt L k))) (BC V) (7,0,0)).more (o:=.row 3 0 [.i k]) rfl (7,0,0);exact⟨_,P,Q,by simpa using m⟩
 have mE:k=L.l:=U;subst mE;rw[di]at a CU;rw[<-CU];simp;refine gi ?_;exact⟨ow,P,Q,a⟩
end Go.Proofs.YtmehofoficaelaaGreatDoor
namespace Go.Proofs.YtmehofoficaelaaGreatDoor
open Go Go.AL Classical
set_option maxRecDepth 10000
set_option maxHeartbeats 16000000
attribute [-simp] uU
def aeb{l:List gj}{n:Int}(n0:0<=n)(h:n<l.l)(a:Int):(cl fS l).take (n.n*2) ++ .i a::(cl fS l).drop (n.n*2+1)=cl fS (pt l n (a,(gt l n).2)):=by
 have e:(cl fS l).drop (n.n*2+1) = .i (gt l n).2::(cl fS l).drop (n.n*2+2):=by
  have h1:(cl fS l).drop (n.n*2) = .i (gt l n).1 :: .i (gt l n).2::cl fS (l.drop (n.n+1)):=by rw[vX,o7 n0 h,nS,Cv];rfl
  have b:(cl fS l).drop (n.n*2+2)=cl fS (l.drop (n.n+1)):=by rw[(U:n.n*2+2=(n.n+1)*2),vX]
  rw[b,<-cz,h1];rfl
 rw[e];exact HA a _
def Jw{n:Nat}{H G:gg}(h:jM H.l H)(a:n=H.l)(b:jM n G):jM (H++G).l (H++G):=by subst a;rw[ar];exact vC (yE U h) (yE U b)
section
variable{H:gg}{ck sr n:Nat}{M:Nat->kL}{ow:Nat->Nat×Nat×Nat}{P:Nat->Nat}{Q:Nat->Nat->Nat}{cells:List D}
theorem na.app(h:na H ck sr n M ow P Q)(G:gg):na (H++G) ck sr n M ow P Q:=h.mono λ_ _ a _=>iH a
theorem X3(l:na H ck sr n M ow P Q)(gu:jM H.l H)(h:H[ck]? = bb (.row 168 0 cells))(f:cells[12]? = bb (.gh sr 0 1 0 n))
  {cm:List gR} (u:cm.l<=100000) {i:Int} (i0:0<=i) (j:i<n) (hM:M i.n=gY cm i) {t2 t3:Nat} (b:H[t2]? = bb (.row 157 0 [.ptr ck 0 0])) (a:H[t3]? = bb (.row 3 0 [.i i])) (q:gj) :
  Wf T 186 [.agg [.i q.1,.i q.2],.ptr t2 0 0,.ptr t3 0 0] H (λd H'=>d=dN 1 f1 (jw (λc=>ke c i&&decide (jH c i≠q)) cm cm.l)/\H'=H):=by
 have g:∀R:gg,(H++R)[t2]? = bb (.row 157 0 [.ptr ck 0 0]):=λR=>iH b;have e:∀R:gg,(H++R)[t3]? = bb (.row 3 0 [.i i]):=λR=>iH a;refine Yg Le ?_;simp[Le,g,e];refine gE.lU rfl rfl (RG (H:=H ++ [.row 86 0 [.i q.1,.i q.2]]) (l.app _) (Jw gu rfl λo m=>by rw[cj.1 m];rfl) (iH h) f u i0 j hM (w:=λr=>decide (r≠q)) λr dst s K p k=>?_) ?_
 .have t:=p H.l (.row 86 0 [.i q.1,.i q.2]) gf;exact Yr (af5 r q) k rfl rfl (by simp[t])
 .rintro _ H' ⟨rfl,rfl⟩;simp[Bs gu]
