/- Part 45 of DisputeReferee. -/
import Derived.Test.YtmehofoficaelaaGreatDoorR44
set_option linter.all false
namespace Go.Proofs.YtmehofoficaelaaGreatDoor
open Go Go.AL Classical
structure zr(cl:List gp)(φ:gp->gp)(gG:Int):Prop where
 cv:∀c∈cl,∀i,ie (φ c) i=ie c i
 sy:∀c∈cl,∀i,i≠gG->ie c i=true->iW (φ c) i=iW c i
 fr:∀c∈cl,ie c gG=true->iW (φ c) gG=(2,0)
section
variable{A:ny}{V:List fE}{cl:List gp}{φ:gp->gp}{gG:Int}{n:Nat}{ad:gp->Bool}
theorem P6{p:gp->Bool}{cl:List gp}{φ:gp->gp}:idx p (cl.map φ)=idx (λc=>p (φ c)) cl:=by unfold idx;rw[List.length_map];refine dF λk a=>?_;rw[jj]at a;rw[jc a.1 (by rw[List.length_map];exact a.2),List.getElem_map,<-jc a.1 a.2]
theorem P5{p q:gp->Bool}{cl:List gp}(h:∀c∈cl,p c=q c):idx p cl=idx q cl:=by unfold idx;refine dF λk a=>?_;rw[jj]at a;exact h _ (fZ a.1 a.2)
theorem B0(h:zr cl φ gG){i:Int}(hi:i≠gG):sd (cl.map φ) i=sd cl i:=by unfold sd;rw[List.filter_map,List.map_map];have e:(cl.filter ((λc=>ie c i) ∘ φ))=cl.filter λc=>ie c i:=dF λc a=>h.cv c a i;rw[e];refine ak λc a=>?_;rw[aO]at a;exact h.sy c a.1 i hi a.2
theorem SY(h:zr cl φ gG):sd (cl.map φ) gG=(sd cl gG).map λ_=>(2,0):=by unfold sd;rw[List.filter_map,List.map_map,List.map_map];have e:(cl.filter ((λc=>ie c gG) ∘ φ))=cl.filter λc=>ie c gG:=dF λc a=>h.cv c a gG;rw[e];refine ak λc a=>?_;rw[aO]at a;exact h.fr c a.1 a.2
theorem aaR{l:List fE}:lk (l.map λ_=>((2,0):fE))=false:=by
 refine zM.2 λr b=>?_
 cases l with
 | nil=>cases b
 | cons a t=>obtain⟨_,_,rfl⟩:=aq.1 b;rfl
theorem ZY(h:zr cl φ gG)(b:∀r∈sd cl gG,r=gt V gG)(i:Int):lk (sd (cl.map φ) i)=lk (sd cl i):=by
 by_cases e:i=gG
 .subst e;rw[(SY h),aaR];refine(zM.2 λr a=>?_).symm;rw[b r a,b _ (z8 λe=>by rw[e]at a;cases a)]
 .rw[B0 h e]
theorem SV(h:zr cl φ gG)(a:∀r∈sd cl gG,r=gt V gG):∀n:Nat,kl (cl.map φ) n=kl cl n
 | 0=>rfl
 | n+1=>by
  have e:∀c:List gp,kl c (n+1)=zD c (kl c n) n:=λc=>by unfold kl;rw[G7,List.foldl_append];rfl
  rw[e,e,SV h a n];unfold zD;rw[ZY h a]
  have g:lk (sd cl gG)=false:=zM.2 λr b=>by rw[a r b,a _ (z8 λe=>by rw[e]at b;cases b)]
  by_cases d:lk (sd cl n)=true
  .have h1:(n:Int)≠gG:=λe=>by rw[e,g]at d;cases d
   rcases BV cl n with⟨j,_⟩|⟨_,f,_⟩
   .grind
   .have i:kl cl n≠gG:=λe=>by rw[e,g]at f;cases f
    rw[B0 h h1,B0 h i]
  .grind
theorem Z1(h:zr cl φ gG){a:Int}(d:a≠gG)(g:gG ∉ gt A.nx a){c:gp}(b:c∈cl):oQ A (cl.map φ) a (φ c)=oQ A cl a c:=by
 have i:∀m,A4 A (cl.map φ) a m=A4 A cl a m:=λm=>ak λj k=>by rw[B0 h (λe=>g (e▸k))]
 unfold oQ;rw[h.cv c b,B0 h d,i]
 by_cases f:ie c a=true
 .rw[h.sy c b a d f]
 .grind
theorem Z0(h:zr cl φ gG)(k:∀c∈cl,ad (φ c)=ad c)(g:∀r∈sd cl gG,r=gt V gG)(o:kM (gt V gG)=true){a:Int}{ls:List Int}(b:lX A n ad cl = .v a ls)(q:a≠gG)(p:gG ∉ gt A.nx a) :
  lX A n ad (cl.map φ) = .v a ls:=by
 have l:idx (λc => !ad c) (cl.map φ)=idx (λc => !ad c) cl:=by rw[P6];exact P5 λc d=>by rw[k c d]
 have f:∀i,sd (cl.map φ) i = []↔sd cl i = []:=λi=>by
  by_cases e:i=gG
  .subst e;rw[(SY h),List.map_eq_nil_iff]
  .rw[B0 h e]
 have m:∀i,idx (λc=>ie c i && !kM (iW c i)) (cl.map φ)=idx (λc=>ie c i && !kM (iW c i)) cl:=λi=>by
  rw[P6];refine P5 λc d=>?_;rw[h.cv c d]
  by_cases f:ie c i=true
  .by_cases e:i=gG
   .subst e;rw[h.fr c d f,g _ (rA.2 ⟨c,d,f,rfl⟩),o];simp[kM]
   .rw[h.sy c d i e f]
  .grind
 unfold lX at b ⊢;simp only[l,f,m,SV h g]
 by_cases t:idx (λc => !ad c) cl≠[]
 .grind
 rw[if_neg t]at b ⊢
 by_cases c2:∃i,i∈upto n/\sd cl i = []
 .grind
 rw[if_neg c2]at b ⊢
 cases j:(upto n).find? λi=>decide (idx (λc=>ie c i && !kM (iW c i)) cl≠[])with
 | some i=>simp only[j]at b ⊢;exact b
 | none=>
  simp only[j]at b ⊢
  by_cases s:kl cl n<0
  .grind
  .rw[if_neg s]at b ⊢;cases b;congr 1;rw[P6];exact P5 λc d=>Z1 h q p d
theorem aef(pT:∀i:Int,0<=i->i<n->kM (gt V i)=true){a:Int}{ls:List Int}(h:lX A n ad cl = .v a ls)(o:0<=a):∃c∈cl,ie c a=true/\iW c a≠gt V a:=by
 unfold lX at h;split at h
 .grind
 split at h
 .cases h
 split at h
 .rename_i i hi;cases h;have h1:=List.find?_some hi;have d:=eQ hi;rw[jj]at d;obtain⟨c,j,e⟩:=AV.1 (of_decide_eq_true h1);simp only[Bool.and_eq_true,eM]at e;refine⟨c,j,e.1,λf=>?_⟩;rw[f,pT _ d.1 d.2]at e;cases e.2
 .split at h
  .cases h
  .rename_i m;cases h;rcases BV cl n with⟨e,_⟩|⟨_,g,_⟩
   .omega
   .obtain⟨r,b,k⟩:=NS.1 g;have h0:=z8 (l:=sd cl (kl cl n)) λe=>by rw[e]at b;cases b
    by_cases e:r=gt V (kl cl n)
    .obtain⟨c,q1,q2,q3⟩:=rA.1 h0;exact⟨c,q1,q2,by rw[q3,<-e];exactλf=>k f.symm⟩
    .obtain⟨c,q1,q2,q3⟩:=rA.1 b;exact⟨c,q1,q2,by rw[q3];exact e⟩
end
end Go.Proofs.YtmehofoficaelaaGreatDoor
namespace Go.Proofs.YtmehofoficaelaaGreatDoor
open Go Go.AL Classical
noncomputable def sH(gG:Int)(c:gp):gp:=if ie c gG=true then⟨c.who,c.lo,c.hi,pt c.es (gG-c.lo) (2,0),ju (pt c.es (gG-c.lo) (2,0))⟩else c
noncomputable def nP(gG:Int)(x:Cw):Cw:=⟨sH gG x.c,x.em⟩
theorem aaD{gG i:Int}{c:gp}:ie (sH gG c) i=ie c i:=by unfold sH;split<;>rfl
theorem EA{c:gp}{i:Int}(h:ie c i=true):c.lo<=i/\i<c.hi:=by unfold ie at h;exact of_decide_eq_true h
theorem ZZ{cl:List gp}{gG:Int}(h:∀c∈cl,(c.es.length:Int)=c.hi-c.lo):zr cl (sH gG) gG:=by
 refine⟨λc _ i=>aaD,λc b i hi a=>?_,λc b a=>?_⟩
 .have h1:=EA a;have hl:=h c b;unfold sH;split
  .rename_i d;have d:=EA d;unfold iW;dsimp only;rw[oz (by omega) (by omega) (by omega),if_neg (by omega)]
  .rfl
 .have d:=EA a;have hl:=h c b;unfold sH iW;rw[if_pos a];dsimp only;rw[oz (by omega) (by omega) (by omega),if_pos rfl]
theorem Zd{gG n:Int}{c:gp}(h:(c.es.length:Int)=c.hi-c.lo)(h0:0<=c.lo)(h1:c.lo<=c.hi)(b:c.hi<=n)(d:c.root=ju c.es):iY n (sH gG c)=iY n c:=by
 have e:iY n c=true:=by unfold iY snd;rw[Bool.and_eq_true,decide_eq_true_iff,decide_eq_true_iff];exact⟨⟨h0,h1,h,d⟩,b⟩
 rw[e];unfold sH;split
 .rename_i a;have a:=EA a;unfold iY snd;rw[Bool.and_eq_true,decide_eq_true_iff,decide_eq_true_iff];dsimp only;exact⟨⟨h0,h1,by rw[iq (by omega) (by omega)];exact h,rfl⟩,b⟩
 .exact e
theorem Z6{M:List Cw}{n:Nat}(h:n<M.length){a b c d0 d:D}{root r:List Int}(i:gP (gt M n)=a::b::c::d0::cl fU root)(hl:root.length=32)(o:r.length=32){x:Cw}(g:gP x=a::b::c::d::cl fU r) :
  List.take (n*36+4) (List.take (n*36+3) (cl gP M)++d::List.drop (n*36+3+1) (cl gP M))++(cl fU r++List.drop (n*36+4+32) (List.take (n*36+3) (cl gP M)++d::List.drop (n*36+3+1) (cl gP M)))=cl gP (pt M n x):=by
 have j:(cl gP (M.take n)).length=n*36:=by rw[rO,aJ,Nat.min_eq_left (by omega)]
 have e:cl gP M=cl gP (M.take n)++a::b::c::d0::(cl fU root++cl gP (M.drop (n+1))):=by
  have m:M=M.take n++gt M n::M.drop (n+1):=by rw[jc (by omega) (by omega)];simp
  have l:=congrArg (cl gP) m;rw[l,<-yg,mi,i];simp
 have k:cl gP (pt M n x)=cl gP (M.take n)++a::b::c::d::(cl fU r++cl gP (M.drop (n+1))):=by unfold pt;rw[bU,<-yg,mi,g];simp
 rw[e,k];generalize cl gP (M.take n)=A at *;generalize cl gP (M.drop (n+1))=B at *;have f:(cl fU root).length=32:=by rw[rO,hl]
 rw[<-j];have t3:(A++a::b::c::d0::(cl fU root++B)).take (A.length+3)=A ++ [a,b,c]:=by rw[dm,af (by omega),show A.length+3-A.length=3 by omega];rfl
 have d4:(A++a::b::c::d0::(cl fU root++B)).drop (A.length+3+1)=cl fU root++B:=by rw[cT,aU (by omega),show A.length+3+1-A.length=4 by omega];rfl
 rw[t3,d4];have t4:(A ++ [a,b,c]++d::(cl fU root++B)).take (A.length+4)=A ++ [a,b,c,d]:=by rw[aI,dm,af (by omega),show A.length+4-A.length=4 by omega];rfl
 have d36:(A ++ [a,b,c]++d::(cl fU root++B)).drop (A.length+4+32)=B:=by rw[aI,cT,aU (by omega),show A.length+4+32-A.length=36 by omega];show(cl fU root++B).drop 32=B;rw[cT,aU (by omega),f];rfl
 rw[t4,d36];simp
theorem acw{gG:Int}{x:Cw}(a:x.ok)(c:x.em=false)(hl:(x.c.es.length:Int)=x.c.hi-x.c.lo):(nP gG x).ok:=by
 unfold nP sH;split
 .rename_i b;have b:=EA b;exact⟨(λh=>by rw[c]at h;cases h),by dsimp only;rw[iq (by omega) (by omega)];exact a.es,v8 _,a.lo,a.hi⟩
 .exact a
theorem acv{gG:Int}{x:Cw}(hl:(x.c.es.length:Int)=x.c.hi-x.c.lo)(b:∀r∈x.c.es,r.2<=4000):∀r∈(nP gG x).c.es,r.2<=4000:=by
 intro r a;unfold nP sH at a;split at a
 .dsimp only at a;unfold pt at a;rcases List.mem_append.1 a with h|h
  .exact b r (aN h)
  .rcases aw.1 h with rfl|h
   .decide
   .exact b r (bj h)
 .exact b r a
theorem pK.s{T:ia}{f:FuncId}{args:List D}{R:List Fp}{dst:Option Nat}{s a:St}{Q:Rc->St->Prop}(hs:s=a)(h:pK T f args R dst a Q .mk):pK T f args R dst s Q .mk:=by subst hs;exact h
end Go.Proofs.YtmehofoficaelaaGreatDoor
namespace Go.Proofs.YtmehofoficaelaaGreatDoor
open Go Go.AL Classical
set_option maxRecDepth 10000
set_option maxHeartbeats 32000000
attribute [-simp] rQ
theorem abb(x:pH)(hx:Hf x)(ws:List B5)(CT:∀y∈ws,y.ok)(K T' a b c k:Int)(hK:0<=K/\K<256)(hT:0<=T'/\T'<256)(hk:0<=k/\k<256) :
  Wf T 7 [.agg x.cells,.agg [.sl 5 (ws.map f5),.val (.int .u8 K),.val (.int .u8 T'),.val (.int .u8 a),.val (.int .u8 b),.val (.int .u8 c)],.val (.int .u8 k)] [] (Is (.b true)):=by
 have ry:x.cells.length=31:=by simp[pH.cells,Raw.cells,hx.len]
 have vT:gh x.cells=true:=by have:=Te x;simpa using this
 have ZO:=ab8 x hx;generalize x.cells=xs at *;obtain⟨X,rfl⟩:=TT vT;rw[rO,ey]at ry;have AP:X.take 31=X:=af (by omega);refine Yz DG (jN 237 [1019] (iB 47 [3] DG.body)) ?_;simp[DG,iB,jN,mw,mz,mH,lq,ry,AP];refine Yc (abe) ?_;simp;refine ku ry AP ?_;simp[ry,AP];refine fY.q rfl rfl ZO (by simp) (λy=>by obtain⟨g,p,b,l⟩:=y;cases b<;>simp[gh]) ?_;rintro⟨g,p,b,l⟩ ⟨hg,hp,gu⟩;cases b
 .simp
 dsimp only at hg hp gu;have Ar:=(gu rfl).1;have OD:=(gu rfl).2;have Y:=Ar.c2;have h0:=Ar.len.1;have p0:=Ar.len.2;have gq:=λi i0 i1=>(qw Y (i:=i) i0 i1).2;simp;refine Yq (aca g hg l Y h0) λy f=>?_;obtain⟨V,W⟩:=y;obtain⟨UY,Lp⟩:=f;dsimp only at UY Lp
 have OU:∀k:Int,0<=k->k<V.length->0<=(gt V k).2/\(gt V k).2<=4000:=λk k0 k1=>by have:=aeL (A:=lQ g l (gd g l)) (v:=V) (n:=l.length) gq Lp (i:=k) k0 (by omega);omega
 have UZ:∀r∈V,r.2<=4000:=λr S=>by obtain⟨k,k0,k1,rfl⟩:=xw.1 S;exact(OU k k0 k1).2
 have Pj:Sl (lQ g l (gd g l)) l.length V:=⟨UY,gq,Lp,λi i0 i1=>pd.kM (λo=>alq hg o) (Lp i i0 i1)⟩;have OR:0<V.length:=by omega
 have Ad:V.length<=64:=by omega
 simp;refine fD ?_;refine fY.on rfl rfl (abf V ws K T' 0 0 0 CT OR Ad UZ hK hT (by decide) (by decide) (by decide)) (by simp) λU g0 hP=>?_;simp;refine fD ?_;have OZ:=abg V Ad;rw[show gP ⟨pL V,false⟩=cl gP [⟨pL V,false⟩]from(iQ _).symm]at OZ;obtain⟨w,tI,vT⟩:∃w:Cw,(⟨pL V,false⟩:Cw)=w/\w.c=pL V:=⟨_,rfl,rfl⟩;rw[tI]at OZ;have U7:(cl gP [w]).length=36:=by rw[rO];rfl
 have U8:(cl gP [w]).take 36=cl gP [w]:=af (by omega);have o8:=hP.1;have UO:(U ++ [w]).length<=11:=by simp;omega
 have h5:w.ok:=by rw[<-tI];exact⟨(λh=>by cases h),Ad,v8 V,by unfold pL;dsimp only;omega,by unfold pL;dsimp only;omega⟩
 have Ll:∀y∈U ++ [w],y.ok:=λy f=>by
  rcases List.mem_append.1 f with f|f
  .exact(hP.2 y f).1.ok
  .rw[List.mem_singleton.1 f];exact h5
 have OL:∀y∈U ++ [w],∀r∈y.c.es,r.2<=4000:=λy f=>by
  rcases List.mem_append.1 f with f|f
  .exact(hP.2 y f).1.b
  .rw[List.mem_singleton.1 f,vT];exact UZ
 have Lk:=adA Pj (L:=U ++ [w]) ⟨w,by simp,vT⟩;have hj:=TU g hg l Y h0 (by omega) Ll OL (by omega);have Q:List.map gP U ++ [gP w]=(U ++ [w]).map gP:=by simp
 refine Yc OZ ?_;simp[U7,U8];refine ku U7 U8 ?_;rw[Q];obtain⟨L,D⟩:∃L,U ++ [w]=L:=⟨_,rfl⟩;rw[D]at UO Ll OL Lk hj ⊢;have ja:U.length+1=L.length:=by rw[<-D];simp
 obtain⟨J,hJ⟩:∃J,lX (lQ g l (gd g l)) l.length (iY l.length) (cs L)=J:=⟨_,rfl⟩;rw[hJ]at hj Lk
 cases J with
 | uj=>exact Lk.elim
 | none=>
  unfold LY at hj;refine Yc hj ?_;simp[Q,D]
 | v j ls=>
  obtain⟨gS,ha,VM,LD,kE⟩:=Lk;unfold LY at hj;refine Yc hj ?_
  by_cases kc:j<0
  .simp[Q,D,kc]
  have h7:¬(V.length:Int)<=j:=by omega
  have F:0<=j/\j<l.length:=by omega
  have wk:IntKind.i64.wrap k=k:=mO ic;have rk:fX k V.length=k % V.length:=jd hk.1;have G:0<=k % (V.length:Int):=bJ _ (by omega);have I:k % (V.length:Int)<V.length:=bB _ (by omega);have uJ:(gd g l).length=l.length:=by simp[gd]
  have g4:(gt (gd g l) j).length<2 ^ 40:=by rw[(qw Y F.1 F.2).1,List.length_map];have:=y8 hg (Y.ok _ (fZ F.1 F.2));omega
  have EW:∀y∈L,∃who lo hi es root,y=⟨⟨who,lo,hi,es,root⟩,false⟩/\(0<=lo/\lo<hi/\hi<=V.length)/\(es.length:Int)=hi-lo/\root=ju es/\gP y = .i who :: .i lo :: .i hi::gY es::cl fU root:=λy f=>by
   have g3:=KX (Ll y f)
   have:y.em=false/\0<=y.c.lo/\y.c.lo<y.c.hi/\y.c.hi<=V.length/\(y.c.es.length:Int)=y.c.hi-y.c.lo/\y.c.root=ju y.c.es:=by
    rw[<-D]at f;rcases List.mem_append.1 f with f|f
    .exact(hP.2 y f).2 (by simp)
    .rw[List.mem_singleton.1 f,vT,<-tI];exact⟨rfl,Int.le_refl _,by unfold pL;dsimp only;omega,Int.le_refl _,by unfold pL;dsimp only;omega,rfl⟩
   obtain⟨⟨who,lo,hi,es,root⟩,em⟩:=y;dsimp only at this;obtain⟨rfl,q⟩:=this;exact⟨who,lo,hi,es,root,rfl,⟨q.1,q.2.1,q.2.2.1⟩,q.2.2.2.1,q.2.2.2.2,g3⟩
  simp[Q,D,kc,h7];refine Yc (f37 g hg l Y) ?_;simp;simp[Q,D,ja,wk,rk];(with_reducible repeat' first|refine Xk ?_<;>try simp[Q,D,ja,wk,rk]|refine Xs ?_ ?_<;>intro h<;>(try intro h')<;>(try simp[h,Q,D,ja,wk,rk])<;>try omega|refine Xg ?_|omega)
  with_reducible refine⟨(λe=>by rw[e]at OR;simp at OR),by omega,by omega,?_⟩
  generalize k % (V.length:Int)=gG at *;have Vf:(List.map gP L).flatten=cl gP L:=by rw[mY]
  refine fO.s (by simp[Q,D,ja,wk,rk,Vf];rfl) ?_
  refine fO.e ((0,0):Int×Int) (λy=>[(7,.b true),(8,.ptr 2 0 0),(9,gY V),(10,.sl 36 (L.map gP)),(11,.ptr 5 0 0),(12,.sl 1 ((gd g l).map fI)),(14,.i gG),(15,.i y.2),(16,.fy 6 1 36 0 L.length),(17,.i y.1)]) (λ_=>_)
   (λy=>((0<=y.1/\y.1<=L.length)/\0<=y.2/\y.2<=y.1)/\((∃t∈L.take y.1.toNat,ie t.c j=true/\iW t.c j≠gt V j)->0<y.2)) (λy=>(L.length-y.1).toNat) ?_ ?_
  .simp
  rintro⟨i,d⟩ ⟨⟨⟨i0,i1⟩,d0,d1⟩,hd⟩;dsimp only at i0 i1 d0 d1 hd ⊢
  by_cases hi:i<L.length
  .obtain⟨who,lo,R,es,root,f,lr,Z,iy,m⟩:=EW _ (fZ i0 hi);have CR:=Bw (l:=L) i0 hi
   have yK:¬(ie (gt L i).c j=true/\iW (gt L i).c j≠gt V j)->(∃t∈L.take (i+1).toNat,ie t.c j=true/\iW t.c j≠gt V j)->0<d:=λO ⟨t,z,q⟩=>by
    rw[CR]at z;rcases List.mem_append.1 z with h|h
    .exact hd ⟨t,h,q⟩
    .rw[List.mem_singleton.1 h]at q;exact absurd q O
   have pP:ie (gt L i).c j=decide (lo<=j/\j<R):=by rw[f];rfl
   have PK:iW (gt L i).c j=gt es (j-lo):=by rw[f];rfl
   by_cases s:lo<=j
   .by_cases u:j<R
    .have B:0<=j-lo/\j-lo<es.length:=by omega
     simp[hi,i0,m,s,u,B,F];(with_reducible repeat' first|refine Xk ?_<;>try simp[m,s,u,B,F]|refine Xs ?_ ?_<;>intro h<;>(try intro h')<;>(try simp[h,m,s,u,B,F])<;>try omega|refine Xg ?_|omega)
     .have O:=yK (by rw[PK];exactλq=>q.2 (ew h h'));refine LJ.e (i+1,d) ?_;exact⟨by omega,⟨ic,by omega,by omega⟩,O⟩
     .refine LJ.e (i+1,d+1) ?_;exact⟨by omega,⟨ic,by omega,by omega⟩,λ_=>by omega⟩
    .have O:=yK (by rw[pP];simp[u]);simp[hi,i0,m,s,u];refine pe m s u ?_;refine LJ.e (i+1,d) ?_;exact⟨by omega,⟨ic,by omega,by omega⟩,O⟩
   .have O:=yK (by rw[pP];simp[s]);simp[hi,i0,m,s];refine ku m s ?_;refine LJ.e (i+1,d) ?_;exact⟨by omega,⟨ic,by omega,by omega⟩,O⟩
  .have iR:i.toNat=L.length:=by omega
   rw[iR,cQ]at hd
   have P:0<d:=by obtain⟨c',C,q1,q2⟩:=aef (V:=V) Pj.pT hJ F.1;obtain⟨t,z,rfl⟩:=aq.1 C;exact hd ⟨t,z,q1,q2⟩
   have o5:d<=11:=by omega
   clear hd;simp[hi];refine fO.s (by simp[hi];rfl) ?_
   refine fO.e (0:Int) (λy=>[(7,.b true),(8,.ptr 2 0 0),(9,gY V),(10,.sl 36 (L.map gP)),(11,.ptr 5 0 0),(12,.sl 1 ((gd g l).map fI)),(14,.i gG),(15,.i d),(16,.fy 6 1 36 0 L.length),(18,.i y)])
    (λy=>[.row 32 0 (cl fC X),.row 77 0 [.sl 5 (ws.map f5),.val (.int .u8 K),.val (.int .u8 T'),.val (.int .u8 a),.val (.int .u8 b),.val (.int .u8 c)],
     .row 49 0 [.i g.size,.sl 1 (g.next.map fI),dI g.iX,.sl 3 (g.kinds.map Kind.cells),.i g.gj,.b g.nJ,dN 4 Clause.cells g.clauses,.i g.blocked,.i g.uk,dI p.cs,dI p.h0,dI p.h1,.i p.gj,.i p.side,gJ l,.b true],
     .dead,.row 72 0 (cl gP [w]),.row 91 0 [.i j,dN 1 f1 ls,.i 0],.row 72 1 (cl gP ((L.map (nP gG)).take y.toNat++L.drop y.toNat))])
    (λy=>(0<=y/\y<=L.length)/\∀t∈L.take y.toNat,ie t.c gG=true->iW t.c gG=gt V gG/\gG≠j/\gG ∉ gt (gd g l) j) (λy=>(L.length-y).toNat) ?_ ?_
   .simp
   rintro q ⟨⟨q0,q1⟩,hq⟩
   by_cases N:q<L.length
   .obtain⟨who,lo,R,es,root,f,lr,Z,iy,m⟩:=EW _ (fZ q0 N);have CR:=Bw (l:=L) q0 N;have pP:ie (gt L q).c gG=decide (lo<=gG/\gG<R):=by rw[f];rfl
    have PK:iW (gt L q).c gG=gt es (gG-lo):=by rw[f];rfl
    have Cx:L.drop q.toNat=gt L q::L.drop (q+1).toNat:=by rw[show(q+1).toNat=q.toNat+1 by omega,jc q0 N,bL (by omega)]
    obtain⟨M,hM⟩:∃M,(L.map (nP gG)).take q.toNat++L.drop q.toNat=M:=⟨_,rfl⟩;have o7:M.length=L.length:=by rw[<-hM];simp;omega
    rw[hM]
    have AN:ie (gt L q).c gG≠true->(L.map (nP gG)).take (q+1).toNat++L.drop (q+1).toNat=M/\∀t∈L.take (q+1).toNat,ie t.c gG=true->iW t.c gG=gt V gG/\gG≠j/\gG ∉ gt (gd g l) j:=λO=>by
     have hw:nP gG (gt L q)=gt L q:=by unfold nP sH;rw[if_neg O]
     refine⟨by rw[<-dM,CR,List.map_append,List.map_singleton,hw,aI,<-hM,Cx,<-dM];rfl,λt z C=>?_⟩;rw[CR]at z;rcases List.mem_append.1 z with h|h
     .exact hq t h C
     .rw[List.mem_singleton.1 h]at C;exact absurd C O
    by_cases s:lo<=gG
    .by_cases u:gG<R
     .have B:0<=gG-lo/\gG-lo<es.length:=by omega
      by_cases H:(gt es (gG-lo)).1=(gt V gG).1/\(gt es (gG-lo)).2=(gt V gG).2
      .by_cases e2:gG=j
       .simp[N,q0,m,s,u,B,G,I,H,e2,P];(with_reducible repeat' first|refine Xk ?_<;>try simp[m,s,u,B,G,I,H,e2,P]|refine Xs ?_ ?_<;>intro h<;>(try intro h')<;>(try simp[h,m,s,u,B,G,I,H,e2,P])<;>try omega|refine Xg ?_|omega)
       .simp[N,q0,m,s,u,B,G,I,H,e2,F,uJ];(with_reducible repeat' first|refine Xk ?_<;>try simp[m,s,u,B,G,I,H,e2,F,uJ]|refine Xs ?_ ?_<;>intro h<;>(try intro h')<;>(try simp[h,m,s,u,B,G,I,H,e2,F,uJ])<;>try omega|refine Xg ?_|omega);refine iF.c rfl rfl (f25 (gt (gd g l) j) gG g4) (by simp) (by simp) ?_
        by_cases e3:gG∈gt (gd g l) j
        .simp[e3,P]
        .simp[e3,m,B,s];refine zC e3 m B s ?_;refine fY.w (by simp[B];rfl) ?_;rw[ND];have gX:(pt es (gG-lo) (2,0)).length=es.length:=iq B.1 B.2;obtain⟨E,hE⟩:∃E,pt es (gG-lo) (2,0)=E:=⟨_,rfl⟩;rw[hE]at gX ⊢;have ZP:=N5 (v:=E) (.inl rfl) (by omega);refine fY.r rfl rfl ZP (by simp[gX]) (by simp[flat]) (by simp) ?_;have gW:=v8 E;obtain⟨r,S⟩:∃r,ju E=r:=⟨_,rfl⟩;rw[S]at gW;have uz:q.toNat*36+4+32<=min (q.toNat*36+3) (M.length*36)+(M.length*36-(q.toNat*36+3+1)+1):=by omega
         have pO:q.toNat*36+3<M.length*36:=by omega
         have OQ:((L.map (nP gG)).take q.toNat).length=q.toNat:=by simp;omega
         have g8:gt M q=gt L q:=by
          have:M[q.toNat]? = some (gt L q):=by rw[<-hM,Cx,ai (by omega),OQ,bS];rfl
          unfold gt;rw[List.getD_eq_getElem?_getD,this];rfl
         have sh:(L.map (nP gG)).take (q+1).toNat++L.drop (q+1).toNat=pt M q (nP gG (gt L q)):=by unfold pt;have g6:((L.map (nP gG)).take q.toNat).take q.toNat=(L.map (nP gG)).take q.toNat:=af (by omega);have g5:((L.map (nP gG)).take q.toNat).drop (q.toNat+1) = []:=aU (by omega);rw[<-hM,Cx,dm,g6,OQ,bS,dC,ax,cT,g5,OQ,show q.toNat+1-q.toNat=1 by omega,<-dM,<-dM,CR,List.map_append,aI];rfl
         have h4:ie (gt L q).c gG=true:=by rw[pP];exact decide_eq_true ⟨s,u⟩
         have jn:root.length=32:=by rw[iy];exact v8 es
         have O':gP (nP gG (gt L q)) = .i who :: .i lo :: .i R::gY E::cl fU r:=by unfold nP sH;rw[if_pos h4,f,Cb];dsimp only;rw[hE,S,Mu gW];rfl
         have gw:=Z6 (M:=M) (n:=q.toNat) (by omega) (by rw[show((q.toNat:Nat):Int)=q by omega,g8];exact m) jn gW O';rw[show((q.toNat:Nat):Int)=q by omega,<-sh]at gw;have Fz:=gw;rw[<-gW]at Fz;simp[gX,S,gW,uz,pO];(with_reducible repeat' first|refine Xk ?_<;>try simp[gX,S,gW,uz,pO]|refine Xs ?_ ?_<;>intro h<;>(try intro h')<;>(try simp[h,gX,S,gW,uz,pO])<;>try omega|refine Xg ?_|omega);rw[gw]
         try rw[Fz]
         simp[rQ,gw,Fz];(with_reducible repeat' first|refine Xk ?_<;>try simp[rQ,gw,Fz]|refine Xs ?_ ?_<;>intro h<;>(try intro h')<;>(try simp[h,rQ,gw,Fz])<;>try omega|refine Xg ?_|omega);refine LJ.e (q+1) ?_;refine⟨by omega,ic,λt z C=>?_⟩;rw[CR]at z;rcases List.mem_append.1 z with h|h
         .exact hq t h C
         .rw[List.mem_singleton.1 h];exact⟨by rw[PK];exact ew H.1 H.2,e2,e3⟩
      .simp[N,q0,m,s,u,B,G,I,H,P];(with_reducible repeat' first|refine Xk ?_<;>try simp[m,s,u,B,G,I,H,P]|refine Xs ?_ ?_<;>intro h<;>(try intro h')<;>(try simp[h,m,s,u,B,G,I,H,P])<;>try omega|refine Xg ?_|omega)
     .obtain⟨jS,l8⟩:=AN (by rw[pP];simp[u]);simp[N,q0,m,s,u];refine pe m s u ?_;refine LJ.i (q+1) (by first|rfl|simp[jS]) (by first|rfl|simp[jS]) rfl rfl ?_;exact⟨by omega,ic,l8⟩
    .obtain⟨jS,l8⟩:=AN (by rw[pP];simp[s]);simp[N,q0,m,s];refine ku m s ?_;refine LJ.i (q+1) (by first|rfl|simp[jS]) (by first|rfl|simp[jS]) rfl rfl ?_;exact⟨by omega,ic,l8⟩
   .have VF:q.toNat=L.length:=by omega
    rw[VF,cQ]at hq;have h6:w∈L:=by rw[<-D];simp
    have E8:ie w.c gG=true:=by rw[vT];unfold ie pL;exact decide_eq_true ⟨G,I⟩
    have Vd:=(hq w h6 E8).2
    have g7:(L.map (nP gG)).take q.toNat++L.drop q.toNat=L.map (nP gG):=by rw[VF,af (by simp),List.drop_length,ax]
    rw[g7];have iV:cs (L.map (nP gG))=(cs L).map (sH gG):=by unfold cs;rw[List.map_map,List.map_map];rfl
    have mc:∀c'∈cs L,(c'.es.length:Int)=c'.hi-c'.lo/\0<=c'.lo/\c'.lo<=c'.hi/\c'.hi<=l.length/\c'.root=ju c'.es:=λc' C=>by obtain⟨t,z,rfl⟩:=aq.1 C;obtain⟨who,lo,R,es,root,f,lr,Z,iy,m⟩:=EW _ z;rw[f];exact⟨Z,lr.1,by dsimp only;omega,by dsimp only;omega,iy⟩
    have CB:=Z0 (A:=lQ g l (gd g l)) (V:=V) (n:=l.length) (ad:=iY l.length) (ZZ λc' C=>(mc c' C).1) (λc' C=>Zd (mc c' C).1 (mc c' C).2.1 (mc c' C).2.2.1 (mc c' C).2.2.2.1 (mc c' C).2.2.2.2)
     (λr S=>by
      obtain⟨c',h1,h2,rfl⟩:=rA.1 S;obtain⟨t,z,rfl⟩:=aq.1 h1
      exact(hq t z h2).1) (Pj.pT gG G (by omega)) hJ (cF Vd.1) Vd.2
    have Nv:=TU g hg l Y h0 (by omega) (L:=L.map (nP gG)) (λt z=>by
     obtain⟨y,f,rfl⟩:=aq.1 z;obtain⟨who,lo,R,es,root,vU,lr,Z,iy,m⟩:=EW y f
     exact acw (Ll y f) (by rw[vU]) (by rw[vU];exact Z)) (λt z=>by
     obtain⟨y,f,rfl⟩:=aq.1 z;obtain⟨who,lo,R,es,root,vU,lr,Z,iy,m⟩:=EW y f
     exact acv (by rw[vU];exact Z) (OL y f)) (by simp;omega)
    rw[iV,CB]at Nv;unfold LY at Nv;simp[N,P];refine jw P ?_;refine pK.s (by simp[Q,D,ja,wk,rk,Vf,N,rQ];rfl) ?_;refine pK.z 6 rfl rfl Nv (by simp) (by simp) (by simp[rowsOf]) (by simp[-List.map_map,yh]) (by simp) ?_;simp;refine fD ?_;have SR:=abh (a:=ls) (b:=ls) (x:=dN 1 f1 ls) (y:=dN 1 f1 ls) (qc.N ls) (qc.N ls) (by omega) j j 0 0;simp at SR;refine iF.c rfl rfl SR (by simp) (by simp) ?_;simp
