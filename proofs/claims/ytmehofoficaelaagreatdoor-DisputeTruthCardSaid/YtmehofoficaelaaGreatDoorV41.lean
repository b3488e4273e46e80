/- Part 41 of DisputeTruth. -/
import Derived.Test.YtmehofoficaelaaGreatDoorV40
set_option linter.all false
namespace Go.Proofs.YtmehofoficaelaaGreatDoor
open Go Go.AL Classical
set_option maxRecDepth 10000
set_option maxHeartbeats 16000000
attribute [-simp] s7
def p6(cm:List gA)(m j k:Int)(V:List fO)(seen:List Nat):List fO:=if seen≠[]/\(gF cm j).length=1/\(nc (sd cm j)).2<m then pt (pt V k (2,0)) k (nc (sd cm j))else pt V k (2,0)
@[simp] theorem an0(cm:List gA)(m j k:Int)(V:List fO):p6 cm m j k V []=pt V k (2,0):=if_neg λh=>h.1 rfl
section
variable{cm:List gA}{m j k:Int}{V:List fO}{seen:List Nat}
theorem aaZ(k0:0<=k)(k1:k<V.length):(p6 cm m j k V seen).length=V.length:=by
 unfold p6;have h:=iH (l:=V) (v:=((2,0):fO)) k0 k1;split
 .rw[iH k0 (by omega),h]
 .exact h
theorem aa0(k0:0<=k)(k1:k<V.length){i:Int}(i0:0<=i)(h:i≠k):gt (p6 cm m j k V seen) i=gt V i:=by
 unfold p6;have hl:=iH (l:=V) (v:=((2,0):fO)) k0 k1;split
 .rw[pq k0 (by omega) i0,if_neg h,pq k0 k1 i0,if_neg h]
 .rw[pq k0 k1 i0,if_neg h]
theorem anZ(k0:0<=k)(k1:k<V.length)(hs:sd cm j≠[])(d:∀t,t<(gF cm j).length->t∈seen):gt (p6 cm m j k V seen) k=xD cm m j:=by
 unfold p6 xD;have hl:=iH (l:=V) (v:=((2,0):fO)) k0 k1;have f:(gF cm j).length≠0:=λh=>hs (ML.1 h)
 have b:seen≠[]:=λh=>by have:=d 0 (by omega);rw[h]at this;cases this
 have a:(gF cm j).length=1↔mu (sd cm j)=false:=by
  have:=F7 (cl:=cm) (i:=j)
  cases e:mu (sd cm j)with
  | true=>
   rw[e]at this;constructor
   .intro h;have:=this.2 rfl;omega
   .intro h;cases h
  | false=>
   rw[e]at this;constructor
   .intro _;rfl
   .intro _;have g:¬ 1<(gF cm j).length:=λh=>by cases this.1 h
    omega
 by_cases c:mu (sd cm j)=false/\(nc (sd cm j)).2<m
 .rw[if_pos c,if_pos ⟨b,a.2 c.1,c.2⟩,pq k0 (by omega) k0,if_pos rfl]
 .rw[if_neg c,if_neg λh=>c ⟨a.1 h.2.1,h.2.2⟩,pq k0 k1 k0,if_pos rfl]
end
section
variable{H:U}{ck sr n:Nat}{M:Nat->jY}{ow:Nat->Nat×Nat×Nat}{P:Nat->Nat}{Q:Nat->Nat->Nat}
theorem adK(g:fY)(hg:gN g)(l:List Pos)(hc:oP g l){dcl:D}(o4:n=l.length)(J:l8 H ck sr n M ow P Q)(fV:jl H.length H)(X:H[ck]? = some (.row 168 0 (ke g l (gu g l) dcl (.fM sr 0 1 0 n))))
  {cm:List gA} (h8:cm.length<=100000) {i:Int} (i0:0<=i) (I:i<n) (hM:∀j,j<n->M j=gF cm j)
  (hp:∀j:Int,0<=j->j<l.length->∀r∈sd cm j,ln r=true) (hb:∀j:Int,0<=j->j<l.length->∀r∈sd cm j,r.2<=4000) (hs:∀j:Int,0<=j->j<l.length->sd cm j≠[]) :
  Wf T 123 [.ptr ck 0 0,.i i] H (λd H'=>d=dN 1 f1 (jX (qw (jM g l (gu g l)) cm i) cm cm.length)/\H'=H):=by
 subst o4;have g5:=hc.len;have vp:=hc.ok _ (gq i0 I);have zz:(gu g l).length=l.length:=by simp[gu]
 have gy:=(qn hc (i:=i) i0 I).2;have gU:=(qn hc (i:=i) i0 I).1
 have sc:(gt (gu g l) i).length<=4000000000:=by rw[gU,List.length_map];have:=zU hg vp;omega
 have zJ:(stat g (gt l i)).2=false->0<(gt (gu g l) i).length:=λh=>by
  rw[gU,List.length_map];have:iJ g (gt l i)≠[]:=λe=>by unfold stat at h;simp[e]at h
  exact ax.2 this
 have Pv:=f54 g hg (gt l i) vp;obtain⟨m,hm⟩:∃m,lZ (sd cm i)=m:=⟨_,rfl⟩
 have vx:(stat g (gt l i)).2=true->∀c∈cm,(jC c i&&decide (ky c i≠((stat g (gt l i)).1,0)))=qw (jM g l (gu g l)) cm i c:=λh c _=>by unfold qw;rw[if_pos (show(jM g l (gu g l)).ov i=true from h)];rfl
 have F:(stat g (gt l i)).2=false->(nu ((gt (gu g l) i).map (xD cm m))).1≠2->∀c∈cm,(jC c i&&decide (ky c i≠nu ((gt (gu g l) i).map (xD cm m))))=qw (jM g l (gu g l)) cm i c:=λh f c _=>by unfold qw;rw[if_neg (by rw[show(jM g l (gu g l)).ov i=false from h];simp),hm,Zf,show gt (jM g l (gu g l)).nx i=gt (gu g l) i from rfl,if_pos f]
 have C:(stat g (gt l i)).2=false->(nu ((gt (gu g l) i).map (xD cm m))).1=2->∀c∈cm,(jC c i&&decide ((ky c i).1≠2/\(ky c i).2=m))=qw (jM g l (gu g l)) cm i c:=λh f c _=>by unfold qw;rw[if_neg (by rw[show(jM g l (gu g l)).ov i=false from h];simp),hm,Zf,show gt (jM g l (gu g l)).nx i=gt (gu g l) i from rfl,if_neg (by rw[f];simp)]
 obtain⟨W,hW⟩:∃W,jX (qw (jM g l (gu g l)) cm i) cm cm.length=W:=⟨_,rfl⟩;have MW:∀p:gA->Bool,(∀c∈cm,p c=qw (jM g l (gu g l)) cm i c)->jX p cm cm.length=W:=λp h=>by rw[<-hW];exact Yh (by omega) h
 rw[hW];obtain⟨nx,pA⟩:∃nx,gu g l=nx:=⟨_,rfl⟩;rw[pA]at X zz gy sc zJ F C MW vx;obtain⟨st,gh⟩:∃st,stat g (gt l i)=st:=⟨_,rfl⟩;rw[gh]at Pv zJ vx F C;obtain⟨o,ov⟩:=st;dsimp only at Pv zJ vx F C;have pQ:(ke g l nx dcl (.fM sr 0 1 0 l.length))[12]? = some (.fM sr 0 1 0 l.length):=by unfold ke;simp
 have v:∀R:U,(H++R)[ck]? = some (.row 168 0 [.i g.size,.sl 1 (g.next.map fI),dI g.jn,.sl 3 (g.kinds.map Kind.cells),.i g.gD,.b g.oi,dN 4 Clause.cells g.clauses,.i g.blocked,.i g.uY,gQ l,.sl 1 (nx.map fN),dcl,.fM sr 0 1 0 l.length]):=λR=>by rw[ig X];unfold ke;simp
 have W8:=jj X;have hA:mT H.length (.row 157 0 [.ptr ck 0 0])=true:=by simp[W8]
 have xK:∀(G:U),jl H.length G->jl (H++(Ob.row 157 0 [.ptr ck 0 0]::Ob.row 3 0 [.i i]::G)).length (H++(Ob.row 157 0 [.ptr ck 0 0]::Ob.row 3 0 [.i i]::G)):=λG hG=>HK fV rfl λx J=>by
  rcases aw.1 J with rfl|J
  .exact hA
  .rcases aw.1 J with rfl|J
   .rfl
   .exact hG x J
 have Gf:∀j:Int,0<=j->j<l.length->M j.toNat=gF cm j:=λj j0 j1=>by have:=hM j.toNat (by omega);rwa [show(j.toNat:Int)=j by omega]at this
 refine Yg Ji ?_;simp[Ji,v];refine jH v ?_;refine Yt (Pv) ?_;simp[v];cases ov
 .have zJ:=zJ rfl;have F:=F rfl;have C:=C rfl;obtain⟨x,DW⟩:∃x,gt nx i=x:=⟨_,rfl⟩;rw[DW]at gy sc zJ F C;simp;refine fQ ?_;refine gj.w (by simp;rfl) ?_;refine gj.kU rfl rfl (PU (H:=H ++ [.row 157 0 [.ptr ck 0 0],.row 3 0 [.i i]]) (J.app _) (xK [] λ_ h=>by cases h) (ig X) pQ i0 I (Gf i i0 I) (hp i i0 I)) ?_;rintro _ H' ⟨rfl,rfl⟩;rw[hm];simp[v,DW,xF];(with_reducible repeat' first|refine Xk ?_<;>try simp[v,DW,xF]|refine Xs ?_ ?_<;>intro h<;>(try intro h')<;>(try simp[h,v,DW,xF])<;>try omega|refine Xg ?_|omega)
  have hz:(List.replicate x.length [D.i 0,D.i 0]).flatten=AL.cl fS (List.replicate x.length (0,0)):=by rw[nX,dO,AS]
  refine fZ.s (by simp[hz];rfl) ?_;refine fZ.e ((0,List.replicate x.length (0,0),[]):Int×List fO×U) (λy=>[(2,.ptr H.length 0 0),(3,.ptr (H.length+1) 0 0),(5,.fn (.func 186) [] [.ptr H.length 0 0,.ptr (H.length+1) 0 0]),(8,.ptr (H.length+2) 0 0),(9,.fM (H.length+3) 0 2 0 x.length),(53,dN 1 f1 x),(54,.i x.length),(55,.i y.1)]) (λy=>H++(.row 157 0 [.ptr ck 0 0] :: .row 3 0 [.i i] :: .row 3 0 [.i m] :: .row 86 0 (AL.cl fS y.2.1)::y.2.2)) (λy=>(0<=y.1/\y.1<=x.length)/\y.2.1.length=x.length/\(∀j:Int,0<=j->j<y.1->gt y.2.1 j=xD cm m (gt x j))/\(∀j:Int,y.1<=j->j<x.length->gt y.2.1 j=(0,0))/\jl H.length y.2.2) (λy=>(x.length-y.1).toNat) ?_ ?_
  .refine⟨by simp,by simp,λj j0 j1=>absurd j1 (by dsimp only;omega),λj j0 j1=>?_,λ_ h=>by cases h⟩;rw[jb j0 (by simpa using j1)];simp
  rintro⟨k,V,R⟩ ⟨⟨k0,k1⟩,hV,zk,QE,hR⟩;dsimp only at k0 k1 hV zk QE hR ⊢
  by_cases hk:k<x.length
  .obtain⟨j,Y⟩:∃j,gt x k=j:=⟨_,rfl⟩;have a:=gy _ (gq k0 hk);rw[Y]at a;have GN:=acd k0 (by omega:k<V.length) 2;rw[QE k (by omega) hk]at GN;obtain⟨p1,_⟩:=J.mp j.toNat (by omega);rw[Gf j a.1 a.2]at p1;have E:∀R:U,(H++R)[sr]? = some (.row 170 0 ((List.range l.length).map λj=>D.gx (P j))):=λR=>ig J.row;obtain⟨p,B⟩:∃p,P j.toNat=p:=⟨_,rfl⟩;obtain⟨q,xY⟩:∃q,Q j.toNat=q:=⟨_,rfl⟩;rw[B,xY]at p1;have A:∀R:U,(H++R)[p]? = some (.map KS (iM q 0 (gF cm j))):=λR=>ig p1;have iz:=jj p1;simp[hk,Y,v,GN,E,B,A,a.1,a.2];(with_reducible repeat' first|refine Xk ?_<;>try simp[hk,Y,v,GN,E,B,A,a.1,a.2]|refine Xs ?_ ?_<;>intro h<;>(try intro h')<;>(try simp[h,hk,Y,v,GN,E,B,A,a.1,a.2])<;>try omega|refine Xg ?_|omega);refine fZ.s (by simp[GN];rfl) ?_;refine fZ.e (([],[]):List Nat×U) (λz=>[(2,.ptr H.length 0 0),(3,.ptr (H.length+1) 0 0),(5,.fn (.func 186) [] [.ptr H.length 0 0,.ptr (H.length+1) 0 0]),(8,.ptr (H.length+2) 0 0),(9,.fM (H.length+3) 0 2 0 x.length),(10,.i k),(11,.i j),(53,dN 1 f1 x),(54,.i x.length),(55,.i k),(71,.ptr (H.length+(R.length+4)) 0 0)]) (λz=>H++(.row 157 0 [.ptr ck 0 0] :: .row 3 0 [.i i] :: .row 3 0 [.i m] :: .row 86 0 (AL.cl fS (p6 cm m j k V z.1))::(R ++ .iX (.gx p) (gF cm j).length z.1::z.2))) (λz=>z.1.Nodup/\(∀t∈z.1,t<(gF cm j).length)/\jl H.length z.2) (λz=>(gF cm j).length-z.1.length) ?_ ?_
   .exact⟨.nil,λ_ h=>(by cases h),λ_ h=>(by cases h)⟩
   rintro⟨seen,Z⟩ ⟨mA,gE,hZ⟩;dsimp only at mA gE hZ ⊢;simp;refine tX.at (m:=p) (since:=(gF cm j).length) (seen:=seen) (kk:=KS) (es:=iM q 0 (gF cm j)) (by simp) (by simp[A]) (by simp) (λjc=>?_) λt kv dv he hi=>?_
   .have jc:∀t,t<(gF cm j).length->t∈seen:=by simpa using jc
    simp;refine fQ ?_;refine LJ.i (k+1,p6 cm m j k V seen,R ++ .iX (.gx p) (gF cm j).length seen::Z) (by simp) (by simp) rfl rfl ?_;refine⟨by dsimp only;omega,im,by rw[aaZ k0 (by omega)];exact hV,λi' h0 h1=>?_,λi' h0 h1=>?_,tN hR λo b=>?_⟩
    .dsimp only at h1 ⊢
     by_cases e:i'=k
     .subst e;rw[Y];exact anZ k0 (by omega) (hs j a.1 a.2) jc
     .rw[aa0 k0 (by omega) h0 e];exact zk i' h0 (by omega)
    .dsimp only at h0 ⊢;rw[aa0 k0 (by omega) (by omega) (by omega)];exact QE i' (by omega) h1
    .rcases aw.1 b with rfl|b
     .show decide (p<H.length)=true;exact decide_eq_true iz
     .exact hZ o b
   .rw[u4]at he;obtain⟨y,tB,G2⟩:=ak.1 he;cases G2;have S:=Ib mA gE (ae.1 tB).1 hi;have N:(iM q 0 (gF cm j))[t]? = some (lj y.1,oI (q t) y.2):=by rw[u4,tB];simp
    have e:(H++(Ob.row 157 0 [.ptr ck 0 0]::Ob.row 3 0 [.i i]::Ob.row 3 0 [.i m]::Ob.row 86 0 (AL.cl fS (p6 cm m j k V seen))::(R++Ob.iX (.gx p) (gF cm j).length seen::Z))).set (H.length+(R.length+4)) (.iX (.gx p) (gF cm j).length (seen ++ [t]))=H++(Ob.row 157 0 [.ptr ck 0 0]::Ob.row 3 0 [.i i]::Ob.row 3 0 [.i m]::Ob.row 86 0 (AL.cl fS (p6 cm m j k V seen))::(R++Ob.iX (.gx p) (gF cm j).length (seen ++ [t])::Z)):=by simp
    rw[e]
    have uv:(gF cm j).length-(seen ++ [t]).length<(gF cm j).length-seen.length:=by have:=S.2.2;rw[aj,aV]at this ⊢;omega
    have iG:=aaZ (cm:=cm) (m:=m) (j:=j) (seen:=seen) k0 (by omega:k<V.length)
    by_cases h1:(gF cm j).length=1
    .have RA:t=0:=by have:=(ae.1 tB).1;omega
     have sM:seen = []:=aT.2 λu hu=>by have:=gE u hu;rw[show u=t by omega]at hu;exact hi hu
     have hy:y.1=nc (sd cm j):=WE (by
      obtain⟨z,hz⟩:=fw.1 h1;rw[hz,RA]at tB;cases tB
      exact hz)
     subst sM;obtain⟨⟨O,L⟩,ls⟩:=y;dsimp only at hy N
     by_cases f:L<m
     .have hv:p6 cm m j k V ([] ++ [t])=pt (pt V k (2,0)) k (O,L):=by unfold p6;rw[if_pos ⟨by simp,h1,by rw[<-hy];exact f⟩,hy]
      have By:=Pm (l:=pt V k (2,0)) (n:=k) O L;simp[A,N,v,E,B,a.1,a.2,h1,f,By];(with_reducible repeat' first|refine Xk ?_<;>try simp[A,N,v,E,B,a.1,a.2,h1,f,By]|refine Xs ?_ ?_<;>intro h<;>(try intro h')<;>(try simp[h,A,N,v,E,B,a.1,a.2,h1,f,By])<;>try omega|refine Xg ?_|omega);rw[an0]at iG;refine⟨by rw[iG];omega,?_⟩;refine LJ.i ([] ++ [t],Z ++ [.row 86 0 [.i O,.i L]]) (by simp) (by rw[hv];simp[h1]) rfl rfl ?_;exact⟨uv,S.1,S.2.1,tN hZ λo b=>by rw[List.mem_singleton.1 b];rfl⟩
     .have hv:p6 cm m j k V ([] ++ [t])=pt V k (2,0):=by unfold p6;rw[if_neg λh=>f (by have:=h.2.2;rw[<-hy]at this;exact this)]
      simp[A,N,v,E,B,a.1,a.2,h1,f];(with_reducible repeat' first|refine Xk ?_<;>try simp[A,N,v,E,B,a.1,a.2,h1,f]|refine Xs ?_ ?_<;>intro h<;>(try intro h')<;>(try simp[h,A,N,v,E,B,a.1,a.2,h1,f])<;>try omega|refine Xg ?_|omega);refine LJ.i ([] ++ [t],Z ++ [.row 86 0 [.i O,.i L]]) (by simp) (by rw[hv];simp[h1]) rfl rfl ?_;exact⟨uv,S.1,S.2.1,tN hZ λo b=>by rw[List.mem_singleton.1 b];rfl⟩
    .have hv:p6 cm m j k V (seen ++ [t])=p6 cm m j k V seen:=by unfold p6;rw[if_neg λh=>h1 h.2.1,if_neg λh=>h1 h.2.1]
     simp[A,N,v,E,B,a.1,a.2,h1];(with_reducible repeat' first|refine Xk ?_<;>try simp[A,N,v,E,B,a.1,a.2,h1]|refine Xs ?_ ?_<;>intro h<;>(try intro h')<;>(try simp[h,A,N,v,E,B,a.1,a.2,h1])<;>try omega|refine Xg ?_|omega);refine LJ.i (seen ++ [t],Z ++ [.row 86 0 [.i y.1.1,.i y.1.2]]) (by simp) (by simp[hv]) rfl rfl ?_;exact⟨uv,S.1,S.2.1,tN hZ λo b=>by rw[List.mem_singleton.1 b];rfl⟩
  have vj:k=x.length:=by omega
  have zl:V=x.map (xD cm m):=by refine bC (by rw[List.length_map];exact hV) λj j0 j1=>?_;have h:=zk j (by omega) (by omega);rw[jb (by omega) (by omega),jb (l:=x) (by omega) (by omega)]at h;rw[List.getElem_map];exact h
  rw[<-zl]at F C
  have Gh:∀r∈V,0<=r.2/\r.2<=4000:=λr hr=>by
   rw[zl]at hr;obtain⟨j,Y,rfl⟩:=ao.1 hr;have a:=gy j Y;unfold xD;split
   .have hf:=C' (hs j a.1 a.2);have h1:=hp j a.1 a.2 _ hf;have f:=hb j a.1 a.2 _ hf;refine⟨?_,f⟩;unfold ln at h1;simp only[decide_eq_true_eq]at h1;rcases h1 with e|e
    .rw[e];decide
    .exact e.2
   .exact⟨by decide,by decide⟩
  have a':=adN V (by omega) (by omega) Gh;obtain⟨r,hr⟩:∃r,nu V=r:=⟨_,rfl⟩;rw[hr]at a' F C;obtain⟨O,L⟩:=r;dsimp only at a' F C;simp[hk];refine fQ ?_;refine Yr a' ?_ rfl rfl (by simp[hV]) (by simp[flat,tb]) (by simp)
  have hG:jl H.length (Ob.row 3 0 [.i m]::Ob.row 86 0 (AL.cl fS V)::(R ++ [Ob.row 86 0 [.i O,.i L]])):=λo b=>by
   rcases aw.1 b with rfl|b
   .rfl
   .rcases aw.1 b with rfl|b
    .exact ym _
    .rcases List.mem_append.1 b with b|b
     .exact hR o b
     .rw[List.mem_singleton.1 b];rfl
  by_cases f:O=2
  .subst f;have C:=C rfl;simp;refine fQ ?_;refine gj.w (by simp;rfl) ?_;refine gj.kU rfl rfl (PT (H:=H++(.row 157 0 [.ptr ck 0 0] :: .row 3 0 [.i i] :: .row 3 0 [.i m] :: .row 86 0 (AL.cl fS V)::(R ++ [.row 86 0 [.i 2,.i L]]))) (J.app _) (xK _ hG) (ig X) pQ h8 i0 I (Gf i i0 I) (w:=λr=>decide (r.1≠2/\r.2=m)) λr dst s K jI k'=>?_) ?_
   .have hb:=jI (H.length+2) (.row 3 0 [.i m]) (by simp);exact Yr (adZ r m) k' rfl rfl (by simp[hb])
   .rintro _ H' ⟨rfl,rfl⟩;rw[MW _ C];simp[zQ fV]
  .have F:=F f;simp[f];refine jH f ?_;have Fx:=VV (H:=H++(.row 157 0 [.ptr ck 0 0] :: .row 3 0 [.i i] :: .row 3 0 [.i m] :: .row 86 0 (AL.cl fS V)::(R ++ [.row 86 0 [.i O,.i L]]))) (J.app _) (xK _ hG) (ig X) pQ h8 i0 I (Gf i i0 I) (t2:=H.length) (t3:=H.length+1) (by simp) (by simp) (O,L);rw[MW _ F]at Fx;refine gj.w (by simp;rfl) ?_;refine gj.kU rfl rfl Fx ?_;rintro _ H' ⟨rfl,rfl⟩;simp[zQ fV]
 .have vx:=vx rfl;have Fx:=VV (H:=H ++ [.row 157 0 [.ptr ck 0 0],.row 3 0 [.i i]]) (J.app _) (xK [] λ_ h=>by cases h) (ig X) pQ h8 i0 I (Gf i i0 I) (t2:=H.length) (t3:=H.length+1) (by simp) (by simp) (o,0);rw[MW _ vx]at Fx;simp;refine fQ ?_;refine gj.w (by simp;rfl) ?_;refine gj.kU rfl rfl Fx ?_;rintro _ H' ⟨rfl,rfl⟩;simp[zQ fV]
end
end Go.Proofs.YtmehofoficaelaaGreatDoor
namespace Go.Proofs.YtmehofoficaelaaGreatDoor
open Go Go.AL Classical
set_option maxRecDepth 10000
set_option maxHeartbeats 16000000
attribute [-simp] s7
section
variable{H:U}{ck sr n:Nat}{M:Nat->jY}{ow:Nat->Nat×Nat×Nat}{P:Nat->Nat}{Q:Nat->Nat->Nat}
theorem adH{p:Nat}{kk:KK}{es:List (Value×D)}(a:H[p]? = some (.map kk es)):Wf T 118 [.gx p] H (λd H'=>d = .b (decide (es.length=0))/\H'=H):=by refine Yg Jc ?_;simp[Jc,a]
theorem adX(i:l8 H ck sr n M ow P Q)(o:n<=1000):Wf T 185 [.fM sr 0 1 0 n,.fn (.func 118) [] []] H (λd H'=>∃v:Int,d = .i v/\H'=H/\(0<=v↔∃j,j<n/\(M j).length=0)):=by
 have k:=i.row;refine Yg Jp ?_;simp[Jp];refine fZ.e (0:Int) (λy=>[(0,.fM sr 0 1 0 n),(1,.fn (.func 118) [] []),(7,.i n),(8,.i y)]) (λy=>H) (λy=>(0<=y/\y<=n)/\∀j,j<y.toNat->(M j).length≠0) (λy=>(n-y).toNat) ?_ ?_
 .exact⟨by simp,λj c=>absurd c (by simp)⟩
 rintro y ⟨⟨g,l⟩,f⟩;dsimp only at g l f ⊢
 by_cases b:y<n
 .obtain⟨m,_⟩:=i.mp y.toNat (by omega);have a:y.toNat<n:=by omega
  simp[b,k,a];refine qJ b k a ?_;refine gj.kU rfl rfl (adH (H:=H) m) ?_;rintro _ H' ⟨rfl,rfl⟩;rw[AO]
  by_cases h0:(M y.toNat).length=0
  .rw[decide_eq_true h0];simp;refine fQ ?_;exact⟨λ_=>⟨y.toNat,a,ay.1 h0⟩,λ_=>g⟩
  .rw[decide_eq_false h0];simp;refine fQ ?_;refine LJ.i (y+1) (by simp) rfl rfl rfl ⟨by omega,im,λj c=>?_⟩
   by_cases e:j=y.toNat
   .rw[e];exact h0
   .exact f j (by omega)
 .simp[b];refine fQ ?_;exactλj c h=>f j (by omega) (by rw[h];rfl)
theorem adG(a:l8 H ck sr n M ow P Q)(c:n<=1000):Wf T 117 [.fM sr 0 1 0 n,.fn (.func 118) [] []] H (λd H'=>d = .b (decide (∃j,j<n/\(M j).length=0))/\H'=H):=by refine Yg Jb ?_;simp[Jb];refine gj.kU rfl rfl (adX a c) ?_;rintro _ H' ⟨v,rfl,rfl,b⟩;simp;simpa using b
theorem l8.am8(h:l8 H ck sr n M ow P Q){v:Nat}(f:ow v=(5,0,0))(o:Ob):l8 (H.set v o) ck sr n M ow P Q:=by
 have key:∀(w:Nat) (x:Ob),H[w]? = some x->ow w≠(5,0,0)->(H.set v o)[w]? = some x:=λw x d g=>by rw[aB (λe=>g (by rw[<-e];exact f))];exact d
 refine⟨h.fc,h.fs,key _ _ h.row (by rw[h.fs];simp),λj b=>?_,λj b t x c=>?_⟩
 .obtain⟨h1,a⟩:=h.mp j b;exact⟨key _ _ h1 (by rw[a];simp),a⟩
 .obtain⟨h1,a⟩:=h.ls j b t x c;exact⟨key _ _ h1 (by rw[a];simp),a⟩
end
@[simp] theorem aqQ(cl:List gA):kT cl 0 = -1:=rfl
theorem abE(cl:List gA){y:Int}(a:0<=y):kT cl (y+1).toNat=Fk cl (kT cl y.toNat) y:=by rw[show(y+1).toNat=y.toNat+1 by omega];unfold kT;rw[ID,List.foldl_append,show((y.toNat:Nat):Int)=y by omega];rfl
def LiV(N:Nat)(H:U)(ls:List Int)(d:D):Prop:=d=dN 1 f1 ls\/(ls≠[]/\∃v g,d = .fM v g 1 0 ls.length/\H[v]? = some (.row 3 g (cl f1 ls))/\N<=v)
def VD(N:Nat)(H:U)(d:D):Jd->Prop
 | .v a ls=>∃x,d = .tup [.agg [.i a,x],.i 0]/\LiV N H ls x
 | .none=>d = .tup [.agg [.i 0,.fX],.i 270]
 | .AF=>d = .tup [.agg [.i 0,.fX],.i 180]
structure JP(g:fY)(l:List Pos)(nx:List (List Int))(dcl:D)(cm:List gA)(H H':U)(ck:Nat)(J:Jd)(d:D):Prop where
 vd:VD H.length H' d J
 ok:jl H'.length H'
 kp:∀v o,H[v]? = some o->v≠ck->H'[v]? = some o
 ct:∃sr,H'[ck]? = some (.row 168 0 (ke g l nx dcl (.fM sr 0 1 0 l.length)))/\(J = .none->∃ow P Q,l8 H' ck sr l.length (λj:Nat=>gF cm (j:Int)) ow P Q/\∀v o,H[v]? = some o->v≠ck->ow v=(5,0,0))
theorem adw(g:fY)(hg:gN g)(l:List Pos)(A:oP g l)(h0:0<l.length)(h9:l.length<=1000){H:U}{ck:Nat}{L:List Cw}{old dcl:D}(hd:CV H ck L dcl)(fV:jl H.length H)
  (lX:H[ck]? = some (.row 168 0 (ke g l (gu g l) dcl old))) (hL:∀x∈L,x.ok) (hb:∀x∈L,∀r∈x.c.es,r.2<=4000) (h8:L.length<=100000) :
  Wf T 64 [.ptr ck 0 0] H (λd H'=>JP g l (gu g l) dcl (cs L) H H' ck (mS (jM g l (gu g l)) l.length (iY l.length) (cs L)) d):=by
 have Y:=wx L;have Gc:=@agc (jM g l (gu g l)) l.length (iY l.length) (cs L);have S:=@agf (jM g l (gu g l)) l.length (iY l.length) (cs L);have C:=@agh (jM g l (gu g l)) l.length (iY l.length) (cs L);have f:=@agd (jM g l (gu g l)) l.length (iY l.length) (cs L);obtain⟨J,hJ⟩:∃J,mS (jM g l (gu g l)) l.length (iY l.length) (cs L)=J:=⟨_,rfl⟩;rw[hJ]at Gc S C f ⊢;rw[Y]at Gc S C f;have xU:jl (H ++ [Ob.row 89 0 [.i 0,.fX]]).length (H ++ [Ob.row 89 0 [.i 0,.fX]]):=HK fV rfl λo ho=>by rw[List.mem_singleton.1 ho];rfl
 have W8:=jj lX;refine Yg I2 ?_;simp[I2];refine gj.kU rfl rfl (adF (H:=H ++ [.row 89 0 [.i 0,.fX]]) (hd.app _) xU (ig lX) hL h8 h9 h0) ?_;rintro d H1 ⟨ow,P,Q,q⟩;obtain⟨m,h5⟩:=q.kp H.length (.row 89 0 [.i 0,.fX]) (by simp) (by omega);obtain⟨bad,Bd⟩:∃bad,jX (λc => !iY l.length c) (cs L) L.length=bad:=⟨_,rfl⟩;rw[Bd]at q Gc S C f;have O:=q.ct
 have R:H1[ck]? = some (.row 168 0 [.i g.size,.sl 1 (g.next.map fI),dI g.jn,.sl 3 (g.kinds.map Kind.cells),.i g.gD,.b g.oi,dN 4 Clause.cells g.clauses,.i g.blocked,.i g.uY,gQ l,.sl 1 ((gu g l).map fN),dcl,.fM (H ++ [Ob.row 89 0 [.i 0,.fX]]).length 0 1 0 l.length]):=by rw[O];unfold ke;simp
 obtain⟨sr,c'⟩:∃sr,(H ++ [Ob.row 89 0 [.i 0,.fX]]).length=sr:=⟨_,rfl⟩;rw[c']at q O R;have pT:∀v o,H[v]? = some o->v≠ck->H1[v]? = some o:=λv o M A=>(q.kp v o (ig M) A).1
 have kI:∀(x:Ob),mT H1.length x=true->jl (H1.set H.length x).length (H1.set H.length x)/\(∀v o,H[v]? = some o->v≠ck->(H1.set H.length x)[v]? = some o)/\(H1.set H.length x)[ck]? = some (.row 168 0 (ke g l (gu g l) dcl (.fM sr 0 1 0 l.length))):=λx b5=>by
  refine⟨by rw[ar];exact pG q.ok b5,λv o M A=>?_,?_⟩
  .rw[aB (by have:=jj M;omega)];exact pT v o M A
  .rw[aB (by omega)];exact O
 rcases q.bd with⟨tg,rfl⟩|⟨Bc,v,gn,rfl,th,vb⟩
 .have Ba:∀x∈L,iY l.length x.c=true:=λx G=>by
   have b:=Bd;rw[tg,<-Y,vG]at b
   cases e:iY l.length x.c with
   | true=>rfl
   | false=>exact absurd b (x8.2 ⟨x.c,ao.2 ⟨x,G,rfl⟩,by simp[e]⟩)
  have c5:hM (iY l.length) (cs L) L.length=λj:Nat=>gF (cs L) (j:Int):=funext λj=>by
   rw[<-Y]
   exact ae2 (λc A=>by
    obtain⟨x,G,rfl⟩:=ao.1 A
    exact Ba x G) j
  have E:=q.sg;rw[c5]at E;have c7:=adG E h9;have pQ:(ke g l (gu g l) dcl (.fM sr 0 1 0 l.length))[12]? = some (.fM sr 0 1 0 l.length):=by unfold ke;simp
  have Qx:∀x∈L,x.full:=λx G=>⟨hL x G,λ_=>by
   have:=Ba x G;unfold iY at this;rw[Bool.and_eq_true]at this
   exact(Im this.1).2.2⟩
  have c0:∀j:Int,0<=j->j<l.length->∀r∈sd (cs L) j,r.2<=4000:=λj _ _ r hr=>by obtain⟨c,A,h1,rfl⟩:=sf.1 hr;obtain⟨x,G,rfl⟩:=ao.1 A;obtain⟨_,j0,j1⟩:=Cw.Wv (Qx x G) h1;exact hb x G _ (gq (by omega) j1)
  have S:=@S tg;have C:=@C tg;have f:=f tg;have Z:∀j:Int,0<=j->gF (cs L) ((j.toNat:Nat):Int)=gF (cs L) j:=λj j0=>by rw[show((j.toNat:Nat):Int)=j by omega]
  have t:∀o,(H1.set H.length o)[H.length]? = some o:=λo=>aL (jj m);simp[R];refine jH R ?_;refine gj.kU rfl rfl c7 ?_;rintro _ H' ⟨rfl,rfl⟩
  by_cases he:∃j,j<l.length/\(gF (cs L) ((j:Nat):Int)).length=0
  .rw[decide_eq_true he];obtain⟨j,hj,ru⟩:=he;have V:=@S (j:Int) (by omega) (by omega) (ML.1 ru);subst V;simp[m,t];refine kM m t ?_;obtain⟨f1,f2,f3⟩:=kI (.row 89 0 [.i 0,.fX]) rfl;exact⟨rfl,f1,f2,sr,f3,λh=>by cases h⟩
  .rw[decide_eq_false he];have hs:∀j:Int,0<=j->j<l.length->sd (cs L) j≠[]:=λj j0 j1 h=>he ⟨j.toNat,by omega,by rw[Z j j0];exact ML.2 h⟩;have C:=@C hs;have f:=f hs;have WM:(cs L).length<=100000:=by rw[Y];exact h8
   clear he Gc S;simp[R];refine jH R ?_;refine fZ.e (0:Int) (λy=>[(0,.ptr ck 0 0),(2,.ptr H.length 0 0),(27,.i l.length),(28,.i y)]) (λy=>H') (λy=>(0<=y/\y<=l.length)/\∀j:Int,0<=j->j<y->imp (cs L) j = []) (λy=>(l.length-y).toNat) ?_ ?_
   .exact⟨by simp,λj j0 j1=>by omega⟩
   rintro y ⟨⟨z,y1⟩,X⟩;dsimp only at z y1 X ⊢
   by_cases p:y<l.length
   .have C1:=PT (H:=H') E q.ok O pQ WM z (by omega) (Z y z) (w:=λr => !ln r) λr dst s K _ k=>Yc (adI r) k;obtain⟨I,W⟩:∃I,imp (cs L) y=I:=⟨_,rfl⟩;have c6:jX (λc=>jC c y && !ln (ky c y)) (cs L) (cs L).length=I:=W;rw[c6]at C1;simp[p];refine fQ ?_;refine gj.kU rfl rfl C1 ?_;rintro _ H2 ⟨rfl,rfl⟩
    by_cases hz:I = []
    .have qd:∀j:Int,0<=j->j<y+1->imp (cs L) j = []:=λj j0 j1=>by
      by_cases e:j=y
      .rw[e,W,hz]
      .exact X j j0 (by omega)
     subst hz;simp;refine fQ ?_;refine LJ.i (y+1) (by simp) rfl rfl rfl ⟨by omega,im,qd⟩
    .have V:=C z p (by rw[W];exact hz) X;rw[W]at V;subst V;have kb:0<I.length:=ax.2 hz;simp[m,t,kb];refine qJ m t kb ?_;obtain⟨f1,f2,f3⟩:=kI (.row 89 0 [.i y,dN 1 f1 I]) (by simp);exact⟨⟨_,rfl,.inl rfl⟩,f1,f2,sr,f3,λh=>by cases h⟩
   have x4:y=l.length:=by omega
   subst x4;have hp:∀j:Int,0<=j->j<l.length->∀r∈sd (cs L) j,ln r=true:=λj j0 j1=>imp_nil (X j j0 j1);have f:=f X;clear C X z y1 p;simp[R];refine jH R ?_;have N:=E.row;refine fZ.e (0:Int) (λy=>[(0,.ptr ck 0 0),(2,.ptr H.length 0 0),(7,.i (kT (cs L) y.toNat)),(44,.fM sr 0 1 0 l.length),(45,.i l.length),(46,.i y)]) (λy=>H') (λy=>0<=y/\y<=l.length) (λy=>(l.length-y).toNat) ?_ ?_
   .simp
   rintro y ⟨z,y1⟩;dsimp only at z y1 ⊢
   by_cases p:y<l.length
   .have B:y.toNat<l.length:=by omega
    have F:H'[P y.toNat]? = some (.map KS (iM (Q y.toNat) 0 (gF (cs L) y))):=by have:=(E.mp y.toNat B).1;rw[Z y z]at this;exact this
    have hS:=abE (cs L) z
    have gy:0<=kT (cs L) y.toNat->kT (cs L) y.toNat<l.length:=λh=>by have:=(UB (n:=y.toNat) h).1;omega
    obtain⟨a,ha⟩:∃a,kT (cs L) y.toNat=a:=⟨_,rfl⟩;rw[ha]at hS gy ⊢;unfold Fk at hS
    by_cases h1:1<(gF (cs L) y).length
    .have Xd:=F7.1 h1
     by_cases b:a<0
     .rw[if_pos ⟨Xd,.inl b⟩]at hS;simp[p,N,B,F,h1,b];(with_reducible repeat' first|refine Xk ?_<;>try simp[p,N,B,F,h1,b]|refine Xs ?_ ?_<;>intro h<;>(try intro h')<;>(try simp[h,p,N,B,F,h1,b])<;>try omega|refine Xg ?_|omega);refine LJ.i (y+1) (by simp[hS]) rfl rfl rfl l4
     .have US:=PU (H:=H') E q.ok O pQ z (by omega) (Z y z) (hp y z p);have UT:=PU (H:=H') E q.ok O pQ (by omega:0<=a) (by have:=gy (by omega);omega) (Z a (by omega)) (hp a (by omega) (gy (by omega)));obtain⟨u,hu⟩:∃u,lZ (sd (cs L) y)=u:=⟨_,rfl⟩;obtain⟨v,M⟩:∃v,lZ (sd (cs L) a)=v:=⟨_,rfl⟩;rw[hu]at US;rw[M]at UT;rw[hu,M]at hS;simp[p,N,B,F,h1,b];(with_reducible repeat' first|refine Xk ?_<;>try simp[p,N,B,F,h1,b]|refine Xs ?_ ?_<;>intro h<;>(try intro h')<;>(try simp[h,p,N,B,F,h1,b])<;>try omega|refine Xg ?_|omega);refine gj.kU rfl rfl US ?_;rintro _ H2 ⟨rfl,rfl⟩;simp;refine gj.kU rfl rfl UT ?_;rintro _ H2 ⟨rfl,rfl⟩
      by_cases h3:u<v
      .rw[if_pos ⟨Xd,.inr h3⟩]at hS;simp[h3];refine jH h3 ?_;refine LJ.i (y+1) (by simp[hS]) rfl rfl rfl l4
      .rw[if_neg (λh=>by rcases h.2 with h|h<;>omega)]at hS;simp[h3];refine jH h3 ?_;refine LJ.i (y+1) (by simp[hS]) rfl rfl rfl l4
    .rw[if_neg (λh=>h1 (F7.2 h.1))]at hS;simp[p,N,B,F,h1];(with_reducible repeat' first|refine Xk ?_<;>try simp[p,N,B,F,h1]|refine Xs ?_ ?_<;>intro h<;>(try intro h')<;>(try simp[h,p,N,B,F,h1])<;>try omega|refine Xg ?_|omega);refine LJ.i (y+1) (by simp[hS]) rfl rfl rfl l4
   have x4:y=l.length:=by omega
   subst x4;rw[bF];have hD:=@UB (cs L) l.length;have Fw:=λi=>adK g hg l A rfl E q.ok O WM (i:=i);obtain⟨a,ha⟩:∃a,kT (cs L) l.length=a:=⟨_,rfl⟩;rw[ha]at f hD ⊢
   by_cases b:a<0
   .rw[if_pos b]at f;subst f;simp[b,m,t];refine qJ b m t ?_;obtain⟨f1,f2,f3⟩:=kI (.row 89 0 [.i 0,.fX]) rfl;exact⟨rfl,f1,f2,sr,f3,λ_=>⟨ow,P,Q,E.am8 h5 _,λv o M A=>(q.kp v o (ig M) A).2⟩⟩
   .rw[if_neg b]at f;have hD:=hD (by omega);have Fw:=Fw a (by omega) hD.1 (λj hj=>rfl) hp c0 hs;rw[Y]at Fw;obtain⟨I,W⟩:∃I,jX (qw (jM g l (gu g l)) (cs L) a) (cs L) L.length=I:=⟨_,rfl⟩;rw[W]at Fw f;subst f;simp[b,m,t];refine qJ b m t ?_;refine gj.kU rfl rfl Fw ?_;rintro _ H2 ⟨rfl,rfl⟩;simp[m,t];refine kM m t ?_;obtain⟨f1,f2,f3⟩:=kI (.row 89 0 [.i a,dN 1 f1 I]) (by simp);exact⟨⟨_,rfl,.inl rfl⟩,f1,f2,sr,f3,λh=>by cases h⟩
 .have kb:0<bad.length:=ax.2 Bc;have t:∀o,(H1.set H.length o)[H.length]? = some o:=λo=>aL (jj m);have V:=Gc Bc;subst V;have iG:=jj th;obtain⟨f1,f2,f3⟩:=kI (.row 89 0 [.i (-1),.fM v gn 1 0 bad.length]) (by simp[iG]);simp[m,t];refine kM m t ?_
  have c4:H.length<=v:=by
   refine fg λgE=>?_
   by_cases e:v=ck
   .rw[e,O]at th;simp at th
   .have:=(q.kp v _ (ig (List.getElem?_eq_getElem gE)) e).2;rw[vb]at this;simp at this
  exact⟨⟨_,rfl,.inr ⟨Bc,v,gn,rfl,by rw[aB (λe=>by rw[<-e,h5]at vb;simp at vb)];exact th,c4⟩⟩,f1,f2,sr,f3,λh=>by cases h⟩
end Go.Proofs.YtmehofoficaelaaGreatDoor
namespace Go.Proofs.YtmehofoficaelaaGreatDoor
open Go Go.AL Classical
set_option maxRecDepth 10000
set_option maxHeartbeats 16000000
attribute [-simp] s7
end Go.Proofs.YtmehofoficaelaaGreatDoor
namespace Go.Proofs.YtmehofoficaelaaGreatDoor
open Go Go.AL Classical
def eS:Env:=[(11,.ptr 2 0 0),(12,.ptr 4 0 0)]
def s8(l:List Int)(k:Int):List Int:=l.take k.toNat++l.drop (k.toNat+1)
theorem acW{l:List Int}{k:Int}(k0:0<=k)(k1:k<l.length):(s8 l k).length=l.length-1:=by unfold s8;rw[aj,aK,aR];omega
structure LS(H0 H:U)(q rv:Nat)(st:p9)(left gO:List Int)(ld:D):Prop where
 mY:H[2]? = some (.row 37 0 [ld])
 vw:(gO = []/\ld = .fX)\/(gO≠[]/\∃v g,(4<v/\(v=q\/H0.length<=v))/\ld = .fM v g 1 0 gO.length/\H[v]? = some (.row 3 g (cl f1 gO)))
 arr:∃zs,gw zs=true/\H[3]? = some (.row 3 0 (cl f1 left++zs))
 mZ:H[4]? = some (.row 37 0 [.fM 3 0 1 0 left.length])
 ok:jl H.length H
 B':4<rv
 rc:H[rv]? = some (.ia 1280 eS st)
 kp:∀w o,H0[w]? = some o->(4<w\/w<=1)->w≠rv->w≠q->H[w]? = some o
 le:H0.length<=H.length
section
variable{H0 H:U}{q rv:Nat}{st:p9}{left gO:List Int}{ld:D}
theorem LS.len(h:LS H0 H q rv st left gO ld):4<H.length:=jj h.mZ
theorem LS.Tc(h:LS H0 H q rv st left gO ld)(st':p9):LS H0 (H.set rv (.ia 1280 eS st')) q rv st' left gO ld:=by
 have key:∀ {w:Nat} {o:Ob},H[w]? = some o->w≠rv->(H.set rv (.ia 1280 eS st'))[w]? = some o:=λf j=>by rw[aB (cu j)];exact f
 have i:=h.B';refine⟨key h.mY (by omega),?_,?_,key h.mZ (by omega),?_,i,aL (jj h.rc),λw o h1 c b a=>key (h.kp w o h1 c b a) b,by rw[ar];exact h.le⟩
 .rcases h.vw with h1|⟨h1,v,g,c,b,a⟩
  .exact .inl h1
  .exact .inr ⟨h1,v,g,c,b,key a λe=>by rw[e,h.rc]at a;cases a⟩
 .obtain⟨zs,d,h1⟩:=h.arr;exact⟨zs,d,key h1 (by omega)⟩
 .rw[ar];refine pG h.ok ?_;have:=h.len;show((jm H.length (.ptr 2 0 0))&&((jm H.length (.ptr 4 0 0))&&true))=true;simp;omega
theorem LS.more(h:LS H0 H q rv st left gO ld){o:Ob}(f:mT (H.length+1) o=true):LS H0 (H ++ [o]) q rv st left gO ld:=by
 refine⟨ig h.mY,?_,?_,ig h.mZ,?_,h.B',ig h.rc,λw o h1 c b a=>ig (h.kp w o h1 c b a),by rw[aj];have:=h.le;omega⟩
 .rcases h.vw with h1|⟨h1,v,g,c,b,a⟩
  .exact .inl h1
  .grind
 .obtain⟨zs,d,h1⟩:=h.arr;exact⟨zs,d,ig h1⟩
 .rw[aj,aV];refine tN (wZ (by omega) h.ok) λx e=>?_;rw[List.mem_singleton.1 e];exact f
theorem LS.al7(h:LS H0 H q rv st left [] .fX)(x:Int):LS H0 ((H.set 2 (.row 37 0 [.fM H.length 0 1 0 1])) ++ [.row 3 0 (cl f1 [x])]) q rv st left [x] (.fM H.length 0 1 0 1):=by
 have hl:=h.len;have b:=h.B';have key:∀ {w:Nat} {o:Ob},H[w]? = some o->w≠2->((H.set 2 (.row 37 0 [.fM H.length 0 1 0 1])) ++ [.row 3 0 (cl f1 [x])])[w]? = some o:=λg i=>by grind
 refine⟨?_,.inr ⟨by simp,H.length,0,⟨hl,.inr h.le⟩,rfl,?_⟩,?_,key h.mZ (by omega),?_,b,key h.rc (by omega),λw o h1 e d c=>key (h.kp w o h1 e d c) (by omega),by rw[aj,ar];have:=h.le;omega⟩
 .grind
 .grind
 .obtain⟨zs,a,h1⟩:=h.arr;exact⟨zs,a,key h1 (by omega)⟩
 .rw[aj,ar,aV];refine tN (pG (wZ (by omega) h.ok) ?_) λy f=>?_
  .simp_all
  .simp_all
theorem LS.al8{v g:Nat}(a:v=q\/H0.length<=v)(h:LS H0 H q rv st left gO (.fM v g 1 0 gO.length))(hl:gO≠[])(m:4<v)(b:H[v]? = some (.row 3 g (cl f1 gO)))(x:Int) :
  LS H0 ((H.set v (.row 3 (g+1) (cl f1 (gO ++ [x])))).set 2 (.row 37 0 [.fM v (g+1) 1 0 (gO.length+1)])) q rv st left (gO ++ [x]) (.fM v (g+1) 1 0 (gO.length+1)):=by
 have i:=h.B';have d:=jj b;have c:rv≠v:=λe=>by rw[<-e,h.rc]at b;cases b
 have key:∀ {w:Nat} {o:Ob},H[w]? = some o->w≠2->w≠v->((H.set v (.row 3 (g+1) (cl f1 (gO ++ [x])))).set 2 (.row 37 0 [.fM v (g+1) 1 0 (gO.length+1)]))[w]? = some o:=λn p r=>by grind
 refine⟨aL (by rw[ar];have:=h.len;omega),.inr ⟨by simp,v,g+1,⟨m,a⟩,by simp,?_⟩,?_,key h.mZ (by omega) (by omega),?_,i,key h.rc (by omega) c,λw o h1 l k j=>key (h.kp w o h1 l k j) (by omega) λe=>?_,by rw[ar,ar];exact h.le⟩
 .grind
 .obtain⟨zs,f,h1⟩:=h.arr;exact⟨zs,f,key h1 (by omega) (by omega)⟩
 .rw[ar,ar];refine pG (pG h.ok (ym _)) ?_;show((jm H.length (.fM v (g+1) 1 0 (gO.length+1)))&&true)=true;simp[d]
 .rcases a with a|a
  .omega
  .have:=jj h1;omega
theorem LS.del(h:LS H0 H q rv st left gO ld){zs:List D}(b:gw zs=true)(m:H[3]? = some (.row 3 0 (cl f1 left++zs))){k:Int}(k0:0<=k)(k1:k<left.length) :
  LS H0 ((H.set 3 (.row 3 0 (cl f1 (s8 left k) ++ .i 0::zs))).set 4 (.row 37 0 [.fM 3 0 1 0 (left.length-1)])) q rv st (s8 left k) gO ld:=by
 have i:=h.B';have hl:=h.len;have key:∀ {w:Nat} {o:Ob},H[w]? = some o->w≠3->w≠4->((H.set 3 (.row 3 0 (cl f1 (s8 left k) ++ .i 0::zs))).set 4 (.row 37 0 [.fM 3 0 1 0 (left.length-1)]))[w]? = some o:=λj l n=>by grind
 refine⟨key h.mY (by omega) (by omega),?_,⟨.i 0::zs,by simpa[gw]using b,?_⟩,?_,?_,i,key h.rc (by omega) (by omega),λw o h1 f e c=>key (h.kp w o h1 f e c) (by omega) (by omega),by rw[ar,ar];exact h.le⟩
 .rcases h.vw with h1|⟨h1,v,g,f,e,c⟩
  .exact .inl h1
  .grind
 .grind
 .rw[aL (by rw[ar];omega),acW k0 k1]
 .rw[ar,ar];refine pG (pG h.ok ?_) ?_
  .refine List.all_eq_true.2 λd a=>?_;rcases List.mem_append.1 a with a|a
   .exact Ag (lH (ue _) d a)
   .rcases aw.1 a with rfl|a
    .rfl
    .exact Ag (lH b d a)
  .show((jm H.length (.fM 3 0 1 0 (left.length-1)))&&true)=true;simp;omega
end
end Go.Proofs.YtmehofoficaelaaGreatDoor
namespace Go.Proofs.YtmehofoficaelaaGreatDoor
open Go Go.AL Classical
set_option maxRecDepth 10000
set_option maxHeartbeats 16000000
attribute [-simp] s7
theorem VP{H:U}{v gen t:Nat}{zs:List D}{l:List Int}{i:Int}{K:D->U->Prop}(i0:0<=i)(hi:i<l.length)(a:H[v]? = some (.row t gen (cl f1 l++zs)))
  (k:K (.fM v gen 1 0 (l.length-1)) (H.set v (.row t gen (cl f1 (s8 l i) ++ .i 0::zs)))):Wf T 66 [.fM v gen 1 0 l.length,.i i,.i (i+1)] H K:=by
 obtain⟨n,rfl⟩:∃n:Nat,i=n:=⟨i.toNat,by omega⟩;have b:n<l.length:=by omega
 have e:(l.take n++l.drop (n+1) ++ [0]).map (λn=>D.i n)++zs=cl f1 (s8 l n) ++ .i 0::zs:=by unfold s8;rw[yX,bF,List.map_append,aJ];rfl
 rw[yX]at a;rw[<-e]at k;exact Ev.sD l n rfl b a ⟨_,_,rfl,k⟩
theorem adx{x:D}(a:cellsOf x=some [x])(H:U):Wf T 65 [x] H (λd H'=>d = .fn (.func 124) [] [.ptr H.length 0 0]/\H'=H ++ [.row 37 0 [x]]):=by refine Yg I3 ?_;simp[I3,sA,a]
theorem aog{H0 H:U}{q rv:Nat}{left gO:List Int}{ld:D}(h:LS H0 H q rv .ready left gO ld)(X:gO.length<=100000)(Q:left.length<=100000){k i:Int}(k0:0<=k)(k1:k<left.length){dst:Option Nat}{env:Env}{K:St->Prop}
  (F:∀H' L,LS H0 H' q rv .ready (s8 left k) (gO ++ [gt left k]) L->H.length<=H'.length->K { env:=put env dst (.b true),H:=H' }):qc T rv [.i i,.i k] dst { env:=env,H:=H } K .mk:=by
 have b:=h.Tc .busy;have E:=h.len;have DR:=jj h.rc;have Y:=h.B';refine qc.r (rf:=1280) (env0:=eS) (Rd:=CL) (by exact h.rc) rfl rfl CL.a CL.b (om rfl) (om rfl) ?_;have z:=h.rc;unfold eS at z;simp[CL,eS,z];obtain⟨a,w⟩:∃a,H.set rv (.ia 1280 [(11,.ptr 2 0 0),(12,.ptr 4 0 0)] .busy)=a:=⟨_,rfl⟩;have Z:a.length=H.length:=by rw[<-w,ar]
 rw[show eS = [(11,.ptr 2 0 0),(12,.ptr 4 0 0)]from rfl,w]at b;rw[w];clear w z;obtain⟨zs,C,N⟩:=b.arr;have f:∀R:U,(a++R)[2]? = some (.row 37 0 [ld]):=λR=>ig b.mY;have g:=b.mZ;have c:=N
 have hg:(cl f1 left++zs)[k.toNat]? = some (.i (gt left k)):=by rw[ah (by rw[rh];omega),yX,av,List.getElem?_eq_getElem (by omega),jb k0 k1];rfl
 have e:¬(2=a.length):=by omega
 have J:2<a.length:=by omega
 have W:∀R:U,(a++R)[3]? = some (.row 3 0 (cl f1 left++zs)):=λR=>ig c;have l:∀(R:U) (o:Ob),(a++R).set 2 o=a.set 2 o++R:=λR o=>aO _ _ J;have x:∀(o:Ob) (R:U),(a.set 2 o++R)[4]? = some (.row 37 0 [.fM 3 0 1 0 left.length]):=λo R=>ig (by rw[aB (by omega)];exact g);have I:∀(o:Ob) (R:U),(a.set 2 o++R)[3]? = some (.row 3 0 (cl f1 left++zs)):=λo R=>ig (by rw[aB (by omega)];exact c);rcases b.vw with⟨rfl,rfl⟩|⟨O,v,r,⟨V,A⟩,rfl,B⟩
 .have y:∀(o:Ob) (R:U) (i:Nat),(a.set 2 o++R)[a.length+i]? = R[i]? := λo R i=>by rw[ai (by rw[ar];omega),ar];congr 1;omega
  simp[f,b.mY,g,c,hg,k0,k1,e,l,y,x];(with_reducible repeat' first|refine Xk ?_<;>try simp[f,b.mY,g,c,hg,k0,k1,e,l,y,x]|refine Xs ?_ ?_<;>intro h<;>(try intro S)<;>(try simp[h,f,b.mY,g,c,hg,k0,k1,e,l,y,x])<;>try omega|refine Xg ?_|omega);refine gj.w (by simp[f,b.mY,e,l];rfl) ?_;refine gj.kU rfl rfl (VP (K:=λd H'=>d = .fM 3 0 1 0 (left.length-1)/\H'=(a.set 2 (Ob.row 37 0 [D.fM (a.length+1) 0 1 0 1]) ++ [Ob.row 3 0 [D.i (gt left k)],Ob.row 3 0 [D.i (gt left k)]]).set 3 (Ob.row 3 0 (cl f1 (s8 left k)++D.i 0::zs))) k0 k1 (I _ _) ⟨rfl,rfl⟩) ?_;rintro _ _ ⟨rfl,rfl⟩;simp[x]
  have j:=((b.more (o:=.row 3 0 [.i (gt left k)]) rfl).al7 (gt left k)).del (zs:=zs) C (by rw[l,aJ];exact I _ _) k0 k1
  rw[l,aJ,aj,aV]at j;have p:=j.rc;simp only[iI,bQ,bp,show f1 (gt left k) = [D.i (gt left k)]by simp]at j p;simp[p];exact F _ _ (j.Tc .ready) (by simp;omega)
 .have P:=jj B;have m:∀R:U,(a++R)[v]? = some (.row 3 r (cl f1 gO)):=λR=>ig B;have u:∀(R:U) (o:Ob),(a++R).set v o=a.set v o++R:=λR o=>aO _ _ P;have M:v≠2:=by omega
  have t:∀(o:Ob) (R:U),(a.set v o++R)[2]? = some (.row 37 0 [.fM v r 1 0 gO.length]):=λo R=>ig (by rw[aB M];exact b.mY);have s:∀(o o':Ob) (R:U),((a.set v o).set 2 o'++R)[4]? = some (.row 37 0 [.fM 3 0 1 0 left.length]):=λo o' R=>ig (by rw[aB (by omega),aB (by omega)];exact g);have G:∀(o o':Ob) (R:U),((a.set v o).set 2 o'++R)[3]? = some (.row 3 0 (cl f1 left++zs)):=λo o' R=>ig (by rw[aB (by omega),aB (by omega)];exact c);have n:∀(o o':Ob) (R:U),(a.set v o++R).set 2 o'=(a.set v o).set 2 o'++R:=λo o' R=>aO _ _ (by rw[ar];exact J);simp[f,b.mY,g,c,hg,k0,k1,e,m,u,t,n,s];(with_reducible repeat' first|refine Xk ?_<;>try simp[f,b.mY,g,c,hg,k0,k1,e,m,u,t,n,s]|refine Xs ?_ ?_<;>intro h<;>(try intro S)<;>(try simp[h,f,b.mY,g,c,hg,k0,k1,e,m,u,t,n,s])<;>try omega|refine Xg ?_|omega);refine gj.w (by simp[f,b.mY,e,m,u,t,n];rfl) ?_;refine gj.kU rfl rfl (VP (K:=λd H'=>d = .fM 3 0 1 0 (left.length-1)/\H'=((a.set v (Ob.row 3 (r+1) (cl f1 (gO ++ [gt left k])))).set 2 (Ob.row 37 0 [D.fM v (r+1) 1 0 (gO.length+1)]) ++ [Ob.row 3 0 [D.i (gt left k)]]).set 3 (Ob.row 3 0 (cl f1 (s8 left k)++D.i 0::zs))) k0 k1 (G _ _ _) ⟨rfl,rfl⟩) ?_;rintro _ _ ⟨rfl,rfl⟩;simp[s];have j:=(((b.al8 A O V B (gt left k))).more (o:=.row 3 0 [.i (gt left k)]) rfl).del (zs:=zs) C (G _ _ _) k0 k1;have p:=j.rc;simp[p];exact F _ _ (j.Tc .ready) (by simp;omega)
end Go.Proofs.YtmehofoficaelaaGreatDoor
namespace Go.Proofs.YtmehofoficaelaaGreatDoor
open Go Go.AL Classical
theorem anX{n k:Nat}(h:k<n):∃R:List Int,upto n=upto k++(k:Int)::R/\∀p∈R,(k:Int)<p:=by
 refine⟨(List.range' (k+1) (n-(k+1))).map λi:Nat=>(i:Int),?_,λp a=>?_⟩
 .unfold upto
  rw[show((k:Int)::(List.range' (k+1) (n-(k+1))).map λi:Nat=>(i:Int))=(List.range' k (n-k)).map λi:Nat=>(i:Int)by rw[show n-k=(n-(k+1))+1 by omega,cH];rfl,<-List.map_append]
  congr 1;rw[cK,cK];have:=List.range'_append (s:=0) (m:=k) (n:=n-k) (step:=1);rw[show k+(n-k)=n by omega,Nat.one_mul,aQ]at this;exact this.symm
 .obtain⟨i,hi,rfl⟩:=ao.1 a;rw[List.mem_range'_1]at hi;omega
theorem amH{left S:List Int}{k:Nat}(h:k<left.length)(hS:∀p∈S,(k:Int)<p) :
  ∃R,mC left S=left.take k++gt left k::R/\mC left ((k:Int)::S)=left.take k++R:=by
 obtain⟨R,f,g⟩:=anX h
 have e:∀S:List Int,(∀p∈S,(k:Int)<p\/p=k)->((upto k).filter λp => !S.contains p)=upto k:=λS hS=>eI.2 λp a=>by have:=iS.1 a;simp only[cZ,dp,decide_eq_false_iff_not];intro c;rcases hS p c with h|h<;>omega
 have d:((upto k).map λp=>gt left p)=left.take k:=by
  refine bC (by simp[pd];omega) λi h1 j=>?_;rw[List.getElem_map,List.getElem_take];have hi:i<k:=by simpa[pd]using h1
  have:(upto k)[i]'(by rw[pd];exact hi)=(i:Int):=by simp[upto]
  rw[this,jb (by omega) (by omega)];simp
 refine⟨(R.filter λp => !S.contains p).map λp=>gt left p,?_,?_⟩
 .unfold mC
  have b:(!S.contains (k:Int))=true:=by simp only[cZ,dp,decide_eq_false_iff_not];intro c;have:=hS _ c;omega
  rw[f,dh,e S λp a=>.inl (hS p a),List.map_append,d,List.filter_cons,if_pos b];rfl
 .unfold mC;have b:¬(!((k:Int)::S).contains (k:Int))=true:=by simp
  rw[f,dh,e _ λp a=>?_,List.map_append,d,List.filter_cons,if_neg b]
  .congr 2;refine List.filter_congr λp a=>?_;have:=g p a;simp;omega
  .rcases aw.1 a with rfl|a
   .exact .inr rfl
   .exact .inl (hS p a)
theorem aaj(left:List Int):mC left []=left:=by
 unfold mC;rw[eI.2 (by simp)];refine bC (by simp[pd]) λi h1 a=>?_;rw[List.getElem_map];have:(upto left.length)[i]'(by rw[pd];exact a)=(i:Int):=by simp[upto]
 rw[this,jb (by omega) (by omega)];simp
theorem amI{left S:List Int}{k:Int}(k0:0<=k)(h:k<left.length)(hS:∀p∈S,k<p) :
  (k<(mC left S).length/\gt (mC left S) k=gt left k)/\s8 (mC left S) k=mC left (k::S):=by
 obtain⟨n,rfl⟩:∃n:Nat,k=n:=⟨k.toNat,by omega⟩;have b:n<left.length:=by omega
 obtain⟨R,h1,c⟩:=amH b hS;have hl:(left.take n).length=n:=by rw[aK];omega
 rw[h1,c];have a:n<(left.take n++gt left n::R).length:=by simp;omega
 refine⟨⟨by omega,?_⟩,?_⟩
 .rw[jb (by omega) (by omega)];simp only[bF];rw[List.getElem_append_right (by omega)];simp[hl]
 .unfold s8;simp only[bF];rw[aU (by omega),af (by omega),show n+1=(left.take n).length+1 by omega,ff];simp
end Go.Proofs.YtmehofoficaelaaGreatDoor
namespace Go.Proofs.YtmehofoficaelaaGreatDoor
open Go Go.AL Classical
set_option maxRecDepth 10000
set_option maxHeartbeats 16000000
attribute [-simp] s7
theorem adL{H0 H:U}{q rv:Nat}{left gO:List Int}{ld:D}(h:LS H0 H q rv .ready left gO ld){ls:List Int}(M:∀k∈ls,0<=k/\k<left.length)(N:ls.Pairwise (· < ·))(X:ls.length<=100000)
  (W:gO.length+ls.length<=100000) (Q:left.length<=100000) {n:Nat} {x:D} (I:H0[n]? = some (.row 37 0 [x])) (o:4<n/\n≠rv/\n≠q)
  (G:x=dN 1 f1 ls\/∃v g,x = .fM v g 1 0 ls.length/\H0[v]? = some (.row 3 g (cl f1 ls))/\4<v/\v≠rv/\v≠q) :
  Wf T 124 [.iP rv,.ptr n 0 0] H (λ_ H'=>∃b,LS H0 H' q rv .ready (mC left ls) (gO++ls.reverse.map λk=>gt left k) b/\H.length<=H'.length):=by
 have z:∀Hc,mK .slice x Hc=some (.i ls.length):=λHc=>by
  rcases G with rfl|⟨v,g,rfl,_⟩
  .cases ls with
   | nil=>rfl
   | cons a r=>simp[dN]
  .simp
 have t:∀S:List Int,(mC left S).length<=left.length:=λS=>by unfold mC;rw[List.length_map];have:=List.length_filter_le (λp => !S.contains p) (upto left.length);rwa [pd]at this
 have d:=h.kp n _ I (.inl o.1) o.2.1 o.2.2;refine Yg Jj ?_;simp[Jj,z,d];(with_reducible repeat' first|refine Xk ?_<;>try simp[z,d]|refine Xs ?_ ?_<;>intro h<;>(try intro u)<;>(try simp[h,z,d])<;>try omega|refine Xg ?_|omega);refine fZ.e ((H,(ls.length:Int)-1,ld):U×Int×D) (λy=>[(0,.iP rv),(1,.ptr n 0 0),(3,.i y.2.1)]) (λy=>y.1) (λy=>(-1<=y.2.1/\y.2.1<ls.length)/\H.length<=y.1.length/\LS H0 y.1 q rv .ready (mC left (ls.drop (y.2.1+1).toNat)) (gO++(ls.drop (y.2.1+1).toNat).reverse.map λk=>gt left k) y.2.2) (λy=>(y.2.1+1).toNat) ?_ ?_
 .refine o9 ⟨Nat.le_refl _,?_⟩;dsimp only;rw[show((ls.length:Int)-1+1).toNat=ls.length by omega,List.drop_length,aaj];simpa using h
 rintro⟨Hc,i,A⟩ ⟨⟨i0,O⟩,L,f⟩;dsimp only at i0 O L f ⊢;have d:=f.kp n _ I (.inl o.1) o.2.1 o.2.2
 by_cases hi:0<=i
 .obtain⟨m,rfl⟩:∃m:Nat,i=m:=⟨i.toNat,by omega⟩;have s:m<ls.length:=by omega
  have e:ls.drop m=gt ls m::ls.drop (m+1):=by rw[bH s,jb (by omega) (by omega)];rfl
  rw[show((m:Int)+1).toNat=m+1 by omega]at f
  have l:(cl f1 ls)[m]? = some (.i (gt ls (m:Int))):=by rw[yX,av,List.getElem?_eq_getElem s,jb (by omega) (by omega)];rfl
  obtain⟨k,w⟩:∃k,gt ls (m:Int)=k:=⟨_,rfl⟩;rw[w]at e l;have F:∀h,(cl f1 ls)[m]'h = .i k:=λh=>by rw[List.getElem?_eq_getElem h]at l;exact bX l
  obtain⟨S,hS⟩:∃S,ls.drop (m+1)=S:=⟨_,rfl⟩;rw[hS]at e f;have P:(k::S).Pairwise (· < ·):=by rw[<-e];exact N.drop
  have C:=(bg.1 P).1;have B:k∈ls:=bq (i:=m) (by rw[e];simp)
  have V:S.length+1<=ls.length:=by have:=congrArg List.length e;rw[aR,aH]at this;omega
  obtain⟨k0,k1⟩:=M k B;obtain⟨⟨q1,q2⟩,q3⟩:=amI k0 k1 C
  have J:∀(env:Env) (K:St->Prop),(∀H' b,LS H0 H' q rv .ready (mC left (ls.drop m)) ((gO++S.reverse.map λk=>gt left k) ++ [gt left k]) b->Hc.length<=H'.length->K { env:=put env (some 17) (.b true),H:=H' }) ->
    qc T rv [.i (m:Int),.i k] (some 17) { env:=env,H:=Hc } K .mk:=λenv K R=>aog f (by simp;omega) (by have:=t S;omega) k0 q1 λH' b c j=>by
   rw[q2,q3,<-e]at c;exact R H' b c j
  rcases G with rfl|⟨v,g,rfl,hv,BB,hv5,hv6⟩
  .simp[d];(with_reducible repeat' first|refine Xk ?_<;>try simp[w]|refine Xs ?_ ?_<;>intro h<;>(try intro u)<;>(try simp[h,w])<;>try omega|refine Xg ?_|omega);simp[w];refine J _ _ λH' b c j=>?_;simp;(with_reducible repeat' first|refine Xk ?_<;>try simp|refine Xs ?_ ?_<;>intro h<;>(try intro u)<;>(try simp[h])<;>try omega|refine Xg ?_|omega);refine LJ.i (H',(m:Int)-1,b) (by simp) rfl rfl rfl ⟨by dsimp only;omega,im,by dsimp only;omega,?_⟩;dsimp only;rw[show((m:Int)-1+1).toNat=m by omega];rw[e]at c ⊢;simpa using c
  .have E:=f.kp v _ hv (.inl BB) hv5 hv6;simp[d,E,l,F,s];(with_reducible repeat' first|refine Xk ?_<;>try simp[d,E,l,F,s]|refine Xs ?_ ?_<;>intro h<;>(try intro u)<;>(try simp[h,d,E,l,F,s])<;>try omega|refine Xg ?_|omega);refine J _ _ λH' b c j=>?_;simp;(with_reducible repeat' first|refine Xk ?_<;>try simp|refine Xs ?_ ?_<;>intro h<;>(try intro u)<;>(try simp[h])<;>try omega|refine Xg ?_|omega);refine LJ.i (H',(m:Int)-1,b) (by simp) rfl rfl rfl ⟨by dsimp only;omega,im,by dsimp only;omega,?_⟩;dsimp only;rw[show((m:Int)-1+1).toNat=m by omega];rw[e]at c ⊢;simpa using c
 .simp[hi];(with_reducible repeat' first|refine Xk ?_<;>try simp[hi]|refine Xs ?_ ?_<;>intro h<;>(try intro u)<;>(try simp[h,hi])<;>try omega|refine Xg ?_|omega);rw[show(i+1).toNat=0 by omega,eO]at f;exact⟨⟨A,by simpa using f⟩,L⟩
end Go.Proofs.YtmehofoficaelaaGreatDoor
namespace Go.Proofs.YtmehofoficaelaaGreatDoor
open Go Go.AL Classical
theorem abF{cl:List gA}{n:Nat}(h:¬kT cl n<0):mu (sd cl (kT cl n))=true/\0<=kT cl n/\kT cl n<n:=by
 rcases Fj cl n with⟨e,_⟩|⟨h1,a,_⟩
 .omega
 .exact⟨a,h1⟩
theorem agi{A:l6}{n:Nat}{ad:gA->Bool}{cl:List gA}{a:Int}{ls:List Int}(h:mS A n ad cl = .v a ls):(∃q,ls=idx q cl)/\ls≠[]/\-1<=a:=by
 unfold mS at h;split at h
 .rename_i m;cases h;exact⟨⟨_,rfl⟩,m,by omega⟩
 split at h
 .cases h
 split at h
 .rename_i i hi;cases h;have h1:=List.find?_some hi;have o:=eY hi;rw[iS]at o;exact⟨⟨_,rfl⟩,by simpa using h1,by omega⟩
 .rename_i d;split at h
  .cases h
  .rename_i f;cases h;obtain⟨l,h0,h1⟩:=abF f
   have k:∀r∈sd cl (kT cl n),ln r=true:=λr j=>by
    obtain⟨c,b,p,rfl⟩:=sf.1 j;have:=dj.1 d (kT cl n) (iS.2 ⟨h0,h1⟩);simp only[decide_eq_true_eq,Classical.not_not]at this
    cases e:ln (ky c (kT cl n))with
    | true=>rfl
    | false=>exact absurd this (x8.2 ⟨c,b,by simp[p,e]⟩)
   obtain⟨c,b,g⟩:=abb (A:=A) k l;exact⟨⟨_,rfl⟩,x8.2 ⟨c,b,g⟩,by omega⟩
theorem af5{q:gA->Bool}{cl:List gA}:∀k∈idx q cl,0<=k/\k<cl.length:=λk a=>(BM.1 a).1
theorem TA(n:Nat):(upto n).Pairwise (· < ·):=by unfold upto;rw[eV];exact List.pairwise_lt_range.imp λh=>by omega
theorem af6{q:gA->Bool}{cl:List gA}:(idx q cl).Pairwise (· < ·):=(TA _).filter _
structure LB(g:fY)(l:List Pos)(nx:List (List Int))(L:List Cw)(H:U)(left gO:List Int)(ld dv:D):Prop where
 h0:H[0]? = some (.row 43 0 g.cells)
 ct:∃old,H[1]? = some (.row 168 0 (ke g l nx dv old))
 mY:H[2]? = some (.row 37 0 [ld])
 vw:(gO = []/\ld = .fX)\/(gO≠[]/\∃v gn,4<v/\ld = .fM v gn 1 0 gO.length/\H[v]? = some (.row 3 gn (cl f1 gO)))
 arr:∃zs,gw zs=true/\H[3]? = some (.row 3 0 (cl f1 left++zs))
 mZ:H[4]? = some (.row 37 0 [.fM 3 0 1 0 left.length])
 ok:jl H.length H
 cv:CV H 1 (left.map λk=>gt L k) dv
theorem LB.agl{g:fY}{l:List Pos}{nx:List (List Int)}{L:List Cw}{H H':U}{left gO:List Int}{ld dv:D}{cm:List gA}{J:Jd}{d:D}(h:LB g l nx L H left gO ld dv)(a:JP g l nx dv cm H H' 1 J d) :
  LB g l nx L H' left gO ld dv:=by
 obtain⟨sr,f,_⟩:=a.ct;refine⟨a.kp _ _ h.h0 (by omega),⟨_,f⟩,a.kp _ _ h.mY (by omega),?_,?_,a.kp _ _ h.mZ (by omega),a.ok,?_⟩
 .rcases h.vw with h1|⟨h1,v,e,c,b,j⟩
  .exact .inl h1
  .exact .inr ⟨h1,v,e,c,b,a.kp _ _ j (by omega)⟩
 .obtain⟨zs,i,h1⟩:=h.arr;exact⟨zs,i,a.kp _ _ h1 (by omega)⟩
 .rcases h.cv with h1|h1|⟨v,e,h1,c,b⟩
  .exact .inl h1
  .exact .inr (.inl h1)
  .exact .inr (.inr ⟨v,e,h1,c,a.kp _ _ b h1⟩)
theorem LB.toLS{g:fY}{l:List Pos}{nx:List (List Int)}{L:List Cw}{H:U}{left gO:List Int}{ld dv:D}(h:LB g l nx L H left gO ld dv){R:U}{j:Nat}(k:R[j]? = some (.ia 1280 eS .ready))(m:∀o∈R,mT (H.length+R.length) o=true) :
  ∃q,(q=2\/∃a,ld = .fM q a 1 0 gO.length/\4<q)/\q<H.length/\LS (H++R) (H++R) q (H.length+j) .ready left gO ld:=by
 have n:=jj h.mZ
 have fV:jl (H++R).length (H++R):=by rw[aj];exact tN (wZ (by omega) h.ok) m
 have c:(H++R)[H.length+j]? = some (.ia 1280 eS .ready):=by rw[ai (by omega),Nat.add_sub_cancel_left];exact k
 obtain⟨zs,d,h1⟩:=h.arr;rcases h.vw with b|⟨b,v,a,f,e,i⟩
 .exact⟨2,.inl rfl,by omega,ig h.mY,.inl b,⟨zs,d,ig h1⟩,ig h.mZ,fV,by omega,c,λw o h1 _ _ _=>h1,Nat.le_refl _⟩
 .exact⟨v,.inr ⟨a,e,f⟩,jj i,ig h.mY,.inr ⟨b,v,a,⟨f,.inl rfl⟩,e,ig i⟩,⟨zs,d,ig h1⟩,ig h.mZ,fV,by omega,c,λw o h1 _ _ _=>h1,Nat.le_refl _⟩
end Go.Proofs.YtmehofoficaelaaGreatDoor
namespace Go.AL
open Go
section
variable{T:il}{live:List Nat}{a:IR}{s:St}{K:iQ}{α:Type}
theorem fZ.mi(keys:List Nat)(j:(keys.all λk=>live.contains k)=true)(E:α->Env)(f:α->U)(M:α->List Nat)(P:α->Prop)(d:α->Nat)(c:α)
  (h0:P c) (t:forget keys s.env=E c) (p:s.H=f c) (l:s.marks=M c)
  (h:∀x,P x->XC T a { env:=E x,H:=f x,marks:=M x,iq:=s.iq } (vJ s.H.length live keys (λe H m r=>∃b,e=E b/\H=f b/\m=M b/\r=s.iq/\d b<d x/\P b) K)):fZ T live a s K .mk:=by
 refine Wc.loop (λm g=>∃x,P x/\m=d x/\({ g with env:=forget keys g.env }:St) = { env:=E x,H:=f x,marks:=M x,iq:=s.iq }) (d c) ⟨c,h0,rfl,?_⟩ ?_
 .dsimp only;rw[Wq j,t];rw[<-p,<-l]
 .rintro m g ⟨x,hP,rfl,n⟩;refine Ev.F3 keys ?_;rw[n];refine(XC.wc (h x hP)).mono λo i=>?_
  cases o with
  | norm w=>
   obtain⟨b,u,A,z,y,v,h1⟩:=i;refine⟨d b,v,b,h1,rfl,?_⟩;rw[u];generalize cut s.H.length live w=q at *;cases q;simp_all
  | exit=>exact i
  | ret=>exact i
def LM(E:α->Env)(b:α->U)(M:α->List Nat)(Q:α->Prop)(_:Tag (E,b,M,Q))(e:Env)(H:U)(m:List Nat)(r:Bool):Prop:=
 ∃a,e=E a/\H=b a/\m=M a/\r=false/\Q a
theorem LM.i{E:α->Env}{b:α->U}{M:α->List Nat}{Q:α->Prop}{t:Tag (E,b,M,Q)}{e:Env}{H:U}{m:List Nat}{r:Bool}(a:α)(h1:e=E a)(g:H=b a)(f:m=M a)(d:r=false)(c:Q a):LM E b M Q t e H m r:=⟨a,h1,g,f,d,c⟩
theorem fZ.m(b:α)(E:α->Env)(c:α->U)(M:α->List Nat)(P:α->Prop)(d:α->Nat)
  (h:∀x,P x->XC T a { env:=E x,H:=c x,marks:=M x } (vJ s.H.length live ((E b).map (·.1)) (LM E c M (λe=>d e<d x/\P e) .mk) K))
  (h0:P b) (l:forget ((E b).map (·.1)) s.env=E b) (j:s.H=c b) (i:s.marks=M b) (g:s.iq=false) (f:(((E b).map (·.1)).all λk=>live.contains k)=true):fZ T live a s K .mk:=
 fZ.mi _ f E c M P d b h0 l j i (by rw[g];exact h)
