/- Part 44 of DisputeMatchesReference. -/
import Derived.Test.YtmehofoficaelaaGreatDoorM43
set_option linter.all false
open And renaming intro→aE
open Option renaming some→bb
open List renaming mem_singleton→bs,getElem?_eq_getElem→b4,length_map→cp,map_append→di,getElem_map→dx,replicate→eh,filter_cons→ek,range'→ep,length→List.l
open Int renaming toNat_natCast→cj,toNat→Int.n
open Bool renaming true→dr,false→en
namespace Go.Proofs.YtmehofoficaelaaGreatDoor
open Go Go.AL Classical
set_option maxRecDepth 10000
set_option maxHeartbeats 16000000
attribute [-simp] uU
def su(cm:List gR)(m j k:Int)(V:List gj)(seen:List Nat):List gj:=if seen≠[]/\(gY cm j).l=1/\(l5 (sd cm j)).2<m then pt (pt V k (2,0)) k (l5 (sd cm j))else pt V k (2,0)
@[simp] theorem aqe(cm:List gR)(m j k:Int)(V:List gj):su cm m j k V []=pt V k (2,0):=if_neg λh=>h.1 rfl
section
variable{cm:List gR}{m j k:Int}{V:List gj}{seen:List Nat}
theorem acZ(k0:0<=k)(k1:k<V.l):(su cm m j k V seen).l=V.l:=by
 unfold su;have h:=jg (l:=V) (v:=((2,0):gj)) k0 k1;split
 .rw[jg k0 U,h]
 .exact h
theorem ac0(k0:0<=k)(k1:k<V.l){i:Int}(i0:0<=i)(h:i≠k):gt (su cm m j k V seen) i=gt V i:=by
 unfold su;have hl:=jg (l:=V) (v:=((2,0):gj)) k0 k1;split
 .rw[qj k0 U i0,if_neg h,qj k0 k1 i0,if_neg h]
 .rw[qj k0 k1 i0,if_neg h]
theorem aqd(k0:0<=k)(k1:k<V.l)(hs:sd cm j≠[])(d:∀t,t<(gY cm j).l->t∈seen):gt (su cm m j k V seen) k=q' cm m j:=by
 unfold su q';have hl:=jg (l:=V) (v:=((2,0):gj)) k0 k1;have f:(gY cm j).l≠0:=λh=>hs (OC.1 h)
 have b:seen≠[]:=λh=>by have:=d 0 U;rw[h]at this;cases this
 have a:(gY cm j).l=1↔lH (sd cm j)=false:=by
  have:=Ic (cl:=cm) (i:=j)
  cases e:lH (sd cm j)with
  | true=>
   rw[e]at this;constructor
   .grind
   .grind
  | false=>
   rw[e]at this;constructor
   .intro _;rfl
   .grind
 by_cases c:lH (sd cm j)=en/\(l5 (sd cm j)).2<m
 .rw[if_pos c,if_pos ⟨b,a.2 c.1,c.2⟩,qj k0 U k0,if_pos rfl]
 .rw[if_neg c,if_neg λh=>c ⟨a.1 h.2.1,h.2.2⟩,qj k0 k1 k0,if_pos rfl]
end
section
variable{H:gg}{ck sr n:Nat}{M:Nat->kL}{ow:Nat->Nat×Nat×Nat}{P:Nat->Nat}{Q:Nat->Nat->Nat}
theorem afO(g:gv)(hg:gZ g)(l:List Pos)(hc:mY g l){dcl:D}(pU:n=l.l)(E:na H ck sr n M ow P Q)(gu:jM H.l H)(S:H[ck]? = bb (.row 168 0 (kO g l (gy g l) dcl (.gh sr 0 1 0 n))))
  {cm:List gR} (h8:cm.l<=100000) {i:Int} (i0:0<=i) (C:i<n) (hM:∀j,j<n->M j=gY cm j)
  (hp:∀j:Int,0<=j->j<l.l->∀r∈sd cm j,lV r=dr) (hb:∀j:Int,0<=j->j<l.l->∀r∈sd cm j,r.2<=4000) (hs:∀j:Int,0<=j->j<l.l->sd cm j≠[]) :
  Wf T 123 [.ptr ck 0 0,.i i] H (λd H'=>d=dN 1 f1 (jw (o3 (iv g l (gy g l)) cm i) cm cm.l)/\H'=H):=by
 subst pU;have g3:=hc.len;have uD:=hc.ok _ (gF i0 C);have kR:(gy g l).l=l.l:=by simp[gy]
 have gQ:=(oN hc (i:=i) i0 C).2;have ig:=(oN hc (i:=i) i0 C).1
 have oz:(gt (gy g l) i).l<=4000000000:=by rw[ig,cp];have:=wG hg uD;omega
 have ly:(stat g (gt l i)).2=en->0<(gt (gy g l) i).l:=λh=>by
  rw[ig,cp];have:jb g (gt l i)≠[]:=λe=>by unfold stat at h;simp[e]at h
  exact ao.2 this
 have Ci:=f54 g hg (gt l i) uD;obtain⟨m,hm⟩:∃m,oB (sd cm i)=m:=⟨_,rfl⟩
 have tj:(stat g (gt l i)).2=dr->∀c∈cm,(ke c i&&decide (jH c i≠((stat g (gt l i)).1,0)))=o3 (iv g l (gy g l)) cm i c:=λh c _=>by unfold o3;rw[if_pos (show(iv g l (gy g l)).ov i=dr from h)];rfl
 have B:(stat g (gt l i)).2=en->(mr ((gt (gy g l) i).map (q' cm m))).1≠2->∀c∈cm,(ke c i&&decide (jH c i≠mr ((gt (gy g l) i).map (q' cm m))))=o3 (iv g l (gy g l)) cm i c:=λh f c _=>by unfold o3;rw[if_neg (by rw[show(iv g l (gy g l)).ov i=en from h];simp),hm,PM,show gt (iv g l (gy g l)).nx i=gt (gy g l) i from rfl,if_pos f]
 have A:(stat g (gt l i)).2=en->(mr ((gt (gy g l) i).map (q' cm m))).1=2->∀c∈cm,(ke c i&&decide ((jH c i).1≠2/\(jH c i).2=m))=o3 (iv g l (gy g l)) cm i c:=λh f c _=>by unfold o3;rw[if_neg (by rw[show(iv g l (gy g l)).ov i=en from h];simp),hm,PM,show gt (iv g l (gy g l)).nx i=gt (gy g l) i from rfl,if_neg (by rw[f];simp)]
 obtain⟨W,hW⟩:∃W,jw (o3 (iv g l (gy g l)) cm i) cm cm.l=W:=⟨_,rfl⟩;have yj:∀p:gR->Bool,(∀c∈cm,p c=o3 (iv g l (gy g l)) cm i c)->jw p cm cm.l=W:=λp h=>by rw[<-hW];exact TN U h
 rw[hW];obtain⟨nx,mW⟩:∃nx,gy g l=nx:=⟨_,rfl⟩;rw[mW]at S kR gQ oz ly B A yj tj;obtain⟨st,gD⟩:∃st,stat g (gt l i)=st:=⟨_,rfl⟩;rw[gD]at Ci ly tj B A;obtain⟨o,ov⟩:=st;dsimp only at Ci ly tj B A;have rU:(kO g l nx dcl (.gh sr 0 1 0 l.l))[12]? = bb (.gh sr 0 1 0 l.l):=by unfold kO;simp
 have v:∀R:gg,(H++R)[ck]? = bb (.row 168 0 [.i g.size,.sl 1 (g.next.map fI),dI g.jS,.sl 3 (g.kinds.map Kind.cells),.i g.gX,.b g.pI,dN 4 Clause.cells g.clauses,.i g.blocked,.i g.w7,gT l,.sl 1 (nx.map fN),dcl,.gh sr 0 1 0 l.l]):=λR=>by rw[iH S];unfold kO;simp
 have Zp:=jQ S;have hA:oO H.l (.row 157 0 [.ptr ck 0 0])=true:=by simp[Zp]
 have zl:∀(G:gg),jM H.l G->jM (H++(Ob.row 157 0 [.ptr ck 0 0]::Ob.row 3 0 [.i i]::G)).l (H++(Ob.row 157 0 [.ptr ck 0 0]::Ob.row 3 0 [.i i]::G)):=λG hG=>Jw gu rfl λx E=>by
  rcases ay.1 E with rfl|E
  .exact hA
  .rcases ay.1 E with rfl|E
   .rfl
   .exact hG x E
 have Io:∀j:Int,0<=j->j<l.l->M j.n=gY cm j:=λj j0 j1=>jZ;refine Yg K3 ?_;simp[K3,v];refine iU v ?_;refine Yt (Ci) ?_;simp[v];cases ov
 .have ly:=ly rfl;have B:=B rfl;have A:=A rfl;obtain⟨x,Dg⟩:∃x,gt nx i=x:=⟨_,rfl⟩;rw[Dg]at gQ oz ly B A;simp;refine gi ?_;refine gE.w ny ?_;refine gE.lU rfl rfl (RH (H:=H ++ [.row 157 0 [.ptr ck 0 0],.row 3 0 [.i i]]) (E.app _) (zl [] λ_ h=>by cases h) (iH S) rU i0 C (Io i i0 C) (hp i i0 C)) ?_;rintro _ H' ⟨rfl,rfl⟩;rw[hm];simp[v,Dg,rO];refine kG v Dg rO ?_;have hz:(eh x.l [D.i 0,D.i 0]).flatten=AL.cl fS (eh x.l (0,0)):=oh;refine gx.s (by simp[hz];rfl) ?_;refine gx.e ((0,eh x.l (0,0),[]):Int×List gj×gg) (λy=>[(2,.ptr H.l 0 0),(3,.ptr (H.l+1) 0 0),(5,.fn (.func 186) [] [.ptr H.l 0 0,.ptr (H.l+1) 0 0]),(8,.ptr (H.l+2) 0 0),(9,.gh (H.l+3) 0 2 0 x.l),(53,dN 1 f1 x),(54,.i x.l),(55,.i y.1)]) (λy=>H++(.row 157 0 [.ptr ck 0 0] :: .row 3 0 [.i i] :: .row 3 0 [.i m] :: .row 86 0 (AL.cl fS y.2.1)::y.2.2)) (λy=>(0<=y.1/\y.1<=x.l)/\y.2.1.l=x.l/\(∀j:Int,0<=j->j<y.1->gt y.2.1 j=q' cm m (gt x j))/\(∀j:Int,y.1<=j->j<x.l->gt y.2.1 j=(0,0))/\jM H.l y.2.2) (λy=>(x.l-y.1).n) ?_ ?_
  .refine⟨gf,gf,λj j0 j1=>absurd j1 gI,λj j0 j1=>?_,λ_ h=>by cases h⟩;rw[iV j0 (by simpa using j1)];simp
  rintro⟨k,V,R⟩ ⟨⟨k0,k1⟩,hV,A4,Sv,hR⟩;dsimp only at k0 k1 hV A4 Sv hR ⊢
  by_cases hk:k<x.l
  .obtain⟨j,hj⟩:∃j,gt x k=j:=⟨_,rfl⟩;have a:=gQ _ (gF k0 hk);rw[hj]at a;have Pa:=aeb k0 (by omega:k<V.l) 2;rw[Sv k U hk]at Pa;obtain⟨p1,_⟩:=E.mp j.n U;rw[Io j a.1 a.2]at p1;have N:∀R:gg,(H++R)[sr]? = bb (.row 170 0 ((List.range l.l).map λj=>D.gM (P j))):=λR=>iH E.row;obtain⟨p,L⟩:∃p,P j.n=p:=⟨_,rfl⟩;obtain⟨q,zB⟩:∃q,Q j.n=q:=⟨_,rfl⟩;rw[L,zB]at p1;have J:∀R:gg,(H++R)[p]? = bb (.map KS (jo q 0 (gY cm j))):=λR=>iH p1;have iR:=jQ p1;simp[hk,hj,v,Pa,N,L,J,a.1,a.2];refine kG (aE hk (aE hj v)) (aE Pa (aE N L)) (aE J (aE a.1 a.2)) ?_;refine gx.s (by simp[Pa];rfl) ?_;refine gx.e (([],[]):List Nat×gg) (λz=>[(2,.ptr H.l 0 0),(3,.ptr (H.l+1) 0 0),(5,.fn (.func 186) [] [.ptr H.l 0 0,.ptr (H.l+1) 0 0]),(8,.ptr (H.l+2) 0 0),(9,.gh (H.l+3) 0 2 0 x.l),(10,.i k),(11,.i j),(53,dN 1 f1 x),(54,.i x.l),(55,.i k),(71,.ptr (H.l+(R.l+4)) 0 0)]) (λz=>H++(.row 157 0 [.ptr ck 0 0] :: .row 3 0 [.i i] :: .row 3 0 [.i m] :: .row 86 0 (AL.cl fS (su cm m j k V z.1))::(R ++ .jG (.gM p) (gY cm j).l z.1::z.2))) (λz=>z.1.Nodup/\(∀t∈z.1,t<(gY cm j).l)/\jM H.l z.2) (λz=>(gY cm j).l-z.1.l) ?_ ?_
   .simp_all
   rintro⟨seen,Z⟩ ⟨mV,gW,hZ⟩;dsimp only at mV gW hZ ⊢;simp;refine vP.at (m:=p) (since:=(gY cm j).l) (seen:=seen) (kk:=KS) (es:=jo q 0 (gY cm j)) gf (by simp[J]) gf (λkb=>?_) λt kv dv he hi=>?_
   .have kb:∀t,t<(gY cm j).l->t∈seen:=by simpa using kb
    simp;refine gi ?_;refine LJ.i (k+1,su cm m j k V seen,R ++ .jG (.gM p) (gY cm j).l seen::Z) gf gf rfl rfl ?_;refine⟨gI,gU,by rw[acZ k0 U];exact hV,λi' h0 h1=>?_,λi' h0 h1=>?_,vC hR λo b=>?_⟩
    .dsimp only at h1 ⊢
     by_cases e:i'=k
     .subst e;rw[hj];exact aqd k0 U (hs j a.1 a.2) kb
     .rw[ac0 k0 U h0 e];exact A4 i' h0 U
    .dsimp only at h0 ⊢;rw[ac0 k0 U U U];exact Sv i' U h1
    .rcases ay.1 b with rfl|b
     .show decide (p<H.l)=dr;exact decide_eq_true iR
     .exact hZ o b
   .rw[w9]at he;obtain⟨y,vh,I1⟩:=aq.1 he;cases I1;have O:=JQ mV gW (ae.1 vh).1 hi;have X:(jo q 0 (gY cm j))[t]? = bb (ma y.1,oI (q t) y.2):=by rw[w9,vh];simp
    have e:(H++(Ob.row 157 0 [.ptr ck 0 0]::Ob.row 3 0 [.i i]::Ob.row 3 0 [.i m]::Ob.row 86 0 (AL.cl fS (su cm m j k V seen))::(R++Ob.jG (.gM p) (gY cm j).l seen::Z))).set (H.l+(R.l+4)) (.jG (.gM p) (gY cm j).l (seen ++ [t]))=H++(Ob.row 157 0 [.ptr ck 0 0]::Ob.row 3 0 [.i i]::Ob.row 3 0 [.i m]::Ob.row 86 0 (AL.cl fS (su cm m j k V seen))::(R++Ob.jG (.gM p) (gY cm j).l (seen ++ [t])::Z)):=gf;rw[e]
    have wy:(gY cm j).l-(seen ++ [t]).l<(gY cm j).l-seen.l:=by have:=O.2.2;rw[ar,bn]at this ⊢;omega
    have js:=acZ (cm:=cm) (m:=m) (j:=j) (seen:=seen) k0 (by omega:k<V.l)
    by_cases h1:(gY cm j).l=1
    .have FF:t=0:=by have:=(ae.1 vh).1;omega
     have vg:seen = []:=bq.2 λu hu=>by have:=gW u hu;rw[(U:u=t)]at hu;exact hi hu
     have hy:y.1=l5 (sd cm j):=YP (by
      obtain⟨z,hz⟩:=fL.1 h1;rw[hz,FF]at vh;cases vh
      exact hz)
     subst vg;obtain⟨⟨I,F⟩,ls⟩:=y;dsimp only at hy X
     by_cases f:F<m
     .have hv:su cm m j k V ([] ++ [t])=pt (pt V k (2,0)) k (I,F):=by unfold su;rw[if_pos ⟨gf,h1,by rw[<-hy];exact f⟩,hy]
      have Fy:=HA (l:=pt V k (2,0)) (n:=k) I F;simp[J,X,v,N,L,a.1,a.2,h1,f,Fy];refine o5 (aE J (aE X v)) (aE N (aE L a.1)) (aE a.2 (aE h1 f)) Fy ?_;rw[aqe]at js;refine⟨by rw[js];omega,?_⟩;refine LJ.i ([] ++ [t],Z ++ [.row 86 0 [.i I,.i F]]) gf (by rw[hv];simp[h1]) rfl rfl ?_;exact⟨wy,O.1,O.2.1,vC hZ λo b=>by rw[bs.1 b];rfl⟩
     .have hv:su cm m j k V ([] ++ [t])=pt V k (2,0):=by unfold su;rw[if_neg λh=>f (by have:=h.2.2;rw[<-hy]at this;exact this)]
      simp[J,X,v,N,L,a.1,a.2,h1,f];refine kG (aE J (aE X v)) (aE N (aE L a.1)) (aE a.2 (aE h1 f)) ?_;refine LJ.i ([] ++ [t],Z ++ [.row 86 0 [.i I,.i F]]) gf (by rw[hv];simp[h1]) rfl rfl ?_;exact⟨wy,O.1,O.2.1,vC hZ λo b=>by rw[bs.1 b];rfl⟩
    .have hv:su cm m j k V (seen ++ [t])=su cm m j k V seen:=by unfold su;rw[if_neg λh=>h1 h.2.1,if_neg λh=>h1 h.2.1]
     simp[J,X,v,N,L,a.1,a.2,h1];refine o5 (aE J X) (aE v N) (aE L a.1) (aE a.2 h1) ?_;refine LJ.i (seen ++ [t],Z ++ [.row 86 0 [.i y.1.1,.i y.1.2]]) gf (by simp[hv]) rfl rfl ?_;exact⟨wy,O.1,O.2.1,vC hZ λo b=>by rw[bs.1 b];rfl⟩
  have mE:k=x.l:=U
  have E9:V=x.map (q' cm m):=by refine bj (by rw[cp];exact hV) λj j0 j1=>?_;have h:=A4 j U U;rw[iV U U,iV (l:=x) U U]at h;rw[dx];exact h
  rw[<-E9]at B A
  have A5:∀r∈V,0<=r.2/\r.2<=4000:=λr hr=>by
   rw[E9]at hr;obtain⟨j,hj,rfl⟩:=au.1 hr;have a:=gQ j hj;unfold q';split
   .have hf:=AR (hs j a.1 a.2);have h1:=hp j a.1 a.2 _ hf;have f:=hb j a.1 a.2 _ hf;refine⟨?_,f⟩;unfold lV at h1;simp only[decide_eq_true_eq]at h1;rcases h1 with e|e
    .rw[e];decide
    .exact e.2
   .exact⟨jr,jr⟩
  have Y:=afT V U U A5;obtain⟨r,hr⟩:∃r,mr V=r:=⟨_,rfl⟩;rw[hr]at Y B A;obtain⟨I,F⟩:=r;dsimp only at Y B A;simp[hk];refine gi ?_;refine Yr Y ?_ rfl rfl (by simp[hV]) (by simp[flat,tI]) gf
  have hG:jM H.l (Ob.row 3 0 [.i m]::Ob.row 86 0 (AL.cl fS V)::(R ++ [Ob.row 86 0 [.i I,.i F]])):=λo b=>by
   rcases ay.1 b with rfl|b
   .rfl
   .rcases ay.1 b with rfl|b
    .exact BD _
    .rcases aj.1 b with b|b
     .exact hR o b
     .rw[bs.1 b];rfl
  by_cases f:I=2
  .subst f;have A:=A rfl;simp;refine gi ?_;refine gE.w ny ?_;refine gE.lU rfl rfl (RG (H:=H++(.row 157 0 [.ptr ck 0 0] :: .row 3 0 [.i i] :: .row 3 0 [.i m] :: .row 86 0 (AL.cl fS V)::(R ++ [.row 86 0 [.i 2,.i F]]))) (E.app _) (zl _ hG) (iH S) rU h8 i0 C (Io i i0 C) (w:=λr=>decide (r.1≠2/\r.2=m)) λr dst s K lJ k'=>?_) ?_
   .have hb:=lJ (H.l+2) (.row 3 0 [.i m]) gf;exact Yr (af6 r m) k' rfl rfl (by simp[hb])
   .rintro _ H' ⟨rfl,rfl⟩;rw[yj _ A];simp[Bs gu]
  .have B:=B f;simp[f];refine iU f ?_;have Hu:=X3 (H:=H++(.row 157 0 [.ptr ck 0 0] :: .row 3 0 [.i i] :: .row 3 0 [.i m] :: .row 86 0 (AL.cl fS V)::(R ++ [.row 86 0 [.i I,.i F]]))) (E.app _) (zl _ hG) (iH S) rU h8 i0 C (Io i i0 C) (t2:=H.l) (t3:=H.l+1) gf gf (I,F);rw[yj _ B]at Hu;refine gE.w ny ?_;refine gE.lU rfl rfl Hu ?_;rintro _ H' ⟨rfl,rfl⟩;simp[Bs gu]
 .have tj:=tj rfl;have Hu:=X3 (H:=H ++ [.row 157 0 [.ptr ck 0 0],.row 3 0 [.i i]]) (E.app _) (zl [] λ_ h=>by cases h) (iH S) rU h8 i0 C (Io i i0 C) (t2:=H.l) (t3:=H.l+1) gf gf (o,0);rw[yj _ tj]at Hu;simp;refine gi ?_;refine gE.w ny ?_;refine gE.lU rfl rfl Hu ?_;rintro _ H' ⟨rfl,rfl⟩;simp[Bs gu]
end
end Go.Proofs.YtmehofoficaelaaGreatDoor
namespace Go.Proofs.YtmehofoficaelaaGreatDoor
open Go Go.AL Classical
set_option maxRecDepth 10000
set_option maxHeartbeats 16000000
attribute [-simp] uU
section
variable{H:gg}{ck sr n:Nat}{M:Nat->kL}{ow:Nat->Nat×Nat×Nat}{P:Nat->Nat}{Q:Nat->Nat->Nat}
theorem afL{p:Nat}{kk:KK}{es:List (Value×D)}(a:H[p]? = bb (.map kk es)):Wf T 118 [.gM p] H (λd H'=>d = .b (decide (es.l=0))/\H'=H):=by refine Yg KX ?_;simp[KX,a]
theorem af4(g:na H ck sr n M ow P Q)(o:n<=1000):Wf T 185 [.gh sr 0 1 0 n,.fn (.func 118) [] []] H (λd H'=>∃v:Int,d = .i v/\H'=H/\(0<=v↔∃j,j<n/\(M j).l=0)):=by
 have f:=g.row;refine Yg Ld ?_;simp[Ld];refine gx.e (0:Int) (λy=>[(0,.gh sr 0 1 0 n),(1,.fn (.func 118) [] []),(7,.i n),(8,.i y)]) (λy=>H) (λy=>(0<=y/\y<=n)/\∀j,j<y.n->(M j).l≠0) (λy=>(n-y).n) ?_ ?_
 .grind
 rintro y ⟨⟨c,k⟩,i⟩;dsimp only at c k i ⊢
 by_cases b:y<n
 .obtain⟨l,_⟩:=g.mp y.n U;have a:y.n<n:=U;simp[b,f,a];refine kG b f a ?_;refine gE.lU rfl rfl (afL (H:=H) l) ?_;rintro _ H' ⟨rfl,rfl⟩;rw[Cr]
  by_cases h0:(M y.n).l=0
  .rw[decide_eq_true h0];simp;refine gi ?_;exact⟨λ_=>⟨y.n,a,aC.1 h0⟩,λ_=>c⟩
  .rw[decide_eq_false h0];simp;refine gi ?_;refine LJ.i (y+1) gf rfl rfl rfl ⟨U,gU,λj m=>?_⟩
   by_cases e:j=y.n
   .grind
   .grind
 .simp[b];refine gi ?_;exactλj m h=>i j U (by rw[h];rfl)
theorem afK(a:na H ck sr n M ow P Q)(c:n<=1000):Wf T 117 [.gh sr 0 1 0 n,.fn (.func 118) [] []] H (λd H'=>d = .b (decide (∃j,j<n/\(M j).l=0))/\H'=H):=by refine Yg KW ?_;simp[KW];refine gE.lU rfl rfl (af4 a c) ?_;rintro _ H' ⟨v,rfl,rfl,b⟩;simp;simpa using b
theorem na.apq(h:na H ck sr n M ow P Q){v:Nat}(e:ow v=(5,0,0))(o:Ob):na (H.set v o) ck sr n M ow P Q:=by
 have key:∀(w:Nat) (x:Ob),H[w]? = bb x->ow w≠(5,0,0)->(H.set v o)[w]? = bb x:=λw x d f=>jZ;refine⟨h.fc,h.fs,key _ _ h.row (by rw[h.fs];simp),λj b=>?_,λj b t x c=>?_⟩
 .obtain⟨h1,a⟩:=h.mp j b;exact⟨key _ _ h1 (by rw[a];simp),a⟩
 .obtain⟨h1,a⟩:=h.ls j b t x c;exact⟨key _ _ h1 (by rw[a];simp),a⟩
end
@[simp] theorem as9(cl:List gR):kW cl 0 = -1:=rfl
theorem adC(cl:List gR){y:Int}(a:0<=y):kW cl (y+1).n=B' cl (kW cl y.n) y:=by rw[(U:(y+1).n=y.n+1)];unfold kW;rw[D0,List.foldl_append,(U:((y.n:Nat):Int)=y)];rfl
def LiV(N:Nat)(H:gg)(ls:List Int)(d:D):Prop:=d=dN 1 f1 ls\/(ls≠[]/\∃v g,d = .gh v g 1 0 ls.l/\H[v]? = bb (.row 3 g (cl f1 ls))/\N<=v)
def VD(N:Nat)(H:gg)(d:D):Jd->Prop
 | .v a ls=>∃x,d = .tup [.agg [.i a,x],.i 0]/\LiV N H ls x
 | .none=>d = .tup [.agg [.i 0,.gp],.i 270]
 | .vY=>d = .tup [.agg [.i 0,.gp],.i 180]
structure JP(g:gv)(l:List Pos)(nx:List (List Int))(dcl:D)(cm:List gR)(H H':gg)(ck:Nat)(J:Jd)(d:D):Prop where
 vd:VD H.l H' d J
 ok:jM H'.l H'
 kp:∀v o,H[v]? = bb o->v≠ck->H'[v]? = bb o
 ct:∃sr,H'[ck]? = bb (.row 168 0 (kO g l nx dcl (.gh sr 0 1 0 l.l)))/\(J = .none->∃ow P Q,na H' ck sr l.l (λj:Nat=>gY cm (j:Int)) ow P Q/\∀v o,H[v]? = bb o->v≠ck->ow v=(5,0,0))
def XU(g:gv)(hg:gZ g)(l:List Pos)(B:mY g l)(h0:0<l.l)(h9:l.l<=1000){H:gg}{ck:Nat}{L:List Cw}{old dcl:D}(hd:CV H ck L dcl)(gu:jM H.l H)
  (ml:H[ck]? = bb (.row 168 0 (kO g l (gy g l) dcl old))) (hL:∀x∈L,x.ok) (hb:∀x∈L,∀r∈x.c.es,r.2<=4000) (h8:L.l<=100000) :
  Wf T 64 [.ptr ck 0 0] H (λd H'=>JP g l (gy g l) dcl (cs L) H H' ck (nj (iv g l (gy g l)) l.l (iT l.l) (cs L)) d):=by
 have Z:=rN L;have W:=@aam (iv g l (gy g l)) l.l (iT l.l) (cs L);have N:=@aao (iv g l (gy g l)) l.l (iT l.l) (cs L);have E:=@aap (iv g l (gy g l)) l.l (iT l.l) (cs L);have f:=@aan (iv g l (gy g l)) l.l (iT l.l) (cs L);obtain⟨J,hJ⟩:∃J,nj (iv g l (gy g l)) l.l (iT l.l) (cs L)=J:=⟨_,rfl⟩;rw[hJ]at W N E f ⊢;rw[Z]at W N E f;have zy:jM (H ++ [Ob.row 89 0 [.i 0,.gp]]).l (H ++ [Ob.row 89 0 [.i 0,.gp]]):=Jw gu rfl λo ho=>by rw[bs.1 ho];rfl
 have Zp:=jQ ml;refine Yg KE ?_;simp[KE];refine gE.lU rfl rfl (afJ (H:=H ++ [.row 89 0 [.i 0,.gp]]) (hd.app _) zy (iH ml) hL h8 h9 h0) ?_;rintro d H1 ⟨ow,P,Q,q⟩;obtain⟨m,h5⟩:=q.kp H.l (.row 89 0 [.i 0,.gp]) gf U;obtain⟨bad,CU⟩:∃bad,jw (λc => !iT l.l c) (cs L) L.l=bad:=⟨_,rfl⟩;rw[CU]at q W N E f;have V:=q.ct
 have R:H1[ck]? = bb (.row 168 0 [.i g.size,.sl 1 (g.next.map fI),dI g.jS,.sl 3 (g.kinds.map Kind.cells),.i g.gX,.b g.pI,dN 4 Clause.cells g.clauses,.i g.blocked,.i g.w7,gT l,.sl 1 ((gy g l).map fN),dcl,.gh (H ++ [Ob.row 89 0 [.i 0,.gp]]).l 0 1 0 l.l]):=by rw[V];unfold kO;simp
 obtain⟨sr,c'⟩:∃sr,(H ++ [Ob.row 89 0 [.i 0,.gp]]).l=sr:=⟨_,rfl⟩;rw[c']at q V R;have tf:∀v o,H[v]? = bb o->v≠ck->H1[v]? = bb o:=λv o O B=>(q.kp v o (iH O) B).1
 have lI:∀(x:Ob),oO H1.l x=dr->jM (H1.set H.l x).l (H1.set H.l x)/\(∀v o,H[v]? = bb o->v≠ck->(H1.set H.l x)[v]? = bb o)/\(H1.set H.l x)[ck]? = bb (.row 168 0 (kO g l (gy g l) dcl (.gh sr 0 1 0 l.l))):=λx b5=>by
  refine⟨by rw[az];exact rE q.ok b5,λv o O B=>?_,?_⟩
  .grind
  .grind
 rcases q.bd with⟨tK,rfl⟩|⟨zk,v,gn,rfl,xj,xk⟩
 .have CS:∀x∈L,iT l.l x.c=true:=λx M=>by
   have b:=CU;rw[tK,<-Z,vo]at b
   cases e:iT l.l x.c with
   | true=>rfl
   | false=>exact absurd b (Dm.2 ⟨x.c,au.2 ⟨x,M,rfl⟩,by simp[e]⟩)
  have c4:hM (iT l.l) (cs L) L.l=λj:Nat=>gY (cs L) (j:Int):=funext λj=>by
   rw[<-Z]
   exact ag9 (λc B=>by
    obtain⟨x,M,rfl⟩:=au.1 B
    exact CS x M) j
  have C:=q.sg;rw[c4]at C;have c6:=afK C h9;have rU:(kO g l (gy g l) dcl (.gh sr 0 1 0 l.l))[12]? = bb (.gh sr 0 1 0 l.l):=by unfold kO;simp
  have wg:∀x∈L,x.full:=λx M=>⟨hL x M,λ_=>by
   have:=CS x M;unfold iT at this;rw[ai]at this
   exact(JY this.1).2.2⟩
  have Tn:∀j:Int,0<=j->j<l.l->∀r∈sd (cs L) j,r.2<=4000:=λj _ _ r hr=>by obtain⟨c,B,h1,rfl⟩:=wF.1 hr;obtain⟨x,M,rfl⟩:=au.1 B;obtain⟨_,j0,j1⟩:=Cw.AS (wg x M) h1;exact hb x M _ (gF U j1)
  have N:=@N tK;have E:=@E tK;have f:=f tK;have Y:∀j:Int,0<=j->gY (cs L) ((j.n:Nat):Int)=gY (cs L) j:=λj j0=>by rw[(U:((j.n:Nat):Int)=j)]
  have t:∀o,(H1.set H.l o)[H.l]? = bb o:=λo=>aQ (jQ m);simp[R];refine iU R ?_;refine gE.lU rfl rfl c6 ?_;rintro _ H' ⟨rfl,rfl⟩
  by_cases he:∃j,j<l.l/\(gY (cs L) ((j:Nat):Int)).l=0
  .rw[decide_eq_true he];obtain⟨j,hj,te⟩:=he;have S:=@N (j:Int) U U (OC.1 te);subst S;simp[m,t];refine jT m t ?_;obtain⟨f1,f2,f3⟩:=lI (.row 89 0 [.i 0,.gp]) rfl;exact⟨rfl,f1,f2,sr,f3,λh=>by cases h⟩
  .rw[decide_eq_false he];have hs:∀j:Int,0<=j->j<l.l->sd (cs L) j≠[]:=λj j0 j1 h=>he ⟨j.n,U,by rw[Y j j0];exact OC.2 h⟩;have E:=@E hs;have f:=f hs;have YW:(cs L).l<=100000:=by rw[Z];exact h8
   clear he W N;simp[R];refine iU R ?_;refine gx.e (0:Int) (λy=>[(0,.ptr ck 0 0),(2,.ptr H.l 0 0),(27,.i l.l),(28,.i y)]) (λy=>H') (λy=>(0<=y/\y<=l.l)/\∀j:Int,0<=j->j<y->imp (cs L) j = []) (λy=>(l.l-y).n) ?_ ?_
   .grind
   rintro y ⟨⟨z,y1⟩,X⟩;dsimp only at z y1 X ⊢
   by_cases p:y<l.l
   .have EH:=RG (H:=H') C q.ok V rU YW z U (Y y z) (w:=λr => !lV r) λr dst s K _ k=>Yc (afM r) k;obtain⟨I,Il⟩:∃I,imp (cs L) y=I:=⟨_,rfl⟩;have c5:jw (λc=>ke c y && !lV (jH c y)) (cs L) (cs L).l=I:=Il;rw[c5]at EH;simp[p];refine gi ?_;refine gE.lU rfl rfl EH ?_;rintro _ H2 ⟨rfl,rfl⟩
    by_cases hz:I = []
    .have sE:∀j:Int,0<=j->j<y+1->imp (cs L) j = []:=λj j0 j1=>by grind
     subst hz;simp;refine gi ?_;refine LJ.i (y+1) gf rfl rfl rfl ⟨U,gU,sE⟩
    .have S:=E z p (by rw[Il];exact hz) X;rw[Il]at S;subst S;have jV:0<I.l:=ao.2 hz;simp[m,t,jV];refine kG m t jV ?_;obtain⟨f1,f2,f3⟩:=lI (.row 89 0 [.i y,dN 1 f1 I]) gf;exact⟨⟨_,rfl,.inl rfl⟩,f1,f2,sr,f3,λh=>by cases h⟩
   have zF:y=l.l:=U;subst zF;have hp:∀j:Int,0<=j->j<l.l->∀r∈sd (cs L) j,lV r=true:=λj j0 j1=>imp_nil (X j j0 j1);have f:=f X;clear E X z y1 p;simp[R];refine iU R ?_;have G:=C.row;refine gx.e (0:Int) (λy=>[(0,.ptr ck 0 0),(2,.ptr H.l 0 0),(7,.i (kW (cs L) y.n)),(44,.gh sr 0 1 0 l.l),(45,.i l.l),(46,.i y)]) (λy=>H') (λy=>0<=y/\y<=l.l) (λy=>(l.l-y).n) ?_ ?_
   .simp
   rintro y ⟨z,y1⟩;dsimp only at z y1 ⊢
   by_cases p:y<l.l
   .have A:y.n<l.l:=by omega
    have F:H'[P y.n]? = bb (.map KS (jo (Q y.n) 0 (gY (cs L) y))):=by have:=(C.mp y.n A).1;rw[Y y z]at this;exact this
    have hS:=adC (cs L) z
    have gQ:0<=kW (cs L) y.n->kW (cs L) y.n<l.l:=λh=>by have:=(Q0 (n:=y.n) h).1;omega
    obtain⟨a,ha⟩:∃a,kW (cs L) y.n=a:=⟨_,rfl⟩;rw[ha]at hS gQ ⊢;unfold B' at hS
    by_cases h1:1<(gY (cs L) y).l
    .have Zv:=Ic.1 h1
     by_cases b:a<0
     .rw[if_pos ⟨Zv,.inl b⟩]at hS;simp[p,G,A,F,h1,b];(with_reducible repeat' first|refine Xk ?_<;>try simp[p,G,A,F,h1,b]|refine Xs ?_ ?_<;>intro h<;>(try intro h')<;>(try simp[h,p,G,A,F,h1,b])<;>try omega|refine Xg ?_|omega);refine LJ.i (y+1) (by simp[hS]) rfl rfl rfl mw
     .have WE:=RH (H:=H') C q.ok V rU z U (Y y z) (hp y z p);have WG:=RH (H:=H') C q.ok V rU (by omega:0<=a) (by have:=gQ U;omega) (Y a U) (hp a U (gQ U));obtain⟨u,hu⟩:∃u,oB (sd (cs L) y)=u:=⟨_,rfl⟩;obtain⟨v,O⟩:∃v,oB (sd (cs L) a)=v:=⟨_,rfl⟩;rw[hu]at WE;rw[O]at WG;rw[hu,O]at hS;simp[p,G,A,F,h1,b];(with_reducible repeat' first|refine Xk ?_<;>try simp[p,G,A,F,h1,b]|refine Xs ?_ ?_<;>intro h<;>(try intro h')<;>(try simp[h,p,G,A,F,h1,b])<;>try omega|refine Xg ?_|omega);refine gE.lU rfl rfl WE ?_;rintro _ H2 ⟨rfl,rfl⟩;simp;refine gE.lU rfl rfl WG ?_;rintro _ H2 ⟨rfl,rfl⟩
      by_cases h3:u<v
      .rw[if_pos ⟨Zv,.inr h3⟩]at hS;simp[h3];refine iU h3 ?_;refine LJ.i (y+1) (by simp[hS]) rfl rfl rfl mw
      .rw[if_neg (λh=>by rcases h.2 with h|h<;>omega)]at hS;simp[h3];refine iU h3 ?_;refine LJ.i (y+1) (by simp[hS]) rfl rfl rfl mw
    .rw[if_neg (λh=>h1 (Ic.2 h.1))]at hS;simp[p,G,A,F,h1];(with_reducible repeat' first|refine Xk ?_<;>try simp[p,G,A,F,h1]|refine Xs ?_ ?_<;>intro h<;>(try intro h')<;>(try simp[h,p,G,A,F,h1])<;>try omega|refine Xg ?_|omega);refine LJ.i (y+1) (by simp[hS]) rfl rfl rfl mw
   have zF:y=l.l:=U;subst zF;rw[cj];have hD:=@Q0 (cs L) l.l;have Ht:=λi=>afO g hg l B rfl C q.ok V YW (i:=i);obtain⟨a,ha⟩:∃a,kW (cs L) l.l=a:=⟨_,rfl⟩;rw[ha]at f hD ⊢
   by_cases b:a<0
   .rw[if_pos b]at f;subst f;simp[b,m,t];refine kG b m t ?_;obtain⟨f1,f2,f3⟩:=lI (.row 89 0 [.i 0,.gp]) rfl;exact⟨rfl,f1,f2,sr,f3,λ_=>⟨ow,P,Q,C.apq h5 _,λv o O B=>(q.kp v o (iH O) B).2⟩⟩
   .rw[if_neg b]at f;have hD:=hD U;have Ht:=Ht a U hD.1 (λj hj=>rfl) hp Tn hs;rw[Z]at Ht;obtain⟨I,Il⟩:∃I,jw (o3 (iv g l (gy g l)) (cs L) a) (cs L) L.l=I:=⟨_,rfl⟩;rw[Il]at Ht f;subst f;simp[b,m,t];refine kG b m t ?_;refine gE.lU rfl rfl Ht ?_;rintro _ H2 ⟨rfl,rfl⟩;simp[m,t];refine jT m t ?_;obtain⟨f1,f2,f3⟩:=lI (.row 89 0 [.i a,dN 1 f1 I]) gf;exact⟨⟨_,rfl,.inl rfl⟩,f1,f2,sr,f3,λh=>by cases h⟩
 .have jV:0<bad.l:=ao.2 zk;have t:∀o,(H1.set H.l o)[H.l]? = bb o:=λo=>aQ (jQ m);have S:=W zk;subst S;have js:=jQ xj;obtain⟨f1,f2,f3⟩:=lI (.row 89 0 [.i (-1),.gh v gn 1 0 bad.l]) (by simp[js]);simp[m,t];refine jT m t ?_
  have c3:H.l<=v:=by
   refine ft λgW=>?_
   by_cases e:v=ck
   .grind
   .have:=(q.kp v _ (iH (b4 gW)) e).2;rw[xk]at this;simp at this
  exact⟨⟨_,rfl,.inr ⟨zk,v,gn,rfl,by rw[aP (λe=>by rw[<-e,h5]at xk;simp at xk)];exact xj,c3⟩⟩,f1,f2,sr,f3,λh=>by cases h⟩
end Go.Proofs.YtmehofoficaelaaGreatDoor
namespace Go.Proofs.YtmehofoficaelaaGreatDoor
open Go Go.AL Classical
set_option maxRecDepth 10000
set_option maxHeartbeats 16000000
attribute [-simp] uU
def BV:Jd->D
 | .v a ls=>.tup [.agg [.i a,dN 1 f1 ls],.i 0]
 | .none=>.tup [.agg [.i 0,.gp],.i 270]
 | .vY=>.tup [.agg [.i 0,.gp],.i 180]
def afz(g:gv)(hg:gZ g)(l:List Pos)(n:mY g l)(h0:0<l.l)(B:l.l<=1000){L:List Cw}{dcl:D}(m:dcl = .sl 36 (L.map gK)\/(L = []/\dcl = .gp))
  (A:∀x∈L,x.ok) (z:∀x∈L,∀r∈x.c.es,r.2<=4000) (C:L.l<=100000) :
  Wf T 75 [dG g,gT l,dcl] [] (Is (BV (nj (iv g l (gy g l)) l.l (iT l.l) (cs L)))):=by
 have cn:=f52 g hg l n h0
 have c:closed dcl=true:=by
  rcases m with rfl|⟨rfl,rfl⟩
  .exact wZ L
  .rfl
 have q:cellsOf dcl=bb [dcl]:=by
  rcases m with rfl|⟨rfl,rfl⟩
  .rfl
  .rfl
 have j:=λH ck old (gu:jM H.l H) u=>XU g hg l n h0 B (H:=H) (ck:=ck) (old:=old) (m.elim .inl λh=>.inr (.inl h)) gu u A z C;obtain⟨J,p⟩:∃J,nj (iv g l (gy g l)) l.l (iT l.l) (cs L)=J:=⟨_,rfl⟩;rw[p]at j ⊢;obtain⟨nx,w⟩:∃nx,gy g l=nx:=⟨_,rfl⟩;rw[w]at cn j;refine Yg KJ ?_;simp[KJ,c];refine gE.inl Ai rfl rfl (by simp[Ai]) rfl ?_;simp[Ai,c];refine Yc (cn) ?_;simp[c,q];refine gE.w (by simp[c];rfl) ?_;refine gE.lU rfl rfl (j _ 2 .gp (by simp[c]) (by simp[kO])) ?_;rintro d H' hP;have h1:=hP.kp 1 (.row 89 0 [.i 0,.gp]) gf jr;have k:=jQ h1;have i:∀o,(H'.set 1 o)[1]? = bb o:=λo=>aQ k
 have f:∀(o:Ob) (d:D),leave 0 0 (H'.set 1 o) d=(gA (λ_=>none) (H'.set 1 o) 40 d,[]):=λo d=>Pz λe=>by have:=congrArg List.l e;rw[az]at this;simp at this;rw[this]at k;simp at k
 clear j p
 cases J with
 | v a ls=>
  obtain⟨x,rfl,y⟩:=hP.vd;rcases y with rfl|⟨xt,v,gn,rfl,b,_⟩
  .simp[h1,i,f,BV]
  .have t:v≠1:=λe=>by rw[e,h1]at b;simp at b
   have s:∀o,(H'.set 1 o)[v]? = bb (.row 3 gn (cl f1 ls)):=λo=>by rw[aP (cH t)];exact b
   simp[h1,i,f,BV,s]
   cases ls with
   | nil=>exact absurd rfl xt
   | cons a r=>rfl
 | none=>
  have b:d=_:=hP.vd;subst b;simp[h1,i,f,BV]
 | vY=>
  have b:d=_:=hP.vd;subst b;simp[h1,i,f,BV]
end Go.Proofs.YtmehofoficaelaaGreatDoor
namespace Go.Proofs.YtmehofoficaelaaGreatDoor
open Go Go.AL Classical
def eS:Env:=[(11,.ptr 2 0 0),(12,.ptr 4 0 0)]
def uW(l:List Int)(k:Int):List Int:=l.take k.n++l.drop (k.n+1)
def aeS{l:List Int}{k:Int}(k0:0<=k)(k1:k<l.l):(uW l k).l=l.l-1:=by unfold uW;rw[ar,aG,aX];omega
structure LS(H0 H:gg)(q rv:Nat)(st:sB)(left im:List Int)(ld:D):Prop where
 oE:H[2]? = bb (.row 37 0 [ld])
 vw:(im = []/\ld = .gp)\/(im≠[]/\∃v g,(4<v/\(v=q\/H0.l<=v))/\ld = .gh v g 1 0 im.l/\H[v]? = bb (.row 3 g (cl f1 im)))
 arr:∃zs,gN zs=dr/\H[3]? = bb (.row 3 0 (cl f1 left++zs))
 oF:H[4]? = bb (.row 37 0 [.gh 3 0 1 0 left.l])
 ok:jM H.l H
 DP:4<rv
 rc:H[rv]? = bb (.iE 1280 eS st)
 kp:∀w o,H0[w]? = bb o->(4<w\/w<=1)->w≠rv->w≠q->H[w]? = bb o
 le:H0.l<=H.l
section
variable{H0 H:gg}{q rv:Nat}{st:sB}{left im:List Int}{ld:D}
theorem LS.len(h:LS H0 H q rv st left im ld):4<H.l:=jQ h.oF
theorem LS.UY(h:LS H0 H q rv st left im ld)(st':sB):LS H0 (H.set rv (.iE 1280 eS st')) q rv st' left im ld:=by
 have key:∀ {w:Nat} {o:Ob},H[w]? = bb o->w≠rv->(H.set rv (.iE 1280 eS st'))[w]? = bb o:=λf j=>by rw[aP (cH j)];exact f
 have i:=h.DP;refine⟨key h.oE U,?_,?_,key h.oF U,?_,i,aQ (jQ h.rc),λw o h1 c b a=>key (h.kp w o h1 c b a) b,by rw[az];exact h.le⟩
 .rcases h.vw with h1|⟨h1,v,g,c,b,a⟩
  .exact .inl h1
  .exact .inr ⟨h1,v,g,c,b,key a λe=>by rw[e,h.rc]at a;cases a⟩
 .obtain⟨zs,d,h1⟩:=h.arr;exact⟨zs,d,key h1 U⟩
 .rw[az];refine rE h.ok ?_;have:=h.len;show((jW H.l (.ptr 2 0 0))&&((jW H.l (.ptr 4 0 0))&&dr))=dr;simp;omega
theorem LS.more(h:LS H0 H q rv st left im ld){o:Ob}(f:oO (H.l+1) o=dr):LS H0 (H ++ [o]) q rv st left im ld:=by
 refine⟨iH h.oE,?_,?_,iH h.oF,?_,h.DP,iH h.rc,λw o h1 c b a=>iH (h.kp w o h1 c b a),by rw[ar];have:=h.le;omega⟩
 .rcases h.vw with h1|⟨h1,v,g,c,b,a⟩
  .exact .inl h1
  .grind
 .obtain⟨zs,d,h1⟩:=h.arr;exact⟨zs,d,iH h1⟩
 .rw[ar,bn];refine vC (yE U h.ok) λx e=>?_;rw[bs.1 e];exact f
theorem LS.aoh(h:LS H0 H q rv st left [] .gp)(x:Int):LS H0 ((H.set 2 (.row 37 0 [.gh H.l 0 1 0 1])) ++ [.row 3 0 (cl f1 [x])]) q rv st left [x] (.gh H.l 0 1 0 1):=by
 have hl:=h.len;have b:=h.DP;have key:∀ {w:Nat} {o:Ob},H[w]? = bb o->w≠2->((H.set 2 (.row 37 0 [.gh H.l 0 1 0 1])) ++ [.row 3 0 (cl f1 [x])])[w]? = bb o:=λg i=>jZ;refine⟨?_,.inr ⟨gf,H.l,0,⟨hl,.inr h.le⟩,rfl,?_⟩,?_,key h.oF U,?_,b,key h.rc U,λw o h1 e d c=>key (h.kp w o h1 e d c) U,by rw[ar,az];have:=h.le;omega⟩
 .grind
 .grind
 .obtain⟨zs,a,h1⟩:=h.arr;exact⟨zs,a,key h1 U⟩
 .rw[ar,az,bn];refine vC (rE (yE U h.ok) ?_) λy f=>?_
  .simp_all
  .simp_all
theorem LS.aoi{v g:Nat}(a:v=q\/H0.l<=v)(h:LS H0 H q rv st left im (.gh v g 1 0 im.l))(hl:im≠[])(m:4<v)(b:H[v]? = bb (.row 3 g (cl f1 im)))(x:Int) :
  LS H0 ((H.set v (.row 3 (g+1) (cl f1 (im ++ [x])))).set 2 (.row 37 0 [.gh v (g+1) 1 0 (im.l+1)])) q rv st left (im ++ [x]) (.gh v (g+1) 1 0 (im.l+1)):=by
 have i:=h.DP;have d:=jQ b;have c:rv≠v:=λe=>by rw[<-e,h.rc]at b;cases b
 have key:∀ {w:Nat} {o:Ob},H[w]? = bb o->w≠2->w≠v->((H.set v (.row 3 (g+1) (cl f1 (im ++ [x])))).set 2 (.row 37 0 [.gh v (g+1) 1 0 (im.l+1)]))[w]? = bb o:=λn p r=>jZ;refine⟨aQ (by rw[az];have:=h.len;omega),.inr ⟨gf,v,g+1,⟨m,a⟩,gf,?_⟩,?_,key h.oF U U,?_,i,key h.rc U c,λw o h1 l k j=>key (h.kp w o h1 l k j) U λe=>?_,by rw[az,az];exact h.le⟩
 .grind
 .obtain⟨zs,f,h1⟩:=h.arr;exact⟨zs,f,key h1 U U⟩
 .rw[az,az];refine rE (rE h.ok (BD _)) ?_;show((jW H.l (.gh v (g+1) 1 0 (im.l+1)))&&dr)=dr;simp[d]
 .rcases a with a|a
  .omega
  .have:=jQ h1;omega
theorem LS.del(h:LS H0 H q rv st left im ld){zs:List D}(b:gN zs=dr)(m:H[3]? = bb (.row 3 0 (cl f1 left++zs))){k:Int}(k0:0<=k)(k1:k<left.l) :
  LS H0 ((H.set 3 (.row 3 0 (cl f1 (uW left k) ++ .i 0::zs))).set 4 (.row 37 0 [.gh 3 0 1 0 (left.l-1)])) q rv st (uW left k) im ld:=by
 have i:=h.DP;have hl:=h.len;have key:∀ {w:Nat} {o:Ob},H[w]? = bb o->w≠3->w≠4->((H.set 3 (.row 3 0 (cl f1 (uW left k) ++ .i 0::zs))).set 4 (.row 37 0 [.gh 3 0 1 0 (left.l-1)]))[w]? = bb o:=λj l n=>jZ;refine⟨key h.oE U U,?_,⟨.i 0::zs,by simpa[gN]using b,?_⟩,?_,?_,i,key h.rc U U,λw o h1 f e c=>key (h.kp w o h1 f e c) U U,by rw[az,az];exact h.le⟩
 .rcases h.vw with h1|⟨h1,v,g,f,e,c⟩
  .exact .inl h1
  .grind
 .grind
 .rw[aQ (by rw[az];omega),aeS k0 k1]
 .rw[az,az];refine rE (rE h.ok ?_) ?_
  .refine List.all_eq_true.2 λd a=>?_;rcases aj.1 a with a|a
   .exact DS (mL (vW _) d a)
   .rcases ay.1 a with rfl|a
    .rfl
    .exact DS (mL b d a)
  .show((jW H.l (.gh 3 0 1 0 (left.l-1)))&&dr)=dr;simp;omega
end
set_option maxRecDepth 10000
set_option maxHeartbeats 16000000
attribute [-simp] uU
def XV{H:gg}{v gen t:Nat}{zs:List D}{l:List Int}{i:Int}{K:D->gg->Prop}(i0:0<=i)(hi:i<l.l)(a:H[v]? = bb (.row t gen (cl f1 l++zs)))
  (k:K (.gh v gen 1 0 (l.l-1)) (H.set v (.row t gen (cl f1 (uW l i) ++ .i 0::zs)))):Wf T 66 [.gh v gen 1 0 l.l,.i i,.i (i+1)] H K:=by
 obtain⟨n,rfl⟩:∃n:Nat,i=n:=⟨i.n,U⟩;have b:n<l.l:=U
 have e:(l.take n++l.drop (n+1) ++ [0]).map (λn=>D.i n)++zs=cl f1 (uW l n) ++ .i 0::zs:=by unfold uW;rw[y8,cj,di,aN];rfl
 rw[y8]at a;rw[<-e]at k;exact Ev.uq l n rfl b a ⟨_,_,rfl,k⟩
def afw{x:D}(a:cellsOf x=bb [x])(H:gg):Wf T 65 [x] H (λd H'=>d = .fn (.func 124) [] [.ptr H.l 0 0]/\H'=H ++ [.row 37 0 [x]]):=by refine Yg KF ?_;simp[KF,uk,a]
def aqu{H0 H:gg}{q rv:Nat}{left im:List Int}{ld:D}(h:LS H0 H q rv .ready left im ld)(W:im.l<=100000)(X:left.l<=100000){k i:Int}(k0:0<=k)(k1:k<left.l){dst:Option Nat}{env:Env}{K:St->Prop}
  (F:∀H' L,LS H0 H' q rv .ready (uW left k) (im ++ [gt left k]) L->H.l<=H'.l->K { env:=put env dst (.b dr),H:=H' }):sD T rv [.i i,.i k] dst { env:=env,H:=H } K .mk:=by
 have b:=h.UY .busy;have E:=h.len;have Z:=jQ h.rc;have Y:=h.DP;refine sD.r (rf:=1280) (env0:=eS) (Rd:=Er) (by exact h.rc) rfl rfl Er.a Er.b (pK rfl) (pK rfl) ?_;have y:=h.rc;unfold eS at y;simp[Er,eS,y];obtain⟨a,u⟩:∃a,H.set rv (.iE 1280 [(11,.ptr 2 0 0),(12,.ptr 4 0 0)] .busy)=a:=⟨_,rfl⟩;have EY:a.l=H.l:=by rw[<-u,az]
 rw[show eS = [(11,.ptr 2 0 0),(12,.ptr 4 0 0)]from rfl,u]at b;rw[u];clear u y;obtain⟨zs,C,N⟩:=b.arr;have f:∀R:gg,(a++R)[2]? = bb (.row 37 0 [ld]):=λR=>iH b.oE;have g:=b.oF;have c:=N
 have hg:(cl f1 left++zs)[k.n]? = bb (.i (gt left k)):=by rw[ah (by rw[rJ];omega),y8,ax,b4 U,iV k0 k1];rfl
 have e:¬(2=a.l):=U;have J:2<a.l:=U;have V:∀R:gg,(a++R)[3]? = bb (.row 3 0 (cl f1 left++zs)):=λR=>iH c;have l:∀(R:gg) (o:Ob),(a++R).set 2 o=a.set 2 o++R:=λR o=>aT _ _ J;have w:∀(o:Ob) (R:gg),(a.set 2 o++R)[4]? = bb (.row 37 0 [.gh 3 0 1 0 left.l]):=λo R=>iH (by rw[aP U];exact g);have I:∀(o:Ob) (R:gg),(a.set 2 o++R)[3]? = bb (.row 3 0 (cl f1 left++zs)):=λo R=>iH (by rw[aP U];exact c);rcases b.vw with⟨rfl,rfl⟩|⟨P,v,p,⟨S,A⟩,rfl,B⟩
 .have z:∀(o:Ob) (R:gg) (i:Nat),(a.set 2 o++R)[a.l+i]? = R[i]? := λo R i=>by rw[ak (by rw[az];omega),az];congr 1;omega
  simp[f,b.oE,g,c,hg,k0,k1,e,l,z,w];(with_reducible repeat' first|refine Xk ?_<;>try simp[f,b.oE,g,c,hg,k0,k1,e,l,z,w]|refine Xs ?_ ?_<;>intro h<;>(try intro Q)<;>(try simp[h,f,b.oE,g,c,hg,k0,k1,e,l,z,w])<;>try omega|refine Xg ?_|omega);refine gE.w (by simp[f,b.oE,e,l];rfl) ?_;refine gE.lU rfl rfl (XV (K:=λd H'=>d = .gh 3 0 1 0 (left.l-1)/\H'=(a.set 2 (Ob.row 37 0 [D.gh (a.l+1) 0 1 0 1]) ++ [Ob.row 3 0 [D.i (gt left k)],Ob.row 3 0 [D.i (gt left k)]]).set 3 (Ob.row 3 0 (cl f1 (uW left k)++D.i 0::zs))) k0 k1 (I _ _) ⟨rfl,rfl⟩) ?_;rintro _ _ ⟨rfl,rfl⟩;simp[w]
  have j:=((b.more (o:=.row 3 0 [.i (gt left k)]) rfl).aoh (gt left k)).del (zs:=zs) C (by rw[l,aN];exact I _ _) k0 k1
  rw[l,aN,ar,bn]at j;have n:=j.rc;simp only[iY,cy,bI,(gf:f1 (gt left k) = [D.i (gt left k)])]at j n;simp[n];exact F _ _ (j.UY .ready) gO
 .have O:=jQ B;have x:∀R:gg,(a++R)[v]? = bb (.row 3 p (cl f1 im)):=λR=>iH B;have t:∀(R:gg) (o:Ob),(a++R).set v o=a.set v o++R:=λR o=>aT _ _ O;have M:v≠2:=U;have s:∀(o:Ob) (R:gg),(a.set v o++R)[2]? = bb (.row 37 0 [.gh v p 1 0 im.l]):=λo R=>iH (by rw[aP M];exact b.oE);have r:∀(o o':Ob) (R:gg),((a.set v o).set 2 o'++R)[4]? = bb (.row 37 0 [.gh 3 0 1 0 left.l]):=λo o' R=>iH (by rw[aP U,aP U];exact g);have G:∀(o o':Ob) (R:gg),((a.set v o).set 2 o'++R)[3]? = bb (.row 3 0 (cl f1 left++zs)):=λo o' R=>iH (by rw[aP U,aP U];exact c);have m:∀(o o':Ob) (R:gg),(a.set v o++R).set 2 o'=(a.set v o).set 2 o'++R:=λo o' R=>aT _ _ (by rw[az];exact J);simp[f,b.oE,g,c,hg,k0,k1,e,x,t,s,m,r];(with_reducible repeat' first|refine Xk ?_<;>try simp[f,b.oE,g,c,hg,k0,k1,e,x,t,s,m,r]|refine Xs ?_ ?_<;>intro h<;>(try intro Q)<;>(try simp[h,f,b.oE,g,c,hg,k0,k1,e,x,t,s,m,r])<;>try omega|refine Xg ?_|omega);refine gE.w (by simp[f,b.oE,e,x,t,s,m];rfl) ?_;refine gE.lU rfl rfl (XV (K:=λd H'=>d = .gh 3 0 1 0 (left.l-1)/\H'=((a.set v (Ob.row 3 (p+1) (cl f1 (im ++ [gt left k])))).set 2 (Ob.row 37 0 [D.gh v (p+1) 1 0 (im.l+1)]) ++ [Ob.row 3 0 [D.i (gt left k)]]).set 3 (Ob.row 3 0 (cl f1 (uW left k)++D.i 0::zs))) k0 k1 (G _ _ _) ⟨rfl,rfl⟩) ?_;rintro _ _ ⟨rfl,rfl⟩;simp[r];have j:=(((b.aoi A P S B (gt left k))).more (o:=.row 3 0 [.i (gt left k)]) rfl).del (zs:=zs) C (G _ _ _) k0 k1;have n:=j.rc;simp[n];exact F _ _ (j.UY .ready) gO
end Go.Proofs.YtmehofoficaelaaGreatDoor
namespace Go.Proofs.YtmehofoficaelaaGreatDoor
open Go Go.AL Classical
def aqb{n k:Nat}(h:k<n):∃R:List Int,upto n=upto k++(k:Int)::R/\∀p∈R,(k:Int)<p:=by
 refine⟨(ep (k+1) (n-(k+1))).map λi:Nat=>(i:Int),?_,λp a=>?_⟩
 .unfold upto
  rw[show((k:Int)::(ep (k+1) (n-(k+1))).map λi:Nat=>(i:Int))=(ep k (n-k)).map λi:Nat=>(i:Int)by rw[(U:n-k=(n-(k+1))+1),cS];rfl,<-di]
  congr 1;rw[cV,cV];have:=List.range'_append (s:=0) (m:=k) (n:=n-k) (step:=1);rw[(U:k+(n-k)=n),Nat.one_mul,aV]at this;exact this.symm
 .obtain⟨i,hi,rfl⟩:=au.1 a;rw[List.mem_range'_1]at hi;omega
def aoT{left S:List Int}{k:Nat}(h:k<left.l)(hS:∀p∈S,(k:Int)<p) :
  ∃R,nO left S=left.take k++gt left k::R/\nO left ((k:Int)::S)=left.take k++R:=by
 obtain⟨R,f,g⟩:=aqb h
 have e:∀S:List Int,(∀p∈S,(k:Int)<p\/p=k)->((upto k).filter λp => !S.contains p)=upto k:=λS hS=>dR.2 λp a=>by have:=jF.1 a;simp only[dq,et,decide_eq_false_iff_not];intro c;rcases hS p c with h|h<;>omega
 have d:((upto k).map λp=>gt left p)=left.take k:=by
  refine bj (by simp[qx];omega) λi h1 j=>?_;rw[dx,List.getElem_take];have hi:i<k:=by simpa[qx]using h1
  have:(upto k)[i]'(by rw[qx];exact hi)=(i:Int):=by simp[upto]
  rw[this,iV U U];simp
 refine⟨(R.filter λp => !S.contains p).map λp=>gt left p,?_,?_⟩
 .unfold nO
  have b:(!S.contains (k:Int))=true:=by simp only[dq,et,decide_eq_false_iff_not];intro c;have:=hS _ c;omega
  rw[f,cT,e S λp a=>.inl (hS p a),di,d,ek,if_pos b];rfl
 .unfold nO;have b:¬(!((k:Int)::S).contains (k:Int))=true:=gf;rw[f,cT,e _ λp a=>?_,di,d,ek,if_neg b]
  .congr 2;refine List.filter_congr λp a=>?_;have:=g p a;simp;omega
  .rcases ay.1 a with rfl|a
   .exact .inr rfl
   .exact .inl (hS p a)
def acj(left:List Int):nO left []=left:=by
 unfold nO;rw[dR.2 gf];refine bj (by simp[qx]) λi h1 a=>?_;rw[dx];have:(upto left.l)[i]'(by rw[qx];exact a)=(i:Int):=by simp[upto]
 rw[this,iV U U];simp
def aoU{left S:List Int}{k:Int}(k0:0<=k)(h:k<left.l)(hS:∀p∈S,k<p) :
  (k<(nO left S).l/\gt (nO left S) k=gt left k)/\uW (nO left S) k=nO left (k::S):=by
 obtain⟨n,rfl⟩:∃n:Nat,k=n:=⟨k.n,U⟩;have b:n<left.l:=U;obtain⟨R,h1,c⟩:=aoT b hS;have hl:(left.take n).l=n:=by rw[aG];omega
 rw[h1,c];have a:n<(left.take n++gt left n::R).l:=gO;refine⟨⟨U,?_⟩,?_⟩
 .rw[iV U U];simp only[cj];rw[List.getElem_append_right U];simp[hl]
 .unfold uW;simp only[cj];rw[aZ U,af U,(U:n+1=(left.take n).l+1),fr];simp
set_option maxRecDepth 10000
set_option maxHeartbeats 16000000
attribute [-simp] uU
def afP{H0 H:gg}{q rv:Nat}{left im:List Int}{ld:D}(h:LS H0 H q rv .ready left im ld){ls:List Int}(M:∀k∈ls,0<=k/\k<left.l)(N:ls.Pairwise (· < ·))(W:ls.l<=100000)
  (V:im.l+ls.l<=100000) (X:left.l<=100000) {n:Nat} {x:D} (I:H0[n]? = bb (.row 37 0 [x])) (o:4<n/\n≠rv/\n≠q)
  (G:x=dN 1 f1 ls\/∃v g,x = .gh v g 1 0 ls.l/\H0[v]? = bb (.row 3 g (cl f1 ls))/\4<v/\v≠rv/\v≠q) :
  Wf T 124 [.jt rv,.ptr n 0 0] H (λ_ H'=>∃b,LS H0 H' q rv .ready (nO left ls) (im++ls.reverse.map λk=>gt left k) b/\H.l<=H'.l):=by
 have z:∀Hc,oa .slice x Hc=bb (.i ls.l):=λHc=>by
  rcases G with rfl|⟨v,g,rfl,_⟩
  .cases ls with
   | nil=>rfl
   | cons a r=>simp[dN]
  .simp
 have t:∀S:List Int,(nO left S).l<=left.l:=λS=>by unfold nO;rw[cp];have:=List.length_filter_le (λp => !S.contains p) (upto left.l);rwa [qx]at this
 have e:=h.kp n _ I (.inl o.1) o.2.1 o.2.2;refine Yg K4 ?_;simp[K4,z,e];(with_reducible repeat' first|refine Xk ?_<;>try simp[z,e]|refine Xs ?_ ?_<;>intro h<;>(try intro u)<;>(try simp[h,z,e])<;>try omega|refine Xg ?_|omega);refine gx.e ((H,(ls.l:Int)-1,ld):gg×Int×D) (λy=>[(0,.jt rv),(1,.ptr n 0 0),(3,.i y.2.1)]) (λy=>y.1) (λy=>(-1<=y.2.1/\y.2.1<ls.l)/\H.l<=y.1.l/\LS H0 y.1 q rv .ready (nO left (ls.drop (y.2.1+1).n)) (im++(ls.drop (y.2.1+1).n).reverse.map λk=>gt left k) y.2.2) (λy=>(y.2.1+1).n) ?_ ?_
 .refine qt ⟨Nat.le_refl _,?_⟩;dsimp only;rw[(U:((ls.l:Int)-1+1).n=ls.l),List.drop_length,acj];simpa using h
 rintro⟨Hc,i,A⟩ ⟨⟨i0,O⟩,L,d⟩;dsimp only at i0 O L d ⊢;have e:=d.kp n _ I (.inl o.1) o.2.1 o.2.2
 by_cases hi:0<=i
 .obtain⟨m,rfl⟩:∃m:Nat,i=m:=⟨i.n,U⟩;have s:m<ls.l:=U
  have c:ls.drop m=gt ls m::ls.drop (m+1):=by rw[bL s,iV U U];rfl
  rw[(U:((m:Int)+1).n=m+1)]at d
  have l:(cl f1 ls)[m]? = bb (.i (gt ls (m:Int))):=by rw[y8,ax,b4 s,iV U U];rfl
  obtain⟨k,w⟩:∃k,gt ls (m:Int)=k:=⟨_,rfl⟩;rw[w]at c l;have F:∀h,(cl f1 ls)[m]'h = .i k:=λh=>by rw[b4 h]at l;exact bT l
  obtain⟨S,hS⟩:∃S,ls.drop (m+1)=S:=⟨_,rfl⟩;rw[hS]at c d;have P:(k::S).Pairwise (· < ·):=by rw[<-c];exact N.drop
  have C:=(aW.1 P).1;have B:k∈ls:=bC (i:=m) (by rw[c];simp)
  have R:S.l+1<=ls.l:=by have:=congrArg List.l c;rw[aX,aL]at this;omega
  obtain⟨k0,k1⟩:=M k B;obtain⟨⟨q1,q2⟩,q3⟩:=aoU k0 k1 C
  have J:∀(env:Env) (K:St->Prop),(∀H' b,LS H0 H' q rv .ready (nO left (ls.drop m)) ((im++S.reverse.map λk=>gt left k) ++ [gt left k]) b->Hc.l<=H'.l->K { env:=put env (bb 17) (.b dr),H:=H' }) ->
    sD T rv [.i (m:Int),.i k] (bb 17) { env:=env,H:=Hc } K .mk:=λenv K Q=>aqu d gO (by have:=t S;omega) k0 q1 λH' b f j=>by
   rw[q2,q3,<-c]at f;exact Q H' b f j
  rcases G with rfl|⟨v,g,rfl,hv,De,hv5,hv6⟩
  .simp[e];(with_reducible repeat' first|refine Xk ?_<;>try simp[w]|refine Xs ?_ ?_<;>intro h<;>(try intro u)<;>(try simp[h,w])<;>try omega|refine Xg ?_|omega);simp[w];refine J _ _ λH' b f j=>?_;simp;(with_reducible repeat' first|refine Xk ?_<;>try simp|refine Xs ?_ ?_<;>intro h<;>(try intro u)<;>(try simp[h])<;>try omega|refine Xg ?_|omega);refine LJ.i (H',(m:Int)-1,b) gf rfl rfl rfl ⟨gI,gU,gI,?_⟩;dsimp only;rw[(U:((m:Int)-1+1).n=m)];rw[c]at f ⊢;simpa using f
  .have E:=d.kp v _ hv (.inl De) hv5 hv6;simp[e,E,l,F,s];(with_reducible repeat' first|refine Xk ?_<;>try simp[e,E,l,F,s]|refine Xs ?_ ?_<;>intro h<;>(try intro u)<;>(try simp[h,e,E,l,F,s])<;>try omega|refine Xg ?_|omega);refine J _ _ λH' b f j=>?_;simp;(with_reducible repeat' first|refine Xk ?_<;>try simp|refine Xs ?_ ?_<;>intro h<;>(try intro u)<;>(try simp[h])<;>try omega|refine Xg ?_|omega);refine LJ.i (H',(m:Int)-1,b) gf rfl rfl rfl ⟨gI,gU,gI,?_⟩;dsimp only;rw[(U:((m:Int)-1+1).n=m)];rw[c]at f ⊢;simpa using f
 .simp[hi];(with_reducible repeat' first|refine Xk ?_<;>try simp[hi]|refine Xs ?_ ?_<;>intro h<;>(try intro u)<;>(try simp[h,hi])<;>try omega|refine Xg ?_|omega);rw[(U:(i+1).n=0),eY]at d;exact⟨⟨A,by simpa using d⟩,L⟩
end Go.Proofs.YtmehofoficaelaaGreatDoor
namespace Go.Proofs.YtmehofoficaelaaGreatDoor
open Go Go.AL Classical
def adD{cl:List gR}{n:Nat}(h:¬kW cl n<0):lH (sd cl (kW cl n))=dr/\0<=kW cl n/\kW cl n<n:=by
 rcases Nz cl n with⟨e,_⟩|⟨h1,a,_⟩
 .omega
 .exact⟨a,h1⟩
def aik{A:mf}{n:Nat}{ad:gR->Bool}{cl:List gR}{a:Int}{ls:List Int}(h:nj A n ad cl = .v a ls):(∃q,ls=idx q cl)/\ls≠[]/\-1<=a:=by
 unfold nj at h;split at h
 .rename_i m;cases h;exact⟨⟨_,rfl⟩,m,U⟩
 split at h
 .cases h
 split at h
 .rename_i i hi;cases h;have h1:=List.find?_some hi;have o:=List.mem_of_find?_eq_some hi;rw[jF]at o;exact⟨⟨_,rfl⟩,by simpa using h1,U⟩
 .rename_i d;split at h
  .cases h
  .rename_i f;cases h;obtain⟨l,h0,h1⟩:=adD f
   have k:∀r∈sd cl (kW cl n),lV r=true:=λr j=>by
    obtain⟨c,b,p,rfl⟩:=wF.1 j;have:=ei.1 d (kW cl n) (jF.2 ⟨h0,h1⟩);simp only[decide_eq_true_eq,Classical.not_not]at this
    cases e:lV (jH c (kW cl n))with
    | true=>rfl
    | false=>exact absurd this (Dm.2 ⟨c,b,by simp[p,e]⟩)
   obtain⟨c,b,g⟩:=aqq (A:=A) k l;exact⟨⟨_,rfl⟩,Dm.2 ⟨c,b,g⟩,U⟩
def aic{q:gR->Bool}{cl:List gR}:∀k∈idx q cl,0<=k/\k<cl.l:=λk a=>(PI.1 a).1
def Kb(n:Nat):(upto n).Pairwise (· < ·):=by unfold upto;rw[eo];exact List.pairwise_lt_range.imp λh=>U
def aid{q:gR->Bool}{cl:List gR}:(idx q cl).Pairwise (· < ·):=(Kb _).filter _
structure LB(g:gv)(l:List Pos)(nx:List (List Int))(L:List Cw)(H:gg)(left im:List Int)(ld dv:D):Prop where
 h0:H[0]? = bb (.row 43 0 g.cells)
 ct:∃old,H[1]? = bb (.row 168 0 (kO g l nx dv old))
 oE:H[2]? = bb (.row 37 0 [ld])
 vw:(im = []/\ld = .gp)\/(im≠[]/\∃v gn,4<v/\ld = .gh v gn 1 0 im.l/\H[v]? = bb (.row 3 gn (cl f1 im)))
 arr:∃zs,gN zs=dr/\H[3]? = bb (.row 3 0 (cl f1 left++zs))
 oF:H[4]? = bb (.row 37 0 [.gh 3 0 1 0 left.l])
 ok:jM H.l H
 cv:CV H 1 (left.map λk=>gt L k) dv
def LB.aim{g:gv}{l:List Pos}{nx:List (List Int)}{L:List Cw}{H H':gg}{left im:List Int}{ld dv:D}{cm:List gR}{J:Jd}{d:D}(h:LB g l nx L H left im ld dv)(a:JP g l nx dv cm H H' 1 J d) :
  LB g l nx L H' left im ld dv:=by
 obtain⟨sr,f,_⟩:=a.ct;refine⟨a.kp _ _ h.h0 U,⟨_,f⟩,a.kp _ _ h.oE U,?_,?_,a.kp _ _ h.oF U,a.ok,?_⟩
 .rcases h.vw with h1|⟨h1,v,e,c,b,j⟩
  .exact .inl h1
  .exact .inr ⟨h1,v,e,c,b,a.kp _ _ j U⟩
 .obtain⟨zs,i,h1⟩:=h.arr;exact⟨zs,i,a.kp _ _ h1 U⟩
 .rcases h.cv with h1|h1|⟨v,e,h1,c,b⟩
  .exact .inl h1
  .exact .inr (.inl h1)
  .exact .inr (.inr ⟨v,e,h1,c,a.kp _ _ b h1⟩)
def LB.toLS{g:gv}{l:List Pos}{nx:List (List Int)}{L:List Cw}{H:gg}{left im:List Int}{ld dv:D}(h:LB g l nx L H left im ld dv){R:gg}{j:Nat}(k:R[j]? = bb (.iE 1280 eS .ready))(m:∀o∈R,oO (H.l+R.l) o=dr) :
  ∃q,(q=2\/∃a,ld = .gh q a 1 0 im.l/\4<q)/\q<H.l/\LS (H++R) (H++R) q (H.l+j) .ready left im ld:=by
 have n:=jQ h.oF
 have gu:jM (H++R).l (H++R):=by rw[ar];exact vC (yE U h.ok) m
 have c:(H++R)[H.l+j]? = bb (.iE 1280 eS .ready):=by rw[ak U,Nat.add_sub_cancel_left];exact k
 obtain⟨zs,d,h1⟩:=h.arr;rcases h.vw with b|⟨b,v,a,f,e,i⟩
 .exact⟨2,.inl rfl,U,iH h.oE,.inl b,⟨zs,d,iH h1⟩,iH h.oF,gu,U,c,λw o h1 _ _ _=>h1,Nat.le_refl _⟩
 .exact⟨v,.inr ⟨a,e,f⟩,jQ i,iH h.oE,.inr ⟨b,v,a,⟨f,.inl rfl⟩,e,iH i⟩,⟨zs,d,iH h1⟩,iH h.oF,gu,U,c,λw o h1 _ _ _=>h1,Nat.le_refl _⟩
end Go.Proofs.YtmehofoficaelaaGreatDoor
namespace Go.AL
open Go
section
variable{T:iL}{live:List Nat}{a:IR}{s:St}{K:ju}{α:Type}
theorem gx.mi(keys:List Nat)(j:(keys.all λk=>live.contains k)=dr)(E:α->Env)(f:α->gg)(M:α->List Nat)(P:α->Prop)(d:α->Nat)(c:α)
  (h0:P c) (t:forget keys s.env=E c) (p:s.H=f c) (l:s.marks=M c)
  (h:∀x,P x->XC T a { env:=E x,H:=f x,marks:=M x,iM:=s.iM } (xI s.H.l live keys (λe H m r=>∃b,e=E b/\H=f b/\m=M b/\r=s.iM/\d b<d x/\P b) K)):gx T live a s K .mk:=by
 refine Wc.loop (λm g=>∃x,P x/\m=d x/\({ g with env:=forget keys g.env }:St) = { env:=E x,H:=f x,marks:=M x,iM:=s.iM }) (d c) ⟨c,h0,rfl,?_⟩ ?_
 .dsimp only;rw[YC j,t];rw[<-p,<-l]
 .rintro m g ⟨x,hP,rfl,n⟩;refine Ev.H8 keys ?_;rw[n];refine(XC.wc (h x hP)).mono λo i=>?_
  cases o with
  | norm w=>
   obtain⟨b,u,A,z,y,v,h1⟩:=i;refine⟨d b,v,b,h1,rfl,?_⟩;rw[u];generalize cut s.H.l live w=q at *;cases q;simp_all
  | exit=>exact i
  | ret=>exact i
def LM(E:α->Env)(b:α->gg)(M:α->List Nat)(Q:α->Prop)(_:Tag (E,b,M,Q))(e:Env)(H:gg)(m:List Nat)(r:Bool):Prop:=
 ∃a,e=E a/\H=b a/\m=M a/\r=en/\Q a
theorem LM.i{E:α->Env}{b:α->gg}{M:α->List Nat}{Q:α->Prop}{t:Tag (E,b,M,Q)}{e:Env}{H:gg}{m:List Nat}{r:Bool}(a:α)(h1:e=E a)(g:H=b a)(f:m=M a)(d:r=en)(c:Q a):LM E b M Q t e H m r:=⟨a,h1,g,f,d,c⟩
theorem gx.m(b:α)(E:α->Env)(c:α->gg)(M:α->List Nat)(P:α->Prop)(d:α->Nat)
  (h:∀x,P x->XC T a { env:=E x,H:=c x,marks:=M x } (xI s.H.l live ((E b).map (·.1)) (LM E c M (λe=>d e<d x/\P e) .mk) K))
  (h0:P b) (l:forget ((E b).map (·.1)) s.env=E b) (j:s.H=c b) (i:s.marks=M b) (g:s.iM=en) (f:(((E b).map (·.1)).all λk=>live.contains k)=dr):gx T live a s K .mk:=
 gx.mi _ f E c M P d b h0 l j i (by rw[g];exact h)
