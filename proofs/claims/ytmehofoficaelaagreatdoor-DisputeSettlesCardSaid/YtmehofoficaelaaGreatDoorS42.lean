/- Part 42 of DisputeSettles. -/
import Derived.Test.YtmehofoficaelaaGreatDoorS41
set_option linter.all false
namespace Go.Proofs.YtmehofoficaelaaGreatDoor
open Go Go.AL Classical
set_option maxRecDepth 10000
set_option maxHeartbeats 16000000
attribute [-simp] tH
def W4{H:U}{v gen t:Nat}{zs:List D}{l:List Int}{i:Int}{K:D->U->Prop}(i0:0<=i)(hi:i<l.length)(a:H[v]? = some (.row t gen (cl f1 l++zs)))
  (k:K (.fZ v gen 1 0 (l.length-1)) (H.set v (.row t gen (cl f1 (tI l i) ++ .i 0::zs)))):Wf T 66 [.fZ v gen 1 0 l.length,.i i,.i (i+1)] H K:=by
 obtain⟨n,rfl⟩:∃n:Nat,i=n:=⟨i.toNat,by omega⟩;have b:n<l.length:=by omega
 have e:(l.take n++l.drop (n+1) ++ [0]).map (λn=>D.i n)++zs=cl f1 (tI l n) ++ .i 0::zs:=by unfold tI;rw[zG,bB,List.map_append,aK];rfl
 rw[zG]at a;rw[<-e]at k;exact Ev.sZ l n rfl b a ⟨_,_,rfl,k⟩
def aeP{x:D}(a:cellsOf x=some [x])(H:U):Wf T 65 [x] H (λd H'=>d = .fn (.func 124) [] [.ptr H.length 0 0]/\H'=H ++ [.row 37 0 [x]]):=by refine Yg J1 ?_;simp[J1,sW,a]
def apP{H0 H:U}{q rv:Nat}{left gX:List Int}{ld:D}(h:LS H0 H q rv .ready left gX ld)(X:gX.length<=100000)(S:left.length<=100000){k i:Int}(k0:0<=k)(k1:k<left.length){dst:Option Nat}{env:Env}{K:St->Prop}
  (F:∀H' M,LS H0 H' q rv .ready (tI left k) (gX ++ [gt left k]) M->H.length<=H'.length->K { env:=put env dst (.b true),H:=H' }):qx T rv [.i i,.i k] dst { env:=env,H:=H } K .mk:=by
 have b:=h.Um .busy;have E:=h.len;have Z:=js h.rc;have Y:=h.CY;refine qx.r (rf:=1280) (env0:=eS) (Rd:=Dx) (by exact h.rc) rfl rfl Dx.a Dx.b (oL rfl) (oL rfl) ?_;have z:=h.rc;unfold eS at z;simp[Dx,eS,z];obtain⟨a,w⟩:∃a,H.set rv (.im 1280 [(11,.ptr 2 0 0),(12,.ptr 4 0 0)] .busy)=a:=⟨_,rfl⟩;have D2:a.length=H.length:=by rw[<-w,ar]
 rw[show eS = [(11,.ptr 2 0 0),(12,.ptr 4 0 0)]from rfl,w]at b;rw[w];clear w z;obtain⟨zs,C,O⟩:=b.arr;have f:∀R:U,(a++R)[2]? = some (.row 37 0 [ld]):=λR=>iy b.nv;have g:=b.ny;have c:=O
 have hg:(cl f1 left++zs)[k.toNat]? = some (.i (gt left k)):=by rw[ah (by rw[rN];omega),zG,au,List.getElem?_eq_getElem (by omega),iZ k0 k1];rfl
 have e:¬(2=a.length):=by omega
 have J:2<a.length:=by omega
 have W:∀R:U,(a++R)[3]? = some (.row 3 0 (cl f1 left++zs)):=λR=>iy c;have l:∀(R:U) (o:Ob),(a++R).set 2 o=a.set 2 o++R:=λR o=>aO _ _ J;have u:∀(o:Ob) (R:U),(a.set 2 o++R)[4]? = some (.row 37 0 [.fZ 3 0 1 0 left.length]):=λo R=>iy (by rw[ay (by omega)];exact g);have I:∀(o:Ob) (R:U),(a.set 2 o++R)[3]? = some (.row 3 0 (cl f1 left++zs)):=λo R=>iy (by rw[ay (by omega)];exact c);rcases b.vw with⟨rfl,rfl⟩|⟨P,v,p,⟨L,A⟩,rfl,B⟩
 .have y:∀(o:Ob) (R:U) (i:Nat),(a.set 2 o++R)[a.length+i]? = R[i]? := λo R i=>by rw[ai (by rw[ar];omega),ar];congr 1;omega
  simp[f,b.nv,g,c,hg,k0,k1,e,l,y,u];(with_reducible repeat' first|refine Xk ?_<;>try simp[f,b.nv,g,c,hg,k0,k1,e,l,y,u]|refine Xs ?_ ?_<;>intro h<;>(try intro V)<;>(try simp[h,f,b.nv,g,c,hg,k0,k1,e,l,y,u])<;>try omega|refine Xg ?_|omega);refine gx.w (by simp[f,b.nv,e,l];rfl) ?_;refine gx.kG rfl rfl (W4 (K:=λd H'=>d = .fZ 3 0 1 0 (left.length-1)/\H'=(a.set 2 (Ob.row 37 0 [D.fZ (a.length+1) 0 1 0 1]) ++ [Ob.row 3 0 [D.i (gt left k)],Ob.row 3 0 [D.i (gt left k)]]).set 3 (Ob.row 3 0 (cl f1 (tI left k)++D.i 0::zs))) k0 k1 (I _ _) ⟨rfl,rfl⟩) ?_;rintro _ _ ⟨rfl,rfl⟩;simp[u]
  have j:=((b.more (o:=.row 3 0 [.i (gt left k)]) rfl).anC (gt left k)).del (zs:=zs) C (by rw[l,aK];exact I _ _) k0 k1
  rw[l,aK,aj,aV]at j;have n:=j.rc;simp only[iM,bW,aS,show f1 (gt left k) = [D.i (gt left k)]by simp]at j n;simp[n];exact F _ _ (j.Um .ready) (by simp;omega)
 .have Q:=js B;have x:∀R:U,(a++R)[v]? = some (.row 3 p (cl f1 gX)):=λR=>iy B;have t:∀(R:U) (o:Ob),(a++R).set v o=a.set v o++R:=λR o=>aO _ _ Q;have N:v≠2:=by omega
  have s:∀(o:Ob) (R:U),(a.set v o++R)[2]? = some (.row 37 0 [.fZ v p 1 0 gX.length]):=λo R=>iy (by rw[ay N];exact b.nv);have r:∀(o o':Ob) (R:U),((a.set v o).set 2 o'++R)[4]? = some (.row 37 0 [.fZ 3 0 1 0 left.length]):=λo o' R=>iy (by rw[ay (by omega),ay (by omega)];exact g);have G:∀(o o':Ob) (R:U),((a.set v o).set 2 o'++R)[3]? = some (.row 3 0 (cl f1 left++zs)):=λo o' R=>iy (by rw[ay (by omega),ay (by omega)];exact c);have m:∀(o o':Ob) (R:U),(a.set v o++R).set 2 o'=(a.set v o).set 2 o'++R:=λo o' R=>aO _ _ (by rw[ar];exact J);simp[f,b.nv,g,c,hg,k0,k1,e,x,t,s,m,r];(with_reducible repeat' first|refine Xk ?_<;>try simp[f,b.nv,g,c,hg,k0,k1,e,x,t,s,m,r]|refine Xs ?_ ?_<;>intro h<;>(try intro V)<;>(try simp[h,f,b.nv,g,c,hg,k0,k1,e,x,t,s,m,r])<;>try omega|refine Xg ?_|omega);refine gx.w (by simp[f,b.nv,e,x,t,s,m];rfl) ?_;refine gx.kG rfl rfl (W4 (K:=λd H'=>d = .fZ 3 0 1 0 (left.length-1)/\H'=((a.set v (Ob.row 3 (p+1) (cl f1 (gX ++ [gt left k])))).set 2 (Ob.row 37 0 [D.fZ v (p+1) 1 0 (gX.length+1)]) ++ [Ob.row 3 0 [D.i (gt left k)]]).set 3 (Ob.row 3 0 (cl f1 (tI left k)++D.i 0::zs))) k0 k1 (G _ _ _) ⟨rfl,rfl⟩) ?_;rintro _ _ ⟨rfl,rfl⟩;simp[r];have j:=(((b.anD A P L B (gt left k))).more (o:=.row 3 0 [.i (gt left k)]) rfl).del (zs:=zs) C (G _ _ _) k0 k1;have n:=j.rc;simp[n];exact F _ _ (j.Um .ready) (by simp;omega)
end Go.Proofs.YtmehofoficaelaaGreatDoor
namespace Go.Proofs.YtmehofoficaelaaGreatDoor
open Go Go.AL Classical
def apv{n k:Nat}(h:k<n):∃R:List Int,upto n=upto k++(k:Int)::R/\∀p∈R,(k:Int)<p:=by
 refine⟨(List.range' (k+1) (n-(k+1))).map λi:Nat=>(i:Int),?_,λp a=>?_⟩
 .unfold upto
  rw[show((k:Int)::(List.range' (k+1) (n-(k+1))).map λi:Nat=>(i:Int))=(List.range' k (n-k)).map λi:Nat=>(i:Int)by rw[show n-k=(n-(k+1))+1 by omega,cL];rfl,<-List.map_append]
  congr 1;rw[cP,cP];have:=List.range'_append (s:=0) (m:=k) (n:=n-k) (step:=1);rw[show k+(n-k)=n by omega,Nat.one_mul,aR]at this;exact this.symm
 .obtain⟨i,hi,rfl⟩:=List.mem_map.1 a;rw[List.mem_range'_1]at hi;omega
def aod{left S:List Int}{k:Nat}(h:k<left.length)(hS:∀p∈S,(k:Int)<p) :
  ∃R,mN left S=left.take k++gt left k::R/\mN left ((k:Int)::S)=left.take k++R:=by
 obtain⟨R,f,g⟩:=apv h
 have e:∀S:List Int,(∀p∈S,(k:Int)<p\/p=k)->((upto k).filter λp => !S.contains p)=upto k:=λS hS=>eU.2 λp a=>by have:=jd.1 a;simp only[dm,dy,decide_eq_false_iff_not];intro c;rcases hS p c with h|h<;>omega
 have d:((upto k).map λp=>gt left p)=left.take k:=by
  refine bt (by simp[pH];omega) λi h1 j=>?_;rw[List.getElem_map,List.getElem_take];have hi:i<k:=by simpa[pH]using h1
  have:(upto k)[i]'(by rw[pH];exact hi)=(i:Int):=by simp[upto]
  rw[this,iZ (by omega) (by omega)];simp
 refine⟨(R.filter λp => !S.contains p).map λp=>gt left p,?_,?_⟩
 .unfold mN
  have b:(!S.contains (k:Int))=true:=by simp only[dm,dy,decide_eq_false_iff_not];intro c;have:=hS _ c;omega
  rw[f,c8,e S λp a=>.inl (hS p a),List.map_append,d,List.filter_cons,if_pos b];rfl
 .unfold mN;have b:¬(!((k:Int)::S).contains (k:Int))=true:=by simp
  rw[f,c8,e _ λp a=>?_,List.map_append,d,List.filter_cons,if_neg b]
  .congr 2;refine List.filter_congr λp a=>?_;have:=g p a;simp;omega
  .rcases ao.1 a with rfl|a
   .exact .inr rfl
   .exact .inl (hS p a)
def abo(left:List Int):mN left []=left:=by
 unfold mN;rw[eU.2 (by simp)];refine bt (by simp[pH]) λi h1 a=>?_;rw[List.getElem_map];have:(upto left.length)[i]'(by rw[pH];exact a)=(i:Int):=by simp[upto]
 rw[this,iZ (by omega) (by omega)];simp
def aoe{left S:List Int}{k:Int}(k0:0<=k)(h:k<left.length)(hS:∀p∈S,k<p) :
  (k<(mN left S).length/\gt (mN left S) k=gt left k)/\tI (mN left S) k=mN left (k::S):=by
 obtain⟨n,rfl⟩:∃n:Nat,k=n:=⟨k.toNat,by omega⟩;have b:n<left.length:=by omega
 obtain⟨R,h1,c⟩:=aod b hS;have hl:(left.take n).length=n:=by rw[aJ];omega
 rw[h1,c];have a:n<(left.take n++gt left n::R).length:=by simp;omega
 refine⟨⟨by omega,?_⟩,?_⟩
 .rw[iZ (by omega) (by omega)];simp only[bB];rw[List.getElem_append_right (by omega)];simp[hl]
 .unfold tI;simp only[bB];rw[aW (by omega),af (by omega),show n+1=(left.take n).length+1 by omega,fq];simp
end Go.Proofs.YtmehofoficaelaaGreatDoor
namespace Go.Proofs.YtmehofoficaelaaGreatDoor
open Go Go.AL Classical
set_option maxRecDepth 10000
set_option maxHeartbeats 16000000
attribute [-simp] tH
def ae4{H0 H:U}{q rv:Nat}{left gX:List Int}{ld:D}(h:LS H0 H q rv .ready left gX ld){ls:List Int}(M:∀k∈ls,0<=k/\k<left.length)(N:ls.Pairwise (· < ·))(X:ls.length<=100000)
  (W:gX.length+ls.length<=100000) (Q:left.length<=100000) {n:Nat} {x:D} (I:H0[n]? = some (.row 37 0 [x])) (o:4<n/\n≠rv/\n≠q)
  (G:x=dN 1 f1 ls\/∃v g,x = .fZ v g 1 0 ls.length/\H0[v]? = some (.row 3 g (cl f1 ls))/\4<v/\v≠rv/\v≠q) :
  Wf T 124 [.ja rv,.ptr n 0 0] H (λ_ H'=>∃b,LS H0 H' q rv .ready (mN left ls) (gX++ls.reverse.map λk=>gt left k) b/\H.length<=H'.length):=by
 have z:∀Hc,mX .slice x Hc=some (.i ls.length):=λHc=>by
  rcases G with rfl|⟨v,g,rfl,_⟩
  .cases ls with
   | nil=>rfl
   | cons a r=>simp[dN]
  .simp
 have t:∀S:List Int,(mN left S).length<=left.length:=λS=>by unfold mN;rw[List.length_map];have:=List.length_filter_le (λp => !S.contains p) (upto left.length);rwa [pH]at this
 have c:=h.kp n _ I (.inl o.1) o.2.1 o.2.2;refine Yg Kg ?_;simp[Kg,z,c];(with_reducible repeat' first|refine Xk ?_<;>try simp[z,c]|refine Xs ?_ ?_<;>intro h<;>(try intro u)<;>(try simp[h,z,c])<;>try omega|refine Xg ?_|omega);refine gp.e ((H,(ls.length:Int)-1,ld):U×Int×D) (λy=>[(0,.ja rv),(1,.ptr n 0 0),(3,.i y.2.1)]) (λy=>y.1) (λy=>(-1<=y.2.1/\y.2.1<ls.length)/\H.length<=y.1.length/\LS H0 y.1 q rv .ready (mN left (ls.drop (y.2.1+1).toNat)) (gX++(ls.drop (y.2.1+1).toNat).reverse.map λk=>gt left k) y.2.2) (λy=>(y.2.1+1).toNat) ?_ ?_
 .refine pD ⟨Nat.le_refl _,?_⟩;dsimp only;rw[show((ls.length:Int)-1+1).toNat=ls.length by omega,List.drop_length,abo];simpa using h
 rintro⟨Hc,i,A⟩ ⟨⟨i0,O⟩,L,f⟩;dsimp only at i0 O L f ⊢;have c:=f.kp n _ I (.inl o.1) o.2.1 o.2.2
 by_cases hi:0<=i
 .obtain⟨m,rfl⟩:∃m:Nat,i=m:=⟨i.toNat,by omega⟩;have s:m<ls.length:=by omega
  have e:ls.drop m=gt ls m::ls.drop (m+1):=by rw[bA s,iZ (by omega) (by omega)];rfl
  rw[show((m:Int)+1).toNat=m+1 by omega]at f
  have l:(cl f1 ls)[m]? = some (.i (gt ls (m:Int))):=by rw[zG,au,List.getElem?_eq_getElem s,iZ (by omega) (by omega)];rfl
  obtain⟨k,w⟩:∃k,gt ls (m:Int)=k:=⟨_,rfl⟩;rw[w]at e l;have E:∀h,(cl f1 ls)[m]'h = .i k:=λh=>by rw[List.getElem?_eq_getElem h]at l;exact bU l
  obtain⟨S,hS⟩:∃S,ls.drop (m+1)=S:=⟨_,rfl⟩;rw[hS]at e f;have P:(k::S).Pairwise (· < ·):=by rw[<-e];exact N.drop
  have C:=(aX.1 P).1;have B:k∈ls:=bC (i:=m) (by rw[e];simp)
  have V:S.length+1<=ls.length:=by have:=congrArg List.length e;rw[aQ,aC]at this;omega
  obtain⟨k0,k1⟩:=M k B;obtain⟨⟨q1,q2⟩,q3⟩:=aoe k0 k1 C
  have J:∀(env:Env) (K:St->Prop),(∀H' b,LS H0 H' q rv .ready (mN left (ls.drop m)) ((gX++S.reverse.map λk=>gt left k) ++ [gt left k]) b->Hc.length<=H'.length->K { env:=put env (some 17) (.b true),H:=H' }) ->
    qx T rv [.i (m:Int),.i k] (some 17) { env:=env,H:=Hc } K .mk:=λenv K R=>apP f (by simp;omega) (by have:=t S;omega) k0 q1 λH' b d j=>by
   rw[q2,q3,<-e]at d;exact R H' b d j
  rcases G with rfl|⟨v,g,rfl,hv,vb,hv5,hv6⟩
  .simp[c];(with_reducible repeat' first|refine Xk ?_<;>try simp[w]|refine Xs ?_ ?_<;>intro h<;>(try intro u)<;>(try simp[h,w])<;>try omega|refine Xg ?_|omega);simp[w];refine J _ _ λH' b d j=>?_;simp;(with_reducible repeat' first|refine Xk ?_<;>try simp|refine Xs ?_ ?_<;>intro h<;>(try intro u)<;>(try simp[h])<;>try omega|refine Xg ?_|omega);refine LJ.i (H',(m:Int)-1,b) (by simp) rfl rfl rfl ⟨by dsimp only;omega,iE,by dsimp only;omega,?_⟩;dsimp only;rw[show((m:Int)-1+1).toNat=m by omega];rw[e]at d ⊢;simpa using d
  .have F:=f.kp v _ hv (.inl vb) hv5 hv6;simp[c,F,l,E,s];(with_reducible repeat' first|refine Xk ?_<;>try simp[c,F,l,E,s]|refine Xs ?_ ?_<;>intro h<;>(try intro u)<;>(try simp[h,c,F,l,E,s])<;>try omega|refine Xg ?_|omega);refine J _ _ λH' b d j=>?_;simp;(with_reducible repeat' first|refine Xk ?_<;>try simp|refine Xs ?_ ?_<;>intro h<;>(try intro u)<;>(try simp[h])<;>try omega|refine Xg ?_|omega);refine LJ.i (H',(m:Int)-1,b) (by simp) rfl rfl rfl ⟨by dsimp only;omega,iE,by dsimp only;omega,?_⟩;dsimp only;rw[show((m:Int)-1+1).toNat=m by omega];rw[e]at d ⊢;simpa using d
 .simp[hi];(with_reducible repeat' first|refine Xk ?_<;>try simp[hi]|refine Xs ?_ ?_<;>intro h<;>(try intro u)<;>(try simp[h,hi])<;>try omega|refine Xg ?_|omega);rw[show(i+1).toNat=0 by omega,ei]at f;exact⟨⟨A,by simpa using f⟩,L⟩
end Go.Proofs.YtmehofoficaelaaGreatDoor
namespace Go.Proofs.YtmehofoficaelaaGreatDoor
open Go Go.AL Classical
def acV{cl:List gK}{n:Nat}(h:¬lq cl n<0):mJ (sd cl (lq cl n))=true/\0<=lq cl n/\lq cl n<n:=by
 rcases Gf cl n with⟨e,_⟩|⟨h1,a,_⟩
 .omega
 .exact⟨a,h1⟩
def ahH{A:lG}{n:Nat}{ad:gK->Bool}{cl:List gK}{a:Int}{ls:List Int}(h:ni A n ad cl = .v a ls):(∃q,ls=idx q cl)/\ls≠[]/\-1<=a:=by
 unfold ni at h;split at h
 .rename_i m;cases h;exact⟨⟨_,rfl⟩,m,by omega⟩
 split at h
 .cases h
 split at h
 .rename_i i hi;cases h;have h1:=List.find?_some hi;have o:=fg hi;rw[jd]at o;exact⟨⟨_,rfl⟩,by simpa using h1,by omega⟩
 .rename_i d;split at h
  .cases h
  .rename_i f;cases h;obtain⟨l,h0,h1⟩:=acV f
   have k:∀r∈sd cl (lq cl n),lD r=true:=λr j=>by
    obtain⟨c,b,p,rfl⟩:=sK.1 j;have:=du.1 d (lq cl n) (jd.2 ⟨h0,h1⟩);simp only[decide_eq_true_eq,Classical.not_not]at this
    cases e:lD (kD c (lq cl n))with
    | true=>rfl
    | false=>exact absurd this (yK.2 ⟨c,b,by simp[p,e]⟩)
   obtain⟨c,b,g⟩:=acn (A:=A) k l;exact⟨⟨_,rfl⟩,yK.2 ⟨c,b,g⟩,by omega⟩
def ahv{q:gK->Bool}{cl:List gK}:∀k∈idx q cl,0<=k/\k<cl.length:=λk a=>(Cy.1 a).1
def UH(n:Nat):(upto n).Pairwise (· < ·):=by unfold upto;rw[et];exact List.pairwise_lt_range.imp λh=>by omega
def ahw{q:gK->Bool}{cl:List gK}:(idx q cl).Pairwise (· < ·):=(UH _).filter _
structure LB(g:gj)(l:List Pos)(nx:List (List Int))(L:List Cw)(H:U)(left gX:List Int)(ld dv:D):Prop where
 h0:H[0]? = some (.row 43 0 g.cells)
 ct:∃old,H[1]? = some (.row 168 0 (kn g l nx dv old))
 nv:H[2]? = some (.row 37 0 [ld])
 vw:(gX = []/\ld = .gg)\/(gX≠[]/\∃v gn,4<v/\ld = .fZ v gn 1 0 gX.length/\H[v]? = some (.row 3 gn (cl f1 gX)))
 arr:∃zs,gG zs=true/\H[3]? = some (.row 3 0 (cl f1 left++zs))
 ny:H[4]? = some (.row 37 0 [.fZ 3 0 1 0 left.length])
 ok:ju H.length H
 cv:CV H 1 (left.map λk=>gt L k) dv
def LB.ahK{g:gj}{l:List Pos}{nx:List (List Int)}{L:List Cw}{H H':U}{left gX:List Int}{ld dv:D}{cm:List gK}{J:Jd}{d:D}(h:LB g l nx L H left gX ld dv)(a:JP g l nx dv cm H H' 1 J d) :
  LB g l nx L H' left gX ld dv:=by
 obtain⟨sr,f,_⟩:=a.ct;refine⟨a.kp _ _ h.h0 (by omega),⟨_,f⟩,a.kp _ _ h.nv (by omega),?_,?_,a.kp _ _ h.ny (by omega),a.ok,?_⟩
 .rcases h.vw with h1|⟨h1,v,e,c,b,j⟩
  .exact .inl h1
  .exact .inr ⟨h1,v,e,c,b,a.kp _ _ j (by omega)⟩
 .obtain⟨zs,i,h1⟩:=h.arr;exact⟨zs,i,a.kp _ _ h1 (by omega)⟩
 .rcases h.cv with h1|h1|⟨v,e,h1,c,b⟩
  .exact .inl h1
  .exact .inr (.inl h1)
  .exact .inr (.inr ⟨v,e,h1,c,a.kp _ _ b h1⟩)
def LB.toLS{g:gj}{l:List Pos}{nx:List (List Int)}{L:List Cw}{H:U}{left gX:List Int}{ld dv:D}(h:LB g l nx L H left gX ld dv){R:U}{j:Nat}(k:R[j]? = some (.im 1280 eS .ready))(m:∀o∈R,nj (H.length+R.length) o=true) :
  ∃q,(q=2\/∃a,ld = .fZ q a 1 0 gX.length/\4<q)/\q<H.length/\LS (H++R) (H++R) q (H.length+j) .ready left gX ld:=by
 have n:=js h.ny
 have gi:ju (H++R).length (H++R):=by rw[aj];exact uw (xG (by omega) h.ok) m
 have c:(H++R)[H.length+j]? = some (.im 1280 eS .ready):=by rw[ai (by omega),Nat.add_sub_cancel_left];exact k
 obtain⟨zs,d,h1⟩:=h.arr;rcases h.vw with b|⟨b,v,a,f,e,i⟩
 .exact⟨2,.inl rfl,by omega,iy h.nv,.inl b,⟨zs,d,iy h1⟩,iy h.ny,gi,by omega,c,λw o h1 _ _ _=>h1,Nat.le_refl _⟩
 .exact⟨v,.inr ⟨a,e,f⟩,js i,iy h.nv,.inr ⟨b,v,a,⟨f,.inl rfl⟩,e,iy i⟩,⟨zs,d,iy h1⟩,iy h.ny,gi,by omega,c,λw o h1 _ _ _=>h1,Nat.le_refl _⟩
end Go.Proofs.YtmehofoficaelaaGreatDoor
namespace Go.AL
open Go
section
variable{T:iD}{live:List Nat}{a:IR}{s:St}{K:iU}{α:Type}
theorem gp.mi(keys:List Nat)(i:(keys.all λk=>live.contains k)=true)(E:α->Env)(f:α->U)(M:α->List Nat)(P:α->Prop)(d:α->Nat)(c:α)
  (h0:P c) (p:forget keys s.env=E c) (n:s.H=f c) (j:s.marks=M c)
  (h:∀x,P x->XC T a { env:=E x,H:=f x,marks:=M x,ic:=s.ic } (vg s.H.length live keys (λe H m r=>∃b,e=E b/\H=f b/\m=M b/\r=s.ic/\d b<d x/\P b) K)):gp T live a s K .mk:=by
 refine Wc.loop (λm s'=>∃x,P x/\m=d x/\({ s' with env:=forget keys s'.env }:St) = { env:=E x,H:=f x,marks:=M x,ic:=s.ic }) (d c) ⟨c,h0,rfl,?_⟩ ?_
 .dsimp only;rw[XI i,p];rw[<-n,<-j]
 .rintro m s' ⟨x,hP,rfl,l⟩;refine Ev.G3 keys ?_;rw[l];refine(XC.wc (h x hP)).mono λo g=>?_
  cases o with
  | norm v=>
   obtain⟨b,t,z,y,w,u,h1⟩:=g;refine⟨d b,u,b,h1,rfl,?_⟩;rw[t];generalize cut s.H.length live v=q at *;cases q;simp_all
  | exit=>exact g
  | ret=>exact g
def LM(E:α->Env)(b:α->U)(M:α->List Nat)(Q:α->Prop)(_:Tag (E,b,M,Q))(e:Env)(H:U)(m:List Nat)(r:Bool):Prop:=
 ∃a,e=E a/\H=b a/\m=M a/\r=false/\Q a
theorem LM.i{E:α->Env}{b:α->U}{M:α->List Nat}{Q:α->Prop}{t:Tag (E,b,M,Q)}{e:Env}{H:U}{m:List Nat}{r:Bool}(a:α)(h1:e=E a)(g:H=b a)(f:m=M a)(d:r=false)(c:Q a):LM E b M Q t e H m r:=⟨a,h1,g,f,d,c⟩
theorem gp.m(b:α)(E:α->Env)(c:α->U)(M:α->List Nat)(P:α->Prop)(d:α->Nat)
  (h:∀x,P x->XC T a { env:=E x,H:=c x,marks:=M x } (vg s.H.length live ((E b).map (·.1)) (LM E c M (λe=>d e<d x/\P e) .mk) K))
  (h0:P b) (l:forget ((E b).map (·.1)) s.env=E b) (j:s.H=c b) (i:s.marks=M b) (g:s.ic=false) (f:(((E b).map (·.1)).all λk=>live.contains k)=true):gp T live a s K .mk:=
 gp.mi _ f E c M P d b h0 l j i (by rw[g];exact h)
end
end Go.AL
namespace Go.Proofs.YtmehofoficaelaaGreatDoor
open Go Go.AL Classical
def outs(n:Nat)(left:List Int):List Int:=(upto n).filter λk => !left.contains k
def UG(n:Nat):(upto n).Nodup:=(UH n).imp λh e=>by omega
def anF{n:Nat}{gX left:List Int}(h:(gX++left).Perm (upto n)):gX.mergeSort (λx y=>decide (x<=y))=outs n left:=by
 have g:(gX++left).Nodup:=h.nodup_iff.2 (UG n);rw[bR]at g;obtain⟨h1,_,d⟩:=g;have i:=List.mergeSort_perm gX (λx y=>decide (x<=y));have f:(gX.mergeSort (λx y=>decide (x<=y))).Nodup:=i.nodup_iff.2 h1
 have hs:(gX.mergeSort (λx y=>decide (x<=y))).Pairwise λx y=>decide (x<=y)=true:=
  fE (λa b c h1 d=>by simp only[decide_eq_true_eq]at h1 d ⊢;omega) (λa b=>by simp only[b7,decide_eq_true_eq];omega) gX
 refine Fs ((hs.and f).imp λ⟨h1,d⟩=>by simp only[decide_eq_true_eq]at h1;omega) ((UH n).filter _) λk=>?_;unfold outs;rw[i.mem_iff,aL];have e:=h.mem_iff (a:=k);rw[List.mem_append]at e;simp only[dm,dy,decide_eq_false_iff_not];constructor
 .intro j;exact⟨e.1 (.inl j),λhl=>d k j k hl rfl⟩
 .rintro⟨q1,q2⟩;exact(e.2 q1).resolve_right q2
def aof{left ls:List Int}(g:ls.Nodup)(i:∀p∈ls,0<=p/\p<left.length):((ls.reverse.map λk=>gt left k)++mN left ls).Perm left:=by
 have e:(upto left.length).map (λp=>gt left p)=left:=by have:=abo left;unfold mN at this;rwa [eU.2 (by simp)]at this
 have h1:(ls.reverse++(upto left.length).filter λp => !ls.contains p).Perm (upto left.length):=by
  refine(List.perm_ext_iff_of_nodup ?_ (UG _)).2 λk=>?_
  .rw[bR];refine⟨(List.reverse_perm ls).nodup_iff.2 g,(UG _).filter _,λa c b d e=>?_⟩;rw[List.mem_reverse]at c;rw[aL]at d;rw[e]at c;simp[c]at d
  .rw[List.mem_append,List.mem_reverse,aL,jd];have:=i k
   by_cases h:k∈ls
   .simp[h,this h]
   .simp[h]
 have f:=h1.map (λp=>gt left p);rw[e,List.map_append]at f;exact f
noncomputable def C4(A:lG)(n:Nat)(ad:gK->Bool)(cl:List gK):List Int×Jd:=C5 A n ad cl (cl.length+1) (upto cl.length)
structure SI(A:lG)(n:Nat)(ad:gK->Bool)(cl:List gK)(left gX:List Int):Prop where
 pm:(gX++left).Perm (upto cl.length)
 st:∃f,left.length<f/\C5 A n ad cl f left=C4 A n ad cl
section
variable{A:lG}{n:Nat}{ad:gK->Bool}{cl:List gK}{left gX:List Int}
theorem SI.start:SI A n ad cl (upto cl.length) []:=⟨by simp,_,by rw[pH];omega,rfl⟩
theorem SI.rng(h:SI A n ad cl left gX):∀k∈left,0<=k/\k<cl.length:=λk a=>jd.1 (h.pm.mem_iff.1 (bI _ a))
theorem SI.len(h:SI A n ad cl left gX):gX.length+left.length=cl.length:=by have:=h.pm.length_eq;rwa [aj,pH]at this
theorem SI.step(h:SI A n ad cl left gX){a:Int}{ls:List Int}(g:ni A n ad (left.map λk=>gt cl k) = .v a ls) :
  SI A n ad cl (mN left ls) (gX++ls.reverse.map λk=>gt left k)/\(mN left ls).length<left.length/\(∀p∈ls,0<=p/\p<left.length)/\ls.Pairwise (· < ·)/\ls≠[]:=by
 obtain⟨⟨q,d⟩,i,_⟩:=ahH g
 have c:∀p∈ls,0<=p/\p<left.length:=λp b=>by rw[d]at b;have:=ahv p b;rwa [List.length_map]at this
 have hs:ls.Pairwise (· < ·):=by rw[d];exact ahw
 obtain⟨p,b⟩:=cM _ i;have j:=abn b (c p b).1 (c p b).2;obtain⟨f,l,e⟩:=h.st;refine⟨⟨?_,?_⟩,j,c,hs,i⟩
 .rw[aK];exact((aof (hs.imp λh e=>by omega) c).append_left gX).trans h.pm
 .cases f with
  | zero=>omega
  | succ f=>
   rw[C5,g]at e;exact⟨f,by omega,e⟩
theorem SI.done(h:SI A n ad cl left gX){J:Jd}(c:ni A n ad (left.map λk=>gt cl k)=J)(b:∀a ls,J≠.v a ls):C4 A n ad cl=(left,J):=by
 obtain⟨f,d,e⟩:=h.st;rw[<-e]
 cases f with
 | zero=>omega
 | succ f=>
  rw[C5,c]
  cases J with
  | v a ls=>exact absurd rfl (b a ls)
  | none=>rfl
  | Bj=>rfl
theorem ahI(h:ni A n ad cl = .none){i:Int}(i0:0<=i)(b:i<n):∀r∈sd cl i,lD r=true:=λr d=>by
 unfold ni at h;split at h
 .cases h
 split at h
 .cases h
 split at h
 .cases h
 .rename_i a;obtain⟨c,f,g,rfl⟩:=sK.1 d;have:=du.1 a i (jd.2 ⟨i0,b⟩);simp only[decide_eq_true_eq,Classical.not_not]at this
  cases e:lD (kD c i)with
  | true=>rfl
  | false=>exact absurd this (yK.2 ⟨c,f,by simp[g,e]⟩)
end
def za(cl:List gK)(left:List Int)(n:Nat):List gd:=(upto n).map λi=>nC (sd (left.map λk=>gt cl k) i)
def PR(cl:List gK)(left:List Int)(n:Nat):(za cl left n).length=n:=by unfold za;rw[List.length_map,pH]
def abS(cl:List gK)(left:List Int){n:Nat}{i:Int}(i0:0<=i)(a:i<n):gt (za cl left n) i=nC (sd (left.map λk=>gt cl k) i):=by rw[iZ i0 (by rw[PR];exact a)];unfold za;rw[List.getElem_map];congr 2;simp[upto];omega
noncomputable def wL(A:lG)(n:Nat)(ad:gK->Bool)(cl:List gK):Option (List gd)×List Int:=
 (if (C4 A n ad cl).2 = .none/\∀k:Int,0<=k->k<n->ke A (za cl (C4 A n ad cl).1 n) k then some (za cl (C4 A n ad cl).1 n)else none,outs cl.length (C4 A n ad cl).1)
def y9:Option (List gd)×List Int->List D
 | (some v,o)=>[iw v,dN 1 f1 o,.i 0]
 | (none,o)=>[.gg,dN 1 f1 o,.i 180]
def ad1{L:List Cw}{left:List Int}(h:∀k∈left,0<=k/\k<L.length):cs (left.map λk=>gt L k)=left.map λk=>gt (cs L) k:=by unfold cs;rw[cd];refine aq λk a=>?_;have:=h k a;exact(NU this.1 this.2).symm
theorem Te:∀(ms:List Nat) (H:U),ms.Nodup->(∀v∈ms,H[v]? = some .jE)->∃H',kill ms H=some H'/\H'.length=H.length/\∀w:Nat,w ∉ ms->H'[w]? = H[w]?
 | [],H,_,_=>⟨H,rfl,rfl,λ_ _=>rfl⟩
 | v::ms,H,hn,h=>by
  rw[cQ]at hn
  obtain⟨H',h1,c,b⟩:=Te ms (H.set v .dead) hn.2 λw a=>by rw[ay (λe=>hn.1 (by rw[e];exact a))];exact h w (bj _ a)
  refine⟨H',?_,by rw[c,ar],λw a=>?_⟩
  .rw[kill,h v List.mem_cons_self];exact h1
  .rw[ao,not_or]at a;rw[b w a.2,ay (cA a.1)]
end Go.Proofs.YtmehofoficaelaaGreatDoor
namespace Go.Proofs.YtmehofoficaelaaGreatDoor
open Go Go.AL Classical
structure CB(g:gj)(l:List Pos)(nx:List (List Int))(L:List Cw)(left:List Int)(old:D)(Hs Hc:U)(y:Nat)(dv:D):Prop where
 ct:Hc[1]? = some (.row 168 0 (kn g l nx dv old))
 dv:(y=0/\dv = .gg)\/(0<y/\∃v gn,Hs.length<=v/\dv = .fZ v gn 36 0 y/\Hc[v]? = some (.row 72 gn (cl ib ((left.take y).map λk=>gt L k))))
 kp:∀w o,Hs[w]? = some o->w≠1->Hc[w]? = some o
 ok:ju Hc.length Hc
 le:Hs.length<=Hc.length
section
variable{g:gj}{l:List Pos}{nx:List (List Int)}{L:List Cw}{left:List Int}{old dv:D}{Hs Hc:U}{y:Nat}
theorem Pd{n:Nat}{dv old:D}(h1:jv n dv=true)(a:jv n old=true):nj n (.row 168 0 (kn g l nx dv old))=true:=by unfold kn;simp[h1,a]
theorem CB.start{d0:D}(h1:Hs[1]? = some (.row 168 0 (kn g l nx d0 old)))(gi:ju Hs.length Hs):CB g l nx L left old Hs (Hs.set 1 (.row 168 0 (kn g l nx .gg old))) 0 .gg:=by have hl:=js h1;have b:jv Hs.length old=true:=List.all_eq_true.1 (gi _ (List.mem_of_getElem? h1)) old (by unfold kn;simp);refine⟨aH hl,.inl ⟨rfl,rfl⟩,λw o a c=>by rw[ay (cA c)];exact a,?_,by rw[ar];exact Nat.le_refl _⟩;rw[ar];exact pZ gi (Pd rfl b)
theorem CB.aaR(h:CB g l nx L left old Hs Hc y dv):jv Hc.length old=true:=List.all_eq_true.1 (h.ok _ (List.mem_of_getElem? h.ct)) old (by unfold kn;simp)
theorem CB.more(h:CB g l nx L left old Hs Hc y dv){o:Ob}(c:nj (Hc.length+1) o=true):CB g l nx L left old Hs (Hc ++ [o]) y dv:=by
 refine⟨iy h.ct,?_,λw o b d=>iy (h.kp w o b d),?_,by rw[aj];have:=h.le;omega⟩
 .rcases h.dv with h1|⟨h1,v,j,i,f,e⟩
  .exact .inl h1
  .exact .inr ⟨h1,v,j,i,f,iy e⟩
 .rw[aj,aV];refine uw (xG (by omega) h.ok) λx a=>?_;rw[List.mem_singleton.1 a];exact c
theorem ab2{y:Nat}(a:y<left.length):(left.take (y+1)).map (λk=>gt L k)=(left.take y).map (λk=>gt L k) ++ [gt L (gt left (y:Int))]:=by rw[cU,List.getElem?_eq_getElem a,List.map_append,iZ (l:=left) (by omega) (by omega)];simp
theorem CB.acD(h:CB g l nx L left old Hs Hc 0 .gg)(b:0<left.length) :
  CB g l nx L left old Hs ((Hc.set 1 (.row 168 0 (kn g l nx (.fZ Hc.length 0 36 0 1) old))) ++ [.row 72 0 (ib (gt L (gt left 0)))]) 1 (.fZ Hc.length 0 36 0 1):=by
 have hl:=js h.ct;have e:=ab2 (L:=L) b;refine⟨iy (aH hl),.inr ⟨by omega,Hc.length,0,h.le,rfl,?_⟩,λw o d a=>iy (by rw[ay (cA a)];exact h.kp w o d a),?_,by rw[aj,ar];have:=h.le;omega⟩
 .rw[ai (by rw[ar];omega),ar,b6,e];simp[iM]
 .rw[aj,ar,aV];refine uw (pZ (xG (by omega) h.ok) (Pd (by simp) (Fi (by omega) h.aaR))) λx c=>?_;rw[List.mem_singleton.1 c];exact AK (Fl.cl _)
theorem CB.acE{v a:Nat}(h:CB g l nx L left old Hs Hc y (.fZ v a 36 0 y))(n:1<Hs.length)(i:y<left.length)(j:Hs.length<=v)(m:Hc[v]? = some (.row 72 a (cl ib ((left.take y).map λk=>gt L k)))) :
  CB g l nx L left old Hs ((Hc.set v (.row 72 (a+1) (cl ib ((left.take y).map λk=>gt L k)++ib (gt L (gt left (y:Int)))))).set 1 (.row 168 0 (kn g l nx (.fZ v (a+1) 36 0 (y+1)) old))) (y+1) (.fZ v (a+1) 36 0 (y+1)):=by
 have hl:=js h.ct;have b:=js m;have e:=ab2 (L:=L) i
 have f:cl ib ((left.take y).map λk=>gt L k)++ib (gt L (gt left (y:Int)))=cl ib ((left.take (y+1)).map λk=>gt L k):=by rw[e,<-zH,iM]
 refine⟨aH (by rw[ar];exact hl),.inr ⟨by omega,v,a+1,j,rfl,?_⟩,λw o c d=>?_,?_,by rw[ar,ar];exact h.le⟩
 .rw[ay (by omega),aH b,f]
 .rw[ay (cA d),ay (by have:=js c;omega)];exact h.kp w o c d
 .rw[ar,ar];refine pZ (pZ h.ok ?_) (Pd (by simp[b]) h.aaR);rw[f];exact yX _
structure LA(g:gj)(H:U)(left gX:List Int)(ld:D):Prop where
 h0:H[0]? = some (.row 43 0 g.cells)
 nv:H[2]? = some (.row 37 0 [ld])
 vw:(gX = []/\ld = .gg)\/(gX≠[]/\∃v gn,4<v/\ld = .fZ v gn 1 0 gX.length/\H[v]? = some (.row 3 gn (cl f1 gX)))
 arr:∃zs,gG zs=true/\H[3]? = some (.row 3 0 (cl f1 left++zs))
 ny:H[4]? = some (.row 37 0 [.fZ 3 0 1 0 left.length])
theorem LA.mono{H H':U}{gX:List Int}{ld:D}(h:LA g H left gX ld)(a:∀w o,H[w]? = some o->w≠1->H'[w]? = some o):LA g H' left gX ld:=by
 refine⟨a _ _ h.h0 (by omega),a _ _ h.nv (by omega),?_,?_,a _ _ h.ny (by omega)⟩
 .rcases h.vw with h1|⟨h1,v,f,e,d,c⟩
  .exact .inl h1
  .exact .inr ⟨h1,v,f,e,d,a _ _ c (by omega)⟩
 .obtain⟨zs,b,h1⟩:=h.arr;exact⟨zs,b,a _ _ h1 (by omega)⟩
theorem CB.toLB{gX:List Int}{ld:D}(a:LA g Hs left gX ld)(h:CB g l nx L left old Hs Hc left.length dv):LB g l nx L Hc left gX ld dv:=by
 have h1:=a.mono h.kp;refine⟨h1.h0,⟨_,h.ct⟩,h1.nv,h1.vw,h1.arr,h1.ny,h.ok,?_⟩;rcases h.dv with⟨c,b⟩|⟨c,v,f,b,e,d⟩
 .exact .inr (.inl ⟨by rw[ax.1 c];rfl,b⟩)
 .have hl:=js a.ny;refine .inr (.inr ⟨v,f,by omega,by rw[e];simp,?_⟩);rw[d,dH]
theorem mn.aiA{H H':U}{ck sr n:Nat}{M:Nat->kd}{ow:Nat->Nat×Nat×Nat}{P:Nat->Nat}{Q:Nat->Nat->Nat}(h:mn H ck sr n M ow P Q)(b:∀v o,H[v]? = some o->ow v≠(5,0,0)->H'[v]? = some o):mn H' ck sr n M ow P Q:=by
 refine⟨h.fc,h.fs,b _ _ h.row (by rw[h.fs];simp),λj c=>?_,λj c t x d=>?_⟩
 .obtain⟨h1,a⟩:=h.mp j c;exact⟨b _ _ h1 (by rw[a];simp),a⟩
 .obtain⟨h1,a⟩:=h.ls j c t x d;exact⟨b _ _ h1 (by rw[a];simp),a⟩
def JE(cm:List gK)(k:Int)(V:List gd)(seen:List Nat):List gd:=if seen = []then V else pt V k (nC (sd cm k))
@[simp] theorem aAE(cm:List gK)(k:Int)(V:List gd):JE cm k V []=V:=if_pos rfl
theorem acb{cm:List gK}{k:Int}{V:List gd}{seen:List Nat}(h:seen≠[]):JE cm k V seen=pt V k (nC (sd cm k)):=if_neg h
theorem LB.jE{H:U}{gX:List Int}{ld:D}(h:LB g l nx L H left gX ld dv){v:Nat}(a:H[v]? = some .jE):4<v/\∀q d n,ld = .fZ q d 1 0 n->v≠q:=by
 have key:∀ {w:Nat} {o:Ob},H[w]? = some o->o≠.jE->v≠w:=λf i e=>i (by rw[e,f]at a;exact bU a);refine⟨?_,λq d n e=>?_⟩
 .have h0:=key h.h0 (by simp);obtain⟨_,h1⟩:=h.ct;have h1:=key h1 (by simp);have c:=key h.nv (by simp);obtain⟨_,_,b⟩:=h.arr;have b:=key b (by simp);have j:=key h.ny (by simp);omega
 .rcases h.vw with⟨_,h1⟩|⟨_,w,k,_,h1,c⟩
  .rw[h1]at e;cases e
  .rw[h1]at e;cases e;exact key c (by simp)
theorem LB.start{dcl:D}(b:dcl = .sl 36 (L.map ib)\/(L = []/\dcl = .gg)):LB g l nx L [.row 43 0 g.cells,.row 168 0 (kn g l nx dcl .gg),.row 37 0 [.gg],.row 3 0 (cl f1 (upto L.length)),.row 37 0 [.fZ 3 0 1 0 L.length]] (upto L.length) [] .gg dcl:=by
 have c:jv 5 dcl=true:=by
  rcases b with rfl|⟨rfl,rfl⟩
  .exact AZ (yd L)
  .rfl
 have d:(upto L.length).map (λk=>gt L k)=L:=by
  refine bt (by simp[pH]) λi h1 e=>?_;rw[List.getElem_map];have:(upto L.length)[i]'(by rw[pH];exact e)=(i:Int):=by simp[upto]
  rw[this,iZ (by omega) (by omega)];simp
 refine⟨rfl,⟨_,rfl⟩,rfl,.inl ⟨rfl,rfl⟩,⟨[],rfl,by simp⟩,by rw[pH];rfl,λo a=>?_,?_⟩
 .rcases ao.1 a with rfl|a
  .show nj 5 _=true;simp
  .rcases ao.1 a with rfl|a
   .exact Pd c rfl
   .rcases ao.1 a with rfl|a
    .rfl
    .rcases ao.1 a with rfl|a
     .exact yX _
     .rw[List.mem_singleton.1 a];show((jv 5 (.fZ 3 0 1 0 L.length))&&true)=true;simp
 .rw[d];rcases b with h|h
  .exact .inl h
  .exact .inr (.inl h)
theorem LS.toLA{H0 H:U}{q rv:Nat}{st:qv}{gX:List Int}{ld:D}(h:LS H0 H q rv st left gX ld)(h0:H0[0]? = some (.row 43 0 g.cells))(l:1<q):LA g (H.set rv .dead) left gX ld/\ju (H.set rv .dead).length (H.set rv .dead)/\∀w o,H0[w]? = some o->(4<w\/w<=1)->w≠rv->w≠q->(H.set rv .dead)[w]? = some o:=by
 have k:=h.CY;have key:∀ {w:Nat} {o:Ob},H[w]? = some o->w≠rv->(H.set rv .dead)[w]? = some o:=λf i=>by rw[ay (cA i)];exact f
 refine⟨⟨key (h.kp 0 _ h0 (.inr (by omega)) (by omega) (by omega)) (by omega),key h.nv (by omega),?_,?_,key h.ny (by omega)⟩,?_,λw o h1 c b a=>key (h.kp w o h1 c b a) b⟩
 .rcases h.vw with h1|⟨h1,v,j,⟨c,_⟩,b,a⟩
  .exact .inl h1
  .exact .inr ⟨h1,v,j,c,b,key a λe=>by rw[e,h.rc]at a;cases a⟩
 .obtain⟨zs,d,h1⟩:=h.arr;exact⟨zs,d,key h1 (by omega)⟩
 .rw[ar];exact pZ h.ok rfl
end
end Go.Proofs.YtmehofoficaelaaGreatDoor
namespace Go.Proofs.YtmehofoficaelaaGreatDoor
open Go Go.AL Classical
set_option maxRecDepth 10000
set_option maxHeartbeats 16000000
attribute [-simp] tH
def apw{n k:Nat}(h:k<n):(upto k++List.replicate (n-k) 0).set k (k:Int)=upto (k+1)++List.replicate (n-(k+1)) 0:=by rw[Fy,dD _ _ (by rw[pH];omega),pH,b6,show n-k=(n-(k+1))+1 by omega,bz];simp
def abQ{H:U}{gX left:List Int}{N:Nat}{ld:D}(b:(gX = []/\ld = .gg)\/(gX≠[]/\∃v a,4<v/\ld = .fZ v a 1 0 gX.length/\H[v]? = some (.row 3 a (cl f1 gX))))(f:(gX++left).Perm (upto N))(hN:N<=100000)(gi:ju H.length H) :
  Wf T 67 [ld] H (λd H'=>d = .tup []/\((outs N left = []/\ld = .gg)\/(outs N left≠[]/\∃v a,4<v/\ld = .fZ v a 1 0 (outs N left).length/\H'[v]? = some (.row 3 a (cl f1 (outs N left)))))/\H'.length=H.length /\
   (∀w o,H[w]? = some o->(∀a n,ld≠.fZ w a 1 0 n)->H'[w]? = some o)/\ju H'.length H'):=by
 have hs:=anF f;have hl:=congrArg List.length hs;rw[eH]at hl;rcases b with⟨rfl,rfl⟩|⟨h0,v,a,i,rfl,c⟩
 .refine Wf.mono Xi ?_;rintro _ H' ⟨rfl,rfl⟩;exact⟨rfl,.inl ⟨ax.1 (by rw[<-hl];rfl),rfl⟩,rfl,λw o h _=>h,gi⟩
 .have g:gX.length<=N:=by have:=f.length_eq;rw[aj,pH]at this;omega
  refine f160 (l:=gX) (t:=3) (aw.2 h0) (by omega) c ?_;rw[hs,hl];refine⟨rfl,.inr ⟨λe=>h0 (ax.1 (by rw[hl,e];rfl)),v,a,i,rfl,aH (js c)⟩,ar,λw o h1 j=>?_,?_⟩
  .rw[ay (λe=>j a (outs N left).length (by rw[e]))];exact h1
  .rw[ar];exact pZ gi (yX _)
def aez(g:gj)(hg:gU g)(l:List Pos)(hc:ox g l)(h0:0<l.length)(h9:l.length<=1000){L:List Cw}{dcl:D}(hd:dcl = .sl 36 (L.map ib)\/(L = []/\dcl = .gg))
  (hL:∀x∈L,x.ok) (hb:∀x∈L,∀r∈x.c.es,r.2<=4000) (h8:L.length<=100000) :
  Wf T 20 [dG g,gZ l,dcl] [] (Is (.tup (y9 (wL (ji g l (gw g l)) l.length (jm l.length) (cs L))))):=by
 have cn:=f52 g hg l hc h0
 have X:closed dcl=true:=by
  rcases hd with rfl|⟨rfl,rfl⟩
  .exact yd L
  .rfl
 have oR:cellsOf dcl=some [dcl]:=by
  rcases hd with rfl|⟨rfl,rfl⟩
  .rfl
  .rfl
 have uX:∀H,mX .slice dcl H=some (.i L.length):=λH=>by
  rcases hd with rfl|⟨rfl,rfl⟩
  .simp
  .rfl
 have hj:=λ(H:U) (dv:D) (L':List Cw) (old:D) (hd:CV H 1 L' dv) (gi:ju H.length H) mf hL hb h8=>aeO g hg l hc h0 h9 (H:=H) (ck:=1) (L:=L') (old:=old) (dcl:=dv) hd gi mf hL hb h8;have cr:=afJ g hg l hc h0;obtain⟨nx,lX⟩:∃nx,gw g l=nx:=⟨_,rfl⟩;rw[lX]at cn hj cr ⊢;refine Yg JR ?_;simp[JR,X];refine gx.inl FJ rfl rfl (by simp[FJ]) rfl ?_;simp[FJ,X];refine Yc (cn) ?_;simp[X,oR];(with_reducible repeat' first|refine Xk ?_<;>try simp[X,uX]|refine Xs ?_ ?_<;>intro h<;>(try intro M)<;>(try simp[h,X,uX])<;>try omega|refine Xg ?_|omega);simp[X,uX];(with_reducible repeat' first|refine Xk ?_<;>try simp[X,uX]|refine Xs ?_ ?_<;>intro h<;>(try intro M)<;>(try simp[h,X,uX])<;>try omega|refine Xg ?_|omega);refine gp.s (by simp[X];rfl) ?_;refine gp.e (0:Int) (λy=>[(1,gZ l),(2,dcl),(3,.ptr 0 0 0),(9,.ptr 1 0 0),(11,.ptr 2 0 0),(12,.ptr 4 0 0),(40,.i L.length),(41,.i y)]) (λy=>[.row 43 0 g.cells,.row 168 0 (kn g l nx dcl .gg),.row 37 0 [.gg],.row 3 0 (cl f1 (upto y.toNat++List.replicate (L.length-y.toNat) 0)),.row 37 0 [.fZ 3 0 1 0 L.length]]) (λy=>0<=y/\y<=L.length) (λy=>(L.length-y).toNat) ?_ ?_
 .simp
 rintro y ⟨y0,y1⟩;dsimp only at y0 y1 ⊢
 by_cases Y:y<L.length
 .simp[Y];(with_reducible repeat' first|refine Xk ?_<;>try simp[Y]|refine Xs ?_ ?_<;>intro h<;>(try intro M)<;>(try simp[h,Y])<;>try omega|refine Xg ?_|omega);obtain⟨k,rfl⟩:∃k:Nat,y=k:=⟨y.toNat,by omega⟩;have C:k<L.length:=by omega
  refine⟨by rw[pH];simp;omega,by omega,by omega,LJ.i ((k:Int)+1) rfl ?_ rfl rfl mj⟩
  have hp:pt (upto k++List.replicate (L.length-k) 0) (k:Int) (k:Int)=upto (k+1)++List.replicate (L.length-(k+1)) 0:=by have e:=apw C;rw[cH,if_pos (by simp[pH];omega)]at e;exact e
  simp only[bB,show((k:Int)+1).toNat=k+1 by omega,hp]
 have yG:y=L.length:=by omega
 subst yG;simp;(with_reducible repeat' first|refine Xk ?_<;>try simp|refine Xs ?_ ?_<;>intro h<;>(try intro M)<;>(try simp[h])<;>try omega|refine Xg ?_|omega);rw[b6,eQ,az];have RI:=LB.start (g:=g) (l:=l) (nx:=nx) hd;obtain⟨Hi,RG⟩:∃Hi,[Ob.row 43 0 g.cells,.row 168 0 (kn g l nx dcl .gg),.row 37 0 [.gg],.row 3 0 (cl f1 (upto L.length)),.row 37 0 [.fZ 3 0 1 0 L.length]]=Hi:=⟨_,rfl⟩;rw[RG]at RI;have RJ:∀k:Int,0<=k->k<L.length->(gt L k).ok/\∀r∈(gt L k).c.es,r.2<=4000:=λk k0 k1=>⟨hL _ (gA k0 k1),hb _ (gA k0 k1)⟩;refine gp.m ((Hi,[],upto L.length,[],.gg,dcl):U×List Nat×List Int×List Int×D×D) (λ_=>[(1,gZ l),(2,dcl),(3,.ptr 0 0 0),(9,.ptr 1 0 0),(11,.ptr 2 0 0),(12,.ptr 4 0 0)]) (λx=>x.1) (λx=>x.2.1) (λx=>LB g l nx L x.1 x.2.2.1 x.2.2.2.1 x.2.2.2.2.1 x.2.2.2.2.2/\(∀v∈x.2.1,x.1[v]? = some .jE)/\x.2.1.Nodup/\SI (ji g l nx) l.length (jm l.length) (cs L) x.2.2.1 x.2.2.2.1) (λx=>x.2.2.1.length) ?_ ?_ rfl RG rfl rfl rfl
 rotate_left
 .exact⟨RI,λv b=>(by cases b),.nil,by rw[<-vI L];exact SI.start⟩
 clear RI RG y0 y1 Y;rintro⟨Hc,ms,left,gX,ld,dv⟩ ⟨hB,Sq,Ak,hS⟩;dsimp only at hB Sq Ak hS ⊢;obtain⟨old,lj⟩:=hB.ct;have hr:=hS.rng;have g0:=hS.len;rw[vI]at g0;simp only[vI]at hr
 have uU:∀x∈left.map (λk=>gt L k),x.ok:=λx I=>by obtain⟨k,C,rfl⟩:=List.mem_map.1 I;exact(RJ k (hr k C).1 (hr k C).2).1
 have Hl:∀x∈left.map (λk=>gt L k),∀r∈x.c.es,r.2<=4000:=λx I=>by obtain⟨k,C,rfl⟩:=List.mem_map.1 I;exact(RJ k (hr k C).1 (hr k C).2).2
 have Ad:=ad1 hr;have qh:=hj Hc dv (left.map λk=>gt L k) old hB.cv hB.ok lj uU Hl (by rw[List.length_map];omega);rw[Ad]at qh;obtain⟨J,hJ⟩:∃J,ni (ji g l nx) l.length (jm l.length) (left.map λk=>gt (cs L) k)=J:=⟨_,rfl⟩;rw[hJ]at qh;simp;refine gx.kG rfl rfl qh ?_;rintro d H' hP;have E:=hB.ahK hP
 have Ek:∀v∈ms,H'[v]? = some .jE:=λv b=>hP.kp v _ (Sq v b) λe=>by have:=Sq v b;rw[e,lj]at this;cases this
 cases J with
 | v a ls=>
  obtain⟨x,rfl,I⟩:=hP.vd;obtain⟨RP,gL,Oo,ua,gW⟩:=hS.step hJ
  have Il:cellsOf x=some [x]:=by
   rcases I with rfl|⟨_,v,s,rfl,_⟩
   .cases ls with
    | nil=>rfl
    | cons a r=>rfl
   .rfl
  simp;refine gx.w (by simp;rfl) ?_;refine gx.kG rfl rfl (aeP Il _) ?_;rintro _ H2 ⟨rfl,rfl⟩;simp;refine tC.s (by simp;rfl) ?_;refine tC.r (f:=124) (first:=[]) (cap:=[.ptr (H'.length+1) 0 0]) rfl (by simp) rfl rfl ?_;have e1:(H' ++ [Ob.row 89 0 [.i a,x],Ob.row 37 0 [x]]).length+1=H'.length+3:=by simp
  have D2:=js E.ny
  have EJ:jv (H'.length+4) x=true:=by
   rcases I with rfl|⟨_,v,s,rfl,b,_⟩
   .exact AZ (by simp)
   .have:=js b;simp;omega
  obtain⟨q,hq,Ez,Yd⟩:=E.toLS (R:=[.row 89 0 [.i a,x],.row 37 0 [x],.jE,.im 1280 eS .ready]) (j:=3) rfl (λo S=>by
   rcases ao.1 S with rfl|S
   .show((jv (H'.length+4) (.i a))&&((jv (H'.length+4) x)&&true))=true;rw[EJ];rfl
   .rcases ao.1 S with rfl|S
    .show((jv (H'.length+4) x)&&true)=true;rw[EJ];rfl
    .rcases ao.1 S with rfl|S
     .rfl
     .rw[List.mem_singleton.1 S];show((jv (H'.length+4) (.ptr 2 0 0))&&((jv (H'.length+4) (.ptr 4 0 0))&&true))=true;simp
      omega)
  have n':q<Hc.length/\1<q:=by
   rcases hq with rfl|⟨s,hq,_⟩
   .exact⟨js hB.nv,by omega⟩
   .rcases hB.vw with⟨_,h⟩|⟨_,v,G5,_,h,b⟩
    .rw[h]at hq;cases hq
    .rw[h]at hq;cases hq;exact⟨js b,by omega⟩
  have hHc:=js hB.ny
  have avp:ls.length<=left.length:=by have:=AI left.length ls (ua.imp λh e=>by omega) Oo;exact this
  show Wf T 124 [.ja ((H' ++ [Ob.row 89 0 [.i a,x],Ob.row 37 0 [x]]).length+1),.ptr (H'.length+1) 0 0] ((H' ++ [Ob.row 89 0 [.i a,x],Ob.row 37 0 [x]]) ++ [.jE,.im 1280 eS .ready]) _;rw[e1,aK];refine Wf.mono (ae4 (n:=H'.length+1) (x:=x) Yd Oo ua (by omega) (by omega) (by omega) (by simp) mj ?_) ?_
  .rcases I with h|⟨_,v,s,h,b,hN⟩
   .exact .inl h
   .have:=js b;exact .inr ⟨v,s,h,iy b,by omega,by omega,by omega⟩
  rintro _ H3 ⟨uh,RK,g1⟩;obtain⟨D8,HT,Om⟩:=RK.toLA (iy E.h0) n'.2
  have Sr:∀v∈(H'.length+2)::ms,(H3.set (H'.length+3) .dead)[v]? = some .jE:=λv b=>by
   rcases ao.1 b with rfl|b
   .exact Om _ _ (by simp) (by omega) (by omega) (by omega)
   .have h1:=Ek v b;have h2:=js h1;obtain⟨K,h4⟩:=E.jE h1;refine Om _ _ (iy h1) (.inl K) (by omega) ?_;rcases hq with e|⟨s,e,_⟩
    .omega
    .exact h4 _ _ _ e
  obtain⟨g5,o7⟩:=E.ct;have Od:=Om 1 _ (iy o7) (by omega) (by omega) (by omega);refine⟨eS,.ready,by rw[e1];exact RK.rc,?_⟩;have Am:((H'.length+2)::ms).Nodup:=cQ.2 ⟨λh=>by have:=js (Ek _ h);omega,Ak⟩;obtain⟨Hs,RH⟩:∃Hs,H3.set (H'.length+3) .dead=Hs:=⟨_,rfl⟩;rw[RH]at D8 HT Sr Od;have uW:=Od;unfold kn at uW;simp at uW;show oA (AP (St.mk _ (H3.set ((H' ++ [Ob.row 89 0 [.i a,x],Ob.row 37 0 [x]]).length+1) .dead) _ _) .ready) _ .mk;rw[e1,RH];clear RH Om g1 RK Yd;obtain⟨B,mu⟩:∃B,mN left ls=B:=⟨_,rfl⟩;obtain⟨Tj,nG⟩:∃Tj,(gX++ls.reverse.map λk=>gt left k)=Tj:=⟨_,rfl⟩;rw[mu,nG]at D8 RP;rw[mu]at gL;have Ya:=D8.ny;have DZ:∀d sd,(Ob.row 168 0 [.i g.size,.sl 1 (g.next.map fI),dI g.jw,.sl 3 (g.kinds.map Kind.cells),.i g.gM,.b g.oH,dN 4 Clause.cells g.clauses,.i g.blocked,.i g.vJ,gZ l,.sl 1 (nx.map fN),d,sd]) = .row 168 0 (kn g l nx d sd):=λd sd=>by unfold kn;simp
  have n7:=CB.start (L:=L) (left:=B) Od HT;simp[uW,Ya];refine gp.s (by simp[uW];rfl) ?_;rw[DZ];refine gp.kg ((H'.length+2)::ms) false ((Hs.set 1 (.row 168 0 (kn g l nx .gg g5)),0,.gg):U×Nat×D) (λy=>[(1,gZ l),(2,dcl),(3,.ptr 0 0 0),(9,.ptr 1 0 0),(11,.ptr 2 0 0),(12,.ptr 4 0 0),(76,.fZ 3 0 1 0 B.length),(77,.i B.length),(78,.i y.2.1)]) (λy=>y.1) (λy=>y.2.1<=B.length/\CB g l nx L B g5 Hs y.1 y.2.1 y.2.2) (λy=>B.length-y.2.1) ?_ (by simp) (by first|rfl|(simp[iM];done)|(simp[*];done)) rfl rfl rfl ?_
  .exact⟨by simp,n7⟩
  rintro⟨G,y,dg⟩ ⟨Y,hG⟩;dsimp only at Y hG ⊢
  by_cases W:y<B.length
  .obtain⟨zs,hz,ly⟩:=D8.arr;have K:=hG.kp 3 _ ly (by omega);obtain⟨k,C⟩:∃k,gt B (y:Int)=k:=⟨_,rfl⟩
   have Ed:(cl f1 B++zs)[y]? = some (.i k):=by rw[ah (by rw[rN];omega),zG,au,List.getElem?_eq_getElem W,<-C,zU W];rfl
   have HD:=RP.rng k (by rw[<-C];exact gA (by omega) (by omega));rw[vI]at HD;obtain⟨pp,sH,nI⟩:=CV.ix (H:=[]) (ck:=0) (hd.elim .inl λh=>.inr (.inl h)) HD.1 HD.2;have nI:=λH'=>nI H' λv o b=>by simp at b
   have I:=(RJ k HD.1 HD.2).1;have ki:(ib (gt L k)).length=36:=Fl.len _;have oi:(ib (gt L k)).take 36=ib (gt L k):=af (by omega);have vU:gG (ib (gt L k))=true:=Fl.cl _;have O:=hG.ct;unfold kn at O;simp at O;have tT:∀R:U,(G++R)[1]? = _:=λR=>iy O;have Ee:∀(R:U) (h:1<(G++R).length),(G++R)[1]'h=_:=λR h=>bU ((List.getElem?_eq_getElem h).symm.trans (tT R));have B4:=js O;have nV:∀(R:U) (o:Ob),(G++R).set 1 o=G.set 1 o++R:=λR o=>aO _ _ B4;have g1:=hG.le;have lZ:=js D8.ny;rcases hG.dv with⟨rfl,rfl⟩|⟨hy0,v,s,b,rfl,ED⟩
   .simp[W,K,Ed,sH,nI,tT,Ee,O,nV,ki,oi];(with_reducible repeat' first|refine Xk ?_<;>try simp[W,K,Ed,sH,nI,tT,Ee,O,nV,ki,oi]|refine Xs ?_ ?_<;>intro h<;>(try intro M)<;>(try simp[h,W,K,Ed,sH,nI,tT,Ee,O,nV,ki,oi])<;>try omega|refine Xg ?_|omega);have hF:=(hG.more (o:=.row 72 0 (ib (gt L k))) (AK vU)).acD W;rw[nV,aK,aj,aV,show gt B 0=k from C]at hF;rw[DZ];exact LJ.i (_,1,.fZ (G.length+1) 0 36 0 1) (by simp) rfl rfl rfl (qo hF)
   .have iG:=js ED;have oE:v≠1:=by omega
    have Au:∀R:U,(G++R)[v]? = _:=λR=>iy ED;have Cn:∀(R:U) (o:Ob),(G++R).set v o=G.set v o++R:=λR o=>aO _ _ iG;have gS:∀(o:Ob) (R:U),(G.set v o++R)[1]? = _:=λo R=>iy ((ay oE).trans O);have gB:∀(o:Ob) (R:U) (h:1<(G.set v o++R).length),(G.set v o++R)[1]'h=_:=λo R h=>bU ((List.getElem?_eq_getElem h).symm.trans (gS o R));have sS:∀(o o':Ob) (R:U),(G.set v o++R).set 1 o'=(G.set v o).set 1 o'++R:=λo o' R=>aO _ _ (by rw[ar];exact B4);have gO:(cl ib ((B.take y).map λk=>gt L k)).length=y*36:=by rw[rN,List.length_map,aJ];congr 1;omega
    have lj:(cl ib ((B.take y).map λk=>gt L k)).take (y*36)=cl ib ((B.take y).map λk=>gt L k):=af (by omega);have hyL:y<=100000:=by omega
    simp[W,K,Ed,sH,nI,tT,Ee,O,nV,ki,oi,Au,Cn,gS,gB,sS,gO,lj];(with_reducible repeat' first|refine Xk ?_<;>try simp[W,K,Ed,sH,nI,tT,Ee,O,nV,ki,oi,Au,Cn,gS,gB,sS,gO,lj]|refine Xs ?_ ?_<;>intro h<;>(try intro M)<;>(try simp[h,W,K,Ed,sH,nI,tT,Ee,O,nV,ki,oi,Au,Cn,gS,gB,sS,gO,lj])<;>try omega|refine Xg ?_|omega);have hF:=(hG.acE (by omega) W b ED).more (o:=.row 72 0 (ib (gt L k))) (AK vU);rw[C]at hF;rw[DZ,<-List.map_take,lj];exact LJ.i (_,y+1,.fZ v (s+1) 36 0 (y+1)) (by simp) rfl rfl rfl (qo hF)
  .have yG:y=B.length:=by omega
   subst yG;simp
   exact LM.i (G,(H'.length+2)::ms,B,Tj,uh,dg) rfl rfl rfl rfl ⟨gL,hG.toLB D8,λv b=>hG.kp v _ (Sr v b) (λe=>by
    have:=Sr v b;rw[e,Od]at this
    cases this),Am,RP⟩
 | none=>
  have b:d=_:=hP.vd;subst b;have hE:=hS.done hJ λa ls h=>by cases h
  have D2:=js E.ny;have F:∀R:U,(H'++R)[2]? = some (.row 37 0 [ld]):=λR=>iy E.nv;have Sy:ju (H' ++ [Ob.row 89 0 [.i 0,.gg]]).length (H' ++ [Ob.row 89 0 [.i 0,.gg]]):=IW E.ok rfl λo S=>by rw[List.mem_singleton.1 S];rfl
  have S3:(gX = []/\ld = .gg)\/(gX≠[]/\∃v s,4<v/\ld = .fZ v s 1 0 gX.length/\(H' ++ [Ob.row 89 0 [.i 0,.gg]])[v]? = some (.row 3 s (cl f1 gX))):=by
   rcases E.vw with h|⟨h1,v,s,h2,K,h4⟩
   .exact .inl h
   .exact .inr ⟨h1,v,s,h2,K,iy h4⟩
  have SO:=abQ S3 (N:=L.length) (left:=left) (by have:=hS.pm;rwa [vI]at this) h8 Sy;simp[F];(with_reducible repeat' first|refine Xk ?_<;>try simp[F]|refine Xs ?_ ?_<;>intro h<;>(try intro M)<;>(try simp[h,F])<;>try omega|refine Xg ?_|omega);refine gx.w (by simp;rfl) ?_;refine gx.kG rfl rfl SO ?_;rintro _ A ⟨rfl,EG,YW,Ag,p'⟩;have Am:∀v∈ms,A[v]? = some .jE:=λv b=>Ag v _ (iy (Ek v b)) λs n e=>(E.jE (Ek v b)).2 _ _ _ e rfl
  have Aj:A[2]? = some (.row 37 0 [ld]):=by
   refine Ag 2 _ (F _) λs n e=>?_;rcases EG with⟨_,h⟩|⟨_,v,G5,h1,h,_⟩
   .rw[h]at e;cases e
   .rw[h]at e;cases e;omega
  obtain⟨sr,YG,tj⟩:=hP.ct;obtain⟨ow,P,Q,tj,g'⟩:=tj rfl
  have Y9:∀w:Nat,w<5->∀s n,ld≠.fZ w s 1 0 n:=λw hw s n e=>by
   rcases EG with⟨_,h⟩|⟨_,v,G5,h1,h,_⟩
   .rw[h]at e;cases e
   .rw[h]at e;cases e;omega
  have o4:=Ag 1 _ (iy YG) (Y9 1 (by omega));have o0:=Ag 0 _ (iy E.h0) (Y9 0 (by omega))
  have SL:=(tj.app [Ob.row 89 0 [.i 0,.gg]]).aiA (H':=A) λv o b h5=>Ag v o b λs n e=>by
   rcases hB.vw with⟨_,h⟩|⟨_,w,G5,h1,h,h2⟩
   .rw[h]at e;cases e
   .rw[h]at e;cases e;exact h5 (g' _ _ h2 (by omega))
  clear tj g' YG;obtain⟨cm,RZ⟩:∃cm,(left.map λk=>gt (cs L) k)=cm:=⟨_,rfl⟩;rw[RZ]at hJ SL;have Rv:=ZH hJ;have n8:=@ahI _ _ _ _ hJ
  have HU:∀j:Int,0<=j->j<l.length->(gN cm j).length=1:=λj j0 j1=>by
   obtain⟨q1,q2⟩:=Rv.2 j j0 j1;have:=G7 (cl:=cm) (i:=j);rw[q2]at this;have K:¬ 1<(gN cm j).length:=λh=>by cases this.1 h
   have h4:(gN cm j).length≠0:=λh=>q1 (NT.1 h);omega
  have uW:=o4;unfold kn at uW;simp at uW;have oh:∀R:U,(A++R)[1]? = _:=λR=>iy uW;have RX:∀(R:U) (h:1<(A++R).length),(A++R)[1]'h=_:=λR h=>bU ((List.getElem?_eq_getElem h).symm.trans (oh R));simp[Aj,oh,RX];(with_reducible repeat' first|refine Xk ?_<;>try simp[Aj,oh,RX]|refine Xs ?_ ?_<;>intro h<;>(try intro M)<;>(try simp[h,Aj,oh,RX])<;>try omega|refine Xg ?_|omega);refine gp.kg ms false ((0,List.replicate l.length (0,0),[]):Int×List gd×U) (λy=>[(1,gZ l),(3,.ptr 0 0 0),(11,.ptr 2 0 0),(20,.fZ A.length 0 2 0 l.length),(108,.fZ sr 0 1 0 l.length),(109,.i l.length),(110,.i y.1)]) (λy=>A++(.row 86 0 (AL.cl fS y.2.1)::y.2.2)) (λy=>(0<=y.1/\y.1<=l.length)/\y.2.1.length=l.length/\∀j:Int,0<=j->j<y.1->gt y.2.1 j=nC (sd cm j)) (λy=>(l.length-y.1).toNat) ?_ (by simp) (by first|rfl|(simp[iM];done)|(simp[*];done)) rfl rfl rfl ?_
  .exact⟨by simp,by simp,λj j0 j1=>absurd j1 (by dsimp only;omega)⟩
  rintro⟨k,V,R⟩ ⟨⟨k0,k1⟩,hV,Aa⟩;dsimp only at k0 k1 hV Aa ⊢;have py:∀R:U,(A++R)[sr]? = some (.row 170 0 ((List.range l.length).map λj=>D.gH (P j))):=λR=>iy SL.row
  by_cases C:k<l.length
  .obtain⟨p1,_⟩:=SL.mp k.toNat (by omega);rw[show((k.toNat:Nat):Int)=k by omega]at p1;obtain⟨p,lk⟩:∃p,P k.toNat=p:=⟨_,rfl⟩;obtain⟨q,yE⟩:∃q,Q k.toNat=q:=⟨_,rfl⟩;rw[lk,yE]at p1;have oV:∀R:U,(A++R)[p]? = some (.map KS (iY q 0 (gN cm k))):=λR=>iy p1;have h1:=HU k k0 C;simp[C,py,lk,oV,k0];(with_reducible repeat' first|refine Xk ?_<;>try simp[C,py,lk,oV,k0]|refine Xs ?_ ?_<;>intro h<;>(try intro M)<;>(try simp[h,C,py,lk,oV,k0])<;>try omega|refine Xg ?_|omega);refine gp.kg ms false (([],[]):List Nat×U) (λz=>[(1,gZ l),(3,.ptr 0 0 0),(11,.ptr 2 0 0),(20,.fZ A.length 0 2 0 l.length),(21,.i k),(108,.fZ sr 0 1 0 l.length),(109,.i l.length),(110,.i k),(116,.ptr (A.length+(R.length+1)) 0 0)]) (λz=>A++(.row 86 0 (AL.cl fS (JE cm k V z.1))::(R ++ .jj (.gH p) (gN cm k).length z.1::z.2))) (λz=>z.1.Nodup/\∀t∈z.1,t<(gN cm k).length) (λz=>(gN cm k).length-z.1.length) ?_ (by simp) (by first|rfl|(simp[iM];done)|(simp[*];done)) rfl rfl rfl ?_
   .exact⟨.nil,λ_ h=>(by cases h)⟩
   rintro⟨seen,Z⟩ ⟨lz,gL⟩;dsimp only at lz gL ⊢;simp;refine uJ.at (m:=p) (since:=(gN cm k).length) (seen:=seen) (kk:=KS) (es:=iY q 0 (gN cm k)) (by simp) (by simp[oV]) (by simp) (λiJ=>?_) λt kv dv he hi=>?_
   .have iJ:∀t,t<(gN cm k).length->t∈seen:=by simpa using iJ
    have nL:seen≠[]:=λe=>by have:=iJ 0 (by omega);rw[e]at this;cases this
    rw[acb nL];simp;refine gf ?_;refine LJ.i (k+1,pt V k (nC (sd cm k)),R ++ .jj (.gH p) (gN cm k).length seen::Z) (by simp) (by simp) rfl rfl ?_;refine⟨by dsimp only;omega,iE,by rw[iC k0 (by omega)];exact hV,λi' h0 h1=>?_⟩;dsimp only at h1 ⊢;rw[lK k0 (by omega) h0]
    by_cases e:i'=k
    .rw[if_pos e,e]
    .rw[if_neg e];exact Aa i' h0 (by omega)
   .rw[vL]at he;obtain⟨y,ub,Im⟩:=ak.1 he;cases Im;have pA:=Jh lz gL (ae.1 ub).1 hi;have jA:(iY q 0 (gN cm k))[t]? = some (lB y.1,oI (q t) y.2):=by rw[vL,ub];simp
    have e:(A++(Ob.row 86 0 (AL.cl fS (JE cm k V seen))::(R++Ob.jj (.gH p) (gN cm k).length seen::Z))).set (A.length+(R.length+1)) (.jj (.gH p) (gN cm k).length (seen ++ [t]))=A++(Ob.row 86 0 (AL.cl fS (JE cm k V seen))::(R++Ob.jj (.gH p) (gN cm k).length (seen ++ [t])::Z)):=by simp
    rw[e]
    have u0:(gN cm k).length-(seen ++ [t]).length<(gN cm k).length-seen.length:=by have:=pA.2.2;rw[aj,aV]at this ⊢;omega
    have SQ:t=0:=by have:=(ae.1 ub).1;omega
    have ti:seen = []:=aU.2 λu hu=>by have:=gL u hu;rw[show u=t by omega]at hu;exact hi hu
    have Y:y.1=nC (sd cm k):=XY (by
     obtain⟨z,hz⟩:=fL.1 h1;rw[hz,SQ]at ub;cases ub
     exact hz)
    subst ti;obtain⟨⟨r1,r2⟩,ls⟩:=y;dsimp only at Y jA;have Ci:=uP (l:=V) (n:=k) r1 r2;simp[oV,jA,h1,Ci];(with_reducible repeat' first|refine Xk ?_<;>try simp[oV,jA,h1,Ci]|refine Xs ?_ ?_<;>intro h<;>(try intro M)<;>(try simp[h,oV,jA,h1,Ci])<;>try omega|refine Xg ?_|omega);refine LJ.i ([] ++ [t],Z ++ [.row 86 0 [.i r1,.i r2]]) (by simp) (by rw[acb (by simp),<-Y];simp[h1]) rfl rfl ⟨u0,pA.1,pA.2.1⟩
  .have yv:k=l.length:=by omega
   subst yv;have YE:cm=cs (left.map λk=>gt L k):=by rw[<-RZ,Ad]
   have RL:∀x∈left.map (λk=>gt L k),x.full:=λx I=>⟨uU x I,λ_=>by
    have:=Rv.1 x.c (by rw[YE];exact List.mem_map.2 ⟨x,I,rfl⟩);unfold jm at this;rw[Bool.and_eq_true]at this
    exact(Jq this.1).2.2⟩
   have Ab:V=za (cs L) left l.length:=Rs (by rw[PR];exact hV) λj j0 j1=>by rw[Aa j j0 (by omega),abS _ _ j0 (by omega),RZ]
   have Hq:∀j:Int,0<=j->j<V.length->0<=(gt V j).2/\(gt V j).2<=4000:=λj j0 j1=>by
    rw[hV]at j1;rw[Aa j j0 j1];have hm:=DU (Rv.2 j j0 j1).1;have h5:=n8 j0 j1 _ hm;refine⟨?_,?_⟩
    .unfold lD at h5;simp only[decide_eq_true_eq]at h5;rcases h5 with e|e
     .rw[e];decide
     .exact e.2
    .obtain⟨c,hc,h6,h7⟩:=sK.1 hm;rw[<-h7];rw[YE]at hc;obtain⟨x,I,rfl⟩:=List.mem_map.1 hc;obtain⟨_,i0,i1⟩:=Cw.XM (RL x I) h6;exact Hl x I _ (gA (by omega) i1)
   have Wv:=cr V hV Hq;rw[Ab]at Wv;have n9:∀R:U,(A++R)[0]? = some (.row 43 0 g.cells):=λR=>iy o0;simp[n9];refine gx.rq rfl rfl Wv (by simp[<-Ab,hV]) (λ_=>by simp[flat,tL]) (λ_=>by simp) ?_;rintro n hn;have F:∀R:U,(A++R)[2]? = some (.row 37 0 [ld]):=λR=>iy Aj;obtain⟨Hk,k1,k2,k3⟩:=Te ms (A++Ob.row 86 0 (AL.cl fS V)::R) Ak λv b=>iy (Am v b)
   have sD:∀d,leave 0 0 Hk d=(gq (λ_=>none) Hk 40 d,[]):=λd=>Th λe=>by rw[e,aj]at k2;simp at k2
   have n4:Hk[A.length]? = some (.row 86 0 (AL.cl fS V)):=by rw[k3 _ λh=>by have:=js (Am _ h);omega];simp
   have YX:gq (λ_=>none) Hk 39 ld=dN 1 f1 (outs L.length left):=by
    rcases EG with⟨e,rfl⟩|⟨h1,v,s,_,rfl,b⟩
    .rw[e];rfl
    .have Ii:=(k3 v λh=>by rw[Am v h]at b;cases b).trans (iy b);simp[Ii]
     cases hz:outs L.length left with
     | nil=>exact absurd hz h1
     | cons a r=>rfl
   by_cases vZ:n<0
   .have hR:wL (ji g l nx) l.length (jm l.length) (cs L)=(some (za (cs L) left l.length),outs L.length left):=by unfold wL;rw[hE,if_pos ⟨rfl,hn.1 vZ⟩,vI]
    rw[hR,<-Ab];have yz:¬ 0<=n:=by omega
    simp[yz,F];(with_reducible repeat' first|refine Xk ?_<;>try simp[yz,F]|refine Xs ?_ ?_<;>intro h<;>(try intro M)<;>(try simp[h,yz,F])<;>try omega|refine Xg ?_|omega);simp[k1,sD,n4,YX,y9,<-hV]
   .have hR:wL (ji g l nx) l.length (jm l.length) (cs L)=(none,outs L.length left):=by unfold wL;rw[hE,if_neg (λh=>vZ (hn.2 h.2)),vI]
    rw[hR];have yz:0<=n:=by omega
    simp[yz,F];(with_reducible repeat' first|refine Xk ?_<;>try simp[yz,F]|refine Xs ?_ ?_<;>intro h<;>(try intro M)<;>(try simp[h,yz,F])<;>try omega|refine Xg ?_|omega);simp[k1,sD,YX,y9]
 | Bj=>
  have b:d=_:=hP.vd;subst b;have hE:=hS.done hJ λa ls h=>by cases h
  have D2:=js E.ny;have F:∀R:U,(H'++R)[2]? = some (.row 37 0 [ld]):=λR=>iy E.nv;have Sy:ju (H' ++ [Ob.row 89 0 [.i 0,.gg]]).length (H' ++ [Ob.row 89 0 [.i 0,.gg]]):=IW E.ok rfl λo S=>by rw[List.mem_singleton.1 S];rfl
  have S3:(gX = []/\ld = .gg)\/(gX≠[]/\∃v s,4<v/\ld = .fZ v s 1 0 gX.length/\(H' ++ [Ob.row 89 0 [.i 0,.gg]])[v]? = some (.row 3 s (cl f1 gX))):=by
   rcases E.vw with h|⟨h1,v,s,h2,K,h4⟩
   .exact .inl h
   .exact .inr ⟨h1,v,s,h2,K,iy h4⟩
  have SO:=abQ S3 (N:=L.length) (left:=left) (by have:=hS.pm;rwa [vI]at this) h8 Sy;simp[F];(with_reducible repeat' first|refine Xk ?_<;>try simp[F]|refine Xs ?_ ?_<;>intro h<;>(try intro M)<;>(try simp[h,F])<;>try omega|refine Xg ?_|omega);refine gx.w (by simp;rfl) ?_;refine gx.kG rfl rfl SO ?_;rintro _ A ⟨rfl,EG,YW,Ag,p'⟩;have Am:∀v∈ms,A[v]? = some .jE:=λv b=>Ag v _ (iy (Ek v b)) λs n e=>(E.jE (Ek v b)).2 _ _ _ e rfl
  have Aj:A[2]? = some (.row 37 0 [ld]):=by
   refine Ag 2 _ (F _) λs n e=>?_;rcases EG with⟨_,h⟩|⟨_,v,G5,h1,h,_⟩
   .rw[h]at e;cases e
   .rw[h]at e;cases e;omega
  obtain⟨Hk,k1,k2,k3⟩:=Te ms A Ak Am;simp[Aj];(with_reducible repeat' first|refine Xk ?_<;>try simp[Aj]|refine Xs ?_ ?_<;>intro h<;>(try intro M)<;>(try simp[h,Aj])<;>try omega|refine Xg ?_|omega);simp[k1]
  have sD:∀d,leave 0 0 Hk d=(gq (λ_=>none) Hk 40 d,[]):=λd=>Th λe=>by rw[e,YW]at k2;simp at k2
  have hR:wL (ji g l nx) l.length (jm l.length) (cs L)=(none,outs L.length left):=by unfold wL;rw[hE,if_neg (λh=>by cases h.1),vI]
  rw[hR];rcases EG with⟨e,rfl⟩|⟨h1,v,s,_,rfl,b⟩
  .simp[sD,y9,e];rfl
  .have Ii:=(k3 v λh=>by rw[Am v h]at b;cases b).trans b;simp[sD,y9,Ii]
   cases hz:outs L.length left with
   | nil=>exact absurd hz h1
   | cons a r=>rfl
end Go.Proofs.YtmehofoficaelaaGreatDoor
namespace Go.Proofs.YtmehofoficaelaaGreatDoor
open Go Go.AL Classical
theorem ke.lD{A:lG}{v:List gd}{i:Int}(a:A.ov i=true->1<=A.rs i/\A.rs i<=3)(h:ke A v i):lD (gt v i)=true:=by
 unfold Proofs.YtmehofoficaelaaGreatDoor.lD;rw[decide_eq_true_iff];rcases h with⟨o,e⟩|⟨_,⟨n,h1,e,_⟩|⟨n,h1,e,_⟩|⟨e,_⟩⟩
 .have:=a o;rw[e]
  by_cases b:A.rs i=2
  .exact .inl (by rw[b])
  .exact .inr iE
 .rw[e];exact .inr ⟨.inl rfl,by dsimp only;omega⟩
 .rw[e];exact .inr ⟨.inr rfl,by dsimp only;omega⟩
 .exact .inl e
def Zc{V:List gd}{c:gK}:u5 V c=true↔xU V (jm V.length) c:=by
 unfold u5 xU;rw[Bool.and_eq_true,decide_eq_true_iff];refine and_congr_right λ_=>⟨λh i hi=>?_,λh i i0 a=>h i ?_⟩
 .unfold kA at hi;rw[decide_eq_true_iff]at hi;exact h i hi.1 hi.2
 .unfold kA;exact decide_eq_true ⟨i0,a⟩
def acF{n:Int}{c:gK}(h:jm n c=true)(i:Int)(a:kA c i=true):0<=i/\i<n:=by unfold jm at h;rw[Bool.and_eq_true,decide_eq_true_iff]at h;have:=Jq h.1;unfold kA at a;rw[decide_eq_true_iff]at a;omega
noncomputable def sU(V:List gd):gK:=⟨0,0,V.length,V,ku V⟩
def acJ(V:List gd):u5 V (sU V)=true:=by unfold u5 jm snd sU;simp[kD]
structure Vn(A:lG)(n:Nat)(V:List gd):Prop where
 len:V.length=n
 gF:∀i:Int,0<=i->i<n->∀k∈gt A.nx i,0<=k/\k<n
 hV:∀i:Int,0<=i->i<n->ke A V i
 r7:∀i:Int,0<=i->i<n->lD (gt V i)=true
end Go.Proofs.YtmehofoficaelaaGreatDoor
namespace Go.Proofs.YtmehofoficaelaaGreatDoor
open Go Go.AL Classical
section
variable{A:lG}{n:Nat}{V:List gd}{cl:List gK}
theorem api(h:Vn A n V)(d:∀i:Int,0<=i->i<n->∃c∈cl,u5 V c=true/\kA c i=true):wL A n (jm n) cl=(some V,(upto cl.length).filter λk => !u5 V (gt cl k)):=by
 have b:=h.len;subst b
 obtain⟨L,h1,o,_,l⟩:=abR h.gF h.hV h.r7 (λc d i hi=>acF d i hi) (cl.length+1) (upto cl.length) (by rw[pH];omega) (λk a=>jd.1 a) (λi i0 f=>by
  obtain⟨c,q1,q2,q3⟩:=d i i0 f;obtain⟨k,k0,k1,rfl⟩:=um.1 q1
  exact⟨k,jd.2 ⟨k0,k1⟩,Zc.1 q2,q3⟩) (λk k0 k1 _=>jd.2 ⟨k0,k1⟩)
 have g:C4 A V.length (jm V.length) cl=(L,.none):=h1
 have p:za cl L V.length=V:=Rs (PR _ _ _) λj j0 j1=>by rw[PR]at j1;rw[abS _ _ j0 j1,l j j0 j1]
 unfold wL;rw[g,p,if_pos ⟨rfl,h.hV⟩];congr 1;refine List.filter_congr λk a=>?_;rw[jd]at a;have:=o k;rw[<-Zc]at this
 cases e:u5 V (gt cl k)with
 | true=>
  rw[e]at this;simp[this.2 ⟨a,rfl⟩]
 | false=>
  rw[e]at this;have m:k ∉ L:=λa=>by have:=(this.1 a).2;cases this
  simp[m]
