/- 42 -/
import Derived.Test.YtmehofoficaelaaGreatDoorV41
set_option linter.all false
open List renaming getElem?_eq_getElem→aE,mem_singleton→bs,map_append→b4,replicate→cc,length_map→cp,getElem_map→di,mem_of_getElem?→eh,filter_cons→ek,mem_reverse→en,all_eq_true→ep,range'→er,length→List.l
open Option renaming some→bb,none→eB
open Bool renaming true→dr,false→ez
open Nat renaming le_refl→dx
open Int renaming toNat→Int.n
namespace Go.Proofs.YtmehofoficaelaaGreatDoor
open Go Go.AL Classical
set_option maxRecDepth 10000
set_option maxHeartbeats 16000000
attribute [-simp] uK
def Wd{H:gd}{v gen t:Nat}{zs:List D}{l:List Int}{i:Int}{K:D->gd->Prop}(i0:0<=i)(hi:i<l.l)(a:H[v]? = bb (.row t gen (cl f1 l++zs)))
  (k:K (.gf v gen 1 0 (l.l-1)) (H.set v (.row t gen (cl f1 (tC l i) ++ .i 0::zs)))):Wf T 66 [.gf v gen 1 0 l.l,.i i,.i (i+1)] H K:=by
 obtain⟨n,rfl⟩:∃n:Nat,i=n:=⟨i.n,U⟩;have b:n<l.l:=U
 have e:(l.take n++l.drop (n+1) ++ [0]).map (λn=>D.i n)++zs=cl f1 (tC l n) ++ .i 0::zs:=by unfold tC;rw[zy,bF,b4,aL];rfl
 rw[zy]at a;rw[<-e]at k;exact Ev.s6 l n rfl b a ⟨_,_,rfl,k⟩
def ad2{x:D}(a:cellsOf x=bb [x])(H:gd):Wf T 65 [x] H (λd H'=>d = .fn (.func 124) [] [.ptr H.l 0 0]/\H'=H ++ [.row 37 0 [x]]):=by refine Yg JF ?_;simp[JF,sY,a]
def aoN{H0 H:gd}{q rv:Nat}{left ie:List Int}{ld:D}(h:LS H0 H q rv .ready left ie ld)(S:ie.l<=100000)(Xo:left.l<=100000){k i:Int}(k0:0<=k)(k1:k<left.l){dst:Option Nat}{env:Env}{K:St->Prop}
  (F:∀H' I,LS H0 H' q rv .ready (tC left k) (ie ++ [gt left k]) I->H.l<=H'.l->K { env:=put env dst (.b dr),H:=H' }):q' T rv [.i i,.i k] dst { env:=env,H:=H } K .mk:=by
 have b:=h.TD .busy;have E:=h.len;have X:=jw h.rc;have V:=h.CG;refine q'.r (rf:=1280) (env0:=eS) (Rd:=Dj) (by exact h.rc) rfl rfl Dj.a Dj.b (oT rfl) (oT rfl) ?_;have z:=h.rc;unfold eS at z;simp[Dj,eS,z];obtain⟨a,t⟩:∃a,H.set rv (.iu 1280 [(11,.ptr 2 0 0),(12,.ptr 4 0 0)] .busy)=a:=⟨_,rfl⟩;have W:a.l=H.l:=by rw[<-t,aw]
 rw[show eS = [(11,.ptr 2 0 0),(12,.ptr 4 0 0)]from rfl,t]at b;rw[t];clear t z;obtain⟨zs,C,L⟩:=b.arr;have f:∀R:gd,(a++R)[2]? = bb (.row 37 0 [ld]):=λR=>iD b.nu;have g:=b.nv;have c:=L
 have hg:(cl f1 left++zs)[k.n]? = bb (.i (gt left k)):=by rw[ah (by rw[sZ];omega),zy,ax,aE U,iX k0 k1];rfl
 have e:¬(2=a.l):=U;have Xa:2<a.l:=U;have Q:∀R:gd,(a++R)[3]? = bb (.row 3 0 (cl f1 left++zs)):=λR=>iD c;have l:∀(R:gd) (o:Ob),(a++R).set 2 o=a.set 2 o++R:=λR o=>aP _ _ Xa;have u:∀(o:Ob) (R:gd),(a.set 2 o++R)[4]? = bb (.row 37 0 [.gf 3 0 1 0 left.l]):=λo R=>iD (by rw[aM U];exact g);have Xb:∀(o:Ob) (R:gd),(a.set 2 o++R)[3]? = bb (.row 3 0 (cl f1 left++zs)):=λo R=>iD (by rw[aM U];exact c);rcases b.vw with⟨rfl,rfl⟩|⟨M,v,p,⟨P,A⟩,rfl,B⟩
 .have y:∀(o:Ob) (R:gd) (i:Nat),(a.set 2 o++R)[a.l+i]? = R[i]? := λo R i=>by rw[ak (by rw[aw];omega),aw];congr 1;omega
  simp[f,b.nu,g,c,hg,k0,k1,e,l,y,u];(with_reducible repeat' first|refine Xk ?_<;>try simp[f,b.nu,g,c,hg,k0,k1,e,l,y,u]|refine Xs ?_ ?_<;>intro h<;>(try intro O)<;>(try simp[h,f,b.nu,g,c,hg,k0,k1,e,l,y,u])<;>try omega|refine Xg ?_|omega);refine gy.w (by simp[f,b.nu,e,l];rfl) ?_;refine gy.lr rfl rfl (Wd (K:=λd H'=>d = .gf 3 0 1 0 (left.l-1)/\H'=(a.set 2 (Ob.row 37 0 [D.gf (a.l+1) 0 1 0 1]) ++ [Ob.row 3 0 [D.i (gt left k)],Ob.row 3 0 [D.i (gt left k)]]).set 3 (Ob.row 3 0 (cl f1 (tC left k)++D.i 0::zs))) k0 k1 (Xb _ _) ⟨rfl,rfl⟩) ?_;rintro _ _ ⟨rfl,rfl⟩;simp[u]
  have j:=((b.more (o:=.row 3 0 [.i (gt left k)]) rfl).amA (gt left k)).del (zs:=zs) C (by rw[l,aL];exact Xb _ _) k0 k1
  rw[l,aL,aq,bj]at j;have n:=j.rc;simp only[je,cE,bI,(fZ:f1 (gt left k) = [D.i (gt left k)])]at j n;simp[n];exact F _ _ (j.TD .ready) gL
 .have N:=jw B;have x:∀R:gd,(a++R)[v]? = bb (.row 3 p (cl f1 ie)):=λR=>iD B;have w:∀(R:gd) (o:Ob),(a++R).set v o=a.set v o++R:=λR o=>aP _ _ N;have J:v≠2:=U;have s:∀(o:Ob) (R:gd),(a.set v o++R)[2]? = bb (.row 37 0 [.gf v p 1 0 ie.l]):=λo R=>iD (by rw[aM J];exact b.nu);have r:∀(o o':Ob) (R:gd),((a.set v o).set 2 o'++R)[4]? = bb (.row 37 0 [.gf 3 0 1 0 left.l]):=λo o' R=>iD (by rw[aM U,aM U];exact g);have G:∀(o o':Ob) (R:gd),((a.set v o).set 2 o'++R)[3]? = bb (.row 3 0 (cl f1 left++zs)):=λo o' R=>iD (by rw[aM U,aM U];exact c);have m:∀(o o':Ob) (R:gd),(a.set v o++R).set 2 o'=(a.set v o).set 2 o'++R:=λo o' R=>aP _ _ (by rw[aw];exact Xa);simp[f,b.nu,g,c,hg,k0,k1,e,x,w,s,m,r];(with_reducible repeat' first|refine Xk ?_<;>try simp[f,b.nu,g,c,hg,k0,k1,e,x,w,s,m,r]|refine Xs ?_ ?_<;>intro h<;>(try intro O)<;>(try simp[h,f,b.nu,g,c,hg,k0,k1,e,x,w,s,m,r])<;>try omega|refine Xg ?_|omega);refine gy.w (by simp[f,b.nu,e,x,w,s,m];rfl) ?_;refine gy.lr rfl rfl (Wd (K:=λd H'=>d = .gf 3 0 1 0 (left.l-1)/\H'=((a.set v (Ob.row 3 (p+1) (cl f1 (ie ++ [gt left k])))).set 2 (Ob.row 37 0 [D.gf v (p+1) 1 0 (ie.l+1)]) ++ [Ob.row 3 0 [D.i (gt left k)]]).set 3 (Ob.row 3 0 (cl f1 (tC left k)++D.i 0::zs))) k0 k1 (G _ _ _) ⟨rfl,rfl⟩) ?_;rintro _ _ ⟨rfl,rfl⟩;simp[r];have j:=(((b.amB A M P B (gt left k))).more (o:=.row 3 0 [.i (gt left k)]) rfl).del (zs:=zs) C (G _ _ _) k0 k1;have n:=j.rc;simp[n];exact F _ _ (j.TD .ready) gL
end Go.Proofs.YtmehofoficaelaaGreatDoor
namespace Go.Proofs.YtmehofoficaelaaGreatDoor
open Go Go.AL Classical
def aou{n k:Nat}(h:k<n):∃R:List Int,upto n=upto k++(k:Int)::R/\∀p∈R,(k:Int)<p:=by
 refine⟨(er (k+1) (n-(k+1))).map λi:Nat=>(i:Int),?_,λp a=>?_⟩
 .unfold upto
  rw[show((k:Int)::(er (k+1) (n-(k+1))).map λi:Nat=>(i:Int))=(er k (n-k)).map λi:Nat=>(i:Int)by rw[(U:n-k=(n-(k+1))+1),cD];rfl,<-b4]
  congr 1;rw[cM,cM];have:=List.range'_append (s:=0) (m:=k) (n:=n-k) (step:=1);rw[(U:k+(n-k)=n),Nat.one_mul,aR]at this;exact this.symm
 .obtain⟨i,hi,rfl⟩:=az.1 a;rw[List.mem_range'_1]at hi;omega
def ana{left S:List Int}{k:Nat}(h:k<left.l)(hS:∀p∈S,(k:Int)<p) :
  ∃R,oE left S=left.take k++gt left k::R/\oE left ((k:Int)::S)=left.take k++R:=by
 obtain⟨R,f,g⟩:=aou h
 have e:∀S:List Int,(∀p∈S,(k:Int)<p\/p=k)->((upto k).filter λp => !S.contains p)=upto k:=λS hS=>eN.2 λp a=>by have:=jJ.1 a;simp only[da,dY,decide_eq_false_iff_not];intro c;rcases hS p c with h|h<;>omega
 have d:((upto k).map λp=>gt left p)=left.take k:=by
  refine bg (by simp[p9];omega) λi h1 j=>?_;rw[di,List.getElem_take];have hi:i<k:=by simpa[p9]using h1
  have:(upto k)[i]'(by rw[p9];exact hi)=(i:Int):=by simp[upto]
  rw[this,iX U U];simp
 refine⟨(R.filter λp => !S.contains p).map λp=>gt left p,?_,?_⟩
 .unfold oE
  have b:(!S.contains (k:Int))=true:=by simp only[da,dY,decide_eq_false_iff_not];intro c;have:=hS _ c;omega
  rw[f,dt,e S λp a=>.inl (hS p a),b4,d,ek,if_pos b];rfl
 .unfold oE;have b:¬(!((k:Int)::S).contains (k:Int))=true:=fZ;rw[f,dt,e _ λp a=>?_,b4,d,ek,if_neg b]
  .congr 2;refine List.filter_congr λp a=>?_;have:=g p a;simp;omega
  .rcases av.1 a with rfl|a
   .exact .inr rfl
   .exact .inl (hS p a)
def aaK(left:List Int):oE left []=left:=by
 unfold oE;rw[eN.2 fZ];refine bg (by simp[p9]) λi h1 a=>?_;rw[di];have:(upto left.l)[i]'(by rw[p9];exact a)=(i:Int):=by simp[upto]
 rw[this,iX U U];simp
def anb{left S:List Int}{k:Int}(k0:0<=k)(h:k<left.l)(hS:∀p∈S,k<p) :
  (k<(oE left S).l/\gt (oE left S) k=gt left k)/\tC (oE left S) k=oE left (k::S):=by
 obtain⟨n,rfl⟩:∃n:Nat,k=n:=⟨k.n,U⟩;have b:n<left.l:=U;obtain⟨R,h1,c⟩:=ana b hS;have hl:(left.take n).l=n:=by rw[aJ];omega
 rw[h1,c];have a:n<(left.take n++gt left n::R).l:=gL;refine⟨⟨U,?_⟩,?_⟩
 .rw[iX U U];simp only[bF];rw[fe U];simp[hl]
 .unfold tC;simp only[bF];rw[aW U,af U,(U:n+1=(left.take n).l+1),fm];simp
set_option maxRecDepth 10000
set_option maxHeartbeats 16000000
attribute [-simp] uK
def aej{H0 H:gd}{q rv:Nat}{left ie:List Int}{ld:D}(h:LS H0 H q rv .ready left ie ld){ls:List Int}(M:∀k∈ls,0<=k/\k<left.l)(N:ls.Pairwise (· < ·))(W:ls.l<=100000)
  (V:ie.l+ls.l<=100000) (Xo:left.l<=100000) {n:Nat} {x:D} (I:H0[n]? = bb (.row 37 0 [x])) (o:4<n/\n≠rv/\n≠q)
  (G:x=dN 1 f1 ls\/∃v g,x = .gf v g 1 0 ls.l/\H0[v]? = bb (.row 3 g (cl f1 ls))/\4<v/\v≠rv/\v≠q) :
  Wf T 124 [.iQ rv,.ptr n 0 0] H (λ_ H'=>∃b,LS H0 H' q rv .ready (oE left ls) (ie++ls.reverse.map λk=>gt left k) b/\H.l<=H'.l):=by
 have z:∀Hc,mY .slice x Hc=bb (.i ls.l):=λHc=>by
  rcases G with rfl|⟨v,g,rfl,_⟩
  .cases ls with
   | nil=>rfl
   | cons a r=>simp[dN]
  .simp
 have t:∀S:List Int,(oE left S).l<=left.l:=λS=>by unfold oE;rw[cp];have:=List.length_filter_le (λp => !S.contains p) (upto left.l);rwa [p9]at this
 have d:=h.kp n _ I (.inl o.1) o.2.1 o.2.2;refine Yg JV ?_;simp[JV,z,d];(with_reducible repeat' first|refine Xk ?_<;>try simp[z,d]|refine Xs ?_ ?_<;>intro h<;>(try intro u)<;>(try simp[h,z,d])<;>try omega|refine Xg ?_|omega);refine gx.e ((H,(ls.l:Int)-1,ld):gd×Int×D) (λy=>[(0,.iQ rv),(1,.ptr n 0 0),(3,.i y.2.1)]) (λy=>y.1) (λy=>(-1<=y.2.1/\y.2.1<ls.l)/\H.l<=y.1.l/\LS H0 y.1 q rv .ready (oE left (ls.drop (y.2.1+1).n)) (ie++(ls.drop (y.2.1+1).n).reverse.map λk=>gt left k) y.2.2) (λy=>(y.2.1+1).n) ?_ ?_
 .refine pG ⟨dx _,?_⟩;dsimp only;rw[(U:((ls.l:Int)-1+1).n=ls.l),List.drop_length,aaK];simpa using h
 rintro⟨Hc,i,A⟩ ⟨⟨i0,O⟩,L,f⟩;dsimp only at i0 O L f ⊢;have d:=f.kp n _ I (.inl o.1) o.2.1 o.2.2
 by_cases hi:0<=i
 .obtain⟨m,rfl⟩:∃m:Nat,i=m:=⟨i.n,U⟩;have s:m<ls.l:=U
  have e:ls.drop m=gt ls m::ls.drop (m+1):=by rw[bH s,iX U U];rfl
  rw[(U:((m:Int)+1).n=m+1)]at f
  have l:(cl f1 ls)[m]? = bb (.i (gt ls (m:Int))):=by rw[zy,ax,aE s,iX U U];rfl
  obtain⟨k,w⟩:∃k,gt ls (m:Int)=k:=⟨_,rfl⟩;rw[w]at e l;have F:∀h,(cl f1 ls)[m]'h = .i k:=λh=>by rw[aE h]at l;exact bZ l
  obtain⟨S,hS⟩:∃S,ls.drop (m+1)=S:=⟨_,rfl⟩;rw[hS]at e f;have P:(k::S).Pairwise (· < ·):=by rw[<-e];exact N.drop
  have C:=(aT.1 P).1;have B:k∈ls:=bt (i:=m) (by rw[e];simp)
  have R:S.l+1<=ls.l:=by have:=congrArg List.l e;rw[aU,aI]at this;omega
  obtain⟨k0,k1⟩:=M k B;obtain⟨⟨q1,q2⟩,q3⟩:=anb k0 k1 C
  have J:∀(env:Env) (K:St->Prop),(∀H' b,LS H0 H' q rv .ready (oE left (ls.drop m)) ((ie++S.reverse.map λk=>gt left k) ++ [gt left k]) b->Hc.l<=H'.l->K { env:=put env (bb 17) (.b dr),H:=H' }) ->
    q' T rv [.i (m:Int),.i k] (bb 17) { env:=env,H:=Hc } K .mk:=λenv K Q=>aoN f gL (by have:=t S;omega) k0 q1 λH' b c j=>by
   rw[q2,q3,<-e]at c;exact Q H' b c j
  rcases G with rfl|⟨v,g,rfl,hv,B6,hv5,hv6⟩
  .simp[d];(with_reducible repeat' first|refine Xk ?_<;>try simp[w]|refine Xs ?_ ?_<;>intro h<;>(try intro u)<;>(try simp[h,w])<;>try omega|refine Xg ?_|omega);simp[w];refine J _ _ λH' b c j=>?_;simp;(with_reducible repeat' first|refine Xk ?_<;>try simp|refine Xs ?_ ?_<;>intro h<;>(try intro u)<;>(try simp[h])<;>try omega|refine Xg ?_|omega);refine LJ.i (H',(m:Int)-1,b) fZ rfl rfl rfl ⟨gJ,iM,gJ,?_⟩;dsimp only;rw[(U:((m:Int)-1+1).n=m)];rw[e]at c ⊢;simpa using c
  .have E:=f.kp v _ hv (.inl B6) hv5 hv6;simp[d,E,l,F,s];(with_reducible repeat' first|refine Xk ?_<;>try simp[d,E,l,F,s]|refine Xs ?_ ?_<;>intro h<;>(try intro u)<;>(try simp[h,d,E,l,F,s])<;>try omega|refine Xg ?_|omega);refine J _ _ λH' b c j=>?_;simp;(with_reducible repeat' first|refine Xk ?_<;>try simp|refine Xs ?_ ?_<;>intro h<;>(try intro u)<;>(try simp[h])<;>try omega|refine Xg ?_|omega);refine LJ.i (H',(m:Int)-1,b) fZ rfl rfl rfl ⟨gJ,iM,gJ,?_⟩;dsimp only;rw[(U:((m:Int)-1+1).n=m)];rw[e]at c ⊢;simpa using c
 .simp[hi];(with_reducible repeat' first|refine Xk ?_<;>try simp[hi]|refine Xs ?_ ?_<;>intro h<;>(try intro u)<;>(try simp[h,hi])<;>try omega|refine Xg ?_|omega);rw[(U:(i+1).n=0),eR]at f;exact⟨⟨A,by simpa using f⟩,L⟩
end Go.Proofs.YtmehofoficaelaaGreatDoor
namespace Go.Proofs.YtmehofoficaelaaGreatDoor
open Go Go.AL Classical
def ab2{cl:List gV}{n:Nat}(h:¬lE cl n<0):nQ (sd cl (lE cl n))=dr/\0<=lE cl n/\lE cl n<n:=by
 rcases Mk cl n with⟨e,_⟩|⟨h1,a,_⟩
 .omega
 .exact⟨a,h1⟩
def agS{A:mc}{n:Nat}{ad:gV->Bool}{cl:List gV}{a:Int}{ls:List Int}(h:nj A n ad cl = .v a ls):(∃q,ls=idx q cl)/\ls≠[]/\-1<=a:=by
 unfold nj at h;split at h
 .rename_i m;cases h;exact⟨⟨_,rfl⟩,m,U⟩
 split at h
 .cases h
 split at h
 .rename_i i hi;cases h;have h1:=List.find?_some hi;have o:=List.mem_of_find?_eq_some hi;rw[jJ]at o;exact⟨⟨_,rfl⟩,by simpa using h1,U⟩
 .rename_i d;split at h
  .cases h
  .rename_i f;cases h;obtain⟨l,h0,h1⟩:=ab2 f
   have k:∀r∈sd cl (lE cl n),nH r=true:=λr j=>by
    obtain⟨c,b,p,rfl⟩:=xx.1 j;have:=dW.1 d (lE cl n) (jJ.2 ⟨h0,h1⟩);simp only[decide_eq_true_eq,Classical.not_not]at this
    cases e:nH (mb c (lE cl n))with
    | true=>rfl
    | false=>exact absurd this (Cc.2 ⟨c,b,by simp[p,e]⟩)
   obtain⟨c,b,g⟩:=aoJ (A:=A) k l;exact⟨⟨_,rfl⟩,Cc.2 ⟨c,b,g⟩,U⟩
def agI{q:gV->Bool}{cl:List gV}:∀k∈idx q cl,0<=k/\k<cl.l:=λk a=>(SU.1 a).1
def TZ(n:Nat):(upto n).Pairwise (· < ·):=by unfold upto;rw[e7];exact List.pairwise_lt_range.imp λh=>U
def agJ{q:gV->Bool}{cl:List gV}:(idx q cl).Pairwise (· < ·):=(TZ _).filter _
structure LB(g:gq)(l:List Pos)(nx:List (List Int))(L:List Cw)(H:gd)(left ie:List Int)(ld dv:D):Prop where
 h0:H[0]? = bb (.row 43 0 g.cells)
 ct:∃old,H[1]? = bb (.row 168 0 (kq g l nx dv old))
 nu:H[2]? = bb (.row 37 0 [ld])
 vw:(ie = []/\ld = .gi)\/(ie≠[]/\∃v gn,4<v/\ld = .gf v gn 1 0 ie.l/\H[v]? = bb (.row 3 gn (cl f1 ie)))
 arr:∃zs,gK zs=dr/\H[3]? = bb (.row 3 0 (cl f1 left++zs))
 nv:H[4]? = bb (.row 37 0 [.gf 3 0 1 0 left.l])
 ok:jz H.l H
 cv:CV H 1 (left.map λk=>gt L k) dv
def LB.agV{g:gq}{l:List Pos}{nx:List (List Int)}{L:List Cw}{H H':gd}{left ie:List Int}{ld dv:D}{cm:List gV}{J:Jd}{d:D}(h:LB g l nx L H left ie ld dv)(a:JP g l nx dv cm H H' 1 J d) :
  LB g l nx L H' left ie ld dv:=by
 obtain⟨sr,f,_⟩:=a.ct;refine⟨a.kp _ _ h.h0 U,⟨_,f⟩,a.kp _ _ h.nu U,?_,?_,a.kp _ _ h.nv U,a.ok,?_⟩
 .rcases h.vw with h1|⟨h1,v,e,c,b,j⟩
  .exact .inl h1
  .exact .inr ⟨h1,v,e,c,b,a.kp _ _ j U⟩
 .obtain⟨zs,i,h1⟩:=h.arr;exact⟨zs,i,a.kp _ _ h1 U⟩
 .rcases h.cv with h1|h1|⟨v,e,h1,c,b⟩
  .exact .inl h1
  .exact .inr (.inl h1)
  .exact .inr (.inr ⟨v,e,h1,c,a.kp _ _ b h1⟩)
def LB.toLS{g:gq}{l:List Pos}{nx:List (List Int)}{L:List Cw}{H:gd}{left ie:List Int}{ld dv:D}(h:LB g l nx L H left ie ld dv){R:gd}{j:Nat}(k:R[j]? = bb (.iu 1280 eS .ready))(m:∀o∈R,nG (H.l+R.l) o=dr) :
  ∃q,(q=2\/∃a,ld = .gf q a 1 0 ie.l/\4<q)/\q<H.l/\LS (H++R) (H++R) q (H.l+j) .ready left ie ld:=by
 have n:=jw h.nv
 have gp:jz (H++R).l (H++R):=by rw[aq];exact ui (xy U h.ok) m
 have c:(H++R)[H.l+j]? = bb (.iu 1280 eS .ready):=by rw[ak U,Nat.add_sub_cancel_left];exact k
 obtain⟨zs,d,h1⟩:=h.arr;rcases h.vw with b|⟨b,v,a,f,e,i⟩
 .exact⟨2,.inl rfl,U,iD h.nu,.inl b,⟨zs,d,iD h1⟩,iD h.nv,gp,U,c,λw o h1 _ _ _=>h1,dx _⟩
 .exact⟨v,.inr ⟨a,e,f⟩,jw i,iD h.nu,.inr ⟨b,v,a,⟨f,.inl rfl⟩,e,iD i⟩,⟨zs,d,iD h1⟩,iD h.nv,gp,U,c,λw o h1 _ _ _=>h1,dx _⟩
end Go.Proofs.YtmehofoficaelaaGreatDoor
namespace Go.AL
open Go
section
variable{T:iF}{live:List Nat}{a:IR}{s:St}{K:jb}{α:Type}
theorem gx.mi(keys:List Nat)(j:(keys.all λk=>live.contains k)=dr)(E:α->Env)(f:α->gd)(M:α->List Nat)(P:α->Prop)(d:α->Nat)(c:α)
  (h0:P c) (t:forget keys s.env=E c) (p:s.H=f c) (l:s.marks=M c)
  (h:∀x,P x->XC T a { env:=E x,H:=f x,marks:=M x,iG:=s.iG } (wj s.H.l live keys (λe H m r=>∃b,e=E b/\H=f b/\m=M b/\r=s.iG/\d b<d x/\P b) K)):gx T live a s K .mk:=by
 refine Wc.loop (λm g=>∃x,P x/\m=d x/\({ g with env:=forget keys g.env }:St) = { env:=E x,H:=f x,marks:=M x,iG:=s.iG }) (d c) ⟨c,h0,rfl,?_⟩ ?_
 .dsimp only;rw[WR j,t];rw[<-p,<-l]
 .rintro m g ⟨x,hP,rfl,n⟩;refine Ev.DM keys ?_;rw[n];refine(XC.wc (h x hP)).mono λo i=>?_
  cases o with
  | norm w=>
   obtain⟨b,u,A,z,y,v,h1⟩:=i;refine⟨d b,v,b,h1,rfl,?_⟩;rw[u];generalize cut s.H.l live w=q at *;cases q;simp_all
  | exit=>exact i
  | ret=>exact i
def LM(E:α->Env)(b:α->gd)(M:α->List Nat)(Q:α->Prop)(_:Tag (E,b,M,Q))(e:Env)(H:gd)(m:List Nat)(r:Bool):Prop:=
 ∃a,e=E a/\H=b a/\m=M a/\r=ez/\Q a
theorem LM.i{E:α->Env}{b:α->gd}{M:α->List Nat}{Q:α->Prop}{t:Tag (E,b,M,Q)}{e:Env}{H:gd}{m:List Nat}{r:Bool}(a:α)(h1:e=E a)(g:H=b a)(f:m=M a)(d:r=ez)(c:Q a):LM E b M Q t e H m r:=⟨a,h1,g,f,d,c⟩
theorem gx.m(b:α)(E:α->Env)(c:α->gd)(M:α->List Nat)(P:α->Prop)(d:α->Nat)
  (h:∀x,P x->XC T a { env:=E x,H:=c x,marks:=M x } (wj s.H.l live ((E b).map (·.1)) (LM E c M (λe=>d e<d x/\P e) .mk) K))
  (h0:P b) (l:forget ((E b).map (·.1)) s.env=E b) (j:s.H=c b) (i:s.marks=M b) (g:s.iG=ez) (f:(((E b).map (·.1)).all λk=>live.contains k)=dr):gx T live a s K .mk:=
 gx.mi _ f E c M P d b h0 l j i (by rw[g];exact h)
end
end Go.AL
namespace Go.Proofs.YtmehofoficaelaaGreatDoor
open Go Go.AL Classical
def outs(n:Nat)(left:List Int):List Int:=(upto n).filter λk => !left.contains k
def TY(n:Nat):(upto n).Nodup:=(TZ n).imp λh e=>U
def amD{n:Nat}{ie left:List Int}(h:(ie++left).Perm (upto n)):ie.mergeSort (λx y=>decide (x<=y))=outs n left:=by
 have f:(ie++left).Nodup:=h.nodup_iff.2 (TY n);rw[cP]at f;obtain⟨h1,_,d⟩:=f;have g:=List.mergeSort_perm ie (λx y=>decide (x<=y));have e:(ie.mergeSort (λx y=>decide (x<=y))).Nodup:=g.nodup_iff.2 h1
 have hs:(ie.mergeSort (λx y=>decide (x<=y))).Pairwise λx y=>decide (x<=y)=true:=
  fy (λa b c h1 d=>by simp only[decide_eq_true_eq]at h1 d ⊢;omega) (λa b=>by simp only[bX,decide_eq_true_eq];omega) ie
 refine Ff ((hs.and e).imp λ⟨h1,d⟩=>by simp only[decide_eq_true_eq]at h1;omega) ((TZ n).filter _) λk=>?_;unfold outs;rw[g.mem_iff,aS];have i:=h.mem_iff (a:=k);rw[aj]at i;simp only[da,dY,decide_eq_false_iff_not];constructor
 .grind
 .grind
def ane{left ls:List Int}(g:ls.Nodup)(i:∀p∈ls,0<=p/\p<left.l):((ls.reverse.map λk=>gt left k)++oE left ls).Perm left:=by
 have e:(upto left.l).map (λp=>gt left p)=left:=by have:=aaK left;unfold oE at this;rwa [eN.2 fZ]at this
 have h1:(ls.reverse++(upto left.l).filter λp => !ls.contains p).Perm (upto left.l):=by
  refine(List.perm_ext_iff_of_nodup ?_ (TY _)).2 λk=>?_
  .rw[cP];refine⟨(List.reverse_perm ls).nodup_iff.2 g,(TY _).filter _,λa c b d e=>?_⟩;rw[en]at c;rw[aS]at d;rw[e]at c;simp[c]at d
  .rw[aj,en,aS,jJ];have:=i k
   by_cases h:k∈ls
   .grind
   .simp[h]
 have f:=h1.map (λp=>gt left p);rw[e,b4]at f;exact f
noncomputable def CO(A:mc)(n:Nat)(ad:gV->Bool)(cl:List gV):List Int×Jd:=CP A n ad cl (cl.l+1) (upto cl.l)
structure SI(A:mc)(n:Nat)(ad:gV->Bool)(cl:List gV)(left ie:List Int):Prop where
 pm:(ie++left).Perm (upto cl.l)
 st:∃f,left.l<f/\CP A n ad cl f left=CO A n ad cl
section
variable{A:mc}{n:Nat}{ad:gV->Bool}{cl:List gV}{left ie:List Int}
theorem SI.start:SI A n ad cl (upto cl.l) []:=⟨fZ,_,by rw[p9];omega,rfl⟩
theorem SI.rng(h:SI A n ad cl left ie):∀k∈left,0<=k/\k<cl.l:=λk a=>jJ.1 (h.pm.mem_iff.1 (bL _ a))
theorem SI.len(h:SI A n ad cl left ie):ie.l+left.l=cl.l:=by have:=h.pm.length_eq;rwa [aq,p9]at this
theorem SI.step(h:SI A n ad cl left ie){a:Int}{ls:List Int}(i:nj A n ad (left.map λk=>gt cl k) = .v a ls) :
  SI A n ad cl (oE left ls) (ie++ls.reverse.map λk=>gt left k)/\(oE left ls).l<left.l/\(∀p∈ls,0<=p/\p<left.l)/\ls.Pairwise (· < ·)/\ls≠[]:=by
 obtain⟨⟨q,g⟩,d,_⟩:=agS i
 have c:∀p∈ls,0<=p/\p<left.l:=λp b=>by rw[g]at b;have:=agI p b;rwa [cp]at this
 have hs:ls.Pairwise (· < ·):=by rw[g];exact agJ
 obtain⟨p,b⟩:=dO _ d;have j:=anc b (c p b).1 (c p b).2;obtain⟨f,l,e⟩:=h.st;refine⟨⟨?_,?_⟩,j,c,hs,d⟩
 .rw[aL];exact((ane (hs.imp λh e=>U) c).append_left ie).trans h.pm
 .cases f with
  | zero=>omega
  | succ f=>
   rw[CP,i]at e;exact⟨f,U,e⟩
theorem SI.done(h:SI A n ad cl left ie){J:Jd}(c:nj A n ad (left.map λk=>gt cl k)=J)(b:∀a ls,J≠.v a ls):CO A n ad cl=(left,J):=by
 obtain⟨f,d,e⟩:=h.st;rw[<-e]
 cases f with
 | zero=>omega
 | succ f=>
  rw[CP,c]
  cases J with
  | v a ls=>exact absurd rfl (b a ls)
  | none=>rfl
  | vm=>rfl
theorem agU(h:nj A n ad cl = .none){i:Int}(i0:0<=i)(b:i<n):∀r∈sd cl i,nH r=true:=λr d=>by
 unfold nj at h;split at h
 .cases h
 split at h
 .cases h
 split at h
 .cases h
 .rename_i a;obtain⟨c,f,g,rfl⟩:=xx.1 d;have:=dW.1 a i (jJ.2 ⟨i0,b⟩);simp only[decide_eq_true_eq,Classical.not_not]at this
  cases e:nH (mb c i)with
  | true=>rfl
  | false=>exact absurd this (Cc.2 ⟨c,f,by simp[g,e]⟩)
end
def AQ(cl:List gV)(left:List Int)(n:Nat):List gg:=(upto n).map λi=>oG (sd (left.map λk=>gt cl k) i)
def aa9(cl:List gV)(left:List Int)(n:Nat):(AQ cl left n).l=n:=by unfold AQ;rw[cp,p9]
def aoh(cl:List gV)(left:List Int){n:Nat}{i:Int}(i0:0<=i)(a:i<n):gt (AQ cl left n) i=oG (sd (left.map λk=>gt cl k) i):=by rw[iX i0 (by rw[aa9];exact a)];unfold AQ;rw[di];congr 2;simp[upto];omega
noncomputable def wC(A:mc)(n:Nat)(ad:gV->Bool)(cl:List gV):Option (List gg)×List Int:=
 (if (CO A n ad cl).2 = .none/\∀k:Int,0<=k->k<n->na A (AQ cl (CO A n ad cl).1 n) k then bb (AQ cl (CO A n ad cl).1 n)else eB,outs cl.l (CO A n ad cl).1)
def y4:Option (List gg)×List Int->List D
 | (bb v,o)=>[iw v,dN 1 f1 o,.i 0]
 | (eB,o)=>[.gi,dN 1 f1 o,.i 180]
def ac6{L:List Cw}{left:List Int}(h:∀k∈left,0<=k/\k<L.l):cs (left.map λk=>gt L k)=left.map λk=>gt (cs L) k:=by unfold cs;rw[b7];refine au λk a=>?_;have:=h k a;exact(QJ this.1 this.2).symm
theorem Su:∀(ms:List Nat) (H:gd),ms.Nodup->(∀v∈ms,H[v]? = bb .jH)->∃H',kill ms H=bb H'/\H'.l=H.l/\∀w:Nat,w ∉ ms->H'[w]? = H[w]?
 | [],H,_,_=>⟨H,rfl,rfl,λ_ _=>rfl⟩
 | v::ms,H,hn,h=>by
  rw[cN]at hn;obtain⟨H',h1,b,c⟩:=Su ms (H.set v .dead) hn.2 λw a=>jS;refine⟨H',?_,by rw[b,aw],λw a=>?_⟩
  .simp_all
  .grind
structure CB(g:gq)(l:List Pos)(nx:List (List Int))(L:List Cw)(left:List Int)(old:D)(Hs Hc:gd)(y:Nat)(dv:D):Prop where
 ct:Hc[1]? = bb (.row 168 0 (kq g l nx dv old))
 dv:(y=0/\dv = .gi)\/(0<y/\∃v gn,Hs.l<=v/\dv = .gf v gn 36 0 y/\Hc[v]? = bb (.row 72 gn (cl iI ((left.take y).map λk=>gt L k))))
 kp:∀w o,Hs[w]? = bb o->w≠1->Hc[w]? = bb o
 ok:jz Hc.l Hc
 le:Hs.l<=Hc.l
section
variable{g:gq}{l:List Pos}{nx:List (List Int)}{L:List Cw}{left:List Int}{old dv:D}{Hs Hc:gd}{y:Nat}
theorem OH{n:Nat}{dv old:D}(h1:jG n dv=dr)(a:jG n old=dr):nG n (.row 168 0 (kq g l nx dv old))=true:=by unfold kq;simp[h1,a]
theorem CB.start{d0:D}(h1:Hs[1]? = bb (.row 168 0 (kq g l nx d0 old)))(gp:jz Hs.l Hs):CB g l nx L left old Hs (Hs.set 1 (.row 168 0 (kq g l nx .gi old))) 0 .gi:=by have hl:=jw h1;have b:jG Hs.l old=true:=ep.1 (gp _ (eh h1)) old (by unfold kq;simp);refine⟨aN hl,.inl ⟨rfl,rfl⟩,λw o a c=>by rw[aM (cz c)];exact a,?_,by rw[aw];exact dx _⟩;rw[aw];exact p5 gp (OH rfl b)
theorem CB.aad(h:CB g l nx L left old Hs Hc y dv):jG Hc.l old=true:=ep.1 (h.ok _ (eh h.ct)) old (by unfold kq;simp)
theorem CB.more(h:CB g l nx L left old Hs Hc y dv){o:Ob}(c:nG (Hc.l+1) o=dr):CB g l nx L left old Hs (Hc ++ [o]) y dv:=by
 refine⟨iD h.ct,?_,λw o b d=>iD (h.kp w o b d),?_,by rw[aq];have:=h.le;omega⟩
 .rcases h.dv with h1|⟨h1,v,j,i,f,e⟩
  .exact .inl h1
  .grind
 .rw[aq,bj];refine ui (xy U h.ok) λx a=>?_;rw[bs.1 a];exact c
theorem abl{y:Nat}(a:y<left.l):(left.take (y+1)).map (λk=>gt L k)=(left.take y).map (λk=>gt L k) ++ [gt L (gt left (y:Int))]:=by rw[du,aE a,b4,iX (l:=left) U U];simp
theorem CB.abN(h:CB g l nx L left old Hs Hc 0 .gi)(b:0<left.l) :
  CB g l nx L left old Hs ((Hc.set 1 (.row 168 0 (kq g l nx (.gf Hc.l 0 36 0 1) old))) ++ [.row 72 0 (iI (gt L (gt left 0)))]) 1 (.gf Hc.l 0 36 0 1):=by
 have hl:=jw h.ct;have e:=abl (L:=L) b;refine⟨iD (aN hl),.inr ⟨U,Hc.l,0,h.le,rfl,?_⟩,λw o d a=>iD (by rw[aM (cz a)];exact h.kp w o d a),?_,by rw[aq,aw];have:=h.le;omega⟩
 .rw[ak (by rw[aw];omega),aw,bW,e];simp[je]
 .rw[aq,aw,bj];refine ui (p5 (xy U h.ok) (OH fZ (E' U h.aad))) λx c=>?_;rw[bs.1 c];exact Az (Fl.cl _)
theorem CB.abO{v a:Nat}(h:CB g l nx L left old Hs Hc y (.gf v a 36 0 y))(n:1<Hs.l)(f:y<left.l)(i:Hs.l<=v)(m:Hc[v]? = bb (.row 72 a (cl iI ((left.take y).map λk=>gt L k)))) :
  CB g l nx L left old Hs ((Hc.set v (.row 72 (a+1) (cl iI ((left.take y).map λk=>gt L k)++iI (gt L (gt left (y:Int)))))).set 1 (.row 168 0 (kq g l nx (.gf v (a+1) 36 0 (y+1)) old))) (y+1) (.gf v (a+1) 36 0 (y+1)):=by
 have hl:=jw h.ct;have d:=jw m;have e:=abl (L:=L) f
 have j:cl iI ((left.take y).map λk=>gt L k)++iI (gt L (gt left (y:Int)))=cl iI ((left.take (y+1)).map λk=>gt L k):=by rw[e,<-Ba,je]
 refine⟨aN (by rw[aw];exact hl),.inr ⟨U,v,a+1,i,rfl,?_⟩,λw o b c=>?_,?_,by rw[aw,aw];exact h.le⟩
 .grind
 .rw[aM (cz c),aM (by have:=jw b;omega)];exact h.kp w o b c
 .rw[aw,aw];refine p5 (p5 h.ok ?_) (OH (by simp[d]) h.aad);rw[j];exact AA _
structure LA(g:gq)(H:gd)(left ie:List Int)(ld:D):Prop where
 h0:H[0]? = bb (.row 43 0 g.cells)
 nu:H[2]? = bb (.row 37 0 [ld])
 vw:(ie = []/\ld = .gi)\/(ie≠[]/\∃v gn,4<v/\ld = .gf v gn 1 0 ie.l/\H[v]? = bb (.row 3 gn (cl f1 ie)))
 arr:∃zs,gK zs=dr/\H[3]? = bb (.row 3 0 (cl f1 left++zs))
 nv:H[4]? = bb (.row 37 0 [.gf 3 0 1 0 left.l])
theorem LA.mono{H H':gd}{ie:List Int}{ld:D}(h:LA g H left ie ld)(a:∀w o,H[w]? = bb o->w≠1->H'[w]? = bb o):LA g H' left ie ld:=by
 refine⟨a _ _ h.h0 U,a _ _ h.nu U,?_,?_,a _ _ h.nv U⟩
 .rcases h.vw with h1|⟨h1,v,f,e,d,c⟩
  .exact .inl h1
  .grind
 .obtain⟨zs,b,h1⟩:=h.arr;exact⟨zs,b,a _ _ h1 U⟩
theorem CB.toLB{ie:List Int}{ld:D}(a:LA g Hs left ie ld)(h:CB g l nx L left old Hs Hc left.l dv):LB g l nx L Hc left ie ld dv:=by
 have h1:=a.mono h.kp;refine⟨h1.h0,⟨_,h.ct⟩,h1.nu,h1.vw,h1.arr,h1.nv,h.ok,?_⟩;rcases h.dv with⟨c,b⟩|⟨c,v,f,b,e,d⟩
 .exact .inr (.inl ⟨by rw[aA.1 c];rfl,b⟩)
 .have hl:=jw a.nv;refine .inr (.inr ⟨v,f,U,by rw[e];simp,?_⟩);rw[d,db]
theorem mw.ahK{H H':gd}{ck sr n:Nat}{M:Nat->kn}{ow:Nat->Nat×Nat×Nat}{P:Nat->Nat}{Q:Nat->Nat->Nat}(h:mw H ck sr n M ow P Q)(b:∀v o,H[v]? = bb o->ow v≠(5,0,0)->H'[v]? = bb o):mw H' ck sr n M ow P Q:=by
 refine⟨h.fc,h.fs,b _ _ h.row (by rw[h.fs];simp),λj c=>?_,λj c t x d=>?_⟩
 .obtain⟨h1,a⟩:=h.mp j c;exact⟨b _ _ h1 (by rw[a];simp),a⟩
 .obtain⟨h1,a⟩:=h.ls j c t x d;exact⟨b _ _ h1 (by rw[a];simp),a⟩
def Jm(cm:List gV)(k:Int)(V:List gg)(seen:List Nat):List gg:=if seen = []then V else pt V k (oG (sd cm k))
@[simp] theorem azI(cm:List gV)(k:Int)(V:List gg):Jm cm k V []=V:=if_pos rfl
theorem abu{cm:List gV}{k:Int}{V:List gg}{seen:List Nat}(h:seen≠[]):Jm cm k V seen=pt V k (oG (sd cm k)):=if_neg h
theorem LB.jH{H:gd}{ie:List Int}{ld:D}(h:LB g l nx L H left ie ld dv){v:Nat}(a:H[v]? = bb .jH):4<v/\∀q c n,ld = .gf q c 1 0 n->v≠q:=by
 have key:∀ {w:Nat} {o:Ob},H[w]? = bb o->o≠.jH->v≠w:=λd f e=>f (by rw[e,d]at a;exact bZ a);refine⟨?_,λq c n e=>?_⟩
 .have h0:=key h.h0 fZ;obtain⟨_,h1⟩:=h.ct;have h1:=key h1 fZ;have i:=key h.nu fZ;obtain⟨_,_,b⟩:=h.arr;have b:=key b fZ;have j:=key h.nv fZ;omega
 .rcases h.vw with⟨_,h1⟩|⟨_,w,k,_,h1,i⟩
  .grind
  .grind
theorem LB.start{dcl:D}(b:dcl = .sl 36 (L.map iI)\/(L = []/\dcl = .gi)):LB g l nx L [.row 43 0 g.cells,.row 168 0 (kq g l nx dcl .gi),.row 37 0 [.gi],.row 3 0 (cl f1 (upto L.l)),.row 37 0 [.gf 3 0 1 0 L.l]] (upto L.l) [] .gi dcl:=by
 have c:jG 5 dcl=true:=by
  rcases b with rfl|⟨rfl,rfl⟩
  .simp_all
  .rfl
 have d:(upto L.l).map (λk=>gt L k)=L:=by
  refine bg (by simp[p9]) λi h1 e=>?_;rw[di];have:(upto L.l)[i]'(by rw[p9];exact e)=(i:Int):=by simp[upto]
  rw[this,iX U U];simp
 refine⟨rfl,⟨_,rfl⟩,rfl,.inl ⟨rfl,rfl⟩,⟨[],rfl,fZ⟩,by rw[p9];rfl,λo a=>?_,?_⟩
 .rcases av.1 a with rfl|a
  .simp_all
  .rcases av.1 a with rfl|a
   .exact OH c rfl
   .rcases av.1 a with rfl|a
    .rfl
    .rcases av.1 a with rfl|a
     .simp_all
     .simp_all
 .rw[d];rcases b with h|h
  .exact .inl h
  .exact .inr (.inl h)
theorem LS.toLA{H0 H:gd}{q rv:Nat}{st:qz}{ie:List Int}{ld:D}(h:LS H0 H q rv st left ie ld)(h0:H0[0]? = bb (.row 43 0 g.cells))(l:1<q):LA g (H.set rv .dead) left ie ld/\jz (H.set rv .dead).l (H.set rv .dead)/\∀w o,H0[w]? = bb o->(4<w\/w<=1)->w≠rv->w≠q->(H.set rv .dead)[w]? = bb o:=by
 have k:=h.CG;have key:∀ {w:Nat} {o:Ob},H[w]? = bb o->w≠rv->(H.set rv .dead)[w]? = bb o:=λf i=>by rw[aM (cz i)];exact f
 refine⟨⟨key (h.kp 0 _ h0 (.inr U) U U) U,key h.nu U,?_,?_,key h.nv U⟩,?_,λw o h1 c b a=>key (h.kp w o h1 c b a) b⟩
 .rcases h.vw with h1|⟨h1,v,j,⟨c,_⟩,b,a⟩
  .exact .inl h1
  .exact .inr ⟨h1,v,j,c,b,key a λe=>by rw[e,h.rc]at a;cases a⟩
 .obtain⟨zs,d,h1⟩:=h.arr;exact⟨zs,d,key h1 U⟩
 .rw[aw];exact p5 h.ok rfl
end
set_option maxRecDepth 10000
set_option maxHeartbeats 16000000
attribute [-simp] uK
def aov{n k:Nat}(h:k<n):(upto k++cc (n-k) 0).set k (k:Int)=upto (k+1)++cc (n-(k+1)) 0:=by rw[Jl,dA _ _ (by rw[p9];omega),p9,bW,(U:n-k=(n-(k+1))+1),br];simp
def aa8{H:gd}{ie left:List Int}{N:Nat}{ld:D}(b:(ie = []/\ld = .gi)\/(ie≠[]/\∃v a,4<v/\ld = .gf v a 1 0 ie.l/\H[v]? = bb (.row 3 a (cl f1 ie))))(f:(ie++left).Perm (upto N))(hN:N<=100000)(gp:jz H.l H) :
  Wf T 67 [ld] H (λd H'=>d = .tup []/\((outs N left = []/\ld = .gi)\/(outs N left≠[]/\∃v a,4<v/\ld = .gf v a 1 0 (outs N left).l/\H'[v]? = bb (.row 3 a (cl f1 (outs N left)))))/\H'.l=H.l /\
   (∀w o,H[w]? = bb o->(∀a n,ld≠.gf w a 1 0 n)->H'[w]? = bb o)/\jz H'.l H'):=by
 have hs:=amD f;have hl:=congrArg List.l hs;rw[eC]at hl;rcases b with⟨rfl,rfl⟩|⟨h0,v,a,j,rfl,c⟩
 .refine Wf.mono Wv ?_;rintro _ H' ⟨rfl,rfl⟩;exact⟨rfl,.inl ⟨aA.1 (by rw[<-hl];rfl),rfl⟩,rfl,λw o h _=>h,gp⟩
 .have g:ie.l<=N:=by have:=f.length_eq;rw[aq,p9]at this;omega
  refine f160 (l:=ie) (t:=3) (ay.2 h0) U c ?_;rw[hs,hl];refine⟨rfl,.inr ⟨λe=>h0 (aA.1 (by rw[hl,e];rfl)),v,a,j,rfl,aN (jw c)⟩,aw,λw o h1 i=>?_,?_⟩
  .rw[aM (λe=>i a (outs N left).l (by rw[e]))];exact h1
  .rw[aw];exact p5 gp (AA _)
def adI(g:gq)(hg:gR g)(l:List Pos)(hc:lZ g l)(h0:0<l.l)(h9:l.l<=1000){L:List Cw}{dcl:D}(hd:dcl = .sl 36 (L.map iI)\/(L = []/\dcl = .gi))
  (hL:∀x∈L,x.ok) (hb:∀x∈L,∀r∈x.c.es,r.2<=4000) (h8:L.l<=100000) :
  Wf T 20 [dG g,gP l,dcl] [] (Is (.tup (y4 (wC (jv g l (gE g l)) l.l (jr l.l) (cs L))))):=by
 have cn:=f52 g hg l hc h0
 have X:closed dcl=true:=by
  rcases hd with rfl|⟨rfl,rfl⟩
  .exact xZ L
  .rfl
 have oo:cellsOf dcl=bb [dcl]:=by
  rcases hd with rfl|⟨rfl,rfl⟩
  .rfl
  .rfl
 have uQ:∀H,mY .slice dcl H=bb (.i L.l):=λH=>by
  rcases hd with rfl|⟨rfl,rfl⟩
  .simp
  .rfl
 have hj:=λ(H:gd) (dv:D) (L':List Cw) (old:D) (hd:CV H 1 L' dv) (gp:jz H.l H) lR hL hb h8=>Wb g hg l hc h0 h9 (H:=H) (ck:=1) (L:=L') (old:=old) (dcl:=dv) hd gp lR hL hb h8;have cr:=aeW g hg l hc h0;obtain⟨nx,oq⟩:∃nx,gE g l=nx:=⟨_,rfl⟩;rw[oq]at cn hj cr ⊢;refine Yg CZ ?_;simp[CZ,X];refine gy.inl sR rfl rfl (by simp[sR]) rfl ?_;simp[sR,X];refine Yc (cn) ?_;simp[X,oo];(with_reducible repeat' first|refine Xk ?_<;>try simp[X,uQ]|refine Xs ?_ ?_<;>intro h<;>(try intro M)<;>(try simp[h,X,uQ])<;>try omega|refine Xg ?_|omega);simp[X,uQ];(with_reducible repeat' first|refine Xk ?_<;>try simp[X,uQ]|refine Xs ?_ ?_<;>intro h<;>(try intro M)<;>(try simp[h,X,uQ])<;>try omega|refine Xg ?_|omega);refine gx.s (by simp[X];rfl) ?_;refine gx.e (0:Int) (λy=>[(1,gP l),(2,dcl),(3,.ptr 0 0 0),(9,.ptr 1 0 0),(11,.ptr 2 0 0),(12,.ptr 4 0 0),(40,.i L.l),(41,.i y)]) (λy=>[.row 43 0 g.cells,.row 168 0 (kq g l nx dcl .gi),.row 37 0 [.gi],.row 3 0 (cl f1 (upto y.n++cc (L.l-y.n) 0)),.row 37 0 [.gf 3 0 1 0 L.l]]) (λy=>0<=y/\y<=L.l) (λy=>(L.l-y).n) ?_ ?_
 .simp
 rintro y ⟨y0,y1⟩;dsimp only at y0 y1 ⊢
 by_cases Y:y<L.l
 .simp[Y];(with_reducible repeat' first|refine Xk ?_<;>try simp[Y]|refine Xs ?_ ?_<;>intro h<;>(try intro M)<;>(try simp[h,Y])<;>try omega|refine Xg ?_|omega);obtain⟨k,rfl⟩:∃k:Nat,y=k:=⟨y.n,U⟩;have C:k<L.l:=U;refine⟨by rw[p9];simp;omega,U,U,LJ.i ((k:Int)+1) rfl ?_ rfl rfl mF⟩
  have hp:pt (upto k++cc (L.l-k) 0) (k:Int) (k:Int)=upto (k+1)++cc (L.l-(k+1)) 0:=by have e:=aov C;rw[cG,if_pos (by simp[p9];omega)]at e;exact e
  simp only[bF,(U:((k:Int)+1).n=k+1),hp]
 have yz:y=L.l:=U;subst yz;simp;(with_reducible repeat' first|refine Xk ?_<;>try simp|refine Xs ?_ ?_<;>intro h<;>(try intro M)<;>(try simp[h])<;>try omega|refine Xg ?_|omega);rw[bW,eI,aB];have QZ:=LB.start (g:=g) (l:=l) (nx:=nx) hd;obtain⟨Hi,QX⟩:∃Hi,[Ob.row 43 0 g.cells,.row 168 0 (kq g l nx dcl .gi),.row 37 0 [.gi],.row 3 0 (cl f1 (upto L.l)),.row 37 0 [.gf 3 0 1 0 L.l]]=Hi:=⟨_,rfl⟩;rw[QX]at QZ;have Q0:∀k:Int,0<=k->k<L.l->(gt L k).ok/\∀r∈(gt L k).c.es,r.2<=4000:=λk k0 k1=>⟨hL _ (gF k0 k1),hb _ (gF k0 k1)⟩;refine gx.m ((Hi,[],upto L.l,[],.gi,dcl):gd×List Nat×List Int×List Int×D×D) (λ_=>[(1,gP l),(2,dcl),(3,.ptr 0 0 0),(9,.ptr 1 0 0),(11,.ptr 2 0 0),(12,.ptr 4 0 0)]) (λx=>x.1) (λx=>x.2.1) (λx=>LB g l nx L x.1 x.2.2.1 x.2.2.2.1 x.2.2.2.2.1 x.2.2.2.2.2/\(∀v∈x.2.1,x.1[v]? = bb .jH)/\x.2.1.Nodup/\SI (jv g l nx) l.l (jr l.l) (cs L) x.2.2.1 x.2.2.2.1) (λx=>x.2.2.1.l) ?_ ?_ rfl QX rfl rfl rfl
 rotate_left
 .exact⟨QZ,λv b=>(by cases b),.nil,by rw[<-wX L];exact SI.start⟩
 clear QZ QX y0 y1 Y;rintro⟨Hc,ms,left,ie,ld,dv⟩ ⟨hB,RI,NM,hS⟩;dsimp only at hB RI NM hS ⊢;obtain⟨old,ml⟩:=hB.ct;have hr:=hS.rng;have g0:=hS.len;rw[wX]at g0;simp only[wX]at hr
 have Xp:∀x∈left.map (λk=>gt L k),x.ok:=λx I=>by obtain⟨k,C,rfl⟩:=az.1 I;exact(Q0 k (hr k C).1 (hr k C).2).1
 have Xn:∀x∈left.map (λk=>gt L k),∀r∈x.c.es,r.2<=4000:=λx I=>by obtain⟨k,C,rfl⟩:=az.1 I;exact(Q0 k (hr k C).1 (hr k C).2).2
 have zT:=ac6 hr;have ql:=hj Hc dv (left.map λk=>gt L k) old hB.cv hB.ok ml Xp Xn (by rw[cp];omega);rw[zT]at ql;obtain⟨J,hJ⟩:∃J,nj (jv g l nx) l.l (jr l.l) (left.map λk=>gt (cs L) k)=J:=⟨_,rfl⟩;rw[hJ]at ql;simp;refine gy.lr rfl rfl ql ?_;rintro d H' hP;have E:=hB.agV hP
 have Ee:∀v∈ms,H'[v]? = bb .jH:=λv b=>hP.kp v _ (RI v b) λe=>by have:=RI v b;rw[e,ml]at this;cases this
 cases J with
 | v a ls=>
  obtain⟨x,rfl,I⟩:=hP.vd;obtain⟨Q5,gM,Ya,sJ,ij⟩:=hS.step hJ
  have Sj:cellsOf x=bb [x]:=by
   rcases I with rfl|⟨_,v,s,rfl,_⟩
   .cases ls with
    | nil=>rfl
    | cons a r=>rfl
   .rfl
  simp;refine gy.w mu ?_;refine gy.lr rfl rfl (ad2 Sj _) ?_;rintro _ H2 ⟨rfl,rfl⟩;simp;refine tv.s mu ?_;refine tv.r (f:=124) (first:=[]) (cap:=[.ptr (H'.l+1) 0 0]) rfl fZ rfl rfl ?_;have e1:(H' ++ [Ob.row 89 0 [.i a,x],Ob.row 37 0 [x]]).l+1=H'.l+3:=fZ;have DV:=jw E.nv
  have EE:jG (H'.l+4) x=true:=by
   rcases I with rfl|⟨_,v,s,rfl,b,_⟩
   .exact CJ fZ
   .have:=jw b;simp;omega
  obtain⟨q,hq,Et,Xm⟩:=E.toLS (R:=[.row 89 0 [.i a,x],.row 37 0 [x],.jH,.iu 1280 eS .ready]) (j:=3) rfl (λo S=>by
   rcases av.1 S with rfl|S
   .show((jG (H'.l+4) (.i a))&&((jG (H'.l+4) x)&&dr))=dr;rw[EE];rfl
   .rcases av.1 S with rfl|S
    .show((jG (H'.l+4) x)&&dr)=dr;rw[EE];rfl
    .rcases av.1 S with rfl|S
     .rfl
     .rw[bs.1 S];show((jG (H'.l+4) (.ptr 2 0 0))&&((jG (H'.l+4) (.ptr 4 0 0))&&dr))=dr;simp
      omega)
  have m':q<Hc.l/\1<q:=by
   rcases hq with rfl|⟨s,hq,_⟩
   .exact⟨jw hB.nu,U⟩
   .rcases hB.vw with⟨_,h⟩|⟨_,v,GQ,_,h,b⟩
    .rw[h]at hq;cases hq
    .rw[h]at hq;cases hq;exact⟨jw b,U⟩
  have hHc:=jw hB.nv
  have aup:ls.l<=left.l:=by have:=Ax left.l ls (sJ.imp λh e=>U) Ya;exact this
  show Wf T 124 [.iQ ((H' ++ [Ob.row 89 0 [.i a,x],Ob.row 37 0 [x]]).l+1),.ptr (H'.l+1) 0 0] ((H' ++ [Ob.row 89 0 [.i a,x],Ob.row 37 0 [x]]) ++ [.jH,.iu 1280 eS .ready]) _;rw[e1,aL];refine Wf.mono (aej (n:=H'.l+1) (x:=x) Xm Ya sJ U U U fZ mF ?_) ?_
  .rcases I with h|⟨_,v,s,h,b,hN⟩
   .exact .inl h
   .have:=jw b;exact .inr ⟨v,s,h,iD b,U,U,U⟩
  rintro _ H3 ⟨tZ,Q1,g1⟩;obtain⟨DZ,HG,NK⟩:=Q1.toLA (iD E.h0) m'.2
  have RJ:∀v∈(H'.l+2)::ms,(H3.set (H'.l+3) .dead)[v]? = bb .jH:=λv b=>by
   rcases av.1 b with rfl|b
   .exact NK _ _ fZ U U U
   .have h1:=Ee v b;have h2:=jw h1;obtain⟨K,h4⟩:=E.jH h1;refine NK _ _ (iD h1) (.inl K) U ?_;rcases hq with e|⟨s,e,_⟩
    .omega
    .exact h4 _ _ _ e
  obtain⟨g5,o5⟩:=E.ct;have NC:=NK 1 _ (iD o5) U U U;refine⟨eS,.ready,by rw[e1];exact Q1.rc,?_⟩;have z8:((H'.l+2)::ms).Nodup:=cN.2 ⟨λh=>by have:=jw (Ee _ h);omega,NM⟩;obtain⟨Hs,QY⟩:∃Hs,H3.set (H'.l+3) .dead=Hs:=⟨_,rfl⟩;rw[QY]at DZ HG RJ NC;have xc:=NC;unfold kq at xc;simp at xc;show oA (AE (St.mk _ (H3.set ((H' ++ [Ob.row 89 0 [.i a,x],Ob.row 37 0 [x]]).l+1) .dead) _ _) .ready) _ .mk;rw[e1,QY];clear QY NK g1 Q1 Xm;obtain⟨B,jI⟩:∃B,oE left ls=B:=⟨_,rfl⟩;obtain⟨Sx,sE⟩:∃Sx,(ie++ls.reverse.map λk=>gt left k)=Sx:=⟨_,rfl⟩;rw[jI,sE]at DZ Q5;rw[jI]at gM;have Xl:=DZ.nv;have DS:∀d sd,(Ob.row 168 0 [.i g.size,.sl 1 (g.next.map fI),dI g.jD,.sl 3 (g.kinds.map Kind.cells),.i g.gO,.b g.oQ,dN 4 Clause.cells g.clauses,.i g.blocked,.i g.vo,gP l,.sl 1 (nx.map fN),d,sd]) = .row 168 0 (kq g l nx d sd):=λd sd=>by unfold kq;simp
  have n6:=CB.start (L:=L) (left:=B) NC HG;simp[xc,Xl];refine gx.s (by simp[xc];rfl) ?_;rw[DS];refine gx.kg ((H'.l+2)::ms) ez ((Hs.set 1 (.row 168 0 (kq g l nx .gi g5)),0,.gi):gd×Nat×D) (λy=>[(1,gP l),(2,dcl),(3,.ptr 0 0 0),(9,.ptr 1 0 0),(11,.ptr 2 0 0),(12,.ptr 4 0 0),(76,.gf 3 0 1 0 B.l),(77,.i B.l),(78,.i y.2.1)]) (λy=>y.1) (λy=>y.2.1<=B.l/\CB g l nx L B g5 Hs y.1 y.2.1 y.2.2) (λy=>B.l-y.2.1) ?_ fZ (by first|rfl|(simp[je];done)|(simp[*];done)) rfl rfl rfl ?_
  .exact⟨fZ,n6⟩
  rintro⟨G,y,dg⟩ ⟨Y,hG⟩;dsimp only at Y hG ⊢
  by_cases W:y<B.l
  .obtain⟨zs,hz,lG⟩:=DZ.arr;have K:=hG.kp 3 _ lG U;obtain⟨k,C⟩:∃k,gt B (y:Int)=k:=⟨_,rfl⟩
   have D8:(cl f1 B++zs)[y]? = bb (.i k):=by rw[ah (by rw[sZ];omega),zy,ax,aE W,<-C,Bv W];rfl
   have Hu:=Q5.rng k (by rw[<-C];exact gF U U);rw[wX]at Hu;obtain⟨pp,sH,oK⟩:=CV.ix (H:=[]) (ck:=0) (hd.elim .inl λh=>.inr (.inl h)) Hu.1 Hu.2;have oK:=λH'=>oK H' λv o b=>by simp at b
   have I:=(Q0 k Hu.1 Hu.2).1;have lS:(iI (gt L k)).l=36:=Fl.len _;have sD:(iI (gt L k)).take 36=iI (gt L k):=af U;have yh:gK (iI (gt L k))=true:=Fl.cl _;have O:=hG.ct;unfold kq at O;simp at O;have tL:∀R:gd,(G++R)[1]? = _:=λR=>iD O;have D9:∀(R:gd) (h:1<(G++R).l),(G++R)[1]'h=_:=λR h=>bZ ((aE h).symm.trans (tL R));have Eb:=jw O;have nV:∀(R:gd) (o:Ob),(G++R).set 1 o=G.set 1 o++R:=λR o=>aP _ _ Eb;have g1:=hG.le;have lg:=jw DZ.nv;rcases hG.dv with⟨rfl,rfl⟩|⟨hy0,v,s,b,rfl,Ac⟩
   .simp[W,K,D8,sH,oK,tL,D9,O,nV,lS,sD];(with_reducible repeat' first|refine Xk ?_<;>try simp[W,K,D8,sH,oK,tL,D9,O,nV,lS,sD]|refine Xs ?_ ?_<;>intro h<;>(try intro M)<;>(try simp[h,W,K,D8,sH,oK,tL,D9,O,nV,lS,sD])<;>try omega|refine Xg ?_|omega);have hF:=(hG.more (o:=.row 72 0 (iI (gt L k))) (Az yh)).abN W;rw[nV,aL,aq,bj,show gt B 0=k from C]at hF;rw[DS];exact LJ.i (_,1,.gf (G.l+1) 0 36 0 1) fZ rfl rfl rfl (pb hF)
   .have jg:=jw Ac;have nW:v≠1:=U;have Ah:∀R:gd,(G++R)[v]? = _:=λR=>iD Ac;have B7:∀(R:gd) (o:Ob),(G++R).set v o=G.set v o++R:=λR o=>aP _ _ jg;have gS:∀(o:Ob) (R:gd),(G.set v o++R)[1]? = _:=λo R=>iD ((aM nW).trans O);have gB:∀(o:Ob) (R:gd) (h:1<(G.set v o++R).l),(G.set v o++R)[1]'h=_:=λo R h=>bZ ((aE h).symm.trans (gS o R));have sS:∀(o o':Ob) (R:gd),(G.set v o++R).set 1 o'=(G.set v o).set 1 o'++R:=λo o' R=>aP _ _ (by rw[aw];exact Eb);have gQ:(cl iI ((B.take y).map λk=>gt L k)).l=y*36:=by rw[sZ,cp,aJ];congr 1;omega
    have ml:(cl iI ((B.take y).map λk=>gt L k)).take (y*36)=cl iI ((B.take y).map λk=>gt L k):=af U;have hyL:y<=100000:=U;simp[W,K,D8,sH,oK,tL,D9,O,nV,lS,sD,Ah,B7,gS,gB,sS,gQ,ml];(with_reducible repeat' first|refine Xk ?_<;>try simp[W,K,D8,sH,oK,tL,D9,O,nV,lS,sD,Ah,B7,gS,gB,sS,gQ,ml]|refine Xs ?_ ?_<;>intro h<;>(try intro M)<;>(try simp[h,W,K,D8,sH,oK,tL,D9,O,nV,lS,sD,Ah,B7,gS,gB,sS,gQ,ml])<;>try omega|refine Xg ?_|omega);have hF:=(hG.abO U W b Ac).more (o:=.row 72 0 (iI (gt L k))) (Az yh);rw[C]at hF;rw[DS,<-List.map_take,ml];exact LJ.i (_,y+1,.gf v (s+1) 36 0 (y+1)) fZ rfl rfl rfl (pb hF)
  .have yz:y=B.l:=by omega
   subst yz;simp
   exact LM.i (G,(H'.l+2)::ms,B,Sx,tZ,dg) rfl rfl rfl rfl ⟨gM,hG.toLB DZ,λv b=>hG.kp v _ (RJ v b) (λe=>by
    have:=RJ v b;rw[e,NC]at this
    cases this),z8,Q5⟩
 | none=>
  have b:d=_:=hP.vd;subst b;have hE:=hS.done hJ λa ls h=>by cases h
  have DV:=jw E.nv;have F:∀R:gd,(H'++R)[2]? = bb (.row 37 0 [ld]):=λR=>iD E.nu;have RN:jz (H' ++ [Ob.row 89 0 [.i 0,.gi]]).l (H' ++ [Ob.row 89 0 [.i 0,.gi]]):=IE E.ok rfl λo S=>by rw[bs.1 S];rfl
  have Sg:(ie = []/\ld = .gi)\/(ie≠[]/\∃v s,4<v/\ld = .gf v s 1 0 ie.l/\(H' ++ [Ob.row 89 0 [.i 0,.gi]])[v]? = bb (.row 3 s (cl f1 ie))):=by
   rcases E.vw with h|⟨h1,v,s,h2,K,h4⟩
   .exact .inl h
   .exact .inr ⟨h1,v,s,h2,K,iD h4⟩
  have HS:=aa8 Sg (N:=L.l) (left:=left) (by have:=hS.pm;rwa [wX]at this) h8 RN;simp[F];(with_reducible repeat' first|refine Xk ?_<;>try simp[F]|refine Xs ?_ ?_<;>intro h<;>(try intro M)<;>(try simp[h,F])<;>try omega|refine Xg ?_|omega);refine gy.w mu ?_;refine gy.lr rfl rfl HS ?_;rintro _ A ⟨rfl,EC,X6,zY,o3⟩;have z8:∀v∈ms,A[v]? = bb .jH:=λv b=>zY v _ (iD (Ee v b)) λs n e=>(E.jH (Ee v b)).2 _ _ _ e rfl
  have z7:A[2]? = bb (.row 37 0 [ld]):=by
   refine zY 2 _ (F _) λs n e=>?_;rcases EC with⟨_,h⟩|⟨_,v,GQ,h1,h,_⟩
   .rw[h]at e;cases e
   .rw[h]at e;cases e;omega
  obtain⟨sr,XP,tc⟩:=hP.ct;obtain⟨ow,P,Q,tc,g'⟩:=tc rfl
  have Yh:∀w:Nat,w<5->∀s n,ld≠.gf w s 1 0 n:=λw hw s n e=>by
   rcases EC with⟨_,h⟩|⟨_,v,GQ,h1,h,_⟩
   .rw[h]at e;cases e
   .rw[h]at e;cases e;omega
  have o4:=zY 1 _ (iD XP) (Yh 1 U);have o0:=zY 0 _ (iD E.h0) (Yh 0 U)
  have RZ:=(tc.app [Ob.row 89 0 [.i 0,.gi]]).ahK (H':=A) λv o b h5=>zY v o b λs n e=>by
   rcases hB.vw with⟨_,h⟩|⟨_,w,GQ,h1,h,h2⟩
   .rw[h]at e;cases e
   .rw[h]at e;cases e;exact h5 (g' _ _ h2 U)
  clear tc g' XP;obtain⟨cm,Rk⟩:∃cm,(left.map λk=>gt (cs L) k)=cm:=⟨_,rfl⟩;rw[Rk]at hJ RZ;have QM:=agT hJ;have n7:=@agU _ _ _ _ hJ
  have HH:∀j:Int,0<=j->j<l.l->(gU cm j).l=1:=λj j0 j1=>by
   obtain⟨q1,q2⟩:=QM.2 j j0 j1;have:=GU (cl:=cm) (i:=j);rw[q2]at this;have K:¬ 1<(gU cm j).l:=λh=>by cases this.1 h
   have h4:(gU cm j).l≠0:=λh=>q1 (No.1 h);omega
  have xc:=o4;unfold kq at xc;simp at xc;have qj:∀R:gd,(A++R)[1]? = _:=λR=>iD xc;have Rh:∀(R:gd) (h:1<(A++R).l),(A++R)[1]'h=_:=λR h=>bZ ((aE h).symm.trans (qj R));simp[z7,qj,Rh];(with_reducible repeat' first|refine Xk ?_<;>try simp[z7,qj,Rh]|refine Xs ?_ ?_<;>intro h<;>(try intro M)<;>(try simp[h,z7,qj,Rh])<;>try omega|refine Xg ?_|omega);refine gx.kg ms ez ((0,cc l.l (0,0),[]):Int×List gg×gd) (λy=>[(1,gP l),(3,.ptr 0 0 0),(11,.ptr 2 0 0),(20,.gf A.l 0 2 0 l.l),(108,.gf sr 0 1 0 l.l),(109,.i l.l),(110,.i y.1)]) (λy=>A++(.row 86 0 (AL.cl fS y.2.1)::y.2.2)) (λy=>(0<=y.1/\y.1<=l.l)/\y.2.1.l=l.l/\∀j:Int,0<=j->j<y.1->gt y.2.1 j=oG (sd cm j)) (λy=>(l.l-y.1).n) ?_ fZ (by first|rfl|(simp[je];done)|(simp[*];done)) rfl rfl rfl ?_
  .exact⟨fZ,fZ,λj j0 j1=>absurd j1 gJ⟩
  rintro⟨k,V,R⟩ ⟨⟨k0,k1⟩,hV,zS⟩;dsimp only at k0 k1 hV zS ⊢;have sI:∀R:gd,(A++R)[sr]? = bb (.row 170 0 ((List.range l.l).map λj=>D.gH (P j))):=λR=>iD RZ.row
  by_cases C:k<l.l
  .obtain⟨p1,_⟩:=RZ.mp k.n U;rw[(U:((k.n:Nat):Int)=k)]at p1;obtain⟨p,l7⟩:∃p,P k.n=p:=⟨_,rfl⟩;obtain⟨q,yy⟩:∃q,Q k.n=q:=⟨_,rfl⟩;rw[l7,yy]at p1;have rj:∀R:gd,(A++R)[p]? = bb (.map KS (jd q 0 (gU cm k))):=λR=>iD p1;have h1:=HH k k0 C;simp[C,sI,l7,rj,k0];(with_reducible repeat' first|refine Xk ?_<;>try simp[C,sI,l7,rj,k0]|refine Xs ?_ ?_<;>intro h<;>(try intro M)<;>(try simp[h,C,sI,l7,rj,k0])<;>try omega|refine Xg ?_|omega);refine gx.kg ms ez (([],[]):List Nat×gd) (λz=>[(1,gP l),(3,.ptr 0 0 0),(11,.ptr 2 0 0),(20,.gf A.l 0 2 0 l.l),(21,.i k),(108,.gf sr 0 1 0 l.l),(109,.i l.l),(110,.i k),(116,.ptr (A.l+(R.l+1)) 0 0)]) (λz=>A++(.row 86 0 (AL.cl fS (Jm cm k V z.1))::(R ++ .jo (.gH p) (gU cm k).l z.1::z.2))) (λz=>z.1.Nodup/\∀t∈z.1,t<(gU cm k).l) (λz=>(gU cm k).l-z.1.l) ?_ fZ (by first|rfl|(simp[je];done)|(simp[*];done)) rfl rfl rfl ?_
   .exact⟨.nil,λ_ h=>(by cases h)⟩
   rintro⟨seen,Z⟩ ⟨mq,gM⟩;dsimp only at mq gM ⊢;simp;refine uC.at (m:=p) (since:=(gU cm k).l) (seen:=seen) (kk:=KS) (es:=jd q 0 (gU cm k)) fZ (by simp[rj]) fZ (λjL=>?_) λt kv dv he hi=>?_
   .have jL:∀t,t<(gU cm k).l->t∈seen:=by simpa using jL
    have oL:seen≠[]:=λe=>by have:=jL 0 U;rw[e]at this;cases this
    rw[abu oL];simp;refine gh ?_;refine LJ.i (k+1,pt V k (oG (sd cm k)),R ++ .jo (.gH p) (gU cm k).l seen::Z) fZ fZ rfl rfl ?_;refine⟨gJ,iM,by rw[iW k0 U];exact hV,λi' h0 h1=>?_⟩;dsimp only at h1 ⊢;rw[py k0 U h0]
    by_cases e:i'=k
    .rw[if_pos e,e]
    .rw[if_neg e];exact zS i' h0 U
   .rw[vt]at he;obtain⟨y,tU,HW⟩:=ao.1 he;cases HW;have pW:=IZ mq gM (ae.1 tU).1 hi;have jV:(jd q 0 (gU cm k))[t]? = bb (lJ y.1,oI (q t) y.2):=by rw[vt,tU];simp
    have e:(A++(Ob.row 86 0 (AL.cl fS (Jm cm k V seen))::(R++Ob.jo (.gH p) (gU cm k).l seen::Z))).set (A.l+(R.l+1)) (.jo (.gH p) (gU cm k).l (seen ++ [t]))=A++(Ob.row 86 0 (AL.cl fS (Jm cm k V seen))::(R++Ob.jo (.gH p) (gU cm k).l (seen ++ [t])::Z)):=fZ;rw[e]
    have uS:(gU cm k).l-(seen ++ [t]).l<(gU cm k).l-seen.l:=by have:=pW.2.2;rw[aq,bj]at this ⊢;omega
    have R5:t=0:=by have:=(ae.1 tU).1;omega
    have tS:seen = []:=bn.2 λu hu=>by have:=gM u hu;rw[(U:u=t)]at hu;exact hi hu
    have Y:y.1=oG (sd cm k):=W5 (by
     obtain⟨z,hz⟩:=fG.1 h1;rw[hz,R5]at tU;cases tU
     exact hz)
    subst tS;obtain⟨⟨r1,r2⟩,ls⟩:=y;dsimp only at Y jV;have Ep:=Gj (l:=V) (n:=k) r1 r2;simp[rj,jV,h1,Ep];(with_reducible repeat' first|refine Xk ?_<;>try simp[rj,jV,h1,Ep]|refine Xs ?_ ?_<;>intro h<;>(try intro M)<;>(try simp[h,rj,jV,h1,Ep])<;>try omega|refine Xg ?_|omega);refine LJ.i ([] ++ [t],Z ++ [.row 86 0 [.i r1,.i r2]]) fZ (by rw[abu fZ,<-Y];simp[h1]) rfl rfl ⟨uS,pW.1,pW.2.1⟩
  .have vO:k=l.l:=by omega
   subst vO;have XL:cm=cs (left.map λk=>gt L k):=by rw[<-Rk,zT]
   have Q2:∀x∈left.map (λk=>gt L k),x.full:=λx I=>⟨Xp x I,λ_=>by
    have:=QM.1 x.c (by rw[XL];exact az.2 ⟨x,I,rfl⟩);unfold jr at this;rw[ai]at this
    exact(Pd this.1).2.2⟩
   have D2:V=AQ (cs L) left l.l:=afv (by rw[aa9];exact hV) λj j0 j1=>by rw[zS j j0 U,aoh _ _ j0 U,Rk]
   have BF:∀j:Int,0<=j->j<V.l->0<=(gt V j).2/\(gt V j).2<=4000:=λj j0 j1=>by
    rw[hV]at j1;rw[zS j j0 j1];have hm:=GO (QM.2 j j0 j1).1;have h5:=n7 j0 j1 _ hm;refine⟨?_,?_⟩
    .unfold nH at h5;simp only[decide_eq_true_eq]at h5;rcases h5 with e|e
     .rw[e];decide
     .exact e.2
    .obtain⟨c,hc,h6,h7⟩:=xx.1 hm;rw[<-h7];rw[XL]at hc;obtain⟨x,I,rfl⟩:=az.1 hc;obtain⟨_,i0,i1⟩:=Cw.WW (Q2 x I) h6;exact Xn x I _ (gF U i1)
   have Vy:=cr V hV BF;rw[D2]at Vy;have n8:∀R:gd,(A++R)[0]? = bb (.row 43 0 g.cells):=λR=>iD o0;simp[n8];refine gy.rq rfl rfl Vy (by simp[<-D2,hV]) (λ_=>by simp[flat,oX]) (λ_=>fZ) ?_;rintro n hn;have F:∀R:gd,(A++R)[2]? = bb (.row 37 0 [ld]):=λR=>iD z7;obtain⟨Hk,k1,k2,k3⟩:=Su ms (A++Ob.row 86 0 (AL.cl fS V)::R) NM λv b=>iD (z8 v b)
   have pE:∀d,leave 0 0 Hk d=(gw (λ_=>eB) Hk 40 d,[]):=λd=>Of λe=>by rw[e,aq]at k2;simp at k2
   have n3:Hk[A.l]? = bb (.row 86 0 (AL.cl fS V)):=by rw[k3 _ λh=>by have:=jw (z8 _ h);omega];simp
   have X7:gw (λ_=>eB) Hk 39 ld=dN 1 f1 (outs L.l left):=by
    rcases EC with⟨e,rfl⟩|⟨h1,v,s,_,rfl,b⟩
    .rw[e];rfl
    .have Sc:=(k3 v λh=>by rw[z8 v h]at b;cases b).trans (iD b);simp[Sc]
     cases hz:outs L.l left with
     | nil=>exact absurd hz h1
     | cons a r=>rfl
   by_cases vQ:n<0
   .have hR:wC (jv g l nx) l.l (jr l.l) (cs L)=(bb (AQ (cs L) left l.l),outs L.l left):=by unfold wC;rw[hE,if_pos ⟨rfl,hn.1 vQ⟩,wX]
    rw[hR,<-D2];have yp:¬ 0<=n:=U;simp[yp,F];(with_reducible repeat' first|refine Xk ?_<;>try simp[yp,F]|refine Xs ?_ ?_<;>intro h<;>(try intro M)<;>(try simp[h,yp,F])<;>try omega|refine Xg ?_|omega);simp[k1,pE,n3,X7,y4,<-hV]
   .have hR:wC (jv g l nx) l.l (jr l.l) (cs L)=(eB,outs L.l left):=by unfold wC;rw[hE,if_neg (λh=>vQ (hn.2 h.2)),wX]
    rw[hR];have yp:0<=n:=U;simp[yp,F];(with_reducible repeat' first|refine Xk ?_<;>try simp[yp,F]|refine Xs ?_ ?_<;>intro h<;>(try intro M)<;>(try simp[h,yp,F])<;>try omega|refine Xg ?_|omega);simp[k1,pE,X7,y4]
 | vm=>
  have b:d=_:=hP.vd;subst b;have hE:=hS.done hJ λa ls h=>by cases h
  have DV:=jw E.nv;have F:∀R:gd,(H'++R)[2]? = bb (.row 37 0 [ld]):=λR=>iD E.nu;have RN:jz (H' ++ [Ob.row 89 0 [.i 0,.gi]]).l (H' ++ [Ob.row 89 0 [.i 0,.gi]]):=IE E.ok rfl λo S=>by rw[bs.1 S];rfl
  have Sg:(ie = []/\ld = .gi)\/(ie≠[]/\∃v s,4<v/\ld = .gf v s 1 0 ie.l/\(H' ++ [Ob.row 89 0 [.i 0,.gi]])[v]? = bb (.row 3 s (cl f1 ie))):=by
   rcases E.vw with h|⟨h1,v,s,h2,K,h4⟩
   .exact .inl h
   .exact .inr ⟨h1,v,s,h2,K,iD h4⟩
  have HS:=aa8 Sg (N:=L.l) (left:=left) (by have:=hS.pm;rwa [wX]at this) h8 RN;simp[F];(with_reducible repeat' first|refine Xk ?_<;>try simp[F]|refine Xs ?_ ?_<;>intro h<;>(try intro M)<;>(try simp[h,F])<;>try omega|refine Xg ?_|omega);refine gy.w mu ?_;refine gy.lr rfl rfl HS ?_;rintro _ A ⟨rfl,EC,X6,zY,o3⟩;have z8:∀v∈ms,A[v]? = bb .jH:=λv b=>zY v _ (iD (Ee v b)) λs n e=>(E.jH (Ee v b)).2 _ _ _ e rfl
  have z7:A[2]? = bb (.row 37 0 [ld]):=by
   refine zY 2 _ (F _) λs n e=>?_;rcases EC with⟨_,h⟩|⟨_,v,GQ,h1,h,_⟩
   .rw[h]at e;cases e
   .rw[h]at e;cases e;omega
  obtain⟨Hk,k1,k2,k3⟩:=Su ms A NM z8;simp[z7];(with_reducible repeat' first|refine Xk ?_<;>try simp[z7]|refine Xs ?_ ?_<;>intro h<;>(try intro M)<;>(try simp[h,z7])<;>try omega|refine Xg ?_|omega);simp[k1]
  have pE:∀d,leave 0 0 Hk d=(gw (λ_=>eB) Hk 40 d,[]):=λd=>Of λe=>by rw[e,X6]at k2;simp at k2
  have hR:wC (jv g l nx) l.l (jr l.l) (cs L)=(eB,outs L.l left):=by unfold wC;rw[hE,if_neg (λh=>by cases h.1),wX]
  rw[hR];rcases EC with⟨e,rfl⟩|⟨h1,v,s,_,rfl,b⟩
  .simp[pE,y4,e];rfl
  .have Sc:=(k3 v λh=>by rw[z8 v h]at b;cases b).trans b;simp[pE,y4,Sc]
   cases hz:outs L.l left with
   | nil=>exact absurd hz h1
   | cons a r=>rfl
end Go.Proofs.YtmehofoficaelaaGreatDoor
namespace Go.Proofs.YtmehofoficaelaaGreatDoor
open Go Go.AL Classical
noncomputable def su(V:List gg):gV:=⟨0,0,V.l,V,jX V⟩
structure aoQ(A:mc)(n:Nat)(V:List gg):Prop where
 len:V.l=n
 ib:∀i:Int,0<=i->i<n->∀k∈gt A.nx i,0<=k/\k<n
 hV:∀i:Int,0<=i->i<n->na A V i
 xl:∀i:Int,0<=i->i<n->nH (gt V i)=dr
