/- Part 40 of DisputeSettles. -/
import Derived.Test.YtmehofoficaelaaGreatDoorS39
import Derived.Test.YtmehofoficaelaaGreatDoorS26
set_option linter.all false
namespace Go.Proofs.YtmehofoficaelaaGreatDoor
open Go Go.AL Classical
set_option maxRecDepth 10000
set_option maxHeartbeats 16000000
theorem gx.s{T:iD}{f:FuncId}{args:List D}{dst:Option Nat}{s s':St}{K:St->Prop}(hs:s=s')(h:gx T f args dst s' K .mk):gx T f args dst s K .mk:=by subst hs;exact h
end Go.Proofs.YtmehofoficaelaaGreatDoor
namespace Go.Proofs.YtmehofoficaelaaGreatDoor
open Go Go.AL Classical
set_option maxRecDepth 10000
set_option maxHeartbeats 8000000
def H0(g:gj)(n:Nat)(v:List gd)(lf:List Int):U:=[.row 43 0 g.cells,.row 86 0 (cl fS v),.row 51 0 [.fZ 1 0 2 0 n],.row 3 0 (cl f1 lf),.row 37 0 [.gg]]
def HV(g:gj)(n:Nat)(v:List gd)(lf:List Int)(a:Nat)(L:List Int)(h:Nat):U:=
 [.row 43 0 g.cells,.row 86 0 (cl fS v),.row 51 0 [.fZ 1 0 2 0 n],.row 3 0 (cl f1 lf),.row 37 0 [.fZ 5 a 1 h (L.length-h)],.row 3 a (cl f1 L)]
def HX(g:gj)(n:Nat)(v:List gd)(lf:List Int)(b:Nat)(L:List Int)(h:Nat):U:=match L with
 | []=>H0 g n v lf
 | a::r=>HV g n v lf b (a::r) h
def na{g:gj}{n:Nat}{v:List gd}{lf L:List Int}{b h:Nat}(c:L≠[]):HX g n v lf b L h=HV g n v lf b L h:=by
 cases L with
 | nil=>exact absurd rfl c
 | cons a r=>rfl
def acy{g:gj}{n:Nat}{v:List gd}{lf L:List Int}{b h:Nat}{live:List Nat}{env:Env}(E:Env)(e:sh 5 E)(d:forget live env=E)(r:Bool) :
  cut 5 live { env:=env,H:=HX g n v lf b L h,marks:=[],ic:=r } = { env:=E,H:=HX g n v lf b L h,marks:=[],ic:=r }:=by
 cases L with
 | nil=>rw[QK (by simp[HX,H0]),d]
 | cons a R=>
  subst d
  by_cases f:AH live=true
  .unfold cut;dsimp only;rw[if_pos (.inr f)]
  rw[tH (by simp[HX,HV]) (by simpa using f)]
  have h1:((forget live env).map λp=>jk 5 p.2).flatten = []:=List.flatten_eq_nil_iff.2 λx i=>by obtain⟨p,c,rfl⟩:=List.mem_map.1 i;exact(e p c).1
  have j:I8 5 (forget live env) (HX g n v lf b (a::R) h) [] = [5]:=by unfold I8;rw[h1];simp[HX,HV]
  rw[j];unfold Ni
  have k:((forget live env).map λp=>(p.1,gq (iv (iI 5 [5])) (HX g n v lf b (a::R) h) 40 p.2))=forget live env:=by
   conv=>rhs;rw[<-aY (forget live env)]
   refine aq λp c=>?_;rw[(e p c).2 _ _ λv l=>?_]
   .rfl
   .have:v=0\/v=1\/v=2\/v=3\/v=4:=by omega
    rcases this with rfl|rfl|rfl|rfl|rfl<;>rfl
  rw[k];simp[HX,HV,iI,fH,uD,ot]
def F3{g:gj}{n:Nat}{v:List gd}{lf L:List Int}{a h:Nat}:(HX g n v lf a L h).length=if L = []then 5 else 6:=by cases L<;>rfl
theorem V3:∀(L:List Int) (h:Nat),h<L.length->(cl f1 L)[h]? = some (.i (gt L (h:Int)))
 | a::r,0,_=>by rw[mD,zO];rfl
 | a::r,h+1,hh=>by rw[mD,zO,eI,cV,V3 r h (by simpa using hh)];rfl
def M8{v:List gd}{n:Int}(h:n.toNat<v.length):(cl fS v)[n.toNat*2]? = some (.i (gt v n).1):=by
 have:=QA h;rw[xd]at this;have a:((cl fS v).drop (n.toNat*2))[0]? = some (.i (gt v n).1):=by rw[this];rfl
 rwa [aI,bX]at a
def adv{v:List gd}{n:Int}(h:n.toNat<v.length):(cl fS v)[n.toNat*2+1]? = some (.i (gt v n).2):=by
 have:=QA h;rw[xd]at this;have a:((cl fS v).drop (n.toNat*2))[1]? = some (.i (gt v n).2):=by rw[this];rfl
 rwa [aI]at a
def amQ{n k v w:Nat}{f:Fn}{env:Env}(d:v<n)(c:w<n)(h:sh n env):sh n ((k,.fn f [] [.ptr v 0 0,.ptr w 0 0])::env):=λp a=>by
 rcases ao.1 a with rfl|a
 .exact⟨rfl,λρ H b=>by rw[AL.aoN];simp[b v d,b w c]⟩
 .exact h p a
theorem gp.K{T:iD}{live:List Nat}{a:IR}{s:St}{K b:iU}(c:K=b)(h:gp T live a s b .mk):gp T live a s K .mk:=by subst c;exact h
def acz(g:gj)(n:Nat)(lf L:List Int)(b h:Nat):∃G:U,∀v,HX g n v lf b L h = .row 43 0 g.cells :: .row 86 0 (cl fS v) :: .row 51 0 [.fZ 1 0 2 0 n]::G:=by
 cases L with
 | nil=>exact⟨_,λv=>rfl⟩
 | cons a r=>exact⟨_,λv=>rfl⟩
section
variable{nx:List (List Int)}
theorem VO(i:Int):∀(r:List Int) (a:List (List Int)),(∀k∈r,0<=k/\k<a.length)->∀j:Int,0<=j->∀k:Int,(gt (pK i r a) j).count k=(gt a j).count k+if k=i then r.count j else 0
 | [],_,_,_,_,_=>by simp[pK]
 | q::r,a,h,j,b,k=>by
  have h1:=h q (by simp);have d:=iC (v:=gt a q ++ [i]) h1.1 h1.2;rw[pK,VO i r _ (λj b=>by rw[d];exact h j (by simp[b])) j b k,lK h1.1 h1.2 b,List.count_cons]
  by_cases e:j=q
  .subst e;rw[if_pos rfl,dz,dK]
   by_cases c:k=i
   .subst c;simp;omega
   .have:¬i=k:=λe=>c e.symm;simp[c,this]
  .rw[if_neg e];have:¬q=j:=λh=>e h.symm;simp[this]
theorem VM(b:∀x∈nx,∀k∈x,0<=k/\k<nx.length):∀n:Nat,n<=nx.length->∀j:Int,0<=j->∀k:Int,0<=k->(gt (nc nx n) j).count k=if k<n then(gt nx k).count j else 0
 | 0,_,j,hj,k,k0=>by
  have:∀a∈nc nx 0,a = []:=λa d=>dY d;rw[if_neg (by omega)]
  by_cases h:j<(nc nx 0).length
  .rw[this _ (gA hj h)];simp
  .unfold gt;rw[List.getD_eq_getElem?_getD,bp (by omega)];rfl
 | n+1,h,j,hj,k,k0=>by
  rw[nc,VO n _ _ (by rw[x5 b n (by omega)];exact b _ (gA (by omega) (by omega))) j hj k,VM b n (by omega) j hj k k0]
  by_cases e:k=n
  .subst e;simp;omega
  .rw[if_neg e]
   by_cases c:k<n
   .rw[if_pos c,if_pos (by omega)];rfl
   .rw[if_neg c,if_neg (by omega)]
theorem VP(i:Int):∀(r:List Int) (b:List (List Int)),(∀k∈r,0<=k/\k<b.length)->∀j:Int,0<=j->∀k∈gt (pK i r b) j,k∈gt b j\/k=i
 | [],_,_,_,_,_,h=>.inl h
 | q::r,b,h,j,c,k,hk=>by
  have h1:=h q (by simp);have f:=iC (v:=gt b q ++ [i]) h1.1 h1.2;rw[pK]at hk;rcases VP i r _ (λj c=>by rw[f];exact h j (by simp[c])) j c k hk with a|a
  .rw[lK h1.1 h1.2 c]at a;split at a
   .rename_i e;rw[e];rcases List.mem_append.1 a with d|d
    .exact .inl d
    .exact .inr (List.mem_singleton.1 d)
   .exact .inl a
  .exact .inr a
theorem VN(b:∀x∈nx,∀k∈x,0<=k/\k<nx.length):∀n:Nat,n<=nx.length->∀j:Int,0<=j->∀k∈gt (nc nx n) j,0<=k/\k<n
 | 0,_,j,hj,k,hm=>by
  have:∀a∈nc nx 0,a = []:=λa c=>dY c
  by_cases h:j<(nc nx 0).length
  .rw[this _ (gA hj h)]at hm;cases hm
  .unfold gt at hm;rw[List.getD_eq_getElem?_getD,bp (by omega)]at hm;cases hm
 | n+1,h,j,hj,k,hm=>by
  rw[nc]at hm;rcases VP n _ _ (by rw[x5 b n (by omega)];exact b _ (gA (by omega) (by omega))) j hj k hm with h1|h1
  .have:=VN b n (by omega) j hj k h1;omega
  .omega
end
def f29(g:gj)(hg:gU g)(l:List Pos)(E:ox g l)(h0:0<l.length):Wf T 16 [dG g,gZ l] [] (Ey (λv=>.tup [iw v,.i 0]) λv=>v.length=l.length/\∀k:Int,0<=k->k<l.length->ke (ji g l (gw g l)) v k):=by
 have c6:=E.len;have X:(gw g l).length=l.length:=by simp[gw]
 refine Yg L8 ?_;simp[L8];refine Yc (f52 g hg l E h0) ?_;simp;refine gf ?_;refine gp.e ((0,List.replicate l.length (0,0),List.replicate l.length 0,[]):Int×List gd×List Int×List Int) (λy=>[(2,.ptr 0 0 0),(6,.sl 1 ((gw g l).map fN)),(8,.ptr 2 0 0),(9,.fZ 3 0 1 0 l.length),(10,.ptr 4 0 0),(11,.fn (.func 57) [] [.ptr 2 0 0,.ptr 4 0 0]),(37,gZ l),(38,.i l.length),(39,.i y.1)]) (λy=>HX g l.length y.2.1 y.2.2.1 (y.2.2.2.length-1) y.2.2.2 0) (λy=>0<=y.1/\y.1<=l.length/\VS (ji g l (gw g l)) l.length y.1 y.2.2.2 y.2.1 y.2.2.1) (λy=>(l.length-y.1).toNat) ?_ ?_
 .exact⟨by simp,by simp,VS.start _ _⟩
 rintro⟨i,v,lf,R⟩ ⟨i0,D,hS⟩;dsimp only at i0 D hS ⊢
 by_cases hi:i<l.length
 .have hp:=E.ok _ (gA i0 hi);have HM:=hS.ll;have A:=hS.vl
  by_cases b:R = []
  .subst b;simp[hi,HX,H0,s6];refine gf ?_;refine Yc (f54 g hg (gt l i) hp) ?_;simp;refine jT ?_ ?_<;>intro h
   .refine gx.s (by simp;rfl) ?_;refine gx.kG rfl rfl (afP g l.length v _ (gt l i) i (stat g (gt l i)).1 0 ⟨i0,hi⟩ A) ?_;rintro _ H' ⟨rfl,rfl⟩;simp;refine gf ?_;refine LJ.i (i+1,pt v i ((stat g (gt l i)).1,0),pt lf i (gt (gw g l) i).length,[i]) (by first|rfl|simp[HX,HV,iM]) (by first|rfl|simp[HX,HV,iM]) rfl rfl ?_;exact gJ (hS.yes i0 hi ‹_›)
   refine LJ.i (i+1,v,pt lf i (gt (gw g l) i).length,[]) (by first|rfl|simp[HX,H0]) (by first|rfl|simp[HX,H0]) rfl rfl ?_;exact gJ (hS.no i0 hi ‹_›)
  .have BK:=aw.2 b;simp[hi,na b,HV,s6];(with_reducible repeat' first|refine Xk ?_<;>try simp[na b,HV]|refine Xs ?_ ?_<;>intro h<;>(try intro C)<;>(try simp[h,na b,HV])<;>try omega|refine Xg ?_|omega);refine Yc (f54 g hg (gt l i) hp) ?_;simp;(with_reducible repeat' first|refine Xk ?_<;>try simp[na b,HV]|refine Xs ?_ ?_<;>intro h<;>(try intro C)<;>(try simp[h,na b,HV])<;>try omega|refine Xg ?_|omega)
   .refine gx.s (by simp[na b,HV];rfl) ?_;refine gx.kG rfl rfl (Q6 g l.length v _ R (R.length-1) 0 [.row 46 0 (gt l i).cells] (.inr ⟨_,rfl⟩) i (stat g (gt l i)).1 0 ⟨i0,hi⟩ A (by have:=CE (P:=[]) (R:=R) (n:=l.length) (by simpa using hS.nd) (λk f=>by have:=((hS.qr k).1 (by simpa using f)).1;omega);simp at this;omega) (by omega)) ?_;rintro _ H' ⟨rfl,rfl⟩;simp[na b,HV];(with_reducible repeat' first|refine Xk ?_<;>try simp[na b,HV]|refine Xs ?_ ?_<;>intro h<;>(try intro C)<;>(try simp[h,na b,HV])<;>try omega|refine Xg ?_|omega);refine LJ.i (i+1,pt v i ((stat g (gt l i)).1,0),pt lf i (gt (gw g l) i).length,R ++ [i]) (by first|rfl|simp[na,HV,iM,show R.length-1+1=R.length by omega]) (by first|rfl|simp[na,HV,iM,show R.length-1+1=R.length by omega]) rfl rfl ?_;exact gJ (hS.yes i0 hi ‹_›)
   refine LJ.i (i+1,v,pt lf i (gt (gw g l) i).length,R) (by first|rfl|simp[na b,HV]) (by first|rfl|simp[na b,HV]) rfl rfl ?_;exact gJ (hS.no i0 hi ‹_›)
 .have gF:i=l.length:=by omega
  subst gF;obtain⟨d,p⟩:=hS.done λk f=>by have:=abT hg f;show(stat g (gt l k)).1≠0;omega
  have Hy:∀(env:Env) (r:Bool),forget [6,8,9,10,11] env = [(6,.sl 1 ((gw g l).map fN)),(8,.ptr 2 0 0),(9,.fZ 3 0 1 0 l.length),(10,.ptr 4 0 0),(11,.fn (.func 57) [] [.ptr 2 0 0,.ptr 4 0 0])]->cut 5 [6,8,9,10,11] { env:=env,H:=HX g l.length v lf (R.length-1) R 0,marks:=[],ic:=r } = { env:=[(6,.sl 1 ((gw g l).map fN)),(8,.ptr 2 0 0),(9,.fZ 3 0 1 0 l.length),(10,.ptr 4 0 0),(11,.fn (.func 57) [] [.ptr 2 0 0,.ptr 4 0 0])],H:=HX g l.length v lf (R.length-1) R 0,marks:=[],ic:=r }:=λenv r he=>by refine acy _ ?_ he r;exact ru (Gw _) (aaG (by omega) (E0 (by omega) (aaG (by omega) (amQ (by omega) (by omega) EZ))))
  simp[Hy];refine gf ?_;have gF:=λi i0 D=>(pC E (i:=i) i0 D).2
  have iB:∀k:Int,0<=k->k<l.length->(gt (gw g l) k).length<=4000000000:=λk k0 k1=>by rw[(pC E k0 k1).1,List.length_map];have:=yT hg (E.ok _ (gA k0 k1));omega
  have Si:∀k:Int,0<=k->k<l.length->∀c∈gt (ji g l (gw g l)).nx k,0<=c/\c<l.length:=gF
  have V:∀x∈gw g l,∀k∈x,0<=k/\k<(gw g l).length:=λx hx k f=>by obtain⟨a,a0,S,rfl⟩:=um.1 hx;rw[X]at S ⊢;exact gF a a0 S k f
  have t:∀x∈gw g l,x.length<=4000000000:=λx hx=>by obtain⟨a,a0,S,rfl⟩:=um.1 hx;rw[X]at S;exact iB a a0 S
  refine Yc (f55 (gw g l) V (by omega) t) ?_;simp;refine gf ?_;refine gp.K (by simp[Hy,F3];rfl) ?_;generalize M:nc (gw g l) (gw g l).length=bs;refine gp.s (by simp[Hy];rfl) ?_;refine gp.e ((v,lf,R.length-1,R,0,[]):List gd×List Int×Nat×List Int×Nat×List Int) (λy=>[(8,.ptr 2 0 0),(9,.fZ 3 0 1 0 l.length),(10,.ptr 4 0 0),(11,.fn (.func 57) [] [.ptr 2 0 0,.ptr 4 0 0]),(16,.sl 1 (bs.map fN))]) (λy=>HX g l.length y.1 y.2.1 y.2.2.1 y.2.2.2.1 y.2.2.2.2.1) (λy=>VB (ji g l (gw g l)) l.length y.2.2.2.2.2 (y.2.2.2.1.drop y.2.2.2.2.1) y.1 y.2.1/\US (ji g l (gw g l)) l.length y.2.2.2.2.2 (y.2.2.2.1.drop y.2.2.2.2.1) [] 0 y.1 y.2.1/\y.2.2.2.1.length<=l.length/\(y.2.2.2.1 = []↔R = [])) (λy=>l.length-y.2.2.2.2.2.length) ?_ ?_
  .exact⟨d,p,by have:=CE d.nd d.qr;simpa using this,eo⟩
  dsimp only;rw[F3];clear d p hS hi i0 D;rintro⟨v,lf,s,L,h,P⟩ ⟨d,p,u,N3⟩;dsimp only at d p u N3 ⊢;have N:=CE d.nd d.qr;rw[aj]at N
  cases b:L.drop h with
  | nil=>
   rw[b]at d p
   have hq:L.length-h=0:=by
    have:(L.drop h).length=0:=by rw[b];rfl
    rwa [aQ]at this
   by_cases m:L = []
   case' pos=>
    have o:=N3.1 m;simp[m,HX,H0,o];refine kJ m o ?_;refine gp.s (s':={ env:=[(136,.i 0),(135,.i l.length),(134,.fZ 1 0 2 0 l.length),(8,.ptr 2 0 0)],H:=HX g l.length v lf s L h }) (by simp[o,m,HX,H0]) ?_;refine gp.K (by simp[o,F3,m];rfl) ?_
   case' neg=>
    have o:¬_ = []:=λe=>m (N3.2 e);simp[na m,HV,o,hq];(with_reducible repeat' first|refine Xk ?_<;>try simp[na m,HV,o,hq]|refine Xs ?_ ?_<;>intro h<;>(try intro C)<;>(try simp[h,na m,HV,o,hq])<;>try omega|refine Xg ?_|omega);refine gp.s (s':={ env:=[(136,.i 0),(135,.i l.length),(134,.fZ 1 0 2 0 l.length),(8,.ptr 2 0 0)],H:=HX g l.length v lf s L h }) (by simp[o,na m,HV]) ?_;refine gp.K (by simp[o,F3,na m,HV];rfl) ?_
   all_goals
    obtain⟨G,hX⟩:=acz g l.length lf L s h;have A:=d.vl;refine gp.e ((0,v):Int×List gd) (λy=>[(8,.ptr 2 0 0),(135,.i l.length),(136,.i y.1)]) (λy=>HX g l.length y.2 lf s L h) (λy=>0<=y.1/\y.1<=l.length/\y.2.length=l.length/\∀k:Int,0<=k->k<l.length->gt y.2 k=if k<y.1/\(gt v k).1=0 then(2,(gt v k).2)else gt v k) (λy=>(l.length-y.1).toNat) ?_ ?_
    .exact⟨by simp,by simp,A,λk k0 k1=>by rw[if_neg (by dsimp only;omega)]⟩
    rintro⟨i,w⟩ ⟨i0,D,K,w1⟩;dsimp only at i0 D K w1 ⊢
    by_cases hi:i<l.length
    .have c0:=M8 (v:=w) (n:=i) (by omega);have Ik:=w1 i i0 hi;rw[if_neg (by omega)]at Ik;simp[hi,hX];refine jD hX ?_;simp[c0];refine F9 hX ?_ ?_<;>intro h
     .have Hx:=adw (l:=w) (n:=i) (by omega) 2;refine LJ.i (i+1,pt w i (2,(gt w i).2)) (by first|rfl|simp) (by rw[hX,<-Hx];rfl) rfl rfl ?_;refine gJ ⟨?_,λk k0 k1=>?_⟩
      .dsimp only;rw[iC i0 (by omega)];exact K
      .dsimp only;rw[lK i0 (by omega) k0]
       by_cases e:k=i
       .subst e;rw[if_pos rfl,if_pos ⟨by omega,by rw[<-Ik];assumption⟩,Ik]
       .rw[if_neg e,w1 k k0 k1]
        by_cases O:k<i
        .simp[O,show k<i+1 by omega]
        .simp[O,show¬k<i+1 by omega]
     .refine LJ.i (i+1,w) (by first|rfl|simp) (by rw[hX];rfl) rfl rfl ?_;refine gJ ⟨K,λk k0 k1=>?_⟩;dsimp only
      by_cases e:k=i
      .subst e;rw[Ik]at *;rw[if_neg (by rintro⟨_,h2⟩;contradiction)]
      .rw[w1 k k0 k1]
       by_cases O:k<i
       .simp[O,show k<i+1 by omega]
       .simp[O,show¬k<i+1 by omega]
    .have uZ:i=l.length:=by omega
     subst uZ
     have N1:G.length=if L = []then 2 else 3:=by
      have h1:=congrArg List.length (hX v);rw[F3]at h1;simp only[aC]at h1
      by_cases hh:L = []
      .rw[if_pos hh]at h1 ⊢;omega
      .rw[if_neg hh]at h1 ⊢;omega
     first|rw[if_pos m]at N1|rw[if_neg m]at N1
     simp[hX,N1];refine kJ hX N1 ?_;rw[tM K.symm,aoS];refine Ey.i w rfl rfl ⟨K,apx Si d p λk k0 k1=>?_⟩;rw[w1 k k0 k1]
     by_cases e:(gt v k).1=0
     .rw[if_pos ⟨k1,e⟩,if_pos e]
     .rw[if_neg λhh=>e hh.2,if_neg e]
  | cons i R=>
   rw[b]at d p N;have m:L≠[]:=λe=>by rw[e]at b;simp at b
   have I:h<L.length:=by
    by_cases e:h<L.length
    .exact e
    .rw[br (by omega)]at b;cases b
   have YR:gt L (h:Int)=i:=by rw[bA I,cS]at b;rw[zU I];exact b.1
   obtain⟨J,g'⟩:=d.qr i (by simp);have o:¬_ = []:=λe=>m (N3.2 e);have Sf:0<L.length-h:=by omega
   have b1:(List.drop h L).length=L.length-h:=aQ;have ta:=V3 L h I;rw[YR]at ta
   have lh:bs.length=l.length:=by rw[<-M,x5 V _ (Nat.le_refl _),X]
   simp[na m,HV,o];(with_reducible repeat' first|refine Xk ?_<;>try simp[na m,HV,Sf]|refine Xs ?_ ?_<;>intro h<;>(try intro C)<;>(try simp[h,na m,HV,Sf])<;>try omega|refine Xg ?_|omega);simp[ta];simp[s6];(with_reducible repeat' first|refine Xk ?_<;>try simp[na m,HV]|refine Xs ?_ ?_<;>intro h<;>(try intro C)<;>(try simp[h,na m,HV])<;>try omega|refine Xg ?_|omega)
   have e8:(gt bs i).length<=17000000000000:=by have:=Qk V t _ (Nat.le_refl _) i J;rw[M]at this;omega
   have R2:∀k:Int,0<=k->k<l.length->(gt bs i).count k=(gt (gw g l) k).count i:=λk k0 k1=>by rw[<-M,VM V _ (Nat.le_refl _) i J k k0,if_pos (by omega)]
   have px:∀k∈gt bs i,(0<=k/\k<l.length)/\i∈gt (gw g l) k:=λk f=>by rw[<-M]at f;have h1:=VN V _ (Nat.le_refl _) i J k f;rw[X]at h1;refine⟨h1,ea.1 ?_⟩;rw[<-R2 k h1.1 h1.2,<-M];exact ea.2 f
   refine gp.s (by simp only[na m];rfl) ?_;refine gp.e ((0,v,lf,s,L,h,R):Int×List gd×List Int×Nat×List Int×Nat×List Int) (λy=>[(8,.ptr 2 0 0),(9,.fZ 3 0 1 0 l.length),(10,.ptr 4 0 0),(11,.fn (.func 57) [] [.ptr 2 0 0,.ptr 4 0 0]),(16,.sl 1 (bs.map fN)),(17,.i i),(77,dN 1 f1 (gt bs i)),(78,.i (gt bs i).length),(79,.i y.1)]) (λy=>HV g l.length y.2.1 y.2.2.1 y.2.2.2.1 y.2.2.2.2.1 y.2.2.2.2.2.1) (λy=>0<=y.1/\y.1<=(gt bs i).length/\y.2.2.2.2.1.drop y.2.2.2.2.2.1=i::y.2.2.2.2.2.2/\y.2.2.2.2.1.length<=l.length/\VB (ji g l (gw g l)) l.length P (i::y.2.2.2.2.2.2) y.2.1 y.2.2.1/\US (ji g l (gw g l)) l.length P (i::y.2.2.2.2.2.2) ((gt bs i).take y.1.toNat) (gt y.2.1 i).1 y.2.1 y.2.2.1) (λy=>((gt bs i).length-y.1).toNat) ?_ ?_
   .exact⟨by simp,by simp,b,u,d,by simpa using p.t0 _⟩
   dsimp only;rw[na m];clear b I YR Sf b1 ta d p;rintro⟨j,v,lf,s,L,q,R⟩ ⟨j0,j1,b,u,d,p⟩;dsimp only at j0 j1 b u d p ⊢;have m:L≠[]:=λe=>by rw[e]at b;simp at b
   by_cases hj:j<(gt bs i).length
   .obtain⟨f,Y⟩:=px _ (gA j0 hj);have A:=d.vl;have HM:=d.ll;simp[hj,HV];generalize kM:gt (gt bs i) j=k at *
    have t:((gt bs i).take (j+1).toNat)=(gt bs i).take j.toNat ++ [k]:=by rw[show(j+1).toNat=j.toNat+1 by omega,cU,List.getElem?_eq_getElem (by omega),c9,<-iZ j0 hj,kM]
    have k0:=M8 (v:=v) (n:=k) (by omega);have Q:=M8 (v:=v) (n:=i) (by omega);have e1:=adv (v:=v) (n:=i) (by omega);have tc:=d.nn i (by simp);have N:=CE d.nd d.qr
    have I:q<L.length:=by
     by_cases e:q<L.length
     .exact e
     .rw[br (by omega)]at b;cases b
    by_cases B:(gt v k).1=0
    .have F:k ∉ P++i::R:=λZ=>d.qi k Z B
     by_cases W:(gt v i).1=3
     .refine gf ?_;simp[k0,B];refine gf ?_;simp[Q,W];refine gf ?_;simp[e1];refine gf ?_;refine gx.kG rfl rfl (Q6 g l.length v lf L s q [] (.inl rfl) k 1 ((gt v i).2+1) f A (by omega) (by omega)) ?_;rintro _ H' ⟨rfl,rfl⟩;simp;refine gf ?_;obtain⟨s1,z⟩:=apj Si d p f.1 f.2 F Y W;have yw:=CE s1.nd s1.qr;refine LJ.i (j+1,pt v k (1,(gt v i).2+1),lf,s+1,L.drop q ++ [k],0,R ++ [k]) (by first|rfl|simp[HV]) (by first|rfl|simp[HV]) rfl rfl ?_;refine⟨by dsimp only;omega,by dsimp only;omega,by dsimp only;omega,by dsimp only;rw[b];rfl,by dsimp only;rw[b];simp at yw ⊢;omega,s1,?_⟩;dsimp only;rw[t,lK f.1 (by omega) J,if_neg (λe=>F (by rw[<-e];simp))];exact z
     .by_cases U:(gt v i).1=1
      .refine gf ?_;simp[k0,B];refine gf ?_;simp[Q,W];refine gf ?_
       try simp[Q,U]
       obtain⟨_,_,u1,u2⟩:=p k f.1 f.2 F;have u3:=u2 λe=>by have h1:i∈gt (ji g l (gw g l)).nx k:=Y;rw[e]at h1;cases h1
       have u4:(gt (ji g l (gw g l)).nx k).length<=4000000000:=iB k f.1 f.2;have f':gt (pt lf k (gt lf k-1)) k=gt lf k-1:=BC f.1 (by omega);have iL:(pt lf k (gt lf k-1)).length=lf.length:=iC f.1 (by omega)
       by_cases Ej:gt lf k-1=0
       ·(with_reducible repeat' first|refine Xk ?_<;>try simp|refine Xs ?_ ?_<;>intro h<;>(try intro C)<;>(try simp[h])<;>try omega|refine Xg ?_|omega);simp[e1];refine gf ?_;refine gx.s (by simp;rfl) ?_;refine gx.kG rfl rfl (Q6 g l.length v (pt lf k (gt lf k-1)) L s q [] (.inl rfl) k 3 ((gt v i).2+1) f A (by omega) (by omega)) ?_;rintro _ H' ⟨rfl,rfl⟩;simp;refine gf ?_
        obtain⟨s1,z⟩:=apl Si d p f.1 f.2 F Y U Ej (by
         have h1:=R2 k f.1 f.2
         have h2:((gt bs i).take j.toNat).count k+1<=(gt bs i).count k:=by
          have h3:(((gt bs i).take j.toNat) ++ [k]).count k<=(gt bs i).count k:=by rw[<-t];exact(List.take_sublist _ _).count_le _
          rwa [dz,List.count_singleton_self]at h3
         show _<=(gt (gw g l) k).count i
         omega)
        have yw:=CE s1.nd s1.qr;refine LJ.i (j+1,pt v k (3,(gt v i).2+1),pt lf k (gt lf k-1),s+1,L.drop q ++ [k],0,R ++ [k]) (by first|rfl|simp[HV]) (by first|rfl|simp[HV]) rfl rfl ?_;refine⟨by dsimp only;omega,by dsimp only;omega,by dsimp only;omega,by dsimp only;rw[b];rfl,by dsimp only;rw[b];simp at yw ⊢;omega,s1,?_⟩;dsimp only;rw[t,lK f.1 (by omega) J,if_neg (λe=>F (by rw[<-e];simp))];exact z
       ·(with_reducible repeat' first|refine Xk ?_<;>try simp|refine Xs ?_ ?_<;>intro h<;>(try intro C)<;>(try simp[h])<;>try omega|refine Xg ?_|omega);obtain⟨s1,z⟩:=apk d p f.1 f.2 F Y U Ej;refine LJ.i (j+1,v,pt lf k (gt lf k-1),s,L,q,R) (by first|rfl|simp[HV]) (by first|rfl|simp[HV]) rfl rfl ?_;refine gJ ⟨b,u,s1,?_⟩;dsimp only;rw[t];exact z
      .refine gf ?_;simp[k0,B];refine gf ?_;simp[Q,W];refine gf ?_
       try simp[Q,U]
       refine gf ?_;refine LJ.i (j+1,v,lf,s,L,q,R) (by first|rfl|simp[HV]) (by first|rfl|simp[HV]) rfl rfl ?_;refine gJ ⟨b,u,d,?_⟩;dsimp only;rw[t];exact p.skip (.inr ⟨U,W⟩)
    .refine gf ?_;simp[k0,B];refine gf ?_;refine LJ.i (j+1,v,lf,s,L,q,R) (by first|rfl|simp[HV]) (by first|rfl|simp[HV]) rfl rfl ?_;refine gJ ⟨b,u,d,?_⟩;dsimp only;rw[t]
     exact p.skip (.inl (by
      by_cases Z:k∈P++i::R
      .exact Z
      .rw[d.z k f.1 f.2 Z]at B;exact absurd rfl B))
   .have I:q<L.length:=by
     by_cases e:q<L.length
     .exact e
     .rw[br (by omega)]at b;cases b
    have z':L.drop (q+1)=R:=by rw[<-List.tail_drop,b];rfl
    have N:=CE d.nd d.qr;rw[af (by omega)]at p;obtain⟨s1,z⟩:=agK d p R2;simp[hj,HV];refine jD o ?_;simp[o];refine gf ?_;refine LJ.i (v,lf,s,L,q+1,P ++ [i]) (by first|rfl|simp[o]) (by first|rfl|simp[o,na m,HV,show L.length-q-1=L.length-(q+1)by omega]) (by first|rfl|simp[o]) (by first|rfl|simp[o]) ?_;refine⟨?_,?_,?_,u,λe=>absurd e m,λe=>absurd e o⟩
    .dsimp only;simp at N ⊢;omega
    .dsimp only;rw[z'];exact s1
    .dsimp only;rw[z'];exact z
end Go.Proofs.YtmehofoficaelaaGreatDoor
namespace Go.Proofs.YtmehofoficaelaaGreatDoor
open Go Go.AL Classical
set_option maxRecDepth 10000
set_option maxHeartbeats 8000000
def f102(L:List Int)(h0:0<L.length)(m:L.length<=4000000000):Wf T 145 [dI L] [] (Ey D.i λr=>r∈L/\∀x∈L,r<=x):=by
 refine Yg JQ ?_;simp[JQ];(with_reducible repeat' first|refine Xk ?_<;>try simp|refine Xs ?_ ?_<;>intro h<;>(try intro o)<;>(try simp[h])<;>try omega|refine Xg ?_|omega);refine gp.e ((1,gt L 0):Int×Int) (λy=>[(0,dI L),(3,.i y.2),(4,.i y.1)]) (λy=>[]) (λy=>1<=y.1/\y.1<=L.length/\y.2∈L/\∀j:Int,0<=j->j<y.1->y.2<=gt L j) (λy=>(L.length-y.1).toNat) ?_ ?_
 .refine⟨by simp,by dsimp only;omega,gA (by omega) (by omega),λj j0 j1=>?_⟩;dsimp only at j1 ⊢;rw[show j=0 by omega];exact dw _
 rintro⟨i,r⟩ ⟨i0,d,c,b⟩;dsimp only at i0 d c b ⊢
 by_cases hi:i<L.length
 .simp[hi];refine gf ?_;have k:=gA (l:=L) (n:=i) (by omega) hi;refine LJ.e (i+1,min r (gt L i)) ?_;refine gJ ⟨?_,λj j0 j1=>?_⟩
  .dsimp only;rcases(show min r (gt L i)=r\/min r (gt L i)=gt L i by omega)with e|e<;>rw[e]<;>assumption
  .dsimp only at j1 ⊢
   by_cases e:j=i
   .subst e;omega
   .have:=b j j0 (by omega);omega
 .simp[hi];refine gf ?_;refine Ey.i r rfl rfl ⟨c,λx f=>?_⟩;obtain⟨a,g,p,rfl⟩:=um.1 f;exact b a g (by omega)
def f103(L:List Int)(h0:0<L.length)(m:L.length<=4000000000):Wf T 146 [dI L] [] (Ey D.i λr=>r∈L/\∀x∈L,x<=r):=by
 refine Yg JV ?_;simp[JV];(with_reducible repeat' first|refine Xk ?_<;>try simp|refine Xs ?_ ?_<;>intro h<;>(try intro o)<;>(try simp[h])<;>try omega|refine Xg ?_|omega);refine gp.e ((1,gt L 0):Int×Int) (λy=>[(0,dI L),(3,.i y.2),(4,.i y.1)]) (λy=>[]) (λy=>1<=y.1/\y.1<=L.length/\y.2∈L/\∀j:Int,0<=j->j<y.1->gt L j<=y.2) (λy=>(L.length-y.1).toNat) ?_ ?_
 .refine⟨by simp,by dsimp only;omega,gA (by omega) (by omega),λj j0 j1=>?_⟩;dsimp only at j1 ⊢;rw[show j=0 by omega];exact dw _
 rintro⟨i,r⟩ ⟨i0,d,c,b⟩;dsimp only at i0 d c b ⊢
 by_cases hi:i<L.length
 .simp[hi];refine gf ?_;have k:=gA (l:=L) (n:=i) (by omega) hi;refine LJ.e (i+1,max r (gt L i)) ?_;refine gJ ⟨?_,λj j0 j1=>?_⟩
  .dsimp only;rcases(show max r (gt L i)=r\/max r (gt L i)=gt L i by omega)with e|e<;>rw[e]<;>assumption
  .dsimp only at j1 ⊢
   by_cases e:j=i
   .subst e;omega
   .have:=b j j0 (by omega);omega
 .simp[hi];refine gf ?_;refine Ey.i r rfl rfl ⟨c,λx f=>?_⟩;obtain⟨a,g,p,rfl⟩:=um.1 f;exact b a g (by omega)
def kr(v:List gd)(x:List Int)(o:Int):List Int:=(x.filter λk=>decide ((gt v k).1=o)).map λk=>(gt v k).2
def aai{v:List gd}{x:List Int}{o k:Int}(h:(gt v k).1=o):kr v (x ++ [k]) o=kr v x o ++ [(gt v k).2]:=by simp[kr,h]
def aah{v:List gd}{x:List Int}{o k:Int}(h:(gt v k).1≠o):kr v (x ++ [k]) o=kr v x o:=by simp[kr,h]
def aaf(v:List gd)(x:List Int)(o:Int):(kr v x o).length<=x.length:=by unfold kr;rw[List.length_map];exact List.length_filter_le _ _
def aij{v:List gd}{x:List Int}{o n:Int}:n∈kr v x o↔∃k∈x,gt v k=(o,n):=by
 unfold kr;rw[List.mem_map];constructor
 .rintro⟨k,a,rfl⟩;rw[aL]at a;exact⟨k,a.1,cG (by simpa using a.2) rfl⟩
 .rintro⟨k,a,e⟩;exact⟨k,aL.2 ⟨a,by simp[e]⟩,by rw[e]⟩
def Dw(v:List gd)(x:List Int)(r:gd):Prop:=
 (∃m∈kr v x 3,(∀y∈kr v x 3,m<=y)/\r=(1,m+1)) \/
 (kr v x 3 = []/\(kr v x 1).length=x.length/\∃m∈kr v x 1,(∀y∈kr v x 1,y<=m)/\r=(3,m+1)) \/
 (kr v x 3 = []/\¬(kr v x 1≠[]/\(kr v x 1).length=x.length)/\r=(2,0))
def dL(l:List Int)(n:Nat):D:=if l = []then .gg else .fZ n (l.length-1) 1 0 l.length
def rL(l:List Int):U:=if l = []then []else [.row 3 (l.length-1) (cl f1 l)]
def HL(a b:List Int):U:=.row 86 0 [.i 0,.i 0]::(rL a++rL b)
def f56(v:List gd)(x:List Int)(s:∀k∈x,0<=k/\k<v.length)(N:x.length<=4000000000)(z:∀k:Int,0<=k->k<v.length->0<=(gt v k).2/\(gt v k).2<=4000):Wf T 89 [iw v,dN 1 f1 x] [] (Ey (λr:gd=>.agg [.i r.1,.i r.2]) λr=>Dw v x r):=by
 have E:∀o,kr v [] o = []:=λ_=>rfl;have I:∀n,dL [] n = .gg:=λ_=>rfl;refine Yg Ml ?_;simp[Ml];refine gf ?_;refine gp.e (0:Int) (λy=>[(0,iw v),(1,dN 1 f1 x),(4,.ptr 0 0 0),(5,dL (kr v (x.take y.toNat) 3) 1),(6,dL (kr v (x.take y.toNat) 1) (if kr v (x.take y.toNat) 3 = []then 1 else 2)),(9,dN 1 f1 x),(10,.i x.length),(11,.i y)]) (λy=>HL (kr v (x.take y.toNat) 3) (kr v (x.take y.toNat) 1)) (λy=>0<=y/\y<=x.length) (λy=>(x.length-y).toNat) ?_ ?_ (by simp[E,I]) (by simp[E,HL,rL])
 .simp
 rintro i ⟨i0,L⟩;have J:=aaf v (x.take i.toNat) 3;have F:=aaf v (x.take i.toNat) 1;rw[aJ]at J F
 by_cases hi:i<x.length
 .have B:=s _ (gA i0 hi)
  have m:(x.take (i+1).toNat)=x.take i.toNat ++ [gt x i]:=by rw[show(i+1).toNat=i.toNat+1 by omega,cU,List.getElem?_eq_getElem (by omega),c9,<-iZ i0 hi]
  have O:=M8 (v:=v) (n:=gt x i) (by omega);simp[hi];generalize gt x i=k at *;generalize D:kr v (x.take i.toNat) 3=a at *;generalize C:kr v (x.take i.toNat) 1=b at *;have K:=z k B.1 B.2;have q3:(gt v k).1=3->kr v (x.take (i+1).toNat) 3=a ++ [(gt v k).2]:=λh=>by rw[m,aai h,D]
  have j:(gt v k).1≠3->kr v (x.take (i+1).toNat) 3=a:=λh=>by rw[m,aah h,D]
  have q1:(gt v k).1=1->kr v (x.take (i+1).toNat) 1=b ++ [(gt v k).2]:=λh=>by rw[m,aai h,C]
  have l:(gt v k).1≠1->kr v (x.take (i+1).toNat) 1=b:=λh=>by rw[m,aah h,C]
  have w:a = []\/0<a.length:=by cases a<;>simp
  have u:b = []\/0<b.length:=by cases b<;>simp
  have gF:((x.length:Int)-(i+1)).toNat<((x.length:Int)-i).toNat/\0<=i+1/\i+1<=x.length:=by omega
  by_cases c:a = []<;>by_cases d:b = []
  all_goals
   first|have w:=w.resolve_left c|skip
   first|have u:=u.resolve_left d|skip
   (with_reducible repeat' first|refine Xk ?_<;>try simp[c,d,dL,rL,HL]|refine Xs ?_ ?_<;>intro h<;>(try intro H)<;>(try simp[h,c,d,dL,rL,HL])<;>try omega|refine Xg ?_|omega)
  all_goals
   first
    | (have f:=q3 ‹_›;have g:=l (by omega);refine LJ.i (i+1) (by simp[f,g,dL,c,d]<;>omega) (by simp[f,g,HL,rL,c,d,iM]<;>omega) rfl rfl gF)
    | (have f:=j ‹_›;have g:=q1 ‹_›;refine LJ.i (i+1) (by simp[f,g,dL,c,d]<;>omega) (by simp[f,g,HL,rL,c,d,iM]<;>omega) rfl rfl gF)
    | (have f:=j (by assumption);have g:=l (by assumption);refine LJ.i (i+1) (by simp[f,g,dL,c,d]) (by simp[f,g,HL,rL,c,d]) rfl rfl gF)
 .rw[af (by omega)]at *;simp[hi]
  by_cases c:kr v x 3 = []<;>by_cases d:kr v x 1 = []
  all_goals
   simp[c,d,dL,rL,HL];(with_reducible repeat' first|refine Xk ?_<;>try simp[c,d,dL,rL,HL]|refine Xs ?_ ?_<;>intro h<;>(try intro H)<;>(try simp[h,c,d,dL,rL,HL])<;>try omega|refine Xg ?_|omega)
  all_goals
   first
    | exact Ey.i (2,0) rfl rfl (.inr (.inr ⟨c,λ⟨h1,G⟩=>by omega,rfl⟩))
    | exact Ey.i (2,0) rfl rfl (.inr (.inr ⟨c,λ⟨h1,G⟩=>h1 d,rfl⟩))
    | exact absurd (aw.2 c) ‹_›
    | exact absurd (aw.2 d) ‹_›
    | skip
  all_goals
   refine gx.s (by simp[c,d];rfl) ?_
  all_goals
   first
    | refine gx.rq rfl rfl (f102 (kr v x 3) (by omega) (by omega)) (by simp) (λ_=>by simp[flat]) (λ_=>by simp) ?_
    | refine gx.rq rfl rfl (f103 (kr v x 1) (by omega) (by omega)) (by simp) (λ_=>by simp[flat]) (λ_=>by simp) ?_
  all_goals
   rintro r ⟨p,t⟩
   have M:0<=r/\r<=4000:=by obtain⟨q,A,e⟩:=aij.1 p;have:=z q (s q A).1 (s q A).2;rwa [e]at this
   simp[c,d];refine kJ c d ?_
  all_goals
   first
    | exact Ey.i (1,r+1) rfl rfl (.inl ⟨r,p,t,rfl⟩)
    | exact Ey.i (3,r+1) rfl rfl (.inr (.inl ⟨c,by omega,r,p,t,rfl⟩))
def aag(v:List gd)(x:List Int)(o:Int):kr v x o=jy (x.map λk=>gt v k) o:=by unfold kr jy;rw[List.filter_map,cd];rfl
def Dw.mk{v:List gd}{x:List Int}{r:gd}(h:Dw v x r):r=nM (x.map λk=>gt v k):=by
 unfold nM;rw[<-aag,<-aag,List.length_map];rcases h with⟨m,c,g,rfl⟩|⟨f,h1,m,c,i,rfl⟩|⟨f,h1,rfl⟩
 .have d:kr v x 3≠[]:=λe=>by rw[e]at c;cases c
  have a:=Cz c;have b:=g _ (AG d);rw[if_pos d,show tv (kr v x 3)=m by omega]
 .have d:kr v x 1≠[]:=λe=>by rw[e]at c;cases c
  have a:=OU c;have b:=i _ (O3 d)
  have j:(x.map λk=>gt v k)≠[]:=λe=>by have l:=List.map_eq_nil_iff.1 e;subst l;exact d rfl
  rw[if_neg (λh=>h f),if_pos ⟨j,h1⟩,show yS (kr v x 1)=m by omega]
 .rw[if_neg (λh=>h f),if_neg];rintro⟨a,b⟩;refine h1 ⟨λe=>a ?_,b⟩;rw[e]at b;rw[bg b.symm];rfl
def Dw.iff{A:lG}{v:List gd}{i:Int}{r:gd}(h0:∀k∈gt A.nx i,0<=(gt v k).2)(b:A.ov i=false)(a:Dw v (gt A.nx i) r):ke A v i↔gt v i=r:=by rw[a.mk];exact aib h0 b
def gx.w{T:iD}{f:FuncId}{args:List D}{dst:Option Nat}{s s':St}{K:St->Prop}(hs:s=s')(h:gx T f args dst s' K .mk):gx T f args dst s K .mk:=by subst hs;exact h
def aay{l:List gd}{x:gd}{o:Int}(h:x.1=o):jy (l ++ [x]) o=jy l o ++ [x.2]:=by simp[jy,h]
def aax{l:List gd}{x:gd}{o:Int}(h:x.1≠o):jy (l ++ [x]) o=jy l o:=by simp[jy,h]
@[simp] theorem aw8(o:Int):jy [] o = []:=rfl
theorem aaw(l:List gd)(o:Int):(jy l o).length<=l.length:=by unfold jy;rw[List.length_map];exact List.length_filter_le _ _
def apr{α:Type}[Inhabited α]{l:List α}{i:Int}(i0:0<=i)(a:i<l.length):l.take (i+1).toNat=l.take i.toNat ++ [gt l i]:=by rw[show(i+1).toNat=i.toNat+1 by omega,cU,List.getElem?_eq_getElem (by omega),c9,<-iZ i0 a]
def ae7(l:List gd)(h0:0<l.length)(N:l.length<=4000000000)(J:∀x∈l,0<=x.2/\x.2<=4000):Wf T 135 [iw l] [] (Is (.agg [.i (nM l).1,.i (nM l).2])):=by
 refine Yg Ki ?_;simp[Ki];refine gp.e ((0,0,0):Int×Nat×Nat) (λy=>[(0,iw l),(2,.ptr 0 0 0),(3,.fZ 1 y.2.1 1 0 (jy (l.take y.1.toNat) 3).length),(4,.fZ 2 y.2.2 1 0 (jy (l.take y.1.toNat) 1).length),(9,iw l),(10,.i l.length),(11,.i y.1)]) (λy=>[.row 86 0 [.i 0,.i 0],.row 3 y.2.1 (cl f1 (jy (l.take y.1.toNat) 3)),.row 3 y.2.2 (cl f1 (jy (l.take y.1.toNat) 1))]) (λy=>0<=y.1/\y.1<=l.length) (λy=>(l.length-y.1).toNat) ?_ ?_
 .simp
 rintro⟨i,q,p⟩ ⟨i0,H⟩;dsimp only at i0 H ⊢;have u:=aaw (l.take i.toNat) 3;have k:=aaw (l.take i.toNat) 1;rw[aJ]at u k
 by_cases hi:i<l.length
 .have e:=apr (l:=l) i0 hi;have w:(gt l i).1=3->jy (l.take (i+1).toNat) 3=jy (l.take i.toNat) 3 ++ [(gt l i).2]:=λh=>by rw[e,aay h]
  have s:(gt l i).1≠3->jy (l.take (i+1).toNat) 3=jy (l.take i.toNat) 3:=λh=>by rw[e,aax h]
  have z:(gt l i).1=1->jy (l.take (i+1).toNat) 1=jy (l.take i.toNat) 1 ++ [(gt l i).2]:=λh=>by rw[e,aay h]
  have t:(gt l i).1≠1->jy (l.take (i+1).toNat) 1=jy (l.take i.toNat) 1:=λh=>by rw[e,aax h]
  obtain⟨A,n⟩:∃A,jy (l.take i.toNat) 3=A:=⟨_,rfl⟩;obtain⟨B,m⟩:∃B,jy (l.take i.toNat) 1=B:=⟨_,rfl⟩;rw[n]at u w s ⊢;rw[m]at k z t ⊢;have gF:((l.length:Int)-(i+1)).toNat<((l.length:Int)-i).toNat/\0<=i+1/\i+1<=l.length:=by omega
  simp[hi];(with_reducible repeat' first|refine Xk ?_<;>try simp|refine Xs ?_ ?_<;>intro h<;>(try intro O)<;>(try simp[h])<;>try omega|refine Xg ?_|omega)
  .have b:=w ‹_›;have c:=t (by omega);refine LJ.i (i+1,q+1,p) (by simp[b,c]) (by simp[b,c]) rfl rfl gF
  .have b:=s (by omega);have c:=z ‹_›;refine LJ.i (i+1,q,p+1) (by simp[b,c]) (by simp[b,c]) rfl rfl gF
  .have b:=s (by assumption);have c:=t (by assumption);refine LJ.i (i+1,q,p) (by simp[b,c]) (by simp[b,c]) rfl rfl gF
 .have G:i=l.length:=by omega
  subst G;rw[af (by omega)]at *;obtain⟨r,a⟩:∃r,nM l=r:=⟨_,rfl⟩;have v:∀o,∀y∈jy l o,0<=y/\y<=4000:=λo y I=>by have:=J _ (tu.1 I);exact this
  rw[a];unfold nM at a;obtain⟨A,n⟩:∃A,jy l 3=A:=⟨_,rfl⟩;obtain⟨B,m⟩:∃B,jy l 1=B:=⟨_,rfl⟩;have D:=v 3;have C:=v 1;rw[n]at u a D ⊢;rw[m]at k a C ⊢;have E:l≠[]:=aw.1 h0;simp[hi]
  by_cases f:A = []
  .rw[if_neg (λh=>h f)]at a;subst f
   by_cases g:B.length=l.length
   .rw[if_pos ⟨E,g⟩]at a;subst a;simp[g];refine gf ?_;refine gx.w (by simp;rfl) ?_;refine gx.rq rfl rfl (f103 B (by omega) (by omega)) (by simp[g]) (λ_=>by simp[flat]) (λ_=>by simp) ?_;rintro r ⟨d,j⟩;have L:=OU d;have K:=j _ (O3 (l:=B) λe=>by rw[e]at d;cases d);have e:r=yS B:=by omega
    have M:=C r d;subst e;simp;exact mQ
   .rw[if_neg (λh=>g h.2)]at a;subst a;simp[g];exact mQ
  .rw[if_pos f]at a;subst a;have F:0<A.length:=aw.2 f;simp[F];refine gf ?_;refine gx.w (by simp;rfl) ?_;refine gx.rq rfl rfl (f102 A (by omega) (by omega)) (by simp) (λ_=>by simp[flat]) (λ_=>by simp) ?_;rintro r ⟨d,j⟩;have L:=Cz d;have K:=j _ (AG f);have e:r=tv A:=by omega
   have M:=D r d;subst e;simp;exact mQ
end Go.Proofs.YtmehofoficaelaaGreatDoor
namespace Go.Proofs.YtmehofoficaelaaGreatDoor
open Go Go.AL Classical
set_option maxRecDepth 10000
set_option maxHeartbeats 8000000
attribute [-simp] tH
def ae2(r:gd):Wf T 121 [.agg [.i r.1,.i r.2]] [] (Is (.b (lD r))):=by
 obtain⟨a,b⟩:=r;unfold lD;dsimp only
 by_cases e:a=2
 .subst e
  by_cases c:b=0
  .subst c;refine Yg uI ?_;simp[uI]
  .refine Yg uI ?_;simp[uI,c]
 .by_cases c:a=1
  .subst c;refine Yg uI ?_;simp[uI]
  .by_cases d:a=3
   .subst d;refine Yg uI ?_;simp[uI]
   .refine Yg uI ?_;simp[uI,e,c,d]
def ae1(r:gd):Wf T 120 [.agg [.i r.1,.i r.2]] [] (Is (.b (!lD r))):=by have c:=ae2 r;obtain⟨b,a⟩:∃b,lD r=b:=⟨_,rfl⟩;rw[a]at c ⊢;refine Yg Kd ?_;simp[Kd];refine Yc (c) ?_;simp
def afi(r q:gd):Wf T 187 [.agg [.i r.1,.i r.2],.gC [.i q.1,.i q.2]] [] (Is (.b (decide (r≠q)))):=by obtain⟨a,b⟩:=r;obtain⟨x,y⟩:=q;refine Yg Kq ?_;simp[Kq]
def afj(r:gd)(n:Int):Wf T 188 [.agg [.i r.1,.i r.2],.gC [.i n]] [] (Is (.b (decide (r.1≠2/\r.2=n)))):=by
 obtain⟨a,b⟩:=r;dsimp only
 by_cases c:a=2
 .subst c;refine Yg Dh ?_;simp[Dh]
 .refine Yg Dh ?_;simp[Dh,c]
@[simp] theorem awX(G:kd):xE (wB G []) = -1:=rfl
theorem Q4{H:U}{ck sr n:Nat}{M:Nat->kd}{ow:Nat->Nat×Nat×Nat}{P:Nat->Nat}{Q:Nat->Nat->Nat}{cells:List D}(Y:mn H ck sr n M ow P Q)(gi:ju H.length H)(E:H[ck]? = some (.row 168 0 cells))(A:cells[12]? = some (.fZ sr 0 1 0 n))
  {cm:List gK} {i:Int} (i0:0<=i) (I:i<n) (hM:M i.toNat=gN cm i) (pW:∀r∈sd cm i,lD r=true) :
  Wf T 122 [.ptr ck 0 0,.i i] H (λd H'=>d = .i (mh (sd cm i))/\H'=H):=by
 obtain⟨k,_⟩:=Y.mp i.toNat (by omega);have N:=Y.row;rw[hM]at k
 have hj:((List.range n).map λj=>D.gH (P j))[i.toNat]? = some (.gH (P i.toNat)):=by rw[au,bO (by omega)];rfl
 obtain⟨p,u⟩:∃p,P i.toNat=p:=⟨_,rfl⟩;obtain⟨q,yE⟩:∃q,Q i.toNat=q:=⟨_,rfl⟩;rw[u]at k hj;rw[yE]at k;have iL:=(ae.1 k).1;have c:∀G,(H++G)[p]? = some (.map KS (iY q 0 (gN cm i))):=λG=>by rw[ah iL,k]
 refine Yg Ke ?_;simp[Ke,E,A,N,u,k,i0,I];(with_reducible repeat' first|refine Xk ?_<;>try simp[E,A,N,u,k,i0,I]|refine Xs ?_ ?_<;>intro h<;>(try intro L)<;>(try simp[h,E,A,N,u,k,i0,I])<;>try omega|refine Xg ?_|omega);refine gp.e (([.jj (.gH p) (gN cm i).length []],[]):U×List Nat) (λy=>[(5,.i (xE (wB (gN cm i) y.2))),(14,.ptr H.length 0 0)]) (λy=>H++y.1) (λy=>y.1[0]? = some (.jj (.gH p) (gN cm i).length y.2)/\y.2.Nodup/\∀t∈y.2,t<(gN cm i).length) (λy=>(gN cm i).length-y.2.length) ?_ ?_
 .exact⟨rfl,.nil,λ_ h=>by cases h⟩
 rintro⟨G,seen⟩ ⟨K,X,O⟩;dsimp only at K X O ⊢;have B4:=(ae.1 K).1;simp;refine uJ.at (m:=p) (since:=(gN cm i).length) (seen:=seen) (kk:=KS) (es:=iY q 0 (gN cm i)) (by simp[K]) (by simp[c]) (by simp) (λF=>?_) λt kv dv J hi=>?_
 .have F:∀t,t<(gN cm i).length->t∈seen:=by simpa using F
  have Eb:=ahN F O
  have yy:xE (wB (gN cm i) seen)=mh (sd cm i):=by
   rw[aih λr hr a=>?_]
   .exact aik Eb
   .have:=pW r ((Eb r).1 hr);unfold lD at this;simp only[decide_eq_true_eq]at this;rcases this with rfl|h
    .exact absurd rfl a
    .exact h.2
  simp;refine gf ?_;simp[AD gi,yy]
 .rw[vL]at J;obtain⟨x,w,kO⟩:=ak.1 J;cases kO;have B:=Jh X O (ae.1 w).1 hi;have f:(iY q 0 (gN cm i))[t]? = some (lB x.1,oI (q t) x.2):=by rw[vL,w];simp
  have C:=ahO (seen:=seen) w;obtain⟨ks,V⟩:∃ks,wB (gN cm i) seen=ks:=⟨_,rfl⟩;rw[V]at C ⊢;obtain⟨m,Z⟩:∃m,xE ks=m:=⟨_,rfl⟩;have W:xE (wB (gN cm i) (seen ++ [t]))=wD m x.1:=by rw[C,aii,Z]
  obtain⟨o,S⟩:∃o,G.set 0 (.jj (.gH p) (gN cm i).length (seen ++ [t]))=o:=⟨_,rfl⟩;have b:o[0]? = some (.jj (.gH p) (gN cm i).length (seen ++ [t])):=by rw[<-S,aH B4]
  have e:(H++G).set H.length (.jj (.gH p) (gN cm i).length (seen ++ [t]))=H++o:=by rw[VG,S]
  have Oh:=(ae.1 b).1;have B6:∀(R:U),(o++R)[0]? = some (.jj (.gH p) (gN cm i).length (seen ++ [t])):=λR=>by rw[ah Oh];exact b
  have u0:(gN cm i).length-(seen ++ [t]).length<(gN cm i).length-seen.length:=by have:=B.2.2;rw[aj,aV]at this ⊢;omega
  have z:∀ {R:U} {v:Int},v=wD m x.1->LJ (λy:U×List Nat=>[(5,.i (xE (wB (gN cm i) y.2))),(14,.ptr H.length 0 0)]) (λy=>H++y.1) [] false (λs=>(gN cm i).length-s.2.length<(gN cm i).length-seen.length/\s.1[0]? = some (.jj (.gH p) (gN cm i).length s.2)/\s.2.Nodup/\∀t∈s.2,t<(gN cm i).length) .mk [(5,.i v),(14,.ptr H.length 0 0)] (H++(o++R)) [] false:=λ{R v} hv=>by subst hv;exact LJ.i (o++R,seen ++ [t]) (by simp[W]) rfl rfl rfl ⟨u0,B6 _,B.1,B.2.1⟩
  rw[e,Z];obtain⟨⟨r1,r2⟩,ls⟩:=x;dsimp only at *;clear S e C W V J w
  by_cases a:r1=2
  .subst a;simp[c,f,b];refine qy c f b ?_;refine z ?_;simp[wD]
  .by_cases g:m<0
   .simp[c,f,b,a,g];(with_reducible repeat' first|refine Xk ?_<;>try simp[c,f,b,a,g]|refine Xs ?_ ?_<;>intro h<;>(try intro L)<;>(try simp[h,c,f,b,a,g])<;>try omega|refine Xg ?_|omega);refine z ?_;simp[wD,a,g]
   .by_cases l:r2<m
    .simp[c,f,b,a,g,l];(with_reducible repeat' first|refine Xk ?_<;>try simp[c,f,b,a,g,l]|refine Xs ?_ ?_<;>intro h<;>(try intro L)<;>(try simp[h,c,f,b,a,g,l])<;>try omega|refine Xg ?_|omega);refine z ?_;simp[wD,a,l]
    .simp[c,f,b,a,g,l];(with_reducible repeat' first|refine Xk ?_<;>try simp[c,f,b,a,g,l]|refine Xs ?_ ?_<;>intro h<;>(try intro L)<;>(try simp[h,c,f,b,a,g,l])<;>try omega|refine Xg ?_|omega);refine z ?_;simp[wD,a,g,l]
end Go.Proofs.YtmehofoficaelaaGreatDoor
namespace Go.Proofs.YtmehofoficaelaaGreatDoor
open Go Go.AL Classical
def ZU(a b:Int):AL.keyOf (.agg [.i a,.i b])=some (lB (a,b)):=rfl
def Yy(r:gd):KS.has (lB r)=true:=rfl
def aeu(Q:Nat->Nat){G:kd}{i t:Nat}{k:Value}{d:D}(h:(iY Q i G)[t]? = some (k,d)):(iY Q i G).set t (k,d)=iY Q i G:=by obtain⟨h1,a⟩:=ae.1 h;rw[<-a,eG]
def ais{H:U}{v t:Nat}{q:Nat->Nat}{G:kd}{r:gd}{x:List Int}(c:H[v]? = some (.map KS (iY q 0 G)))(b:od r G=some (t,x)) :
  yQ KS .gg (.gH v) (.agg [.i r.1,.i r.2]) H=some (.tup [oI (q t) x,.i t],.obj v (.map KS (iY q 0 G))):=by
 have h1:=TB q r G 0 0;rw[b]at h1;simp only[aF,aR]at h1;have a:=TE q r (oI (q t) x) G 0;rw[b]at a
 have d:(iY q 0 G)[t]? = some (lB r,oI (q t) x):=by rw[vL,(zT (k:=0) b).1];simp
 dsimp only at a;rw[aeu q d]at a;unfold yQ;rw[ZU];simp only[Tw,c,mapOf];rw[if_pos ⟨trivial,Yy _⟩,h1];dsimp only;rw[a]
def air{H:U}{v:Nat}{q:Nat->Nat}{G:kd}{r:gd}(c:H[v]? = some (.map KS (iY q 0 G)))(b:od r G=none) :
  yQ KS .gg (.gH v) (.agg [.i r.1,.i r.2]) H=some (.tup [.gg,.i G.length],.obj v (.map KS (iY q 0 G ++ [(lB r,.gg)]))):=by
 have h1:=TB q r G 0 0;rw[b]at h1;simp only[Option.map_none]at h1;have a:=TE q r .gg G 0;rw[b]at a;dsimp only at a;unfold yQ;rw[ZU];simp only[Tw,c,mapOf];rw[if_pos ⟨trivial,Yy _⟩,h1];dsimp only;rw[a,Br]
def WL{H:U}{v t:Nat}{es:List (Value×D)}{k:Value}{d0 d:D}(a:H[v]? = some (.map KS es))(b:es[t]? = some (k,d0)) :
  Bn (.gH v) (.i t) d H=some (.any,.obj v (.map KS (es.set t (k,d)))):=by
 unfold Bn;simp only[Tw,a,mapOf,bB,b];rw[if_pos (by omega)]
def wJ{n m:Nat}(h:n<=m){d:D}(a:nk n d=true):nk m d=true:=by cases d<;>first|exact a|(simp only[nk,decide_eq_true_eq]at a ⊢;omega)
def Gb{n m:Nat}(h:n<=m){cs:List D}(b:cs.all (nk n)=true):cs.all (nk m)=true:=
 List.all_eq_true.2 λd a=>wJ h (List.all_eq_true.1 b d a)
def Fi{n m:Nat}(h:n<=m){d:D}(c:jv n d=true):jv m d=true:=by
 cases d with
 | agg cs=>exact Gb h c
 | tup cs=>exact Gb h c
 | gC cs=>exact Gb h c
 | fn f a b=>
  simp only[jv,Bool.and_eq_true]at c ⊢;exact⟨Gb h c.1,Gb h c.2⟩
 | any=>exact wJ (n:=n) (d:=.any) h c
 | val v=>exact wJ (n:=n) (d:=.val v) h c
 | sl sz es=>exact wJ (n:=n) (d:=.sl sz es) h c
 | fZ v g sz off len=>exact wJ (n:=n) (d:=.fZ v g sz off len) h c
 | gg=>exact wJ (n:=n) (d:=.gg) h c
 | ptr v g off=>exact wJ (n:=n) (d:=.ptr v g off) h c
 | gH v=>exact wJ (n:=n) (d:=.gH v) h c
 | ja v=>exact wJ (n:=n) (d:=.ja v) h c
 | l9 vs=>exact wJ (n:=n) (d:=.l9 vs) h c
def aaH{n m:Nat}(h:n<=m){o:Ob}(a:nj n o=true):nj m o=true:=by
 cases o with
 | row t g cs=>exact List.all_eq_true.2 λd b=>Fi h (List.all_eq_true.1 a d b)
 | map kk es=>exact List.all_eq_true.2 λd b=>Fi h (List.all_eq_true.1 a d b)
 | im rf env st=>exact List.all_eq_true.2 λd b=>Fi h (List.all_eq_true.1 a d b)
 | sO=>rfl
 | jj m since seen=>exact wJ h a
 | jE=>rfl
 | dead=>rfl
 | lY=>cases a
def xG{n m:Nat}{H:U}(h:n<=m)(b:ju n H):ju m H:=λo a=>aaH h (b o a)
def uw{n:Nat}{H G:U}(h:ju n H)(b:ju n G):ju n (H++G):=λo a=>by
 rcases List.mem_append.1 a with a|a
 .exact h o a
 .exact b o a
end Go.Proofs.YtmehofoficaelaaGreatDoor
namespace Go.Proofs.YtmehofoficaelaaGreatDoor
open Go Go.AL Classical
def oset(ow:Nat->Nat×Nat×Nat)(v:Nat)(a:Nat×Nat×Nat):Nat->Nat×Nat×Nat:=λw=>if w=v then a else ow w
def aaW(ow:Nat->Nat×Nat×Nat)(v:Nat)(a:Nat×Nat×Nat):oset ow v a v=a:=if_pos rfl
def CJ{ow:Nat->Nat×Nat×Nat}{v w:Nat}{a:Nat×Nat×Nat}(h:w≠v):oset ow v a w=ow w:=if_neg h
def js{H:U}{v:Nat}{o:Ob}(h:H[v]? = some o):v<H.length:=(ae.1 h).1
def iy{H G:U}{v:Nat}{o:Ob}(h:H[v]? = some o):(H++G)[v]? = some o:=by rw[ah (js h)];exact h
def mn.own{H:U}{ck sr n:Nat}{M:Nat->kd}{ow:Nat->Nat×Nat×Nat}{P:Nat->Nat}{Q:Nat->Nat->Nat}(h:mn H ck sr n M ow P Q){v:Nat}(g:H.length<=v)(f:ck<v)(a:Nat×Nat×Nat):mn H ck sr n M (oset ow v a) P Q:=by
 have ne:∀ {w o},H[w]? = some o->w≠v:=λe=>by have:=js e;omega
 refine⟨?_,?_,h.row,λj b=>?_,λj b t x d=>?_⟩
 .rw[CJ (by omega)];exact h.fc
 .rw[CJ (ne h.row)];exact h.fs
 .obtain⟨h1,c⟩:=h.mp j b;exact⟨h1,by rw[CJ (ne h1)];exact c⟩
 .obtain⟨h1,c⟩:=h.ls j b t x d;exact⟨h1,by rw[CJ (ne h1)];exact c⟩
def acx(Hc:U)(ow:Nat->Nat×Nat×Nat)(bad:List Int)(d:D):Prop:=
 (bad = []/\d = .gg)\/(bad≠[]/\∃v g,d = .fZ v g 1 0 bad.length/\Hc[v]? = some (.row 3 g (cl f1 bad))/\ow v=(4,0,0))
structure HI(H0 Hc:U)(ck sr n:Nat)(C:Ob)(M:Nat->kd)(bad:List Int)(d:D)(b:Option (Nat×Ob))(ow:Nat->Nat×Nat×Nat)(P:Nat->Nat)(Q:Nat->Nat->Nat):Prop where
 sg:mn Hc ck sr n M ow P Q
 ct:Hc[ck]? = some C
 ok:ju Hc.length Hc
 lt:ck<H0.length
 kp:∀v o,H0[v]? = some o->v≠ck->Hc[v]? = some o/\ow v=(5,0,0)
 bd:acx Hc ow bad d
 bx:∀p,b=some p->Hc[p.1]? = some p.2/\ow p.1=(6,0,0)
section
variable{H0 Hc:U}{ck sr n:Nat}{C:Ob}{M:Nat->kd}{bad:List Int}{d:D}{b:Option (Nat×Ob)}{ow:Nat->Nat×Nat×Nat}{P:Nat->Nat}{Q:Nat->Nat->Nat}
theorem HI.more(h:HI H0 Hc ck sr n C M bad d b ow P Q){o:Ob}(l:nj (Hc.length+1) o=true)(a:Nat×Nat×Nat):HI H0 (Hc ++ [o]) ck sr n C M bad d b (oset ow Hc.length a) P Q:=by
 have ne:∀ {w o},Hc[w]? = some o->w≠Hc.length:=λj=>by have:=js j;omega
 refine⟨(h.sg.own (Nat.le_refl _) (js h.ct) a).mono λv o e _=>iy e,iy h.ct,?_,h.lt,λv o e m=>?_,?_,λp k=>?_⟩
 .rw[aj,aV];refine uw (xG (by omega) h.ok) λx i=>?_;rw[List.mem_singleton.1 i];exact l
 .obtain⟨h1,c⟩:=h.kp v o e m;exact⟨iy h1,by rw[CJ (ne h1)];exact c⟩
 .rcases h.bd with h1|⟨h1,v,g,c,f,q⟩
  .exact .inl h1
  .exact .inr ⟨h1,v,g,c,iy f,by rw[CJ (ne f)];exact q⟩
 .obtain⟨h1,c⟩:=h.bx p k;exact⟨iy h1,by rw[CJ (ne h1)];exact c⟩
theorem HI.box(h:HI H0 Hc ck sr n C M bad d b ow P Q){o:Ob}(c:nj (Hc.length+1) o=true):HI H0 (Hc ++ [o]) ck sr n C M bad d (some (Hc.length,o)) (oset ow Hc.length (6,0,0)) P Q:=by
 have h1:=h.more c (6,0,0)
 exact⟨h1.sg,h1.ct,h1.ok,h1.lt,h1.kp,h1.bd,λp a=>by
  cases a
  exact⟨by rw[ai (by omega),b6];rfl,aaW _ _ _⟩⟩
theorem HI.nob(h:HI H0 Hc ck sr n C M bad d b ow P Q):HI H0 Hc ck sr n C M bad d none ow P Q:=⟨h.sg,h.ct,h.ok,h.lt,h.kp,h.bd,λ_ a=>by cases a⟩
theorem HI.VI(h:HI H0 Hc ck sr n C M [] .gg b ow P Q)(k:Int):∃a,HI H0 (Hc ++ [rz [k]]) ck sr n C M [k] (.fZ Hc.length 0 1 0 1) b a P Q:=by have h1:=h.more (o:=rz [k]) (by unfold rz;exact yX _) (4,0,0);exact⟨_,h1.sg,h1.ct,h1.ok,h1.lt,h1.kp,.inr ⟨by simp,_,_,rfl,by rw[ai (by omega),b6];rfl,aaW _ _ _⟩,h1.bx⟩
theorem HI.VJ{v g:Nat}{k:Int}(h:HI H0 Hc ck sr n C M bad (.fZ v g 1 0 bad.length) b ow P Q)(r:bad≠[])(f:Hc[v]? = some (.row 3 g (cl f1 bad)))(l:ow v=(4,0,0)) :
  HI H0 (Hc.set v (.row 3 (g+1) (cl f1 (bad ++ [k])))) ck sr n C M (bad ++ [k]) (.fZ v (g+1) 1 0 (bad.length+1)) b ow P Q:=by
 have hl:=js f;have key:∀w o,Hc[w]? = some o->ow w≠(4,0,0)->(Hc.set v (.row 3 (g+1) (cl f1 (bad ++ [k]))))[w]? = some o:=λw o d q=>by grind
 refine⟨?_,key _ _ h.ct (by rw[h.sg.fc];simp),?_,h.lt,λw o d m=>?_,.inr ⟨by simp,v,g+1,by simp,by rw[aH hl],l⟩,λp i=>?_⟩
 .refine⟨h.sg.fc,h.sg.fs,key _ _ h.sg.row (by rw[h.sg.fs];simp),λj c=>?_,λj c t x e=>?_⟩
  .obtain⟨h1,a⟩:=h.sg.mp j c;exact⟨key _ _ h1 (by rw[a];simp),a⟩
  .obtain⟨h1,a⟩:=h.sg.ls j c t x e;exact⟨key _ _ h1 (by rw[a];simp),a⟩
 .rw[ar];exact pZ h.ok (yX _)
 .obtain⟨h1,a⟩:=h.kp w o d m;exact⟨key _ _ h1 (by rw[a];simp),a⟩
 .obtain⟨h1,a⟩:=h.bx p i;exact⟨key _ _ h1 (by rw[a];simp),a⟩
theorem HI.rest{f:U}{k:Nat->kd}{j:Nat->Nat×Nat×Nat}{Q':Nat->Nat->Nat}(h:HI H0 Hc ck sr n C M bad d b ow P Q)(hs:mn f ck sr n k j P Q')(gi:ju f.length f)
  (i:∀v o,Hc[v]? = some o->ow v=(0,0,0)\/ow v=(4,0,0)\/ow v=(5,0,0)\/ow v=(6,0,0)->f[v]? = some o/\j v=ow v):HI H0 f ck sr n C k bad d b j P Q':=by
 refine⟨hs,(i _ _ h.ct (.inl h.sg.fc)).1,gi,h.lt,λw o l q=>?_,?_,λp m=>?_⟩
 .obtain⟨h1,a⟩:=h.kp w o l q;obtain⟨e,c⟩:=i _ _ h1 (.inr (.inr (.inl a)));exact⟨e,c.trans a⟩
 .rcases h.bd with h1|⟨h1,v,g,a,e,c⟩
  .exact .inl h1
  .obtain⟨s,r⟩:=i _ _ e (.inr (.inl c));exact .inr ⟨h1,v,g,a,s,r.trans c⟩
 .obtain⟨h1,a⟩:=h.bx p m;obtain⟨e,c⟩:=i _ _ h1 (.inr (.inr (.inr a)));exact⟨e,c.trans a⟩
theorem HI.old(h:HI H0 Hc ck sr n C M bad d b ow P Q){j t:Nat}{r:gd}{x:List Int}{k:Int}(f:j<n)(i:od r (M j)=some (t,x)) :
  HI H0 ((Hc.set (Q j t) (rz (x ++ [k]))).set (P j) (.map KS ((iY (Q j) 0 (M j)).set t (lB r,oI (Q j t) (x ++ [k]))))) ck sr n C (wM M j (oc r k (M j))) bad d b ow P Q:=by
 obtain⟨q,_⟩:=zT (k:=k) i;obtain⟨m,g⟩:=h.sg.mp j f;obtain⟨q1,q2⟩:=h.sg.ls j f t _ q;have s:P j≠Q j t:=λe=>by rw[e,q2]at g;simp at g
 have key:∀v o,Hc[v]? = some o->v≠P j->v≠Q j t->((Hc.set (Q j t) (rz (x ++ [k]))).set (P j) (.map KS ((iY (Q j) 0 (M j)).set t (lB r,oI (Q j t) (x ++ [k])))))[v]? = some o:=λv o a h1 l=>by grind
 refine h.rest (h.sg.old f i ?_ ?_ λv o a h1 l _=>key v o a h1 l) ?_ λv o a u=>⟨key v o a (λe=>?_) (λe=>?_),rfl⟩
 .grind
 .grind
 .rw[ar,ar];refine pZ (pZ h.ok (by unfold rz;exact yX _)) ?_;have p:=h.ok _ (List.mem_of_getElem? m);refine List.all_eq_true.2 λy c=>?_;rcases dO c with c|rfl
  .exact List.all_eq_true.1 p y c
  .show decide (Q j t<Hc.length)=true;exact decide_eq_true (js q1)
 .grind
 .grind
theorem HI.new(h:HI H0 Hc ck sr n C M bad d b ow P Q){j:Nat}{r:gd}{k:Int}(l:j<n)(p:od r (M j)=none) :
  ∃c Q',HI H0 ((Hc.set (P j) (.map KS (iY (Q j) 0 (M j) ++ [(lB r,oI Hc.length [k])]))) ++ [rz [k]]) ck sr n C (wM M j (oc r k (M j))) bad d b c P Q'/\∀w,w<Hc.length->c w=ow w:=by
 obtain⟨g,s⟩:=h.sg.mp j l;have key:∀v o,Hc[v]? = some o->v≠P j->((Hc.set (P j) (.map KS (iY (Q j) 0 (M j) ++ [(lB r,oI Hc.length [k])]))) ++ [rz [k]])[v]? = some o:=λv o i h1=>by grind
 obtain⟨c,Q',hs,f⟩:=h.sg.new (H':=(Hc.set (P j) (.map KS (iY (Q j) 0 (M j) ++ [(lB r,oI Hc.length [k])]))) ++ [rz [k]]) (v:=Hc.length) (k:=k) l p (js h.ct) (Nat.le_refl _)
  (by rw[ah (by rw[ar];exact js g),aH (js g)]) (by rw[ai (by rw[ar];omega),ar,b6];rfl) λw o f h1 _=>key w o f h1
 refine⟨c,Q',h.rest hs ?_ λv o i t=>⟨key v o i λe=>?_,f v (by have:=js i;omega)⟩,λw hl=>f w (by omega)⟩
 .rw[aj,ar,aV];refine uw (pZ (xG (by omega) h.ok) ?_) λx m=>?_
  .have q:=h.ok _ (List.mem_of_getElem? g);refine List.all_eq_true.2 λy a=>?_;rcases List.mem_append.1 a with a|a
   .exact Fi (by omega) (List.all_eq_true.1 q y a)
   .rw[List.mem_singleton.1 a];show decide (Hc.length<Hc.length+1)=true;exact decide_eq_true (by omega)
  .rw[List.mem_singleton.1 m];unfold rz;exact yX _
 .grind
end
def pE(b n k:Nat):List D:=(List.range n).map λj=>if j<k then D.gH (b+(j+1))else .val (.map none)
def aos(b n:Nat):pE b n 0=List.replicate n (.val (.map none)):=by unfold pE;refine bt (by simp) λi h1 a=>by simp
def aby(b n k:Nat):(pE b n k).length=n:=by simp[pE]
def aot(b n:Nat):pE b n n=(List.range n).map λj=>D.gH (b+(j+1)):=by unfold pE;refine aq λj a=>?_;rw[a8]at a;rw[if_pos a]
def aou{b n k:Nat}(h:k<n):(pE b n k).take k ++ .gH (b+(k+1))::(pE b n k).drop (k+1)=pE b n (k+1):=by
 refine bQ λi=>?_;have hl:((pE b n k).take k).length=k:=by rw[aJ,aby];omega
 by_cases h1:i<k
 .rw[ah (by omega),List.getElem?_take_of_lt h1];unfold pE;rw[au,au,bO (by omega)];simp only[aF];rw[if_pos h1,if_pos (by omega)]
 .rw[ai (by omega),hl]
  by_cases a:i=k
  .subst a;rw[b6,fF];unfold pE;rw[au,bO h];simp only[aF];rw[if_pos (by omega)]
  .rw[show i-k=(i-k-1)+1 by omega,cV,aI,show k+1+(i-k-1)=i by omega];unfold pE;rw[au,au]
   by_cases c:i<n
   .grind
   .grind
def HI.start{H:U}{ck n:Nat}{o C:Ob}(gi:ju H.length H)(e:H[ck]? = some o)(g:nj (H.length+1) C=true) :
  ∃ow P Q,HI H (H.set ck C++(.row 170 0 (pE H.length n n)::List.replicate n (.map KS []))) ck H.length n C (λ_=>[]) [] .gg none ow P Q:=by
 have hl:=js e;have h:∀j,j<n->(H.set ck C++(.row 170 0 (pE H.length n n)::List.replicate n (.map KS [])))[H.length+(j+1)]? = some (.map KS []):=λj a=>by grind
 refine⟨λv=>if v=ck then(0,0,0)else if v<H.length then(5,0,0)else if v=H.length then(1,0,0)else(2,v-H.length-1,0),λj=>H.length+(j+1),λ_ _=>0,⟨?_,?_,?_,λj a=>?_,λj a t x b=>?_⟩,?_,?_,hl,λv x i k=>⟨?_,?_⟩,.inl ⟨rfl,rfl⟩,λp f=>by cases f⟩
 .grind
 .grind
 .rw[ai (by rw[ar];omega),ar,b6,fF,aot]
 .refine⟨h j a,?_⟩;rw[if_neg (by omega),if_neg (by omega),if_neg (by omega)];congr 2;omega
 .cases b
 .grind
 .rw[aj,ar,aC,eJ];refine uw (pZ (xG (by omega) gi) (aaH (by omega) g)) λx b=>?_;rcases ao.1 b with rfl|b
  .refine List.all_eq_true.2 λd c=>?_;unfold pE at c;obtain⟨j,a,rfl⟩:=List.mem_map.1 c;rw[a8]at a;rw[if_pos a];exact decide_eq_true (by omega)
  .simp_all
 .grind
 .grind
end Go.Proofs.YtmehofoficaelaaGreatDoor
namespace Go.Proofs.YtmehofoficaelaaGreatDoor
open Go Go.AL Classical
set_option maxRecDepth 10000
set_option maxHeartbeats 16000000
def ahB{p:gK->Bool}{L:List Cw}{k:Int}(k0:0<=k)(a:k<L.length):kc p (cs L) (k+1).toNat=if p (gt L k).c=true then kc p (cs L) k.toNat ++ [k]else kc p (cs L) k.toNat:=by
 have b:gt (cs L) k=(gt L k).c:=by unfold cs;rw[iZ k0 (by rw[List.length_map];exact a),iZ k0 a,List.getElem_map]
 rw[show(k+1).toNat=k.toNat+1 by omega,kc,show((k.toNat:Nat):Int)=k by omega,b]
def vI(L:List Cw):(cs L).length=L.length:=by simp[cs]
def VH{cl:List gK}{n:Nat}(h:0<=lq cl n):lq cl n<n/\mJ (sd cl (lq cl n))=true:=by
 rcases Gf cl n with⟨h1,_⟩|⟨h1,a,_⟩
 .omega
 .exact⟨h1.2,a⟩
