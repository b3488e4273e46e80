/- 41 -/
import Derived.Test.YtmehofoficaelaaGreatDoorP40
set_option linter.all false
open List renaming all_eq_true→aE,length_map→cp,mem_of_getElem?→di,getElem?_eq_getElem→dx,replicate→eh,mem_singleton→ej,getD_eq_getElem?_getD→ep,length_filter_le→er,range→ez,length→List.l
open And renaming intro→bf
open Option renaming some→cc,none→eB
open Nat renaming le_refl→ek
open Int renaming toNat→Int.n
namespace Go.Proofs.YtmehofoficaelaaGreatDoor
open Go Go.AL Classical
set_option maxRecDepth 10000
set_option maxHeartbeats 16000000
theorem ik.s{T:jt}{f:FuncId}{args:List D}{dst:Option Nat}{s s':St}{K:St->Prop}(hs:s=s')(h:ik T f args dst s' K .mk):ik T f args dst s K .mk:=by subst hs;exact h
def f82(l:List gT)(h:0<l.l)(b:l.l<2 ^ 40):Wf T 184 [iS l] [] (λd H=>d = .gR 0 1 2 0 l.l/\H = [.row 86 1 (cl fS l)]):=by refine Yg O' ?_;simp[O'];refine oA.i (a:=.b false) (by cases l with|nil=>exact absurd h gP|cons a r=>rfl) ?_;simp;exact oS
set_option maxHeartbeats 8000000
def H0(g:gY)(n:Nat)(v:List gT)(lf:List Int):gQ:=[.row 43 0 g.cells,.row 86 0 (cl fS v),.row 51 0 [.gR 1 0 2 0 n],.row 3 0 (cl f1 lf),.row 37 0 [.gV]]
def HV(g:gY)(n:Nat)(v:List gT)(lf:List Int)(a:Nat)(L:List Int)(h:Nat):gQ:=
 [.row 43 0 g.cells,.row 86 0 (cl fS v),.row 51 0 [.gR 1 0 2 0 n],.row 3 0 (cl f1 lf),.row 37 0 [.gR 5 a 1 h (L.l-h)],.row 3 a (cl f1 L)]
def HX(g:gY)(n:Nat)(v:List gT)(lf:List Int)(b:Nat)(L:List Int)(h:Nat):gQ:=match L with
 | []=>H0 g n v lf
 | a::r=>HV g n v lf b (a::r) h
def oQ{g:gY}{n:Nat}{v:List gT}{lf L:List Int}{b h:Nat}(c:L≠[]):HX g n v lf b L h=HV g n v lf b L h:=by
 cases L with
 | nil=>exact absurd rfl c
 | cons a r=>rfl
def afz{g:gY}{n:Nat}{v:List gT}{lf L:List Int}{b h:Nat}{live:List Nat}{env:Env}(E:Env)(e:ph 5 E)(d:forget live env=E)(r:Bool) :
  cut 5 live { env:=env,H:=HX g n v lf b L h,marks:=[],iI:=r } = { env:=E,H:=HX g n v lf b L h,marks:=[],iI:=r }:=by
 cases L with
 | nil=>rw[Jq (by simp[HX,H0]),d]
 | cons a R=>
  subst d
  by_cases f:vD live=true
  .unfold cut;dsimp only;rw[if_pos (.inr f)]
  rw[pQ (by simp[HX,HV]) (by simpa using f)]
  have h1:((forget live env).map λp=>jQ 5 p.2).flatten = []:=gw.2 λx i=>by obtain⟨p,c,rfl⟩:=aj.1 i;exact(e p c).1
  have j:AP 5 (forget live env) (HX g n v lf b (a::R) h) [] = [5]:=by unfold AP;rw[h1];simp[HX,HV]
  rw[j];unfold F1
  have k:((forget live env).map λp=>(p.1,ib (iP (jx 5 [5])) (HX g n v lf b (a::R) h) 40 p.2))=forget live env:=by
   conv=>rhs;rw[<-bn (forget live env)]
   refine au λp c=>?_;rw[(e p c).2 _ _ λv l=>?_]
   .rfl
   .have:v=0\/v=1\/v=2\/v=3\/v=4:=by omega
    rcases this with rfl|rfl|rfl|rfl|rfl<;>rfl
  rw[k];simp[HX,HV,jx,gD,vG,lG]
def IK{g:gY}{n:Nat}{v:List gT}{lf L:List Int}{a h:Nat}:(HX g n v lf a L h).l=if L = []then 5 else 6:=by cases L<;>rfl
theorem ZC:∀(L:List Int) (h:Nat),h<L.l->(cl f1 L)[h]? = cc (.i (gt L (h:Int)))
 | a::r,0,_=>by rw[oG,Bw];rfl
 | a::r,h+1,hh=>by rw[oG,Bw,e9,cH,ZC r h (by simpa using hh)];rfl
def PQ{v:List gT}{n:Int}(h:n.n<v.l):(cl fS v)[n.n*2]? = cc (.i (gt v n).1):=by
 have:=Tr h;rw[z6]at this;have a:((cl fS v).drop (n.n*2))[0]? = cc (.i (gt v n).1):=by rw[this];rfl
 rwa [aD,cu]at a
def agC{v:List gT}{n:Int}(h:n.n<v.l):(cl fS v)[n.n*2+1]? = cc (.i (gt v n).2):=by
 have:=Tr h;rw[z6]at this;have a:((cl fS v).drop (n.n*2))[1]? = cc (.i (gt v n).2):=by rw[this];rfl
 rwa [aD]at a
def aq5{n k v w:Nat}{f:Fn}{env:Env}(d:v<n)(c:w<n)(h:ph n env):ph n ((k,.fn f [] [.ptr v 0 0,.ptr w 0 0])::env):=λp a=>by
 rcases ak.1 a with rfl|a
 .exact⟨rfl,λρ H b=>by rw[AL.as8];simp[b v d,b w c]⟩
 .exact h p a
theorem gZ.K{T:jt}{live:List Nat}{a:IR}{s:St}{K b:jD}(c:K=b)(h:gZ T live a s b .mk):gZ T live a s K .mk:=by subst c;exact h
def afA(g:gY)(n:Nat)(lf L:List Int)(b h:Nat):∃G:gQ,∀v,HX g n v lf b L h = .row 43 0 g.cells :: .row 86 0 (cl fS v) :: .row 51 0 [.gR 1 0 2 0 n]::G:=by
 cases L with
 | nil=>exact⟨_,λv=>rfl⟩
 | cons a r=>exact⟨_,λv=>rfl⟩
section
variable{nx:List (List Int)}
theorem Zo(i:Int):∀(r:List Int) (a:List (List Int)),(∀k∈r,0<=k/\k<a.l)->∀j:Int,0<=j->∀k:Int,(gt (rY i r a) j).count k=(gt a j).count k+if k=i then r.count j else 0
 | [],_,_,_,_,_=>by simp[rY]
 | q::r,a,h,j,b,k=>by
  have h1:=h q gP;have c:=jy (v:=gt a q ++ [i]) h1.1 h1.2;rw[rY,Zo i r _ (λj b=>by rw[c];exact h j (by simp[b])) j b k,mY h1.1 h1.2 b,List.count_cons]
  by_cases e:j=q
  .subst e;rw[if_pos rfl,dS,ec]
   by_cases e2:k=i
   .subst e2;simp;omega
   .have:¬i=k:=λe=>e2 e.symm;simp[e2,this]
  .rw[if_neg e];have:¬q=j:=λh=>e h.symm;simp[this]
theorem Zm(b:∀x∈nx,∀k∈x,0<=k/\k<nx.l):∀n:Nat,n<=nx.l->∀j:Int,0<=j->∀k:Int,0<=k->(gt (oT nx n) j).count k=if k<n then(gt nx k).count j else 0
 | 0,_,j,hj,k,k0=>by
  have:∀a∈oT nx 0,a = []:=λa c=>eF c;rw[if_neg U]
  by_cases h:j<(oT nx 0).l
  .rw[this _ (ij hj h)];simp
  .unfold gt;rw[ep,aY U];rfl
 | n+1,h,j,hj,k,k0=>by
  rw[oT,Zo n _ _ (by rw[zQ b n U];exact b _ (ij U U)) j hj k,Zm b n U j hj k k0]
  by_cases e:k=n
  .subst e;simp;omega
  .rw[if_neg e]
   by_cases e2:k<n
   .rw[if_pos e2,if_pos U];rfl
   .rw[if_neg e2,if_neg U]
theorem Zp(i:Int):∀(r:List Int) (b:List (List Int)),(∀k∈r,0<=k/\k<b.l)->∀j:Int,0<=j->∀k∈gt (rY i r b) j,k∈gt b j\/k=i
 | [],_,_,_,_,_,h=>.inl h
 | q::r,b,h,j,c,k,hk=>by
  have h1:=h q gP;have f:=jy (v:=gt b q ++ [i]) h1.1 h1.2;rw[rY]at hk;rcases Zp i r _ (λj c=>by rw[f];exact h j (by simp[c])) j c k hk with a|a
  .rw[mY h1.1 h1.2 c]at a;split at a
   .rename_i e;rw[e];rcases ai.1 a with d|d
    .exact .inl d
    .exact .inr (ej.1 d)
   .exact .inl a
  .exact .inr a
theorem Zn(b:∀x∈nx,∀k∈x,0<=k/\k<nx.l):∀n:Nat,n<=nx.l->∀j:Int,0<=j->∀k∈gt (oT nx n) j,0<=k/\k<n
 | 0,_,j,hj,k,hm=>by
  have:∀a∈oT nx 0,a = []:=λa c=>eF c
  by_cases h:j<(oT nx 0).l
  .rw[this _ (ij hj h)]at hm;cases hm
  .unfold gt at hm;rw[ep,aY U]at hm;cases hm
 | n+1,h,j,hj,k,hm=>by
  rw[oT]at hm;rcases Zp n _ _ (by rw[zQ b n U];exact b _ (ij U U)) j hj k hm with h1|h1
  .have:=Zn b n U j hj k h1;omega
  .omega
end
def f29(g:gY)(hg:iE g)(l:List Pos)(E:qq g l)(h0:0<l.l):Wf T 16 [dG g,iZ l] [] (Ey (λv=>.tup [iS v,.i 0]) λv=>v.l=l.l/\∀k:Int,0<=k->k<l.l->kE (jR g l (iq g l)) v k):=by
 have c7:=E.len;have Y:(iq g l).l=l.l:=by simp[iq]
 refine Yg OR ?_;simp[OR];refine Yc (f52 g hg l E h0) ?_;simp;refine gU ?_;refine gZ.e ((0,eh l.l (0,0),eh l.l 0,[]):Int×List gT×List Int×List Int) (λy=>[(2,.ptr 0 0 0),(6,.sl 1 ((iq g l).map fN)),(8,.ptr 2 0 0),(9,.gR 3 0 1 0 l.l),(10,.ptr 4 0 0),(11,.fn (.func 57) [] [.ptr 2 0 0,.ptr 4 0 0]),(37,iZ l),(38,.i l.l),(39,.i y.1)]) (λy=>HX g l.l y.2.1 y.2.2.1 (y.2.2.2.l-1) y.2.2.2 0) (λy=>0<=y.1/\y.1<=l.l/\VS (jR g l (iq g l)) l.l y.1 y.2.2.2 y.2.1 y.2.2.1) (λy=>(l.l-y.1).n) ?_ ?_
 .exact⟨gP,gP,VS.start _ _⟩
 rintro⟨i,v,lf,R⟩ ⟨i0,D,hS⟩;dsimp only at i0 D hS ⊢
 by_cases hi:i<l.l
 .have hp:=E.ok _ (ij i0 hi);have xV:=hS.ll;have A:=hS.vl
  by_cases b:R = []
  .subst b;simp[hi,HX,H0,sC];refine gU ?_;refine Yc (f54 g hg (gt l i) hp) ?_;simp;refine ma ?_ ?_<;>intro h
   .refine ik.s lO ?_;refine ik.kZ rfl rfl (ajb g l.l v _ (gt l i) i (stat g (gt l i)).1 0 ⟨i0,hi⟩ A) ?_;rintro _ H' ⟨rfl,rfl⟩;simp;refine gU ?_;refine LJ.i (i+1,pt v i ((stat g (gt l i)).1,0),pt lf i (gt (iq g l) i).l,[i]) (by first|rfl|simp[HX,HV,jw]) (by first|rfl|simp[HX,HV,jw]) rfl rfl ?_;exact iQ (hS.yes i0 hi ‹_›)
   refine LJ.i (i+1,v,pt lf i (gt (iq g l) i).l,[]) (by first|rfl|simp[HX,H0]) (by first|rfl|simp[HX,H0]) rfl rfl ?_;exact iQ (hS.no i0 hi ‹_›)
  .have sW:=ay.2 b;simp[hi,oQ b,HV,sC];(with_reducible repeat' first|refine Xk ?_<;>try simp[oQ b,HV]|refine Xs ?_ ?_<;>intro h<;>(try intro C)<;>(try simp[h,oQ b,HV])<;>try omega|refine Xg ?_|omega);refine Yc (f54 g hg (gt l i) hp) ?_;simp;(with_reducible repeat' first|refine Xk ?_<;>try simp[oQ b,HV]|refine Xs ?_ ?_<;>intro h<;>(try intro C)<;>(try simp[h,oQ b,HV])<;>try omega|refine Xg ?_|omega)
   .refine ik.s (by simp[oQ b,HV];rfl) ?_;refine ik.kZ rfl rfl (TZ g l.l v _ R (R.l-1) 0 [.row 46 0 (gt l i).cells] (.inr ⟨_,rfl⟩) i (stat g (gt l i)).1 0 ⟨i0,hi⟩ A (by have:=EE (P:=[]) (R:=R) (n:=l.l) (by simpa using hS.nd) (λk f=>by have:=((hS.qr k).1 (by simpa using f)).1;omega);simp at this;omega) U) ?_;rintro _ H' ⟨rfl,rfl⟩;simp[oQ b,HV];(with_reducible repeat' first|refine Xk ?_<;>try simp[oQ b,HV]|refine Xs ?_ ?_<;>intro h<;>(try intro C)<;>(try simp[h,oQ b,HV])<;>try omega|refine Xg ?_|omega);refine LJ.i (i+1,pt v i ((stat g (gt l i)).1,0),pt lf i (gt (iq g l) i).l,R ++ [i]) (by first|rfl|simp[oQ,HV,jw,(U:R.l-1+1=R.l)]) (by first|rfl|simp[oQ,HV,jw,(U:R.l-1+1=R.l)]) rfl rfl ?_;exact iQ (hS.yes i0 hi ‹_›)
   refine LJ.i (i+1,v,pt lf i (gt (iq g l) i).l,R) (by first|rfl|simp[oQ b,HV]) (by first|rfl|simp[oQ b,HV]) rfl rfl ?_;exact iQ (hS.no i0 hi ‹_›)
 .have iG:i=l.l:=by omega
  subst iG;obtain⟨d,p⟩:=hS.done λk f=>by have:=aeV hg f;show(stat g (gt l k)).1≠0;omega
  have J4:∀(env:Env) (r:Bool),forget [6,8,9,10,11] env = [(6,.sl 1 ((iq g l).map fN)),(8,.ptr 2 0 0),(9,.gR 3 0 1 0 l.l),(10,.ptr 4 0 0),(11,.fn (.func 57) [] [.ptr 2 0 0,.ptr 4 0 0])]->cut 5 [6,8,9,10,11] { env:=env,H:=HX g l.l v lf (R.l-1) R 0,marks:=[],iI:=r } = { env:=[(6,.sl 1 ((iq g l).map fN)),(8,.ptr 2 0 0),(9,.gR 3 0 1 0 l.l),(10,.ptr 4 0 0),(11,.fn (.func 57) [] [.ptr 2 0 0,.ptr 4 0 0])],H:=HX g l.l v lf (R.l-1) R 0,marks:=[],iI:=r }:=λenv r he=>by refine afz _ ?_ he r;exact rQ (Jg _) (WM U (Hu U (WM U (aq5 U U EI))))
  simp[J4];refine gU ?_;have iG:=λi i0 D=>(wI E (i:=i) i0 D).2
  have jh:∀k:Int,0<=k->k<l.l->(gt (iq g l) k).l<=4000000000:=λk k0 k1=>by rw[(wI E k0 k1).1,cp];have:=Hm hg (E.ok _ (ij k0 k1));omega
  have U7:∀k:Int,0<=k->k<l.l->∀c∈gt (jR g l (iq g l)).nx k,0<=c/\c<l.l:=iG
  have M:∀x∈iq g l,∀k∈x,0<=k/\k<(iq g l).l:=λx hx k f=>by obtain⟨a,a0,S,rfl⟩:=th.1 hx;rw[Y]at S ⊢;exact iG a a0 S k f
  have t:∀x∈iq g l,x.l<=4000000000:=λx hx=>by obtain⟨a,a0,S,rfl⟩:=th.1 hx;rw[Y]at S;exact jh a a0 S
  refine Yc (f55 (iq g l) M U t) ?_;simp;refine gU ?_;refine gZ.K (by simp[J4,IK];rfl) ?_;generalize K:oT (iq g l) (iq g l).l=bs;refine gZ.s (by simp[J4];rfl) ?_;refine gZ.e ((v,lf,R.l-1,R,0,[]):List gT×List Int×Nat×List Int×Nat×List Int) (λy=>[(8,.ptr 2 0 0),(9,.gR 3 0 1 0 l.l),(10,.ptr 4 0 0),(11,.fn (.func 57) [] [.ptr 2 0 0,.ptr 4 0 0]),(16,.sl 1 (bs.map fN))]) (λy=>HX g l.l y.1 y.2.1 y.2.2.1 y.2.2.2.1 y.2.2.2.2.1) (λy=>VB (jR g l (iq g l)) l.l y.2.2.2.2.2 (y.2.2.2.1.drop y.2.2.2.2.1) y.1 y.2.1/\US (jR g l (iq g l)) l.l y.2.2.2.2.2 (y.2.2.2.1.drop y.2.2.2.2.1) [] 0 y.1 y.2.1/\y.2.2.2.1.l<=l.l/\(y.2.2.2.1 = []↔R = [])) (λy=>l.l-y.2.2.2.2.2.l) ?_ ?_
  .exact⟨d,p,by have:=EE d.nd d.qr;simpa using this,eM⟩
  dsimp only;rw[IK];clear d p hS hi i0 D;rintro⟨v,lf,s,L,h,P⟩ ⟨d,p,u,QH⟩;dsimp only at d p u QH ⊢;have N:=EE d.nd d.qr;rw[aq]at N
  cases b:L.drop h with
  | nil=>
   rw[b]at d p
   have hq:L.l-h=0:=by
    have:(L.drop h).l=0:=by rw[b];rfl
    rwa [aU]at this
   by_cases m:L = []
   case' pos=>
    have o:=QH.1 m;simp[m,HX,H0,o];refine ko m o ?_;refine gZ.s (s':={ env:=[(136,.i 0),(135,.i l.l),(134,.gR 1 0 2 0 l.l),(8,.ptr 2 0 0)],H:=HX g l.l v lf s L h }) (by simp[o,m,HX,H0]) ?_;refine gZ.K (by simp[o,IK,m];rfl) ?_
   case' neg=>
    have o:¬_ = []:=λe=>m (QH.2 e);simp[oQ m,HV,o,hq];(with_reducible repeat' first|refine Xk ?_<;>try simp[oQ m,HV,o,hq]|refine Xs ?_ ?_<;>intro h<;>(try intro C)<;>(try simp[h,oQ m,HV,o,hq])<;>try omega|refine Xg ?_|omega);refine gZ.s (s':={ env:=[(136,.i 0),(135,.i l.l),(134,.gR 1 0 2 0 l.l),(8,.ptr 2 0 0)],H:=HX g l.l v lf s L h }) (by simp[o,oQ m,HV]) ?_;refine gZ.K (by simp[o,IK,oQ m,HV];rfl) ?_
   all_goals
    obtain⟨G,hX⟩:=afA g l.l lf L s h;have A:=d.vl;refine gZ.e ((0,v):Int×List gT) (λy=>[(8,.ptr 2 0 0),(135,.i l.l),(136,.i y.1)]) (λy=>HX g l.l y.2 lf s L h) (λy=>0<=y.1/\y.1<=l.l/\y.2.l=l.l/\∀k:Int,0<=k->k<l.l->gt y.2 k=if k<y.1/\(gt v k).1=0 then(2,(gt v k).2)else gt v k) (λy=>(l.l-y.1).n) ?_ ?_
    .exact⟨gP,gP,A,λk k0 k1=>by rw[if_neg iv]⟩
    rintro⟨i,w⟩ ⟨i0,D,J,w1⟩;dsimp only at i0 D J w1 ⊢
    by_cases hi:i<l.l
    .have c0:=PQ (v:=w) (n:=i) U;have Rs:=w1 i i0 hi;rw[if_neg U]at Rs;simp[hi,hX];refine jM hX ?_;simp[c0];refine FK hX ?_ ?_<;>intro h
     .have J3:=Ts (l:=w) (n:=i) U 2;refine LJ.i (i+1,pt w i (2,(gt w i).2)) yB (by rw[hX,<-J3];rfl) rfl rfl ?_;refine iQ ⟨?_,λk k0 k1=>?_⟩
      .dsimp only;rw[jy i0 U];exact J
      .dsimp only;rw[mY i0 U k0]
       by_cases e:k=i
       .subst e;rw[if_pos rfl,if_pos ⟨U,by rw[<-Rs];assumption⟩,Rs]
       .rw[if_neg e,w1 k k0 k1]
        by_cases e2:k<i
        .simp[e2,(U:k<i+1)]
        .simp[e2,(U:¬k<i+1)]
     .refine LJ.i (i+1,w) yB (by rw[hX];rfl) rfl rfl ?_;refine iQ ⟨J,λk k0 k1=>?_⟩;dsimp only
      by_cases e:k=i
      .subst e;rw[Rs]at *;rw[if_neg (by rintro⟨_,h2⟩;contradiction)]
      .rw[w1 k k0 k1]
       by_cases e2:k<i
       .simp[e2,(U:k<i+1)]
       .simp[e2,(U:¬k<i+1)]
    .have xg:i=l.l:=by omega
     subst xg
     have Ab:G.l=if L = []then 2 else 3:=by
      have h1:=congrArg List.l (hX v);rw[IK]at h1;simp only[aF]at h1
      by_cases hh:L = []
      .rw[if_pos hh]at h1 ⊢;omega
      .rw[if_neg hh]at h1 ⊢;omega
     first|rw[if_pos m]at Ab|rw[if_neg m]at Ab
     simp[hX,Ab];refine ko hX Ab ?_;rw[uX J.symm,atf];refine Ey.i w rfl rfl ⟨J,at3 U7 d p λk k0 k1=>?_⟩;rw[w1 k k0 k1]
     by_cases e:(gt v k).1=0
     .rw[if_pos ⟨k1,e⟩,if_pos e]
     .rw[if_neg λhh=>e hh.2,if_neg e]
  | cons i R=>
   rw[b]at d p N;have m:L≠[]:=λe=>by rw[e]at b;simp at b
   have I:h<L.l:=by
    by_cases e:h<L.l
    .exact e
    .rw[bF U]at b;cases b
   have O:gt L (h:Int)=i:=by rw[bW I,cN]at b;rw[w8 I];exact b.1
   obtain⟨W,g0⟩:=d.qr i gP;have o:¬_ = []:=λe=>m (QH.2 e);have U5:0<L.l-h:=U;have b1:(List.drop h L).l=L.l-h:=aU;have vc:=ZC L h I;rw[O]at vc
   have l4:bs.l=l.l:=by rw[<-K,zQ M _ (ek _),Y]
   simp[oQ m,HV,o];(with_reducible repeat' first|refine Xk ?_<;>try simp[oQ m,HV,U5]|refine Xs ?_ ?_<;>intro h<;>(try intro C)<;>(try simp[h,oQ m,HV,U5])<;>try omega|refine Xg ?_|omega);simp[vc];simp[sC];(with_reducible repeat' first|refine Xk ?_<;>try simp[oQ m,HV]|refine Xs ?_ ?_<;>intro h<;>(try intro C)<;>(try simp[h,oQ m,HV])<;>try omega|refine Xg ?_|omega)
   have f':(gt bs i).l<=17000000000000:=by have:=Tc M t _ (ek _) i W;rw[K]at this;omega
   have BR:∀k:Int,0<=k->k<l.l->(gt bs i).count k=(gt (iq g l) k).count i:=λk k0 k1=>by rw[<-K,Zm M _ (ek _) i W k k0,if_pos U]
   have mm:∀k∈gt bs i,(0<=k/\k<l.l)/\i∈gt (iq g l) k:=λk f=>by rw[<-K]at f;have h1:=Zn M _ (ek _) i W k f;rw[Y]at h1;refine⟨h1,eH.1 ?_⟩;rw[<-BR k h1.1 h1.2,<-K];exact eH.2 f
   refine gZ.s (by simp only[oQ m];rfl) ?_;refine gZ.e ((0,v,lf,s,L,h,R):Int×List gT×List Int×Nat×List Int×Nat×List Int) (λy=>[(8,.ptr 2 0 0),(9,.gR 3 0 1 0 l.l),(10,.ptr 4 0 0),(11,.fn (.func 57) [] [.ptr 2 0 0,.ptr 4 0 0]),(16,.sl 1 (bs.map fN)),(17,.i i),(77,dN 1 f1 (gt bs i)),(78,.i (gt bs i).l),(79,.i y.1)]) (λy=>HV g l.l y.2.1 y.2.2.1 y.2.2.2.1 y.2.2.2.2.1 y.2.2.2.2.2.1) (λy=>0<=y.1/\y.1<=(gt bs i).l/\y.2.2.2.2.1.drop y.2.2.2.2.2.1=i::y.2.2.2.2.2.2/\y.2.2.2.2.1.l<=l.l/\VB (jR g l (iq g l)) l.l P (i::y.2.2.2.2.2.2) y.2.1 y.2.2.1/\US (jR g l (iq g l)) l.l P (i::y.2.2.2.2.2.2) ((gt bs i).take y.1.n) (gt y.2.1 i).1 y.2.1 y.2.2.1) (λy=>((gt bs i).l-y.1).n) ?_ ?_
   .exact⟨gP,gP,b,u,d,by simpa using p.t0 _⟩
   dsimp only;rw[oQ m];clear b I O U5 b1 vc d p;rintro⟨j,v,lf,s,L,q,R⟩ ⟨j0,j1,b,u,d,p⟩;dsimp only at j0 j1 b u d p ⊢;have m:L≠[]:=λe=>by rw[e]at b;simp at b
   by_cases hj:j<(gt bs i).l
   .obtain⟨f,Z⟩:=mm _ (ij j0 hj);have A:=d.vl;have xV:=d.ll;simp[hj,HV];generalize lC:gt (gt bs i) j=k at *
    have t:((gt bs i).take (j+1).n)=(gt bs i).take j.n ++ [k]:=by rw[(U:(j+1).n=j.n+1),du,dx U,dB,<-jU j0 hj,lC]
    have k0:=PQ (v:=v) (n:=k) U;have Q:=PQ (v:=v) (n:=i) U;have e1:=agC (v:=v) (n:=i) U;have B7:=d.nn i gP;have N:=EE d.nd d.qr
    have I:q<L.l:=by
     by_cases e:q<L.l
     .exact e
     .rw[bF U]at b;cases b
    by_cases B:(gt v k).1=0
    .have F:k ∉ P++i::R:=λhm=>d.qi k hm B
     by_cases X:(gt v i).1=3
     .refine gU ?_;simp[k0,B];refine gU ?_;simp[Q,X];refine gU ?_;simp[e1];refine gU ?_;refine ik.kZ rfl rfl (TZ g l.l v lf L s q [] (.inl rfl) k 1 ((gt v i).2+1) f A U U) ?_;rintro _ H' ⟨rfl,rfl⟩;simp;refine gU ?_;obtain⟨s1,z⟩:=atK U7 d p f.1 f.2 F Z X;have Ak:=EE s1.nd s1.qr;refine LJ.i (j+1,pt v k (1,(gt v i).2+1),lf,s+1,L.drop q ++ [k],0,R ++ [k]) (by first|rfl|simp[HV]) (by first|rfl|simp[HV]) rfl rfl ?_;refine⟨iv,iv,iv,by dsimp only;rw[b];rfl,by dsimp only;rw[b];simp at Ak ⊢;omega,s1,?_⟩;dsimp only;rw[t,mY f.1 U W,if_neg (λe=>F (by rw[<-e];simp))];exact z
     .by_cases V:(gt v i).1=1
      .refine gU ?_;simp[k0,B];refine gU ?_;simp[Q,X];refine gU ?_
       try simp[Q,V]
       obtain⟨_,_,u1,u2⟩:=p k f.1 f.2 F;have u3:=u2 λe=>by have h1:i∈gt (jR g l (iq g l)).nx k:=Z;rw[e]at h1;cases h1
       have u4:(gt (jR g l (iq g l)).nx k).l<=4000000000:=jh k f.1 f.2;have g':gt (pt lf k (gt lf k-1)) k=gt lf k-1:=Dx f.1 U;have kc:(pt lf k (gt lf k-1)).l=lf.l:=jy f.1 U
       by_cases ve:gt lf k-1=0
       ·(with_reducible repeat' first|refine Xk ?_<;>try simp|refine Xs ?_ ?_<;>intro h<;>(try intro C)<;>(try simp[h])<;>try omega|refine Xg ?_|omega);simp[e1];refine gU ?_;refine ik.s lO ?_;refine ik.kZ rfl rfl (TZ g l.l v (pt lf k (gt lf k-1)) L s q [] (.inl rfl) k 3 ((gt v i).2+1) f A U U) ?_;rintro _ H' ⟨rfl,rfl⟩;simp;refine gU ?_
        obtain⟨s1,z⟩:=atM U7 d p f.1 f.2 F Z V ve (by
         have h1:=BR k f.1 f.2
         have h2:((gt bs i).take j.n).count k+1<=(gt bs i).count k:=by
          have h3:(((gt bs i).take j.n) ++ [k]).count k<=(gt bs i).count k:=by rw[<-t];exact(List.take_sublist _ _).count_le _
          rwa [dS,List.count_singleton_self]at h3
         show _<=(gt (iq g l) k).count i
         omega)
        have Ak:=EE s1.nd s1.qr;refine LJ.i (j+1,pt v k (3,(gt v i).2+1),pt lf k (gt lf k-1),s+1,L.drop q ++ [k],0,R ++ [k]) (by first|rfl|simp[HV]) (by first|rfl|simp[HV]) rfl rfl ?_;refine⟨iv,iv,iv,by dsimp only;rw[b];rfl,by dsimp only;rw[b];simp at Ak ⊢;omega,s1,?_⟩;dsimp only;rw[t,mY f.1 U W,if_neg (λe=>F (by rw[<-e];simp))];exact z
       ·(with_reducible repeat' first|refine Xk ?_<;>try simp|refine Xs ?_ ?_<;>intro h<;>(try intro C)<;>(try simp[h])<;>try omega|refine Xg ?_|omega);obtain⟨s1,z⟩:=atL d p f.1 f.2 F Z V ve;refine LJ.i (j+1,v,pt lf k (gt lf k-1),s,L,q,R) (by first|rfl|simp[HV]) (by first|rfl|simp[HV]) rfl rfl ?_;refine iQ ⟨b,u,s1,?_⟩;dsimp only;rw[t];exact z
      .refine gU ?_;simp[k0,B];refine gU ?_;simp[Q,X];refine gU ?_
       try simp[Q,V]
       refine gU ?_;refine LJ.i (j+1,v,lf,s,L,q,R) (by first|rfl|simp[HV]) (by first|rfl|simp[HV]) rfl rfl ?_;refine iQ ⟨b,u,d,?_⟩;dsimp only;rw[t];exact p.skip (.inr ⟨V,X⟩)
    .refine gU ?_;simp[k0,B];refine gU ?_;refine LJ.i (j+1,v,lf,s,L,q,R) (by first|rfl|simp[HV]) (by first|rfl|simp[HV]) rfl rfl ?_;refine iQ ⟨b,u,d,?_⟩;dsimp only;rw[t]
     exact p.skip (.inl (by
      by_cases hm:k∈P++i::R
      .exact hm
      .rw[d.z k f.1 f.2 hm]at B;exact absurd rfl B))
   .have I:q<L.l:=by
     by_cases e:q<L.l
     .exact e
     .rw[bF U]at b;cases b
    have BN:L.drop (q+1)=R:=by rw[<-List.tail_drop,b];rfl
    have N:=EE d.nd d.qr;rw[af U]at p;obtain⟨s1,z⟩:=aka d p BR;simp[hj,HV];refine jM o ?_;simp[o];refine gU ?_;refine LJ.i (v,lf,s,L,q+1,P ++ [i]) (by first|rfl|simp[o]) (by first|rfl|simp[o,oQ m,HV,(U:L.l-q-1=L.l-(q+1))]) (by first|rfl|simp[o]) (by first|rfl|simp[o]) ?_;refine⟨?_,?_,?_,u,λe=>absurd e m,λe=>absurd e o⟩
    .dsimp only;simp at N ⊢;omega
    .dsimp only;rw[BN];exact s1
    .dsimp only;rw[BN];exact z
def f102(L:List Int)(h0:0<L.l)(m:L.l<=4000000000):Wf T 145 [dI L] [] (Ey D.i λr=>r∈L/\∀x∈L,r<=x):=by
 refine Yg MB ?_;simp[MB];(with_reducible repeat' first|refine Xk ?_<;>try simp|refine Xs ?_ ?_<;>intro h<;>(try intro o)<;>(try simp[h])<;>try omega|refine Xg ?_|omega);refine gZ.e ((1,gt L 0):Int×Int) (λy=>[(0,dI L),(3,.i y.2),(4,.i y.1)]) (λy=>[]) (λy=>1<=y.1/\y.1<=L.l/\y.2∈L/\∀j:Int,0<=j->j<y.1->y.2<=gt L j) (λy=>(L.l-y.1).n) ?_ ?_
 .refine⟨gP,iv,ij U U,λj j0 j1=>?_⟩;dsimp only at j1 ⊢;rw[(U:j=0)];exact cI _
 rintro⟨i,r⟩ ⟨i0,d,c,b⟩;dsimp only at i0 d c b ⊢
 by_cases hi:i<L.l
 .simp[hi];refine gU ?_;have k:=ij (l:=L) (n:=i) U hi;refine LJ.e (i+1,min r (gt L i)) ?_;refine iQ ⟨?_,λj j0 j1=>?_⟩
  .dsimp only;rcases(U:min r (gt L i)=r\/min r (gt L i)=gt L i)with e|e<;>rw[e]<;>assumption
  .dsimp only at j1 ⊢
   by_cases e:j=i
   .subst e;omega
   .have:=b j j0 U;omega
 .simp[hi];refine gU ?_;refine Ey.i r rfl rfl ⟨c,λx f=>?_⟩;obtain⟨a,g,p,rfl⟩:=th.1 f;exact b a g U
def f103(L:List Int)(h0:0<L.l)(m:L.l<=4000000000):Wf T 146 [dI L] [] (Ey D.i λr=>r∈L/\∀x∈L,x<=r):=by
 refine Yg MD ?_;simp[MD];(with_reducible repeat' first|refine Xk ?_<;>try simp|refine Xs ?_ ?_<;>intro h<;>(try intro o)<;>(try simp[h])<;>try omega|refine Xg ?_|omega);refine gZ.e ((1,gt L 0):Int×Int) (λy=>[(0,dI L),(3,.i y.2),(4,.i y.1)]) (λy=>[]) (λy=>1<=y.1/\y.1<=L.l/\y.2∈L/\∀j:Int,0<=j->j<y.1->gt L j<=y.2) (λy=>(L.l-y.1).n) ?_ ?_
 .refine⟨gP,iv,ij U U,λj j0 j1=>?_⟩;dsimp only at j1 ⊢;rw[(U:j=0)];exact cI _
 rintro⟨i,r⟩ ⟨i0,d,c,b⟩;dsimp only at i0 d c b ⊢
 by_cases hi:i<L.l
 .simp[hi];refine gU ?_;have k:=ij (l:=L) (n:=i) U hi;refine LJ.e (i+1,max r (gt L i)) ?_;refine iQ ⟨?_,λj j0 j1=>?_⟩
  .dsimp only;rcases(U:max r (gt L i)=r\/max r (gt L i)=gt L i)with e|e<;>rw[e]<;>assumption
  .dsimp only at j1 ⊢
   by_cases e:j=i
   .subst e;omega
   .have:=b j j0 U;omega
 .simp[hi];refine gU ?_;refine Ey.i r rfl rfl ⟨c,λx f=>?_⟩;obtain⟨a,g,p,rfl⟩:=th.1 f;exact b a g U
def lE(v:List gT)(x:List Int)(o:Int):List Int:=(x.filter λk=>decide ((gt v k).1=o)).map λk=>(gt v k).2
def acZ{v:List gT}{x:List Int}{o k:Int}(h:(gt v k).1=o):lE v (x ++ [k]) o=lE v x o ++ [(gt v k).2]:=by simp[lE,h]
def acY{v:List gT}{x:List Int}{o k:Int}(h:(gt v k).1≠o):lE v (x ++ [k]) o=lE v x o:=by simp[lE,h]
def acW(v:List gT)(x:List Int)(o:Int):(lE v x o).l<=x.l:=by unfold lE;rw[cp];exact er _ _
def alU{v:List gT}{x:List Int}{o n:Int}:n∈lE v x o↔∃k∈x,gt v k=(o,n):=by
 unfold lE;rw[aj];constructor
 .rintro⟨k,a,rfl⟩;rw[aH]at a;exact⟨k,a.1,cZ (by simpa using a.2) rfl⟩
 .rintro⟨k,a,e⟩;exact⟨k,aH.2 ⟨a,by simp[e]⟩,by rw[e]⟩
def FE(v:List gT)(x:List Int)(r:gT):Prop:=
 (∃m∈lE v x 3,(∀y∈lE v x 3,m<=y)/\r=(1,m+1)) \/
 (lE v x 3 = []/\(lE v x 1).l=x.l/\∃m∈lE v x 1,(∀y∈lE v x 1,y<=m)/\r=(3,m+1)) \/
 (lE v x 3 = []/\¬(lE v x 1≠[]/\(lE v x 1).l=x.l)/\r=(2,0))
def dL(l:List Int)(n:Nat):D:=if l = []then .gV else .gR n (l.l-1) 1 0 l.l
def rL(l:List Int):gQ:=if l = []then []else [.row 3 (l.l-1) (cl f1 l)]
def HL(a b:List Int):gQ:=.row 86 0 [.i 0,.i 0]::(rL a++rL b)
def f56(v:List gT)(x:List Int)(s:∀k∈x,0<=k/\k<v.l)(N:x.l<=4000000000)(z:∀k:Int,0<=k->k<v.l->0<=(gt v k).2/\(gt v k).2<=4000):Wf T 89 [iS v,dN 1 f1 x] [] (Ey (λr:gT=>.agg [.i r.1,.i r.2]) λr=>FE v x r):=by
 have E:∀o,lE v [] o = []:=λ_=>rfl;have I:∀n,dL [] n = .gV:=λ_=>rfl;refine Yg O3 ?_;simp[O3];refine gU ?_;refine gZ.e (0:Int) (λy=>[(0,iS v),(1,dN 1 f1 x),(4,.ptr 0 0 0),(5,dL (lE v (x.take y.n) 3) 1),(6,dL (lE v (x.take y.n) 1) (if lE v (x.take y.n) 3 = []then 1 else 2)),(9,dN 1 f1 x),(10,.i x.l),(11,.i y)]) (λy=>HL (lE v (x.take y.n) 3) (lE v (x.take y.n) 1)) (λy=>0<=y/\y<=x.l) (λy=>(x.l-y).n) ?_ ?_ (by simp[E,I]) (by simp[E,HL,rL])
 .simp
 rintro i ⟨i0,L⟩;have J:=acW v (x.take i.n) 3;have F:=acW v (x.take i.n) 1;rw[aM]at J F
 by_cases hi:i<x.l
 .have B:=s _ (ij i0 hi)
  have m:(x.take (i+1).n)=x.take i.n ++ [gt x i]:=by rw[(U:(i+1).n=i.n+1),du,dx U,dB,<-jU i0 hi]
  have O:=PQ (v:=v) (n:=gt x i) U;simp[hi];generalize gt x i=k at *;generalize D:lE v (x.take i.n) 3=a at *;generalize C:lE v (x.take i.n) 1=b at *;have K:=z k B.1 B.2;have q3:(gt v k).1=3->lE v (x.take (i+1).n) 3=a ++ [(gt v k).2]:=λh=>by rw[m,acZ h,D]
  have j:(gt v k).1≠3->lE v (x.take (i+1).n) 3=a:=λh=>by rw[m,acY h,D]
  have q1:(gt v k).1=1->lE v (x.take (i+1).n) 1=b ++ [(gt v k).2]:=λh=>by rw[m,acZ h,C]
  have l:(gt v k).1≠1->lE v (x.take (i+1).n) 1=b:=λh=>by rw[m,acY h,C]
  have w:a = []\/0<a.l:=by cases a<;>simp
  have u:b = []\/0<b.l:=by cases b<;>simp
  have iG:((x.l:Int)-(i+1)).n<((x.l:Int)-i).n/\0<=i+1/\i+1<=x.l:=U
  by_cases c:a = []<;>by_cases d:b = []
  all_goals
   first|have w:=w.resolve_left c|skip
   first|have u:=u.resolve_left d|skip
   (with_reducible repeat' first|refine Xk ?_<;>try simp[c,d,dL,rL,HL]|refine Xs ?_ ?_<;>intro h<;>(try intro H)<;>(try simp[h,c,d,dL,rL,HL])<;>try omega|refine Xg ?_|omega)
  all_goals
   first
    | (have f:=q3 ‹_›;have g:=l U;refine LJ.i (i+1) (by simp[f,g,dL,c,d]<;>omega) (by simp[f,g,HL,rL,c,d,jw]<;>omega) rfl rfl iG)
    | (have f:=j ‹_›;have g:=q1 ‹_›;refine LJ.i (i+1) (by simp[f,g,dL,c,d]<;>omega) (by simp[f,g,HL,rL,c,d,jw]<;>omega) rfl rfl iG)
    | (have f:=j km;have g:=l km;refine LJ.i (i+1) (by simp[f,g,dL,c,d]) (by simp[f,g,HL,rL,c,d]) rfl rfl iG)
 .rw[af U]at *;simp[hi]
  by_cases c:lE v x 3 = []<;>by_cases d:lE v x 1 = []
  all_goals
   simp[c,d,dL,rL,HL];(with_reducible repeat' first|refine Xk ?_<;>try simp[c,d,dL,rL,HL]|refine Xs ?_ ?_<;>intro h<;>(try intro H)<;>(try simp[h,c,d,dL,rL,HL])<;>try omega|refine Xg ?_|omega)
  all_goals
   first
    | exact Ey.i (2,0) rfl rfl (.inr (.inr ⟨c,λ⟨h1,G⟩=>U,rfl⟩))
    | exact Ey.i (2,0) rfl rfl (.inr (.inr ⟨c,λ⟨h1,G⟩=>h1 d,rfl⟩))
    | exact absurd (ay.2 c) ‹_›
    | exact absurd (ay.2 d) ‹_›
    | skip
  all_goals
   refine ik.s (by simp[c,d];rfl) ?_
  all_goals
   first
    | refine ik.rq rfl rfl (f102 (lE v x 3) U U) gP (λ_=>by simp[flat]) (λ_=>gP) ?_
    | refine ik.rq rfl rfl (f103 (lE v x 1) U U) gP (λ_=>by simp[flat]) (λ_=>gP) ?_
  all_goals
   rintro r ⟨p,t⟩
   have M:0<=r/\r<=4000:=by obtain⟨q,A,e⟩:=alU.1 p;have:=z q (s q A).1 (s q A).2;rwa [e]at this
   simp[c,d];refine ko c d ?_
  all_goals
   first
    | exact Ey.i (1,r+1) rfl rfl (.inl ⟨r,p,t,rfl⟩)
    | exact Ey.i (3,r+1) rfl rfl (.inr (.inl ⟨c,U,r,p,t,rfl⟩))
def acX(v:List gT)(x:List Int)(o:Int):lE v x o=kA (x.map λk=>gt v k) o:=by unfold lE kA;rw[List.filter_map,bC];rfl
def FE.mk{v:List gT}{x:List Int}{r:gT}(h:FE v x r):r=pe (x.map λk=>gt v k):=by
 unfold pe;rw[<-acX,<-acX,cp];rcases h with⟨m,c,g,rfl⟩|⟨f,h1,m,c,i,rfl⟩|⟨f,h1,rfl⟩
 .have d:lE v x 3≠[]:=λe=>by rw[e]at c;cases c
  have a:=EB c;have b:=g _ (Cp d);rw[if_pos d,(U:vC (lE v x 3)=m)]
 .have d:lE v x 1≠[]:=λe=>by rw[e]at c;cases c
  have a:=RC c;have b:=i _ (RO d)
  have j:(x.map λk=>gt v k)≠[]:=λe=>by have l:=List.map_eq_nil_iff.1 e;subst l;exact d rfl
  rw[if_neg (λh=>h f),if_pos ⟨j,h1⟩,(U:AG (lE v x 1)=m)]
 .rw[if_neg (λh=>h f),if_neg];rintro⟨a,b⟩;refine h1 ⟨λe=>a ?_,b⟩;rw[e]at b;rw[bj b.symm];rfl
def FE.iff{A:mM}{v:List gT}{i:Int}{r:gT}(h0:∀k∈gt A.nx i,0<=(gt v k).2)(b:A.ov i=false)(a:FE v (gt A.nx i) r):kE A v i↔gt v i=r:=by rw[a.mk];exact alO h0 b
def ik.w{T:jt}{f:FuncId}{args:List D}{dst:Option Nat}{s s':St}{K:St->Prop}(hs:s=s')(h:ik T f args dst s' K .mk):ik T f args dst s K .mk:=by subst hs;exact h
def ads{l:List gT}{x:gT}{o:Int}(h:x.1=o):kA (l ++ [x]) o=kA l o ++ [x.2]:=by simp[kA,h]
def adr{l:List gT}{x:gT}{o:Int}(h:x.1≠o):kA (l ++ [x]) o=kA l o:=by simp[kA,h]
@[simp] theorem aBB(o:Int):kA [] o = []:=rfl
theorem adq(l:List gT)(o:Int):(kA l o).l<=l.l:=by unfold kA;rw[cp];exact er _ _
def atU{α:Type}[Inhabited α]{l:List α}{i:Int}(i0:0<=i)(a:i<l.l):l.take (i+1).n=l.take i.n ++ [gt l i]:=by rw[(U:(i+1).n=i.n+1),du,dx U,dB,<-jU i0 a]
def ait(l:List gT)(h0:0<l.l)(M:l.l<=4000000000)(K:∀x∈l,0<=x.2/\x.2<=4000):Wf T 135 [iS l] [] (Is (.agg [.i (pe l).1,.i (pe l).2])):=by
 refine Yg M3 ?_;simp[M3];refine gZ.e ((0,0,0):Int×Nat×Nat) (λy=>[(0,iS l),(2,.ptr 0 0 0),(3,.gR 1 y.2.1 1 0 (kA (l.take y.1.n) 3).l),(4,.gR 2 y.2.2 1 0 (kA (l.take y.1.n) 1).l),(9,iS l),(10,.i l.l),(11,.i y.1)]) (λy=>[.row 86 0 [.i 0,.i 0],.row 3 y.2.1 (cl f1 (kA (l.take y.1.n) 3)),.row 3 y.2.2 (cl f1 (kA (l.take y.1.n) 1))]) (λy=>0<=y.1/\y.1<=l.l) (λy=>(l.l-y.1).n) ?_ ?_
 .simp
 rintro⟨i,t,s⟩ ⟨i0,I⟩;dsimp only at i0 I ⊢;have w:=adq (l.take i.n) 3;have m:=adq (l.take i.n) 1;rw[aM]at w m
 by_cases hi:i<l.l
 .have e:=atU (l:=l) i0 hi;have C:(gt l i).1=3->kA (l.take (i+1).n) 3=kA (l.take i.n) 3 ++ [(gt l i).2]:=λh=>by rw[e,ads h]
  have u:(gt l i).1≠3->kA (l.take (i+1).n) 3=kA (l.take i.n) 3:=λh=>by rw[e,adr h]
  have D:(gt l i).1=1->kA (l.take (i+1).n) 1=kA (l.take i.n) 1 ++ [(gt l i).2]:=λh=>by rw[e,ads h]
  have v:(gt l i).1≠1->kA (l.take (i+1).n) 1=kA (l.take i.n) 1:=λh=>by rw[e,adr h]
  obtain⟨A,q⟩:∃A,kA (l.take i.n) 3=A:=⟨_,rfl⟩;obtain⟨B,p⟩:∃B,kA (l.take i.n) 1=B:=⟨_,rfl⟩;rw[q]at w C u ⊢;rw[p]at m D v ⊢;have iG:((l.l:Int)-(i+1)).n<((l.l:Int)-i).n/\0<=i+1/\i+1<=l.l:=U;simp[hi];(with_reducible repeat' first|refine Xk ?_<;>try simp|refine Xs ?_ ?_<;>intro h<;>(try intro N)<;>(try simp[h])<;>try omega|refine Xg ?_|omega)
  .have b:=C ‹_›;have c:=v U;refine LJ.i (i+1,t+1,s) (by simp[b,c]) (by simp[b,c]) rfl rfl iG
  .have b:=u U;have c:=D ‹_›;refine LJ.i (i+1,t,s+1) (by simp[b,c]) (by simp[b,c]) rfl rfl iG
  .have b:=u km;have c:=v km;refine LJ.i (i+1,t,s) (by simp[b,c]) (by simp[b,c]) rfl rfl iG
 .have H:i=l.l:=by omega
  subst H;rw[af U]at *;obtain⟨r,a⟩:∃r,pe l=r:=⟨_,rfl⟩;have z:∀o,∀y∈kA l o,0<=y/\y<=4000:=λo y J=>by have:=K _ (vB.1 J);exact this
  rw[a];unfold pe at a;obtain⟨A,q⟩:∃A,kA l 3=A:=⟨_,rfl⟩;obtain⟨B,p⟩:∃B,kA l 1=B:=⟨_,rfl⟩;have E:=z 3;have g:=z 1;rw[q]at w a E ⊢;rw[p]at m a g ⊢;have G:l≠[]:=ay.1 h0;simp[hi]
  by_cases f:A = []
  .rw[if_neg (λh=>h f)]at a;subst f
   by_cases j:B.l=l.l
   .rw[if_pos ⟨G,j⟩]at a;subst a;simp[j];refine gU ?_;refine ik.w lO ?_;refine ik.rq rfl rfl (f103 B U U) (by simp[j]) (λ_=>by simp[flat]) (λ_=>gP) ?_;rintro r ⟨d,k⟩;have L:=RC d;have e2:=k _ (RO (l:=B) λe=>by rw[e]at d;cases d);have e:r=AG B:=U;have n:=g r d;subst e;simp;exact oS
   .rw[if_neg (λh=>j h.2)]at a;subst a;simp[j];exact oS
  .rw[if_pos f]at a;subst a;have F:0<A.l:=ay.2 f;simp[F];refine gU ?_;refine ik.w lO ?_;refine ik.rq rfl rfl (f102 A U U) gP (λ_=>by simp[flat]) (λ_=>gP) ?_;rintro r ⟨d,k⟩;have L:=EB d;have e2:=k _ (Cp f);have e:r=vC A:=U;have n:=E r d;subst e;simp;exact oS
attribute [-simp] pQ
def aip(r:gT):Wf T 121 [.agg [.i r.1,.i r.2]] [] (Is (.b (mJ r))):=by
 obtain⟨a,b⟩:=r;unfold mJ;dsimp only
 by_cases e:a=2
 .subst e
  by_cases c:b=0
  .subst c;refine Yg wV ?_;simp[wV]
  .refine Yg wV ?_;simp[wV,c]
 .by_cases c:a=1
  .subst c;refine Yg wV ?_;simp[wV]
  .by_cases d:a=3
   .subst d;refine Yg wV ?_;simp[wV]
   .refine Yg wV ?_;simp[wV,e,c,d]
def aio(r:gT):Wf T 120 [.agg [.i r.1,.i r.2]] [] (Is (.b (!mJ r))):=by have c:=aip r;obtain⟨b,a⟩:∃b,mJ r=b:=⟨_,rfl⟩;rw[a]at c ⊢;refine Yg MY ?_;simp[MY];refine Yc (c) ?_;simp
def aiE(r q:gT):Wf T 187 [.agg [.i r.1,.i r.2],.ie [.i q.1,.i q.2]] [] (Is (.b (decide (r≠q)))):=by obtain⟨a,b⟩:=r;obtain⟨x,y⟩:=q;refine Yg Nd ?_;simp[Nd]
def aiF(r:gT)(n:Int):Wf T 188 [.agg [.i r.1,.i r.2],.ie [.i n]] [] (Is (.b (decide (r.1≠2/\r.2=n)))):=by
 obtain⟨a,b⟩:=r;dsimp only
 by_cases c:a=2
 .subst c;refine Yg Fq ?_;simp[Fq]
 .refine Yg Fq ?_;simp[Fq,c]
@[simp] theorem aBr(G:lr):zo (yf G []) = -1:=rfl
theorem TX{H:gQ}{ck sr n:Nat}{M:Nat->lr}{ow:Nat->Nat×Nat×Nat}{P:Nat->Nat}{Q:Nat->Nat->Nat}{cells:List D}(X:nI H ck sr n M ow P Q)(gW:jZ H.l H)(O:H[ck]? = cc (.row 168 0 cells))(L:cells[12]? = cc (.gR sr 0 1 0 n))
  {cm:List iF} {i:Int} (i0:0<=i) (W:i<n) (hM:M i.n=iH cm i) (nb:∀r∈sd cm i,mJ r=true) :
  Wf T 122 [.ptr ck 0 0,.i i] H (λd H'=>d = .i (nD (sd cm i))/\H'=H):=by
 obtain⟨k,_⟩:=X.mp i.n U;have V:=X.row;rw[hM]at k
 have hj:((ez n).map λj=>D.im (P j))[i.n]? = cc (.im (P i.n)):=by rw[aw,cF U];rfl
 obtain⟨p,A⟩:∃p,P i.n=p:=⟨_,rfl⟩;obtain⟨q,D'⟩:∃q,Q i.n=q:=⟨_,rfl⟩;rw[A]at k hj;rw[D']at k;have kc:=(ae.1 k).1;have c:∀G,(H++G)[p]? = cc (.map KS (jN q 0 (iH cm i))):=λG=>by rw[ah kc,k]
 refine Yg MZ ?_;simp[MZ,O,L,V,A,k,i0,W];refine pM (bf O L) (bf V A) (bf k i0) W ?_;refine gZ.e (([.jO (.im p) (iH cm i).l []],[]):gQ×List Nat) (λy=>[(5,.i (zo (yf (iH cm i) y.2))),(14,.ptr H.l 0 0)]) (λy=>H++y.1) (λy=>y.1[0]? = cc (.jO (.im p) (iH cm i).l y.2)/\y.2.Nodup/\∀t∈y.2,t<(iH cm i).l) (λy=>(iH cm i).l-y.2.l) ?_ ?_
 .exact⟨rfl,.nil,λ_ h=>by cases h⟩
 rintro⟨G,seen⟩ ⟨I,S,E⟩;dsimp only at I S E ⊢;have BY:=(ae.1 I).1;simp;refine ub.at (m:=p) (since:=(iH cm i).l) (seen:=seen) (kk:=KS) (es:=jN q 0 (iH cm i)) (by simp[I]) (by simp[c]) gP (λC=>?_) λt kv dv F hi=>?_
 .have C:∀t,t<(iH cm i).l->t∈seen:=by simpa using C
  have Z:=alm C E
  have Am:zo (yf (iH cm i) seen)=nD (sd cm i):=by
   rw[alS λr hr a=>?_]
   .exact alV Z
   .have:=nb r ((Z r).1 hr);unfold mJ at this;simp only[decide_eq_true_eq]at this;rcases this with rfl|h
    .exact absurd rfl a
    .exact h.2
  simp;refine gU ?_;simp[yh gW,Am]
 .rw[xK]at F;obtain⟨x,u,l6⟩:=ar.1 F;cases l6;have z:=LV S E (ae.1 u).1 hi;have f:(jN q 0 (iH cm i))[t]? = cc (mH x.1,oI (q t) x.2):=by rw[xK,u];simp
  have B:=aln (seen:=seen) u;obtain⟨ks,K⟩:∃ks,yf (iH cm i) seen=ks:=⟨_,rfl⟩;rw[K]at B ⊢;obtain⟨m,Y⟩:∃m,zo ks=m:=⟨_,rfl⟩;have N:zo (yf (iH cm i) (seen ++ [t]))=yj m x.1:=by rw[B,alT,Y]
  obtain⟨l,J⟩:∃l,G.set 0 (.jO (.im p) (iH cm i).l (seen ++ [t]))=l:=⟨_,rfl⟩;have b:l[0]? = cc (.jO (.im p) (iH cm i).l (seen ++ [t])):=by rw[<-J,aN BY]
  have e:(H++G).set H.l (.jO (.im p) (iH cm i).l (seen ++ [t]))=H++l:=by rw[Zg,J]
  have U4:=(ae.1 b).1;have QY:∀(R:gQ),(l++R)[0]? = cc (.jO (.im p) (iH cm i).l (seen ++ [t])):=λR=>by rw[ah U4];exact b
  have xh:(iH cm i).l-(seen ++ [t]).l<(iH cm i).l-seen.l:=by have:=z.2.2;rw[aq,aT]at this ⊢;omega
  have w:∀ {R:gQ} {v:Int},v=yj m x.1->LJ (λy:gQ×List Nat=>[(5,.i (zo (yf (iH cm i) y.2))),(14,.ptr H.l 0 0)]) (λy=>H++y.1) [] false (λs=>(iH cm i).l-s.2.l<(iH cm i).l-seen.l/\s.1[0]? = cc (.jO (.im p) (iH cm i).l s.2)/\s.2.Nodup/\∀t∈s.2,t<(iH cm i).l) .mk [(5,.i v),(14,.ptr H.l 0 0)] (H++(l++R)) [] false:=λ{R v} hv=>by subst hv;exact LJ.i (l++R,seen ++ [t]) (by simp[N]) rfl rfl rfl ⟨xh,QY _,z.1,z.2.1⟩
  rw[e,Y];obtain⟨⟨r1,r2⟩,ls⟩:=x;dsimp only at *;clear J e B N K F u
  by_cases a:r1=2
  .subst a;simp[c,f,b];refine kf c f b ?_;refine w ?_;simp[yj]
  .by_cases g:m<0
   .simp[c,f,b,a,g];refine kf (bf c f) (bf b a) g ?_;refine w ?_;simp[yj,a,g]
   .by_cases o:r2<m
    .simp[c,f,b,a,g,o];refine kf (bf c f) (bf b a) (bf g o) ?_;refine w ?_;simp[yj,a,o]
    .simp[c,f,b,a,g,o];refine kf (bf c f) (bf b a) (bf g o) ?_;refine w ?_;simp[yj,a,g,o]
end Go.Proofs.YtmehofoficaelaaGreatDoor
namespace Go.Proofs.YtmehofoficaelaaGreatDoor
open Go Go.AL Classical
def acA(a b:Int):AL.keyOf (.agg [.i a,.i b])=cc (mH (a,b)):=rfl
def abB(r:gT):KS.has (mH r)=true:=rfl
def ahM(Q:Nat->Nat){G:lr}{i t:Nat}{k:Value}{d:D}(h:(jN Q i G)[t]? = cc (k,d)):(jN Q i G).set t (k,d)=jN Q i G:=by obtain⟨h1,a⟩:=ae.1 h;rw[<-a,dW]
def al8{H:gQ}{v t:Nat}{q:Nat->Nat}{G:lr}{r:gT}{x:List Int}(c:H[v]? = cc (.map KS (jN q 0 G)))(b:pW r G=cc (t,x)) :
  AE KS .gV (.im v) (.agg [.i r.1,.i r.2]) H=cc (.tup [oI (q t) x,.i t],.obj v (.map KS (jN q 0 G))):=by
 have h1:=Ws q r G 0 0;rw[b]at h1;simp only[aK,aR]at h1;have a:=Ww q r (oI (q t) x) G 0;rw[b]at a
 have d:(jN q 0 G)[t]? = cc (mH r,oI (q t) x):=by rw[xK,(BD (k:=0) b).1];simp
 dsimp only at a;rw[ahM q d]at a;unfold AE;rw[acA];simp only[Wn,c,mapOf];rw[if_pos ⟨trivial,abB _⟩,h1];dsimp only;rw[a]
def al7{H:gQ}{v:Nat}{q:Nat->Nat}{G:lr}{r:gT}(c:H[v]? = cc (.map KS (jN q 0 G)))(b:pW r G=eB) :
  AE KS .gV (.im v) (.agg [.i r.1,.i r.2]) H=cc (.tup [.gV,.i G.l],.obj v (.map KS (jN q 0 G ++ [(mH r,.gV)]))):=by
 have h1:=Ws q r G 0 0;rw[b]at h1;simp only[Option.map_none]at h1;have a:=Ww q r .gV G 0;rw[b]at a;dsimp only at a;unfold AE;rw[acA];simp only[Wn,c,mapOf];rw[if_pos ⟨trivial,abB _⟩,h1];dsimp only;rw[a,Dm]
def aam{H:gQ}{v t:Nat}{es:List (Value×D)}{k:Value}{d0 d:D}(a:H[v]? = cc (.map KS es))(b:es[t]? = cc (k,d0)) :
  Dh (.im v) (.i t) d H=cc (.any,.obj v (.map KS (es.set t (k,d)))):=by
 unfold Dh;simp only[Wn,a,mapOf,bA,b];rw[if_pos U]
def yw{n m:Nat}(h:n<=m){d:D}(a:oP n d=true):oP m d=true:=by cases d<;>first|exact a|(simp only[oP,decide_eq_true_eq]at a ⊢;omega)
def IU{n m:Nat}(h:n<=m){cs:List D}(b:cs.all (oP n)=true):cs.all (oP m)=true:=
 aE.2 λd a=>yw h (aE.1 b d a)
def HQ{n m:Nat}(h:n<=m){d:D}(c:kz n d=true):kz m d=true:=by
 cases d with
 | agg cs=>exact IU h c
 | tup cs=>exact IU h c
 | ie cs=>exact IU h c
 | fn f a b=>
  simp only[kz,Bool.and_eq_true]at c ⊢;exact⟨IU h c.1,IU h c.2⟩
 | any=>exact yw (n:=n) (d:=.any) h c
 | val v=>exact yw (n:=n) (d:=.val v) h c
 | sl sz es=>exact yw (n:=n) (d:=.sl sz es) h c
 | gR v g sz off len=>exact yw (n:=n) (d:=.gR v g sz off len) h c
 | gV=>exact yw (n:=n) (d:=.gV) h c
 | ptr v g off=>exact yw (n:=n) (d:=.ptr v g off) h c
 | im v=>exact yw (n:=n) (d:=.im v) h c
 | jF v=>exact yw (n:=n) (d:=.jF v) h c
 | nj vs=>exact yw (n:=n) (d:=.nj vs) h c
def adD{n m:Nat}(h:n<=m){o:Ob}(a:pj n o=true):pj m o=true:=by
 cases o with
 | row t g cs=>exact aE.2 λd b=>HQ h (aE.1 a d b)
 | map kk es=>exact aE.2 λd b=>HQ h (aE.1 a d b)
 | iV rf env st=>exact aE.2 λd b=>HQ h (aE.1 a d b)
 | uI=>rfl
 | jO m since seen=>exact yw h a
 | jJ=>rfl
 | dead=>rfl
 | na=>cases a
def zt{n m:Nat}{H:gQ}(h:n<=m)(b:jZ n H):jZ m H:=λo a=>adD h (b o a)
def wM{n:Nat}{H G:gQ}(h:jZ n H)(b:jZ n G):jZ n (H++G):=λo a=>by
 rcases ai.1 a with a|a
 .exact h o a
 .exact b o a
def oset(ow:Nat->Nat×Nat×Nat)(v:Nat)(a:Nat×Nat×Nat):Nat->Nat×Nat×Nat:=λw=>if w=v then a else ow w
def adS(ow:Nat->Nat×Nat×Nat)(v:Nat)(a:Nat×Nat×Nat):oset ow v a v=a:=if_pos rfl
def EK{ow:Nat->Nat×Nat×Nat}{v w:Nat}{a:Nat×Nat×Nat}(h:w≠v):oset ow v a w=ow w:=if_neg h
def kr{H:gQ}{v:Nat}{o:Ob}(h:H[v]? = cc o):v<H.l:=(ae.1 h).1
def jl{H G:gQ}{v:Nat}{o:Ob}(h:H[v]? = cc o):(H++G)[v]? = cc o:=by rw[ah (kr h)];exact h
def nI.own{H:gQ}{ck sr n:Nat}{M:Nat->lr}{ow:Nat->Nat×Nat×Nat}{P:Nat->Nat}{Q:Nat->Nat->Nat}(h:nI H ck sr n M ow P Q){v:Nat}(i:H.l<=v)(g:ck<v)(a:Nat×Nat×Nat):nI H ck sr n M (oset ow v a) P Q:=by
 have b:∀ {w o},H[w]? = cc o->w≠v:=λf=>by have:=kr f;omega
 refine⟨?_,?_,h.row,λj c=>?_,λj c t x e=>?_⟩
 .rw[EK U];exact h.fc
 .rw[EK (b h.row)];exact h.fs
 .obtain⟨h1,d⟩:=h.mp j c;exact⟨h1,by rw[EK (b h1)];exact d⟩
 .obtain⟨h1,d⟩:=h.ls j c t x e;exact⟨h1,by rw[EK (b h1)];exact d⟩
def afy(Hc:gQ)(ow:Nat->Nat×Nat×Nat)(bad:List Int)(d:D):Prop:=
 (bad = []/\d = .gV)\/(bad≠[]/\∃v g,d = .gR v g 1 0 bad.l/\Hc[v]? = cc (.row 3 g (cl f1 bad))/\ow v=(4,0,0))
structure HI(H0 Hc:gQ)(ck sr n:Nat)(C:Ob)(M:Nat->lr)(bad:List Int)(d:D)(b:Option (Nat×Ob))(ow:Nat->Nat×Nat×Nat)(P:Nat->Nat)(Q:Nat->Nat->Nat):Prop where
 sg:nI Hc ck sr n M ow P Q
 ct:Hc[ck]? = cc C
 ok:jZ Hc.l Hc
 lt:ck<H0.l
 kp:∀v o,H0[v]? = cc o->v≠ck->Hc[v]? = cc o/\ow v=(5,0,0)
 bd:afy Hc ow bad d
 bx:∀p,b=cc p->Hc[p.1]? = cc p.2/\ow p.1=(6,0,0)
section
variable{H0 Hc:gQ}{ck sr n:Nat}{C:Ob}{M:Nat->lr}{bad:List Int}{d:D}{b:Option (Nat×Ob)}{ow:Nat->Nat×Nat×Nat}{P:Nat->Nat}{Q:Nat->Nat->Nat}
theorem HI.more(h:HI H0 Hc ck sr n C M bad d b ow P Q){o:Ob}(m:pj (Hc.l+1) o=true)(a:Nat×Nat×Nat):HI H0 (Hc ++ [o]) ck sr n C M bad d b (oset ow Hc.l a) P Q:=by
 have e:∀ {w o},Hc[w]? = cc o->w≠Hc.l:=λk=>by have:=kr k;omega
 refine⟨(h.sg.own (ek _) (kr h.ct) a).mono λv o f _=>jl f,jl h.ct,?_,h.lt,λv o f q=>?_,?_,λp l=>?_⟩
 .rw[aq,aT];refine wM (zt U h.ok) λx j=>?_;rw[ej.1 j];exact m
 .obtain⟨h1,c⟩:=h.kp v o f q;exact⟨jl h1,by rw[EK (e h1)];exact c⟩
 .rcases h.bd with h1|⟨h1,v,g,c,i,r⟩
  .exact .inl h1
  .exact .inr ⟨h1,v,g,c,jl i,by rw[EK (e i)];exact r⟩
 .obtain⟨h1,c⟩:=h.bx p l;exact⟨jl h1,by rw[EK (e h1)];exact c⟩
theorem HI.box(h:HI H0 Hc ck sr n C M bad d b ow P Q){o:Ob}(c:pj (Hc.l+1) o=true):HI H0 (Hc ++ [o]) ck sr n C M bad d (cc (Hc.l,o)) (oset ow Hc.l (6,0,0)) P Q:=by
 have h1:=h.more c (6,0,0)
 exact⟨h1.sg,h1.ct,h1.ok,h1.lt,h1.kp,h1.bd,λp a=>by
  cases a
  exact⟨by rw[ao U,b6];rfl,adS _ _ _⟩⟩
theorem HI.nob(h:HI H0 Hc ck sr n C M bad d b ow P Q):HI H0 Hc ck sr n C M bad d eB ow P Q:=⟨h.sg,h.ct,h.ok,h.lt,h.kp,h.bd,λ_ a=>by cases a⟩
theorem HI.Zi(h:HI H0 Hc ck sr n C M [] .gV b ow P Q)(k:Int):∃a,HI H0 (Hc ++ [tj [k]]) ck sr n C M [k] (.gR Hc.l 0 1 0 1) b a P Q:=by have h1:=h.more (o:=tj [k]) (by unfold tj;exact Cs _) (4,0,0);exact⟨_,h1.sg,h1.ct,h1.ok,h1.lt,h1.kp,.inr ⟨gP,_,_,rfl,by rw[ao U,b6];rfl,adS _ _ _⟩,h1.bx⟩
theorem HI.Zj{v g:Nat}{k:Int}(h:HI H0 Hc ck sr n C M bad (.gR v g 1 0 bad.l) b ow P Q)(r:bad≠[])(f:Hc[v]? = cc (.row 3 g (cl f1 bad)))(l:ow v=(4,0,0)) :
  HI H0 (Hc.set v (.row 3 (g+1) (cl f1 (bad ++ [k])))) ck sr n C M (bad ++ [k]) (.gR v (g+1) 1 0 (bad.l+1)) b ow P Q:=by
 have hl:=kr f;have key:∀w o,Hc[w]? = cc o->ow w≠(4,0,0)->(Hc.set v (.row 3 (g+1) (cl f1 (bad ++ [k]))))[w]? = cc o:=λw o d q=>kM;refine⟨?_,key _ _ h.ct (by rw[h.sg.fc];simp),?_,h.lt,λw o d m=>?_,.inr ⟨gP,v,g+1,gP,by rw[aN hl],l⟩,λp i=>?_⟩
 .refine⟨h.sg.fc,h.sg.fs,key _ _ h.sg.row (by rw[h.sg.fs];simp),λj c=>?_,λj c t x e=>?_⟩
  .obtain⟨h1,a⟩:=h.sg.mp j c;exact⟨key _ _ h1 (by rw[a];simp),a⟩
  .obtain⟨h1,a⟩:=h.sg.ls j c t x e;exact⟨key _ _ h1 (by rw[a];simp),a⟩
 .rw[av];exact rR h.ok (Cs _)
 .obtain⟨h1,a⟩:=h.kp w o d m;exact⟨key _ _ h1 (by rw[a];simp),a⟩
 .obtain⟨h1,a⟩:=h.bx p i;exact⟨key _ _ h1 (by rw[a];simp),a⟩
theorem HI.rest{f:gQ}{k:Nat->lr}{j:Nat->Nat×Nat×Nat}{Q':Nat->Nat->Nat}(h:HI H0 Hc ck sr n C M bad d b ow P Q)(hs:nI f ck sr n k j P Q')(gW:jZ f.l f)
  (i:∀v o,Hc[v]? = cc o->ow v=(0,0,0)\/ow v=(4,0,0)\/ow v=(5,0,0)\/ow v=(6,0,0)->f[v]? = cc o/\j v=ow v):HI H0 f ck sr n C k bad d b j P Q':=by
 refine⟨hs,(i _ _ h.ct (.inl h.sg.fc)).1,gW,h.lt,λw o l q=>?_,?_,λp m=>?_⟩
 .obtain⟨h1,a⟩:=h.kp w o l q;obtain⟨e,c⟩:=i _ _ h1 (.inr (.inr (.inl a)));exact⟨e,c.trans a⟩
 .rcases h.bd with h1|⟨h1,v,g,a,e,c⟩
  .exact .inl h1
  .obtain⟨s,r⟩:=i _ _ e (.inr (.inl c));exact .inr ⟨h1,v,g,a,s,r.trans c⟩
 .obtain⟨h1,a⟩:=h.bx p m;obtain⟨e,c⟩:=i _ _ h1 (.inr (.inr (.inr a)));exact⟨e,c.trans a⟩
theorem HI.old(h:HI H0 Hc ck sr n C M bad d b ow P Q){j t:Nat}{r:gT}{x:List Int}{k:Int}(f:j<n)(i:pW r (M j)=cc (t,x)) :
  HI H0 ((Hc.set (Q j t) (tj (x ++ [k]))).set (P j) (.map KS ((jN (Q j) 0 (M j)).set t (mH r,oI (Q j t) (x ++ [k]))))) ck sr n C (yy M j (pV r k (M j))) bad d b ow P Q:=by
 obtain⟨q,_⟩:=BD (k:=k) i;obtain⟨m,g⟩:=h.sg.mp j f;obtain⟨q1,q2⟩:=h.sg.ls j f t _ q;have s:P j≠Q j t:=λe=>by rw[e,q2]at g;simp at g
 have key:∀v o,Hc[v]? = cc o->v≠P j->v≠Q j t->((Hc.set (Q j t) (tj (x ++ [k]))).set (P j) (.map KS ((jN (Q j) 0 (M j)).set t (mH r,oI (Q j t) (x ++ [k])))))[v]? = cc o:=λv o a h1 l=>kM;refine h.rest (h.sg.old f i ?_ ?_ λv o a h1 l _=>key v o a h1 l) ?_ λv o a u=>⟨key v o a (λe=>?_) (λe=>?_),rfl⟩
 .grind
 .grind
 .rw[av,av];refine rR (rR h.ok (by unfold tj;exact Cs _)) ?_;have p:=h.ok _ (di m);refine aE.2 λy c=>?_;rcases et c with c|rfl
  .exact aE.1 p y c
  .show decide (Q j t<Hc.l)=true;exact decide_eq_true (kr q1)
 .grind
 .grind
theorem HI.new(h:HI H0 Hc ck sr n C M bad d b ow P Q){j:Nat}{r:gT}{k:Int}(l:j<n)(p:pW r (M j)=eB) :
  ∃c Q',HI H0 ((Hc.set (P j) (.map KS (jN (Q j) 0 (M j) ++ [(mH r,oI Hc.l [k])]))) ++ [tj [k]]) ck sr n C (yy M j (pV r k (M j))) bad d b c P Q'/\∀w,w<Hc.l->c w=ow w:=by
 obtain⟨g,s⟩:=h.sg.mp j l;have key:∀v o,Hc[v]? = cc o->v≠P j->((Hc.set (P j) (.map KS (jN (Q j) 0 (M j) ++ [(mH r,oI Hc.l [k])]))) ++ [tj [k]])[v]? = cc o:=λv o i h1=>kM
 obtain⟨c,Q',hs,f⟩:=h.sg.new (H':=(Hc.set (P j) (.map KS (jN (Q j) 0 (M j) ++ [(mH r,oI Hc.l [k])]))) ++ [tj [k]]) (v:=Hc.l) (k:=k) l p (kr h.ct) (ek _)
  (by rw[ah (by rw[av];exact kr g),aN (kr g)]) (by rw[ao (by rw[av];omega),av,b6];rfl) λw o f h1 _=>key w o f h1
 refine⟨c,Q',h.rest hs ?_ λv o i t=>⟨key v o i λe=>?_,f v (by have:=kr i;omega)⟩,λw hl=>f w U⟩
 .rw[aq,av,aT];refine wM (rR (zt U h.ok) ?_) λx m=>?_
  .have q:=h.ok _ (di g);refine aE.2 λy a=>?_;rcases ai.1 a with a|a
   .exact HQ U (aE.1 q y a)
   .rw[ej.1 a];show decide (Hc.l<Hc.l+1)=true;exact decide_eq_true U
  .rw[ej.1 m];unfold tj;exact Cs _
 .grind
end
def rT(b n k:Nat):List D:=(ez n).map λj=>if j<k then D.im (b+(j+1))else .val (.map eB)
def asL(b n:Nat):rT b n 0=eh n (.val (.map eB)):=by unfold rT;refine bH gP λi h1 a=>gP
def aex(b n k:Nat):(rT b n k).l=n:=by simp[rT]
def asM(b n:Nat):rT b n n=(ez n).map λj=>D.im (b+(j+1)):=by unfold rT;refine au λj a=>?_;rw[aZ]at a;rw[if_pos a]
def asN{b n k:Nat}(h:k<n):(rT b n k).take k ++ .im (b+(k+1))::(rT b n k).drop (k+1)=rT b n (k+1):=by
 refine bN λi=>?_;have hl:((rT b n k).take k).l=k:=by rw[aM,aex];omega
 by_cases h1:i<k
 .rw[ah U,b9 h1];unfold rT;rw[aw,aw,cF U];simp only[aK];rw[if_pos h1,if_pos U]
 .rw[ao U,hl]
  by_cases a:i=k
  .subst a;rw[b6,gA];unfold rT;rw[aw,cF h];simp only[aK];rw[if_pos U]
  .rw[(U:i-k=(i-k-1)+1),cH,aD,(U:k+1+(i-k-1)=i)];unfold rT;rw[aw,aw]
   by_cases c:i<n
   .grind
   .grind
def HI.start{H:gQ}{ck n:Nat}{o C:Ob}(gW:jZ H.l H)(f:H[ck]? = cc o)(h:pj (H.l+1) C=true) :
  ∃ow P Q,HI H (H.set ck C++(.row 170 0 (rT H.l n n)::eh n (.map KS []))) ck H.l n C (λ_=>[]) [] .gV eB ow P Q:=by
 have hl:=kr f;have c:∀j,j<n->(H.set ck C++(.row 170 0 (rT H.l n n)::eh n (.map KS [])))[H.l+(j+1)]? = cc (.map KS []):=λj a=>kM;refine⟨λv=>if v=ck then(0,0,0)else if v<H.l then(5,0,0)else if v=H.l then(1,0,0)else(2,v-H.l-1,0),λj=>H.l+(j+1),λ_ _=>0,⟨?_,?_,?_,λj a=>?_,λj a t x b=>?_⟩,?_,?_,hl,λv x i k=>⟨?_,?_⟩,.inl ⟨rfl,rfl⟩,λp g=>by cases g⟩
 .grind
 .grind
 .rw[ao (by rw[av];omega),av,b6,gA,asM]
 .refine⟨c j a,?_⟩;rw[if_neg U,if_neg U,if_neg U];congr 2;omega
 .cases b
 .grind
 .rw[aq,av,aF,fe];refine wM (rR (zt U gW) (adD U h)) λx b=>?_;rcases ak.1 b with rfl|b
  .refine aE.2 λd e=>?_;unfold rT at e;obtain⟨j,a,rfl⟩:=aj.1 e;rw[aZ]at a;rw[if_pos a];exact decide_eq_true U
  .simp_all
 .grind
 .grind
set_option maxRecDepth 10000
set_option maxHeartbeats 16000000
def ak5{p:iF->Bool}{L:List Cw}{k:Int}(k0:0<=k)(a:k<L.l):lq p (cs L) (k+1).n=if p (gt L k).c=true then lq p (cs L) k.n ++ [k]else lq p (cs L) k.n:=by
 have b:gt (cs L) k=(gt L k).c:=by unfold cs;rw[jU k0 (by rw[cp];exact a),jU k0 a,br]
 rw[(U:(k+1).n=k.n+1),lq,(U:((k.n:Nat):Int)=k),b]
def w5(L:List Cw):(cs L).l=L.l:=by simp[cs]
def Zh{cl:List iF}{n:Nat}(h:0<=mu cl n):mu cl n<n/\om (sd cl (mu cl n))=true:=by
 rcases IY cl n with⟨h1,_⟩|⟨h1,a,_⟩
 .omega
 .grind
attribute [-simp] pQ
def lB(g:gY)(l:List Pos)(nx:List (List Int))(dcl sd:D):List D:=g.cells ++ [iZ l,.sl 1 (nx.map fN),dcl,sd]
def uH{H:gQ}{v:Nat}{o:Ob}(h:H[v]? = cc o):H.set v o=H:=by obtain⟨h1,a⟩:=ae.1 h;rw[<-a,dW]
def ajE{p:iF->Bool}{s:iF->gT}{cl:List iF}{n t:Nat}{r:gT}{x:List Int}(h:pW r (rE p s cl n)=cc (t,x)):x.l<=n:=by obtain⟨h1,_⟩:=BD (k:=0) h;rw[(Ug (di h1)).1];exact yl _ _ ((G7 _ _ _).imp λh e=>U) λk a=>(Ck.1 a).1
def ajF{p:iF->Bool}{s:iF->gT}{cl:List iF}{n t:Nat}{r:gT}{x:List Int}(h:pW r (rE p s cl n)=cc (t,x)):x≠[]:=by obtain⟨h1,_⟩:=BD (k:=0) h;exact(Ug (di h1)).2
def JK{L:List Cw}{k:Int}(k0:0<=k)(a:k<L.l):gt (cs L) k=(gt L k).c:=by unfold cs;rw[jU k0 (by rw[cp];exact a),jU k0 a,br]
def Cr{n t g:Nat}{cs:List D}(h:iB cs=true):pj n (.row t g cs)=true:=aE.2 λd a=>E0 (nP h d a)
def CV(H:gQ)(ck:Nat)(L:List Cw)(dcl:D):Prop:=
 dcl = .sl 36 (L.map iW)\/(L = []/\dcl = .gV)\/∃v g,v≠ck/\dcl = .gR v g 36 0 L.l/\H[v]? = cc (.row 72 g (cl iW L))
def CV.len{H:gQ}{ck:Nat}{L:List Cw}{dcl:D}(h:CV H ck L dcl)(H':gQ):od .slice dcl H'=cc (.i L.l):=by
 rcases h with rfl|⟨rfl,rfl⟩|⟨v,g,_,rfl,_⟩
 .simp
 .rfl
 .simp
def CV.ix{H:gQ}{ck:Nat}{L:List Cw}{dcl:D}(h:CV H ck L dcl){k:Int}(k0:0<=k)(a:k<L.l) :
  ∃p,ot 36 dcl (.i k)=cc p/\∀H':gQ,(∀(v:Nat) (o:Ob),H[v]? = cc o->v≠ck->H'[v]? = cc o)->yg 36 p H'=cc (.agg ((iW (gt L k)).take 36)):=by
 have b:(iW (gt L k)).l=36:=Fl.len _;rcases h with rfl|⟨rfl,rfl⟩|⟨v,g,hc,rfl,hv⟩
 .refine⟨.ie (iW (gt L k)),?_,λH' _=>?_⟩
  .unfold ot;dsimp only;rw[if_pos ⟨rfl,k0,by rw[cp];exact a⟩,jU k0 a];simp[List.getD,dx (U:k.n<L.l)]
  .simp[b]
 .grind
 .simp_all
def CV.app{H:gQ}{ck:Nat}{L:List Cw}{dcl:D}(h:CV H ck L dcl)(G:gQ):CV (H++G) ck L dcl:=by
 rcases h with h|h|⟨v,g,b,e,a⟩
 .exact .inl h
 .exact .inr (.inl h)
 .exact .inr (.inr ⟨v,g,b,e,jl a⟩)
def ail{H:gQ}{ck:Nat}{g:gY}{l:List Pos}{nx:List (List Int)}{L:List Cw}{old dcl:D}(hd:CV H ck L dcl)(gW:jZ H.l H)(G:H[ck]? = cc (.row 168 0 (lB g l nx dcl old)))(hL:∀x∈L,x.ok)(h8:L.l<=100000)(h9:l.l<=1000)(h0:0<l.l) :
  Wf T 116 [.ptr ck 0 0] H (λd H'=>∃ow P Q,HI H H' ck H.l l.l (.row 168 0 (lB g l nx dcl (.gR H.l 0 1 0 l.l))) (hM (kq l.l) (cs L) L.l) (lq (λc => !kq l.l c) (cs L) L.l) d eB ow P Q):=by
 have qz:=kr G;have tK:=hd.len;have jV:kz (H.l+1) dcl=true:=HQ U (aE.1 (gW _ (di G)) dcl (by unfold lB;simp));have hG:GH H ck:=⟨qz,gW⟩;have rN:∀R o,(H++R).set ck o=H.set ck o++R:=λR o=>aP _ _ qz;have xe:∀R:gQ,(H++R)[ck]? = cc (.row 168 0 (lB g l nx dcl old)):=λR=>jl G;have hz:=asL H.l l.l;obtain⟨C,hC⟩:∃C,Ob.row 168 0 (lB g l nx dcl (.gR H.l 0 1 0 l.l))=C:=⟨_,rfl⟩
 have g0:pj (H.l+1) C=true:=by rw[<-hC];unfold lB;simp[jV]
 have ig:=HI.start (n:=l.l) gW G g0;rw[hC];have JO:C = .row 168 0 (g.cells ++ [iZ l,.sl 1 (nx.map fN),dcl,.gR H.l 0 1 0 l.l]):=hC.symm;have Gf:∀sd,(Ob.row 168 0 [.i g.size,.sl 1 (g.next.map fI),dI g.jC,.sl 3 (g.kinds.map Kind.cells),.i g.iw,.b g.me,dN 4 Clause.cells g.clauses,.i g.blocked,.i g.oV,iZ l,.sl 1 (nx.map fN),dcl,sd]) = .row 168 0 (lB g l nx dcl sd):=λsd=>by unfold lB;simp
 have X:∀(o:Ob) (R:gQ),(H.set ck o++R)[ck]? = cc o:=λo R=>hG.jl;have U2:∀(o:Ob) (R:gQ),(H.set ck o++R)[H.l]? = R[0]? := λo R=>hG.ajC;have sh:∀(o o':Ob) (R:gQ),(H.set ck o++R).set H.l o'=H.set ck o++R.set 0 o':=λo o' R=>hG.as2;refine Yg MU ?_;simp[MU,G,xe,rN,lB,<-hz,X];(with_reducible repeat' first|refine Xk ?_<;>try simp[G,xe,rN,lB,<-hz,X]|refine Xs ?_ ?_<;>intro h<;>(try intro h')<;>(try simp[h,G,xe,rN,lB,<-hz,X])<;>try omega|refine Xg ?_|omega);refine gZ.s (by simp[xe,rN,lB];rfl) ?_;rw[Gf,hC];refine gZ.e (0:Int) (λy=>[(0,.ptr ck 0 0),(3,.gV),(23,.i l.l),(24,.i y)]) (λy=>H.set ck C++(.row 170 0 (rT H.l l.l y.n)::eh y.n (.map KS []))) (λy=>0<=y/\y<=l.l) (λy=>(l.l-y).n) ?_ ?_
 .simp
 rintro y ⟨y0,y1⟩;dsimp only at y0 y1 ⊢
 by_cases hy:y<l.l
 .have m':=asN (b:=H.l) (n:=l.l) (k:=y.n) U;have jh:=aex H.l l.l y.n;simp[hy,X,U2,sh,JO,jh];refine kf (bf hy X) (bf U2 sh) (bf JO jh) ?_;have e5:pt (rT H.l l.l y.n) y (.im (H.l+(y.n+1)))=rT H.l l.l (y.n+1):=pK;refine LJ.i (y+1) gP ?_ rfl rfl nE;rw[e5,Gf,hC,(U:(y+1).n=y.n+1),fj];rfl
 have x5:y=l.l:=U;subst x5;obtain⟨ow,P,Q,a⟩:=ig;rw[bA];obtain⟨H1,DG⟩:∃H1,H.set ck C++(.row 170 0 (rT H.l l.l l.l)::eh l.l (.map KS []))=H1:=⟨_,rfl⟩;rw[DG]at a ⊢;have u:=a.ct;rw[JO]at u;clear DG X U2 sh hy y0 y1;simp[u,tK];refine ko u tK ?_;refine gZ.e ((H1,0,[],.gV):gQ×Int×List Int×D) (λy=>[(0,.ptr ck 0 0),(3,y.2.2.2),(38,dcl),(39,.i L.l),(40,.i y.2.1)]) (λy=>y.1) (λy=>(0<=y.2.1/\y.2.1<=L.l)/\y.2.2.1=lq (λc => !kq l.l c) (cs L) y.2.1.n/\y.2.2.1.l<=y.2.1.n/\∃ow P Q,HI H y.1 ck H.l l.l C (hM (kq l.l) (cs L) y.2.1.n) y.2.2.1 y.2.2.2 eB ow P Q) (λy=>(L.l-y.2.1).n) ?_ ?_
 .exact⟨gP,rfl,gP,ow,P,Q,a⟩
 clear a u;rintro⟨Hc,k,bad,TI⟩ ⟨⟨k0,k1⟩,DO,l4,ow,P,Q,a⟩;dsimp only at k0 k1 DO l4 a ⊢
 by_cases W:k<L.l
 .obtain⟨pp,vh,pE⟩:=hd.ix k0 W;have pE:=pE Hc λv o hv hc=>(a.kp v o hv hc).1;have J:=hL _ (ij k0 W);have c1:=ah5 (gt L k) J;have w:=ak5 (p:=λc => !kq l.l c) k0 W;rw[<-DO]at w;have vZ:=Qj J;rw[<-vZ]at c1;have A:(iW (gt L k)).l=36:=Fl.len _;have V:iB (iW (gt L k))=true:=Fl.cl _;have z:(iW (gt L k)).take 36=iW (gt L k):=af U;have u:=a.ct;rw[JO]at u;have B:∀R:gQ,(Hc++R)[ck]? = cc (.row 168 0 (g.cells ++ [iZ l,.sl 1 (nx.map fN),dcl,.gR H.l 0 1 0 l.l])):=λR=>jl u;obtain⟨p,hp⟩:∃p,snd (gt L k).c=p:=⟨_,rfl⟩;rw[hp]at c1;simp[W,vh,pE];refine pM A z vh pE ?_;simp[A,z];refine ke.c rfl rfl c1 (by simp[V]) gP ?_;have q:kq l.l (gt L k).c=(p&&decide ((gt L k).c.hi<=l.l)):=by unfold kq;rw[hp]
  have E:iW (gt L k)=D.i (gt L k).c.who::D.i (gt L k).c.lo::D.i (gt L k).c.hi::dE (gt L k).em (gt L k).c.es::cl fU (gt L k).c.root:=by rw[vZ];unfold Cw.cells;rfl
  have B1:(k.n:Int)=k:=U
  have QI:kq l.l (gt L k).c=false->hM (kq l.l) (cs L) (k+1).n=hM (kq l.l) (cs L) k.n:=λh=>by rw[(U:(k+1).n=k.n+1)];refine ajP ?_;rw[B1,JK k0 W];exact h
  cases p
  .rw[Bool.false_and]at q;simp only[q,Bool.not_false,if_true]at w;have hX:(iW (gt L k)).take 36++(D.i 0::D.i 0::D.i 0::D.gV::AL.cl fU (zs 32)).drop (min 36 (iW (gt L k)).l)=iW (gt L k):=pK;simp[A,z];refine ko A z ?_;rcases a.bd with⟨rfl,rfl⟩|⟨sX,v,gn,rfl,F,xO⟩
   .simp;refine gU ?_;refine LJ.i (_,k+1,[k],.gR (Hc.l+2) 0 1 0 1) gP rfl rfl rfl ?_;refine⟨iv,jc,w.symm,iz,?_⟩;dsimp only;rw[QI q,hX];have m:=(a.more (o:=.row 72 0 (iW (gt L k))) (Cr V) (7,0,0)).more (o:=.row 3 0 [.i k]) rfl (7,0,0);obtain⟨rm,Z⟩:=m.Zi k;exact⟨rm,P,Q,by simpa[tj,jw]using Z⟩
   .have BQ:∀R:gQ,(Hc++R)[v]? = cc (.row 3 gn (AL.cl f1 bad)):=λR=>jl F;have J0:∀(R:gQ) (o:Ob),(Hc++R).set v o=Hc.set v o++R:=λR o=>aP _ _ (kr F);simp[BQ,J0];refine ko BQ J0 ?_;refine LJ.i (_,k+1,bad ++ [k],.gR v (gn+1) 1 0 (bad.l+1)) gP rfl rfl rfl ?_;refine⟨iv,jc,w.symm,iz,?_⟩;dsimp only;rw[QI q,hX];have m:=((a.Zj (k:=k) sX F xO).more (o:=.row 72 0 (iW (gt L k))) (Cr V) (7,0,0)).more (o:=.row 3 0 [.i k]) rfl (7,0,0);exact⟨_,P,Q,by simpa using m⟩
  .rw[eW]at q
   by_cases DW:(gt L k).c.hi<=l.l
   .rw[decide_eq_true DW]at q;simp only[q,Bool.not_true,bQ,if_false]at w;have J7:¬(l.l:Int)<(gt L k).c.hi:=U;have KB:=L8 hp;have hX:(iW (gt L k)).take 36++(D.i 0::D.i 0::D.i 0::D.gV::AL.cl fU (zs 32)).drop (min 36 (iW (gt L k)).l)=iW (gt L k):=pK;have s7:=TG J.em
    have a2:(gt L k).c.root.take 32++(zs 32).drop (min 32 (gt L k).c.root.l)=(gt L k).c.root:=by rw[J.root,af (by rw[J.root];omega)];simp
    simp[A,z,hX,E,B,J7];refine pM (bf A z) (bf hX E) (bf B J7) s7 ?_;simp[s7,a2];refine gZ.s (by simp[a2,<-E];rfl) ?_;rw[hX];have hB:=a.box (o:=.row 72 0 (iW (gt L k))) (Cr V);have DX:(gt L k).c.hi=(gt L k).c.lo+(gt L k).c.es.l:=U;have N:gt (cs L) (k.n:Int)=(gt L k).c:=by rw[B1,JK k0 W]
    refine gZ.e ((Hc ++ [.row 72 0 (iW (gt L k))],0):gQ×Int) (λy=>[(0,.ptr ck 0 0),(3,TI),(5,.i k),(6,.ptr Hc.l 0 0),(38,dcl),(39,.i L.l),(40,.i k),(63,dE (gt L k).em (gt L k).c.es),(64,.i (gt L k).c.es.l),(65,.i y.2)]) (λy=>y.1) (λy=>(0<=y.2/\y.2<=(gt L k).c.es.l)/\∃ow P Q,HI H y.1 ck H.l l.l C (hP (kq l.l) (cs L) k.n y.2.n) bad TI (cc (Hc.l,.row 72 0 (iW (gt L k)))) ow P Q) (λy=>((gt L k).c.es.l-y.2).n) ?_ ?_
    .exact⟨gP,_,P,Q,by rw[show(((Hc ++ [Ob.row 72 0 (iW (gt L k))],0):gQ×Int).2).n=0 from rfl,ajS];exact hB⟩
    clear a hB u B;rintro⟨f,e⟩ ⟨⟨e0,e1⟩,ow,P,Q,a⟩;dsimp only at e0 e1 a ⊢
    by_cases K:e<(gt L k).c.es.l
    .have UZ:(gt L k).em=false:=by
      cases h:(gt L k).em with
      | false=>rfl
      | true=>rw[J.em h]at K;simp at K;omega
     have e8:dE (gt L k).em (gt L k).c.es=iS (gt L k).c.es:=by rw[UZ];rfl
     have u:=a.ct;rw[JO]at u;have B:∀R:gQ,(f++R)[ck]? = cc (.row 168 0 (g.cells ++ [iZ l,.sl 1 (nx.map fN),dcl,.gR H.l 0 1 0 l.l])):=λR=>jl u;have a9:∀R:gQ,(f++R)[Hc.l]? = cc (.row 72 0 (iW (gt L k))):=λR=>jl (a.bx _ rfl).1;have vm:∀R:gQ,(f++R)[H.l]? = cc (.row 170 0 ((ez l.l).map λj=>D.im (P j))):=λR=>jl a.sg.row;obtain⟨r,hr⟩:∃r,gt (gt L k).c.es e=r:=⟨_,rfl⟩;obtain⟨j,hj⟩:∃j:Nat,(gt L k).c.lo+e=j:=⟨((gt L k).c.lo+e).n,U⟩;have S:j<l.l:=U;have nz:=J.lo;rw[e8];simp[K,hr];refine ko K hr ?_;simp[B,a9,vm,E,hj,S];refine kf (bf B a9) (bf vm E) (bf hj S) ?_;have xT:(gt (cs L) (k.n:Int)).lo.n+e.n=j:=by rw[N];omega
     have ig:hP (kq l.l) (cs L) k.n (e+1).n=yy (hP (kq l.l) (cs L) k.n e.n) j (pV r k (hP (kq l.l) (cs L) k.n e.n j)):=by have:=ajR (ad:=kq l.l) (cl:=cs L) (k:=k.n) (e:=e.n) (by rw[N];exact KB.1);rw[xT,N,(U:(e.n:Int)=e),hr,B1]at this;rw[(U:(e+1).n=e.n+1)];exact this
     have a3:hP (kq l.l) (cs L) k.n e.n j=hM (kq l.l) (cs L) k.n j:=by have:=abA (ad:=kq l.l) (cl:=cs L) (k:=k.n) (e:=e.n) (by rw[N];exact KB.1);rw[xT]at this;exact this
     have iU:∀t x,pW r (hP (kq l.l) (cs L) k.n e.n j)=cc (t,x)->x≠[]/\x.l<=k.n:=λt x h=>by rw[a3]at h;exact⟨ajF h,ajE h⟩
     obtain⟨s,a4⟩:∃s,hP (kq l.l) (cs L) k.n e.n=s:=⟨_,rfl⟩;rw[a4]at a ig iU;clear a4 a3 xT;obtain⟨p1,p2⟩:=a.sg.mp j S;have I:=kr p1;have hS:∀(R:gQ) (o:Ob),(f++R).set (P j) o=f.set (P j) o++R:=λR o=>aP _ _ I
     cases hg:pW r (s j)with
     | none=>
      have O:∀R,AE (.ints [.i64,.i64]) .gV (.im (P j)) (.agg [.i r.1,.i r.2]) (f++R)=cc (.tup [.gV,.i (s j).l],.obj (P j) (.map KS (jN (Q j) 0 (s j) ++ [(mH r,.gV)]))):=λR=>al7 (jl p1) hg;have hN:∀(o:Ob) (R:gQ) (i:Nat),(f.set (P j) o++R)[f.l+i]? = R[i]? := λo R i=>kM
      have M:∀(d:D) (R:gQ),Dh (.im (P j)) (.i (s j).l) d (f.set (P j) (.map KS (jN (Q j) 0 (s j) ++ [(mH r,.gV)]))++R)=cc (.any,.obj (P j) (.map KS (jN (Q j) 0 (s j) ++ [(mH r,d)]))):=λd R=>by rw[aam (es:=jN (Q j) 0 (s j) ++ [(mH r,.gV)]) (k:=mH r) (d0:=.gV) (by rw[ah (by rw[av];exact I),aN I]) (by rw[ao (by rw[Dm];omega),Dm,b6];rfl)];rw[c8 _ _ (by rw[Dm];omega),Dm,b6];rfl
      have Y:∀(R:gQ) (o o':Ob),(f.set (P j) o++R).set (P j) o'=f.set (P j) o'++R:=λR o o'=>by rw[aP _ _ (by rw[av];exact I),List.set_set]
      simp[O,hS,hN,M,Y];refine kf (bf O hS) (bf hN M) Y ?_;refine LJ.i (_,e+1) gP rfl rfl rfl ?_;refine⟨iv,jc,?_⟩;dsimp only;rw[ig];have m:=(a.more (o:=.row 86 0 [.i r.1,.i r.2]) rfl (7,0,0)).more (o:=.row 3 0 [.i k]) rfl (7,0,0);obtain⟨rm,Q',Z,_⟩:=m.new (r:=r) (k:=k) S hg;refine⟨rm,P,Q',?_⟩;have K:(f ++ [Ob.row 86 0 [.i r.1,.i r.2]] ++ [Ob.row 3 0 [.i k]]).l=f.l+2:=gP;rw[K,aO,aP _ _ I]at Z;simpa[tj,jw,oI]using Z
     | some tx=>
      obtain⟨t,x⟩:=tx;obtain⟨e3,sm⟩:=iU t x hg;have l3:0<x.l:=ay.2 e3;obtain⟨q1,q2⟩:=a.sg.ls j S t _ (BD (k:=k) hg).1;have B9:=kr q1;have vi:P j≠Q j t:=λe=>by rw[e,q2]at p2;simp at p2
      have ze:∀R:gQ,(f++R)[Q j t]? = cc (.row 3 (x.l-1) (AL.cl f1 x)):=λR=>jl q1;have O:∀R,AE (.ints [.i64,.i64]) .gV (.im (P j)) (.agg [.i r.1,.i r.2]) (f++R)=cc (.tup [oI (Q j t) x,.i t],.obj (P j) (.map KS (jN (Q j) 0 (s j)))):=λR=>al8 (jl p1) hg;have Cc:f.set (P j) (.map KS (jN (Q j) 0 (s j)))=f:=uH p1;have hQ:∀(R:gQ) (o:Ob),(f++R).set (Q j t) o=f.set (Q j t) o++R:=λR o=>aP _ _ B9
      have M:∀(d:D) (o:Ob) (R:gQ),Dh (.im (P j)) (.i t) d (f.set (Q j t) o++R)=cc (.any,.obj (P j) (.map KS ((jN (Q j) 0 (s j)).set t (mH r,d)))):=λd o R=>by
       refine aam (k:=mH r) (d0:=oI (Q j t) x) ?_ ?_
       .rw[ah (by rw[av];exact I),aC (cP vi)];exact p1
       .rw[xK,(BD (k:=k) hg).1];simp
      have Y:∀(R:gQ) (o o':Ob),(f.set (Q j t) o++R).set (P j) o'=(f.set (Q j t) o).set (P j) o'++R:=λR o o'=>aP _ _ (by rw[av];exact I);simp[O,hS,Cc,ze,hQ,M,Y,oI];(with_reducible repeat' first|refine Xk ?_<;>try simp[O,hS,Cc,ze,hQ,M,Y,oI]|refine Xs ?_ ?_<;>intro h<;>(try intro h')<;>(try simp[h,O,hS,Cc,ze,hQ,M,Y,oI])<;>try omega|refine Xg ?_|omega);refine LJ.i (_,e+1) gP rfl rfl rfl ?_;refine⟨iv,jc,?_⟩;dsimp only;rw[ig];have m:=((a.old (r:=r) (k:=k) S hg).more (o:=.row 86 0 [.i r.1,.i r.2]) rfl (7,0,0)).more (o:=.row 3 0 [.i k]) rfl (7,0,0);have nS:(x ++ [k]).l-1=x.l-1+1:=iz;have l6:(x ++ [k]).l=x.l+1:=gP;have:oI (Q j t) (x ++ [k]) = .gR (Q j t) (x.l-1+1) 1 0 (x.l+1):=by unfold oI;rw[nS,l6]
      rw[this]at m;unfold tj at m;rw[nS]at m;rw[aO]at m;exact⟨_,P,Q,m⟩
    have n':e=(gt L k).c.es.l:=U
    have Ah:hP (kq l.l) (cs L) k.n e.n=hM (kq l.l) (cs L) (k+1).n:=by rw[(U:(k+1).n=k.n+1)];exact ajQ (by rw[N];exact q) (by rw[N];omega)
    rw[Ah]at a;simp[K];refine gU ?_;refine LJ.i (f,k+1,bad,TI) gP rfl rfl rfl ?_;exact⟨iv,jc,w.symm,iv,ow,P,Q,a.nob⟩
   .rw[decide_eq_false DW]at q;have J7:(l.l:Int)<(gt L k).c.hi:=U;simp only[q,Bool.not_false,if_true]at w;have hX:(iW (gt L k)).take 36++(D.i 0::D.i 0::D.i 0::D.gV::AL.cl fU (zs 32)).drop (min 36 (iW (gt L k)).l)=iW (gt L k):=pK;simp[A,z,hX,E,B,J7];refine kf (bf A z) (bf hX E) (bf B J7) ?_;rcases a.bd with⟨rfl,rfl⟩|⟨sX,v,gn,rfl,F,xO⟩
    .simp;refine gU ?_;refine LJ.i (_,k+1,[k],.gR (Hc.l+2) 0 1 0 1) gP rfl rfl rfl ?_;refine⟨iv,jc,w.symm,iz,?_⟩;dsimp only;rw[QI q,hX];have m:=(a.more (o:=.row 72 0 (iW (gt L k))) (Cr V) (7,0,0)).more (o:=.row 3 0 [.i k]) rfl (7,0,0);obtain⟨rm,Z⟩:=m.Zi k;exact⟨rm,P,Q,by simpa[tj,jw]using Z⟩
    .have BQ:∀R:gQ,(Hc++R)[v]? = cc (.row 3 gn (AL.cl f1 bad)):=λR=>jl F;have J0:∀(R:gQ) (o:Ob),(Hc++R).set v o=Hc.set v o++R:=λR o=>aP _ _ (kr F);simp[BQ,J0];refine ko BQ J0 ?_;refine LJ.i (_,k+1,bad ++ [k],.gR v (gn+1) 1 0 (bad.l+1)) gP rfl rfl rfl ?_;refine⟨iv,jc,w.symm,iz,?_⟩;dsimp only;rw[QI q,hX];have m:=((a.Zj (k:=k) sX F xO).more (o:=.row 72 0 (iW (gt L k))) (Cr V) (7,0,0)).more (o:=.row 3 0 [.i k]) rfl (7,0,0);exact⟨_,P,Q,by simpa using m⟩
 have xU:k=L.l:=U;subst xU;rw[bA]at a DO;rw[<-DO];simp;refine gU ?_;exact⟨ow,P,Q,a⟩
end Go.Proofs.YtmehofoficaelaaGreatDoor
namespace Go.Proofs.YtmehofoficaelaaGreatDoor
open Go Go.AL Classical
set_option maxRecDepth 10000
set_option maxHeartbeats 4000000
def ags{n:Nat}{N:Int->Int}{K:Int->Prop}(c:∀i,K i->(0<=i/\i<n)/\0<=N i)(h:∀i,K i->N i=0\/∃k,K k/\N k=N i-1):∀i,K i->N i<n:=by
 have b:∀(a:Nat) (i:Int),K i->N i=a->∀m:Nat,m<=a->∃q,K q/\N q=m:=by
  intro a
  induction a with
  | zero=>exactλi hi e m j=>⟨i,hi,U⟩
  | succ a d=>
   intro i hi e m j
   by_cases em:m=a+1
   .exact⟨i,hi,U⟩
   rcases h i hi with h1|⟨k,l,h1⟩
   .omega
   .exact d k l U m U
 intro i hi;have h0:=c i hi
 have:=wL (gd (n:=(N i).n+1)) (m:=(upto n).map λk=>(N k).n) λx f=>by obtain⟨q,g,e⟩:=b (N i).n i hi U x (by have:=aZ.1 f;omega);exact aj.2 ⟨q,l8.2 (c q g).1,by rw[e];rfl⟩
 simp[upto]at this;omega
def alM{A:mM}{n:Nat}{v:List gT}(hS:∀i:Int,0<=i->i<n->∀k∈gt A.nx i,0<=k/\k<n)(h:∀i:Int,0<=i->i<n->kE A v i){i:Int}(i0:0<=i)(d:i<n):0<=(gt v i).2/\(gt v i).2<n:=by
 refine⟨(h i i0 d).n0,ags (N:=λi=>(gt v i).2) (K:=λi=>0<=i/\i<n) (λi hi=>⟨hi,(h i hi.1 hi.2).n0⟩) (λi hi=>?_) i ⟨i0,d⟩⟩;rcases h i hi.1 hi.2 with⟨_,e2⟩|⟨_,⟨a,e,e2,⟨k,b,c⟩,_⟩|⟨a,e,e2,_,k,b,c⟩|⟨e2,_⟩⟩
 .left;rw[e2]
 .right;exact⟨k,hS i hi.1 hi.2 k b,by rw[e2,c]⟩
 .right;exact⟨k,hS i hi.1 hi.2 k b,by rw[e2,c]⟩
 .left;rw[e2]
def kV(v:List Kn):List gT:=v.map λx=>(x.1,x.2.1)
def kB(v:List Kn):List Bool:=v.map λx => !x.2.2
set_option maxHeartbeats 8000000
def ai5(g:gY)(hg:iE g)(l:List Pos)(b:qq g l)(h0:0<l.l)(v:List gT)(s:v.l=l.l)(u:∀k:Int,0<=k->k<v.l->0<=(gt v k).2/\(gt v k).2<=4000) :
  Wf T 42 [dG g,iZ l,iS v] [] (Ey (λn:Int=>.tup [.i n,.i 0]) λn=>n<0↔∀k:Int,0<=k->k<l.l->kE (jR g l (iq g l)) v k):=by
 have t:=b.len;have D:(iq g l).l=l.l:=by simp[iq]
 have iG:=λi i0 j=>(wI b (i:=i) i0 j).2
 have x:∀k:Int,0<=k->k<l.l->(gt (iq g l) k).l<=4000000000:=λk k0 k1=>by rw[(wI b k0 k1).1,cp];have:=Hm hg (b.ok _ (ij k0 k1));omega
 refine Yg OW ?_;simp[OW];refine Yc (f52 g hg l b h0) ?_;simp;refine gU ?_;refine gZ.e (0:Int) (λy=>[(2,iS v),(3,.ptr 0 0 0),(8,.sl 1 ((iq g l).map fN)),(30,iZ l),(31,.i l.l),(32,.i y)]) (λy=>[.row 43 0 g.cells]) (λy=>(0<=y/\y<=l.l)/\∀k:Int,0<=k->k<y->kE (jR g l (iq g l)) v k) (λy=>(l.l-y).n) ?_ ?_
 .exact⟨gP,λk k0 k1=>U⟩
 rintro i ⟨⟨i0,j⟩,m⟩;dsimp only at i0 j m ⊢
 have q:kE (jR g l (iq g l)) v i->∀k:Int,0<=k->k<i+1->kE (jR g l (iq g l)) v k:=λh k k0 k1=>by
  by_cases e:k=i
  .rw[e];exact h
  .exact m k k0 U
 by_cases hi:i<l.l
 .have C:=b.ok _ (ij i0 hi)
  have p:¬kE (jR g l (iq g l)) v i->Ex (λn:Int=>.tup [.i n,.i 0]) (λn=>n<0↔∀k:Int,0<=k->k<l.l->kE (jR g l (iq g l)) v k) (.tup [.i i,.i 0]) []:=λh=>
   ⟨i,rfl,rfl,⟨λc=>U,λc=>absurd (c i i0 hi) h⟩⟩
  simp[hi,sC];refine gU ?_;refine Yq (f56 v (gt (iq g l) i) (λk f=>by rw[s];exact iG i i0 hi k f) (x i i0 hi) (λk k0 k1=>u k k0 k1)) λr B=>?_;simp;refine gU ?_;refine Yc (f54 g hg (gt l i) C) ?_;simp;have w:(stat g (gt l i)).2=true->(kE (jR g l (iq g l)) v i↔gt v i=((stat g (gt l i)).1,0)):=λh=>alP (A:=jR g l (iq g l)) h;have d:(stat g (gt l i)).2=false->(kE (jR g l (iq g l)) v i↔gt v i=r):=λh=>FE.iff (A:=jR g l (iq g l)) (λk f=>(u k (iG i i0 hi k f).1 (by rw[s];exact(iG i i0 hi k f).2)).1) h B;(with_reducible repeat' first|refine Xk ?_<;>try simp|refine Xs ?_ ?_<;>intro h<;>(try intro E)<;>(try simp[h])<;>try omega|refine Xg ?_|omega)
  .have a:=(w ‹_›).2 (cZ km km);refine LJ.e (i+1) ?_;exact⟨U,jc,q a⟩
  .have a:¬kE (jR g l (iq g l)) v i:=λh=>absurd ((w ‹_›).1 h) (by intro e;simp_all);obtain⟨n,h1,c,o⟩:=p a;exact Ey.i n h1 c o
  .have a:=(d pK).2 (cZ pK pK);refine LJ.e (i+1) ?_;exact⟨U,jc,q a⟩
  .have a:¬kE (jR g l (iq g l)) v i:=λh=>absurd ((d pK).1 h) (by intro e;simp_all);obtain⟨n,h1,c,o⟩:=p a;exact Ey.i n h1 c o
 .have z:i=l.l:=by omega
  subst z;simp;refine gU ?_;exact Ey.i (-1) rfl rfl ⟨λ_=>m,λ_=>U⟩
end Go.Proofs.YtmehofoficaelaaGreatDoor
namespace Go.Proofs.YtmehofoficaelaaGreatDoor
open Go Go.AL Classical
set_option maxRecDepth 10000
set_option maxHeartbeats 16000000
attribute [-simp] pQ
def agD{l:List gT}{n:Int}(n0:0<=n)(h:n<l.l)(a:Int):(cl fS l).take (n.n*2) ++ .i a::(cl fS l).drop (n.n*2+1)=cl fS (pt l n (a,(gt l n).2)):=by
 have e:(cl fS l).drop (n.n*2+1) = .i (gt l n).2::(cl fS l).drop (n.n*2+2):=by
  have h1:(cl fS l).drop (n.n*2) = .i (gt l n).1 :: .i (gt l n).2::cl fS (l.drop (n.n+1)):=by rw[xG,pa n0 h,oG,z6];rfl
  have b:(cl fS l).drop (n.n*2+2)=cl fS (l.drop (n.n+1)):=by rw[(U:n.n*2+2=(n.n+1)*2),xG]
  rw[b,<-cJ,h1];rfl
 rw[e];exact pN a _
def Lp{n:Nat}{H G:gQ}(h:jZ H.l H)(a:n=H.l)(b:jZ n G):jZ (H++G).l (H++G):=by subst a;rw[aq];exact wM (zt U h) (zt U b)
section
variable{H:gQ}{ck sr n:Nat}{M:Nat->lr}{ow:Nat->Nat×Nat×Nat}{P:Nat->Nat}{Q:Nat->Nat->Nat}{cells:List D}
theorem nI.app(h:nI H ck sr n M ow P Q)(G:gQ):nI (H++G) ck sr n M ow P Q:=h.mono λ_ _ a _=>jl a
theorem aaL(j:nI H ck sr n M ow P Q)(gW:jZ H.l H)(g:H[ck]? = cc (.row 168 0 cells))(e:cells[12]? = cc (.gR sr 0 1 0 n))
  {cm:List iF} (t:cm.l<=100000) {i:Int} (i0:0<=i) (h:i<n) (hM:M i.n=iH cm i) {t2 t3:Nat} (a:H[t2]? = cc (.row 157 0 [.ptr ck 0 0])) (u:H[t3]? = cc (.row 3 0 [.i i])) (q:gT) :
  Wf T 186 [.agg [.i q.1,.i q.2],.ptr t2 0 0,.ptr t3 0 0] H (λd H'=>d=dN 1 f1 (lq (λc=>kN c i&&decide (lW c i≠q)) cm cm.l)/\H'=H):=by
 have f:∀R:gQ,(H++R)[t2]? = cc (.row 157 0 [.ptr ck 0 0]):=λR=>jl a;have b:∀R:gQ,(H++R)[t3]? = cc (.row 3 0 [.i i]):=λR=>jl u;refine Yg Nc ?_;simp[Nc,f,b];refine ik.kZ rfl rfl (TW (H:=H ++ [.row 86 0 [.i q.1,.i q.2]]) (j.app _) (Lp gW rfl λo l=>by rw[ej.1 l];rfl) (jl g) e t i0 h hM (w:=λr=>decide (r≠q)) λr dst s K m k=>?_) ?_
 .have p:=m H.l (.row 86 0 [.i q.1,.i q.2]) gP;exact Yr (aiE r q) k rfl rfl (by simp[p])
 .rintro _ H' ⟨rfl,rfl⟩;simp[yh gW]
