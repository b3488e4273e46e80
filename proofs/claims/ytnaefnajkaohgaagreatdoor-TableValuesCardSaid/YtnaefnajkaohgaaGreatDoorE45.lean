/- Part 45 of the proof of skewer.skewerlaw15.TableValues. -/
import Derived.Test.YtnaefnajkaohgaaGreatDoorE43
import Derived.Test.YtnaefnajkaohgaaGreatDoorE38
import Derived.Test.YtnaefnajkaohgaaGreatDoorE39
import Derived.Test.YtnaefnajkaohgaaGreatDoorE40
import Derived.Test.YtnaefnajkaohgaaGreatDoorE30
import Derived.Test.YtnaefnajkaohgaaGreatDoorE44
import Derived.Test.YtnaefnajkaohgaaGreatDoorE41
import Derived.Test.YtnaefnajkaohgaaGreatDoorE14
set_option linter.all false
namespace Go.Proofs.YtnaefnajkaohgaaGreatDoor
open Go Go.AL Classical
set_option maxRecDepth 10000
set_option maxHeartbeats 16000000
theorem fw.s{T:gj}{f:FuncId}{args:List D}{dst:Option Nat}{s s':St}{K:St→Prop}(hs:s=s')(h:fw T f args dst s' K .mk):fw T f args dst s K .mk:=by subst hs;exact h
end Go.Proofs.YtnaefnajkaohgaaGreatDoor
namespace Go.Proofs.YtnaefnajkaohgaaGreatDoor
open Go Go.AL Classical
set_option maxRecDepth 10000
set_option maxHeartbeats 8000000
def H0(g:eU)(n:Nat)(v:List eY)(lf:List Int):U:=[.row 41 0 g.cells,.row 58 0 (cl fS v),.row 52 0 [.eT 1 0 2 0 n],.row 3 0 (cl f1 lf),.row 33 0 [.emp]]
def HV(g:eU)(n:Nat)(v:List eY)(lf:List Int)(γ:Nat)(L:List Int)(h:Nat):U:=
 [.row 41 0 g.cells,.row 58 0 (cl fS v),.row 52 0 [.eT 1 0 2 0 n],.row 3 0 (cl f1 lf),.row 33 0 [.eT 5 γ 1 h (L.length-h)],.row 3 γ (cl f1 L)]
def HX(g:eU)(n:Nat)(v:List eY)(lf:List Int)(γ:Nat)(L:List Int)(h:Nat):U:=match L with
 | []=>H0 g n v lf
 | a::r=>HV g n v lf γ (a::r) h
theorem kJ{g:eU}{n:Nat}{v:List eY}{lf L:List Int}{γ h:Nat}(hL:L≠[]):HX g n v lf γ L h=HV g n v lf γ L h:=by
 cases L with
 | nil=>exact absurd rfl hL
 | cons a r=>rfl
theorem RB{g:eU}{n:Nat}{v:List eY}{lf L:List Int}{γ h:Nat}{live:List Nat}{env:Env}(E:Env)(hE:lr 5 E)(he:forget live env=E)(r:Bool) :
  cut 5 live { env:=env,H:=HX g n v lf γ L h,marks:=[],fG:=r } = { env:=E,H:=HX g n v lf γ L h,marks:=[],fG:=r }:=by
 cases L with
 | nil=>rw[xA (by simp[HX,H0]),he]
 | cons a R=>
  subst he
  rw[pz (by simp[HX,HV])]
  have h1:((forget live env).map fun p=>gG 5 p.2).flatten = []:=List.flatten_eq_nil_iff.2 fun x hx=>by
   obtain⟨p,hp,rfl⟩:=ao.1 hx
   exact(hE p hp).1
  have hr:tl 5 (forget live env) (HX g n v lf γ (a::R) h) [] = [5]:=by
   unfold tl
   rw[h1]
   simp[HX,HV]
  rw[hr]
  unfold xy
  have h2:((forget live env).map fun p=>(p.1,eZ (fL (gq 5 [5])) (HX g n v lf γ (a::R) h) 40 p.2))=forget live env:=by
   conv=>rhs;rw[← aT (forget live env)]
   refine aj fun p hp=>?_
   rw[(hE p hp).2 _ _ fun v hv=>?_]
   ·rfl
   ·have:v=0∨v=1∨v=2∨v=3∨v=4:=by omega
    rcases this with rfl|rfl|rfl|rfl|rfl<;>rfl
  rw[h2]
  simp[HX,HV,gq,List.range_succ,pk,iL]
theorem zk{g:eU}{n:Nat}{v:List eY}{lf L:List Int}{γ h:Nat}:(HX g n v lf γ L h).length=if L = []then 5 else 6:=by
 cases L<;>rfl
theorem Mz:∀ (L:List Int) (h:Nat),h<L.length→(cl f1 L)[h]? = some (.i (gt L (h:Int)))
 | a::r,0,_=>by rw[ni,rC];rfl
 | a::r,h+1,hh=>by
  rw[ni,rC,dO,cB,Mz r h (by simpa using hh)]
  rfl
theorem EJ{v:List eY}{n:Int}(h:n.toNat<v.length):(cl fS v)[n.toNat*2]? = some (.i (gt v n).1):=by
 have:=HS h
 rw[tY]at this
 have h2:((cl fS v).drop (n.toNat*2))[0]? = some (.i (gt v n).1):=by rw[this];rfl
 rwa [aB,bS]at h2
theorem Sq{v:List eY}{n:Int}(h:n.toNat<v.length):(cl fS v)[n.toNat*2+1]? = some (.i (gt v n).2):=by
 have:=HS h
 rw[tY]at this
 have h2:((cl fS v).drop (n.toNat*2))[1]? = some (.i (gt v n).2):=by rw[this];rfl
 rwa [aB]at h2
theorem ab4{n k v w:Nat}{f:Fn}{env:Env}(hv:v<n)(hw:w<n)(h:lr n env):lr n ((k,.fn f [] [.ptr v 0 0,.ptr w 0 0])::env):=fun p hp=>by
 rcases aq.1 hp with rfl|hp
 ·exact⟨rfl,fun ρ H jE=>by rw[AL.adM];simp[jE v hv,jE w hw]⟩
 ·exact h p hp
theorem fe.K{T:gj}{live:List Nat}{a:IR}{s:St}{K K':gA}(hK:K=K')(h:fe T live a s K' .mk):fe T live a s K .mk:=by subst hK;exact h
theorem RC(g:eU)(n:Nat)(lf L:List Int)(γ h:Nat):∃ G:U,∀ v,HX g n v lf γ L h = .row 41 0 g.cells :: .row 58 0 (cl fS v) :: .row 52 0 [.eT 1 0 2 0 n]::G:=by
 cases L with
 | nil=>exact⟨_,fun v=>rfl⟩
 | cons a r=>exact⟨_,fun v=>rfl⟩
section
variable{nx:List (List Int)}
theorem Mo(i:Int):∀ (r:List Int) (bs:List (List Int)),(∀ k∈r,0≤k∧k<bs.length)→∀ j:Int,0≤j→∀ k:Int,(gt (mT i r bs) j).count k=(gt bs j).count k+if k=i then r.count j else 0
 | [],_,_,_,_,_=>by simp[mT]
 | q::r,bs,h,j,hj,k=>by
  have h1:=h q (by simp)
  have h2:=gI (v:=gt bs q ++ [i]) h1.1 h1.2
  rw[mT,Mo i r _ (fun j hj=>by rw[h2];exact h j (by simp[hj])) j hj k,mb h1.1 h1.2 hj,List.count_cons]
  by_cases e:j=q
  ·subst e
   rw[if_pos rfl,cY,da]
   by_cases e2:k=i
   ·subst e2;simp;omega
   ·have:¬ i=k:=fun e=>e2 e.symm
    simp[e2,this]
  ·rw[if_neg e]
   have:¬ q=j:=fun h=>e h.symm
   simp[this]
theorem Mm(hk:∀ x∈nx,∀ k∈x,0≤k∧k<nx.length):∀ n:Nat,n≤nx.length→∀ j:Int,0≤j→∀ k:Int,0≤k→(gt (kL nx n) j).count k=if k<n then(gt nx k).count j else 0
 | 0,_,j,hj,k,k0=>by
  have:∀ a∈kL nx 0,a = []:=fun a ha=>dq ha
  rw[if_neg (by omega)]
  by_cases h:j<(kL nx 0).length
  ·rw[this _ (ff hj h)];simp
  ·unfold gt
   rw[List.getD_eq_getElem?_getD,aI (by omega)]
   rfl
 | n+1,h,j,hj,k,k0=>by
  rw[kL,Mo n _ _ (by rw[sB hk n (by omega)];exact hk _ (ff (by omega) (by omega))) j hj k,Mm hk n (by omega) j hj k k0]
  by_cases e:k=n
  ·subst e;simp;omega
  ·rw[if_neg e]
   by_cases e2:k<n
   ·rw[if_pos e2,if_pos (by omega)];rfl
   ·rw[if_neg e2,if_neg (by omega)]
theorem Mp(i:Int):∀ (r:List Int) (bs:List (List Int)),(∀ k∈r,0≤k∧k<bs.length)→∀ j:Int,0≤j→∀ k∈gt (mT i r bs) j,k∈gt bs j∨k=i
 | [],_,_,_,_,_,h=>.inl h
 | q::r,bs,h,j,hj,k,hk=>by
  have h1:=h q (by simp)
  have h2:=gI (v:=gt bs q ++ [i]) h1.1 h1.2
  rw[mT]at hk
  rcases Mp i r _ (fun j hj=>by rw[h2];exact h j (by simp[hj])) j hj k hk with h3|h3
  ·rw[mb h1.1 h1.2 hj]at h3
   split at h3
   ·rename_i e
    rw[e]
    rcases List.mem_append.1 h3 with h4|h4
    ·exact .inl h4
    ·exact .inr (List.mem_singleton.1 h4)
   ·exact .inl h3
  ·exact .inr h3
theorem Mn(hk:∀ x∈nx,∀ k∈x,0≤k∧k<nx.length):∀ n:Nat,n≤nx.length→∀ j:Int,0≤j→∀ k∈gt (kL nx n) j,0≤k∧k<n
 | 0,_,j,hj,k,hm=>by
  have:∀ a∈kL nx 0,a = []:=fun a ha=>dq ha
  by_cases h:j<(kL nx 0).length
  ·rw[this _ (ff hj h)]at hm;cases hm
  ·unfold gt at hm
   rw[List.getD_eq_getElem?_getD,aI (by omega)]at hm
   cases hm
 | n+1,h,j,hj,k,hm=>by
  rw[kL]at hm
  rcases Mp n _ _ (by rw[sB hk n (by omega)];exact hk _ (ff (by omega) (by omega))) j hj k hm with h1|h1
  ·have:=Mn hk n (by omega) j hj k h1;omega
  ·omega
end
theorem f29(g:eU)(hg:fr g)(l:List Pos)(hc:mQ g l)(h0:0<l.length):Wf T 29 [dG g,gb l] [] (Ey (fun v=>.tup [gQ v,.i 0]) fun v=>v.length=l.length∧∀ k:Int,0≤k→k<l.length→kK (lM g l (fE g l)) v k):=by
 have hlen:=hc.len
 have AH:(fE g l).length=l.length:=by simp[fE]
 refine Yg DG ?_
 simp[DG]
 refine Yc (f52 g hg l hc h0) ?_
 simp
 (with_reducible repeat' first|refine Xk ?_<;>try simp|refine Xs ?_ ?_<;>intro h<;>(try intro h')<;>(try simp[h])<;>(try omega)|refine Xg ?_|omega)
 refine fe.e ((0,List.replicate l.length (0,0),List.replicate l.length 0,[]):Int×List eY×List Int×List Int) (fun y=>[(2,.ptr 0 0 0),(6,.sl 1 ((fE g l).map fN)),(8,.ptr 2 0 0),(9,.eT 3 0 1 0 l.length),(10,.ptr 4 0 0),(11,.fn (.func 53) [] [.ptr 2 0 0,.ptr 4 0 0]),(37,gb l),(38,.i l.length),(39,.i y.1)]) (fun y=>HX g l.length y.2.1 y.2.2.1 (y.2.2.2.length-1) y.2.2.2 0) (fun y=>0≤y.1∧y.1≤l.length∧VS (lM g l (fE g l)) l.length y.1 y.2.2.2 y.2.1 y.2.2.1) (fun y=>(l.length-y.1).toNat) ?_ ?_
 ·exact⟨by simp,by simp,VS.start _ _⟩
 rintro⟨i,v,lf,R⟩ ⟨i0,i1,hS⟩
 dsimp only at i0 i1 hS ⊢
 by_cases hi:i<l.length
 ·have hp:=hc.ok _ (ff i0 hi)
  have sU:=hS.ll
  have gT:=hS.vl
  by_cases hR:R = []
  ·subst hR
   simp[hi,HX,H0,oa]
   (with_reducible repeat' first|refine Xk ?_<;>try simp|refine Xs ?_ ?_<;>intro h<;>(try intro h')<;>(try simp[h])<;>(try omega)|refine Xg ?_|omega)
   refine Yc (f54 g hg (gt l i) hp) ?_
   simp
   (with_reducible repeat' first|refine Xk ?_<;>try simp|refine Xs ?_ ?_<;>intro h<;>(try intro h')<;>(try simp[h])<;>(try omega)|refine Xg ?_|omega)
   ·refine fw.s (by simp;rfl) ?_
    refine fw.nC rfl rfl (TM g l.length v _ (gt l i) i (stat g (gt l i)).1 0 ⟨i0,hi⟩ gT) ?_
    rintro _ H' ⟨rfl,rfl⟩
    simp
    (with_reducible repeat' first|refine Xk ?_<;>try simp|refine Xs ?_ ?_<;>intro h<;>(try intro h')<;>(try simp[h])<;>(try omega)|refine Xg ?_|omega)
    refine LJ.i (i+1,pt v i ((stat g (gt l i)).1,0),pt lf i (gt (fE g l) i).length,[i]) (by first|rfl|simp[HX,HV,gL]) (by first|rfl|simp[HX,HV,gL]) rfl rfl ?_
    exact⟨by dsimp only;omega,by dsimp only;omega,by dsimp only;omega,hS.yes i0 hi ‹_›⟩
   refine LJ.i (i+1,v,pt lf i (gt (fE g l) i).length,[]) (by first|rfl|simp[HX,H0]) (by first|rfl|simp[HX,H0]) rfl rfl ?_
   exact⟨by dsimp only;omega,by dsimp only;omega,by dsimp only;omega,hS.no i0 hi ‹_›⟩
  ·have hRl:=az.2 hR
   simp[hi,kJ hR,HV,oa]
   (with_reducible repeat' first|refine Xk ?_<;>try simp[kJ hR,HV]|refine Xs ?_ ?_<;>intro h<;>(try intro h')<;>(try simp[h,kJ hR,HV])<;>(try omega)|refine Xg ?_|omega)
   refine Yc (f54 g hg (gt l i) hp) ?_
   simp
   (with_reducible repeat' first|refine Xk ?_<;>try simp[kJ hR,HV]|refine Xs ?_ ?_<;>intro h<;>(try intro h')<;>(try simp[h,kJ hR,HV])<;>(try omega)|refine Xg ?_|omega)
   ·refine fw.s (by simp[kJ hR,HV];rfl) ?_
    refine fw.nC rfl rfl (Ir g l.length v _ R (R.length-1) 0 [.row 44 0 (gt l i).cells] (.inr ⟨_,rfl⟩) i (stat g (gt l i)).1 0 ⟨i0,hi⟩ gT (by have:=wE (P:=[]) (R:=R) (n:=l.length) (by simpa using hS.nd) (fun k hk=>by have:=((hS.qr k).1 (by simpa using hk)).1;omega);simp at this;omega) (by omega)) ?_
    rintro _ H' ⟨rfl,rfl⟩
    simp[kJ hR,HV]
    (with_reducible repeat' first|refine Xk ?_<;>try simp[kJ hR,HV]|refine Xs ?_ ?_<;>intro h<;>(try intro h')<;>(try simp[h,kJ hR,HV])<;>(try omega)|refine Xg ?_|omega)
    refine LJ.i (i+1,pt v i ((stat g (gt l i)).1,0),pt lf i (gt (fE g l) i).length,R ++ [i]) (by first|rfl|simp[kJ,HV,gL,show R.length-1+1=R.length by omega]) (by first|rfl|simp[kJ,HV,gL,show R.length-1+1=R.length by omega]) rfl rfl ?_
    exact⟨by dsimp only;omega,by dsimp only;omega,by dsimp only;omega,hS.yes i0 hi ‹_›⟩
   refine LJ.i (i+1,v,pt lf i (gt (fE g l) i).length,R) (by first|rfl|simp[kJ hR,HV]) (by first|rfl|simp[kJ hR,HV]) rfl rfl ?_
   exact⟨by dsimp only;omega,by dsimp only;omega,by dsimp only;omega,hS.no i0 hi ‹_›⟩
 ·have fF:i=l.length:=by omega
  subst fF
  obtain⟨hB,hU⟩:=hS.done fun k hk=>by have:=aek hg hk;show(stat g (gt l k)).1≠0;omega
  have Ap:∀ (env:Env) (r:Bool),forget [6,8,9,10,11] env = [(6,.sl 1 ((fE g l).map fN)),(8,.ptr 2 0 0),(9,.eT 3 0 1 0 l.length),(10,.ptr 4 0 0),(11,.fn (.func 53) [] [.ptr 2 0 0,.ptr 4 0 0])]→cut 5 [6,8,9,10,11] { env:=env,H:=HX g l.length v lf (R.length-1) R 0,marks:=[],fG:=r } = { env:=[(6,.sl 1 ((fE g l).map fN)),(8,.ptr 2 0 0),(9,.eT 3 0 1 0 l.length),(10,.ptr 4 0 0),(11,.fn (.func 53) [] [.ptr 2 0 0,.ptr 4 0 0])],H:=HX g l.length v lf (R.length-1) R 0,marks:=[],fG:=r }:=fun env r he=>by
   refine RB _ ?_ he r
   exact mM (zL _) (Ks (by omega) (yx (by omega) (Ks (by omega) (ab4 (by omega) (by omega) wI))))
  simp[Ap]
  (with_reducible repeat' first|refine Xk ?_<;>try simp|refine Xs ?_ ?_<;>intro h<;>(try intro h')<;>(try simp[h])<;>(try omega)|refine Xg ?_|omega)
  have fF:=fun i i0 i1=>(r8 hc (i:=i) i0 i1).2
  have gX:∀ k:Int,0≤k→k<l.length→(gt (fE g l) k).length≤4000000000:=fun k k0 k1=>by
   rw[(r8 hc k0 k1).1,List.length_map]
   have:=Bj hg (hc.ok _ (ff k0 k1));omega
  have Ja:∀ k:Int,0≤k→k<l.length→∀ c∈gt (lM g l (fE g l)).nx k,0≤c∧c<l.length:=fF
  have l4:∀ x∈fE g l,∀ k∈x,0≤k∧k<(fE g l).length:=fun x hx k hk=>by
   obtain⟨a,a0,a1,rfl⟩:=qm.1 hx
   rw[AH]at a1 ⊢
   exact fF a a0 a1 k hk
  have kA:∀ x∈fE g l,x.length≤4000000000:=fun x hx=>by
   obtain⟨a,a0,a1,rfl⟩:=qm.1 hx
   rw[AH]at a1
   exact gX a a0 a1
  refine Yc (f55 (fE g l) l4 (by omega) kA) ?_
  simp
  (with_reducible repeat' first|refine Xk ?_<;>try simp|refine Xs ?_ ?_<;>intro h<;>(try intro h')<;>(try simp[h])<;>(try omega)|refine Xg ?_|omega)
  refine fe.K (by simp[Ap,zk];rfl) ?_
  generalize oG:kL (fE g l) (fE g l).length=bs
  refine fe.s (by simp[Ap];rfl) ?_
  refine fe.e ((v,lf,R.length-1,R,0,[]):List eY×List Int×Nat×List Int×Nat×List Int) (fun y=>[(8,.ptr 2 0 0),(9,.eT 3 0 1 0 l.length),(10,.ptr 4 0 0),(11,.fn (.func 53) [] [.ptr 2 0 0,.ptr 4 0 0]),(16,.sl 1 (bs.map fN))]) (fun y=>HX g l.length y.1 y.2.1 y.2.2.1 y.2.2.2.1 y.2.2.2.2.1) (fun y=>VB (lM g l (fE g l)) l.length y.2.2.2.2.2 (y.2.2.2.1.drop y.2.2.2.2.1) y.1 y.2.1∧US (lM g l (fE g l)) l.length y.2.2.2.2.2 (y.2.2.2.1.drop y.2.2.2.2.1) [] 0 y.1 y.2.1∧y.2.2.2.1.length≤l.length∧(y.2.2.2.1 = []↔R = [])) (fun y=>l.length-y.2.2.2.2.2.length) ?_ ?_
  ·exact⟨hB,hU,by have:=wE hB.nd hB.qr;simpa using this,dx⟩
  dsimp only
  rw[zk]
  clear hB hU hS hi i0 i1
  rintro⟨v,lf,γ,L,h,P⟩ ⟨hB,hU,rH,Fu⟩
  dsimp only at hB hU rH Fu ⊢
  have lE:=wE hB.nd hB.qr
  rw[ax]at lE
  cases hR:L.drop h with
  | nil=>
   rw[hR]at hB hU
   have hq:L.length-h=0:=by
    have:(L.drop h).length=0:=by rw[hR];rfl
    rwa [br]at this
   by_cases hL:L = []
   case' pos=>
    have mc:=Fu.1 hL
    simp[hL,HX,H0,mc]
    (with_reducible repeat' first|refine Xk ?_<;>try simp[hL,mc]|refine Xs ?_ ?_<;>intro h<;>(try intro h')<;>(try simp[h,hL,mc])<;>(try omega)|refine Xg ?_|omega)
    refine fe.s (s':={ env:=[(136,.i 0),(135,.i l.length),(134,.eT 1 0 2 0 l.length),(8,.ptr 2 0 0)],H:=HX g l.length v lf γ L h }) (by simp[mc,hL,HX,H0]) ?_
    refine fe.K (by simp[mc,zk,hL];rfl) ?_
   case' neg=>
    have mc:¬ _ = []:=fun e=>hL (Fu.2 e)
    simp[kJ hL,HV,mc,hq]
    (with_reducible repeat' first|refine Xk ?_<;>try simp[kJ hL,HV,mc,hq]|refine Xs ?_ ?_<;>intro h<;>(try intro h')<;>(try simp[h,kJ hL,HV,mc,hq])<;>(try omega)|refine Xg ?_|omega)
    refine fe.s (s':={ env:=[(136,.i 0),(135,.i l.length),(134,.eT 1 0 2 0 l.length),(8,.ptr 2 0 0)],H:=HX g l.length v lf γ L h }) (by simp[mc,kJ hL,HV]) ?_
    refine fe.K (by simp[mc,zk,kJ hL,HV];rfl) ?_
   all_goals
    obtain⟨G,hX⟩:=RC g l.length lf L γ h
    have gT:=hB.vl
    refine fe.e ((0,v):Int×List eY) (fun y=>[(8,.ptr 2 0 0),(135,.i l.length),(136,.i y.1)]) (fun y=>HX g l.length y.2 lf γ L h) (fun y=>0≤y.1∧y.1≤l.length∧y.2.length=l.length∧∀ k:Int,0≤k→k<l.length→gt y.2 k=if k<y.1∧(gt v k).1=0 then(2,(gt v k).2)else gt v k) (fun y=>(l.length-y.1).toNat) ?_ ?_
    ·exact⟨by simp,by simp,gT,fun k k0 k1=>by rw[if_neg (by dsimp only;omega)]⟩
    rintro⟨i,w⟩ ⟨i0,i1,w0,w1⟩
    dsimp only at i0 i1 w0 w1 ⊢
    by_cases hi:i<l.length
    ·have c0:=EJ (v:=w) (n:=i) (by omega)
     have F8:=w1 i i0 hi
     rw[if_neg (by omega)]at F8
     simp[hi,hX]
     (with_reducible repeat' first|refine Xk ?_<;>try simp[hX]|refine Xs ?_ ?_<;>intro h<;>(try intro h')<;>(try simp[h,hX])<;>(try omega)|refine Xg ?_|omega)
     simp[c0]
     (with_reducible repeat' first|refine Xk ?_<;>try simp[hX]|refine Xs ?_ ?_<;>intro h<;>(try intro h')<;>(try simp[h,hX])<;>(try omega)|refine Xg ?_|omega)
     ·have Ao:=HT (l:=w) (n:=i) (by omega) 2
      refine LJ.i (i+1,pt w i (2,(gt w i).2)) (by first|rfl|simp) (by rw[hX,← Ao];rfl) rfl rfl ?_
      refine⟨by dsimp only;omega,by dsimp only;omega,by dsimp only;omega,?_,fun k k0 k1=>?_⟩
      ·dsimp only;rw[gI i0 (by omega)];exact w0
      ·dsimp only
       rw[mb i0 (by omega) k0]
       by_cases e:k=i
       ·subst e
        rw[if_pos rfl,if_pos ⟨by omega,by rw[← F8];assumption⟩,F8]
       ·rw[if_neg e,w1 k k0 k1]
        by_cases e2:k<i
        ·simp[e2,show k<i+1 by omega]
        ·simp[e2,show ¬ k<i+1 by omega]
     ·refine LJ.i (i+1,w) (by first|rfl|simp) (by rw[hX];rfl) rfl rfl ?_
      refine⟨by dsimp only;omega,by dsimp only;omega,by dsimp only;omega,w0,fun k k0 k1=>?_⟩
      dsimp only
      by_cases e:k=i
      ·subst e
       rw[F8]at *
       rw[if_neg (by rintro⟨_,h2⟩;contradiction)]
      ·rw[w1 k k0 k1]
       by_cases e2:k<i
       ·simp[e2,show k<i+1 by omega]
       ·simp[e2,show ¬ k<i+1 by omega]
    ·have qe:i=l.length:=by omega
     subst qe
     have rG:G.length=if L = []then 2 else 3:=by
      have h1:=congrArg List.length (hX v)
      rw[zk]at h1
      simp only[aG]at h1
      by_cases hh:L = []
      ·rw[if_pos hh]at h1 ⊢;omega
      ·rw[if_neg hh]at h1 ⊢;omega
     first|rw[if_pos hL]at rG|rw[if_neg hL]at rG
     simp[hX,rG]
     (with_reducible repeat' first|refine Xk ?_<;>try simp[hX,rG]|refine Xs ?_ ?_<;>intro h<;>(try intro h')<;>(try simp[h,hX,rG])<;>(try omega)|refine Xg ?_|omega)
     rw[qF w0.symm,adU]
     refine Ey.i w rfl rfl ⟨w0,aey Ja hB hU fun k k0 k1=>?_⟩
     rw[w1 k k0 k1]
     by_cases e:(gt v k).1=0
     ·rw[if_pos ⟨k1,e⟩,if_pos e]
     ·rw[if_neg fun hh=>e hh.2,if_neg e]
  | cons i R=>
   rw[hR]at hB hU lE
   have hL:L≠[]:=fun e=>by rw[e]at hR;simp at hR
   have xV:h<L.length:=by
    by_cases e:h<L.length
    ·exact e
    ·rw[b7 (by omega)]at hR;cases hR
   have Oh:gt L (h:Int)=i:=by
    rw[bT xV,bY]at hR
    rw[qG xV];exact hR.1
   obtain⟨Aw,Vl⟩:=hB.qr i (by simp)
   have mc:¬ _ = []:=fun e=>hL (Fu.2 e)
   have I9:0<L.length-h:=by omega
   have hle:(List.drop h L).length=L.length-h:=br
   have o9:=Mz L h xV
   rw[Oh]at o9
   have od:bs.length=l.length:=by
    rw[← oG,sB l4 _ (Nat.le_refl _),AH]
   simp[kJ hL,HV,mc]
   (with_reducible repeat' first|refine Xk ?_<;>try simp[kJ hL,HV,I9]|refine Xs ?_ ?_<;>intro h<;>(try intro h')<;>(try simp[h,kJ hL,HV,I9])<;>(try omega)|refine Xg ?_|omega)
   simp[o9]
   simp[oa]
   (with_reducible repeat' first|refine Xk ?_<;>try simp[kJ hL,HV]|refine Xs ?_ ?_<;>intro h<;>(try intro h')<;>(try simp[h,kJ hL,HV])<;>(try omega)|refine Xg ?_|omega)
   have hxb:(gt bs i).length≤17000000000000:=by
    have:=HD l4 kA _ (Nat.le_refl _) i Aw
    rw[oG]at this
    omega
   have uo:∀ k:Int,0≤k→k<l.length→(gt bs i).count k=(gt (fE g l) k).count i:=fun k k0 k1=>by
    rw[← oG,Mm l4 _ (Nat.le_refl _) i Aw k k0,if_pos (by omega)]
   have kb:∀ k∈gt bs i,(0≤k∧k<l.length)∧i∈gt (fE g l) k:=fun k hk=>by
    rw[← oG]at hk
    have h1:=Mn l4 _ (Nat.le_refl _) i Aw k hk
    rw[AH]at h1
    refine⟨h1,du.1 ?_⟩
    rw[← uo k h1.1 h1.2,← oG]
    exact du.2 hk
   refine fe.s (by simp only[kJ hL];rfl) ?_
   refine fe.e ((0,v,lf,γ,L,h,R):Int×List eY×List Int×Nat×List Int×Nat×List Int) (fun y=>[(8,.ptr 2 0 0),(9,.eT 3 0 1 0 l.length),(10,.ptr 4 0 0),(11,.fn (.func 53) [] [.ptr 2 0 0,.ptr 4 0 0]),(16,.sl 1 (bs.map fN)),(17,.i i),(77,dN 1 f1 (gt bs i)),(78,.i (gt bs i).length),(79,.i y.1)]) (fun y=>HV g l.length y.2.1 y.2.2.1 y.2.2.2.1 y.2.2.2.2.1 y.2.2.2.2.2.1) (fun y=>0≤y.1∧y.1≤(gt bs i).length∧y.2.2.2.2.1.drop y.2.2.2.2.2.1=i::y.2.2.2.2.2.2∧y.2.2.2.2.1.length≤l.length∧VB (lM g l (fE g l)) l.length P (i::y.2.2.2.2.2.2) y.2.1 y.2.2.1∧US (lM g l (fE g l)) l.length P (i::y.2.2.2.2.2.2) ((gt bs i).take y.1.toNat) (gt y.2.1 i).1 y.2.1 y.2.2.1) (fun y=>((gt bs i).length-y.1).toNat) ?_ ?_
   ·exact⟨by simp,by simp,hR,rH,hB,by simpa using hU.t0 _⟩
   dsimp only
   rw[kJ hL]
   clear hR xV Oh I9 hle o9 hB hU
   rintro⟨j,v,lf,γ,L,q,R⟩ ⟨j0,j1,hR,rH,hB,hU⟩
   dsimp only at j0 j1 hR rH hB hU ⊢
   have hL:L≠[]:=fun e=>by rw[e]at hR;simp at hR
   by_cases hj:j<(gt bs i).length
   ·obtain⟨hk,nM⟩:=kb _ (ff j0 hj)
    have gT:=hB.vl
    have sU:=hB.ll
    simp[hj,HV]
    generalize jK:gt (gt bs i) j=k at *
    have kA:((gt bs i).take (j+1).toNat)=(gt bs i).take j.toNat ++ [k]:=by
     rw[show(j+1).toNat=j.toNat+1 by omega,List.take_add_one,List.getElem?_eq_getElem (by omega),Option.toList_some,← nu j0 hj,jK]
    have k0:=EJ (v:=v) (n:=k) (by omega)
    have e0:=EJ (v:=v) (n:=i) (by omega)
    have e1:=Sq (v:=v) (n:=i) (by omega)
    have sX:=hB.nn i (by simp)
    have lE:=wE hB.nd hB.qr
    have xV:q<L.length:=by
     by_cases e:q<L.length
     ·exact e
     ·rw[b7 (by omega)]at hR;cases hR
    by_cases hz:(gt v k).1=0
    ·have xX:k ∉ P++i::R:=fun hm=>hB.qi k hm hz
     by_cases AU:(gt v i).1=3
     ·(with_reducible repeat' first|refine Xk ?_<;>try simp|refine Xs ?_ ?_<;>intro h<;>(try intro h')<;>(try simp[h])<;>(try omega)|refine Xg ?_|omega)
      simp[k0,hz]
      (with_reducible repeat' first|refine Xk ?_<;>try simp|refine Xs ?_ ?_<;>intro h<;>(try intro h')<;>(try simp[h])<;>(try omega)|refine Xg ?_|omega)
      simp[e0,AU]
      (with_reducible repeat' first|refine Xk ?_<;>try simp|refine Xs ?_ ?_<;>intro h<;>(try intro h')<;>(try simp[h])<;>(try omega)|refine Xg ?_|omega)
      simp[e1]
      (with_reducible repeat' first|refine Xk ?_<;>try simp|refine Xs ?_ ?_<;>intro h<;>(try intro h')<;>(try simp[h])<;>(try omega)|refine Xg ?_|omega)
      refine fw.nC rfl rfl (Ir g l.length v lf L γ q [] (.inl rfl) k 1 ((gt v i).2+1) hk gT (by omega) (by omega)) ?_
      rintro _ H' ⟨rfl,rfl⟩
      simp
      (with_reducible repeat' first|refine Xk ?_<;>try simp|refine Xs ?_ ?_<;>intro h<;>(try intro h')<;>(try simp[h])<;>(try omega)|refine Xg ?_|omega)
      obtain⟨s1,s2⟩:=aem Ja hB hU hk.1 hk.2 xX nM AU
      have rN:=wE s1.nd s1.qr
      refine LJ.i (j+1,pt v k (1,(gt v i).2+1),lf,γ+1,L.drop q ++ [k],0,R ++ [k]) (by first|rfl|simp[HV]) (by first|rfl|simp[HV]) rfl rfl ?_
      refine⟨by dsimp only;omega,by dsimp only;omega,by dsimp only;omega,by dsimp only;rw[hR];rfl,by dsimp only;rw[hR];simp at rN ⊢;omega,s1,?_⟩
      dsimp only
      rw[kA,mb hk.1 (by omega) Aw,if_neg (fun e=>xX (by rw[← e];simp))]
      exact s2
     ·by_cases AT:(gt v i).1=1
      ·(with_reducible repeat' first|refine Xk ?_<;>try simp|refine Xs ?_ ?_<;>intro h<;>(try intro h')<;>(try simp[h])<;>(try omega)|refine Xg ?_|omega)
       simp[k0,hz]
       (with_reducible repeat' first|refine Xk ?_<;>try simp|refine Xs ?_ ?_<;>intro h<;>(try intro h')<;>(try simp[h])<;>(try omega)|refine Xg ?_|omega)
       simp[e0,AU]
       (with_reducible repeat' first|refine Xk ?_<;>try simp|refine Xs ?_ ?_<;>intro h<;>(try intro h')<;>(try simp[h])<;>(try omega)|refine Xg ?_|omega)
       try simp[e0,AT]
       obtain⟨_,_,u1,u2⟩:=hU k hk.1 hk.2 xX
       have u3:=u2 fun e=>by have h1:i∈gt (lM g l (fE g l)).nx k:=nM;rw[e]at h1;cases h1
       have u4:(gt (lM g l (fE g l)).nx k).length≤4000000000:=gX k hk.1 hk.2
       have hpk:gt (pt lf k (gt lf k-1)) k=gt lf k-1:=xH hk.1 (by omega)
       have kU:(pt lf k (gt lf k-1)).length=lf.length:=gI hk.1 (by omega)
       by_cases vZ:gt lf k-1=0
       ·(with_reducible repeat' first|refine Xk ?_<;>try simp|refine Xs ?_ ?_<;>intro h<;>(try intro h')<;>(try simp[h])<;>(try omega)|refine Xg ?_|omega)
        simp[e1]
        (with_reducible repeat' first|refine Xk ?_<;>try simp|refine Xs ?_ ?_<;>intro h<;>(try intro h')<;>(try simp[h])<;>(try omega)|refine Xg ?_|omega)
        refine fw.s (by simp;rfl) ?_
        refine fw.nC rfl rfl (Ir g l.length v (pt lf k (gt lf k-1)) L γ q [] (.inl rfl) k 3 ((gt v i).2+1) hk gT (by omega) (by omega)) ?_
        rintro _ H' ⟨rfl,rfl⟩
        simp
        (with_reducible repeat' first|refine Xk ?_<;>try simp|refine Xs ?_ ?_<;>intro h<;>(try intro h')<;>(try simp[h])<;>(try omega)|refine Xg ?_|omega)
        obtain⟨s1,s2⟩:=aeo Ja hB hU hk.1 hk.2 xX nM AT vZ (by
         have h1:=uo k hk.1 hk.2
         have h2:((gt bs i).take j.toNat).count k+1≤(gt bs i).count k:=by
          have h3:(((gt bs i).take j.toNat) ++ [k]).count k≤(gt bs i).count k:=by
           rw[← kA]
           exact(List.take_sublist _ _).count_le _
          rwa [cY,List.count_singleton_self]at h3
         show _≤(gt (fE g l) k).count i
         omega)
        have rN:=wE s1.nd s1.qr
        refine LJ.i (j+1,pt v k (3,(gt v i).2+1),pt lf k (gt lf k-1),γ+1,L.drop q ++ [k],0,R ++ [k]) (by first|rfl|simp[HV]) (by first|rfl|simp[HV]) rfl rfl ?_
        refine⟨by dsimp only;omega,by dsimp only;omega,by dsimp only;omega,by dsimp only;rw[hR];rfl,by dsimp only;rw[hR];simp at rN ⊢;omega,s1,?_⟩
        dsimp only
        rw[kA,mb hk.1 (by omega) Aw,if_neg (fun e=>xX (by rw[← e];simp))]
        exact s2
       ·(with_reducible repeat' first|refine Xk ?_<;>try simp|refine Xs ?_ ?_<;>intro h<;>(try intro h')<;>(try simp[h])<;>(try omega)|refine Xg ?_|omega)
        obtain⟨s1,s2⟩:=aen hB hU hk.1 hk.2 xX nM AT vZ
        refine LJ.i (j+1,v,pt lf k (gt lf k-1),γ,L,q,R) (by first|rfl|simp[HV]) (by first|rfl|simp[HV]) rfl rfl ?_
        refine⟨by dsimp only;omega,by dsimp only;omega,by dsimp only;omega,hR,rH,s1,?_⟩
        dsimp only
        rw[kA]
        exact s2
      ·(with_reducible repeat' first|refine Xk ?_<;>try simp|refine Xs ?_ ?_<;>intro h<;>(try intro h')<;>(try simp[h])<;>(try omega)|refine Xg ?_|omega)
       simp[k0,hz]
       (with_reducible repeat' first|refine Xk ?_<;>try simp|refine Xs ?_ ?_<;>intro h<;>(try intro h')<;>(try simp[h])<;>(try omega)|refine Xg ?_|omega)
       simp[e0,AU]
       (with_reducible repeat' first|refine Xk ?_<;>try simp|refine Xs ?_ ?_<;>intro h<;>(try intro h')<;>(try simp[h])<;>(try omega)|refine Xg ?_|omega)
       try simp[e0,AT]
       (with_reducible repeat' first|refine Xk ?_<;>try simp|refine Xs ?_ ?_<;>intro h<;>(try intro h')<;>(try simp[h])<;>(try omega)|refine Xg ?_|omega)
       refine LJ.i (j+1,v,lf,γ,L,q,R) (by first|rfl|simp[HV]) (by first|rfl|simp[HV]) rfl rfl ?_
       refine⟨by dsimp only;omega,by dsimp only;omega,by dsimp only;omega,hR,rH,hB,?_⟩
       dsimp only
       rw[kA]
       exact hU.skip (.inr ⟨AT,AU⟩)
    ·(with_reducible repeat' first|refine Xk ?_<;>try simp|refine Xs ?_ ?_<;>intro h<;>(try intro h')<;>(try simp[h])<;>(try omega)|refine Xg ?_|omega)
     simp[k0,hz]
     (with_reducible repeat' first|refine Xk ?_<;>try simp|refine Xs ?_ ?_<;>intro h<;>(try intro h')<;>(try simp[h])<;>(try omega)|refine Xg ?_|omega)
     refine LJ.i (j+1,v,lf,γ,L,q,R) (by first|rfl|simp[HV]) (by first|rfl|simp[HV]) rfl rfl ?_
     refine⟨by dsimp only;omega,by dsimp only;omega,by dsimp only;omega,hR,rH,hB,?_⟩
     dsimp only
     rw[kA]
     exact hU.skip (.inl (by
      by_cases hm:k∈P++i::R
      ·exact hm
      ·rw[hB.z k hk.1 hk.2 hm]at hz;exact absurd rfl hz))
   ·have xV:q<L.length:=by
     by_cases e:q<L.length
     ·exact e
     ·rw[b7 (by omega)]at hR;cases hR
    have NP:L.drop (q+1)=R:=by rw[← List.tail_drop,hR];rfl
    have lE:=wE hB.nd hB.qr
    rw[aF (by omega)]at hU
    obtain⟨s1,s2⟩:=U5 hB hU uo
    simp[hj,HV]
    (with_reducible repeat' first|refine Xk ?_<;>try simp[mc]|refine Xs ?_ ?_<;>intro h<;>(try intro h')<;>(try simp[h,mc])<;>(try omega)|refine Xg ?_|omega)
    simp[mc]
    (with_reducible repeat' first|refine Xk ?_<;>try simp|refine Xs ?_ ?_<;>intro h<;>(try intro h')<;>(try simp[h])<;>(try omega)|refine Xg ?_|omega)
    refine LJ.i (v,lf,γ,L,q+1,P ++ [i]) (by first|rfl|simp[mc]) (by first|rfl|simp[mc,kJ hL,HV,show L.length-q-1=L.length-(q+1)by omega]) (by first|rfl|simp[mc]) (by first|rfl|simp[mc]) ?_
    refine⟨?_,?_,?_,rH,fun e=>absurd e hL,fun e=>absurd e mc⟩
    ·dsimp only
     simp at lE ⊢
     omega
    ·dsimp only;rw[NP];exact s1
    ·dsimp only;rw[NP];exact s2
end Go.Proofs.YtnaefnajkaohgaaGreatDoor
namespace Go.Proofs.YtnaefnajkaohgaaGreatDoor
open Go Go.AL Classical
set_option maxRecDepth 10000
set_option maxHeartbeats 8000000
theorem f102(L:List Int)(h0:0<L.length)(h9:L.length≤4000000000):Wf T 102 [dI L] [] (Ey D.i fun r=>r∈L∧∀ x∈L,r≤x):=by
 refine Yg Cg ?_
 simp[Cg]
 (with_reducible repeat' first|refine Xk ?_<;>try simp|refine Xs ?_ ?_<;>intro h<;>(try intro h')<;>(try simp[h])<;>(try omega)|refine Xg ?_|omega)
 refine fe.e ((1,gt L 0):Int×Int) (fun y=>[(0,dI L),(3,.i y.2),(4,.i y.1)]) (fun y=>[]) (fun y=>1≤y.1∧y.1≤L.length∧y.2∈L∧∀ j:Int,0≤j→j<y.1→y.2≤gt L j) (fun y=>(L.length-y.1).toNat) ?_ ?_
 ·refine⟨by simp,by dsimp only;omega,ff (by omega) (by omega),fun j j0 j1=>?_⟩
  dsimp only at j1 ⊢
  rw[show j=0 by omega];exact b8 _
 rintro⟨i,r⟩ ⟨i0,i1,i2,i3⟩
 dsimp only at i0 i1 i2 i3 ⊢
 by_cases hi:i<L.length
 ·simp[hi]
  (with_reducible repeat' first|refine Xk ?_<;>try simp|refine Xs ?_ ?_<;>intro h<;>(try intro h')<;>(try simp[h])<;>(try omega)|refine Xg ?_|omega)
  have hm:=ff (l:=L) (n:=i) (by omega) hi
  refine LJ.e (i+1,min r (gt L i)) ?_
  refine⟨by dsimp only;omega,by dsimp only;omega,by dsimp only;omega,?_,fun j j0 j1=>?_⟩
  ·dsimp only
   rcases(show min r (gt L i)=r∨min r (gt L i)=gt L i by omega)with e|e<;>rw[e]<;>assumption
  ·dsimp only at j1 ⊢
   by_cases e:j=i
   ·subst e;omega
   ·have:=i3 j j0 (by omega);omega
 ·simp[hi]
  (with_reducible repeat' first|refine Xk ?_<;>try simp|refine Xs ?_ ?_<;>intro h<;>(try intro h')<;>(try simp[h])<;>(try omega)|refine Xg ?_|omega)
  refine Ey.i r rfl rfl ⟨i2,fun x hx=>?_⟩
  obtain⟨a,a0,a1,rfl⟩:=qm.1 hx
  exact i3 a a0 (by omega)
theorem f103(L:List Int)(h0:0<L.length)(h9:L.length≤4000000000):Wf T 103 [dI L] [] (Ey D.i fun r=>r∈L∧∀ x∈L,x≤r):=by
 refine Yg Ch ?_
 simp[Ch]
 (with_reducible repeat' first|refine Xk ?_<;>try simp|refine Xs ?_ ?_<;>intro h<;>(try intro h')<;>(try simp[h])<;>(try omega)|refine Xg ?_|omega)
 refine fe.e ((1,gt L 0):Int×Int) (fun y=>[(0,dI L),(3,.i y.2),(4,.i y.1)]) (fun y=>[]) (fun y=>1≤y.1∧y.1≤L.length∧y.2∈L∧∀ j:Int,0≤j→j<y.1→gt L j≤y.2) (fun y=>(L.length-y.1).toNat) ?_ ?_
 ·refine⟨by simp,by dsimp only;omega,ff (by omega) (by omega),fun j j0 j1=>?_⟩
  dsimp only at j1 ⊢
  rw[show j=0 by omega];exact b8 _
 rintro⟨i,r⟩ ⟨i0,i1,i2,i3⟩
 dsimp only at i0 i1 i2 i3 ⊢
 by_cases hi:i<L.length
 ·simp[hi]
  (with_reducible repeat' first|refine Xk ?_<;>try simp|refine Xs ?_ ?_<;>intro h<;>(try intro h')<;>(try simp[h])<;>(try omega)|refine Xg ?_|omega)
  have hm:=ff (l:=L) (n:=i) (by omega) hi
  refine LJ.e (i+1,max r (gt L i)) ?_
  refine⟨by dsimp only;omega,by dsimp only;omega,by dsimp only;omega,?_,fun j j0 j1=>?_⟩
  ·dsimp only
   rcases(show max r (gt L i)=r∨max r (gt L i)=gt L i by omega)with e|e<;>rw[e]<;>assumption
  ·dsimp only at j1 ⊢
   by_cases e:j=i
   ·subst e;omega
   ·have:=i3 j j0 (by omega);omega
 ·simp[hi]
  (with_reducible repeat' first|refine Xk ?_<;>try simp|refine Xs ?_ ?_<;>intro h<;>(try intro h')<;>(try simp[h])<;>(try omega)|refine Xg ?_|omega)
  refine Ey.i r rfl rfl ⟨i2,fun x hx=>?_⟩
  obtain⟨a,a0,a1,rfl⟩:=qm.1 hx
  exact i3 a a0 (by omega)
set_option maxRecDepth 10000
set_option maxHeartbeats 8000000
def iJ(v:List eY)(x:List Int)(o:Int):List Int:=(x.filter fun k=>decide ((gt v k).1=o)).map fun k=>(gt v k).2
theorem Pw{v:List eY}{x:List Int}{o k:Int}(h:(gt v k).1=o):iJ v (x ++ [k]) o=iJ v x o ++ [(gt v k).2]:=by simp[iJ,h]
theorem Pv{v:List eY}{x:List Int}{o k:Int}(h:(gt v k).1≠o):iJ v (x ++ [k]) o=iJ v x o:=by simp[iJ,h]
theorem Pu(v:List eY)(x:List Int)(o:Int):(iJ v x o).length≤x.length:=by
 unfold iJ;rw[List.length_map];exact List.length_filter_le _ _
theorem uI{v:List eY}{x:List Int}{o n:Int}:n∈iJ v x o↔∃ k∈x,gt v k=(o,n):=by
 unfold iJ
 rw[ao]
 constructor
 ·rintro⟨k,hk,rfl⟩
  rw[aK]at hk
  exact⟨k,hk.1,dH (by simpa using hk.2) rfl⟩
 ·rintro⟨k,hk,e⟩
  exact⟨k,aK.2 ⟨hk,by simp[e]⟩,by rw[e]⟩
def Ek(v:List eY)(x:List Int)(r:eY):Prop:=
 (∃ m∈iJ v x 3,(∀ y∈iJ v x 3,m≤y)∧r=(1,m+1)) ∨
 (iJ v x 3 = []∧(iJ v x 1).length=x.length∧∃ m∈iJ v x 1,(∀ y∈iJ v x 1,y≤m)∧r=(3,m+1)) ∨
 (iJ v x 3 = []∧¬ (iJ v x 1≠[]∧(iJ v x 1).length=x.length)∧r=(2,0))
theorem Ek.eq{A:pr}{v:List eY}{i:Int}{r:eY}(h:kK A v i)(ho:A.ov i=false)(hr:Ek v (gt A.nx i) r):gt v i=r:=by
 have hlen:(iJ v (gt A.nx i) 1).length=(gt A.nx i).length→∀ k∈gt A.nx i,(gt v k).1=1:=fun e k hk=>by
  unfold iJ at e
  rw[List.length_map,List.length_filter_eq_length_iff]at e
  simpa using e k hk
 rcases h with⟨e,_⟩|⟨_,⟨n,n1,e,⟨k,hk,ek⟩,v8⟩|⟨n,n1,e,gu,k,hk,ek⟩|⟨e,sY,VN⟩⟩
 ·rw[ho]at e;cases e
 ·have hm:n-1∈iJ v (gt A.nx i) 3:=uI.2 ⟨k,hk,ek⟩
  rcases hr with⟨m,mH,sW,rfl⟩|⟨e0,_⟩|⟨e0,_⟩
  ·have h1:=sW _ hm
   obtain⟨q,hq,eq⟩:=uI.1 mH
   have h2:=v8 q hq (by rw[eq])
   rw[eq]at h2
   dsimp only at h2
   rw[e,show m+1=n by omega]
  ·rw[e0]at hm;cases hm
  ·rw[e0]at hm;cases hm
 ·have h0:∀ m,m ∉ iJ v (gt A.nx i) 3:=fun m hm=>by
   obtain⟨q,hq,eq⟩:=uI.1 hm
   have:=(gu q hq).1
   rw[eq]at this;simp at this
  have hm:n-1∈iJ v (gt A.nx i) 1:=uI.2 ⟨k,hk,dH (gu k hk).1 ek⟩
  rcases hr with⟨m,mH,_⟩|⟨_,_,m,mH,sW,rfl⟩|⟨_,e1,_⟩
  ·exact absurd mH (h0 m)
  ·have h1:=sW _ hm
   obtain⟨q,hq,eq⟩:=uI.1 mH
   have h2:=(gu q hq).2
   rw[eq]at h2
   dsimp only at h2
   rw[e,show m+1=n by omega]
  ·refine absurd ⟨fun e2=>(by rw[e2]at hm;cases hm),?_⟩ e1
   unfold iJ
   rw[List.length_map,List.length_filter_eq_length_iff]
   exact fun q hq=>by simpa using (gu q hq).1
 ·rcases hr with⟨m,mH,_⟩|⟨_,e1,m,mH,_⟩|⟨_,_,rfl⟩
  ·obtain⟨q,hq,eq⟩:=uI.1 mH
   exact absurd (by rw[eq]) (sY q hq)
  ·obtain⟨q,hq,_⟩:=uI.1 mH
   exact absurd ⟨fun e2=>(by rw[e2]at hq;cases hq),hlen e1⟩ VN
  ·exact e
def dL(l:List Int)(n:Nat):D:=if l = []then .emp else .eT n (l.length-1) 1 0 l.length
def rL(l:List Int):U:=if l = []then []else [.row 3 (l.length-1) (cl f1 l)]
def HL(a b:List Int):U:=.row 58 0 [.i 0,.i 0]::(rL a++rL b)
theorem f56(v:List eY)(x:List Int)(hx:∀ k∈x,0≤k∧k<v.length)(h9:x.length≤4000000000)(hv:∀ k:Int,0≤k→k<v.length→0≤(gt v k).2∧(gt v k).2≤4000):Wf T 56 [gQ v,dN 1 f1 x] [] (Ey (fun r:eY=>.agg [.i r.1,.i r.2]) fun r=>Ek v x r):=by
 have e0:∀ o,iJ v [] o = []:=fun _=>rfl
 have e1:∀ n,dL [] n = .emp:=fun _=>rfl
 refine Yg DV ?_
 simp[DV]
 (with_reducible repeat' first|refine Xk ?_<;>try simp|refine Xs ?_ ?_<;>intro h<;>(try intro h')<;>(try simp[h])<;>(try omega)|refine Xg ?_|omega)
 refine fe.e (0:Int) (fun y=>[(0,gQ v),(1,dN 1 f1 x),(4,.ptr 0 0 0),(5,dL (iJ v (x.take y.toNat) 3) 1),(6,dL (iJ v (x.take y.toNat) 1) (if iJ v (x.take y.toNat) 3 = []then 1 else 2)),(9,dN 1 f1 x),(10,.i x.length),(11,.i y)]) (fun y=>HL (iJ v (x.take y.toNat) 3) (iJ v (x.take y.toNat) 1)) (fun y=>0≤y∧y≤x.length) (fun y=>(x.length-y).toNat) ?_ ?_ (by simp[e0,e1]) (by simp[e0,HL,rL])
 ·simp
 rintro i ⟨i0,i1⟩
 have Vu:=Pu v (x.take i.toNat) 3
 have gW:=Pu v (x.take i.toNat) 1
 rw[aS]at Vu gW
 by_cases hi:i<x.length
 ·have hk:=hx _ (ff i0 hi)
  have kA:(x.take (i+1).toNat)=x.take i.toNat ++ [gt x i]:=by
   rw[show(i+1).toNat=i.toNat+1 by omega,List.take_add_one,List.getElem?_eq_getElem (by omega),Option.toList_some,← nu i0 hi]
  have c0:=EJ (v:=v) (n:=gt x i) (by omega)
  simp[hi]
  generalize gt x i=k at *
  generalize hA:iJ v (x.take i.toNat) 3=a at *
  generalize hB:iJ v (x.take i.toNat) 1=b at *
  have ja:=hv k hk.1 hk.2
  have q3:(gt v k).1=3→iJ v (x.take (i+1).toNat) 3=a ++ [(gt v k).2]:=fun h=>by rw[kA,Pw h,hA]
  have Qr:(gt v k).1≠3→iJ v (x.take (i+1).toNat) 3=a:=fun h=>by rw[kA,Pv h,hA]
  have q1:(gt v k).1=1→iJ v (x.take (i+1).toNat) 1=b ++ [(gt v k).2]:=fun h=>by rw[kA,Pw h,hB]
  have Qq:(gt v k).1≠1→iJ v (x.take (i+1).toNat) 1=b:=fun h=>by rw[kA,Pv h,hB]
  have la:a = []∨0<a.length:=by cases a<;>simp
  have lb:b = []∨0<b.length:=by cases b<;>simp
  have fF:((x.length:Int)-(i+1)).toNat<((x.length:Int)-i).toNat∧0≤i+1∧i+1≤x.length:=by omega
  by_cases ha:a = []<;>by_cases hb:b = []
  all_goals
   first|have la:=la.resolve_left ha|skip
   first|have lb:=lb.resolve_left hb|skip
   (with_reducible repeat' first|refine Xk ?_<;>try simp[ha,hb,dL,rL,HL]|refine Xs ?_ ?_<;>intro h<;>(try intro h')<;>(try simp[h,ha,hb,dL,rL,HL])<;>(try omega)|refine Xg ?_|omega)
  all_goals
   first
    | (have g3:=q3 ‹_›;have g1:=Qq (by omega);refine LJ.i (i+1) (by simp[g3,g1,dL,ha,hb]<;>omega) (by simp[g3,g1,HL,rL,ha,hb,gL]<;>omega) rfl rfl fF)
    | (have g3:=Qr ‹_›;have g1:=q1 ‹_›;refine LJ.i (i+1) (by simp[g3,g1,dL,ha,hb]<;>omega) (by simp[g3,g1,HL,rL,ha,hb,gL]<;>omega) rfl rfl fF)
    | (have g3:=Qr (by assumption);have g1:=Qq (by assumption);refine LJ.i (i+1) (by simp[g3,g1,dL,ha,hb]) (by simp[g3,g1,HL,rL,ha,hb]) rfl rfl fF)
 ·rw[aF (by omega)]at *
  simp[hi]
  by_cases ha:iJ v x 3 = []<;>by_cases hb:iJ v x 1 = []
  all_goals
   simp[ha,hb,dL,rL,HL]
   (with_reducible repeat' first|refine Xk ?_<;>try simp[ha,hb,dL,rL,HL]|refine Xs ?_ ?_<;>intro h<;>(try intro h')<;>(try simp[h,ha,hb,dL,rL,HL])<;>(try omega)|refine Xg ?_|omega)
  all_goals
   first
    | exact Ey.i (2,0) rfl rfl (.inr (.inr ⟨ha,fun⟨h1,h2⟩=>by omega,rfl⟩))
    | exact Ey.i (2,0) rfl rfl (.inr (.inr ⟨ha,fun⟨h1,h2⟩=>h1 hb,rfl⟩))
    | exact absurd (az.2 ha) ‹_›
    | exact absurd (az.2 hb) ‹_›
    | skip
  all_goals
   refine fw.s (by simp[ha,hb];rfl) ?_
  all_goals
   first
    | refine fw.rq rfl rfl (f102 (iJ v x 3) (by omega) (by omega)) (by simp) (fun _=>by simp[flat]) (fun _=>by simp) ?_
    | refine fw.rq rfl rfl (f103 (iJ v x 1) (by omega) (by omega)) (by simp) (fun _=>by simp[flat]) (fun _=>by simp) ?_
  all_goals
   rintro r ⟨r1,r2⟩
   have hr:0≤r∧r≤4000:=by
    obtain⟨q,hq,e⟩:=uI.1 r1
    have:=hv q (hx q hq).1 (hx q hq).2
    rwa [e]at this
   simp[ha,hb]
   (with_reducible repeat' first|refine Xk ?_<;>try simp[ha,hb]|refine Xs ?_ ?_<;>intro h<;>(try intro h')<;>(try simp[h,ha,hb])<;>(try omega)|refine Xg ?_|omega)
  all_goals
   first
    | exact Ey.i (1,r+1) rfl rfl (.inl ⟨r,r1,r2,rfl⟩)
    | exact Ey.i (3,r+1) rfl rfl (.inr (.inl ⟨ha,by omega,r,r1,r2,rfl⟩))
set_option maxRecDepth 10000
set_option maxHeartbeats 4000000
theorem Sk{n:Nat}{N:Int→Int}{K:Int→Prop}(hK:∀ i,K i→(0≤i∧i<n)∧0≤N i)(h:∀ i,K i→N i=0∨∃ k,K k∧N k=N i-1):∀ i,K i→N i<n:=by
 have all:∀ (a:Nat) (i:Int),K i→N i=a→∀ m:Nat,m≤a→∃ q,K q∧N q=m:=by
  intro a
  induction a with
  | zero=>exact fun i hi e m hm=>⟨i,hi,by omega⟩
  | succ a ih=>
   intro i hi e m hm
   by_cases em:m=a+1
   ·exact⟨i,hi,by omega⟩
   rcases h i hi with h1|⟨k,hk,h1⟩
   ·omega
   ·exact ih k hk (by omega) m (by omega)
 intro i hi
 have h0:=hK i hi
 have:=qn (List.nodup_range (n:=(N i).toNat+1)) (m:=(upto n).map fun k=>(N k).toNat) fun x hx=>by
  obtain⟨q,hq,e⟩:=all (N i).toNat i hi (by omega) x (by have:=aX.1 hx;omega)
  exact ao.2 ⟨q,pg.2 (hK q hq).1,by rw[e];rfl⟩
 simp[upto]at this
 omega
theorem X1{A:pr}{n:Nat}{v:List eY}(hS:∀ i:Int,0≤i→i<n→∀ k∈gt A.nx i,0≤k∧k<n)(h:∀ i:Int,0≤i→i<n→kK A v i){i:Int}(i0:0≤i)(i1:i<n):0≤(gt v i).2∧(gt v i).2<n:=by
 refine⟨(h i i0 i1).n0,Sk (N:=fun i=>(gt v i).2) (K:=fun i=>0≤i∧i<n) (fun i hi=>⟨hi,(h i hi.1 hi.2).n0⟩) (fun i hi=>?_) i ⟨i0,i1⟩⟩
 rcases h i hi.1 hi.2 with⟨_,e2⟩|⟨_,⟨a,a1,e2,⟨k,hk,ek⟩,_⟩|⟨a,a1,e2,_,k,hk,ek⟩|⟨e2,_⟩⟩
 ·left;rw[e2]
 ·right;exact⟨k,hS i hi.1 hi.2 k hk,by rw[e2,ek]⟩
 ·right;exact⟨k,hS i hi.1 hi.2 k hk,by rw[e2,ek]⟩
 ·left;rw[e2]
set_option maxRecDepth 10000
set_option maxHeartbeats 8000000
theorem f30(g:eU)(hg:fr g)(l:List Pos)(hc:mQ g l)(h0:0<l.length)(v:List eY)(hv:v.length=l.length)(hV:∀ k:Int,0≤k→k<l.length→kK (lM g l (fE g l)) v k):Wf T 30 [dG g,gb l,gQ v] [] (Is (.tup [.i (-1),.i 0])):=by
 have hlen:=hc.len
 have AH:(fE g l).length=l.length:=by simp[fE]
 have fF:=fun i i0 i1=>(r8 hc (i:=i) i0 i1).2
 have gX:∀ k:Int,0≤k→k<l.length→(gt (fE g l) k).length≤4000000000:=fun k k0 k1=>by
  rw[(r8 hc k0 k1).1,List.length_map]
  have:=Bj hg (hc.ok _ (ff k0 k1));omega
 have hb:=fun i i0 i1=>X1 (A:=lM g l (fE g l)) fF hV (i:=i) i0 i1
 refine Yg DL ?_
 simp[DL]
 refine Yc (f52 g hg l hc h0) ?_
 simp
 (with_reducible repeat' first|refine Xk ?_<;>try simp|refine Xs ?_ ?_<;>intro h<;>(try intro h')<;>(try simp[h])<;>(try omega)|refine Xg ?_|omega)
 refine fe.e (0:Int) (fun y=>[(2,gQ v),(3,.ptr 0 0 0),(8,.sl 1 ((fE g l).map fN)),(30,gb l),(31,.i l.length),(32,.i y)]) (fun y=>[.row 41 0 g.cells]) (fun y=>0≤y∧y≤l.length) (fun y=>(l.length-y).toNat) ?_ ?_
 ·simp
 rintro i ⟨i0,i1⟩
 dsimp only at i0 i1 ⊢
 by_cases hi:i<l.length
 ·have hp:=hc.ok _ (ff i0 hi)
  simp[hi,oa]
  (with_reducible repeat' first|refine Xk ?_<;>try simp|refine Xs ?_ ?_<;>intro h<;>(try intro h')<;>(try simp[h])<;>(try omega)|refine Xg ?_|omega)
  refine Yq (f56 v (gt (fE g l) i) (fun k hk=>by rw[hv];exact fF i i0 hi k hk) (gX i i0 hi) (fun k k0 k1=>by have:=hb k k0 (by omega);omega)) fun r hr=>?_
  simp
  (with_reducible repeat' first|refine Xk ?_<;>try simp|refine Xs ?_ ?_<;>intro h<;>(try intro h')<;>(try simp[h])<;>(try omega)|refine Xg ?_|omega)
  refine Yc (f54 g hg (gt l i) hp) ?_
  simp
  have NN:=hV i i0 hi
  have WD:(stat g (gt l i)).2=true→(gt v i).1=(stat g (gt l i)).1∧(gt v i).2=0:=fun h=>by
   rcases NN with⟨_,e⟩|⟨o,_⟩
   ·rw[e];exact⟨rfl,rfl⟩
   ·have o':(stat g (gt l i)).2=false:=o
    rw[h]at o';cases o'
  have sY:(stat g (gt l i)).2=false→(gt v i).1=r.1∧(gt v i).2=r.2:=fun h=>by
   have:=Ek.eq NN h hr
   rw[this];exact⟨rfl,rfl⟩
  (with_reducible repeat' first|refine Xk ?_<;>try simp|refine Xs ?_ ?_<;>intro h<;>(try intro h')<;>(try simp[h])<;>(try omega)|refine Xg ?_|omega)
  ·refine LJ.e (i+1) ?_
   omega
  ·exact absurd (WD ‹_›) ‹_›
  ·refine LJ.e (i+1) ?_
   omega
  ·exact absurd (sY ‹_›) ‹_›
 ·have vU:i=l.length:=by omega
  subst vU
  simp
  (with_reducible repeat' first|refine Xk ?_<;>try simp|refine Xs ?_ ?_<;>intro h<;>(try intro h')<;>(try simp[h])<;>(try omega)|refine Xg ?_|omega)
set_option maxRecDepth 10000
set_option maxHeartbeats 16000000
theorem f10(x:n3)(hx:Cb x)(a0 a1 a2 a3 a4 a5:Int)(ha:∀ n∈[a0,a1,a2,a3,a4,a5],0≤n∧n<256)(n:Int)(hn : -9223372036854775808≤n∧n≤9223372036854775807):Wf T 10 [.agg x.cells,dW [a0,a1,a2,a3,a4,a5],.i n] [] (Is (.b true)):=by
 have pH:x.cells.length=31:=by simp[n3.cells,Raw.cells,hx.len]
 have Wv:fy x.cells=true:=by have:=MG x;simpa using this
 have Se:=f12 x hx
 generalize x.cells=xs at *
 have qP:xs.take 31=xs:=aF (by omega)
 refine Yg Cd ?_
 simp[Cd,dW,pH,qP]
 refine Yc (f11) ?_
 simp
 (with_reducible repeat' first|refine Xk ?_<;>try simp[pH,qP]|refine Xs ?_ ?_<;>intro h<;>(try intro h')<;>(try simp[h,pH,qP])<;>(try omega)|refine Xg ?_|omega)
 simp[pH,qP]
 refine fw.q rfl rfl Se (by simp[Wv]) (fun y=>by obtain⟨g,p,b,l⟩:=y;cases b<;>simp[fy]) ?_
 rintro⟨g,p,b,l⟩ ⟨hg,hp,fQ⟩
 cases b
 ·simp
 dsimp only at hg hp fQ
 have Ak:=fQ rfl
 have hc:=Ak.c2
 have h0:=Ak.len.1
 have h80:=Ak.len.2
 have Ms:=Tz g hg a0 a1 a2 a3 a4 a5 ha
 simp only[dW,List.map]at Ms
 simp
 (with_reducible repeat' first|refine Xk ?_<;>try simp|refine Xs ?_ ?_<;>intro h<;>(try intro h')<;>(try simp[h])<;>(try omega)|refine Xg ?_|omega)
 refine Yq (f29 g hg l hc h0) fun V hV=>?_
 obtain⟨NR,NS⟩:=hV
 simp
 (with_reducible repeat' first|refine Xk ?_<;>try simp|refine Xs ?_ ?_<;>intro h<;>(try intro h')<;>(try simp[h])<;>(try omega)|refine Xg ?_|omega)
 refine Yv (Ms) fun m hm=>?_
 simp
 have VH:=hm.ok
 (with_reducible repeat' first|refine Xk ?_<;>try simp|refine Xs ?_ ?_<;>intro h<;>(try intro h')<;>(try simp[h])<;>(try omega)|refine Xg ?_|omega)
 refine Yt (TB g hg l hc h0 m VH n ⟨by omega,by omega⟩) ?_
 simp
 have hL:=Yd hg hm hc (bu:=n) ⟨by omega,by omega⟩
 have rH:=(Ys hg hc (m:=m) (n:=n) ⟨by omega,by omega⟩).1
 have UA:V=(pN g l m n).2.1:=X3 hc NR rH NS hL
 have hT:0≤(pN g l m n).1:=(PR (g:=g) (l:=l) (nx:=fE g l) (bu:=n) (lA m l) (fun p hp=>by obtain⟨_,pl,_,_⟩:=Ic hp;omega) (List.replicate l.length (2,0)) (List.replicate l.length false) 0).1
 rw[← UA]
 have Sf:=TD V (by omega)
 generalize (pN g l m n).1=T1 at *
 (with_reducible repeat' first|refine Xk ?_<;>try simp|refine Xs ?_ ?_<;>intro h<;>(try intro h')<;>(try simp[h])<;>(try omega)|refine Xg ?_|omega)
 refine Yc (f30 g hg l hc h0 V NR NS) ?_
 simp
 (with_reducible repeat' first|refine Xk ?_<;>try simp|refine Xs ?_ ?_<;>intro h<;>(try intro h')<;>(try simp[h])<;>(try omega)|refine Xg ?_|omega)
 refine Yc (Sf) ?_
 simp
 (with_reducible repeat' first|refine Xk ?_<;>try simp|refine Xs ?_ ?_<;>intro h<;>(try intro h')<;>(try simp[h])<;>(try omega)|refine Xg ?_|omega)
 all_goals simp[hT]
