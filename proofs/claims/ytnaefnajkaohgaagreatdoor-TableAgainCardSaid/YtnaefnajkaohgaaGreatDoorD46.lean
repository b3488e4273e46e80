/- Part 46 of the proof of skewer.skewerlaw15.TableAgain. -/
import Derived.Test.YtnaefnajkaohgaaGreatDoorD44
import Derived.Test.YtnaefnajkaohgaaGreatDoorD40
import Derived.Test.YtnaefnajkaohgaaGreatDoorD31
import Derived.Test.YtnaefnajkaohgaaGreatDoorD45
import Derived.Test.YtnaefnajkaohgaaGreatDoorD42
import Derived.Test.YtnaefnajkaohgaaGreatDoorD41
set_option linter.all false
namespace Go.Proofs.YtnaefnajkaohgaaGreatDoor
open Go Go.AL Classical
set_option maxRecDepth 10000
set_option maxHeartbeats 16000000
theorem fr.s{T:gb}{f:FuncId}{args:List D}{dst:Option Nat}{s s':St}{K:St→Prop}(hs:s=s')(h:fr T f args dst s' K .mk):fr T f args dst s K .mk:=by subst hs;exact h
theorem f82(l:List eT)(h:0<l.length)(h2:l.length<2 ^ 40):Wf T 82 [gq l] [] (fun d H=>d = .eN 0 1 2 0 l.length∧H = [.row 58 1 (cl fS l)]):=by
 refine Yg De ?_
 simp[De]
 refine oA.i (a:=.b false) (by cases l with|nil=>exact absurd h (by simp)|cons a r=>rfl) ?_
 simp
 (with_reducible repeat' first|refine Xk ?_<;>try simp|refine Xs ?_ ?_<;>intro h<;>(try intro h')<;>(try simp[h])<;>(try omega)|refine Xg ?_|omega)
theorem SD(g:eO)(hg:fi g)(l:List Pos)(hc:p5 g l)(h0:0<l.length)(v:List eT)(hv:v.length=l.length)(part:List Int)(hp:GG l.length part)(n:Int)(o:ke g l (fy g l) part n) :
  Wf T 45 [dG g,fW l,gq v,dI part,.i n] [] (Is (.tup [gq (jM g l (fy g l) part n v (rep l.length)).2.1,.i (jM g l (fy g l) part n v (rep l.length)).1,.i 0])):=by
 have h9:=hc.len
 have hn:=o.bu
 have lM:=o.pl
 refine Yg C2 ?_
 simp[C2]
 refine fr.inl yB rfl rfl (by simp[yB]) rfl ?_
 simp[yB]
 refine Yc (f52 g hg l hc h0) ?_
 simp
 (with_reducible repeat' first|refine Xk ?_<;>try simp|refine Xs ?_ ?_<;>intro h<;>(try intro h')<;>(try simp[h])<;>(try omega)|refine Xg ?_|omega)
 refine eW.s (by simp;rfl) ?_
 refine eW.e (0:Int) (fun y=>[(1,fW l),(2,gq v),(3,dI part),(4,.i n),(13,.ptr 1 0 0),(15,.i (xP part y)),(34,dI part),(35,.i part.length),(36,.i y)]) (fun y=>[.row 41 0 g.cells,.row 148 0 [.eN 2 0 2 0 l.length,.eN 3 0 1 0 l.length,.i g.size,.sl 1 (g.next.map fI),dI g.gN,.sl 3 (g.kinds.map Kind.cells),.i g.fg,.b g.kS,dN 4 Clause.cells g.clauses,.i g.blocked,.i g.oK,fW l,.sl 1 ((fy g l).map fN)],.row 58 0 (cl fS (List.replicate l.length (0,0))),.row 4 0 (cl fB (List.replicate l.length false))]) (fun y=>0≤y∧y≤part.length) (fun y=>(part.length-y).toNat) ?_ ?_
 ·simp
 rintro y ⟨y0,y1⟩
 by_cases hy:y<part.length
 ·have hpy:=hp y y0 hy
  simp[hy]
  (with_reducible repeat' first|refine Xk ?_<;>try simp|refine Xs ?_ ?_<;>intro h<;>(try intro h')<;>(try simp[h])<;>(try omega)|refine Xg ?_|omega)
  refine LJ.i (y+1) (by first|rfl|simp[Pz y0]) (by first|rfl|simp[Pz y0]) rfl rfl ?_
  omega
 ·simp[hy]
  (with_reducible repeat' first|refine Xk ?_<;>try simp|refine Xs ?_ ?_<;>intro h<;>(try intro h')<;>(try simp[h])<;>(try omega)|refine Xg ?_|omega)
  refine Yn (f82 v (by omega) (by omega)) ?_
  simp
  refine fr.s (by simp[hv];rfl) ?_
  refine fr.nj rfl rfl (f78 false (List.replicate l.length (0,0)) o [] v (rep l.length) hv (ui _)) ?_
  rintro d H' ⟨rfl,rfl⟩
  have Ua:=(wR o n hv (ui _)).1.1
  generalize jM g l (fy g l) part n v (rep l.length)=r at *
  simp[H5,jR,Ua]
theorem ME(g:eO)(hg:fi g)(l:List Pos)(hc:p5 g l)(h0:0<l.length)(v:List eT)(hv:v.length=l.length)(part:List Int)(hp:GG l.length part)(n:Int)(o:ke g l (fy g l) part n) :
  Wf T 20 [dG g,fW l,gq v,dI part,.i n] [] (Is (.agg [gq (jM g l (fy g l) part n v (rep l.length)).2.1,.i (jM g l (fy g l) part n v (rep l.length)).1,.i 0])):=by
 refine Yg Co ?_
 simp[Co]
 refine Yc (SD g hg l hc h0 v hv part hp n o) ?_
 simp
theorem R3{m:List Int}{l:List Pos}{p:List Int}(hp:p∈mY m l):GG l.length p:=fun k k0 k1=>by
 obtain⟨n,hn,rfl⟩:=av.1 hp
 have h1:=(sK.1 (eY k0 k1)).1
 refine⟨?_,h1.2⟩
 by_cases e:k=0
 ·subst e;rw[abz];omega
 ·unfold xP
  rw[if_neg e]
  have hs:=MO m l n
  have:=(bk.1 hs) (k-1).toNat k.toNat (by omega) (by omega) (by omega)
  rwa [← nL (by omega) (by omega),← nL k0 k1]at this
end Go.Proofs.YtnaefnajkaohgaaGreatDoor
namespace Go.Proofs.YtnaefnajkaohgaaGreatDoor
open Go Go.AL Classical
set_option maxRecDepth 10000
set_option maxHeartbeats 8000000
def H0(g:eO)(n:Nat)(v:List eT)(lf:List Int):U:=[.row 41 0 g.cells,.row 58 0 (cl fS v),.row 52 0 [.eN 1 0 2 0 n],.row 3 0 (cl f1 lf),.row 33 0 [.emp]]
def HV(g:eO)(n:Nat)(v:List eT)(lf:List Int)(γ:Nat)(L:List Int)(h:Nat):U:=
 [.row 41 0 g.cells,.row 58 0 (cl fS v),.row 52 0 [.eN 1 0 2 0 n],.row 3 0 (cl f1 lf),.row 33 0 [.eN 5 γ 1 h (L.length-h)],.row 3 γ (cl f1 L)]
def HX(g:eO)(n:Nat)(v:List eT)(lf:List Int)(γ:Nat)(L:List Int)(h:Nat):U:=match L with
 | []=>H0 g n v lf
 | a::r=>HV g n v lf γ (a::r) h
theorem km{g:eO}{n:Nat}{v:List eT}{lf L:List Int}{γ h:Nat}(hL:L≠[]):HX g n v lf γ L h=HV g n v lf γ L h:=by
 cases L with
 | nil=>exact absurd rfl hL
 | cons a r=>rfl
theorem QO{g:eO}{n:Nat}{v:List eT}{lf L:List Int}{γ h:Nat}{live:List Nat}{env:Env}(E:Env)(hE:nU 5 E)(he:forget live env=E)(r:Bool) :
  cut 5 live { env:=env,H:=HX g n v lf γ L h,marks:=[],fL:=r } = { env:=E,H:=HX g n v lf γ L h,marks:=[],fL:=r }:=by
 cases L with
 | nil=>rw[DY (by simp[HX,H0]),he]
 | cons a R=>
  subst he
  rw[Hi (by simp[HX,HV])]
  have h1:((forget live env).map fun p=>gE 5 p.2).flatten = []:=List.flatten_eq_nil_iff.2 fun x hx=>by
   obtain⟨p,hp,rfl⟩:=av.1 hx
   exact(hE p hp).1
  have hr:AU 5 (forget live env) (HX g n v lf γ (a::R) h) [] = [5]:=by
   unfold AU
   rw[h1]
   simp[HX,HV]
  rw[hr]
  unfold DX
  have h2:((forget live env).map fun p=>(p.1,eS (fM (gh 5 [5])) (HX g n v lf γ (a::R) h) 40 p.2))=forget live env:=by
   conv=>rhs;rw[← aR (forget live env)]
   refine aj fun p hp=>?_
   rw[(hE p hp).2 _ _ fun v hv=>?_]
   ·rfl
   ·have:v=0∨v=1∨v=2∨v=3∨v=4:=by omega
    rcases this with rfl|rfl|rfl|rfl|rfl<;>rfl
  rw[h2]
  simp[HX,HV,gh,List.range_succ,pz,lz]
theorem yD{g:eO}{n:Nat}{v:List eT}{lf L:List Int}{γ h:Nat}:(HX g n v lf γ L h).length=if L = []then 5 else 6:=by
 cases L<;>rfl
theorem LY:∀ (L:List Int) (h:Nat),h<L.length→(cl f1 L)[h]? = some (.i (gt L (h:Int)))
 | a::r,0,_=>by rw[mH,qV];rfl
 | a::r,h+1,hh=>by
  rw[mH,qV,dC,dj,LY r h (by simpa using hh)]
  rfl
theorem G6{v:List eT}{n:Int}(h:n.toNat<v.length):(cl fS v)[n.toNat*2]? = some (.i (gt v n).1):=by
 have:=G7 h
 rw[tw]at this
 have h2:((cl fS v).drop (n.toNat*2))[0]? = some (.i (gt v n).1):=by rw[this];rfl
 rwa [aB,bQ]at h2
theorem Rv{v:List eT}{n:Int}(h:n.toNat<v.length):(cl fS v)[n.toNat*2+1]? = some (.i (gt v n).2):=by
 have:=G7 h
 rw[tw]at this
 have h2:((cl fS v).drop (n.toNat*2))[1]? = some (.i (gt v n).2):=by rw[this];rfl
 rwa [aB]at h2
theorem aaK{n k v w:Nat}{f:Fn}{env:Env}(hv:v<n)(hw:w<n)(h:nU n env):nU n ((k,.fn f [] [.ptr v 0 0,.ptr w 0 0])::env):=fun p hp=>by
 rcases au.1 hp with rfl|hp
 ·exact⟨rfl,fun ρ H kR=>by rw[AL.acj];simp[kR v hv,kR w hw]⟩
 ·exact h p hp
theorem eW.K{T:gb}{live:List Nat}{a:IR}{s:St}{K K':gv}(hK:K=K')(h:eW T live a s K' .mk):eW T live a s K .mk:=by subst hK;exact h
theorem QP(g:eO)(n:Nat)(lf L:List Int)(γ h:Nat):∃ G:U,∀ v,HX g n v lf γ L h = .row 41 0 g.cells :: .row 58 0 (cl fS v) :: .row 52 0 [.eN 1 0 2 0 n]::G:=by
 cases L with
 | nil=>exact⟨_,fun v=>rfl⟩
 | cons a r=>exact⟨_,fun v=>rfl⟩
section
variable{nx:List (List Int)}
theorem LI(i:Int):∀ (r:List Int) (bs:List (List Int)),(∀ k∈r,0≤k∧k<bs.length)→∀ j:Int,0≤j→∀ k:Int,(gt (mm i r bs) j).count k=(gt bs j).count k+if k=i then r.count j else 0
 | [],_,_,_,_,_=>by simp[mm]
 | q::r,bs,h,j,hj,k=>by
  have h1:=h q (by simp)
  have h2:=gC (v:=gt bs q ++ [i]) h1.1 h1.2
  rw[mm,LI i r _ (fun j hj=>by rw[h2];exact h j (by simp[hj])) j hj k,lA h1.1 h1.2 hj,List.count_cons]
  by_cases e:j=q
  ·subst e
   rw[if_pos rfl,cM,cS]
   by_cases e2:k=i
   ·subst e2;simp;omega
   ·have:¬ i=k:=fun e=>e2 e.symm
    simp[e2,this]
  ·rw[if_neg e]
   have:¬ q=j:=fun h=>e h.symm
   simp[this]
theorem LF(hk:∀ x∈nx,∀ k∈x,0≤k∧k<nx.length):∀ n:Nat,n≤nx.length→∀ j:Int,0≤j→∀ k:Int,0≤k→(gt (kr nx n) j).count k=if k<n then(gt nx k).count j else 0
 | 0,_,j,hj,k,k0=>by
  have:∀ a∈kr nx 0,a = []:=fun a ha=>c9 ha
  rw[if_neg (by omega)]
  by_cases h:j<(kr nx 0).length
  ·rw[this _ (eY hj h)];simp
  ·unfold gt
   rw[List.getD_eq_getElem?_getD,aG (by omega)]
   rfl
 | n+1,h,j,hj,k,k0=>by
  rw[kr,LI n _ _ (by rw[rR hk n (by omega)];exact hk _ (eY (by omega) (by omega))) j hj k,LF hk n (by omega) j hj k k0]
  by_cases e:k=n
  ·subst e;simp;omega
  ·rw[if_neg e]
   by_cases e2:k<n
   ·rw[if_pos e2,if_pos (by omega)];rfl
   ·rw[if_neg e2,if_neg (by omega)]
theorem LK(i:Int):∀ (r:List Int) (bs:List (List Int)),(∀ k∈r,0≤k∧k<bs.length)→∀ j:Int,0≤j→∀ k∈gt (mm i r bs) j,k∈gt bs j∨k=i
 | [],_,_,_,_,_,h=>.inl h
 | q::r,bs,h,j,hj,k,hk=>by
  have h1:=h q (by simp)
  have h2:=gC (v:=gt bs q ++ [i]) h1.1 h1.2
  rw[mm]at hk
  rcases LK i r _ (fun j hj=>by rw[h2];exact h j (by simp[hj])) j hj k hk with h3|h3
  ·rw[lA h1.1 h1.2 hj]at h3
   split at h3
   ·rename_i e
    rw[e]
    rcases List.mem_append.1 h3 with h4|h4
    ·exact .inl h4
    ·exact .inr (List.mem_singleton.1 h4)
   ·exact .inl h3
  ·exact .inr h3
theorem LG(hk:∀ x∈nx,∀ k∈x,0≤k∧k<nx.length):∀ n:Nat,n≤nx.length→∀ j:Int,0≤j→∀ k∈gt (kr nx n) j,0≤k∧k<n
 | 0,_,j,hj,k,hm=>by
  have:∀ a∈kr nx 0,a = []:=fun a ha=>c9 ha
  by_cases h:j<(kr nx 0).length
  ·rw[this _ (eY hj h)]at hm;cases hm
  ·unfold gt at hm
   rw[List.getD_eq_getElem?_getD,aG (by omega)]at hm
   cases hm
 | n+1,h,j,hj,k,hm=>by
  rw[kr]at hm
  rcases LK n _ _ (by rw[rR hk n (by omega)];exact hk _ (eY (by omega) (by omega))) j hj k hm with h1|h1
  ·have:=LG hk n (by omega) j hj k h1;omega
  ·omega
end
theorem f29(g:eO)(hg:fi g)(l:List Pos)(hc:p5 g l)(h0:0<l.length):Wf T 29 [dG g,fW l] [] (Ey (fun v=>.tup [gq v,.i 0]) fun v=>v.length=l.length∧∀ k:Int,0≤k→k<l.length→mj (mX g l (fy g l)) v k):=by
 have hlen:=hc.len
 have EU:(fy g l).length=l.length:=by simp[fy]
 refine Yg CU ?_
 simp[CU]
 refine Yc (f52 g hg l hc h0) ?_
 simp
 (with_reducible repeat' first|refine Xk ?_<;>try simp|refine Xs ?_ ?_<;>intro h<;>(try intro h')<;>(try simp[h])<;>(try omega)|refine Xg ?_|omega)
 refine eW.e ((0,List.replicate l.length (0,0),List.replicate l.length 0,[]):Int×List eT×List Int×List Int) (fun y=>[(2,.ptr 0 0 0),(6,.sl 1 ((fy g l).map fN)),(8,.ptr 2 0 0),(9,.eN 3 0 1 0 l.length),(10,.ptr 4 0 0),(11,.fn (.func 53) [] [.ptr 2 0 0,.ptr 4 0 0]),(37,fW l),(38,.i l.length),(39,.i y.1)]) (fun y=>HX g l.length y.2.1 y.2.2.1 (y.2.2.2.length-1) y.2.2.2 0) (fun y=>0≤y.1∧y.1≤l.length∧VS (mX g l (fy g l)) l.length y.1 y.2.2.2 y.2.1 y.2.2.1) (fun y=>(l.length-y.1).toNat) ?_ ?_
 ·exact⟨by simp,by simp,VS.start _ _⟩
 rintro⟨i,v,lf,R⟩ ⟨i0,i1,hS⟩
 dsimp only at i0 i1 hS ⊢
 by_cases hi:i<l.length
 ·have hp:=hc.ok _ (eY i0 hi)
  have xh:=hS.ll
  have gL:=hS.vl
  by_cases hR:R = []
  ·subst hR
   simp[hi,HX,H0,oc]
   (with_reducible repeat' first|refine Xk ?_<;>try simp|refine Xs ?_ ?_<;>intro h<;>(try intro h')<;>(try simp[h])<;>(try omega)|refine Xg ?_|omega)
   refine Yc (f54 g hg (gt l i) hp) ?_
   simp
   (with_reducible repeat' first|refine Xk ?_<;>try simp|refine Xs ?_ ?_<;>intro h<;>(try intro h')<;>(try simp[h])<;>(try omega)|refine Xg ?_|omega)
   ·refine fr.s (by simp;rfl) ?_
    refine fr.nj rfl rfl (SH g l.length v _ (gt l i) i (stat g (gt l i)).1 0 ⟨i0,hi⟩ gL) ?_
    rintro _ H' ⟨rfl,rfl⟩
    simp
    (with_reducible repeat' first|refine Xk ?_<;>try simp|refine Xs ?_ ?_<;>intro h<;>(try intro h')<;>(try simp[h])<;>(try omega)|refine Xg ?_|omega)
    refine LJ.i (i+1,pt v i ((stat g (gt l i)).1,0),pt lf i (gt (fy g l) i).length,[i]) (by first|rfl|simp[HX,HV,gW]) (by first|rfl|simp[HX,HV,gW]) rfl rfl ?_
    exact⟨by dsimp only;omega,by dsimp only;omega,by dsimp only;omega,hS.yes i0 hi ‹_›⟩
   refine LJ.i (i+1,v,pt lf i (gt (fy g l) i).length,[]) (by first|rfl|simp[HX,H0]) (by first|rfl|simp[HX,H0]) rfl rfl ?_
   exact⟨by dsimp only;omega,by dsimp only;omega,by dsimp only;omega,hS.no i0 hi ‹_›⟩
  ·have hRl:=aA.2 hR
   simp[hi,km hR,HV,oc]
   (with_reducible repeat' first|refine Xk ?_<;>try simp[km hR,HV]|refine Xs ?_ ?_<;>intro h<;>(try intro h')<;>(try simp[h,km hR,HV])<;>(try omega)|refine Xg ?_|omega)
   refine Yc (f54 g hg (gt l i) hp) ?_
   simp
   (with_reducible repeat' first|refine Xk ?_<;>try simp[km hR,HV]|refine Xs ?_ ?_<;>intro h<;>(try intro h')<;>(try simp[h,km hR,HV])<;>(try omega)|refine Xg ?_|omega)
   ·refine fr.s (by simp[km hR,HV];rfl) ?_
    refine fr.nj rfl rfl (Hx g l.length v _ R (R.length-1) 0 [.row 44 0 (gt l i).cells] (.inr ⟨_,rfl⟩) i (stat g (gt l i)).1 0 ⟨i0,hi⟩ gL (by have:=vM (P:=[]) (R:=R) (n:=l.length) (by simpa using hS.nd) (fun k hk=>by have:=((hS.qr k).1 (by simpa using hk)).1;omega);simp at this;omega) (by omega)) ?_
    rintro _ H' ⟨rfl,rfl⟩
    simp[km hR,HV]
    (with_reducible repeat' first|refine Xk ?_<;>try simp[km hR,HV]|refine Xs ?_ ?_<;>intro h<;>(try intro h')<;>(try simp[h,km hR,HV])<;>(try omega)|refine Xg ?_|omega)
    refine LJ.i (i+1,pt v i ((stat g (gt l i)).1,0),pt lf i (gt (fy g l) i).length,R ++ [i]) (by first|rfl|simp[km,HV,gW,show R.length-1+1=R.length by omega]) (by first|rfl|simp[km,HV,gW,show R.length-1+1=R.length by omega]) rfl rfl ?_
    exact⟨by dsimp only;omega,by dsimp only;omega,by dsimp only;omega,hS.yes i0 hi ‹_›⟩
   refine LJ.i (i+1,v,pt lf i (gt (fy g l) i).length,R) (by first|rfl|simp[km hR,HV]) (by first|rfl|simp[km hR,HV]) rfl rfl ?_
   exact⟨by dsimp only;omega,by dsimp only;omega,by dsimp only;omega,hS.no i0 hi ‹_›⟩
 ·have fw:i=l.length:=by omega
  subst fw
  obtain⟨hB,hU⟩:=hS.done fun k hk=>by have:=acR hg hk;show(stat g (gt l k)).1≠0;omega
  have zB:∀ (env:Env) (r:Bool),forget [6,8,9,10,11] env = [(6,.sl 1 ((fy g l).map fN)),(8,.ptr 2 0 0),(9,.eN 3 0 1 0 l.length),(10,.ptr 4 0 0),(11,.fn (.func 53) [] [.ptr 2 0 0,.ptr 4 0 0])]→cut 5 [6,8,9,10,11] { env:=env,H:=HX g l.length v lf (R.length-1) R 0,marks:=[],fL:=r } = { env:=[(6,.sl 1 ((fy g l).map fN)),(8,.ptr 2 0 0),(9,.eN 3 0 1 0 l.length),(10,.ptr 4 0 0),(11,.fn (.func 53) [] [.ptr 2 0 0,.ptr 4 0 0])],H:=HX g l.length v lf (R.length-1) R 0,marks:=[],fL:=r }:=fun env r he=>by
   refine QO _ ?_ he r
   exact nz (yZ _) (Pe (by omega) (xL (by omega) (Pe (by omega) (aaK (by omega) (by omega) xK))))
  simp[zB]
  (with_reducible repeat' first|refine Xk ?_<;>try simp|refine Xs ?_ ?_<;>intro h<;>(try intro h')<;>(try simp[h])<;>(try omega)|refine Xg ?_|omega)
  have fw:=fun i i0 i1=>(ue hc (i:=i) i0 i1).2
  have gT:∀ k:Int,0≤k→k<l.length→(gt (fy g l) k).length≤4000000000:=fun k k0 k1=>by
   rw[(ue hc k0 k1).1,List.length_map]
   have:=FJ hg (hc.ok _ (eY k0 k1));omega
  have Iq:∀ k:Int,0≤k→k<l.length→∀ c∈gt (mX g l (fy g l)).nx k,0≤c∧c<l.length:=fw
  have k7:∀ x∈fy g l,∀ k∈x,0≤k∧k<(fy g l).length:=fun x hx k hk=>by
   obtain⟨a,a0,a1,rfl⟩:=rv.1 hx
   rw[EU]at a1 ⊢
   exact fw a a0 a1 k hk
  have kP:∀ x∈fy g l,x.length≤4000000000:=fun x hx=>by
   obtain⟨a,a0,a1,rfl⟩:=rv.1 hx
   rw[EU]at a1
   exact gT a a0 a1
  refine Yc (f55 (fy g l) k7 (by omega) kP) ?_
  simp
  (with_reducible repeat' first|refine Xk ?_<;>try simp|refine Xs ?_ ?_<;>intro h<;>(try intro h')<;>(try simp[h])<;>(try omega)|refine Xg ?_|omega)
  refine eW.K (by simp[zB,yD];rfl) ?_
  generalize oh:kr (fy g l) (fy g l).length=bs
  refine eW.s (by simp[zB];rfl) ?_
  refine eW.e ((v,lf,R.length-1,R,0,[]):List eT×List Int×Nat×List Int×Nat×List Int) (fun y=>[(8,.ptr 2 0 0),(9,.eN 3 0 1 0 l.length),(10,.ptr 4 0 0),(11,.fn (.func 53) [] [.ptr 2 0 0,.ptr 4 0 0]),(16,.sl 1 (bs.map fN))]) (fun y=>HX g l.length y.1 y.2.1 y.2.2.1 y.2.2.2.1 y.2.2.2.2.1) (fun y=>VB (mX g l (fy g l)) l.length y.2.2.2.2.2 (y.2.2.2.1.drop y.2.2.2.2.1) y.1 y.2.1∧US (mX g l (fy g l)) l.length y.2.2.2.2.2 (y.2.2.2.1.drop y.2.2.2.2.1) [] 0 y.1 y.2.1∧y.2.2.2.1.length≤l.length∧(y.2.2.2.1 = []↔R = [])) (fun y=>l.length-y.2.2.2.2.2.length) ?_ ?_
  ·exact⟨hB,hU,by have:=vM hB.nd hB.qr;simpa using this,di⟩
  dsimp only
  rw[yD]
  clear hB hU hS hi i0 i1
  rintro⟨v,lf,γ,L,h,P⟩ ⟨hB,hU,tF,ED⟩
  dsimp only at hB hU tF ED ⊢
  have mP:=vM hB.nd hB.qr
  rw[ay]at mP
  cases hR:L.drop h with
  | nil=>
   rw[hR]at hB hU
   have hq:L.length-h=0:=by
    have:(L.drop h).length=0:=by rw[hR];rfl
    rwa [bn]at this
   by_cases hL:L = []
   case' pos=>
    have lJ:=ED.1 hL
    simp[hL,HX,H0,lJ]
    (with_reducible repeat' first|refine Xk ?_<;>try simp[hL,lJ]|refine Xs ?_ ?_<;>intro h<;>(try intro h')<;>(try simp[h,hL,lJ])<;>(try omega)|refine Xg ?_|omega)
    refine eW.s (s':={ env:=[(136,.i 0),(135,.i l.length),(134,.eN 1 0 2 0 l.length),(8,.ptr 2 0 0)],H:=HX g l.length v lf γ L h }) (by simp[lJ,hL,HX,H0]) ?_
    refine eW.K (by simp[lJ,yD,hL];rfl) ?_
   case' neg=>
    have lJ:¬ _ = []:=fun e=>hL (ED.2 e)
    simp[km hL,HV,lJ,hq]
    (with_reducible repeat' first|refine Xk ?_<;>try simp[km hL,HV,lJ,hq]|refine Xs ?_ ?_<;>intro h<;>(try intro h')<;>(try simp[h,km hL,HV,lJ,hq])<;>(try omega)|refine Xg ?_|omega)
    refine eW.s (s':={ env:=[(136,.i 0),(135,.i l.length),(134,.eN 1 0 2 0 l.length),(8,.ptr 2 0 0)],H:=HX g l.length v lf γ L h }) (by simp[lJ,km hL,HV]) ?_
    refine eW.K (by simp[lJ,yD,km hL,HV];rfl) ?_
   all_goals
    obtain⟨G,hX⟩:=QP g l.length lf L γ h
    have gL:=hB.vl
    refine eW.e ((0,v):Int×List eT) (fun y=>[(8,.ptr 2 0 0),(135,.i l.length),(136,.i y.1)]) (fun y=>HX g l.length y.2 lf γ L h) (fun y=>0≤y.1∧y.1≤l.length∧y.2.length=l.length∧∀ k:Int,0≤k→k<l.length→gt y.2 k=if k<y.1∧(gt v k).1=0 then(2,(gt v k).2)else gt v k) (fun y=>(l.length-y.1).toNat) ?_ ?_
    ·exact⟨by simp,by simp,gL,fun k k0 k1=>by rw[if_neg (by dsimp only;omega)]⟩
    rintro⟨i,w⟩ ⟨i0,i1,w0,w1⟩
    dsimp only at i0 i1 w0 w1 ⊢
    by_cases hi:i<l.length
    ·have c0:=G6 (v:=w) (n:=i) (by omega)
     have Ff:=w1 i i0 hi
     rw[if_neg (by omega)]at Ff
     simp[hi,hX]
     (with_reducible repeat' first|refine Xk ?_<;>try simp[hX]|refine Xs ?_ ?_<;>intro h<;>(try intro h')<;>(try simp[h,hX])<;>(try omega)|refine Xg ?_|omega)
     simp[c0]
     (with_reducible repeat' first|refine Xk ?_<;>try simp[hX]|refine Xs ?_ ?_<;>intro h<;>(try intro h')<;>(try simp[h,hX])<;>(try omega)|refine Xg ?_|omega)
     ·have zA:=Rw (l:=w) (n:=i) (by omega) 2
      refine LJ.i (i+1,pt w i (2,(gt w i).2)) (by first|rfl|simp) (by rw[hX,← zA];rfl) rfl rfl ?_
      refine⟨by dsimp only;omega,by dsimp only;omega,by dsimp only;omega,?_,fun k k0 k1=>?_⟩
      ·dsimp only;rw[gC i0 (by omega)];exact w0
      ·dsimp only
       rw[lA i0 (by omega) k0]
       by_cases e:k=i
       ·subst e
        rw[if_pos rfl,if_pos ⟨by omega,by rw[← Ff];assumption⟩,Ff]
       ·rw[if_neg e,w1 k k0 k1]
        by_cases e2:k<i
        ·simp[e2,show k<i+1 by omega]
        ·simp[e2,show ¬ k<i+1 by omega]
     ·refine LJ.i (i+1,w) (by first|rfl|simp) (by rw[hX];rfl) rfl rfl ?_
      refine⟨by dsimp only;omega,by dsimp only;omega,by dsimp only;omega,w0,fun k k0 k1=>?_⟩
      dsimp only
      by_cases e:k=i
      ·subst e
       rw[Ff]at *
       rw[if_neg (by rintro⟨_,h2⟩;contradiction)]
      ·rw[w1 k k0 k1]
       by_cases e2:k<i
       ·simp[e2,show k<i+1 by omega]
       ·simp[e2,show ¬ k<i+1 by omega]
    ·have pL:i=l.length:=by omega
     subst pL
     have zt:G.length=if L = []then 2 else 3:=by
      have h1:=congrArg List.length (hX v)
      rw[yD]at h1
      simp only[aJ]at h1
      by_cases hh:L = []
      ·rw[if_pos hh]at h1 ⊢;omega
      ·rw[if_neg hh]at h1 ⊢;omega
     first|rw[if_pos hL]at zt|rw[if_neg hL]at zt
     simp[hX,zt]
     (with_reducible repeat' first|refine Xk ?_<;>try simp[hX,zt]|refine Xs ?_ ?_<;>intro h<;>(try intro h')<;>(try simp[h,hX,zt])<;>(try omega)|refine Xg ?_|omega)
     rw[qW w0.symm,acq]
     refine Ey.i w rfl rfl ⟨w0,ac4 Iq hB hU fun k k0 k1=>?_⟩
     rw[w1 k k0 k1]
     by_cases e:(gt v k).1=0
     ·rw[if_pos ⟨k1,e⟩,if_pos e]
     ·rw[if_neg fun hh=>e hh.2,if_neg e]
  | cons i R=>
   rw[hR]at hB hU mP
   have hL:L≠[]:=fun e=>by rw[e]at hR;simp at hR
   have xd:h<L.length:=by
    by_cases e:h<L.length
    ·exact e
    ·rw[bZ (by omega)]at hR;cases hR
   have Ny:gt L (h:Int)=i:=by
    rw[bP xd,cm]at hR
    rw[tB xd];exact hR.1
   obtain⟨zI,Uf⟩:=hB.qr i (by simp)
   have lJ:¬ _ = []:=fun e=>hL (ED.2 e)
   have Im:0<L.length-h:=by omega
   have hle:(List.drop h L).length=L.length-h:=bn
   have oP:=LY L h xd
   rw[Ny]at oP
   have oO:bs.length=l.length:=by
    rw[← oh,rR k7 _ (Nat.le_refl _),EU]
   simp[km hL,HV,lJ]
   (with_reducible repeat' first|refine Xk ?_<;>try simp[km hL,HV,Im]|refine Xs ?_ ?_<;>intro h<;>(try intro h')<;>(try simp[h,km hL,HV,Im])<;>(try omega)|refine Xg ?_|omega)
   simp[oP]
   simp[oc]
   (with_reducible repeat' first|refine Xk ?_<;>try simp[km hL,HV]|refine Xs ?_ ?_<;>intro h<;>(try intro h')<;>(try simp[h,km hL,HV])<;>(try omega)|refine Xg ?_|omega)
   have hxb:(gt bs i).length≤17000000000000:=by
    have:=GQ k7 kP _ (Nat.le_refl _) i zI
    rw[oh]at this
    omega
   have tL:∀ k:Int,0≤k→k<l.length→(gt bs i).count k=(gt (fy g l) k).count i:=fun k k0 k1=>by
    rw[← oh,LF k7 _ (Nat.le_refl _) i zI k k0,if_pos (by omega)]
   have lK:∀ k∈gt bs i,(0≤k∧k<l.length)∧i∈gt (fy g l) k:=fun k hk=>by
    rw[← oh]at hk
    have h1:=LG k7 _ (Nat.le_refl _) i zI k hk
    rw[EU]at h1
    refine⟨h1,db.1 ?_⟩
    rw[← tL k h1.1 h1.2,← oh]
    exact db.2 hk
   refine eW.s (by simp only[km hL];rfl) ?_
   refine eW.e ((0,v,lf,γ,L,h,R):Int×List eT×List Int×Nat×List Int×Nat×List Int) (fun y=>[(8,.ptr 2 0 0),(9,.eN 3 0 1 0 l.length),(10,.ptr 4 0 0),(11,.fn (.func 53) [] [.ptr 2 0 0,.ptr 4 0 0]),(16,.sl 1 (bs.map fN)),(17,.i i),(77,dN 1 f1 (gt bs i)),(78,.i (gt bs i).length),(79,.i y.1)]) (fun y=>HV g l.length y.2.1 y.2.2.1 y.2.2.2.1 y.2.2.2.2.1 y.2.2.2.2.2.1) (fun y=>0≤y.1∧y.1≤(gt bs i).length∧y.2.2.2.2.1.drop y.2.2.2.2.2.1=i::y.2.2.2.2.2.2∧y.2.2.2.2.1.length≤l.length∧VB (mX g l (fy g l)) l.length P (i::y.2.2.2.2.2.2) y.2.1 y.2.2.1∧US (mX g l (fy g l)) l.length P (i::y.2.2.2.2.2.2) ((gt bs i).take y.1.toNat) (gt y.2.1 i).1 y.2.1 y.2.2.1) (fun y=>((gt bs i).length-y.1).toNat) ?_ ?_
   ·exact⟨by simp,by simp,hR,tF,hB,by simpa using hU.t0 _⟩
   dsimp only
   rw[km hL]
   clear hR xd Ny Im hle oP hB hU
   rintro⟨j,v,lf,γ,L,q,R⟩ ⟨j0,j1,hR,tF,hB,hU⟩
   dsimp only at j0 j1 hR tF hB hU ⊢
   have hL:L≠[]:=fun e=>by rw[e]at hR;simp at hR
   by_cases hj:j<(gt bs i).length
   ·obtain⟨hk,nb⟩:=lK _ (eY j0 hj)
    have gL:=hB.vl
    have xh:=hB.ll
    simp[hj,HV]
    generalize jc:gt (gt bs i) j=k at *
    have kP:((gt bs i).take (j+1).toNat)=(gt bs i).take j.toNat ++ [k]:=by
     rw[show(j+1).toNat=j.toNat+1 by omega,List.take_add_one,List.getElem?_eq_getElem (by omega),Option.toList_some,← nL j0 hj,jc]
    have k0:=G6 (v:=v) (n:=k) (by omega)
    have e0:=G6 (v:=v) (n:=i) (by omega)
    have e1:=Rv (v:=v) (n:=i) (by omega)
    have sx:=hB.nn i (by simp)
    have mP:=vM hB.nd hB.qr
    have xd:q<L.length:=by
     by_cases e:q<L.length
     ·exact e
     ·rw[bZ (by omega)]at hR;cases hR
    by_cases hz:(gt v k).1=0
    ·have xf:k ∉ P++i::R:=fun hm=>hB.qi k hm hz
     by_cases Aa:(gt v i).1=3
     ·(with_reducible repeat' first|refine Xk ?_<;>try simp|refine Xs ?_ ?_<;>intro h<;>(try intro h')<;>(try simp[h])<;>(try omega)|refine Xg ?_|omega)
      simp[k0,hz]
      (with_reducible repeat' first|refine Xk ?_<;>try simp|refine Xs ?_ ?_<;>intro h<;>(try intro h')<;>(try simp[h])<;>(try omega)|refine Xg ?_|omega)
      simp[e0,Aa]
      (with_reducible repeat' first|refine Xk ?_<;>try simp|refine Xs ?_ ?_<;>intro h<;>(try intro h')<;>(try simp[h])<;>(try omega)|refine Xg ?_|omega)
      simp[e1]
      (with_reducible repeat' first|refine Xk ?_<;>try simp|refine Xs ?_ ?_<;>intro h<;>(try intro h')<;>(try simp[h])<;>(try omega)|refine Xg ?_|omega)
      refine fr.nj rfl rfl (Hx g l.length v lf L γ q [] (.inl rfl) k 1 ((gt v i).2+1) hk gL (by omega) (by omega)) ?_
      rintro _ H' ⟨rfl,rfl⟩
      simp
      (with_reducible repeat' first|refine Xk ?_<;>try simp|refine Xs ?_ ?_<;>intro h<;>(try intro h')<;>(try simp[h])<;>(try omega)|refine Xg ?_|omega)
      obtain⟨s1,s2⟩:=acT Iq hB hU hk.1 hk.2 xf nb Aa
      have q7:=vM s1.nd s1.qr
      refine LJ.i (j+1,pt v k (1,(gt v i).2+1),lf,γ+1,L.drop q ++ [k],0,R ++ [k]) (by first|rfl|simp[HV]) (by first|rfl|simp[HV]) rfl rfl ?_
      refine⟨by dsimp only;omega,by dsimp only;omega,by dsimp only;omega,by dsimp only;rw[hR];rfl,by dsimp only;rw[hR];simp at q7 ⊢;omega,s1,?_⟩
      dsimp only
      rw[kP,lA hk.1 (by omega) zI,if_neg (fun e=>xf (by rw[← e];simp))]
      exact s2
     ·by_cases z':(gt v i).1=1
      ·(with_reducible repeat' first|refine Xk ?_<;>try simp|refine Xs ?_ ?_<;>intro h<;>(try intro h')<;>(try simp[h])<;>(try omega)|refine Xg ?_|omega)
       simp[k0,hz]
       (with_reducible repeat' first|refine Xk ?_<;>try simp|refine Xs ?_ ?_<;>intro h<;>(try intro h')<;>(try simp[h])<;>(try omega)|refine Xg ?_|omega)
       simp[e0,Aa]
       (with_reducible repeat' first|refine Xk ?_<;>try simp|refine Xs ?_ ?_<;>intro h<;>(try intro h')<;>(try simp[h])<;>(try omega)|refine Xg ?_|omega)
       try simp[e0,z']
       obtain⟨_,_,u1,u2⟩:=hU k hk.1 hk.2 xf
       have u3:=u2 fun e=>by have h1:i∈gt (mX g l (fy g l)).nx k:=nb;rw[e]at h1;cases h1
       have u4:(gt (mX g l (fy g l)).nx k).length≤4000000000:=gT k hk.1 hk.2
       have IM:gt (pt lf k (gt lf k-1)) k=gt lf k-1:=zn hk.1 (by omega)
       have lM:(pt lf k (gt lf k-1)).length=lf.length:=gC hk.1 (by omega)
       by_cases vx:gt lf k-1=0
       ·(with_reducible repeat' first|refine Xk ?_<;>try simp|refine Xs ?_ ?_<;>intro h<;>(try intro h')<;>(try simp[h])<;>(try omega)|refine Xg ?_|omega)
        simp[e1]
        (with_reducible repeat' first|refine Xk ?_<;>try simp|refine Xs ?_ ?_<;>intro h<;>(try intro h')<;>(try simp[h])<;>(try omega)|refine Xg ?_|omega)
        refine fr.s (by simp;rfl) ?_
        refine fr.nj rfl rfl (Hx g l.length v (pt lf k (gt lf k-1)) L γ q [] (.inl rfl) k 3 ((gt v i).2+1) hk gL (by omega) (by omega)) ?_
        rintro _ H' ⟨rfl,rfl⟩
        simp
        (with_reducible repeat' first|refine Xk ?_<;>try simp|refine Xs ?_ ?_<;>intro h<;>(try intro h')<;>(try simp[h])<;>(try omega)|refine Xg ?_|omega)
        obtain⟨s1,s2⟩:=acV Iq hB hU hk.1 hk.2 xf nb z' vx (by
         have h1:=tL k hk.1 hk.2
         have h2:((gt bs i).take j.toNat).count k+1≤(gt bs i).count k:=by
          have h3:(((gt bs i).take j.toNat) ++ [k]).count k≤(gt bs i).count k:=by
           rw[← kP]
           exact(List.take_sublist _ _).count_le _
          rwa [cM,List.count_singleton_self]at h3
         show _≤(gt (fy g l) k).count i
         omega)
        have q7:=vM s1.nd s1.qr
        refine LJ.i (j+1,pt v k (3,(gt v i).2+1),pt lf k (gt lf k-1),γ+1,L.drop q ++ [k],0,R ++ [k]) (by first|rfl|simp[HV]) (by first|rfl|simp[HV]) rfl rfl ?_
        refine⟨by dsimp only;omega,by dsimp only;omega,by dsimp only;omega,by dsimp only;rw[hR];rfl,by dsimp only;rw[hR];simp at q7 ⊢;omega,s1,?_⟩
        dsimp only
        rw[kP,lA hk.1 (by omega) zI,if_neg (fun e=>xf (by rw[← e];simp))]
        exact s2
       ·(with_reducible repeat' first|refine Xk ?_<;>try simp|refine Xs ?_ ?_<;>intro h<;>(try intro h')<;>(try simp[h])<;>(try omega)|refine Xg ?_|omega)
        obtain⟨s1,s2⟩:=acU hB hU hk.1 hk.2 xf nb z' vx
        refine LJ.i (j+1,v,pt lf k (gt lf k-1),γ,L,q,R) (by first|rfl|simp[HV]) (by first|rfl|simp[HV]) rfl rfl ?_
        refine⟨by dsimp only;omega,by dsimp only;omega,by dsimp only;omega,hR,tF,s1,?_⟩
        dsimp only
        rw[kP]
        exact s2
      ·(with_reducible repeat' first|refine Xk ?_<;>try simp|refine Xs ?_ ?_<;>intro h<;>(try intro h')<;>(try simp[h])<;>(try omega)|refine Xg ?_|omega)
       simp[k0,hz]
       (with_reducible repeat' first|refine Xk ?_<;>try simp|refine Xs ?_ ?_<;>intro h<;>(try intro h')<;>(try simp[h])<;>(try omega)|refine Xg ?_|omega)
       simp[e0,Aa]
       (with_reducible repeat' first|refine Xk ?_<;>try simp|refine Xs ?_ ?_<;>intro h<;>(try intro h')<;>(try simp[h])<;>(try omega)|refine Xg ?_|omega)
       try simp[e0,z']
       (with_reducible repeat' first|refine Xk ?_<;>try simp|refine Xs ?_ ?_<;>intro h<;>(try intro h')<;>(try simp[h])<;>(try omega)|refine Xg ?_|omega)
       refine LJ.i (j+1,v,lf,γ,L,q,R) (by first|rfl|simp[HV]) (by first|rfl|simp[HV]) rfl rfl ?_
       refine⟨by dsimp only;omega,by dsimp only;omega,by dsimp only;omega,hR,tF,hB,?_⟩
       dsimp only
       rw[kP]
       exact hU.skip (.inr ⟨z',Aa⟩)
    ·(with_reducible repeat' first|refine Xk ?_<;>try simp|refine Xs ?_ ?_<;>intro h<;>(try intro h')<;>(try simp[h])<;>(try omega)|refine Xg ?_|omega)
     simp[k0,hz]
     (with_reducible repeat' first|refine Xk ?_<;>try simp|refine Xs ?_ ?_<;>intro h<;>(try intro h')<;>(try simp[h])<;>(try omega)|refine Xg ?_|omega)
     refine LJ.i (j+1,v,lf,γ,L,q,R) (by first|rfl|simp[HV]) (by first|rfl|simp[HV]) rfl rfl ?_
     refine⟨by dsimp only;omega,by dsimp only;omega,by dsimp only;omega,hR,tF,hB,?_⟩
     dsimp only
     rw[kP]
     exact hU.skip (.inl (by
      by_cases hm:k∈P++i::R
      ·exact hm
      ·rw[hB.z k hk.1 hk.2 hm]at hz;exact absurd rfl hz))
   ·have xd:q<L.length:=by
     by_cases e:q<L.length
     ·exact e
     ·rw[bZ (by omega)]at hR;cases hR
    have Na:L.drop (q+1)=R:=by rw[← List.tail_drop,hR];rfl
    have mP:=vM hB.nd hB.qr
    rw[aH (by omega)]at hU
    obtain⟨s1,s2⟩:=TZ hB hU tL
    simp[hj,HV]
    (with_reducible repeat' first|refine Xk ?_<;>try simp[lJ]|refine Xs ?_ ?_<;>intro h<;>(try intro h')<;>(try simp[h,lJ])<;>(try omega)|refine Xg ?_|omega)
    simp[lJ]
    (with_reducible repeat' first|refine Xk ?_<;>try simp|refine Xs ?_ ?_<;>intro h<;>(try intro h')<;>(try simp[h])<;>(try omega)|refine Xg ?_|omega)
    refine LJ.i (v,lf,γ,L,q+1,P ++ [i]) (by first|rfl|simp[lJ]) (by first|rfl|simp[lJ,km hL,HV,show L.length-q-1=L.length-(q+1)by omega]) (by first|rfl|simp[lJ]) (by first|rfl|simp[lJ]) ?_
    refine⟨?_,?_,?_,tF,fun e=>absurd e hL,fun e=>absurd e lJ⟩
    ·dsimp only
     simp at mP ⊢
     omega
    ·dsimp only;rw[Na];exact s1
    ·dsimp only;rw[Na];exact s2
end Go.Proofs.YtnaefnajkaohgaaGreatDoor
namespace Go.Proofs.YtnaefnajkaohgaaGreatDoor
open Go Go.AL Classical
section
variable{g:eO}{l:List Pos}{nx:List (List Int)}{part:List Int}{bu:Int}
theorem M4{L:Nat}{v v':List eT}{b b':List Bool}(h:mT L (fun _=>True) v b v' b'):∀ k:Nat,k≤L→jZ v b k=jZ v' b' k
 | 0,_=>rfl
 | k+1,hk=>by
  have e1:=h.eb k (by omega) (by omega) trivial
  rw[jZ,jZ,M4 h k (by omega),← e1]
  by_cases e:gt b (k:Int)=false
  ·rw[h.ev k (by omega) (by omega) trivial e]
  ·simp[e]
theorem mT.LC{L:Nat}{v v':List eT}{b b':List Bool}(h:mT L (fun _=>True) v b v' b'):b=b':=
 Ew (h.bl.trans h.uK.symm) fun j j0 j1=>h.eb j j0 (by rw[← h.bl];exact j1) trivial
theorem PZ(o:ke g l nx part bu)(hS:s8 l nx part fun _=>True)(gP:Int):∀ (f:Nat) (n:Int) (v v':List eT) (b b':List Bool) (t:Int),mT l.length (fun _=>True) v b v' b' →
  (iF g l nx part gP f n v b t).1=(iF g l nx part gP f n v' b' t).1
 | 0,n,v,v',b,b',t,h=>rfl
 | f+1,n,v,v',b,b',t,h=>by
  have hr:=P2 o hS h n
  rw[iF,iF,h.vl,h.yf,M4 hr _ (Nat.le_refl _),h.LC]
  rw[h.LC]at hr
  split
  ·exact PZ o hS gP f (n+1) _ _ _ _ _ hr
  ·rfl
theorem SO(o:ke g l nx part bu)(hS:s8 l nx part fun _=>True)(gP:Int){v v':List eT}(hv:v.length=l.length)(jm:v'.length=l.length)(h:∀ k:Int,0≤k→k<l.length→k ∉ part→gt v k=gt v' k) :
  (jM g l nx part gP v (rep l.length)).1=(jM g l nx part gP v' (rep l.length)).1∧(jM g l nx part gP v (rep l.length)).2.1=(jM g l nx part gP v' (rep l.length)).2.1:=by
 have hb:=ui l.length
 obtain⟨m1,m2⟩:=Ay o hb
 have h0:mT l.length (fun _=>True) v (iX (rep l.length) (fun _=>true) part) v' (iX (rep l.length) (fun _=>true) part):=⟨hv,m1,jm,m1,fun _ _ _ _=>rfl,fun k k0 k1 s e=>by
  rw[m2 k k0 k1]at e
  split at e
  ·cases e
  ·rename_i hk
   exact h k k0 k1 hk⟩
 refine⟨PZ o hS gP 4001 0 v v' _ _ 0 h0,Ew ((wR o gP hv hb).1.1.trans (wR o gP jm hb).1.1.symm) fun j j0 j1=>?_⟩
 rw[(wR o gP hv hb).1.1]at j1
 exact ML o hS gP hv jm (fun k k0 k1 _ hk=>h k k0 k1 hk) j j0 j1 trivial
end
end Go.Proofs.YtnaefnajkaohgaaGreatDoor
namespace Go.Proofs.YtnaefnajkaohgaaGreatDoor
open Go Go.AL Classical
set_option maxRecDepth 10000
set_option maxHeartbeats 8000000
theorem Sx(v:List eT)(a b:Int)(h9:v.length≤4000):Wf T 17 [.agg [gq v,.i a,.i b],.agg [gq v,.i a,.i b]] [] (Is (.b true)):=by
 refine Yg B8 ?_
 simp[B8]
 (with_reducible repeat' first|refine Xk ?_<;>try simp|refine Xs ?_ ?_<;>intro h<;>(try intro h')<;>(try simp[h])<;>(try omega)|refine Xg ?_|omega)
 refine Yc (MF v h9) ?_
 simp
 (with_reducible repeat' first|refine Xk ?_<;>try simp|refine Xs ?_ ?_<;>intro h<;>(try intro h')<;>(try simp[h])<;>(try omega)|refine Xg ?_|omega)
theorem f9(x:nD)(hx:Bt x)(a0 a1 a2 a3 a4 a5:Int)(ha:∀ n∈[a0,a1,a2,a3,a4,a5],0≤n∧n<256):Wf T 9 [.agg x.cells,dW [a0,a1,a2,a3,a4,a5]] [] (Is (.b true)):=by
 have qq:x.cells.length=31:=by simp[nD.cells,Raw.cells,hx.len]
 have I8:fm x.cells=true:=by have:=L8 x;simpa using this
 have Rk:=f12 x hx
 generalize x.cells=xs at *
 have xv:xs.take 31=xs:=aH (by omega)
 refine Yz F9 (gH 80 [3] F9.body) ?_
 simp[F9,gH,iJ,kU,kX,lr,jN,dW,qq,xv]
 refine Yc (f11) ?_
 simp
 (with_reducible repeat' first|refine Xk ?_<;>try simp[qq,xv]|refine Xs ?_ ?_<;>intro h<;>(try intro h')<;>(try simp[h,qq,xv])<;>(try omega)|refine Xg ?_|omega)
 simp[qq,xv]
 refine fr.q rfl rfl Rk (by simp[I8]) (fun y=>by obtain⟨g,p,b,l⟩:=y;cases b<;>simp[fm]) ?_
 rintro⟨g,p,b,l⟩ ⟨hg,hp,fE⟩
 cases b
 ·simp
 dsimp only at hg hp fE
 have zx:=fE rfl
 have hc:=zx.c2
 have h0:=zx.len.1
 have h80:=zx.len.2
 have LP:=Sv g hg a0 a1 a2 a3 a4 a5 ha
 simp only[dW,List.map]at LP
 simp
 refine Yq (f29 g hg l hc h0) fun V hV=>?_
 obtain⟨wZ,TD⟩:=hV
 simp
 (with_reducible repeat' first|refine Xk ?_<;>try simp|refine Xs ?_ ?_<;>intro h<;>(try intro h')<;>(try simp[h])<;>(try omega)|refine Xg ?_|omega)
 ·refine Yv (LP) fun m hm=>?_
  simp
  (with_reducible repeat' first|refine Xk ?_<;>try simp|refine Xs ?_ ?_<;>intro h<;>(try intro h')<;>(try simp[h])<;>(try omega)|refine Xg ?_|omega)
  refine Yt (f23 hg hm.ok hc.ok hc.len) ?_
  simp
  have hL:0<(mY m l).length:=by
   have h1:fV m (gt l 0)∈ph m l:=JC.2 ⟨0,by omega,by omega,rfl⟩
   unfold mY
   rw[List.length_map]
   exact aA.2 fun e=>by rw[e]at h1;cases h1
  have Tv:¬ mY m l = []:=fun e=>by rw[e]at hL;simp at hL
  have w3:=Ks (ha a3 (by simp))
  have w4:=Ks (ha a4 (by simp))
  have w5:=Ks (ha a5 (by simp))
  have b3:=ha a3 (by simp)
  have b4:=ha a4 (by simp)
  have b5:=ha a5 (by simp)
  have r3:=jw (a:=a3) (b:=(mY m l).length) b3.1
  have r3a:=bW a3 (show((mY m l).length:Int)≠0 by omega)
  have r3b:=bT a3 (show(0:Int)<(mY m l).length by omega)
  (with_reducible repeat' first|refine Xk ?_<;>try simp[w3]|refine Xs ?_ ?_<;>intro h<;>(try intro h')<;>(try simp[h,w3])<;>(try omega)|refine Xg ?_|omega)
  simp[Tv,w3]
  refine⟨by omega,by omega,by omega,by omega,?_⟩
  refine eW.s (by simp only[w3];rfl) ?_
  have lK:=eY (l:=mY m l) (n:=e7 a3 (mY m l).length) (by omega) (by omega)
  generalize gt (mY m l) (e7 a3 (mY m l).length)=part at *
  obtain⟨pn,pl,pp,pin⟩:=Mk lK
  have o:=HD hg hc (n:=1+IntKind.i64.wrap a5) (by rw[w5];omega) lK
  have IM:=R3 lK
  refine eW.e ((0,V):Int×List eT) (fun y=>[(3,.ptr 1 0 0),(5,.b true),(6,.ptr 2 0 0),(7,gq V),(10,dI part),(11,.eN 3 1 2 0 V.length),(12,.i y.1)]) (fun y=>[.row 32 0 xs,.row 25 0 [.val (.int .u8 a0),.val (.int .u8 a1),.val (.int .u8 a2),.val (.int .u8 a3),.val (.int .u8 a4),.val (.int .u8 a5)],.row 47 0 (g.cells++(p.cells ++ [fW l,.b true])),.row 58 1 (cl fS y.2)]) (fun y=>0≤y.1∧y.1≤part.length∧y.2.length=l.length∧∀ k:Int,0≤k→k<l.length→k ∉ part→gt V k=gt y.2 k) (fun y=>(part.length-y.1).toNat) ?_ ?_
  ·exact⟨by simp,by simp,wZ,fun k _ _ _=>rfl⟩
  rintro⟨j,w⟩ ⟨j0,j1,w0,w1⟩
  dsimp only at j0 j1 w0 w1 ⊢
  by_cases hj:j<part.length
  ·have hk:=pin _ (eY j0 hj)
   have Uo:=eY j0 hj
   simp[hj]
   generalize gt part j=k at *
   (with_reducible repeat' first|refine Xk ?_<;>try simp[w4,w5]|refine Xs ?_ ?_<;>intro h<;>(try intro h')<;>(try simp[h,w4,w5])<;>(try omega)|refine Xg ?_|omega)
   have r4:=jw (a:=a4) (b:=3) b4.1
   rw[← w4]at r4
   refine⟨by rw[r4,w4];omega,by rw[r4,w4];omega,by omega,by omega,by omega,by omega,by omega,?_⟩
   refine LJ.i (j+1,pt w k (1+e7 (IntKind.i64.wrap a4) 3,IntKind.i64.wrap a5)) (by first|rfl|simp) (by first|rfl|simp[mn]) rfl rfl ?_
   refine⟨by dsimp only;omega,by dsimp only;omega,by dsimp only;omega,by dsimp only;rw[gC hk.1 (by omega)];exact w0,fun q q0 q1 hq=>?_⟩
   dsimp only
   rw[lA hk.1 (by omega) q0,if_neg fun e=>hq (by rw[e];exact Uo)]
   exact w1 q q0 q1 hq
  ·have pd:∀ (ρ:Nat→Option Nat) (H:U) (k:Nat),xs.map (eS ρ H k)=xs:=fun ρ H k=>uc I8
   have sr:∀ (q:Nat→Bool) (n:Nat),(List.map ((List.filter q) ∘ gE n) xs).flatten = []:=fun q n=>flatten_nil fun a h=>by
    show List.filter q (gE n a) = []
    rw[Be n (jX I8 a h)];rfl
   have LQ:=ME g hg l hc h0 V wZ part IM (1+IntKind.i64.wrap a5) o
   have G0:=ME g hg l hc h0 w w0 part IM (1+IntKind.i64.wrap a5) o
   obtain⟨e1,e2⟩:=SO o ⟨fun _ _=>trivial,fun _ _ _ _=>trivial⟩ (1+IntKind.i64.wrap a5) wZ w0 w1
   rw[← e1,← e2]at G0
   have e3:=again hg hm hc (bu:=1+IntKind.i64.wrap a5) (by rw[w5];omega) lK wZ wZ TD fun _ _ _ _=>rfl
   rw[e3]at LQ G0
   generalize (jM g l (fy g l) part (1+IntKind.i64.wrap a5) V (rep l.length)).1=lo at *
   have Rm:=MF V (by omega)
   have Rl:=Sx V lo 0 (by omega)
   have w6:V.length=w.length:=wZ.trans w0.symm
   simp[hj,pd,sr,w6]
   (with_reducible repeat' first|refine Xk ?_<;>try simp[pd,sr,w6]|refine Xs ?_ ?_<;>intro h<;>(try intro h')<;>(try simp[h,pd,sr,w6])<;>(try omega)|refine Xg ?_|omega)
   refine Yt LQ ?_
   simp[pd,sr,w6]
   (with_reducible repeat' first|refine Xk ?_<;>try simp[pd,sr,w6]|refine Xs ?_ ?_<;>intro h<;>(try intro h')<;>(try simp[h,pd,sr,w6])<;>(try omega)|refine Xg ?_|omega)
   refine Yt G0 ?_
   simp[pd,sr]
   (with_reducible repeat' first|refine Xk ?_<;>try simp[pd,sr]|refine Xs ?_ ?_<;>intro h<;>(try intro h')<;>(try simp[h,pd,sr])<;>(try omega)|refine Xg ?_|omega)
   refine Yc (Rm) ?_
   simp
   (with_reducible repeat' first|refine Xk ?_<;>try simp|refine Xs ?_ ?_<;>intro h<;>(try intro h')<;>(try simp[h])<;>(try omega)|refine Xg ?_|omega)
   refine Yc (Rl) ?_
   simp
   (with_reducible repeat' first|refine Xk ?_<;>try simp|refine Xs ?_ ?_<;>intro h<;>(try intro h')<;>(try simp[h])<;>(try omega)|refine Xg ?_|omega)
