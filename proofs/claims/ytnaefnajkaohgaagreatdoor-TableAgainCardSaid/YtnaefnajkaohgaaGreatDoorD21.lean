/- Part 21 of the proof of skewer.skewerlaw15.TableAgain. -/
import Derived.Test.YtnaefnajkaohgaaGreatDoorD18
import Derived.Test.YtnaefnajkaohgaaGreatDoorD20
set_option linter.all false
namespace Go.AL
open Go
theorem Wf.sort{T:gb}{f g:FuncId}{fn:eQ}{sz v gen t:Nat}{H:U}{K:D→U→Prop}{α:Type}{fc:α→List D}[F:Fl fc sz](l:List α)(cf:α→α→Int)(hs:T.sort f=some sz)(hg:T.fn g=some fn)(h0:0<l.length)(hl:l.length<2 ^ 40)
  (xA:∀ x,cf x x=0) (tr:∀ x y z,cf x y<0→cf y z<0→cf x z<0) (nt:∀ x y z,¬ cf x y<0→¬ cf y z<0→¬ cf x z<0) (hc:∀ x∈l,∀ y∈l,Wf T g [.agg (fc x),.agg (fc y)] [] (Is (.i (cf x y)))) (hv:H[v]? = some (.row t gen (cl fc l)))
  (k:∀ l':List α,l'.Perm l→l'.Pairwise (fun x y=>¬ cf y x<0)→K (.tup []) (H.set v (.row t gen (cl fc l')))):Wf T f [.eN v gen sz 0 l.length,.fn (.func g) [] []] H K:=
 Ev.sort fc l cf hs hg (fun a _=>F.len a) (fun a _=>F.cl a) h0 (by omega) (fun x _=>by rw[xA];decide) (fun x _ y _ z _=>tr x y z) (fun x _ y _ z _=>nt x y z)
  (fun x hx y hy=>Ev.mono (hc x hx y hy) fun r ⟨d,H',e,h1,_⟩=>⟨H',by rw[e,h1]⟩) (by rw[hv,lF]) fun l' hp hw=>⟨_,_,rfl,by rw[← lF];exact k l' hp hw⟩
theorem Wf.x5{T:gb}{f:FuncId}{sz:Nat}{x:D}{H:U}{K:D→U→Prop}(hs:T.sort f=some sz)(k:K (.tup []) H):Wf T f [.emp,x] H K:=Ev.x5 hs ⟨_,_,rfl,k⟩
section
variable{α:Type}[DecidableEq α]
def jD:List α→List α
 | []=>[]
 | [a]=>[a]
 | a::b::t=>if b=a then jD (b::t)else a::jD (b::t)
theorem DT:∀ (t:List α) (a:α),jD (a::t)=a::(jD (a::t)).tail
 | [],a=>rfl
 | b::t,a=>by
  unfold jD
  split
  ·rename_i h;subst h;exact DT t b
  ·rfl
theorem y7{x:α}:∀ {l:List α},x∈jD l↔x∈l
 | []=>di
 | [a]=>di
 | a::b::t=>by
  unfold jD
  split
  ·rename_i h;subst h;rw[y7 (l:=b::t)];simp
  ·rw[au,y7 (l:=b::t),au (a:=x) (b:=a)]
theorem Me:∀ l:List α,(jD l).length≤l.length
 | []=>Nat.le_refl _
 | [a]=>Nat.le_refl _
 | a::b::t=>by
  have:=Me (b::t)
  unfold jD
  split
  ·exact Nat.le_succ_of_le this
  ·simp only[aJ]at *;omega
theorem RP{l:List α}(h:0<l.length):0<(jD l).length:=by
 cases l with
 | nil=>simp at h
 | cons a t=>rw[DT];simp
theorem RO{l:List α}:jD l = []↔l = []:=by
 constructor
 ·intro h
  rcases dO l.length with h2|h2
  ·exact aC.1 h2
  ·have:=RP h2;rw[h]at this;simp at this
 ·rintro rfl;rfl
theorem Mf{l:List α}(h:l.length<2):jD l=l:=by
 match l,h with
 | [],_=>rfl
 | [a],_=>rfl
 | a::b::t,h=>simp at h;omega
def nB(l:List α)(m:Int):List α:=(jD (l.drop (m-1).toNat)).tail
variable [Inhabited α]{l:List α}{m:Int}
theorem Qs(h:0<l.length):jD l=l.take 1++nB l 1:=by
 cases l with
 | nil=>simp at h
 | cons a t=>exact DT t a
theorem Gu(h:m=l.length)(h0:1≤m):nB l m = []:=by
 unfold nB
 rw[lk (by omega) (by omega),bZ (by omega)]
 rfl
theorem Gv(h0:1≤m)(h:m<l.length)(e:gt l m=gt l (m-1)):nB l m=nB l (m+1):=by
 unfold nB
 rw[lk (n:=m-1) (by omega) (by omega),show(m-1).toNat+1=m.toNat by omega,lk (n:=m) (by omega) h,jD,if_pos e,Int.add_sub_cancel,lk (n:=m) (by omega) h]
theorem Gw(h0:1≤m)(h:m<l.length)(e:gt l m≠gt l (m-1)):nB l m=gt l m::nB l (m+1):=by
 unfold nB
 rw[lk (n:=m-1) (by omega) (by omega),show(m-1).toNat+1=m.toNat by omega,lk (n:=m) (by omega) h,jD,if_neg e,Int.add_sub_cancel,lk (n:=m) (by omega) h]
 exact DT _ _
end
theorem Hb:∀ {l:List Pos},l.Pairwise (fun x y=>gd x y≤0)→(jD l).Pairwise fun x y=>gd x y<0
 | [],_=>.nil
 | [a],_=>by simp[jD]
 | a::b::t,h=>by
  have h1:=aL.1 h
  have h2:=aL.1 h1.2
  unfold jD
  split
  ·exact Hb h1.2
  ·rename_i hn
   refine aL.2 ⟨fun x hx=>?_,Hb h1.2⟩
   rw[y7]at hx
   have h3:=h1.1 x hx
   by_cases h4:gd a x=0
   ·have e:=nJ.1 h4
    subst e
    rcases au.1 hx with e|hx
    ·exact absurd e.symm hn
    ·have h5:=h2.1 _ hx
     have h6:=h1.1 b (by simp)
     have h7:=qc a b
     exact absurd (nJ.1 (show gd a b=0 by omega)).symm hn
   ·omega
theorem RQ{l l':List Pos}(hp:l'.Perm l)(hw:l'.Pairwise fun x y=>¬ gd y x<0):jD l'=iL l:=
 Ql (iZ.of (Hb (hw.imp fun{x y} h=>by have:=qc x y;omega))) fun q=>by rw[y7,hp.mem_iff]
theorem RI(x y z:Pos)(h1:¬ gd x y<0)(h2:¬ gd y z<0):¬ gd x z<0:=by
 have a:=qc x y;have b:=qc y z;have c:=qc x z
 have:=Ma (p:=z) (q:=y) (r:=x) (by omega) (by omega)
 omega
def b2(b:Bool):Int:=if b then 1 else 0
def nI(a b:fq):Int:=kM [gd a.p b.p,iT (b2 a.ig) (b2 b.ig)]
theorem Q3{a b:Bool}(h:b2 a=b2 b):a=b:=by revert h;cases a<;>cases b<;>simp[b2]
theorem DS{a b:fq}:nI a b=0↔a=b:=by
 unfold nI
 rw[HC]
 simp only[au,cQ,or_false,forall_eq_or_imp,forall_eq,nJ,sL]
 constructor
 ·rintro⟨h1,h2⟩;have:=Q3 h2;cases a;cases b;simp_all
 ·rintro rfl;exact⟨rfl,rfl⟩
theorem G'(a b:fq):nI b a = - nI a b:=by
 unfold nI kM
 rw[qc a.p b.p,FP (b2 a.ig)]
 simp only[kM]
 (repeat' split)<;>omega
theorem L9(x y z:fq):nI x y<0→nI y z<0→nI x z<0:=by
 unfold nI
 refine u6 (fun h=>by rw[nJ.1 h]) (fun h=>by rw[nJ.1 h]) tl (u6 (fun h=>by rw[sL.1 h]) (fun h=>by rw[sL.1 h]) (by simp only[xH];omega) fun h=>?_)
 simp[kM]at h
theorem RH(x y z:fq)(h1:¬ nI x y<0)(h2:¬ nI y z<0):¬ nI x z<0:=by
 have a:=G' x y;have b:=G' y z;have c:=G' x z
 by_cases e1:nI x y=0
 ·rw[DS.1 e1];exact h2
 ·by_cases e2:nI y z=0
  ·rw[← DS.1 e2];exact h1
  ·have:=L9 z y x (by omega) (by omega)
   omega
theorem LV{sz:Nat}:∀ (n:Nat) (a b:List D),a.length=n*sz→chunks sz n (a++b)=chunks sz n a
 | 0,_,_,_=>rfl
 | n+1,a,b,h=>by
  rw[bR]at h
  simp only[chunks]
  rw[bI (by omega),dJ (by omega),LV n (a.drop sz) b (by simp;omega)]
@[simp] theorem ahZ{α:Type}{f:α→List D}{sz:Nat}[F:Fl f sz]{ρ:Nat→Option Nat}{H:U}{k n:Nat}{t:TypeId}{l:List α}{b:List D}(h:n=l.length):lI ρ H (k+1) sz 0 n (some (t,cl f l++b)) = .sl sz (l.map f):=by
 subst h
 unfold lI
 dsimp only
 rw[ay,yY,bj,if_pos (by omega),cc,dM,List.map_append,Gk (qb l),LV _ _ _ (by simp),lF,DN F.len]
@[irreducible] def EA{α:Type}[Inhabited α](l:List α)(n:Nat):α:=gt l (n:Int)
theorem wU{α:Type}[Inhabited α]{l:List α}{n:Nat}{m:Int}(h:(n:Int)=m):EA l n=gt l m:=by unfold EA;rw[h]
@[simp] theorem ai0{α:Type}[Inhabited α]{f:α→List D}{sz:Nat}[F:Fl f sz]{l:List α}{t:TypeId}{n:Nat}(hz:0<sz):tY sz (n*sz) (some (t,cl f l))=if n<l.length then some (.agg (f (EA l n)))else none:=by
 have:=Wd (f:=f) (l:=l) (t:=t) (n:=(n:Int)) hz
 rw[dX]at this
 rw[this];unfold EA;rfl
@[simp] theorem ahg(sz v g off len:Nat)(z:List D)(H:U):y4 sz z (.eN v g sz off len) H=(rowAt H v g).bind fun p=>if (off+len)*sz≤p.2.length then some (.any,.obj v (.row p.1 g (p.2.take (off*sz)++(List.replicate len z).flatten++p.2.drop ((off+len)*sz))))else none:=by
 simp only[y4]
 cases rowAt H v g<;>simp
theorem Qt{α:Type}{l:List α}{n:Int}{v:α}(h0:0≤n)(h:n<l.length):(pt l n v).take (n+1).toNat=l.take n.toNat ++ [v]:=by
 have e:(l.take n.toNat).length=n.toNat:=by rw[aT];omega
 rw[pt,List.take_append,e,show(n+1).toNat-n.toNat=1 by omega,aH (by omega)]
 rfl
end Go.AL
namespace Go.Proofs.YtnaefnajkaohgaaGreatDoor
open Go Go.AL Classical
set_option maxRecDepth 10000
set_option maxHeartbeats 4000000
theorem f124(a b:fq)(ha:Small a.p)(hb:Small b.p):Wf T 124 [.agg a.cells,.agg b.cells] [] (Is (.i (nI a b))):=by
 obtain⟨p,u⟩:=a
 obtain⟨q,v⟩:=b
 cases u<;>cases v
 ·refine Yg qJ ?_
  simp[qJ,fq.cells]
  refine gR.c rfl rfl (f88 p q ha hb) (by simp) (by simp) ?_
  simp
  refine gR.c rfl rfl (f131 _ _) (by simp) (by simp) ?_
  simp
  refine gR.r rfl rfl (f129 [gd p q,iT 0 0] (by simp)) (by simp) (by simp[flat]) (by simp) ?_
  simp
  rfl
 ·refine Yg qJ ?_
  simp[qJ,fq.cells]
  refine gR.c rfl rfl (f88 p q ha hb) (by simp) (by simp) ?_
  simp
  refine gR.c rfl rfl (f131 _ _) (by simp) (by simp) ?_
  simp
  refine gR.r rfl rfl (f129 [gd p q,iT 0 1] (by simp)) (by simp) (by simp[flat]) (by simp) ?_
  simp
  rfl
 ·refine Yg qJ ?_
  simp[qJ,fq.cells]
  refine gR.c rfl rfl (f88 p q ha hb) (by simp) (by simp) ?_
  simp
  refine gR.c rfl rfl (f131 _ _) (by simp) (by simp) ?_
  simp
  refine gR.r rfl rfl (f129 [gd p q,iT 1 0] (by simp)) (by simp) (by simp[flat]) (by simp) ?_
  simp
  rfl
 ·refine Yg qJ ?_
  simp[qJ,fq.cells]
  refine gR.c rfl rfl (f88 p q ha hb) (by simp) (by simp) ?_
  simp
  refine gR.c rfl rfl (f131 _ _) (by simp) (by simp) ?_
  simp
  refine gR.r rfl rfl (f129 [gd p q,iT 1 1] (by simp)) (by simp) (by simp[flat]) (by simp) ?_
  simp
  rfl
theorem f126(a b:fq)(ha:Small a.p)(hb:Small b.p):Wf T 126 [.agg a.cells,.agg b.cells] [] (Is (.b (decide (a=b)))):=by
 refine Yg BG ?_
 simp[BG,fq.cells]
 refine fr.c rfl rfl (f124 a b ha hb) (by simp) (by simp) ?_
 simp[DS]
theorem f90(a b:Pos)(ha:Small a)(hb:Small b):Wf T 90 [.agg a.cells,.agg b.cells] [] (Is (.b (decide (a=b)))):=by
 refine Yg Dj ?_
 simp[Dj]
 refine fr.c rfl rfl (f88 a b ha hb) (by simp) (by simp) ?_
 simp[nJ]
theorem f89(gen:Nat)(l:List Pos)(hs:∀ p∈l,Small p)(h0:0<l.length)(hl:l.length<2 ^ 40)(n:Nat)(hn:l.length=n):Wf T 89 [.eN 0 gen 5 0 n,.fn (.func 90) [] []] [.row 44 gen (cl Pos.cells l)]
  (fun d H'=>∃ junk,d = .eN 0 gen 5 0 (jD l).length∧H' = [.row 44 gen (cl Pos.cells (jD l)++junk)]):=by
 subst hn
 refine Yg wC ?_
 simp[wC]
 by_cases h1:(l.length:Int)<2
 ·have e:=Mf (l:=l) (by omega)
  simp[h1,e]
 ·simp[h1]
  refine eW.e (1:Int) (fun y=>[(0,.eN 0 gen 5 0 l.length),(1,.fn (.func 90) [] []),(5,.i y)]) (fun y=>[.row 44 gen (cl Pos.cells l)]) (fun y=>1≤y∧y≤l.length∧jD l=l.take y.toNat++nB l y) (fun y=>(l.length-y).toNat) ?_ ?_
  ·simp
   exact⟨by omega,by rw[Qs h0]⟩
  rintro y ⟨y0,y1,y2⟩
  by_cases hy:y<l.length
  ·simp[hy,wU (l:=l) (n:=y.toNat-1) (m:=y-1) (by omega)]
   (with_reducible repeat' first|refine Xk ?_<;>try simp|refine Xs ?_ ?_<;>intro h<;>(try intro h')<;>(try simp[h])<;>(try omega)|refine Xg ?_|omega)
   refine gR.c rfl rfl (f90 (gt l y) (gt l (y-1)) (hs _ (eY (by omega) hy)) (hs _ (eY (by omega) (by omega)))) (by simp) (by simp) ?_
   simp
   by_cases he:gt l y=gt l (y-1)
   ·simp[he]
    (with_reducible repeat' first|refine Xk ?_<;>try simp|refine Xs ?_ ?_<;>intro h<;>(try intro h')<;>(try simp[h])<;>(try omega)|refine Xg ?_|omega)
    refine eW.e ((1,y,l):Int×Int×List Pos) (fun x=>[(0,.eN 0 gen 5 0 l.length),(1,.fn (.func 90) [] []),(5,.i x.2.1),(6,.eN 0 gen 5 y.toNat (l.length-y.toNat)),(7,.i x.1)]) (fun x=>[.row 44 gen (cl Pos.cells x.2.2)]) (fun x=>1≤x.1∧y+x.1≤l.length∧1≤x.2.1∧x.2.1<y+x.1∧x.2.2.length=l.length∧(∀ j:Int,y+x.1-1≤j→gt x.2.2 j=gt l j)∧jD l=x.2.2.take x.2.1.toNat++nB l (y+x.1)) (fun x=>(l.length-(y+x.1)).toNat) ?_ ?_
    ·simp
     exact⟨by omega,y0,by omega,by rw[y2,Gv y0 hy he]⟩
    rintro⟨k,i,cur⟩ ⟨k0,k1,i0,i1,c0,c1,c2⟩
    dsimp only at k0 k1 i0 i1 c0 c1 c2 ⊢
    by_cases hk:y+k<l.length
    ·have e1:gt cur (y+k)=gt l (y+k):=c1 _ (by omega)
     have e2:gt cur (y+k-1)=gt l (y+k-1):=c1 _ (by omega)
     have g1:=wU (l:=cur) (n:=y.toNat+k.toNat) (m:=y+k) (by omega)
     have g2:=wU (l:=cur) (n:=y.toNat+(k.toNat-1)) (m:=y+k-1) (by omega)
     simp[show k<((l.length-y.toNat:Nat):Int)by omega,g1,g2,e1,e2,c0]
     (with_reducible repeat' first|refine Xk ?_<;>try simp|refine Xs ?_ ?_<;>intro h<;>(try intro h')<;>(try simp[h])<;>(try omega)|refine Xg ?_|omega)
     refine gR.c rfl rfl (f90 (gt l (y+k)) (gt l (y+k-1)) (hs _ (eY (by omega) hk)) (hs _ (eY (by omega) (by omega)))) (by simp) (by simp) ?_
     simp
     by_cases oi:gt l (y+k)=gt l (y+k-1)
     ·simp[oi]
      (with_reducible repeat' first|refine Xk ?_<;>try simp|refine Xs ?_ ?_<;>intro h<;>(try intro h')<;>(try simp[h])<;>(try omega)|refine Xg ?_|omega)
      refine LJ.e (k+1,i,cur) ?_
      refine⟨by dsimp only;omega,by dsimp only;omega,by dsimp only;omega,i0,by dsimp only;omega,c0,fun j hj=>c1 j (by dsimp only at hj;omega),?_⟩
      dsimp only
      rw[c2,Gv (by omega) hk oi,cT]
     ·simp[oi,g1,e1,c0]
      (with_reducible repeat' first|refine Xk ?_<;>try simp[g1,e1,c0]|refine Xs ?_ ?_<;>intro h<;>(try intro h')<;>(try simp[h,g1,e1,c0])<;>(try omega)|refine Xg ?_|omega)
      have fR:=L5 (f:=Pos.cells) cur i (by omega) (gt l (y+k))
      refine LJ.i (k+1,i+1,pt cur i (gt l (y+k))) (by first|rfl|simp) (by dsimp only;rw[← fR];rfl) rfl rfl ?_
      refine⟨by dsimp only;omega,by dsimp only;omega,by dsimp only;omega,by dsimp only;omega,by dsimp only;omega,by dsimp only;rw[gC (by omega) (by omega)];exact c0,fun j hj=>?_,?_⟩
      ·dsimp only at hj ⊢
       rw[HN (by omega) (by omega) (by omega) (by omega)]
       exact c1 j (by omega)
      ·dsimp only
       rw[Qt (by omega) (by omega),c2,Gw (by omega) hk oi,cT]
       simp
    ·have e:nB l (y+k) = []:=Gu (by omega) (by omega)
     rw[e,aw]at c2
     simp[show ¬ k<((l.length-y.toNat:Nat):Int)by omega,c0]
     (with_reducible repeat' first|refine Xk ?_<;>try simp|refine Xs ?_ ?_<;>intro h<;>(try intro h')<;>(try simp[h])<;>(try omega)|refine Xg ?_|omega)
     exact⟨by rw[c2];simp;omega,_,by rw[rZ,c2]⟩
   ·simp[he]
    (with_reducible repeat' first|refine Xk ?_<;>try simp|refine Xs ?_ ?_<;>intro h<;>(try intro h')<;>(try simp[h])<;>(try omega)|refine Xg ?_|omega)
    refine LJ.e (y+1) ?_
    refine⟨by omega,by omega,by omega,?_⟩
    rw[y2,Gw y0 hy he,gx (by omega) hy]
    simp
  ·have e:nB l y = []:=Gu (by omega) y0
   rw[e,aw,jg (by omega)]at y2
   simp[hy]
   exact⟨by rw[y2],[],by rw[y2];simp⟩
theorem f125(g:eO)(p0:Pos)(gen:Nat)(l:List fq)(hs:∀ p∈l,Small p.p)(h0:0<l.length)(hl:l.length<2 ^ 40)(n:Nat)(hn:l.length=n):Wf T 125 [.eN 3 gen 6 0 n,.fn (.func 126) [] []] [.row 41 0 g.cells,.row 44 0 p0.cells,.row 164 0 [.eN 3 gen 6 0 n],.row 113 gen (cl fq.cells l)]
  (fun d H'=>∃ junk,d = .eN 3 gen 6 0 (jD l).length∧H' = [.row 41 0 g.cells,.row 44 0 p0.cells,.row 164 0 [.eN 3 gen 6 0 n],.row 113 gen (cl fq.cells (jD l)++junk)]):=by
 subst hn
 refine Yg wm ?_
 simp[wm]
 by_cases h1:(l.length:Int)<2
 ·have e:=Mf (l:=l) (by omega)
  simp[h1,e]
 ·simp[h1]
  refine eW.e (1:Int) (fun y=>[(0,.eN 3 gen 6 0 l.length),(1,.fn (.func 126) [] []),(5,.i y)]) (fun y=>[.row 41 0 g.cells,.row 44 0 p0.cells,.row 164 0 [.eN 3 gen 6 0 l.length],.row 113 gen (cl fq.cells l)]) (fun y=>1≤y∧y≤l.length∧jD l=l.take y.toNat++nB l y) (fun y=>(l.length-y).toNat) ?_ ?_
  ·simp
   exact⟨by omega,by rw[Qs h0]⟩
  rintro y ⟨y0,y1,y2⟩
  by_cases hy:y<l.length
  ·simp[hy,wU (l:=l) (n:=y.toNat-1) (m:=y-1) (by omega)]
   (with_reducible repeat' first|refine Xk ?_<;>try simp|refine Xs ?_ ?_<;>intro h<;>(try intro h')<;>(try simp[h])<;>(try omega)|refine Xg ?_|omega)
   refine gR.c rfl rfl (f126 (gt l y) (gt l (y-1)) (hs _ (eY (by omega) hy)) (hs _ (eY (by omega) (by omega)))) (by simp) (by simp) ?_
   simp
   by_cases he:gt l y=gt l (y-1)
   ·simp[he]
    (with_reducible repeat' first|refine Xk ?_<;>try simp|refine Xs ?_ ?_<;>intro h<;>(try intro h')<;>(try simp[h])<;>(try omega)|refine Xg ?_|omega)
    refine eW.e ((1,y,l):Int×Int×List fq) (fun x=>[(0,.eN 3 gen 6 0 l.length),(1,.fn (.func 126) [] []),(5,.i x.2.1),(6,.eN 3 gen 6 y.toNat (l.length-y.toNat)),(7,.i x.1)]) (fun x=>[.row 41 0 g.cells,.row 44 0 p0.cells,.row 164 0 [.eN 3 gen 6 0 l.length],.row 113 gen (cl fq.cells x.2.2)]) (fun x=>1≤x.1∧y+x.1≤l.length∧1≤x.2.1∧x.2.1<y+x.1∧x.2.2.length=l.length∧(∀ j:Int,y+x.1-1≤j→gt x.2.2 j=gt l j)∧jD l=x.2.2.take x.2.1.toNat++nB l (y+x.1)) (fun x=>(l.length-(y+x.1)).toNat) ?_ ?_
    ·simp
     exact⟨by omega,y0,by omega,by rw[y2,Gv y0 hy he]⟩
    rintro⟨k,i,cur⟩ ⟨k0,k1,i0,i1,c0,c1,c2⟩
    dsimp only at k0 k1 i0 i1 c0 c1 c2 ⊢
    by_cases hk:y+k<l.length
    ·have e1:gt cur (y+k)=gt l (y+k):=c1 _ (by omega)
     have e2:gt cur (y+k-1)=gt l (y+k-1):=c1 _ (by omega)
     have g1:=wU (l:=cur) (n:=y.toNat+k.toNat) (m:=y+k) (by omega)
     have g2:=wU (l:=cur) (n:=y.toNat+(k.toNat-1)) (m:=y+k-1) (by omega)
     simp[show k<((l.length-y.toNat:Nat):Int)by omega,g1,g2,e1,e2,c0]
     (with_reducible repeat' first|refine Xk ?_<;>try simp|refine Xs ?_ ?_<;>intro h<;>(try intro h')<;>(try simp[h])<;>(try omega)|refine Xg ?_|omega)
     refine gR.c rfl rfl (f126 (gt l (y+k)) (gt l (y+k-1)) (hs _ (eY (by omega) hk)) (hs _ (eY (by omega) (by omega)))) (by simp) (by simp) ?_
     simp
     by_cases oi:gt l (y+k)=gt l (y+k-1)
     ·simp[oi]
      (with_reducible repeat' first|refine Xk ?_<;>try simp|refine Xs ?_ ?_<;>intro h<;>(try intro h')<;>(try simp[h])<;>(try omega)|refine Xg ?_|omega)
      refine LJ.e (k+1,i,cur) ?_
      refine⟨by dsimp only;omega,by dsimp only;omega,by dsimp only;omega,i0,by dsimp only;omega,c0,fun j hj=>c1 j (by dsimp only at hj;omega),?_⟩
      dsimp only
      rw[c2,Gv (by omega) hk oi,cT]
     ·simp[oi,g1,e1,c0]
      (with_reducible repeat' first|refine Xk ?_<;>try simp[g1,e1,c0]|refine Xs ?_ ?_<;>intro h<;>(try intro h')<;>(try simp[h,g1,e1,c0])<;>(try omega)|refine Xg ?_|omega)
      have fR:=L5 (f:=fq.cells) cur i (by omega) (gt l (y+k))
      refine LJ.i (k+1,i+1,pt cur i (gt l (y+k))) (by first|rfl|simp) (by dsimp only;rw[← fR];rfl) rfl rfl ?_
      refine⟨by dsimp only;omega,by dsimp only;omega,by dsimp only;omega,by dsimp only;omega,by dsimp only;omega,by dsimp only;rw[gC (by omega) (by omega)];exact c0,fun j hj=>?_,?_⟩
      ·dsimp only at hj ⊢
       rw[HN (by omega) (by omega) (by omega) (by omega)]
       exact c1 j (by omega)
      ·dsimp only
       rw[Qt (by omega) (by omega),c2,Gw (by omega) hk oi,cT]
       simp
    ·have e:nB l (y+k) = []:=Gu (by omega) (by omega)
     rw[e,aw]at c2
     simp[show ¬ k<((l.length-y.toNat:Nat):Int)by omega,c0]
     (with_reducible repeat' first|refine Xk ?_<;>try simp|refine Xs ?_ ?_<;>intro h<;>(try intro h')<;>(try simp[h])<;>(try omega)|refine Xg ?_|omega)
     exact⟨by rw[c2];simp;omega,_,by rw[rZ,c2]⟩
   ·simp[he]
    (with_reducible repeat' first|refine Xk ?_<;>try simp|refine Xs ?_ ?_<;>intro h<;>(try intro h')<;>(try simp[h])<;>(try omega)|refine Xg ?_|omega)
    refine LJ.e (y+1) ?_
    refine⟨by omega,by omega,by omega,?_⟩
    rw[y2,Gw y0 hy he,gx (by omega) hy]
    simp
  ·have e:nB l y = []:=Gu (by omega) y0
   rw[e,aw,jg (by omega)]at y2
   simp[hy]
   exact⟨by rw[y2],[],by rw[y2];simp⟩
set_option maxRecDepth 10000
set_option maxHeartbeats 4000000
theorem Ss(x:D)(H:U):Wf T 125 [.emp,x] H (fun d H'=>d = .emp∧H'=H):=by
 refine Yg wm ?_
 simp[wm]
theorem SJ(x:D)(H:U):Wf T 89 [.emp,x] H (fun d H'=>d = .emp∧H'=H):=by
 refine Yg wC ?_
 simp[wC]
theorem Lp{g:eO}:∀ {l:List eT} {now:List eV},(oG g l now).length≤10 ^ l.length*now.length
 | [],now=>by simp[oG]
 | x::r,now=>by
  rw[oG]
  refine Nat.le_trans Lp ?_
  rw[aJ,dH,eI]
  exact dK _ AE
theorem GL{g:eO}:∀ {l:List eT} {a b:List eV},(∀ t,t∈a↔t∈b)→∀ t,t∈oG g l a↔t∈nX g l b
 | [],a,b,h,t=>h t
 | x::r,a,b,h,t=>by
  rw[oG,nX]
  refine GL (fun t=>?_) t
  rw[FL,aZ,aZ]
  exact⟨fun⟨s,h1,h2⟩=>⟨s,(h s).1 h1,h2⟩,fun⟨s,h1,h2⟩=>⟨s,(h s).2 h1,h2⟩⟩
theorem Pt{g:eO}{p:Pos}{c n:Int}{o:fq}:o∈pv g p c n↔o∈pT g p c (gt (gt g.kinds (ff (gt p.cs c))).gu n):=by
 unfold pv pT
 rw[bS,bS]
 exact⟨fun⟨s,h1,h2⟩=>⟨s,(GL (fun _=>di) s).1 h1,h2⟩,fun⟨s,h1,h2⟩=>⟨s,(GL (fun _=>di) s).2 h1,h2⟩⟩
theorem f85(g:eO)(hg:fi g)(p:Pos)(hp:fF g p)(c n:Int)(hc:0≤c∧c<p.cs.length)(hs:iu (gt p.cs c)=p.side)(hn:0≤n∧n<(gt g.kinds (ff (gt p.cs c))).gu.length) :
  Wf T 85 [dG g,dP p,.i c,.i n] [] (Ey (fun r:List fq=>.tup [dN 6 fq.cells r,.i 0]) fun r=>(∀ o,o∈r↔o∈pT g p c (gt (gt g.kinds (ff (gt p.cs c))).gu n))∧r.length≤100000000):=by
 have gj:=hp.size
 have eX:=x7 hg hp hc.1 (by omega) hs
 have k8:rM g (gt (gt g.kinds (ff (gt p.cs c))).gu n):=(hg.gu _ (eY eX.kind.1 eX.kind.2)).2 _ (eY hn.1 hn.2)
 have hlen:(pv g p c n).length≤100000000:=by
  unfold pv
  refine Nat.le_trans (c7 ..) (Nat.le_trans Lp ?_)
  have:=k8.len
  have:10 ^ (gt (gt g.kinds (ff (gt p.cs c))).gu n).length≤10 ^ 8:=cp (by decide) (by omega)
  simpa using this
 have lK:∀ o,o∈pv g p c n→Small o.p:=fun o ho=>by
  rw[Pt]at ho
  unfold pT at ho
  rw[bS]at ho
  obtain⟨s,h1,h2⟩:=ho
  exact(Eg (Gc hg k8.steps (fun t ht=>by rw[List.mem_singleton.1 ht];exact eX) s h1) hp.side.1 hp.side.2 h2).small hg
 refine Yg Dh ?_
 simp[Dh]
 refine fr.nj rfl rfl (f121 g hg p hp c n hc hs hn) ?_
 rintro d H' ⟨rfl,rfl⟩
 have hm:=fun o=>Pt (g:=g) (p:=p) (c:=c) (n:=n) (o:=o)
 generalize pv g p c n=outs at *
 by_cases ho:outs = []
 ·subst ho
  simp
  refine fr.nj rfl rfl (Wf.x5 (K:=fun d H'=>d = .tup []∧H'=_) (sz:=6) rfl ⟨rfl,rfl⟩) ?_
  rintro d H' ⟨rfl,rfl⟩
  simp
  refine fr.nj rfl rfl (Ss _ _) ?_
  rintro d H' ⟨rfl,rfl⟩
  simp
  exact Ey.i [] rfl rfl ⟨hm,by simp⟩
 ·have h0:0<outs.length:=aA.2 ho
  rw[if_neg ho]
  simp
  refine fr.nj rfl rfl (Wf.sort (K:=fun d H'=>∃ l',l'.Perm outs∧d = .tup []∧H' = [.row 41 0 g.cells,.row 44 0 p.cells,.row 164 0 [.eN 3 (outs.length-1) 6 0 outs.length],.row 113 (outs.length-1) (cl fq.cells l')]) (fc:=fq.cells) outs nI rfl rfl h0 (by omega) (fun x=>DS.2 rfl) L9 RH (fun x hx y hy=>f124 x y (lK x hx) (lK y hy)) (gen:=outs.length-1) (t:=113) (by simp) (fun l' hp hw=>⟨l',hp,rfl,by simp⟩)) ?_
  rintro d H' ⟨l',kO,rfl,rfl⟩
  simp
  refine fr.nj rfl rfl (f125 g p (outs.length-1) l' (fun o ho=>lK o ((kO.mem_iff).1 ho)) (by rw[kO.length_eq];exact h0) (by rw[kO.length_eq];omega) outs.length kO.length_eq) ?_
  rintro d H' ⟨junk,rfl,rfl⟩
  simp
  have fY:jD l'≠[]:=fun h=>ho (by rw[RO]at h;rw[h]at kO;exact kO.symm.eq_nil)
  refine Ey.i (jD l') (by revert fY;cases jD l' with|nil=>intro h;exact absurd rfl h|cons a r=>intro _;rfl) rfl ⟨fun o=>by rw[y7,kO.mem_iff,hm],?_⟩
  have:=Me l'
  have:=kO.length_eq
  omega
set_option maxRecDepth 10000
set_option maxHeartbeats 4000000
theorem f86(l:List Pos)(h:0<l.length)(h2:l.length<2 ^ 40):Wf T 86 [fW l] [] (fun d H=>d = .eN 0 1 5 0 l.length∧H = [.row 44 1 (cl Pos.cells l)]):=by
 refine Yg wB ?_
 simp[wB]
 refine oA.i (a:=.b false) (by cases l with|nil=>exact absurd h (by simp)|cons a r=>rfl) ?_
 simp
 (with_reducible repeat' first|refine Xk ?_<;>try simp|refine Xs ?_ ?_<;>intro h<;>(try intro h')<;>(try simp[h])<;>(try omega)|refine Xg ?_|omega)
theorem SI:Wf T 86 [.emp] [] (Is .emp):=by
 refine Yg wB ?_
 simp[wB]
theorem qU{l:List Pos}(h:l≠[]):fW l=dN 5 Pos.cells l:=by
 cases l with
 | nil=>exact absurd rfl h
 | cons a r=>rfl
@[simp] theorem agY(l:List Pos):closed (dN 5 Pos.cells l)=true:=uQ (fun a=>by simp) l
theorem acH:iL [] = []:=aC.1 (Nat.le_zero.1 (Gp []))
theorem acG{l:List Pos}(h:l≠[]):iL l≠[]:=fun e=>by
 obtain⟨a,r,rfl⟩:=dS h
 have:a∈iL (a::r):=qE.2 (by simp)
 rw[e]at this;cases this
theorem f48(l:List Pos)(hs:∀ p∈l,Small p)(hl:l.length<2 ^ 40):Wf T 48 [dN 5 Pos.cells l] [] (Is (dN 5 Pos.cells (iL l))):=by
 by_cases h:l = []
 ·subst h
  rw[acH]
  show Wf T 48 [.emp] [] (Is .emp)
  refine Yg wA ?_
  simp[wA]
  refine Yc (SI) ?_
  simp
  refine fr.nj rfl rfl (Wf.x5 (K:=fun d H'=>d = .tup []∧H'=_) (sz:=5) rfl ⟨rfl,rfl⟩) ?_
  rintro d H' ⟨rfl,rfl⟩
  simp
  refine fr.nj rfl rfl (SJ _ _) ?_
  rintro d H' ⟨rfl,rfl⟩
  simp
 ·have h0:0<l.length:=aA.2 h
  rw[← qU h,← qU (acG h)]
  refine Yg wA ?_
  simp[wA]
  refine Yn (f86 l h0 hl) ?_
  simp
  refine fr.nj rfl rfl (Wf.sort (K:=fun d H'=>∃ l',l'.Perm l∧l'.Pairwise (fun x y=>¬ gd y x<0)∧d = .tup []∧H' = [.row 44 1 (cl Pos.cells l')]) (fc:=Pos.cells) l gd rfl rfl h0 hl pH (fun x y z=>tl) RI (fun x hx y hy=>f88 x y (hs x hx) (hs y hy)) (gen:=1) (t:=44) (by simp) (fun l' hp hw=>⟨l',hp,hw,rfl,by simp⟩)) ?_
  rintro d H' ⟨l',kO,hw,rfl,rfl⟩
  simp
  refine fr.nj rfl rfl (f89 1 l' (fun o ho=>hs o ((kO.mem_iff).1 ho)) (by rw[kO.length_eq];exact h0) (by rw[kO.length_eq];omega) l.length kO.length_eq) ?_
  rintro d H' ⟨junk,rfl,rfl⟩
  simp[RQ kO hw]
