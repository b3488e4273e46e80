/- Part 20 of the proof of skewer.skewerlaw15.TableValues. -/
import Derived.Test.YtnaefnajkaohgaaGreatDoorE17
import Derived.Test.YtnaefnajkaohgaaGreatDoorE19
set_option linter.all false
namespace Go.AL
open Go
theorem Wf.sort{T:gj}{f g:FuncId}{fn:eW}{sz v gen t:Nat}{H:U}{K:D→U→Prop}{α:Type}{fc:α→List D}[F:Fl fc sz](l:List α)(cf:α→α→Int)(hs:T.sort f=some sz)(hg:T.fn g=some fn)(h0:0<l.length)(hl:l.length<2 ^ 40)
  (yi:∀ x,cf x x=0) (tr:∀ x y z,cf x y<0→cf y z<0→cf x z<0) (nt:∀ x y z,¬ cf x y<0→¬ cf y z<0→¬ cf x z<0) (hc:∀ x∈l,∀ y∈l,Wf T g [.agg (fc x),.agg (fc y)] [] (Is (.i (cf x y)))) (hv:H[v]? = some (.row t gen (cl fc l)))
  (k:∀ l':List α,l'.Perm l→l'.Pairwise (fun x y=>¬ cf y x<0)→K (.tup []) (H.set v (.row t gen (cl fc l')))):Wf T f [.eT v gen sz 0 l.length,.fn (.func g) [] []] H K:=
 Ev.sort fc l cf hs hg (fun a _=>F.len a) (fun a _=>F.cl a) h0 (by omega) (fun x _=>by rw[yi];decide) (fun x _ y _ z _=>tr x y z) (fun x _ y _ z _=>nt x y z)
  (fun x hx y hy=>Ev.mono (hc x hx y hy) fun r ⟨d,H',e,h1,_⟩=>⟨H',by rw[e,h1]⟩) (by rw[hv,l8]) fun l' hp hw=>⟨_,_,rfl,by rw[← l8];exact k l' hp hw⟩
theorem Wf.yN{T:gj}{f:FuncId}{sz:Nat}{x:D}{H:U}{K:D→U→Prop}(hs:T.sort f=some sz)(k:K (.tup []) H):Wf T f [.emp,x] H K:=Ev.yN hs ⟨_,_,rfl,k⟩
section
variable{α:Type}[DecidableEq α]
def jP:List α→List α
 | []=>[]
 | [a]=>[a]
 | a::b::t=>if b=a then jP (b::t)else a::jP (b::t)
theorem EN:∀ (t:List α) (a:α),jP (a::t)=a::(jP (a::t)).tail
 | [],a=>rfl
 | b::t,a=>by
  unfold jP
  split
  ·rename_i h;subst h;exact EN t b
  ·rfl
theorem zQ{x:α}:∀ {l:List α},x∈jP l↔x∈l
 | []=>dx
 | [a]=>dx
 | a::b::t=>by
  unfold jP
  split
  ·rename_i h;subst h;rw[zQ (l:=b::t)];simp
  ·rw[aq,zQ (l:=b::t),aq (a:=x) (b:=a)]
theorem MN:∀ l:List α,(jP l).length≤l.length
 | []=>Nat.le_refl _
 | [a]=>Nat.le_refl _
 | a::b::t=>by
  have:=MN (b::t)
  unfold jP
  split
  ·exact Nat.le_succ_of_le this
  ·simp only[aG]at *;omega
theorem SL{l:List α}(h:0<l.length):0<(jP l).length:=by
 cases l with
 | nil=>simp at h
 | cons a t=>rw[EN];simp
theorem SK{l:List α}:jP l = []↔l = []:=by
 constructor
 ·intro h
  rcases ea l.length with h2|h2
  ·exact aC.1 h2
  ·have:=SL h2;rw[h]at this;simp at this
 ·rintro rfl;rfl
theorem MO{l:List α}(h:l.length<2):jP l=l:=by
 match l,h with
 | [],_=>rfl
 | [a],_=>rfl
 | a::b::t,h=>simp at h;omega
def nY(l:List α)(m:Int):List α:=(jP (l.drop (m-1).toNat)).tail
variable [Inhabited α]{l:List α}{m:Int}
theorem Rg(h:0<l.length):jP l=l.take 1++nY l 1:=by
 cases l with
 | nil=>simp at h
 | cons a t=>exact EN t a
theorem Hk(h:m=l.length)(h0:1≤m):nY l m = []:=by
 unfold nY
 rw[lB (by omega) (by omega),b7 (by omega)]
 rfl
theorem Hl(h0:1≤m)(h:m<l.length)(e:gt l m=gt l (m-1)):nY l m=nY l (m+1):=by
 unfold nY
 rw[lB (n:=m-1) (by omega) (by omega),show(m-1).toNat+1=m.toNat by omega,lB (n:=m) (by omega) h,jP,if_pos e,dj,lB (n:=m) (by omega) h]
theorem Hm(h0:1≤m)(h:m<l.length)(e:gt l m≠gt l (m-1)):nY l m=gt l m::nY l (m+1):=by
 unfold nY
 rw[lB (n:=m-1) (by omega) (by omega),show(m-1).toNat+1=m.toNat by omega,lB (n:=m) (by omega) h,jP,if_neg e,dj,lB (n:=m) (by omega) h]
 exact EN _ _
end
theorem H6:∀ {l:List Pos},l.Pairwise (fun x y=>gp x y≤0)→(jP l).Pairwise fun x y=>gp x y<0
 | [],_=>.nil
 | [a],_=>by simp[jP]
 | a::b::t,h=>by
  have h1:=aJ.1 h
  have h2:=aJ.1 h1.2
  unfold jP
  split
  ·exact H6 h1.2
  ·rename_i hn
   refine aJ.2 ⟨fun x hx=>?_,H6 h1.2⟩
   rw[zQ]at hx
   have h3:=h1.1 x hx
   by_cases h4:gp a x=0
   ·have e:=n9.1 h4
    subst e
    rcases aq.1 hx with e|hx
    ·exact absurd e.symm hn
    ·have h5:=h2.1 _ hx
     have h6:=h1.1 b (by simp)
     have h7:=qB a b
     exact absurd (n9.1 (show gp a b=0 by omega)).symm hn
   ·omega
theorem SM{l l':List Pos}(hp:l'.Perm l)(hw:l'.Pairwise fun x y=>¬ gp y x<0):jP l'=iV l:=
 Q6 (jn.of (H6 (hw.imp fun{x y} h=>by have:=qB x y;omega))) fun q=>by rw[zQ,hp.mem_iff]
theorem SE(x y z:Pos)(h1:¬ gp x y<0)(h2:¬ gp y z<0):¬ gp x z<0:=by
 have a:=qB x y;have b:=qB y z;have c:=qB x z
 have:=MI (p:=z) (q:=y) (r:=x) (by omega) (by omega)
 omega
def b2(b:Bool):Int:=if b then 1 else 0
def n5(a b:fD):Int:=lg [gp a.p b.p,je (b2 a.iu) (b2 b.iu)]
theorem RX{a b:Bool}(h:b2 a=b2 b):a=b:=by revert h;cases a<;>cases b<;>simp[b2]
theorem EM{a b:fD}:n5 a b=0↔a=b:=by
 unfold n5
 rw[Iy]
 simp only[aq,c8,or_false,forall_eq_or_imp,forall_eq,n9,tf]
 constructor
 ·rintro⟨h1,h2⟩;have:=RX h2;cases a;cases b;simp_all
 ·rintro rfl;exact⟨rfl,rfl⟩
theorem HY(a b:fD):n5 b a = - n5 a b:=by
 unfold n5 lg
 rw[qB a.p b.p,Gz (b2 a.iu)]
 simp only[lg]
 (repeat' split)<;>omega
theorem MH(x y z:fD):n5 x y<0→n5 y z<0→n5 x z<0:=by
 unfold n5
 refine vE (fun h=>by rw[n9.1 h]) (fun h=>by rw[n9.1 h]) tS (vE (fun h=>by rw[tf.1 h]) (fun h=>by rw[tf.1 h]) (by simp only[yu];omega) fun h=>?_)
 simp[lg]at h
theorem SD(x y z:fD)(h1:¬ n5 x y<0)(h2:¬ n5 y z<0):¬ n5 x z<0:=by
 have a:=HY x y;have b:=HY y z;have c:=HY x z
 by_cases e1:n5 x y=0
 ·rw[EM.1 e1];exact h2
 ·by_cases e2:n5 y z=0
  ·rw[← EM.1 e2];exact h1
  ·have:=MH z y x (by omega) (by omega)
   omega
theorem Mw{sz:Nat}:∀ (n:Nat) (a b:List D),a.length=n*sz→chunks sz n (a++b)=chunks sz n a
 | 0,_,_,_=>rfl
 | n+1,a,b,h=>by
  rw[bU]at h
  simp only[chunks]
  rw[bn (by omega),dT (by omega),Mw n (a.drop sz) b (by simp;omega)]
@[simp] theorem ajs{α:Type}{f:α→List D}{sz:Nat}[F:Fl f sz]{ρ:Nat→Option Nat}{H:U}{k n:Nat}{t:TypeId}{l:List α}{b:List D}(h:n=l.length):lY ρ H (k+1) sz 0 n (some (t,cl f l++b)) = .sl sz (l.map f):=by
 subst h
 unfold lY
 dsimp only
 rw[ax,zK,aY,if_pos (by omega),cr,dZ,List.map_append,BO (p7 l),Mw _ _ _ (by simp),l8,EF F.len]
@[irreducible] def Fo{α:Type}[Inhabited α](l:List α)(n:Nat):α:=gt l (n:Int)
theorem xJ{α:Type}[Inhabited α]{l:List α}{n:Nat}{m:Int}(h:(n:Int)=m):Fo l n=gt l m:=by unfold Fo;rw[h]
@[simp] theorem akq{α:Type}[Inhabited α]{f:α→List D}{sz:Nat}[F:Fl f sz]{l:List α}{t:TypeId}{n:Nat}(hz:0<sz):uG sz (n*sz) (some (t,cl f l))=if n<l.length then some (.agg (f (Fo l n)))else none:=by
 have:=XA (f:=f) (l:=l) (t:=t) (n:=(n:Int)) hz
 rw[et]at this
 rw[this];unfold Fo;rfl
@[simp] theorem aiI(sz v g off len:Nat)(z:List D)(H:U):zN sz z (.eT v g sz off len) H=(rowAt H v g).bind fun p=>if (off+len)*sz≤p.2.length then some (.any,.obj v (.row p.1 g (p.2.take (off*sz)++(List.replicate len z).flatten++p.2.drop ((off+len)*sz))))else none:=by
 simp only[zN]
 cases rowAt H v g<;>simp
theorem Rh{α:Type}{l:List α}{n:Int}{v:α}(h0:0≤n)(h:n<l.length):(pt l n v).take (n+1).toNat=l.take n.toNat ++ [v]:=by
 have e:(l.take n.toNat).length=n.toNat:=by rw[aS];omega
 rw[pt,List.take_append,e,show(n+1).toNat-n.toNat=1 by omega,aF (by omega)]
 rfl
end Go.AL
namespace Go.Proofs.YtnaefnajkaohgaaGreatDoor
open Go Go.AL Classical
set_option maxRecDepth 10000
set_option maxHeartbeats 4000000
theorem f124(a b:fD)(ha:Small a.p)(hb:Small b.p):Wf T 124 [.agg a.cells,.agg b.cells] [] (Is (.i (n5 a b))):=by
 obtain⟨p,u⟩:=a
 obtain⟨q,v⟩:=b
 cases u<;>cases v
 ·refine Yg ri ?_
  simp[ri,fD.cells]
  refine gZ.c rfl rfl (f88 p q ha hb) (by simp) (by simp) ?_
  simp
  refine gZ.c rfl rfl (f131 _ _) (by simp) (by simp) ?_
  simp
  refine gZ.r rfl rfl (f129 [gp p q,je 0 0] (by simp)) (by simp) (by simp[flat]) (by simp) ?_
  simp
  rfl
 ·refine Yg ri ?_
  simp[ri,fD.cells]
  refine gZ.c rfl rfl (f88 p q ha hb) (by simp) (by simp) ?_
  simp
  refine gZ.c rfl rfl (f131 _ _) (by simp) (by simp) ?_
  simp
  refine gZ.r rfl rfl (f129 [gp p q,je 0 1] (by simp)) (by simp) (by simp[flat]) (by simp) ?_
  simp
  rfl
 ·refine Yg ri ?_
  simp[ri,fD.cells]
  refine gZ.c rfl rfl (f88 p q ha hb) (by simp) (by simp) ?_
  simp
  refine gZ.c rfl rfl (f131 _ _) (by simp) (by simp) ?_
  simp
  refine gZ.r rfl rfl (f129 [gp p q,je 1 0] (by simp)) (by simp) (by simp[flat]) (by simp) ?_
  simp
  rfl
 ·refine Yg ri ?_
  simp[ri,fD.cells]
  refine gZ.c rfl rfl (f88 p q ha hb) (by simp) (by simp) ?_
  simp
  refine gZ.c rfl rfl (f131 _ _) (by simp) (by simp) ?_
  simp
  refine gZ.r rfl rfl (f129 [gp p q,je 1 1] (by simp)) (by simp) (by simp[flat]) (by simp) ?_
  simp
  rfl
theorem f126(a b:fD)(ha:Small a.p)(hb:Small b.p):Wf T 126 [.agg a.cells,.agg b.cells] [] (Is (.b (decide (a=b)))):=by
 refine Yg Cs ?_
 simp[Cs,fD.cells]
 refine fw.c rfl rfl (f124 a b ha hb) (by simp) (by simp) ?_
 simp[EM]
theorem f90(a b:Pos)(ha:Small a)(hb:Small b):Wf T 90 [.agg a.cells,.agg b.cells] [] (Is (.b (decide (a=b)))):=by
 refine Yg D8 ?_
 simp[D8]
 refine fw.c rfl rfl (f88 a b ha hb) (by simp) (by simp) ?_
 simp[n9]
theorem f89(gen:Nat)(l:List Pos)(hs:∀ p∈l,Small p)(h0:0<l.length)(hl:l.length<2 ^ 40)(n:Nat)(hn:l.length=n):Wf T 89 [.eT 0 gen 5 0 n,.fn (.func 90) [] []] [.row 44 gen (cl Pos.cells l)]
  (fun d H'=>∃ junk,d = .eT 0 gen 5 0 (jP l).length∧H' = [.row 44 gen (cl Pos.cells (jP l)++junk)]):=by
 subst hn
 refine Yg xf ?_
 simp[xf]
 by_cases h1:(l.length:Int)<2
 ·have e:=MO (l:=l) (by omega)
  simp[h1,e]
 ·simp[h1]
  refine fe.e (1:Int) (fun y=>[(0,.eT 0 gen 5 0 l.length),(1,.fn (.func 90) [] []),(5,.i y)]) (fun y=>[.row 44 gen (cl Pos.cells l)]) (fun y=>1≤y∧y≤l.length∧jP l=l.take y.toNat++nY l y) (fun y=>(l.length-y).toNat) ?_ ?_
  ·simp
   exact⟨by omega,by rw[Rg h0]⟩
  rintro y ⟨y0,y1,y2⟩
  by_cases hy:y<l.length
  ·simp[hy,xJ (l:=l) (n:=y.toNat-1) (m:=y-1) (by omega)]
   (with_reducible repeat' first|refine Xk ?_<;>try simp|refine Xs ?_ ?_<;>intro h<;>(try intro h')<;>(try simp[h])<;>(try omega)|refine Xg ?_|omega)
   refine gZ.c rfl rfl (f90 (gt l y) (gt l (y-1)) (hs _ (ff (by omega) hy)) (hs _ (ff (by omega) (by omega)))) (by simp) (by simp) ?_
   simp
   by_cases he:gt l y=gt l (y-1)
   ·simp[he]
    (with_reducible repeat' first|refine Xk ?_<;>try simp|refine Xs ?_ ?_<;>intro h<;>(try intro h')<;>(try simp[h])<;>(try omega)|refine Xg ?_|omega)
    refine fe.e ((1,y,l):Int×Int×List Pos) (fun x=>[(0,.eT 0 gen 5 0 l.length),(1,.fn (.func 90) [] []),(5,.i x.2.1),(6,.eT 0 gen 5 y.toNat (l.length-y.toNat)),(7,.i x.1)]) (fun x=>[.row 44 gen (cl Pos.cells x.2.2)]) (fun x=>1≤x.1∧y+x.1≤l.length∧1≤x.2.1∧x.2.1<y+x.1∧x.2.2.length=l.length∧(∀ j:Int,y+x.1-1≤j→gt x.2.2 j=gt l j)∧jP l=x.2.2.take x.2.1.toNat++nY l (y+x.1)) (fun x=>(l.length-(y+x.1)).toNat) ?_ ?_
    ·simp
     exact⟨by omega,y0,by omega,by rw[y2,Hl y0 hy he]⟩
    rintro⟨k,i,cur⟩ ⟨k0,k1,i0,i1,c0,c1,c2⟩
    dsimp only at k0 k1 i0 i1 c0 c1 c2 ⊢
    by_cases hk:y+k<l.length
    ·have e1:gt cur (y+k)=gt l (y+k):=c1 _ (by omega)
     have e2:gt cur (y+k-1)=gt l (y+k-1):=c1 _ (by omega)
     have g1:=xJ (l:=cur) (n:=y.toNat+k.toNat) (m:=y+k) (by omega)
     have g2:=xJ (l:=cur) (n:=y.toNat+(k.toNat-1)) (m:=y+k-1) (by omega)
     simp[show k<((l.length-y.toNat:Nat):Int)by omega,g1,g2,e1,e2,c0]
     (with_reducible repeat' first|refine Xk ?_<;>try simp|refine Xs ?_ ?_<;>intro h<;>(try intro h')<;>(try simp[h])<;>(try omega)|refine Xg ?_|omega)
     refine gZ.c rfl rfl (f90 (gt l (y+k)) (gt l (y+k-1)) (hs _ (ff (by omega) hk)) (hs _ (ff (by omega) (by omega)))) (by simp) (by simp) ?_
     simp
     by_cases oH:gt l (y+k)=gt l (y+k-1)
     ·simp[oH]
      (with_reducible repeat' first|refine Xk ?_<;>try simp|refine Xs ?_ ?_<;>intro h<;>(try intro h')<;>(try simp[h])<;>(try omega)|refine Xg ?_|omega)
      refine LJ.e (k+1,i,cur) ?_
      refine⟨by dsimp only;omega,by dsimp only;omega,by dsimp only;omega,i0,by dsimp only;omega,c0,fun j hj=>c1 j (by dsimp only at hj;omega),?_⟩
      dsimp only
      rw[c2,Hl (by omega) hk oH,cV]
     ·simp[oH,g1,e1,c0]
      (with_reducible repeat' first|refine Xk ?_<;>try simp[g1,e1,c0]|refine Xs ?_ ?_<;>intro h<;>(try intro h')<;>(try simp[h,g1,e1,c0])<;>(try omega)|refine Xg ?_|omega)
      have gf:=MD (f:=Pos.cells) cur i (by omega) (gt l (y+k))
      refine LJ.i (k+1,i+1,pt cur i (gt l (y+k))) (by first|rfl|simp) (by dsimp only;rw[← gf];rfl) rfl rfl ?_
      refine⟨by dsimp only;omega,by dsimp only;omega,by dsimp only;omega,by dsimp only;omega,by dsimp only;omega,by dsimp only;rw[gI (by omega) (by omega)];exact c0,fun j hj=>?_,?_⟩
      ·dsimp only at hj ⊢
       rw[Ae (by omega) (by omega) (by omega) (by omega)]
       exact c1 j (by omega)
      ·dsimp only
       rw[Rh (by omega) (by omega),c2,Hm (by omega) hk oH,cV]
       simp
    ·have e:nY l (y+k) = []:=Hk (by omega) (by omega)
     rw[e,aw]at c2
     simp[show ¬ k<((l.length-y.toNat:Nat):Int)by omega,c0]
     (with_reducible repeat' first|refine Xk ?_<;>try simp|refine Xs ?_ ?_<;>intro h<;>(try intro h')<;>(try simp[h])<;>(try omega)|refine Xg ?_|omega)
     exact⟨by rw[c2];simp;omega,_,by rw[sH,c2]⟩
   ·simp[he]
    (with_reducible repeat' first|refine Xk ?_<;>try simp|refine Xs ?_ ?_<;>intro h<;>(try intro h')<;>(try simp[h])<;>(try omega)|refine Xg ?_|omega)
    refine LJ.e (y+1) ?_
    refine⟨by omega,by omega,by omega,?_⟩
    rw[y2,Hm y0 hy he,gE (by omega) hy]
    simp
  ·have e:nY l y = []:=Hk (by omega) y0
   rw[e,aw,js (by omega)]at y2
   simp[hy]
   exact⟨by rw[y2],[],by rw[y2];simp⟩
theorem f125(g:eU)(p0:Pos)(gen:Nat)(l:List fD)(hs:∀ p∈l,Small p.p)(h0:0<l.length)(hl:l.length<2 ^ 40)(n:Nat)(hn:l.length=n):Wf T 125 [.eT 3 gen 6 0 n,.fn (.func 126) [] []] [.row 41 0 g.cells,.row 44 0 p0.cells,.row 164 0 [.eT 3 gen 6 0 n],.row 113 gen (cl fD.cells l)]
  (fun d H'=>∃ junk,d = .eT 3 gen 6 0 (jP l).length∧H' = [.row 41 0 g.cells,.row 44 0 p0.cells,.row 164 0 [.eT 3 gen 6 0 n],.row 113 gen (cl fD.cells (jP l)++junk)]):=by
 subst hn
 refine Yg w7 ?_
 simp[w7]
 by_cases h1:(l.length:Int)<2
 ·have e:=MO (l:=l) (by omega)
  simp[h1,e]
 ·simp[h1]
  refine fe.e (1:Int) (fun y=>[(0,.eT 3 gen 6 0 l.length),(1,.fn (.func 126) [] []),(5,.i y)]) (fun y=>[.row 41 0 g.cells,.row 44 0 p0.cells,.row 164 0 [.eT 3 gen 6 0 l.length],.row 113 gen (cl fD.cells l)]) (fun y=>1≤y∧y≤l.length∧jP l=l.take y.toNat++nY l y) (fun y=>(l.length-y).toNat) ?_ ?_
  ·simp
   exact⟨by omega,by rw[Rg h0]⟩
  rintro y ⟨y0,y1,y2⟩
  by_cases hy:y<l.length
  ·simp[hy,xJ (l:=l) (n:=y.toNat-1) (m:=y-1) (by omega)]
   (with_reducible repeat' first|refine Xk ?_<;>try simp|refine Xs ?_ ?_<;>intro h<;>(try intro h')<;>(try simp[h])<;>(try omega)|refine Xg ?_|omega)
   refine gZ.c rfl rfl (f126 (gt l y) (gt l (y-1)) (hs _ (ff (by omega) hy)) (hs _ (ff (by omega) (by omega)))) (by simp) (by simp) ?_
   simp
   by_cases he:gt l y=gt l (y-1)
   ·simp[he]
    (with_reducible repeat' first|refine Xk ?_<;>try simp|refine Xs ?_ ?_<;>intro h<;>(try intro h')<;>(try simp[h])<;>(try omega)|refine Xg ?_|omega)
    refine fe.e ((1,y,l):Int×Int×List fD) (fun x=>[(0,.eT 3 gen 6 0 l.length),(1,.fn (.func 126) [] []),(5,.i x.2.1),(6,.eT 3 gen 6 y.toNat (l.length-y.toNat)),(7,.i x.1)]) (fun x=>[.row 41 0 g.cells,.row 44 0 p0.cells,.row 164 0 [.eT 3 gen 6 0 l.length],.row 113 gen (cl fD.cells x.2.2)]) (fun x=>1≤x.1∧y+x.1≤l.length∧1≤x.2.1∧x.2.1<y+x.1∧x.2.2.length=l.length∧(∀ j:Int,y+x.1-1≤j→gt x.2.2 j=gt l j)∧jP l=x.2.2.take x.2.1.toNat++nY l (y+x.1)) (fun x=>(l.length-(y+x.1)).toNat) ?_ ?_
    ·simp
     exact⟨by omega,y0,by omega,by rw[y2,Hl y0 hy he]⟩
    rintro⟨k,i,cur⟩ ⟨k0,k1,i0,i1,c0,c1,c2⟩
    dsimp only at k0 k1 i0 i1 c0 c1 c2 ⊢
    by_cases hk:y+k<l.length
    ·have e1:gt cur (y+k)=gt l (y+k):=c1 _ (by omega)
     have e2:gt cur (y+k-1)=gt l (y+k-1):=c1 _ (by omega)
     have g1:=xJ (l:=cur) (n:=y.toNat+k.toNat) (m:=y+k) (by omega)
     have g2:=xJ (l:=cur) (n:=y.toNat+(k.toNat-1)) (m:=y+k-1) (by omega)
     simp[show k<((l.length-y.toNat:Nat):Int)by omega,g1,g2,e1,e2,c0]
     (with_reducible repeat' first|refine Xk ?_<;>try simp|refine Xs ?_ ?_<;>intro h<;>(try intro h')<;>(try simp[h])<;>(try omega)|refine Xg ?_|omega)
     refine gZ.c rfl rfl (f126 (gt l (y+k)) (gt l (y+k-1)) (hs _ (ff (by omega) hk)) (hs _ (ff (by omega) (by omega)))) (by simp) (by simp) ?_
     simp
     by_cases oH:gt l (y+k)=gt l (y+k-1)
     ·simp[oH]
      (with_reducible repeat' first|refine Xk ?_<;>try simp|refine Xs ?_ ?_<;>intro h<;>(try intro h')<;>(try simp[h])<;>(try omega)|refine Xg ?_|omega)
      refine LJ.e (k+1,i,cur) ?_
      refine⟨by dsimp only;omega,by dsimp only;omega,by dsimp only;omega,i0,by dsimp only;omega,c0,fun j hj=>c1 j (by dsimp only at hj;omega),?_⟩
      dsimp only
      rw[c2,Hl (by omega) hk oH,cV]
     ·simp[oH,g1,e1,c0]
      (with_reducible repeat' first|refine Xk ?_<;>try simp[g1,e1,c0]|refine Xs ?_ ?_<;>intro h<;>(try intro h')<;>(try simp[h,g1,e1,c0])<;>(try omega)|refine Xg ?_|omega)
      have gf:=MD (f:=fD.cells) cur i (by omega) (gt l (y+k))
      refine LJ.i (k+1,i+1,pt cur i (gt l (y+k))) (by first|rfl|simp) (by dsimp only;rw[← gf];rfl) rfl rfl ?_
      refine⟨by dsimp only;omega,by dsimp only;omega,by dsimp only;omega,by dsimp only;omega,by dsimp only;omega,by dsimp only;rw[gI (by omega) (by omega)];exact c0,fun j hj=>?_,?_⟩
      ·dsimp only at hj ⊢
       rw[Ae (by omega) (by omega) (by omega) (by omega)]
       exact c1 j (by omega)
      ·dsimp only
       rw[Rh (by omega) (by omega),c2,Hm (by omega) hk oH,cV]
       simp
    ·have e:nY l (y+k) = []:=Hk (by omega) (by omega)
     rw[e,aw]at c2
     simp[show ¬ k<((l.length-y.toNat:Nat):Int)by omega,c0]
     (with_reducible repeat' first|refine Xk ?_<;>try simp|refine Xs ?_ ?_<;>intro h<;>(try intro h')<;>(try simp[h])<;>(try omega)|refine Xg ?_|omega)
     exact⟨by rw[c2];simp;omega,_,by rw[sH,c2]⟩
   ·simp[he]
    (with_reducible repeat' first|refine Xk ?_<;>try simp|refine Xs ?_ ?_<;>intro h<;>(try intro h')<;>(try simp[h])<;>(try omega)|refine Xg ?_|omega)
    refine LJ.e (y+1) ?_
    refine⟨by omega,by omega,by omega,?_⟩
    rw[y2,Hm y0 hy he,gE (by omega) hy]
    simp
  ·have e:nY l y = []:=Hk (by omega) y0
   rw[e,aw,js (by omega)]at y2
   simp[hy]
   exact⟨by rw[y2],[],by rw[y2];simp⟩
set_option maxRecDepth 10000
set_option maxHeartbeats 4000000
theorem Tw(x:D)(H:U):Wf T 125 [.emp,x] H (fun d H'=>d = .emp∧H'=H):=by
 refine Yg w7 ?_
 simp[w7]
theorem TO(x:D)(H:U):Wf T 89 [.emp,x] H (fun d H'=>d = .emp∧H'=H):=by
 refine Yg xf ?_
 simp[xf]
theorem L8{g:eU}:∀ {l:List eY} {now:List e9},(oX g l now).length≤10 ^ l.length*now.length
 | [],now=>by simp[oX]
 | x::r,now=>by
  rw[oX]
  refine Nat.le_trans L8 ?_
  rw[aG,dS,eQ]
  exact dV _ Bl
theorem Hz{g:eU}:∀ {l:List eY} {a b:List e9},(∀ t,t∈a↔t∈b)→∀ t,t∈oX g l a↔t∈oy g l b
 | [],a,b,h,t=>h t
 | x::r,a,b,h,t=>by
  rw[oX,oy]
  refine Hz (fun t=>?_) t
  rw[Gw,bh,bh]
  exact⟨fun⟨s,h1,h2⟩=>⟨s,(h s).1 h1,h2⟩,fun⟨s,h1,h2⟩=>⟨s,(h s).2 h1,h2⟩⟩
theorem Qg{g:eU}{p:Pos}{c n:Int}{o:fD}:o∈pR g p c n↔o∈qo g p c (gt (gt g.kinds (fo (gt p.cs c))).gD n):=by
 unfold pR qo
 rw[bW,bW]
 exact⟨fun⟨s,h1,h2⟩=>⟨s,(Hz (fun _=>dx) s).1 h1,h2⟩,fun⟨s,h1,h2⟩=>⟨s,(Hz (fun _=>dx) s).2 h1,h2⟩⟩
theorem f85(g:eU)(hg:fr g)(p:Pos)(hp:fR g p)(c n:Int)(hc:0≤c∧c<p.cs.length)(hs:iA (gt p.cs c)=p.side)(hn:0≤n∧n<(gt g.kinds (fo (gt p.cs c))).gD.length) :
  Wf T 85 [dG g,dP p,.i c,.i n] [] (Ey (fun r:List fD=>.tup [dN 6 fD.cells r,.i 0]) fun r=>(∀ o,o∈r↔o∈qo g p c (gt (gt g.kinds (fo (gt p.cs c))).gD n))∧r.length≤100000000):=by
 have gy:=hp.size
 have fg:=yO hg hp hc.1 (by omega) hs
 have lF:sw g (gt (gt g.kinds (fo (gt p.cs c))).gD n):=(hg.gD _ (ff fg.kind.1 fg.kind.2)).2 _ (ff hn.1 hn.2)
 have hlen:(pR g p c n).length≤100000000:=by
  unfold pR
  refine Nat.le_trans (dm ..) (Nat.le_trans L8 ?_)
  have:=lF.len
  have:10 ^ (gt (gt g.kinds (fo (gt p.cs c))).gD n).length≤10 ^ 8:=cy (by decide) (by omega)
  simpa using this
 have kb:∀ o,o∈pR g p c n→Small o.p:=fun o ho=>by
  rw[Qg]at ho
  unfold qo at ho
  rw[bW]at ho
  obtain⟨s,h1,h2⟩:=ho
  exact(E' (G3 hg lF.steps (fun t ht=>by rw[List.mem_singleton.1 ht];exact fg) s h1) hp.side.1 hp.side.2 h2).small hg
 refine Yg D6 ?_
 simp[D6]
 refine fw.nC rfl rfl (f121 g hg p hp c n hc hs hn) ?_
 rintro d H' ⟨rfl,rfl⟩
 have hm:=fun o=>Qg (g:=g) (p:=p) (c:=c) (n:=n) (o:=o)
 generalize pR g p c n=outs at *
 by_cases ho:outs = []
 ·subst ho
  simp
  refine fw.nC rfl rfl (Wf.yN (K:=fun d H'=>d = .tup []∧H'=_) (sz:=6) rfl ⟨rfl,rfl⟩) ?_
  rintro d H' ⟨rfl,rfl⟩
  simp
  refine fw.nC rfl rfl (Tw _ _) ?_
  rintro d H' ⟨rfl,rfl⟩
  simp
  exact Ey.i [] rfl rfl ⟨hm,by simp⟩
 ·have h0:0<outs.length:=az.2 ho
  rw[if_neg ho]
  simp
  refine fw.nC rfl rfl (Wf.sort (K:=fun d H'=>∃ l',l'.Perm outs∧d = .tup []∧H' = [.row 41 0 g.cells,.row 44 0 p.cells,.row 164 0 [.eT 3 (outs.length-1) 6 0 outs.length],.row 113 (outs.length-1) (cl fD.cells l')]) (fc:=fD.cells) outs n5 rfl rfl h0 (by omega) (fun x=>EM.2 rfl) MH SD (fun x hx y hy=>f124 x y (kb x hx) (kb y hy)) (gen:=outs.length-1) (t:=113) (by simp) (fun l' hp hw=>⟨l',hp,rfl,by simp⟩)) ?_
  rintro d H' ⟨l',lj,rfl,rfl⟩
  simp
  refine fw.nC rfl rfl (f125 g p (outs.length-1) l' (fun o ho=>kb o ((lj.mem_iff).1 ho)) (by rw[lj.length_eq];exact h0) (by rw[lj.length_eq];omega) outs.length lj.length_eq) ?_
  rintro d H' ⟨junk,rfl,rfl⟩
  simp
  have gd:jP l'≠[]:=fun h=>ho (by rw[SK]at h;rw[h]at lj;exact lj.symm.eq_nil)
  refine Ey.i (jP l') (by revert gd;cases jP l' with|nil=>intro h;exact absurd rfl h|cons a r=>intro _;rfl) rfl ⟨fun o=>by rw[zQ,lj.mem_iff,hm],?_⟩
  have:=MN l'
  have:=lj.length_eq
  omega
set_option maxRecDepth 10000
set_option maxHeartbeats 4000000
theorem f86(l:List Pos)(h:0<l.length)(h2:l.length<2 ^ 40):Wf T 86 [gb l] [] (fun d H=>d = .eT 0 1 5 0 l.length∧H = [.row 44 1 (cl Pos.cells l)]):=by
 refine Yg xe ?_
 simp[xe]
 refine oA.i (a:=.b false) (by cases l with|nil=>exact absurd h (by simp)|cons a r=>rfl) ?_
 simp
 (with_reducible repeat' first|refine Xk ?_<;>try simp|refine Xs ?_ ?_<;>intro h<;>(try intro h')<;>(try simp[h])<;>(try omega)|refine Xg ?_|omega)
theorem TN:Wf T 86 [.emp] [] (Is .emp):=by
 refine Yg xe ?_
 simp[xe]
theorem rA{l:List Pos}(h:l≠[]):gb l=dN 5 Pos.cells l:=by
 cases l with
 | nil=>exact absurd rfl h
 | cons a r=>rfl
@[simp] theorem aiq(l:List Pos):closed (dN 5 Pos.cells l)=true:=vp (fun a=>by simp) l
theorem aea:iV [] = []:=aC.1 (Nat.le_zero.1 (Hf []))
theorem ad9{l:List Pos}(h:l≠[]):iV l≠[]:=fun e=>by
 obtain⟨a,r,rfl⟩:=ei h
 have:a∈iV (a::r):=q7.2 (by simp)
 rw[e]at this;cases this
theorem f48(l:List Pos)(hs:∀ p∈l,Small p)(hl:l.length<2 ^ 40):Wf T 48 [dN 5 Pos.cells l] [] (Is (dN 5 Pos.cells (iV l))):=by
 by_cases h:l = []
 ·subst h
  rw[aea]
  show Wf T 48 [.emp] [] (Is .emp)
  refine Yg xd ?_
  simp[xd]
  refine Yc (TN) ?_
  simp
  refine fw.nC rfl rfl (Wf.yN (K:=fun d H'=>d = .tup []∧H'=_) (sz:=5) rfl ⟨rfl,rfl⟩) ?_
  rintro d H' ⟨rfl,rfl⟩
  simp
  refine fw.nC rfl rfl (TO _ _) ?_
  rintro d H' ⟨rfl,rfl⟩
  simp
 ·have h0:0<l.length:=az.2 h
  rw[← rA h,← rA (ad9 h)]
  refine Yg xd ?_
  simp[xd]
  refine Yn (f86 l h0 hl) ?_
  simp
  refine fw.nC rfl rfl (Wf.sort (K:=fun d H'=>∃ l',l'.Perm l∧l'.Pairwise (fun x y=>¬ gp y x<0)∧d = .tup []∧H' = [.row 44 1 (cl Pos.cells l')]) (fc:=Pos.cells) l gp rfl rfl h0 hl p8 (fun x y z=>tS) SE (fun x hx y hy=>f88 x y (hs x hx) (hs y hy)) (gen:=1) (t:=44) (by simp) (fun l' hp hw=>⟨l',hp,hw,rfl,by simp⟩)) ?_
  rintro d H' ⟨l',lj,hw,rfl,rfl⟩
  simp
  refine fw.nC rfl rfl (f89 1 l' (fun o ho=>hs o ((lj.mem_iff).1 ho)) (by rw[lj.length_eq];exact h0) (by rw[lj.length_eq];omega) l.length lj.length_eq) ?_
  rintro d H' ⟨junk,rfl,rfl⟩
  simp[SM lj hw]
