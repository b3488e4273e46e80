/- Part 23 of the proof of skewer.skewerlaw15.TableZero. -/
import Derived.Test.YtnaefnajkaohgaaGreatDoorF19
import Derived.Test.YtnaefnajkaohgaaGreatDoorF22
set_option linter.all false
namespace Go.AL
open Go
theorem Wf.sort{T:fE}{f g:FuncId}{fn:ey}{sz v gen t:Nat}{H:U}{K:D→U→Prop}{α:Type}{fc:α→List D}[F:Fl fc sz](l:List α)(cf:α→α→Int)(hs:T.sort f=some sz)(hg:T.fn g=some fn)(h0:0<l.length)(hl:l.length<2 ^ 40)
  (vV:∀ x,cf x x=0) (tr:∀ x y z,cf x y<0→cf y z<0→cf x z<0) (nt:∀ x y z,¬ cf x y<0→¬ cf y z<0→¬ cf x z<0) (hc:∀ x∈l,∀ y∈l,Wf T g [.agg (fc x),.agg (fc y)] [] (Is (.i (cf x y)))) (hv:H[v]? = some (.row t gen (cl fc l)))
  (k:∀ l':List α,l'.Perm l→l'.Pairwise (fun x y=>¬ cf y x<0)→K (.tup []) (H.set v (.row t gen (cl fc l')))):Wf T f [.et v gen sz 0 l.length,.fn (.func g) [] []] H K:=
 Ev.sort fc l cf hs hg (fun a _=>F.len a) (fun a _=>F.cl a) h0 (by omega) (fun x _=>by rw[vV];decide) (fun x _ y _ z _=>tr x y z) (fun x _ y _ z _=>nt x y z)
  (fun x hx y hy=>Ev.mono (hc x hx y hy) fun r ⟨d,H',e,h1,_⟩=>⟨H',by rw[e,h1]⟩) (by rw[hv,lF]) fun l' hp hw=>⟨_,_,rfl,by rw[← lF];exact k l' hp hw⟩
theorem Wf.wB{T:fE}{f:FuncId}{sz:Nat}{x:D}{H:U}{K:D→U→Prop}(hs:T.sort f=some sz)(k:K (.tup []) H):Wf T f [.emp,x] H K:=Ev.wB hs ⟨_,_,rfl,k⟩
section
variable{α:Type}[DecidableEq α]
def je:List α→List α
 | []=>[]
 | [a]=>[a]
 | a::b::t=>if b=a then je (b::t)else a::je (b::t)
theorem Cv:∀ (t:List α) (a:α),je (a::t)=a::(je (a::t)).tail
 | [],a=>rfl
 | b::t,a=>by
  unfold je
  split
  ·rename_i h;subst h;exact Cv t b
  ·rfl
theorem xx{x:α}:∀ {l:List α},x∈je l↔x∈l
 | []=>cU
 | [a]=>cU
 | a::b::t=>by
  unfold je
  split
  ·rename_i h;subst h;rw[xx (l:=b::t)];simp
  ·rw[ax,xx (l:=b::t),ax (a:=x) (b:=a)]
theorem JT:∀ l:List α,(je l).length≤l.length
 | []=>Nat.le_refl _
 | [a]=>Nat.le_refl _
 | a::b::t=>by
  have:=JT (b::t)
  unfold je
  split
  ·exact Nat.le_succ_of_le this
  ·simp only[aJ]at *;omega
theorem O2{l:List α}(h:0<l.length):0<(je l).length:=by
 cases l with
 | nil=>simp at h
 | cons a t=>rw[Cv];simp
theorem O1{l:List α}:je l = []↔l = []:=by
 constructor
 ·intro h
  rcases dv l.length with h2|h2
  ·exact aA.1 h2
  ·have:=O2 h2;rw[h]at this;simp at this
 ·rintro rfl;rfl
theorem JU{l:List α}(h:l.length<2):je l=l:=by
 match l,h with
 | [],_=>rfl
 | [a],_=>rfl
 | a::b::t,h=>simp at h;omega
def mu(l:List α)(m:Int):List α:=(je (l.drop (m-1).toNat)).tail
variable [Inhabited α]{l:List α}{m:Int}
theorem NK(h:0<l.length):je l=l.take 1++mu l 1:=by
 cases l with
 | nil=>simp at h
 | cons a t=>exact Cv t a
theorem EE(h:m=l.length)(h0:1≤m):mu l m = []:=by
 unfold mu
 rw[kI (by omega) (by omega),c8 (by omega)]
 rfl
theorem EF(h0:1≤m)(h:m<l.length)(e:gt l m=gt l (m-1)):mu l m=mu l (m+1):=by
 unfold mu
 rw[kI (n:=m-1) (by omega) (by omega),show(m-1).toNat+1=m.toNat by omega,kI (n:=m) (by omega) h,je,if_pos e,cO,kI (n:=m) (by omega) h]
theorem EG(h0:1≤m)(h:m<l.length)(e:gt l m≠gt l (m-1)):mu l m=gt l m::mu l (m+1):=by
 unfold mu
 rw[kI (n:=m-1) (by omega) (by omega),show(m-1).toNat+1=m.toNat by omega,kI (n:=m) (by omega) h,je,if_neg e,cO,kI (n:=m) (by omega) h]
 exact Cv _ _
end
theorem Fb:∀ {l:List Pos},l.Pairwise (fun x y=>fD x y≤0)→(je l).Pairwise fun x y=>fD x y<0
 | [],_=>.nil
 | [a],_=>by simp[je]
 | a::b::t,h=>by
  have h1:=a7.1 h
  have h2:=a7.1 h1.2
  unfold je
  split
  ·exact Fb h1.2
  ·rename_i hn
   refine a7.2 ⟨fun x hx=>?_,Fb h1.2⟩
   rw[xx]at hx
   have h3:=h1.1 x hx
   by_cases h4:fD a x=0
   ·have e:=mD.1 h4
    subst e
    rcases ax.1 hx with e|hx
    ·exact absurd e.symm hn
    ·have h5:=h2.1 _ hx
     have h6:=h1.1 b (by simp)
     have h7:=o7 a b
     exact absurd (mD.1 (show fD a b=0 by omega)).symm hn
   ·omega
theorem O3{l l':List Pos}(hp:l'.Perm l)(hw:l'.Pairwise fun x y=>¬ fD y x<0):je l'=il l:=
 ND (iE.of (Fb (hw.imp fun{x y} h=>by have:=o7 x y;omega))) fun q=>by rw[xx,hp.mem_iff]
theorem OV(x y z:Pos)(h1:¬ fD x y<0)(h2:¬ fD y z<0):¬ fD x z<0:=by
 have a:=o7 x y;have b:=o7 y z;have c:=o7 x z
 have:=JP (p:=z) (q:=y) (r:=x) (by omega) (by omega)
 omega
def b2(b:Bool):Int:=if b then 1 else 0
def mC(a b:eW):Int:=jW [fD a.p b.p,iB (b2 a.gL) (b2 b.gL)]
theorem Oe{a b:Bool}(h:b2 a=b2 b):a=b:=by revert h;cases a<;>cases b<;>simp[b2]
theorem Cu{a b:eW}:mC a b=0↔a=b:=by
 unfold mC
 rw[FF]
 simp only[ax,cG,or_false,forall_eq_or_imp,forall_eq,mD,ru]
 constructor
 ·rintro⟨h1,h2⟩;have:=Oe h2;cases a;cases b;simp_all
 ·rintro rfl;exact⟨rfl,rfl⟩
theorem E'(a b:eW):mC b a = - mC a b:=by
 unfold mC jW
 rw[o7 a.p b.p,DX (b2 a.gL)]
 simp only[jW]
 (repeat' split)<;>omega
theorem JO(x y z:eW):mC x y<0→mC y z<0→mC x z<0:=by
 unfold mC
 refine tD (fun h=>by rw[mD.1 h]) (fun h=>by rw[mD.1 h]) rZ (tD (fun h=>by rw[ru.1 h]) (fun h=>by rw[ru.1 h]) (by simp only[v7];omega) fun h=>?_)
 simp[jW]at h
theorem OU(x y z:eW)(h1:¬ mC x y<0)(h2:¬ mC y z<0):¬ mC x z<0:=by
 have a:=E' x y;have b:=E' y z;have c:=E' x z
 by_cases e1:mC x y=0
 ·rw[Cu.1 e1];exact h2
 ·by_cases e2:mC y z=0
  ·rw[← Cu.1 e2];exact h1
  ·have:=JO z y x (by omega) (by omega)
   omega
theorem JC{sz:Nat}:∀ (n:Nat) (a b:List D),a.length=n*sz→chunks sz n (a++b)=chunks sz n a
 | 0,_,_,_=>rfl
 | n+1,a,b,h=>by
  rw[bM]at h
  simp only[chunks]
  rw[bA (by omega),dp (by omega),JC n (a.drop sz) b (by simp;omega)]
@[simp] theorem ae3{α:Type}{f:α→List D}{sz:Nat}[F:Fl f sz]{ρ:Nat→Option Nat}{H:U}{k n:Nat}{t:TypeId}{l:List α}{b:List D}(h:n=l.length):ln ρ H (k+1) sz 0 n (some (t,cl f l++b)) = .sl sz (l.map f):=by
 subst h
 unfold ln
 dsimp only
 rw[az,ti,aX,if_pos (by omega),b8,dV,List.map_append,HZ (pX l),JC _ _ _ (by simp),lF,E8 F.len]
@[irreducible] def C3{α:Type}[Inhabited α](l:List α)(n:Nat):α:=gt l (n:Int)
theorem vu{α:Type}[Inhabited α]{l:List α}{n:Nat}{m:Int}(h:(n:Int)=m):C3 l n=gt l m:=by unfold C3;rw[h]
@[simp] theorem af3{α:Type}[Inhabited α]{f:α→List D}{sz:Nat}[F:Fl f sz]{l:List α}{t:TypeId}{n:Nat}(hz:0<sz):qt sz (n*sz) (some (t,cl f l))=if n<l.length then some (.agg (f (C3 l n)))else none:=by
 have:=Ti (f:=f) (l:=l) (t:=t) (n:=(n:Int)) hz
 rw[dA]at this
 rw[this];unfold C3;rfl
@[simp] theorem aeo(sz v g off len:Nat)(z:List D)(H:U):xu sz z (.et v g sz off len) H=(rowAt H v g).bind fun p=>if (off+len)*sz≤p.2.length then some (.any,.obj v (.row p.1 g (p.2.take (off*sz)++(List.replicate len z).flatten++p.2.drop ((off+len)*sz))))else none:=by
 simp only[xu]
 cases rowAt H v g<;>simp
theorem NL{α:Type}{l:List α}{n:Int}{v:α}(h0:0≤n)(h:n<l.length):(pt l n v).take (n+1).toNat=l.take n.toNat ++ [v]:=by
 have e:(l.take n.toNat).length=n.toNat:=by rw[aP];omega
 rw[pt,List.take_append,e,show(n+1).toNat-n.toNat=1 by omega,aG (by omega)]
 rfl
end Go.AL
namespace Go.Proofs.YtnaefnajkaohgaaGreatDoor
open Go Go.AL Classical
set_option maxRecDepth 10000
set_option maxHeartbeats 4000000
theorem f124(a b:eW)(ha:Small a.p)(hb:Small b.p):Wf T 124 [.agg a.cells,.agg b.cells] [] (Is (.i (mC a b))):=by
 obtain⟨p,u⟩:=a
 obtain⟨q,v⟩:=b
 cases u<;>cases v
 ·refine Yg pN ?_
  simp[pN,eW.cells]
  refine gi.c rfl rfl (f88 p q ha hb) (by simp) (by simp) ?_
  simp
  refine gi.c rfl rfl (f131 _ _) (by simp) (by simp) ?_
  simp
  refine gi.r rfl rfl (f129 [fD p q,iB 0 0] (by simp)) (by simp) (by simp[flat]) (by simp) ?_
  simp
  rfl
 ·refine Yg pN ?_
  simp[pN,eW.cells]
  refine gi.c rfl rfl (f88 p q ha hb) (by simp) (by simp) ?_
  simp
  refine gi.c rfl rfl (f131 _ _) (by simp) (by simp) ?_
  simp
  refine gi.r rfl rfl (f129 [fD p q,iB 0 1] (by simp)) (by simp) (by simp[flat]) (by simp) ?_
  simp
  rfl
 ·refine Yg pN ?_
  simp[pN,eW.cells]
  refine gi.c rfl rfl (f88 p q ha hb) (by simp) (by simp) ?_
  simp
  refine gi.c rfl rfl (f131 _ _) (by simp) (by simp) ?_
  simp
  refine gi.r rfl rfl (f129 [fD p q,iB 1 0] (by simp)) (by simp) (by simp[flat]) (by simp) ?_
  simp
  rfl
 ·refine Yg pN ?_
  simp[pN,eW.cells]
  refine gi.c rfl rfl (f88 p q ha hb) (by simp) (by simp) ?_
  simp
  refine gi.c rfl rfl (f131 _ _) (by simp) (by simp) ?_
  simp
  refine gi.r rfl rfl (f129 [fD p q,iB 1 1] (by simp)) (by simp) (by simp[flat]) (by simp) ?_
  simp
  rfl
theorem f126(a b:eW)(ha:Small a.p)(hb:Small b.p):Wf T 126 [.agg a.cells,.agg b.cells] [] (Is (.b (decide (a=b)))):=by
 refine Yg Ad ?_
 simp[Ad,eW.cells]
 refine eS.c rfl rfl (f124 a b ha hb) (by simp) (by simp) ?_
 simp[Cu]
theorem f90(a b:Pos)(ha:Small a)(hb:Small b):Wf T 90 [.agg a.cells,.agg b.cells] [] (Is (.b (decide (a=b)))):=by
 refine Yg BZ ?_
 simp[BZ]
 refine eS.c rfl rfl (f88 a b ha hb) (by simp) (by simp) ?_
 simp[mD]
theorem f89(gen:Nat)(l:List Pos)(hs:∀ p∈l,Small p)(h0:0<l.length)(hl:l.length<2 ^ 40)(n:Nat)(hn:l.length=n):Wf T 89 [.et 0 gen 5 0 n,.fn (.func 90) [] []] [.row 44 gen (cl Pos.cells l)]
  (fun d H'=>∃ junk,d = .et 0 gen 5 0 (je l).length∧H' = [.row 44 gen (cl Pos.cells (je l)++junk)]):=by
 subst hn
 refine Yg u4 ?_
 simp[u4]
 by_cases h1:(l.length:Int)<2
 ·have e:=JU (l:=l) (by omega)
  simp[h1,e]
 ·simp[h1]
  refine eE.e (1:Int) (fun y=>[(0,.et 0 gen 5 0 l.length),(1,.fn (.func 90) [] []),(5,.i y)]) (fun y=>[.row 44 gen (cl Pos.cells l)]) (fun y=>1≤y∧y≤l.length∧je l=l.take y.toNat++mu l y) (fun y=>(l.length-y).toNat) ?_ ?_
  ·simp
   exact⟨by omega,by rw[NK h0]⟩
  rintro y ⟨y0,y1,y2⟩
  by_cases hy:y<l.length
  ·simp[hy,vu (l:=l) (n:=y.toNat-1) (m:=y-1) (by omega)]
   (with_reducible repeat' first|refine Xk ?_<;>try simp|refine Xs ?_ ?_<;>intro h<;>(try intro h')<;>(try simp[h])<;>(try omega)|refine Xg ?_|omega)
   refine gi.c rfl rfl (f90 (gt l y) (gt l (y-1)) (hs _ (eI (by omega) hy)) (hs _ (eI (by omega) (by omega)))) (by simp) (by simp) ?_
   simp
   by_cases he:gt l y=gt l (y-1)
   ·simp[he]
    (with_reducible repeat' first|refine Xk ?_<;>try simp|refine Xs ?_ ?_<;>intro h<;>(try intro h')<;>(try simp[h])<;>(try omega)|refine Xg ?_|omega)
    refine eE.e ((1,y,l):Int×Int×List Pos) (fun x=>[(0,.et 0 gen 5 0 l.length),(1,.fn (.func 90) [] []),(5,.i x.2.1),(6,.et 0 gen 5 y.toNat (l.length-y.toNat)),(7,.i x.1)]) (fun x=>[.row 44 gen (cl Pos.cells x.2.2)]) (fun x=>1≤x.1∧y+x.1≤l.length∧1≤x.2.1∧x.2.1<y+x.1∧x.2.2.length=l.length∧(∀ j:Int,y+x.1-1≤j→gt x.2.2 j=gt l j)∧je l=x.2.2.take x.2.1.toNat++mu l (y+x.1)) (fun x=>(l.length-(y+x.1)).toNat) ?_ ?_
    ·simp
     exact⟨by omega,y0,by omega,by rw[y2,EF y0 hy he]⟩
    rintro⟨k,i,cur⟩ ⟨k0,k1,i0,i1,c0,c1,c2⟩
    dsimp only at k0 k1 i0 i1 c0 c1 c2 ⊢
    by_cases hk:y+k<l.length
    ·have e1:gt cur (y+k)=gt l (y+k):=c1 _ (by omega)
     have e2:gt cur (y+k-1)=gt l (y+k-1):=c1 _ (by omega)
     have g1:=vu (l:=cur) (n:=y.toNat+k.toNat) (m:=y+k) (by omega)
     have g2:=vu (l:=cur) (n:=y.toNat+(k.toNat-1)) (m:=y+k-1) (by omega)
     simp[show k<((l.length-y.toNat:Nat):Int)by omega,g1,g2,e1,e2,c0]
     (with_reducible repeat' first|refine Xk ?_<;>try simp|refine Xs ?_ ?_<;>intro h<;>(try intro h')<;>(try simp[h])<;>(try omega)|refine Xg ?_|omega)
     refine gi.c rfl rfl (f90 (gt l (y+k)) (gt l (y+k-1)) (hs _ (eI (by omega) hk)) (hs _ (eI (by omega) (by omega)))) (by simp) (by simp) ?_
     simp
     by_cases mX:gt l (y+k)=gt l (y+k-1)
     ·simp[mX]
      (with_reducible repeat' first|refine Xk ?_<;>try simp|refine Xs ?_ ?_<;>intro h<;>(try intro h')<;>(try simp[h])<;>(try omega)|refine Xg ?_|omega)
      refine LJ.e (k+1,i,cur) ?_
      refine⟨by dsimp only;omega,by dsimp only;omega,by dsimp only;omega,i0,by dsimp only;omega,c0,fun j hj=>c1 j (by dsimp only at hj;omega),?_⟩
      dsimp only
      rw[c2,EF (by omega) hk mX,cv]
     ·simp[mX,g1,e1,c0]
      (with_reducible repeat' first|refine Xk ?_<;>try simp[g1,e1,c0]|refine Xs ?_ ?_<;>intro h<;>(try intro h')<;>(try simp[h,g1,e1,c0])<;>(try omega)|refine Xg ?_|omega)
      have fu:=Cs (f:=Pos.cells) cur i (by omega) (gt l (y+k))
      refine LJ.i (k+1,i+1,pt cur i (gt l (y+k))) (by first|rfl|simp) (by dsimp only;rw[← fu];rfl) rfl rfl ?_
      refine⟨by dsimp only;omega,by dsimp only;omega,by dsimp only;omega,by dsimp only;omega,by dsimp only;omega,by dsimp only;rw[fX (by omega) (by omega)];exact c0,fun j hj=>?_,?_⟩
      ·dsimp only at hj ⊢
       rw[KD (by omega) (by omega) (by omega) (by omega)]
       exact c1 j (by omega)
      ·dsimp only
       rw[NL (by omega) (by omega),c2,EG (by omega) hk mX,cv]
       simp
    ·have e:mu l (y+k) = []:=EE (by omega) (by omega)
     rw[e,av]at c2
     simp[show ¬ k<((l.length-y.toNat:Nat):Int)by omega,c0]
     (with_reducible repeat' first|refine Xk ?_<;>try simp|refine Xs ?_ ?_<;>intro h<;>(try intro h')<;>(try simp[h])<;>(try omega)|refine Xg ?_|omega)
     exact⟨by rw[c2];simp;omega,_,by rw[rY,c2]⟩
   ·simp[he]
    (with_reducible repeat' first|refine Xk ?_<;>try simp|refine Xs ?_ ?_<;>intro h<;>(try intro h')<;>(try simp[h])<;>(try omega)|refine Xg ?_|omega)
    refine LJ.e (y+1) ?_
    refine⟨by omega,by omega,by omega,?_⟩
    rw[y2,EG y0 hy he,gg (by omega) hy]
    simp
  ·have e:mu l y = []:=EE (by omega) y0
   rw[e,av,iD (by omega)]at y2
   simp[hy]
   exact⟨by rw[y2],[],by rw[y2];simp⟩
theorem f125(g:ew)(p0:Pos)(gen:Nat)(l:List eW)(hs:∀ p∈l,Small p.p)(h0:0<l.length)(hl:l.length<2 ^ 40)(n:Nat)(hn:l.length=n):Wf T 125 [.et 3 gen 6 0 n,.fn (.func 126) [] []] [.row 41 0 g.cells,.row 44 0 p0.cells,.row 164 0 [.et 3 gen 6 0 n],.row 113 gen (cl eW.cells l)]
  (fun d H'=>∃ junk,d = .et 3 gen 6 0 (je l).length∧H' = [.row 41 0 g.cells,.row 44 0 p0.cells,.row 164 0 [.et 3 gen 6 0 n],.row 113 gen (cl eW.cells (je l)++junk)]):=by
 subst hn
 refine Yg uV ?_
 simp[uV]
 by_cases h1:(l.length:Int)<2
 ·have e:=JU (l:=l) (by omega)
  simp[h1,e]
 ·simp[h1]
  refine eE.e (1:Int) (fun y=>[(0,.et 3 gen 6 0 l.length),(1,.fn (.func 126) [] []),(5,.i y)]) (fun y=>[.row 41 0 g.cells,.row 44 0 p0.cells,.row 164 0 [.et 3 gen 6 0 l.length],.row 113 gen (cl eW.cells l)]) (fun y=>1≤y∧y≤l.length∧je l=l.take y.toNat++mu l y) (fun y=>(l.length-y).toNat) ?_ ?_
  ·simp
   exact⟨by omega,by rw[NK h0]⟩
  rintro y ⟨y0,y1,y2⟩
  by_cases hy:y<l.length
  ·simp[hy,vu (l:=l) (n:=y.toNat-1) (m:=y-1) (by omega)]
   (with_reducible repeat' first|refine Xk ?_<;>try simp|refine Xs ?_ ?_<;>intro h<;>(try intro h')<;>(try simp[h])<;>(try omega)|refine Xg ?_|omega)
   refine gi.c rfl rfl (f126 (gt l y) (gt l (y-1)) (hs _ (eI (by omega) hy)) (hs _ (eI (by omega) (by omega)))) (by simp) (by simp) ?_
   simp
   by_cases he:gt l y=gt l (y-1)
   ·simp[he]
    (with_reducible repeat' first|refine Xk ?_<;>try simp|refine Xs ?_ ?_<;>intro h<;>(try intro h')<;>(try simp[h])<;>(try omega)|refine Xg ?_|omega)
    refine eE.e ((1,y,l):Int×Int×List eW) (fun x=>[(0,.et 3 gen 6 0 l.length),(1,.fn (.func 126) [] []),(5,.i x.2.1),(6,.et 3 gen 6 y.toNat (l.length-y.toNat)),(7,.i x.1)]) (fun x=>[.row 41 0 g.cells,.row 44 0 p0.cells,.row 164 0 [.et 3 gen 6 0 l.length],.row 113 gen (cl eW.cells x.2.2)]) (fun x=>1≤x.1∧y+x.1≤l.length∧1≤x.2.1∧x.2.1<y+x.1∧x.2.2.length=l.length∧(∀ j:Int,y+x.1-1≤j→gt x.2.2 j=gt l j)∧je l=x.2.2.take x.2.1.toNat++mu l (y+x.1)) (fun x=>(l.length-(y+x.1)).toNat) ?_ ?_
    ·simp
     exact⟨by omega,y0,by omega,by rw[y2,EF y0 hy he]⟩
    rintro⟨k,i,cur⟩ ⟨k0,k1,i0,i1,c0,c1,c2⟩
    dsimp only at k0 k1 i0 i1 c0 c1 c2 ⊢
    by_cases hk:y+k<l.length
    ·have e1:gt cur (y+k)=gt l (y+k):=c1 _ (by omega)
     have e2:gt cur (y+k-1)=gt l (y+k-1):=c1 _ (by omega)
     have g1:=vu (l:=cur) (n:=y.toNat+k.toNat) (m:=y+k) (by omega)
     have g2:=vu (l:=cur) (n:=y.toNat+(k.toNat-1)) (m:=y+k-1) (by omega)
     simp[show k<((l.length-y.toNat:Nat):Int)by omega,g1,g2,e1,e2,c0]
     (with_reducible repeat' first|refine Xk ?_<;>try simp|refine Xs ?_ ?_<;>intro h<;>(try intro h')<;>(try simp[h])<;>(try omega)|refine Xg ?_|omega)
     refine gi.c rfl rfl (f126 (gt l (y+k)) (gt l (y+k-1)) (hs _ (eI (by omega) hk)) (hs _ (eI (by omega) (by omega)))) (by simp) (by simp) ?_
     simp
     by_cases mX:gt l (y+k)=gt l (y+k-1)
     ·simp[mX]
      (with_reducible repeat' first|refine Xk ?_<;>try simp|refine Xs ?_ ?_<;>intro h<;>(try intro h')<;>(try simp[h])<;>(try omega)|refine Xg ?_|omega)
      refine LJ.e (k+1,i,cur) ?_
      refine⟨by dsimp only;omega,by dsimp only;omega,by dsimp only;omega,i0,by dsimp only;omega,c0,fun j hj=>c1 j (by dsimp only at hj;omega),?_⟩
      dsimp only
      rw[c2,EF (by omega) hk mX,cv]
     ·simp[mX,g1,e1,c0]
      (with_reducible repeat' first|refine Xk ?_<;>try simp[g1,e1,c0]|refine Xs ?_ ?_<;>intro h<;>(try intro h')<;>(try simp[h,g1,e1,c0])<;>(try omega)|refine Xg ?_|omega)
      have fu:=Cs (f:=eW.cells) cur i (by omega) (gt l (y+k))
      refine LJ.i (k+1,i+1,pt cur i (gt l (y+k))) (by first|rfl|simp) (by dsimp only;rw[← fu];rfl) rfl rfl ?_
      refine⟨by dsimp only;omega,by dsimp only;omega,by dsimp only;omega,by dsimp only;omega,by dsimp only;omega,by dsimp only;rw[fX (by omega) (by omega)];exact c0,fun j hj=>?_,?_⟩
      ·dsimp only at hj ⊢
       rw[KD (by omega) (by omega) (by omega) (by omega)]
       exact c1 j (by omega)
      ·dsimp only
       rw[NL (by omega) (by omega),c2,EG (by omega) hk mX,cv]
       simp
    ·have e:mu l (y+k) = []:=EE (by omega) (by omega)
     rw[e,av]at c2
     simp[show ¬ k<((l.length-y.toNat:Nat):Int)by omega,c0]
     (with_reducible repeat' first|refine Xk ?_<;>try simp|refine Xs ?_ ?_<;>intro h<;>(try intro h')<;>(try simp[h])<;>(try omega)|refine Xg ?_|omega)
     exact⟨by rw[c2];simp;omega,_,by rw[rY,c2]⟩
   ·simp[he]
    (with_reducible repeat' first|refine Xk ?_<;>try simp|refine Xs ?_ ?_<;>intro h<;>(try intro h')<;>(try simp[h])<;>(try omega)|refine Xg ?_|omega)
    refine LJ.e (y+1) ?_
    refine⟨by omega,by omega,by omega,?_⟩
    rw[y2,EG y0 hy he,gg (by omega) hy]
    simp
  ·have e:mu l y = []:=EE (by omega) y0
   rw[e,av,iD (by omega)]at y2
   simp[hy]
   exact⟨by rw[y2],[],by rw[y2];simp⟩
set_option maxRecDepth 10000
set_option maxHeartbeats 4000000
theorem Pz(x:D)(H:U):Wf T 125 [.emp,x] H (fun d H'=>d = .emp∧H'=H):=by
 refine Yg uV ?_
 simp[uV]
theorem PS(x:D)(H:U):Wf T 89 [.emp,x] H (fun d H'=>d = .emp∧H'=H):=by
 refine Yg u4 ?_
 simp[u4]
theorem Jj{g:ew}:∀ {l:List eG} {now:List eD},(nu g l now).length≤10 ^ l.length*now.length
 | [],now=>by simp[nu]
 | x::r,now=>by
  rw[nu]
  refine Nat.le_trans Jj ?_
  rw[aJ,dm,ef]
  exact dq _ yV
theorem ET{g:ew}:∀ {l:List eG} {a b:List eD},(∀ t,t∈a↔t∈b)→∀ t,t∈nu g l a↔t∈nK g l b
 | [],a,b,h,t=>h t
 | x::r,a,b,h,t=>by
  rw[nu,nK]
  refine ET (fun t=>?_) t
  rw[DT,bn,bn]
  exact⟨fun⟨s,h1,h2⟩=>⟨s,(h s).1 h1,h2⟩,fun⟨s,h1,h2⟩=>⟨s,(h s).2 h1,h2⟩⟩
theorem MW{g:ew}{p:Pos}{c n:Int}{o:eW}:o∈ox g p c n↔o∈oT g p c (gt (gt g.kinds (eR (gt p.cs c))).fW n):=by
 unfold ox oT
 rw[bR,bR]
 exact⟨fun⟨s,h1,h2⟩=>⟨s,(ET (fun _=>cU) s).1 h1,h2⟩,fun⟨s,h1,h2⟩=>⟨s,(ET (fun _=>cU) s).2 h1,h2⟩⟩
theorem f85(g:ew)(hg:eU g)(p:Pos)(hp:fj g p)(c n:Int)(hc:0≤c∧c<p.cs.length)(hs:gR (gt p.cs c)=p.side)(hn:0≤n∧n<(gt g.kinds (eR (gt p.cs c))).fW.length) :
  Wf T 85 [dG g,dP p,.i c,.i n] [] (Ey (fun r:List eW=>.tup [dN 6 eW.cells r,.i 0]) fun r=>(∀ o,o∈r↔o∈oT g p c (gt (gt g.kinds (eR (gt p.cs c))).fW n))∧r.length≤100000000):=by
 have fL:=hp.size
 have eH:=zF hg hp hc.1 (by omega) hs
 have nc:qJ g (gt (gt g.kinds (eR (gt p.cs c))).fW n):=(hg.fW _ (eI eH.kind.1 eH.kind.2)).2 _ (eI hn.1 hn.2)
 have hlen:(ox g p c n).length≤100000000:=by
  unfold ox
  refine Nat.le_trans (cP ..) (Nat.le_trans Jj ?_)
  have:=nc.len
  have:10 ^ (gt (gt g.kinds (eR (gt p.cs c))).fW n).length≤10 ^ 8:=bX (by decide) (by omega)
  simpa using this
 have mH:∀ o,o∈ox g p c n→Small o.p:=fun o ho=>by
  rw[MW]at ho
  unfold oT at ho
  rw[bR]at ho
  obtain⟨s,h1,h2⟩:=ho
  exact(CS (Eh hg nc.steps (fun t ht=>by rw[List.mem_singleton.1 ht];exact eH) s h1) hp.side.1 hp.side.2 h2).small hg
 refine Yg BX ?_
 simp[BX]
 refine eS.km rfl rfl (f121 g hg p hp c n hc hs hn) ?_
 rintro d H' ⟨rfl,rfl⟩
 have hm:=fun o=>MW (g:=g) (p:=p) (c:=c) (n:=n) (o:=o)
 generalize ox g p c n=outs at *
 by_cases ho:outs = []
 ·subst ho
  simp
  refine eS.km rfl rfl (Wf.wB (K:=fun d H'=>d = .tup []∧H'=_) (sz:=6) rfl ⟨rfl,rfl⟩) ?_
  rintro d H' ⟨rfl,rfl⟩
  simp
  refine eS.km rfl rfl (Pz _ _) ?_
  rintro d H' ⟨rfl,rfl⟩
  simp
  exact Ey.i [] rfl rfl ⟨hm,by simp⟩
 ·have h0:0<outs.length:=aB.2 ho
  rw[if_neg ho]
  simp
  refine eS.km rfl rfl (Wf.sort (K:=fun d H'=>∃ l',l'.Perm outs∧d = .tup []∧H' = [.row 41 0 g.cells,.row 44 0 p.cells,.row 164 0 [.et 3 (outs.length-1) 6 0 outs.length],.row 113 (outs.length-1) (cl eW.cells l')]) (fc:=eW.cells) outs mC rfl rfl h0 (by omega) (fun x=>Cu.2 rfl) JO OU (fun x hx y hy=>f124 x y (mH x hx) (mH y hy)) (gen:=outs.length-1) (t:=113) (by simp) (fun l' hp hw=>⟨l',hp,rfl,by simp⟩)) ?_
  rintro d H' ⟨l',jZ,rfl,rfl⟩
  simp
  refine eS.km rfl rfl (f125 g p (outs.length-1) l' (fun o ho=>mH o ((jZ.mem_iff).1 ho)) (by rw[jZ.length_eq];exact h0) (by rw[jZ.length_eq];omega) outs.length jZ.length_eq) ?_
  rintro d H' ⟨junk,rfl,rfl⟩
  simp
  have fF:je l'≠[]:=fun h=>ho (by rw[O1]at h;rw[h]at jZ;exact jZ.symm.eq_nil)
  refine Ey.i (je l') (by revert fF;cases je l' with|nil=>intro h;exact absurd rfl h|cons a r=>intro _;rfl) rfl ⟨fun o=>by rw[xx,jZ.mem_iff,hm],?_⟩
  have:=JT l'
  have:=jZ.length_eq
  omega
set_option maxRecDepth 10000
set_option maxHeartbeats 4000000
theorem f86(l:List Pos)(h:0<l.length)(h2:l.length<2 ^ 40):Wf T 86 [fe l] [] (fun d H=>d = .et 0 1 5 0 l.length∧H = [.row 44 1 (cl Pos.cells l)]):=by
 refine Yg u3 ?_
 simp[u3]
 refine oA.i (a:=.b false) (by cases l with|nil=>exact absurd h (by simp)|cons a r=>rfl) ?_
 simp
 (with_reducible repeat' first|refine Xk ?_<;>try simp|refine Xs ?_ ?_<;>intro h<;>(try intro h')<;>(try simp[h])<;>(try omega)|refine Xg ?_|omega)
theorem PR:Wf T 86 [.emp] [] (Is .emp):=by
 refine Yg u3 ?_
 simp[u3]
theorem pZ{l:List Pos}(h:l≠[]):fe l=dN 5 Pos.cells l:=by
 cases l with
 | nil=>exact absurd rfl h
 | cons a r=>rfl
@[simp] theorem ad7(l:List Pos):closed (dN 5 Pos.cells l)=true:=tj (fun a=>by simp) l
theorem ZQ:il [] = []:=aA.1 (Nat.le_zero.1 (Ew []))
theorem ZP{l:List Pos}(h:l≠[]):il l≠[]:=fun e=>by
 obtain⟨a,r,rfl⟩:=dy h
 have:a∈il (a::r):=pJ.2 (by simp)
 rw[e]at this;cases this
theorem f48(l:List Pos)(hs:∀ p∈l,Small p)(hl:l.length<2 ^ 40):Wf T 48 [dN 5 Pos.cells l] [] (Is (dN 5 Pos.cells (il l))):=by
 by_cases h:l = []
 ·subst h
  rw[ZQ]
  show Wf T 48 [.emp] [] (Is .emp)
  refine Yg u0 ?_
  simp[u0]
  refine Yc (PR) ?_
  simp
  refine eS.km rfl rfl (Wf.wB (K:=fun d H'=>d = .tup []∧H'=_) (sz:=5) rfl ⟨rfl,rfl⟩) ?_
  rintro d H' ⟨rfl,rfl⟩
  simp
  refine eS.km rfl rfl (PS _ _) ?_
  rintro d H' ⟨rfl,rfl⟩
  simp
 ·have h0:0<l.length:=aB.2 h
  rw[← pZ h,← pZ (ZP h)]
  refine Yg u0 ?_
  simp[u0]
  refine Yn (f86 l h0 hl) ?_
  simp
  refine eS.km rfl rfl (Wf.sort (K:=fun d H'=>∃ l',l'.Perm l∧l'.Pairwise (fun x y=>¬ fD y x<0)∧d = .tup []∧H' = [.row 44 1 (cl Pos.cells l')]) (fc:=Pos.cells) l fD rfl rfl h0 hl oH (fun x y z=>rZ) OV (fun x hx y hy=>f88 x y (hs x hx) (hs y hy)) (gen:=1) (t:=44) (by simp) (fun l' hp hw=>⟨l',hp,hw,rfl,by simp⟩)) ?_
  rintro d H' ⟨l',jZ,hw,rfl,rfl⟩
  simp
  refine eS.km rfl rfl (f89 1 l' (fun o ho=>hs o ((jZ.mem_iff).1 ho)) (by rw[jZ.length_eq];exact h0) (by rw[jZ.length_eq];omega) l.length jZ.length_eq) ?_
  rintro d H' ⟨junk,rfl,rfl⟩
  simp[O3 jZ hw]
