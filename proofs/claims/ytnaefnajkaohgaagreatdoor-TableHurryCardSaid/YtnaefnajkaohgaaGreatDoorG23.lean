/- Part 23 of TableHurry. -/
import Derived.Test.YtnaefnajkaohgaaGreatDoorG19
import Derived.Test.YtnaefnajkaohgaaGreatDoorG22
set_option linter.all false
namespace Go.AL
open Go
theorem Wf.sort{T:fH}{f g:FuncId}{fn:eA}{sz v gen t:Nat}{H:et}{K:D→et→Prop}{α:Type}{fc:α→List D}[F:Fl fc sz](l:List α)(cf:α→α→Int)(hs:T.sort f=some sz)(hg:T.fn g=some fn)(h0:0<l.length)(hl:l.length<2 ^ 40)
  (wk:∀ x,cf x x=0) (tr:∀ x y z,cf x y<0→cf y z<0→cf x z<0) (nt:∀ x y z,¬ cf x y<0→¬ cf y z<0→¬ cf x z<0) (hc:∀ x∈l,∀ y∈l,Wf T g [.agg (fc x),.agg (fc y)] [] (Is (.i (cf x y)))) (hv:H[v]? = some (.row t gen (cl fc l)))
  (k:∀ l':List α,l'.Perm l→l'.Pairwise (fun x y=>¬ cf y x<0)→K (.tup []) (H.set v (.row t gen (cl fc l')))):Wf T f [.eu v gen sz 0 l.length,.fn (.func g) [] []] H K:=
 Ev.sort fc l cf hs hg (fun a _=>F.len a) (fun a _=>F.cl a) h0 (by omega) (fun x _=>by rw[wk];decide) (fun x _ y _ z _=>tr x y z) (fun x _ y _ z _=>nt x y z)
  (fun x hx y hy=>Ev.mono (hc x hx y hy) fun r ⟨d,H',e,h1,_⟩=>⟨H',by rw[e,h1]⟩) (by rw[hv,lL]) fun l' hp hw=>⟨_,_,rfl,by rw[← lL];exact k l' hp hw⟩
theorem Wf.wN{T:fH}{f:FuncId}{sz:Nat}{x:D}{H:et}{K:D→et→Prop}(hs:T.sort f=some sz)(k:K (.tup []) H):Wf T f [.U,x] H K:=Ev.wN hs ⟨_,_,rfl,k⟩
section
variable{α:Type}[DecidableEq α]
def ji:List α→List α
 | []=>[]
 | [a]=>[a]
 | a::b::t=>if b=a then ji (b::t)else a::ji (b::t)
theorem CH:∀ (t:List α) (a:α),ji (a::t)=a::(ji (a::t)).tail
 | [],a=>rfl
 | b::t,a=>by
  unfold ji
  split
  ·rename_i h;subst h;exact CH t b
  ·rfl
theorem xK{x:α}:∀ {l:List α},x∈ji l↔x∈l
 | []=>cU
 | [a]=>cU
 | a::b::t=>by
  unfold ji
  split
  ·rename_i h;subst h;rw[xK (l:=b::t)];simp
  ·rw[ax,xK (l:=b::t),ax (a:=x) (b:=a)]
theorem J9:∀ l:List α,(ji l).length≤l.length
 | []=>Nat.le_refl _
 | [a]=>Nat.le_refl _
 | a::b::t=>by
  have:=J9 (b::t)
  unfold ji
  split
  ·exact Nat.le_succ_of_le this
  ·simp only[aJ]at *;omega
theorem Po{l:List α}(h:0<l.length):0<(ji l).length:=by
 cases l with
 | nil=>simp at h
 | cons a t=>rw[CH];simp
theorem Pn{l:List α}:ji l = []↔l = []:=by
 constructor
 ·intro h
  rcases dv l.length with h2|h2
  ·exact aA.1 h2
  ·have:=Po h2;rw[h]at this;simp at this
 ·rintro rfl;rfl
theorem J'{l:List α}(h:l.length<2):ji l=l:=by
 match l,h with
 | [],_=>rfl
 | [a],_=>rfl
 | a::b::t,h=>simp at h;omega
def mB(l:List α)(m:Int):List α:=(ji (l.drop (m-1).toNat)).tail
variable [Inhabited α]{l:List α}{m:Int}
theorem N5(h:0<l.length):ji l=l.take 1++mB l 1:=by
 cases l with
 | nil=>simp at h
 | cons a t=>exact CH t a
theorem EP(h:m=l.length)(h0:1≤m):mB l m = []:=by
 unfold mB
 rw[kP (by omega) (by omega),c8 (by omega)]
 rfl
theorem ER(h0:1≤m)(h:m<l.length)(e:gt l m=gt l (m-1)):mB l m=mB l (m+1):=by
 unfold mB
 rw[kP (n:=m-1) (by omega) (by omega),show(m-1).toNat+1=m.toNat by omega,kP (n:=m) (by omega) h,ji,if_pos e,cO,kP (n:=m) (by omega) h]
theorem ES(h0:1≤m)(h:m<l.length)(e:gt l m≠gt l (m-1)):mB l m=gt l m::mB l (m+1):=by
 unfold mB
 rw[kP (n:=m-1) (by omega) (by omega),show(m-1).toNat+1=m.toNat by omega,kP (n:=m) (by omega) h,ji,if_neg e,cO,kP (n:=m) (by omega) h]
 exact CH _ _
end
theorem Fs:∀ {l:List Pos},l.Pairwise (fun x y=>fG x y≤0)→(ji l).Pairwise fun x y=>fG x y<0
 | [],_=>.nil
 | [a],_=>by simp[ji]
 | a::b::t,h=>by
  have h1:=a7.1 h
  have h2:=a7.1 h1.2
  unfold ji
  split
  ·exact Fs h1.2
  ·rename_i hn
   refine a7.2 ⟨fun x hx=>?_,Fs h1.2⟩
   rw[xK]at hx
   have h3:=h1.1 x hx
   by_cases h4:fG a x=0
   ·have e:=mI.1 h4
    subst e
    rcases ax.1 hx with e|hx
    ·exact absurd e.symm hn
    ·have h5:=h2.1 _ hx
     have h6:=h1.1 b (by simp)
     have h7:=pj a b
     exact absurd (mI.1 (show fG a b=0 by omega)).symm hn
   ·omega
theorem Pp{l l':List Pos}(hp:l'.Perm l)(hw:l'.Pairwise fun x y=>¬ fG y x<0):ji l'=iv l:=
 NZ (iI.of (Fs (hw.imp fun{x y} h=>by have:=pj x y;omega))) fun q=>by rw[xK,hp.mem_iff]
theorem Pf(x y z:Pos)(h1:¬ fG x y<0)(h2:¬ fG y z<0):¬ fG x z<0:=by
 have a:=pj x y;have b:=pj y z;have c:=pj x z
 have:=J5 (p:=z) (q:=y) (r:=x) (by omega) (by omega)
 omega
def b2(b:Bool):Int:=if b then 1 else 0
def mH(a b:eY):Int:=ke [fG a.p b.p,iF (b2 a.gO) (b2 b.gO)]
theorem OC{a b:Bool}(h:b2 a=b2 b):a=b:=by revert h;cases a<;>cases b<;>simp[b2]
theorem CG{a b:eY}:mH a b=0↔a=b:=by
 unfold mH
 rw[FR]
 simp only[ax,cG,or_false,forall_eq_or_imp,forall_eq,mI,rI]
 constructor
 ·rintro⟨h1,h2⟩;have:=OC h2;cases a;cases b;simp_all
 ·rintro rfl;exact⟨rfl,rfl⟩
theorem Fo(a b:eY):mH b a = - mH a b:=by
 unfold mH ke
 rw[pj a.p b.p,D8 (b2 a.gO)]
 simp only[ke]
 (repeat' split)<;>omega
theorem J4(x y z:eY):mH x y<0→mH y z<0→mH x z<0:=by
 unfold mH
 refine tQ (fun h=>by rw[mI.1 h]) (fun h=>by rw[mI.1 h]) sr (tQ (fun h=>by rw[rI.1 h]) (fun h=>by rw[rI.1 h]) (by simp only[wx];omega) fun h=>?_)
 simp[ke]at h
theorem Pe(x y z:eY)(h1:¬ mH x y<0)(h2:¬ mH y z<0):¬ mH x z<0:=by
 have a:=Fo x y;have b:=Fo y z;have c:=Fo x z
 by_cases e1:mH x y=0
 ·rw[CG.1 e1];exact h2
 ·by_cases e2:mH y z=0
  ·rw[← CG.1 e2];exact h1
  ·have:=J4 z y x (by omega) (by omega)
   omega
theorem JS{sz:Nat}:∀ (n:Nat) (a b:List D),a.length=n*sz→chunks sz n (a++b)=chunks sz n a
 | 0,_,_,_=>rfl
 | n+1,a,b,h=>by
  rw[bM]at h
  simp only[chunks]
  rw[bA (by omega),dp (by omega),JS n (a.drop sz) b (by simp;omega)]
@[simp] theorem afl{α:Type}{f:α→List D}{sz:Nat}[F:Fl f sz]{ρ:Nat→Option Nat}{H:et}{k n:Nat}{t:TypeId}{l:List α}{b:List D}(h:n=l.length):lz ρ H (k+1) sz 0 n (some (t,cl f l++b)) = .sl sz (l.map f):=by
 subst h
 unfold lz
 dsimp only
 rw[az,tD,aX,if_pos (by omega),b9,dV,List.map_append,Il (qb l),JS _ _ _ (by simp),lL,Fj F.len]
@[irreducible] def Dd{α:Type}[Inhabited α](l:List α)(n:Nat):α:=gt l (n:Int)
theorem vI{α:Type}[Inhabited α]{l:List α}{n:Nat}{m:Int}(h:(n:Int)=m):Dd l n=gt l m:=by unfold Dd;rw[h]
@[simp] theorem agn{α:Type}[Inhabited α]{f:α→List D}{sz:Nat}[F:Fl f sz]{l:List α}{t:TypeId}{n:Nat}(hz:0<sz):qB sz (n*sz) (some (t,cl f l))=if n<l.length then some (.agg (f (Dd l n)))else none:=by
 have:=TE (f:=f) (l:=l) (t:=t) (n:=(n:Int)) hz
 rw[dA]at this
 rw[this];unfold Dd;rfl
@[simp] theorem aeG(sz v g off len:Nat)(z:List D)(H:et):xH sz z (.eu v g sz off len) H=(rowAt H v g).bind fun p=>if (off+len)*sz≤p.2.length then some (.any,.obj v (.row p.1 g (p.2.take (off*sz)++(List.replicate len z).flatten++p.2.drop ((off+len)*sz))))else none:=by
 simp only[xH]
 cases rowAt H v g<;>simp
theorem N6{α:Type}{l:List α}{n:Int}{v:α}(h0:0≤n)(h:n<l.length):(pt l n v).take (n+1).toNat=l.take n.toNat ++ [v]:=by
 have e:(l.take n.toNat).length=n.toNat:=by rw[aP];omega
 rw[pt,List.take_append,e,show(n+1).toNat-n.toNat=1 by omega,aG (by omega)]
 rfl
end Go.AL
namespace Go.Proofs.YtnaefnajkaohgaaGreatDoor
open Go Go.AL Classical
set_option maxRecDepth 10000
set_option maxHeartbeats 4000000
theorem f124(a b:eY)(ha:Small a.p)(hb:Small b.p):Wf T 124 [.agg a.cells,.agg b.cells] [] (Is (.i (mH a b))):=by
 obtain⟨p,u⟩:=a
 obtain⟨q,v⟩:=b
 cases u<;>cases v
 ·refine Yg pV ?_
  simp[pV,eY.cells]
  refine gq.c rfl rfl (f88 p q ha hb) (by simp) (by simp) ?_
  simp
  refine gq.c rfl rfl (f131 _ _) (by simp) (by simp) ?_
  simp
  refine gq.r rfl rfl (f129 [fG p q,iF 0 0] (by simp)) (by simp) (by simp[flat]) (by simp) ?_
  simp
  rfl
 ·refine Yg pV ?_
  simp[pV,eY.cells]
  refine gq.c rfl rfl (f88 p q ha hb) (by simp) (by simp) ?_
  simp
  refine gq.c rfl rfl (f131 _ _) (by simp) (by simp) ?_
  simp
  refine gq.r rfl rfl (f129 [fG p q,iF 0 1] (by simp)) (by simp) (by simp[flat]) (by simp) ?_
  simp
  rfl
 ·refine Yg pV ?_
  simp[pV,eY.cells]
  refine gq.c rfl rfl (f88 p q ha hb) (by simp) (by simp) ?_
  simp
  refine gq.c rfl rfl (f131 _ _) (by simp) (by simp) ?_
  simp
  refine gq.r rfl rfl (f129 [fG p q,iF 1 0] (by simp)) (by simp) (by simp[flat]) (by simp) ?_
  simp
  rfl
 ·refine Yg pV ?_
  simp[pV,eY.cells]
  refine gq.c rfl rfl (f88 p q ha hb) (by simp) (by simp) ?_
  simp
  refine gq.c rfl rfl (f131 _ _) (by simp) (by simp) ?_
  simp
  refine gq.r rfl rfl (f129 [fG p q,iF 1 1] (by simp)) (by simp) (by simp[flat]) (by simp) ?_
  simp
  rfl
theorem f126(a b:eY)(ha:Small a.p)(hb:Small b.p):Wf T 126 [.agg a.cells,.agg b.cells] [] (Is (.b (decide (a=b)))):=by
 refine Yg An ?_
 simp[An,eY.cells]
 refine eU.c rfl rfl (f124 a b ha hb) (by simp) (by simp) ?_
 simp[CG]
theorem f90(a b:Pos)(ha:Small a)(hb:Small b):Wf T 90 [.agg a.cells,.agg b.cells] [] (Is (.b (decide (a=b)))):=by
 refine Yg B9 ?_
 simp[B9]
 refine eU.c rfl rfl (f88 a b ha hb) (by simp) (by simp) ?_
 simp[mI]
theorem f89(gen:Nat)(l:List Pos)(hs:∀ p∈l,Small p)(h0:0<l.length)(hl:l.length<2 ^ 40)(n:Nat)(hn:l.length=n):Wf T 89 [.eu 0 gen 5 0 n,.fn (.func 90) [] []] [.row 44 gen (cl Pos.cells l)]
  (fun d H'=>∃ junk,d = .eu 0 gen 5 0 (ji l).length∧H' = [.row 44 gen (cl Pos.cells (ji l)++junk)]):=by
 subst hn
 refine Yg vh ?_
 simp[vh]
 by_cases h1:(l.length:Int)<2
 ·have e:=J' (l:=l) (by omega)
  simp[h1,e]
 ·simp[h1]
  refine eF.e (1:Int) (fun y=>[(0,.eu 0 gen 5 0 l.length),(1,.fn (.func 90) [] []),(5,.i y)]) (fun y=>[.row 44 gen (cl Pos.cells l)]) (fun y=>1≤y∧y≤l.length∧ji l=l.take y.toNat++mB l y) (fun y=>(l.length-y).toNat) ?_ ?_
  ·simp
   exact⟨by omega,by rw[N5 h0]⟩
  rintro y ⟨y0,y1,y2⟩
  by_cases hy:y<l.length
  ·simp[hy,vI (l:=l) (n:=y.toNat-1) (m:=y-1) (by omega)]
   (with_reducible repeat' first|refine Xk ?_<;>try simp|refine Xs ?_ ?_<;>intro h<;>(try intro h')<;>(try simp[h])<;>(try omega)|refine Xg ?_|omega)
   refine gq.c rfl rfl (f90 (gt l y) (gt l (y-1)) (hs _ (eH (by omega) hy)) (hs _ (eH (by omega) (by omega)))) (by simp) (by simp) ?_
   simp
   by_cases he:gt l y=gt l (y-1)
   ·simp[he]
    (with_reducible repeat' first|refine Xk ?_<;>try simp|refine Xs ?_ ?_<;>intro h<;>(try intro h')<;>(try simp[h])<;>(try omega)|refine Xg ?_|omega)
    refine eF.e ((1,y,l):Int×Int×List Pos) (fun x=>[(0,.eu 0 gen 5 0 l.length),(1,.fn (.func 90) [] []),(5,.i x.2.1),(6,.eu 0 gen 5 y.toNat (l.length-y.toNat)),(7,.i x.1)]) (fun x=>[.row 44 gen (cl Pos.cells x.2.2)]) (fun x=>1≤x.1∧y+x.1≤l.length∧1≤x.2.1∧x.2.1<y+x.1∧x.2.2.length=l.length∧(∀ j:Int,y+x.1-1≤j→gt x.2.2 j=gt l j)∧ji l=x.2.2.take x.2.1.toNat++mB l (y+x.1)) (fun x=>(l.length-(y+x.1)).toNat) ?_ ?_
    ·simp
     exact⟨by omega,y0,by omega,by rw[y2,ER y0 hy he]⟩
    rintro⟨k,i,cur⟩ ⟨k0,k1,i0,i1,c0,c1,c2⟩
    dsimp only at k0 k1 i0 i1 c0 c1 c2 ⊢
    by_cases hk:y+k<l.length
    ·have e1:gt cur (y+k)=gt l (y+k):=c1 _ (by omega)
     have e2:gt cur (y+k-1)=gt l (y+k-1):=c1 _ (by omega)
     have g1:=vI (l:=cur) (n:=y.toNat+k.toNat) (m:=y+k) (by omega)
     have g2:=vI (l:=cur) (n:=y.toNat+(k.toNat-1)) (m:=y+k-1) (by omega)
     simp[show k<((l.length-y.toNat:Nat):Int)by omega,g1,g2,e1,e2,c0]
     (with_reducible repeat' first|refine Xk ?_<;>try simp|refine Xs ?_ ?_<;>intro h<;>(try intro h')<;>(try simp[h])<;>(try omega)|refine Xg ?_|omega)
     refine gq.c rfl rfl (f90 (gt l (y+k)) (gt l (y+k-1)) (hs _ (eH (by omega) hk)) (hs _ (eH (by omega) (by omega)))) (by simp) (by simp) ?_
     simp
     by_cases ng:gt l (y+k)=gt l (y+k-1)
     ·simp[ng]
      (with_reducible repeat' first|refine Xk ?_<;>try simp|refine Xs ?_ ?_<;>intro h<;>(try intro h')<;>(try simp[h])<;>(try omega)|refine Xg ?_|omega)
      refine LJ.e (k+1,i,cur) ?_
      refine⟨by dsimp only;omega,by dsimp only;omega,by dsimp only;omega,i0,by dsimp only;omega,c0,fun j hj=>c1 j (by dsimp only at hj;omega),?_⟩
      dsimp only
      rw[c2,ER (by omega) hk ng,bZ]
     ·simp[ng,g1,e1,c0]
      (with_reducible repeat' first|refine Xk ?_<;>try simp[g1,e1,c0]|refine Xs ?_ ?_<;>intro h<;>(try intro h')<;>(try simp[h,g1,e1,c0])<;>(try omega)|refine Xg ?_|omega)
      have fy:=CE (f:=Pos.cells) cur i (by omega) (gt l (y+k))
      refine LJ.i (k+1,i+1,pt cur i (gt l (y+k))) (by first|rfl|simp) (by dsimp only;rw[← fy];rfl) rfl rfl ?_
      refine⟨by dsimp only;omega,by dsimp only;omega,by dsimp only;omega,by dsimp only;omega,by dsimp only;omega,by dsimp only;rw[ga (by omega) (by omega)];exact c0,fun j hj=>?_,?_⟩
      ·dsimp only at hj ⊢
       rw[KW (by omega) (by omega) (by omega) (by omega)]
       exact c1 j (by omega)
      ·dsimp only
       rw[N6 (by omega) (by omega),c2,ES (by omega) hk ng,bZ]
       simp
    ·have e:mB l (y+k) = []:=EP (by omega) (by omega)
     rw[e,av]at c2
     simp[show ¬ k<((l.length-y.toNat:Nat):Int)by omega,c0]
     (with_reducible repeat' first|refine Xk ?_<;>try simp|refine Xs ?_ ?_<;>intro h<;>(try intro h')<;>(try simp[h])<;>(try omega)|refine Xg ?_|omega)
     exact⟨by rw[c2];simp;omega,_,by rw[sn,c2]⟩
   ·simp[he]
    (with_reducible repeat' first|refine Xk ?_<;>try simp|refine Xs ?_ ?_<;>intro h<;>(try intro h')<;>(try simp[h])<;>(try omega)|refine Xg ?_|omega)
    refine LJ.e (y+1) ?_
    refine⟨by omega,by omega,by omega,?_⟩
    rw[y2,ES y0 hy he,gj (by omega) hy]
    simp
  ·have e:mB l y = []:=EP (by omega) y0
   rw[e,av,iH (by omega)]at y2
   simp[hy]
   exact⟨by rw[y2],[],by rw[y2];simp⟩
theorem f125(g:ey)(p0:Pos)(gen:Nat)(l:List eY)(hs:∀ p∈l,Small p.p)(h0:0<l.length)(hl:l.length<2 ^ 40)(n:Nat)(hn:l.length=n):Wf T 125 [.eu 3 gen 6 0 n,.fn (.func 126) [] []] [.row 41 0 g.cells,.row 44 0 p0.cells,.row 164 0 [.eu 3 gen 6 0 n],.row 113 gen (cl eY.cells l)]
  (fun d H'=>∃ junk,d = .eu 3 gen 6 0 (ji l).length∧H' = [.row 41 0 g.cells,.row 44 0 p0.cells,.row 164 0 [.eu 3 gen 6 0 n],.row 113 gen (cl eY.cells (ji l)++junk)]):=by
 subst hn
 refine Yg u9 ?_
 simp[u9]
 by_cases h1:(l.length:Int)<2
 ·have e:=J' (l:=l) (by omega)
  simp[h1,e]
 ·simp[h1]
  refine eF.e (1:Int) (fun y=>[(0,.eu 3 gen 6 0 l.length),(1,.fn (.func 126) [] []),(5,.i y)]) (fun y=>[.row 41 0 g.cells,.row 44 0 p0.cells,.row 164 0 [.eu 3 gen 6 0 l.length],.row 113 gen (cl eY.cells l)]) (fun y=>1≤y∧y≤l.length∧ji l=l.take y.toNat++mB l y) (fun y=>(l.length-y).toNat) ?_ ?_
  ·simp
   exact⟨by omega,by rw[N5 h0]⟩
  rintro y ⟨y0,y1,y2⟩
  by_cases hy:y<l.length
  ·simp[hy,vI (l:=l) (n:=y.toNat-1) (m:=y-1) (by omega)]
   (with_reducible repeat' first|refine Xk ?_<;>try simp|refine Xs ?_ ?_<;>intro h<;>(try intro h')<;>(try simp[h])<;>(try omega)|refine Xg ?_|omega)
   refine gq.c rfl rfl (f126 (gt l y) (gt l (y-1)) (hs _ (eH (by omega) hy)) (hs _ (eH (by omega) (by omega)))) (by simp) (by simp) ?_
   simp
   by_cases he:gt l y=gt l (y-1)
   ·simp[he]
    (with_reducible repeat' first|refine Xk ?_<;>try simp|refine Xs ?_ ?_<;>intro h<;>(try intro h')<;>(try simp[h])<;>(try omega)|refine Xg ?_|omega)
    refine eF.e ((1,y,l):Int×Int×List eY) (fun x=>[(0,.eu 3 gen 6 0 l.length),(1,.fn (.func 126) [] []),(5,.i x.2.1),(6,.eu 3 gen 6 y.toNat (l.length-y.toNat)),(7,.i x.1)]) (fun x=>[.row 41 0 g.cells,.row 44 0 p0.cells,.row 164 0 [.eu 3 gen 6 0 l.length],.row 113 gen (cl eY.cells x.2.2)]) (fun x=>1≤x.1∧y+x.1≤l.length∧1≤x.2.1∧x.2.1<y+x.1∧x.2.2.length=l.length∧(∀ j:Int,y+x.1-1≤j→gt x.2.2 j=gt l j)∧ji l=x.2.2.take x.2.1.toNat++mB l (y+x.1)) (fun x=>(l.length-(y+x.1)).toNat) ?_ ?_
    ·simp
     exact⟨by omega,y0,by omega,by rw[y2,ER y0 hy he]⟩
    rintro⟨k,i,cur⟩ ⟨k0,k1,i0,i1,c0,c1,c2⟩
    dsimp only at k0 k1 i0 i1 c0 c1 c2 ⊢
    by_cases hk:y+k<l.length
    ·have e1:gt cur (y+k)=gt l (y+k):=c1 _ (by omega)
     have e2:gt cur (y+k-1)=gt l (y+k-1):=c1 _ (by omega)
     have g1:=vI (l:=cur) (n:=y.toNat+k.toNat) (m:=y+k) (by omega)
     have g2:=vI (l:=cur) (n:=y.toNat+(k.toNat-1)) (m:=y+k-1) (by omega)
     simp[show k<((l.length-y.toNat:Nat):Int)by omega,g1,g2,e1,e2,c0]
     (with_reducible repeat' first|refine Xk ?_<;>try simp|refine Xs ?_ ?_<;>intro h<;>(try intro h')<;>(try simp[h])<;>(try omega)|refine Xg ?_|omega)
     refine gq.c rfl rfl (f126 (gt l (y+k)) (gt l (y+k-1)) (hs _ (eH (by omega) hk)) (hs _ (eH (by omega) (by omega)))) (by simp) (by simp) ?_
     simp
     by_cases ng:gt l (y+k)=gt l (y+k-1)
     ·simp[ng]
      (with_reducible repeat' first|refine Xk ?_<;>try simp|refine Xs ?_ ?_<;>intro h<;>(try intro h')<;>(try simp[h])<;>(try omega)|refine Xg ?_|omega)
      refine LJ.e (k+1,i,cur) ?_
      refine⟨by dsimp only;omega,by dsimp only;omega,by dsimp only;omega,i0,by dsimp only;omega,c0,fun j hj=>c1 j (by dsimp only at hj;omega),?_⟩
      dsimp only
      rw[c2,ER (by omega) hk ng,bZ]
     ·simp[ng,g1,e1,c0]
      (with_reducible repeat' first|refine Xk ?_<;>try simp[g1,e1,c0]|refine Xs ?_ ?_<;>intro h<;>(try intro h')<;>(try simp[h,g1,e1,c0])<;>(try omega)|refine Xg ?_|omega)
      have fy:=CE (f:=eY.cells) cur i (by omega) (gt l (y+k))
      refine LJ.i (k+1,i+1,pt cur i (gt l (y+k))) (by first|rfl|simp) (by dsimp only;rw[← fy];rfl) rfl rfl ?_
      refine⟨by dsimp only;omega,by dsimp only;omega,by dsimp only;omega,by dsimp only;omega,by dsimp only;omega,by dsimp only;rw[ga (by omega) (by omega)];exact c0,fun j hj=>?_,?_⟩
      ·dsimp only at hj ⊢
       rw[KW (by omega) (by omega) (by omega) (by omega)]
       exact c1 j (by omega)
      ·dsimp only
       rw[N6 (by omega) (by omega),c2,ES (by omega) hk ng,bZ]
       simp
    ·have e:mB l (y+k) = []:=EP (by omega) (by omega)
     rw[e,av]at c2
     simp[show ¬ k<((l.length-y.toNat:Nat):Int)by omega,c0]
     (with_reducible repeat' first|refine Xk ?_<;>try simp|refine Xs ?_ ?_<;>intro h<;>(try intro h')<;>(try simp[h])<;>(try omega)|refine Xg ?_|omega)
     exact⟨by rw[c2];simp;omega,_,by rw[sn,c2]⟩
   ·simp[he]
    (with_reducible repeat' first|refine Xk ?_<;>try simp|refine Xs ?_ ?_<;>intro h<;>(try intro h')<;>(try simp[h])<;>(try omega)|refine Xg ?_|omega)
    refine LJ.e (y+1) ?_
    refine⟨by omega,by omega,by omega,?_⟩
    rw[y2,ES y0 hy he,gj (by omega) hy]
    simp
  ·have e:mB l y = []:=EP (by omega) y0
   rw[e,av,iH (by omega)]at y2
   simp[hy]
   exact⟨by rw[y2],[],by rw[y2];simp⟩
set_option maxRecDepth 10000
set_option maxHeartbeats 4000000
theorem PY(x:D)(H:et):Wf T 125 [.U,x] H (fun d H'=>d = .U∧H'=H):=by
 refine Yg u9 ?_
 simp[u9]
theorem Qd(x:D)(H:et):Wf T 89 [.U,x] H (fun d H'=>d = .U∧H'=H):=by
 refine Yg vh ?_
 simp[vh]
theorem Jz{g:ey}:∀ {l:List eI} {now:List eE},(nC g l now).length≤10 ^ l.length*now.length
 | [],now=>by simp[nC]
 | x::r,now=>by
  rw[nC]
  refine Nat.le_trans Jz ?_
  rw[aJ,dm,ef]
  exact dq _ y9
theorem E6{g:ey}:∀ {l:List eI} {a b:List eE},(∀ t,t∈a↔t∈b)→∀ t,t∈nC g l a↔t∈nP g l b
 | [],a,b,h,t=>h t
 | x::r,a,b,h,t=>by
  rw[nC,nP]
  refine E6 (fun t=>?_) t
  rw[D3,bn,bn]
  exact⟨fun⟨s,h1,h2⟩=>⟨s,(h s).1 h1,h2⟩,fun⟨s,h1,h2⟩=>⟨s,(h s).2 h1,h2⟩⟩
theorem Nh{g:ey}{p:Pos}{c n:Int}{o:eY}:o∈oH g p c n↔o∈o7 g p c (gt (gt g.kinds (eS (gt p.cs c))).fZ n):=by
 unfold oH o7
 rw[bR,bR]
 exact⟨fun⟨s,h1,h2⟩=>⟨s,(E6 (fun _=>cU) s).1 h1,h2⟩,fun⟨s,h1,h2⟩=>⟨s,(E6 (fun _=>cU) s).2 h1,h2⟩⟩
theorem f85(g:ey)(hg:eW g)(p:Pos)(hp:fo g p)(c n:Int)(hc:0≤c∧c<p.cs.length)(hs:gV (gt p.cs c)=p.side)(hn:0≤n∧n<(gt g.kinds (eS (gt p.cs c))).fZ.length) :
  Wf T 85 [dG g,dP p,.i c,.i n] [] (Ey (fun r:List eY=>.tup [dN 6 eY.cells r,.i 0]) fun r=>(∀ o,o∈r↔o∈o7 g p c (gt (gt g.kinds (eS (gt p.cs c))).fZ n))∧r.length≤100000000):=by
 have fO:=hp.size
 have eJ:=zO hg hp hc.1 (by omega) hs
 have nk:qT g (gt (gt g.kinds (eS (gt p.cs c))).fZ n):=(hg.fZ _ (eH eJ.kind.1 eJ.kind.2)).2 _ (eH hn.1 hn.2)
 have hlen:(oH g p c n).length≤100000000:=by
  unfold oH
  refine Nat.le_trans (cP ..) (Nat.le_trans Jz ?_)
  have:=nk.len
  have:10 ^ (gt (gt g.kinds (eS (gt p.cs c))).fZ n).length≤10 ^ 8:=bX (by decide) (by omega)
  simpa using this
 have lR:∀ o,o∈oH g p c n→Small o.p:=fun o ho=>by
  rw[Nh]at ho
  unfold o7 at ho
  rw[bR]at ho
  obtain⟨s,h1,h2⟩:=ho
  exact(C3 (Eu hg nk.steps (fun t ht=>by rw[List.mem_singleton.1 ht];exact eJ) s h1) hp.side.1 hp.side.2 h2).small hg
 refine Yg B7 ?_
 simp[B7]
 refine eU.kC rfl rfl (f121 g hg p hp c n hc hs hn) ?_
 rintro d H' ⟨rfl,rfl⟩
 have hm:=fun o=>Nh (g:=g) (p:=p) (c:=c) (n:=n) (o:=o)
 generalize oH g p c n=outs at *
 by_cases ho:outs = []
 ·subst ho
  simp
  refine eU.kC rfl rfl (Wf.wN (K:=fun d H'=>d = .tup []∧H'=_) (sz:=6) rfl ⟨rfl,rfl⟩) ?_
  rintro d H' ⟨rfl,rfl⟩
  simp
  refine eU.kC rfl rfl (PY _ _) ?_
  rintro d H' ⟨rfl,rfl⟩
  simp
  exact Ey.i [] rfl rfl ⟨hm,by simp⟩
 ·have h0:0<outs.length:=aB.2 ho
  rw[if_neg ho]
  simp
  refine eU.kC rfl rfl (Wf.sort (K:=fun d H'=>∃ l',l'.Perm outs∧d = .tup []∧H' = [.row 41 0 g.cells,.row 44 0 p.cells,.row 164 0 [.eu 3 (outs.length-1) 6 0 outs.length],.row 113 (outs.length-1) (cl eY.cells l')]) (fc:=eY.cells) outs mH rfl rfl h0 (by omega) (fun x=>CG.2 rfl) J4 Pe (fun x hx y hy=>f124 x y (lR x hx) (lR y hy)) (gen:=outs.length-1) (t:=113) (by simp) (fun l' hp hw=>⟨l',hp,rfl,by simp⟩)) ?_
  rintro d H' ⟨l',kg,rfl,rfl⟩
  simp
  refine eU.kC rfl rfl (f125 g p (outs.length-1) l' (fun o ho=>lR o ((kg.mem_iff).1 ho)) (by rw[kg.length_eq];exact h0) (by rw[kg.length_eq];omega) outs.length kg.length_eq) ?_
  rintro d H' ⟨junk,rfl,rfl⟩
  simp
  have fJ:ji l'≠[]:=fun h=>ho (by rw[Pn]at h;rw[h]at kg;exact kg.symm.eq_nil)
  refine Ey.i (ji l') (by revert fJ;cases ji l' with|nil=>intro h;exact absurd rfl h|cons a r=>intro _;rfl) rfl ⟨fun o=>by rw[xK,kg.mem_iff,hm],?_⟩
  have:=J9 l'
  have:=kg.length_eq
  omega
set_option maxRecDepth 10000
set_option maxHeartbeats 4000000
theorem f86(l:List Pos)(h:0<l.length)(h2:l.length<2 ^ 40):Wf T 86 [fh l] [] (fun d H=>d = .eu 0 1 5 0 l.length∧H = [.row 44 1 (cl Pos.cells l)]):=by
 refine Yg vg ?_
 simp[vg]
 refine oA.i (a:=.b false) (by cases l with|nil=>exact absurd h (by simp)|cons a r=>rfl) ?_
 simp
 (with_reducible repeat' first|refine Xk ?_<;>try simp|refine Xs ?_ ?_<;>intro h<;>(try intro h')<;>(try simp[h])<;>(try omega)|refine Xg ?_|omega)
theorem Qc:Wf T 86 [.U] [] (Is .U):=by
 refine Yg vg ?_
 simp[vg]
theorem qd{l:List Pos}(h:l≠[]):fh l=dN 5 Pos.cells l:=by
 cases l with
 | nil=>exact absurd rfl h
 | cons a r=>rfl
@[simp] theorem aep(l:List Pos):closed (dN 5 Pos.cells l)=true:=tE (fun a=>by simp) l
theorem Z9:iv [] = []:=aA.1 (Nat.le_zero.1 (EJ []))
theorem Z8{l:List Pos}(h:l≠[]):iv l≠[]:=fun e=>by
 obtain⟨a,r,rfl⟩:=dy h
 have:a∈iv (a::r):=pR.2 (by simp)
 rw[e]at this;cases this
theorem f48(l:List Pos)(hs:∀ p∈l,Small p)(hl:l.length<2 ^ 40):Wf T 48 [dN 5 Pos.cells l] [] (Is (dN 5 Pos.cells (iv l))):=by
 by_cases h:l = []
 ·subst h
  rw[Z9]
  show Wf T 48 [.U] [] (Is .U)
  refine Yg vf ?_
  simp[vf]
  refine Yc (Qc) ?_
  simp
  refine eU.kC rfl rfl (Wf.wN (K:=fun d H'=>d = .tup []∧H'=_) (sz:=5) rfl ⟨rfl,rfl⟩) ?_
  rintro d H' ⟨rfl,rfl⟩
  simp
  refine eU.kC rfl rfl (Qd _ _) ?_
  rintro d H' ⟨rfl,rfl⟩
  simp
 ·have h0:0<l.length:=aB.2 h
  rw[← qd h,← qd (Z8 h)]
  refine Yg vf ?_
  simp[vf]
  refine Yn (f86 l h0 hl) ?_
  simp
  refine eU.kC rfl rfl (Wf.sort (K:=fun d H'=>∃ l',l'.Perm l∧l'.Pairwise (fun x y=>¬ fG y x<0)∧d = .tup []∧H' = [.row 44 1 (cl Pos.cells l')]) (fc:=Pos.cells) l fG rfl rfl h0 hl oQ (fun x y z=>sr) Pf (fun x hx y hy=>f88 x y (hs x hx) (hs y hy)) (gen:=1) (t:=44) (by simp) (fun l' hp hw=>⟨l',hp,hw,rfl,by simp⟩)) ?_
  rintro d H' ⟨l',kg,hw,rfl,rfl⟩
  simp
  refine eU.kC rfl rfl (f89 1 l' (fun o ho=>hs o ((kg.mem_iff).1 ho)) (by rw[kg.length_eq];exact h0) (by rw[kg.length_eq];omega) l.length kg.length_eq) ?_
  rintro d H' ⟨junk,rfl,rfl⟩
  simp[Pp kg hw]
