/- 20 -/
import Derived.Test.YtnaefnajkaohgaaGreatDoorH19
set_option linter.all false
namespace Go.AL
open Go
theorem Wf.sort{T:gy}{f g:FuncId}{fn:eI}{sz v gen t:Nat}{H:U}{K:D→U→Prop}{α:Type}{fc:α→List D}[F:Fl fc sz](l:List α)(cf:α→α→Int)(hs:T.sort f=some sz)(hg:T.fn g=some fn)(h0:0<l.length)(hl:l.length<2 ^ 40)
  (zX:∀ x,cf x x=0) (tr:∀ x y z,cf x y<0→cf y z<0→cf x z<0) (nt:∀ x y z,¬ cf x y<0→¬ cf y z<0→¬ cf x z<0) (hc:∀ x∈l,∀ y∈l,Wf T g [.agg (fc x),.agg (fc y)] [] (Is (.i (cf x y)))) (hv:H[v]? = some (.row t gen (cl fc l)))
  (k:∀ l':List α,l'.Perm l→l'.Pairwise (fun x y=>¬ cf y x<0)→K (.tup []) (H.set v (.row t gen (cl fc l')))):Wf T f [.eF v gen sz 0 l.length,.fn (.func g) [] []] H K:=
 Ev.sort fc l cf hs hg (fun a _=>F.len a) (fun a _=>F.cl a) h0 (by omega) (fun x _=>by rw[zX];decide) (fun x _ y _ z _=>tr x y z) (fun x _ y _ z _=>nt x y z)
  (fun x hx y hy=>Ev.mono (hc x hx y hy) fun r ⟨d,H',e,h1,_⟩=>⟨H',by rw[e,h1]⟩) (by rw[hv,nK]) fun l' hp hw=>⟨_,_,rfl,by rw[← nK];exact k l' hp hw⟩
theorem Wf.Ar{T:gy}{f:FuncId}{sz:Nat}{x:D}{H:U}{K:D→U→Prop}(hs:T.sort f=some sz)(k:K (.tup []) H):Wf T f [.eG,x] H K:=Ev.Ar hs ⟨_,_,rfl,k⟩
section
variable{α:Type}[DecidableEq α]
def kP:List α→List α
 | []=>[]
 | [a]=>[a]
 | a::b::t=>if b=a then kP (b::t)else a::kP (b::t)
theorem GV:∀ (t:List α) (a:α),kP (a::t)=a::(kP (a::t)).tail
 | [],a=>rfl
 | b::t,a=>by
  unfold kP
  split
  ·rename_i h;subst h;exact GV t b
  ·rfl
theorem Bs{x:α}:∀ {l:List α},x∈kP l↔x∈l
 | []=>dh
 | [a]=>dh
 | a::b::t=>by
  unfold kP
  split
  ·rename_i h;subst h;rw[Bs (l:=b::t)];simp
  ·rw[au,Bs (l:=b::t),au (a:=x) (b:=a)]
theorem OC:∀ l:List α,(kP l).length≤l.length
 | []=>Nat.le_refl _
 | [a]=>Nat.le_refl _
 | a::b::t=>by
  have:=OC (b::t)
  unfold kP
  split
  ·exact Nat.le_succ_of_le this
  ·simp only[aI]at *;omega
def UK{l:List α}(h:0<l.length):0<(kP l).length:=by
 cases l with
 | nil=>simp at h
 | cons a t=>rw[GV];simp
def UJ{l:List α}:kP l = []↔l = []:=by
 constructor
 ·intro h
  rcases dH l.length with h2|h2
  ·exact aB.1 h2
  ·have:=UK h2;rw[h]at this;simp at this
 ·rintro rfl;rfl
def OD{l:List α}(h:l.length<2):kP l=l:=by
 match l,h with
 | [],_=>rfl
 | [a],_=>rfl
 | a::b::t,h=>simp at h;omega
def pe(l:List α)(m:Int):List α:=(kP (l.drop (m-1).toNat)).tail
variable [Inhabited α]{l:List α}{m:Int}
def S9(h:0<l.length):kP l=l.take 1++pe l 1:=by
 cases l with
 | nil=>simp at h
 | cons a t=>exact GV t a
def Jq(h:m=l.length)(h0:1≤m:=by omega):pe l m = []:=by
 unfold pe
 rw[lQ (by omega) (by omega),dt (by omega)]
 rfl
def Jr(h0:1≤m)(h:m<l.length)(e:gt l m=gt l (m-1)):pe l m=pe l (m+1):=by
 unfold pe
 rw[lQ (n:=m-1) (by omega) (by omega),show(m-1).toNat+1=m.toNat by omega,lQ (n:=m) (by omega) h,kP,if_pos e,Int.add_sub_cancel,lQ (n:=m) (by omega) h]
def Js(h0:1≤m)(h:m<l.length)(e:gt l m≠gt l (m-1)):pe l m=gt l m::pe l (m+1):=by
 unfold pe
 rw[lQ (n:=m-1) (by omega) (by omega),show(m-1).toNat+1=m.toNat by omega,lQ (n:=m) (by omega) h,kP,if_neg e,Int.add_sub_cancel,lQ (n:=m) (by omega) h]
 exact GV _ _
end
theorem JY:∀ {l:List Pos},l.Pairwise (fun x y=>gC x y≤0)→(kP l).Pairwise fun x y=>gC x y<0
 | [],_=>.nil
 | [a],_=>by simp[kP]
 | a::b::t,h=>by
  have h1:=aN.1 h
  have h2:=aN.1 h1.2
  unfold kP
  split
  ·exact JY h1.2
  ·rename_i hn
   refine aN.2 ⟨fun x hx=>?_,JY h1.2⟩
   rw[Bs]at hx
   have h3:=h1.1 x hx
   by_cases h4:gC a x=0
   ·have e:=px.1 h4
    subst e
    rcases au.1 hx with e|hx
    ·exact absurd e.symm hn
    ·have h5:=h2.1 _ hx
     have h6:=h1.1 b (by simp)
     have h7:=sj a b
     exact absurd (px.1 (show gC a b=0 by omega)).symm hn
   ·omega
def UL{l l':List Pos}(hp:l'.Perm l)(hw:l'.Pairwise fun x y=>¬ gC y x<0):kP l'=jy l:=
 S2 (jM.of (JY (hw.imp fun{x y} h=>by have:=sj x y;omega))) fun q=>by rw[Bs,hp.mem_iff]
def UD(x y z:Pos)(h1:¬ gC x y<0)(h2:¬ gC y z<0):¬ gC x z<0:=by
 have a:=sj x y;have b:=sj y z;have c:=sj x z
 have:=Oy (p:=z) (q:=y) (r:=x) (by omega) (by omega)
 omega
def b2(b:Bool):Int:=if b then 1 else 0
def pv(a b:fD):Int:=mf [gC a.p b.p,jK (b2 a.iL) (b2 b.iL)]
def TT{a b:Bool}(h:b2 a=b2 b):a=b:=by revert h;cases a<;>cases b<;>simp[b2]
def GU{a b:fD}:pv a b=0↔a=b:=by
 unfold pv
 rw[Km]
 simp only[au,cZ,or_false,forall_eq_or_imp,forall_eq,px,u3]
 constructor
 ·rintro⟨h1,h2⟩;have:=TT h2;cases a;cases b;simp_all
 ·rintro rfl;exact⟨rfl,rfl⟩
def JW(a b:fD):pv b a = - pv a b:=by
 unfold pv mf
 rw[sj a.p b.p,II (b2 a.iL)]
 simp only[mf]
 (repeat' split)<;>omega
def Ox(x y z:fD):pv x y<0→pv y z<0→pv x z<0:=by
 unfold pv
 refine xn (fun h=>by rw[px.1 h]) (fun h=>by rw[px.1 h]) vE (xn (fun h=>by rw[u3.1 h]) (fun h=>by rw[u3.1 h]) (by simp only[Ab];omega) fun h=>?_)
 simp[mf]at h
def UC(x y z:fD)(h1:¬ pv x y<0)(h2:¬ pv y z<0):¬ pv x z<0:=by
 have a:=JW x y;have b:=JW y z;have c:=JW x z
 by_cases e1:pv x y=0
 ·rw[GU.1 e1];exact h2
 ·by_cases e2:pv y z=0
  ·rw[← GU.1 e2];exact h1
  ·have:=Ox z y x (by omega) (by omega)
   omega
theorem Oh{sz:Nat}:∀ (n:Nat) (a b:List D),a.length=n*sz→chunks sz n (a++b)=chunks sz n a
 | 0,_,_,_=>rfl
 | n+1,a,b,h=>by
  rw[bS]at h
  simp only[chunks]
  rw[bf (by omega),dB (by omega),Oh n (a.drop sz) b (by simp;omega)]
@[simp] theorem alS{α:Type}{f:α→List D}{sz:Nat}[F:Fl f sz]{ρ:Nat→Option Nat}{H:U}{k n:Nat}{t:TypeId}{l:List α}{b:List D}(h:n=l.length):ng ρ H (k+1) sz 0 n (some (t,cl f l++b)) = .sl sz (l.map f):=by
 subst h
 unfold ng
 dsimp only
 rw[ay,xa,aU,if_pos (by omega),cw,ew,List.map_append,Jg (sh l),Oh _ _ _ (by simp),nK,JU F.len]
@[irreducible] def Hw{α:Type}[Inhabited α](l:List α)(n:Nat):α:=gt l (n:Int)
theorem zp{α:Type}[Inhabited α]{l:List α}{n:Nat}{m:Int}(h:(n:Int)=m):Hw l n=gt l m:=by unfold Hw;rw[h]
@[simp] theorem amU{α:Type}[Inhabited α]{f:α→List D}{sz:Nat}[F:Fl f sz]{l:List α}{t:TypeId}{n:Nat}(hz:0<sz):tI sz (n*sz) (some (t,cl f l))=if n<l.length then some (.agg (f (Hw l n)))else none:=by
 have:=Z2 (f:=f) (l:=l) (t:=t) (n:=(n:Int)) hz
 rw[dQ]at this
 rw[this];unfold Hw;rfl
@[simp] theorem ak5(sz v g off len:Nat)(z:List D)(H:U):Bp sz z (.eF v g sz off len) H=(rowAt H v g).bind fun p=>if (off+len)*sz≤p.2.length then some (.any,.obj v (.row p.1 g (p.2.take (off*sz)++(List.replicate len z).flatten++p.2.drop ((off+len)*sz))))else none:=by
 simp only[Bp]
 cases rowAt H v g<;>simp
def Ta{α:Type}{l:List α}{n:Int}{v:α}(h0:0≤n)(h:n<l.length:=by omega):(pt l n v).take (n+1).toNat=l.take n.toNat ++ [v]:=by
 have e:(l.take n.toNat).length=n.toNat:=by rw[aT];omega
 rw[pt,List.take_append,e,show(n+1).toNat-n.toNat=1 by omega,aC (by omega)]
 rfl
end Go.AL
namespace Go.Proofs.YtnaefnajkaohgaaGreatDoor
open Go Go.AL Classical
set_option maxRecDepth 10000
set_option maxHeartbeats 4000000
def f124(a b:fD)(ha:Small a.p)(hb:Small b.p):Wf T 124 [.agg a.cells,.agg b.cells] [] (Is (.i (pv a b))):=by
 obtain⟨p,u⟩:=a
 obtain⟨q,v⟩:=b
 cases u<;>cases v
 ·refine Yg sX ?_
  simp[sX,fD.cells]
  refine gQ.c rfl rfl (f88 p q ha hb) (by simp) (by simp) ?_
  simp
  refine gQ.c rfl rfl (f131 _ _) (by simp) (by simp) ?_
  simp
  refine gQ.r rfl rfl (f129 [gC p q,jK 0 0] (by simp)) (by simp) (by simp[flat]) (by simp) ?_
  simp
  rfl
 ·refine Yg sX ?_
  simp[sX,fD.cells]
  refine gQ.c rfl rfl (f88 p q ha hb) (by simp) (by simp) ?_
  simp
  refine gQ.c rfl rfl (f131 _ _) (by simp) (by simp) ?_
  simp
  refine gQ.r rfl rfl (f129 [gC p q,jK 0 1] (by simp)) (by simp) (by simp[flat]) (by simp) ?_
  simp
  rfl
 ·refine Yg sX ?_
  simp[sX,fD.cells]
  refine gQ.c rfl rfl (f88 p q ha hb) (by simp) (by simp) ?_
  simp
  refine gQ.c rfl rfl (f131 _ _) (by simp) (by simp) ?_
  simp
  refine gQ.r rfl rfl (f129 [gC p q,jK 1 0] (by simp)) (by simp) (by simp[flat]) (by simp) ?_
  simp
  rfl
 ·refine Yg sX ?_
  simp[sX,fD.cells]
  refine gQ.c rfl rfl (f88 p q ha hb) (by simp) (by simp) ?_
  simp
  refine gQ.c rfl rfl (f131 _ _) (by simp) (by simp) ?_
  simp
  refine gQ.r rfl rfl (f129 [gC p q,jK 1 1] (by simp)) (by simp) (by simp[flat]) (by simp) ?_
  simp
  rfl
def f126(a b:fD)(ha:Small a.p)(hb:Small b.p):Wf T 126 [.agg a.cells,.agg b.cells] [] (Is (.b (decide (a=b)))):=by
 refine Yg D2 ?_
 simp[D2,fD.cells]
 refine fg.c rfl rfl (f124 a b ha hb) (by simp) (by simp) ?_
 simp[GU]
def f90(a b:Pos)(ha:Small a)(hb:Small b):Wf T 90 [.agg a.cells,.agg b.cells] [] (Is (.b (decide (a=b)))):=by
 refine Yg Gf ?_
 simp[Gf]
 refine fg.c rfl rfl (f88 a b ha hb) (by simp) (by simp) ?_
 simp[px]
def f89(gen:Nat)(l:List Pos)(hs:∀ p∈l,Small p)(h0:0<l.length)(hl:l.length<2 ^ 40)(n:Nat)(hn:l.length=n):Wf T 89 [.eF 0 gen 5 0 n,.fn (.func 90) [] []] [.row 44 gen (cl Pos.cells l)]
  (fun d H'=>∃ junk,d = .eF 0 gen 5 0 (kP l).length∧H' = [.row 44 gen (cl Pos.cells (kP l)++junk)]):=by
 subst hn
 refine Yg yX ?_
 simp[yX]
 by_cases h1:(l.length:Int)<2
 ·have e:=OD (l:=l) (by omega)
  simp[h1,e]
 ·simp[h1]
  refine eN.e (1:Int) (fun y=>[(0,.eF 0 gen 5 0 l.length),(1,.fn (.func 90) [] []),(5,.i y)]) (fun y=>[.row 44 gen (cl Pos.cells l)]) (fun y=>1≤y∧y≤l.length∧kP l=l.take y.toNat++pe l y) (fun y=>(l.length-y).toNat) ?_ ?_
  ·simp
   exact⟨by omega,by rw[S9 h0]⟩
  rintro y ⟨y0,y1,y2⟩
  by_cases hy:y<l.length
  ·simp[hy,zp (l:=l) (n:=y.toNat-1) (m:=y-1) (by omega)]
   (with_reducible repeat' first|refine Xk ?_<;>try simp|refine Xs ?_ ?_<;>intro h<;>(try intro h')<;>(try simp[h])<;>try omega|refine Xg ?_|omega)
   refine gQ.c rfl rfl (f90 (gt l y) (gt l (y-1)) (hs _ (eQ (by omega) hy)) (hs _ (eQ (by omega) (by omega)))) (by simp) (by simp) ?_
   simp
   by_cases he:gt l y=gt l (y-1)
   ·simp[he]
    (with_reducible repeat' first|refine Xk ?_<;>try simp|refine Xs ?_ ?_<;>intro h<;>(try intro h')<;>(try simp[h])<;>try omega|refine Xg ?_|omega)
    refine eN.e ((1,y,l):Int×Int×List Pos) (fun x=>[(0,.eF 0 gen 5 0 l.length),(1,.fn (.func 90) [] []),(5,.i x.2.1),(6,.eF 0 gen 5 y.toNat (l.length-y.toNat)),(7,.i x.1)]) (fun x=>[.row 44 gen (cl Pos.cells x.2.2)]) (fun x=>1≤x.1∧y+x.1≤l.length∧1≤x.2.1∧x.2.1<y+x.1∧x.2.2.length=l.length∧(∀ j:Int,y+x.1-1≤j→gt x.2.2 j=gt l j)∧kP l=x.2.2.take x.2.1.toNat++pe l (y+x.1)) (fun x=>(l.length-(y+x.1)).toNat) ?_ ?_
    ·simp
     exact⟨by omega,y0,by omega,by rw[y2,Jr y0 hy he]⟩
    rintro⟨k,i,cur⟩ ⟨k0,k1,i0,i1,c0,c1,c2⟩
    dsimp only at k0 k1 i0 i1 c0 c1 c2 ⊢
    by_cases hk:y+k<l.length
    ·have e1:gt cur (y+k)=gt l (y+k):=c1 _ (by omega)
     have e2:gt cur (y+k-1)=gt l (y+k-1):=c1 _ (by omega)
     have g1:=zp (l:=cur) (n:=y.toNat+k.toNat) (m:=y+k) (by omega)
     have g2:=zp (l:=cur) (n:=y.toNat+(k.toNat-1)) (m:=y+k-1) (by omega)
     simp[show k<((l.length-y.toNat:Nat):Int)by omega,g1,g2,e1,e2,c0]
     (with_reducible repeat' first|refine Xk ?_<;>try simp|refine Xs ?_ ?_<;>intro h<;>(try intro h')<;>(try simp[h])<;>try omega|refine Xg ?_|omega)
     refine gQ.c rfl rfl (f90 (gt l (y+k)) (gt l (y+k-1)) (hs _ (eQ (by omega) hk)) (hs _ (eQ (by omega) (by omega)))) (by simp) (by simp) ?_
     simp
     by_cases oj:gt l (y+k)=gt l (y+k-1)
     ·simp[oj]
      (with_reducible repeat' first|refine Xk ?_<;>try simp|refine Xs ?_ ?_<;>intro h<;>(try intro h')<;>(try simp[h])<;>try omega|refine Xg ?_|omega)
      refine LJ.e (k+1,i,cur) ?_
      refine⟨by dsimp only;omega,by dsimp only;omega,by dsimp only;omega,i0,by dsimp only;omega,c0,fun j hj=>c1 j (by dsimp only at hj;omega),?_⟩
      dsimp only
      rw[c2,Jr (by omega) hk oj,cp]
     ·simp[oj,g1,e1,c0]
      (with_reducible repeat' first|refine Xk ?_<;>try simp[g1,e1,c0]|refine Xs ?_ ?_<;>intro h<;>(try intro h')<;>(try simp[h,g1,e1,c0])<;>try omega|refine Xg ?_|omega)
      have gq:=GO (f:=Pos.cells) cur i (by omega) (gt l (y+k))
      refine LJ.i (k+1,i+1,pt cur i (gt l (y+k))) (by first|rfl|simp) (by dsimp only;rw[← gq];rfl) rfl rfl ?_
      refine⟨by dsimp only;omega,by dsimp only;omega,by dsimp only;omega,by dsimp only;omega,by dsimp only;omega,by dsimp only;rw[gN (by omega) (by omega)];exact c0,fun j hj=>?_,?_⟩
      ·dsimp only at hj ⊢
       rw[Hv (by omega)]
       exact c1 j (by omega)
      ·dsimp only
       rw[Ta (by omega),c2,Js (by omega) hk oj,cp]
       simp
    ·have e:pe l (y+k) = []:=Jq (by omega)
     rw[e,aw]at c2
     simp[show ¬ k<((l.length-y.toNat:Nat):Int)by omega,c0]
     (with_reducible repeat' first|refine Xk ?_<;>try simp|refine Xs ?_ ?_<;>intro h<;>(try intro h')<;>(try simp[h])<;>try omega|refine Xg ?_|omega)
     exact⟨by rw[c2];simp;omega,_,by rw[tf,c2]⟩
   ·simp[he]
    (with_reducible repeat' first|refine Xk ?_<;>try simp|refine Xs ?_ ?_<;>intro h<;>(try intro h')<;>(try simp[h])<;>try omega|refine Xg ?_|omega)
    refine LJ.e (y+1) ?_
    refine eY ?_
    rw[y2,Js y0 hy he,gx (by omega) hy]
    simp
  ·have e:pe l y = []:=Jq (by omega) y0
   rw[e,aw,jh (by omega)]at y2
   simp[hy]
   exact⟨by rw[y2],[],by rw[y2];simp⟩
def f125(g:eH)(p0:Pos)(gen:Nat)(l:List fD)(hs:∀ p∈l,Small p.p)(h0:0<l.length)(hl:l.length<2 ^ 40)(n:Nat)(hn:l.length=n):Wf T 125 [.eF 3 gen 6 0 n,.fn (.func 126) [] []] [.row 41 0 g.cells,.row 44 0 p0.cells,.row 164 0 [.eF 3 gen 6 0 n],.row 113 gen (cl fD.cells l)]
  (fun d H'=>∃ junk,d = .eF 3 gen 6 0 (kP l).length∧H' = [.row 41 0 g.cells,.row 44 0 p0.cells,.row 164 0 [.eF 3 gen 6 0 n],.row 113 gen (cl fD.cells (kP l)++junk)]):=by
 subst hn
 refine Yg yI ?_
 simp[yI]
 by_cases h1:(l.length:Int)<2
 ·have e:=OD (l:=l) (by omega)
  simp[h1,e]
 ·simp[h1]
  refine eN.e (1:Int) (fun y=>[(0,.eF 3 gen 6 0 l.length),(1,.fn (.func 126) [] []),(5,.i y)]) (fun y=>[.row 41 0 g.cells,.row 44 0 p0.cells,.row 164 0 [.eF 3 gen 6 0 l.length],.row 113 gen (cl fD.cells l)]) (fun y=>1≤y∧y≤l.length∧kP l=l.take y.toNat++pe l y) (fun y=>(l.length-y).toNat) ?_ ?_
  ·simp
   exact⟨by omega,by rw[S9 h0]⟩
  rintro y ⟨y0,y1,y2⟩
  by_cases hy:y<l.length
  ·simp[hy,zp (l:=l) (n:=y.toNat-1) (m:=y-1) (by omega)]
   (with_reducible repeat' first|refine Xk ?_<;>try simp|refine Xs ?_ ?_<;>intro h<;>(try intro h')<;>(try simp[h])<;>try omega|refine Xg ?_|omega)
   refine gQ.c rfl rfl (f126 (gt l y) (gt l (y-1)) (hs _ (eQ (by omega) hy)) (hs _ (eQ (by omega) (by omega)))) (by simp) (by simp) ?_
   simp
   by_cases he:gt l y=gt l (y-1)
   ·simp[he]
    (with_reducible repeat' first|refine Xk ?_<;>try simp|refine Xs ?_ ?_<;>intro h<;>(try intro h')<;>(try simp[h])<;>try omega|refine Xg ?_|omega)
    refine eN.e ((1,y,l):Int×Int×List fD) (fun x=>[(0,.eF 3 gen 6 0 l.length),(1,.fn (.func 126) [] []),(5,.i x.2.1),(6,.eF 3 gen 6 y.toNat (l.length-y.toNat)),(7,.i x.1)]) (fun x=>[.row 41 0 g.cells,.row 44 0 p0.cells,.row 164 0 [.eF 3 gen 6 0 l.length],.row 113 gen (cl fD.cells x.2.2)]) (fun x=>1≤x.1∧y+x.1≤l.length∧1≤x.2.1∧x.2.1<y+x.1∧x.2.2.length=l.length∧(∀ j:Int,y+x.1-1≤j→gt x.2.2 j=gt l j)∧kP l=x.2.2.take x.2.1.toNat++pe l (y+x.1)) (fun x=>(l.length-(y+x.1)).toNat) ?_ ?_
    ·simp
     exact⟨by omega,y0,by omega,by rw[y2,Jr y0 hy he]⟩
    rintro⟨k,i,cur⟩ ⟨k0,k1,i0,i1,c0,c1,c2⟩
    dsimp only at k0 k1 i0 i1 c0 c1 c2 ⊢
    by_cases hk:y+k<l.length
    ·have e1:gt cur (y+k)=gt l (y+k):=c1 _ (by omega)
     have e2:gt cur (y+k-1)=gt l (y+k-1):=c1 _ (by omega)
     have g1:=zp (l:=cur) (n:=y.toNat+k.toNat) (m:=y+k) (by omega)
     have g2:=zp (l:=cur) (n:=y.toNat+(k.toNat-1)) (m:=y+k-1) (by omega)
     simp[show k<((l.length-y.toNat:Nat):Int)by omega,g1,g2,e1,e2,c0]
     (with_reducible repeat' first|refine Xk ?_<;>try simp|refine Xs ?_ ?_<;>intro h<;>(try intro h')<;>(try simp[h])<;>try omega|refine Xg ?_|omega)
     refine gQ.c rfl rfl (f126 (gt l (y+k)) (gt l (y+k-1)) (hs _ (eQ (by omega) hk)) (hs _ (eQ (by omega) (by omega)))) (by simp) (by simp) ?_
     simp
     by_cases oj:gt l (y+k)=gt l (y+k-1)
     ·simp[oj]
      (with_reducible repeat' first|refine Xk ?_<;>try simp|refine Xs ?_ ?_<;>intro h<;>(try intro h')<;>(try simp[h])<;>try omega|refine Xg ?_|omega)
      refine LJ.e (k+1,i,cur) ?_
      refine⟨by dsimp only;omega,by dsimp only;omega,by dsimp only;omega,i0,by dsimp only;omega,c0,fun j hj=>c1 j (by dsimp only at hj;omega),?_⟩
      dsimp only
      rw[c2,Jr (by omega) hk oj,cp]
     ·simp[oj,g1,e1,c0]
      (with_reducible repeat' first|refine Xk ?_<;>try simp[g1,e1,c0]|refine Xs ?_ ?_<;>intro h<;>(try intro h')<;>(try simp[h,g1,e1,c0])<;>try omega|refine Xg ?_|omega)
      have gq:=GO (f:=fD.cells) cur i (by omega) (gt l (y+k))
      refine LJ.i (k+1,i+1,pt cur i (gt l (y+k))) (by first|rfl|simp) (by dsimp only;rw[← gq];rfl) rfl rfl ?_
      refine⟨by dsimp only;omega,by dsimp only;omega,by dsimp only;omega,by dsimp only;omega,by dsimp only;omega,by dsimp only;rw[gN (by omega) (by omega)];exact c0,fun j hj=>?_,?_⟩
      ·dsimp only at hj ⊢
       rw[Hv (by omega)]
       exact c1 j (by omega)
      ·dsimp only
       rw[Ta (by omega),c2,Js (by omega) hk oj,cp]
       simp
    ·have e:pe l (y+k) = []:=Jq (by omega)
     rw[e,aw]at c2
     simp[show ¬ k<((l.length-y.toNat:Nat):Int)by omega,c0]
     (with_reducible repeat' first|refine Xk ?_<;>try simp|refine Xs ?_ ?_<;>intro h<;>(try intro h')<;>(try simp[h])<;>try omega|refine Xg ?_|omega)
     exact⟨by rw[c2];simp;omega,_,by rw[tf,c2]⟩
   ·simp[he]
    (with_reducible repeat' first|refine Xk ?_<;>try simp|refine Xs ?_ ?_<;>intro h<;>(try intro h')<;>(try simp[h])<;>try omega|refine Xg ?_|omega)
    refine LJ.e (y+1) ?_
    refine eY ?_
    rw[y2,Js y0 hy he,gx (by omega) hy]
    simp
  ·have e:pe l y = []:=Jq (by omega) y0
   rw[e,aw,jh (by omega)]at y2
   simp[hy]
   exact⟨by rw[y2],[],by rw[y2];simp⟩
def Vr(x:D)(H:U):Wf T 125 [.eG,x] H (fun d H'=>d = .eG∧H'=H):=by
 refine Yg yI ?_
 simp[yI]
def VV(x:D)(H:U):Wf T 89 [.eG,x] H (fun d H'=>d = .eG∧H'=H):=by
 refine Yg yX ?_
 simp[yX]
theorem NV{g:eH}:∀ {l:List eO} {now:List eU},(qd g l now).length≤10 ^ l.length*now.length
 | [],now=>by simp[qd]
 | x::r,now=>by
  rw[qd]
  refine Nat.le_trans NV ?_
  rw[aI,dA,eD]
  exact dC _ CT
theorem JD{g:eH}:∀ {l:List eO} {a b:List eU},(∀ t,t∈a↔t∈b)→∀ t,t∈qd g l a↔t∈qy g l b
 | [],a,b,h,t=>h t
 | x::r,a,b,h,t=>by
  rw[qd,qy]
  refine JD (fun t=>?_) t
  rw[IF,bz,bz]
  exact⟨fun⟨s,h1,h2⟩=>⟨s,(h s).1 h1,h2⟩,fun⟨s,h1,h2⟩=>⟨s,(h s).2 h1,h2⟩⟩
def R8{g:eH}{p:Pos}{c n:Int}{o:fD}:o∈q9 g p c n↔o∈rS g p c (gt (gt g.kinds (fm (gt p.cs c))).gT n):=by
 unfold q9 rS
 rw[b8,b8]
 exact⟨fun⟨s,h1,h2⟩=>⟨s,(JD (fun _=>dh) s).1 h1,h2⟩,fun⟨s,h1,h2⟩=>⟨s,(JD (fun _=>dh) s).2 h1,h2⟩⟩
def f85(g:eH)(hg:fe g)(p:Pos)(hp:fO g p)(c n:Int)(hc:0≤c∧c<p.cs.length)(hs:iU (gt p.cs c)=p.side)(hn:0≤n∧n<(gt g.kinds (fm (gt p.cs c))).gT.length) :
  Wf T 85 [dG g,dP p,.i c,.i n] [] (Ey (fun r:List fD=>.tup [dN 6 fD.cells r,.i 0]) fun r=>(∀ o,o∈r↔o∈rS g p c (gt (gt g.kinds (fm (gt p.cs c))).gT n))∧r.length≤100000000):=by
 have gH:=hp.size
 have eX:=Du hg hp hc.1 (by omega) hs
 have nQ:ui g (gt (gt g.kinds (fm (gt p.cs c))).gT n):=(hg.gT _ (eQ eX.kind.1 eX.kind.2)).2 _ (eQ hn.1 hn.2)
 have hlen:(q9 g p c n).length≤100000000:=by
  unfold q9
  refine Nat.le_trans (dg ..) (Nat.le_trans NV ?_)
  have:=nQ.len
  have:10 ^ (gt (gt g.kinds (fm (gt p.cs c))).gT n).length≤10 ^ 8:=cm (by decide) (by omega)
  simpa using this
 have kz:∀ o,o∈q9 g p c n→Small o.p:=fun o ho=>by
  rw[R8]at ho
  unfold rS at ho
  rw[b8]at ho
  obtain⟨s,h1,h2⟩:=ho
  exact(Hi (I9 hg nQ.steps (fun t ht=>by rw[List.mem_singleton.1 ht];exact eX) s h1) hp.side.1 hp.side.2 h2).small hg
 refine Yg Gd ?_
 simp[Gd]
 refine fg.lK rfl rfl (f121 g hg p hp c n hc hs hn) ?_
 rintro d H' ⟨rfl,rfl⟩
 have hm:=fun o=>R8 (g:=g) (p:=p) (c:=c) (n:=n) (o:=o)
 generalize q9 g p c n=outs at *
 by_cases ho:outs = []
 ·subst ho
  simp
  refine fg.lK rfl rfl (Wf.Ar (K:=fun d H'=>d = .tup []∧H'=_) (sz:=6) rfl ⟨rfl,rfl⟩) ?_
  rintro d H' ⟨rfl,rfl⟩
  simp
  refine fg.lK rfl rfl (Vr _ _) ?_
  rintro d H' ⟨rfl,rfl⟩
  simp
  exact Ey.i [] rfl rfl ⟨hm,by simp⟩
 ·have h0:0<outs.length:=az.2 ho
  rw[if_neg ho]
  simp
  refine fg.lK rfl rfl (Wf.sort (K:=fun d H'=>∃ l',l'.Perm outs∧d = .tup []∧H' = [.row 41 0 g.cells,.row 44 0 p.cells,.row 164 0 [.eF 3 (outs.length-1) 6 0 outs.length],.row 113 (outs.length-1) (cl fD.cells l')]) (fc:=fD.cells) outs pv rfl rfl h0 (by omega) (fun x=>GU.2 rfl) Ox UC (fun x hx y hy=>f124 x y (kz x hx) (kz y hy)) (gen:=outs.length-1) (t:=113) (by simp) (fun l' hp hw=>⟨l',hp,rfl,by simp⟩)) ?_
  rintro d H' ⟨l',mi,rfl,rfl⟩
  simp
  refine fg.lK rfl rfl (f125 g p (outs.length-1) l' (fun o ho=>kz o ((mi.mem_iff).1 ho)) (by rw[mi.length_eq];exact h0) (by rw[mi.length_eq];omega) outs.length mi.length_eq) ?_
  rintro d H' ⟨junk,rfl,rfl⟩
  simp
  have gw:kP l'≠[]:=fun h=>ho (by rw[UJ]at h;rw[h]at mi;exact mi.symm.eq_nil)
  refine Ey.i (kP l') (by revert gw;cases kP l' with|nil=>intro h;exact absurd rfl h|cons a r=>intro _;rfl) rfl ⟨fun o=>by rw[Bs,mi.mem_iff,hm],?_⟩
  have:=OC l'
  have:=mi.length_eq
  omega
def f86(l:List Pos)(h:0<l.length)(h2:l.length<2 ^ 40):Wf T 86 [e7 l] [] (fun d H=>d = .eF 0 1 5 0 l.length∧H = [.row 44 1 (cl Pos.cells l)]):=by
 refine Yg yW ?_
 simp[yW]
 refine oA.i (a:=.b false) (by cases l with|nil=>exact absurd h (by simp)|cons a r=>rfl) ?_
 simp
 (with_reducible repeat' first|refine Xk ?_<;>try simp|refine Xs ?_ ?_<;>intro h<;>(try intro h')<;>(try simp[h])<;>try omega|refine Xg ?_|omega)
def VU:Wf T 86 [.eG] [] (Is .eG):=by
 refine Yg yW ?_
 simp[yW]
def th{l:List Pos}(h:l≠[]):e7 l=dN 5 Pos.cells l:=by
 cases l with
 | nil=>exact absurd rfl h
 | cons a r=>rfl
@[simp] theorem akO(l:List Pos):closed (dN 5 Pos.cells l)=true:=xb (fun a=>by simp) l
theorem agu:jy [] = []:=aB.1 (Nat.le_zero.1 (Jk []))
def agt{l:List Pos}(h:l≠[]):jy l≠[]:=fun e=>by
 obtain⟨a,r,rfl⟩:=dM h
 have:a∈jy (a::r):=sO.2 (by simp)
 rw[e]at this;cases this
def f48(l:List Pos)(hs:∀ p∈l,Small p)(hl:l.length<2 ^ 40):Wf T 48 [dN 5 Pos.cells l] [] (Is (dN 5 Pos.cells (jy l))):=by
 by_cases h:l = []
 ·subst h
  rw[agu]
  show Wf T 48 [.eG] [] (Is .eG)
  refine Yg yV ?_
  simp[yV]
  refine Yc (VU) ?_
  simp
  refine fg.lK rfl rfl (Wf.Ar (K:=fun d H'=>d = .tup []∧H'=_) (sz:=5) rfl ⟨rfl,rfl⟩) ?_
  rintro d H' ⟨rfl,rfl⟩
  simp
  refine fg.lK rfl rfl (VV _ _) ?_
  rintro d H' ⟨rfl,rfl⟩
  simp
 ·have h0:0<l.length:=az.2 h
  rw[← th h,← th (agt h)]
  refine Yg yV ?_
  simp[yV]
  refine Yn (f86 l h0 hl) ?_
  simp
  refine fg.lK rfl rfl (Wf.sort (K:=fun d H'=>∃ l',l'.Perm l∧l'.Pairwise (fun x y=>¬ gC y x<0)∧d = .tup []∧H' = [.row 44 1 (cl Pos.cells l')]) (fc:=Pos.cells) l gC rfl rfl h0 hl rv (fun x y z=>vE) UD (fun x hx y hy=>f88 x y (hs x hx) (hs y hy)) (gen:=1) (t:=44) (by simp) (fun l' hp hw=>⟨l',hp,hw,rfl,by simp⟩)) ?_
  rintro d H' ⟨l',mi,hw,rfl,rfl⟩
  simp
  refine fg.lK rfl rfl (f89 1 l' (fun o ho=>hs o ((mi.mem_iff).1 ho)) (by rw[mi.length_eq];exact h0) (by rw[mi.length_eq];omega) l.length mi.length_eq) ?_
  rintro d H' ⟨junk,rfl,rfl⟩
  simp[UL mi hw]
