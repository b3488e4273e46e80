/- Part 23 of DisputeLocal. -/
import Derived.Test.YtmehofoficaelaaGreatDoorL22
set_option linter.all false
namespace Go.AL
open Go
theorem Wf.sort{T:gP}{f g:FuncId}{fn:eV}{sz v gen t:Nat}{H:U}{K:D→U→Prop}{α:Type}{fc:α→List D}[F:Fl fc sz](l:List α)(cf:α→α→Int)(hs:T.sort f=some sz)(hg:T.fn g=some fn)(h0:0<l.length)(hl:l.length<2 ^ 40)
  (zZ:∀ x,cf x x=0) (tr:∀ x y z,cf x y<0→cf y z<0→cf x z<0) (nt:∀ x y z,¬ cf x y<0→¬ cf y z<0→¬ cf x z<0) (hc:∀ x∈l,∀ y∈l,Wf T g [.agg (fc x),.agg (fc y)] [] (Is (.i (cf x y)))) (hv:H[v]? = some (.row t gen (cl fc l)))
  (k:∀ l':List α,l'.Perm l→l'.Pairwise (fun x y=>¬ cf y x<0)→K (.tup []) (H.set v (.row t gen (cl fc l')))):Wf T f [.eX v gen sz 0 l.length,.fn (.func g) [] []] H K:=
 Ev.sort fc l cf hs hg (fun a _=>F.len a) (fun a _=>F.cl a) h0 (by omega) (fun x _=>by rw[zZ];decide) (fun x _ y _ z _=>tr x y z) (fun x _ y _ z _=>nt x y z)
  (fun x hx y hy=>Ev.mono (hc x hx y hy) fun r ⟨d,H',e,h1,_⟩=>⟨H',by rw[e,h1]⟩) (by rw[hv,nI]) fun l' hp hw=>⟨_,_,rfl,by rw[← nI];exact k l' hp hw⟩
theorem Wf.Ar{T:gP}{f:FuncId}{sz:Nat}{x:D}{H:U}{K:D→U→Prop}(hs:T.sort f=some sz)(k:K (.tup []) H):Wf T f [.eU,x] H K:=Ev.Ar hs ⟨_,_,rfl,k⟩
section
variable{α:Type}[DecidableEq α]
def kU:List α→List α
 | []=>[]
 | [a]=>[a]
 | a::b::t=>if b=a then kU (b::t)else a::kU (b::t)
theorem GG:∀ (t:List α) (a:α),kU (a::t)=a::(kU (a::t)).tail
 | [],a=>rfl
 | b::t,a=>by
  unfold kU
  split
  ·rename_i h;subst h;exact GG t b
  ·rfl
theorem Bm{x:α}:∀ {l:List α},x∈kU l↔x∈l
 | []=>dC
 | [a]=>dC
 | a::b::t=>by
  unfold kU
  split
  ·rename_i h;subst h;rw[Bm (l:=b::t)];simp
  ·rw[av,Bm (l:=b::t),av (a:=x) (b:=a)]
theorem O2:∀ l:List α,(kU l).length≤l.length
 | []=>Nat.le_refl _
 | [a]=>Nat.le_refl _
 | a::b::t=>by
  have:=O2 (b::t)
  unfold kU
  split
  ·exact Nat.le_succ_of_le this
  ·simp only[aO]at *;omega
def Va{l:List α}(h:0<l.length):0<(kU l).length:=by
 cases l with
 | nil=>simp at h
 | cons a t=>rw[GG];simp
def U'{l:List α}:kU l = []↔l = []:=by
 constructor
 ·intro h
  rcases dS l.length with h2|h2
  ·exact aB.1 h2
  ·have:=Va h2;rw[h]at this;simp at this
 ·rintro rfl;rfl
def O3{l:List α}(h:l.length<2):kU l=l:=by
 match l,h with
 | [],_=>rfl
 | [a],_=>rfl
 | a::b::t,h=>simp at h;omega
def o7(l:List α)(m:Int):List α:=(kU (l.drop (m-1).toNat)).tail
variable [Inhabited α]{l:List α}{m:Int}
def Tt(h:0<l.length):kU l=l.take 1++o7 l 1:=by
 cases l with
 | nil=>simp at h
 | cons a t=>exact GG t a
def I1(h:m=l.length)(h0:1≤m):o7 l m = []:=by
 unfold o7
 rw[mM (by omega) (by omega),bL (by omega)]
 rfl
def I2(h0:1≤m)(h:m<l.length)(e:gt l m=gt l (m-1)):o7 l m=o7 l (m+1):=by
 unfold o7
 rw[mM (n:=m-1) (by omega) (by omega),show(m-1).toNat+1=m.toNat by omega,mM (n:=m) (by omega) h,kU,if_pos e,de,mM (n:=m) (by omega) h]
def I3(h0:1≤m)(h:m<l.length)(e:gt l m≠gt l (m-1)):o7 l m=gt l m::o7 l (m+1):=by
 unfold o7
 rw[mM (n:=m-1) (by omega) (by omega),show(m-1).toNat+1=m.toNat by omega,mM (n:=m) (by omega) h,kU,if_neg e,de,mM (n:=m) (by omega) h]
 exact GG _ _
end
theorem JH:∀ {l:List Pos},l.Pairwise (fun x y=>gR x y≤0)→(kU l).Pairwise fun x y=>gR x y<0
 | [],_=>.nil
 | [a],_=>by simp[kU]
 | a::b::t,h=>by
  have h1:=bj.1 h
  have h2:=bj.1 h1.2
  unfold kU
  split
  ·exact JH h1.2
  ·rename_i hn
   refine bj.2 ⟨fun x hx=>?_,JH h1.2⟩
   rw[Bm]at hx
   have h3:=h1.1 x hx
   by_cases h4:gR a x=0
   ·have e:=pe.1 h4
    subst e
    rcases av.1 hx with e|hx
    ·exact absurd e.symm hn
    ·have h5:=h2.1 _ hx
     have h6:=h1.1 b (by simp)
     have h7:=rO a b
     exact absurd (pe.1 (show gR a b=0 by omega)).symm hn
   ·omega
def Vb{l l':List Pos}(hp:l'.Perm l)(hw:l'.Pairwise fun x y=>¬ gR y x<0):kU l'=jL l:=
 Tm (kc.of (JH (hw.imp fun{x y} h=>by have:=rO x y;omega))) fun q=>by rw[Bm,hp.mem_iff]
def U4(x y z:Pos)(h1:¬ gR x y<0)(h2:¬ gR y z<0):¬ gR x z<0:=by
 have a:=rO x y;have b:=rO y z;have c:=rO x z
 have:=OY (p:=z) (q:=y) (r:=x) (by omega) (by omega)
 omega
def b2(b:Bool):Int:=if b then 1 else 0
def pd(a b:fV):Int:=ma [gR a.p b.p,jZ (b2 a.jb) (b2 b.jb)]
def Uh{a b:Bool}(h:b2 a=b2 b):a=b:=by revert h;cases a<;>cases b<;>simp[b2]
def GF{a b:fV}:pd a b=0↔a=b:=by
 unfold pd
 rw[J6]
 simp only[av,cZ,or_false,forall_eq_or_imp,forall_eq,pe,uJ]
 constructor
 ·rintro⟨h1,h2⟩;have:=Uh h2;cases a;cases b;simp_all
 ·rintro rfl;exact⟨rfl,rfl⟩
def JF(a b:fV):pd b a = - pd a b:=by
 unfold pd ma
 rw[rO a.p b.p,Ip (b2 a.jb)]
 simp only[ma]
 (repeat' split)<;>omega
def OX(x y z:fV):pd x y<0→pd y z<0→pd x z<0:=by
 unfold pd
 refine xl (fun h=>by rw[pe.1 h]) (fun h=>by rw[pe.1 h]) vp (xl (fun h=>by rw[uJ.1 h]) (fun h=>by rw[uJ.1 h]) (by simp only[Ac];omega) fun h=>?_)
 simp[ma]at h
def U3(x y z:fV)(h1:¬ pd x y<0)(h2:¬ pd y z<0):¬ pd x z<0:=by
 have a:=JF x y;have b:=JF y z;have c:=JF x z
 by_cases e1:pd x y=0
 ·rw[GF.1 e1];exact h2
 ·by_cases e2:pd y z=0
  ·rw[← GF.1 e2];exact h1
  ·have:=OX z y x (by omega) (by omega)
   omega
theorem OG{sz:Nat}:∀ (n:Nat) (a b:List D),a.length=n*sz→chunks sz n (a++b)=chunks sz n a
 | 0,_,_,_=>rfl
 | n+1,a,b,h=>by
  rw[bR]at h
  simp only[chunks]
  rw[bH (by omega),dF (by omega),OG n (a.drop sz) b (by simp;omega)]
@[simp] theorem alR{α:Type}{f:α→List D}{sz:Nat}[F:Fl f sz]{ρ:Nat→Option Nat}{H:U}{k n:Nat}{t:TypeId}{l:List α}{b:List D}(h:n=l.length):lQ ρ H (k+1) sz 0 n (some (t,cl f l++b)) = .sl sz (l.map f):=by
 subst h
 unfold lQ
 dsimp only
 rw[az,sS,aR,if_pos (by omega),cu,dj,List.map_append,MS (sQ l),OG _ _ _ (by simp),nI,JD F.len]
@[irreducible] def Hl{α:Type}[Inhabited α](l:List α)(n:Nat):α:=gt l (n:Int)
theorem zr{α:Type}[Inhabited α]{l:List α}{n:Nat}{m:Int}(h:(n:Int)=m):Hl l n=gt l m:=by unfold Hl;rw[h]
@[simp] theorem amX{α:Type}[Inhabited α]{f:α→List D}{sz:Nat}[F:Fl f sz]{l:List α}{t:TypeId}{n:Nat}(hz:0<sz):ry sz (n*sz) (some (t,cl f l))=if n<l.length then some (.agg (f (Hl l n)))else none:=by
 have:=ZJ (f:=f) (l:=l) (t:=t) (n:=(n:Int)) hz
 rw[dY]at this
 rw[this];unfold Hl;rfl
@[simp] theorem ala(sz v g off len:Nat)(z:List D)(H:U):Bj sz z (.eX v g sz off len) H=(rowAt H v g).bind fun p=>if (off+len)*sz≤p.2.length then some (.any,.obj v (.row p.1 g (p.2.take (off*sz)++(List.replicate len z).flatten++p.2.drop ((off+len)*sz))))else none:=by
 simp only[Bj]
 cases rowAt H v g<;>simp
def Tu{α:Type}{l:List α}{n:Int}{v:α}(h0:0≤n)(h:n<l.length):(pt l n v).take (n+1).toNat=l.take n.toNat ++ [v]:=by
 have e:(l.take n.toNat).length=n.toNat:=by rw[aI];omega
 rw[pt,List.take_append,e,show(n+1).toNat-n.toNat=1 by omega,ai (by omega)]
 rfl
end Go.AL
namespace Go.Proofs.YtmehofoficaelaaGreatDoor
open Go Go.AL Classical
set_option maxRecDepth 10000
set_option maxHeartbeats 4000000
def f124(a b:fV)(ha:Small a.p)(hb:Small b.p):Wf T 262 [.agg a.cells,.agg b.cells] [] (Is (.i (pd a b))):=by
 obtain⟨p,u⟩:=a
 obtain⟨q,v⟩:=b
 cases u<;>cases v
 ·refine Yg sG ?_
  simp[sG,fV.cells]
  refine iC.c rfl rfl (f88 p q ha hb) (by simp) (by simp) ?_
  simp
  refine iC.c rfl rfl (f131 _ _) (by simp) (by simp) ?_
  simp
  refine iC.r rfl rfl (f129 [gR p q,jZ 0 0] (by simp)) (by simp) (by simp[flat]) (by simp) ?_
  simp
  rfl
 ·refine Yg sG ?_
  simp[sG,fV.cells]
  refine iC.c rfl rfl (f88 p q ha hb) (by simp) (by simp) ?_
  simp
  refine iC.c rfl rfl (f131 _ _) (by simp) (by simp) ?_
  simp
  refine iC.r rfl rfl (f129 [gR p q,jZ 0 1] (by simp)) (by simp) (by simp[flat]) (by simp) ?_
  simp
  rfl
 ·refine Yg sG ?_
  simp[sG,fV.cells]
  refine iC.c rfl rfl (f88 p q ha hb) (by simp) (by simp) ?_
  simp
  refine iC.c rfl rfl (f131 _ _) (by simp) (by simp) ?_
  simp
  refine iC.r rfl rfl (f129 [gR p q,jZ 1 0] (by simp)) (by simp) (by simp[flat]) (by simp) ?_
  simp
  rfl
 ·refine Yg sG ?_
  simp[sG,fV.cells]
  refine iC.c rfl rfl (f88 p q ha hb) (by simp) (by simp) ?_
  simp
  refine iC.c rfl rfl (f131 _ _) (by simp) (by simp) ?_
  simp
  refine iC.r rfl rfl (f129 [gR p q,jZ 1 1] (by simp)) (by simp) (by simp[flat]) (by simp) ?_
  simp
  rfl
def f126(a b:fV)(ha:Small a.p)(hb:Small b.p):Wf T 264 [.agg a.cells,.agg b.cells] [] (Is (.b (decide (a=b)))):=by
 refine Yg Eg ?_
 simp[Eg,fV.cells]
 refine fG.c rfl rfl (f124 a b ha hb) (by simp) (by simp) ?_
 simp[GF]
def f90(a b:Pos)(ha:Small a)(hb:Small b):Wf T 154 [.agg a.cells,.agg b.cells] [] (Is (.b (decide (a=b)))):=by
 refine Yg F6 ?_
 simp[F6]
 refine fG.c rfl rfl (f88 a b ha hb) (by simp) (by simp) ?_
 simp[pe]
def f89(gen:Nat)(l:List Pos)(hs:∀ p∈l,Small p)(h0:0<l.length)(hl:l.length<2 ^ 40)(n:Nat)(hn:l.length=n):Wf T 153 [.eX 0 gen 5 0 n,.fn (.func 154) [] []] [.row 46 gen (cl Pos.cells l)]
  (fun d H'=>∃ junk,d = .eX 0 gen 5 0 (kU l).length∧H' = [.row 46 gen (cl Pos.cells (kU l)++junk)]):=by
 subst hn
 refine Yg yW ?_
 simp[yW]
 by_cases h1:(l.length:Int)<2
 ·have e:=O3 (l:=l) (by omega)
  simp[h1,e]
 ·simp[h1]
  refine fh.e (1:Int) (fun y=>[(0,.eX 0 gen 5 0 l.length),(1,.fn (.func 154) [] []),(5,.i y)]) (fun y=>[.row 46 gen (cl Pos.cells l)]) (fun y=>1≤y∧y≤l.length∧kU l=l.take y.toNat++o7 l y) (fun y=>(l.length-y).toNat) ?_ ?_
  ·simp
   exact⟨by omega,by rw[Tt h0]⟩
  rintro y ⟨y0,y1,y2⟩
  by_cases hy:y<l.length
  ·simp[hy,zr (l:=l) (n:=y.toNat-1) (m:=y-1) (by omega)]
   (with_reducible repeat' first|refine Xk ?_<;>try simp|refine Xs ?_ ?_<;>intro h<;>(try intro h')<;>(try simp[h])<;>try omega|refine Xg ?_|omega)
   refine iC.c rfl rfl (f90 (gt l y) (gt l (y-1)) (hs _ (ft (by omega) hy)) (hs _ (ft (by omega) (by omega)))) (by simp) (by simp) ?_
   simp
   by_cases he:gt l y=gt l (y-1)
   ·simp[he]
    (with_reducible repeat' first|refine Xk ?_<;>try simp|refine Xs ?_ ?_<;>intro h<;>(try intro h')<;>(try simp[h])<;>try omega|refine Xg ?_|omega)
    refine fh.e ((1,y,l):Int×Int×List Pos) (fun x=>[(0,.eX 0 gen 5 0 l.length),(1,.fn (.func 154) [] []),(5,.i x.2.1),(6,.eX 0 gen 5 y.toNat (l.length-y.toNat)),(7,.i x.1)]) (fun x=>[.row 46 gen (cl Pos.cells x.2.2)]) (fun x=>1≤x.1∧y+x.1≤l.length∧1≤x.2.1∧x.2.1<y+x.1∧x.2.2.length=l.length∧(∀ j:Int,y+x.1-1≤j→gt x.2.2 j=gt l j)∧kU l=x.2.2.take x.2.1.toNat++o7 l (y+x.1)) (fun x=>(l.length-(y+x.1)).toNat) ?_ ?_
    ·simp
     exact⟨by omega,y0,by omega,by rw[y2,I2 y0 hy he]⟩
    rintro⟨k,i,cur⟩ ⟨k0,k1,i0,i1,c0,c1,c2⟩
    dsimp only at k0 k1 i0 i1 c0 c1 c2 ⊢
    by_cases hk:y+k<l.length
    ·have e1:gt cur (y+k)=gt l (y+k):=c1 _ (by omega)
     have e2:gt cur (y+k-1)=gt l (y+k-1):=c1 _ (by omega)
     have g1:=zr (l:=cur) (n:=y.toNat+k.toNat) (m:=y+k) (by omega)
     have g2:=zr (l:=cur) (n:=y.toNat+(k.toNat-1)) (m:=y+k-1) (by omega)
     simp[show k<((l.length-y.toNat:Nat):Int)by omega,g1,g2,e1,e2,c0]
     (with_reducible repeat' first|refine Xk ?_<;>try simp|refine Xs ?_ ?_<;>intro h<;>(try intro h')<;>(try simp[h])<;>try omega|refine Xg ?_|omega)
     refine iC.c rfl rfl (f90 (gt l (y+k)) (gt l (y+k-1)) (hs _ (ft (by omega) hk)) (hs _ (ft (by omega) (by omega)))) (by simp) (by simp) ?_
     simp
     by_cases pH:gt l (y+k)=gt l (y+k-1)
     ·simp[pH]
      (with_reducible repeat' first|refine Xk ?_<;>try simp|refine Xs ?_ ?_<;>intro h<;>(try intro h')<;>(try simp[h])<;>try omega|refine Xg ?_|omega)
      refine LJ.e (k+1,i,cur) ?_
      refine⟨by dsimp only;omega,by dsimp only;omega,by dsimp only;omega,i0,by dsimp only;omega,c0,fun j hj=>c1 j (by dsimp only at hj;omega),?_⟩
      dsimp only
      rw[c2,I2 (by omega) hk pH,dV]
     ·simp[pH,g1,e1,c0]
      (with_reducible repeat' first|refine Xk ?_<;>try simp[g1,e1,c0]|refine Xs ?_ ?_<;>intro h<;>(try intro h')<;>(try simp[h,g1,e1,c0])<;>try omega|refine Xg ?_|omega)
      have gH:=GD (f:=Pos.cells) cur i (by omega) (gt l (y+k))
      refine LJ.i (k+1,i+1,pt cur i (gt l (y+k))) (by first|rfl|simp) (by dsimp only;rw[← gH];rfl) rfl rfl ?_
      refine⟨by dsimp only;omega,by dsimp only;omega,by dsimp only;omega,by dsimp only;omega,by dsimp only;omega,by dsimp only;rw[il (by omega) (by omega)];exact c0,fun j hj=>?_,?_⟩
      ·dsimp only at hj ⊢
       rw[P8 (by omega) (by omega) (by omega) (by omega)]
       exact c1 j (by omega)
      ·dsimp only
       rw[Tu (by omega) (by omega),c2,I3 (by omega) hk pH,dV]
       simp
    ·have e:o7 l (y+k) = []:=I1 (by omega) (by omega)
     rw[e,aA]at c2
     simp[show ¬ k<((l.length-y.toNat:Nat):Int)by omega,c0]
     (with_reducible repeat' first|refine Xk ?_<;>try simp|refine Xs ?_ ?_<;>intro h<;>(try intro h')<;>(try simp[h])<;>try omega|refine Xg ?_|omega)
     exact⟨by rw[c2];simp;omega,_,by rw[tW,c2]⟩
   ·simp[he]
    (with_reducible repeat' first|refine Xk ?_<;>try simp|refine Xs ?_ ?_<;>intro h<;>(try intro h')<;>(try simp[h])<;>try omega|refine Xg ?_|omega)
    refine LJ.e (y+1) ?_
    refine fQ ?_
    rw[y2,I3 y0 hy he,iD (by omega) hy]
    simp
  ·have e:o7 l y = []:=I1 (by omega) y0
   rw[e,aA,ky (by omega)]at y2
   simp[hy]
   exact⟨by rw[y2],[],by rw[y2];simp⟩
def f125(g:eY)(p0:Pos)(gen:Nat)(l:List fV)(hs:∀ p∈l,Small p.p)(h0:0<l.length)(hl:l.length<2 ^ 40)(n:Nat)(hn:l.length=n):Wf T 263 [.eX 3 gen 6 0 n,.fn (.func 264) [] []] [.row 43 0 g.cells,.row 46 0 p0.cells,.row 256 0 [.eX 3 gen 6 0 n],.row 259 gen (cl fV.cells l)]
  (fun d H'=>∃ junk,d = .eX 3 gen 6 0 (kU l).length∧H' = [.row 43 0 g.cells,.row 46 0 p0.cells,.row 256 0 [.eX 3 gen 6 0 n],.row 259 gen (cl fV.cells (kU l)++junk)]):=by
 subst hn
 refine Yg yO ?_
 simp[yO]
 by_cases h1:(l.length:Int)<2
 ·have e:=O3 (l:=l) (by omega)
  simp[h1,e]
 ·simp[h1]
  refine fh.e (1:Int) (fun y=>[(0,.eX 3 gen 6 0 l.length),(1,.fn (.func 264) [] []),(5,.i y)]) (fun y=>[.row 43 0 g.cells,.row 46 0 p0.cells,.row 256 0 [.eX 3 gen 6 0 l.length],.row 259 gen (cl fV.cells l)]) (fun y=>1≤y∧y≤l.length∧kU l=l.take y.toNat++o7 l y) (fun y=>(l.length-y).toNat) ?_ ?_
  ·simp
   exact⟨by omega,by rw[Tt h0]⟩
  rintro y ⟨y0,y1,y2⟩
  by_cases hy:y<l.length
  ·simp[hy,zr (l:=l) (n:=y.toNat-1) (m:=y-1) (by omega)]
   (with_reducible repeat' first|refine Xk ?_<;>try simp|refine Xs ?_ ?_<;>intro h<;>(try intro h')<;>(try simp[h])<;>try omega|refine Xg ?_|omega)
   refine iC.c rfl rfl (f126 (gt l y) (gt l (y-1)) (hs _ (ft (by omega) hy)) (hs _ (ft (by omega) (by omega)))) (by simp) (by simp) ?_
   simp
   by_cases he:gt l y=gt l (y-1)
   ·simp[he]
    (with_reducible repeat' first|refine Xk ?_<;>try simp|refine Xs ?_ ?_<;>intro h<;>(try intro h')<;>(try simp[h])<;>try omega|refine Xg ?_|omega)
    refine fh.e ((1,y,l):Int×Int×List fV) (fun x=>[(0,.eX 3 gen 6 0 l.length),(1,.fn (.func 264) [] []),(5,.i x.2.1),(6,.eX 3 gen 6 y.toNat (l.length-y.toNat)),(7,.i x.1)]) (fun x=>[.row 43 0 g.cells,.row 46 0 p0.cells,.row 256 0 [.eX 3 gen 6 0 l.length],.row 259 gen (cl fV.cells x.2.2)]) (fun x=>1≤x.1∧y+x.1≤l.length∧1≤x.2.1∧x.2.1<y+x.1∧x.2.2.length=l.length∧(∀ j:Int,y+x.1-1≤j→gt x.2.2 j=gt l j)∧kU l=x.2.2.take x.2.1.toNat++o7 l (y+x.1)) (fun x=>(l.length-(y+x.1)).toNat) ?_ ?_
    ·simp
     exact⟨by omega,y0,by omega,by rw[y2,I2 y0 hy he]⟩
    rintro⟨k,i,cur⟩ ⟨k0,k1,i0,i1,c0,c1,c2⟩
    dsimp only at k0 k1 i0 i1 c0 c1 c2 ⊢
    by_cases hk:y+k<l.length
    ·have e1:gt cur (y+k)=gt l (y+k):=c1 _ (by omega)
     have e2:gt cur (y+k-1)=gt l (y+k-1):=c1 _ (by omega)
     have g1:=zr (l:=cur) (n:=y.toNat+k.toNat) (m:=y+k) (by omega)
     have g2:=zr (l:=cur) (n:=y.toNat+(k.toNat-1)) (m:=y+k-1) (by omega)
     simp[show k<((l.length-y.toNat:Nat):Int)by omega,g1,g2,e1,e2,c0]
     (with_reducible repeat' first|refine Xk ?_<;>try simp|refine Xs ?_ ?_<;>intro h<;>(try intro h')<;>(try simp[h])<;>try omega|refine Xg ?_|omega)
     refine iC.c rfl rfl (f126 (gt l (y+k)) (gt l (y+k-1)) (hs _ (ft (by omega) hk)) (hs _ (ft (by omega) (by omega)))) (by simp) (by simp) ?_
     simp
     by_cases pH:gt l (y+k)=gt l (y+k-1)
     ·simp[pH]
      (with_reducible repeat' first|refine Xk ?_<;>try simp|refine Xs ?_ ?_<;>intro h<;>(try intro h')<;>(try simp[h])<;>try omega|refine Xg ?_|omega)
      refine LJ.e (k+1,i,cur) ?_
      refine⟨by dsimp only;omega,by dsimp only;omega,by dsimp only;omega,i0,by dsimp only;omega,c0,fun j hj=>c1 j (by dsimp only at hj;omega),?_⟩
      dsimp only
      rw[c2,I2 (by omega) hk pH,dV]
     ·simp[pH,g1,e1,c0]
      (with_reducible repeat' first|refine Xk ?_<;>try simp[g1,e1,c0]|refine Xs ?_ ?_<;>intro h<;>(try intro h')<;>(try simp[h,g1,e1,c0])<;>try omega|refine Xg ?_|omega)
      have gH:=GD (f:=fV.cells) cur i (by omega) (gt l (y+k))
      refine LJ.i (k+1,i+1,pt cur i (gt l (y+k))) (by first|rfl|simp) (by dsimp only;rw[← gH];rfl) rfl rfl ?_
      refine⟨by dsimp only;omega,by dsimp only;omega,by dsimp only;omega,by dsimp only;omega,by dsimp only;omega,by dsimp only;rw[il (by omega) (by omega)];exact c0,fun j hj=>?_,?_⟩
      ·dsimp only at hj ⊢
       rw[P8 (by omega) (by omega) (by omega) (by omega)]
       exact c1 j (by omega)
      ·dsimp only
       rw[Tu (by omega) (by omega),c2,I3 (by omega) hk pH,dV]
       simp
    ·have e:o7 l (y+k) = []:=I1 (by omega) (by omega)
     rw[e,aA]at c2
     simp[show ¬ k<((l.length-y.toNat:Nat):Int)by omega,c0]
     (with_reducible repeat' first|refine Xk ?_<;>try simp|refine Xs ?_ ?_<;>intro h<;>(try intro h')<;>(try simp[h])<;>try omega|refine Xg ?_|omega)
     exact⟨by rw[c2];simp;omega,_,by rw[tW,c2]⟩
   ·simp[he]
    (with_reducible repeat' first|refine Xk ?_<;>try simp|refine Xs ?_ ?_<;>intro h<;>(try intro h')<;>(try simp[h])<;>try omega|refine Xg ?_|omega)
    refine LJ.e (y+1) ?_
    refine fQ ?_
    rw[y2,I3 y0 hy he,iD (by omega) hy]
    simp
  ·have e:o7 l y = []:=I1 (by omega) y0
   rw[e,aA,ky (by omega)]at y2
   simp[hy]
   exact⟨by rw[y2],[],by rw[y2];simp⟩
def V'(x:D)(H:U):Wf T 263 [.eU,x] H (fun d H'=>d = .eU∧H'=H):=by
 refine Yg yO ?_
 simp[yO]
def Wv(x:D)(H:U):Wf T 153 [.eU,x] H (fun d H'=>d = .eU∧H'=H):=by
 refine Yg yW ?_
 simp[yW]
theorem Om{g:eY}:∀ {l:List fe} {now:List fg},(pV g l now).length≤10 ^ l.length*now.length
 | [],now=>by simp[pV]
 | x::r,now=>by
  rw[pV]
  refine Nat.le_trans Om ?_
  rw[aO,dE,eP]
  exact dJ _ CQ
theorem Jo{g:eY}:∀ {l:List fe} {a b:List fg},(∀ t,t∈a↔t∈b)→∀ t,t∈pV g l a↔t∈qm g l b
 | [],a,b,h,t=>h t
 | x::r,a,b,h,t=>by
  rw[pV,qm]
  refine Jo (fun t=>?_) t
  rw[Ij,bt,bt]
  exact⟨fun⟨s,h1,h2⟩=>⟨s,(h s).1 h1,h2⟩,fun⟨s,h1,h2⟩=>⟨s,(h s).2 h1,h2⟩⟩
def Sx{g:eY}{p:Pos}{c n:Int}{o:fV}:o∈qN g p c n↔o∈rz g p c (gt (gt g.kinds (fF (gt p.cs c))).iG n):=by
 unfold qN rz
 rw[b6,b6]
 exact⟨fun⟨s,h1,h2⟩=>⟨s,(Jo (fun _=>dC) s).1 h1,h2⟩,fun⟨s,h1,h2⟩=>⟨s,(Jo (fun _=>dC) s).2 h1,h2⟩⟩
def f85(g:eY)(hg:gh g)(p:Pos)(hp:gG g p)(c n:Int)(hc:0≤c∧c<p.cs.length)(hs:jo (gt p.cs c)=p.side)(hn:0≤n∧n<(gt g.kinds (fF (gt p.cs c))).iG.length) :
  Wf T 214 [dG g,dP p,.i c,.i n] [] (Ey (fun r:List fV=>.tup [dN 6 fV.cells r,.i 0]) fun r=>(∀ o,o∈r↔o∈rz g p c (gt (gt g.kinds (fF (gt p.cs c))).iG n))∧r.length≤100000000):=by
 have gV:=hp.size
 have fm:=Dq hg hp hc.1 (by omega) hs
 have pK:tP g (gt (gt g.kinds (fF (gt p.cs c))).iG n):=(hg.iG _ (ft fm.kind.1 fm.kind.2)).2 _ (ft hn.1 hn.2)
 have hlen:(qN g p c n).length≤100000000:=by
  unfold qN
  refine Nat.le_trans (dg ..) (Nat.le_trans Om ?_)
  have:=pK.len
  have:10 ^ (gt (gt g.kinds (fF (gt p.cs c))).iG n).length≤10 ^ 8:=b9 (by decide) (by omega)
  simpa using this
 have oU:∀ o,o∈qN g p c n→Small o.p:=fun o ho=>by
  rw[Sx]at ho
  unfold rz at ho
  rw[b6]at ho
  obtain⟨s,h1,h2⟩:=ho
  exact(G9 (II hg pK.steps (fun t ht=>by rw[List.mem_singleton.1 ht];exact fm) s h1) hp.side.1 hp.side.2 h2).small hg
 refine Yg F4 ?_
 simp[F4]
 refine fG.rr rfl rfl (f121 g hg p hp c n hc hs hn) ?_
 rintro d H' ⟨rfl,rfl⟩
 have hm:=fun o=>Sx (g:=g) (p:=p) (c:=c) (n:=n) (o:=o)
 generalize qN g p c n=outs at *
 by_cases ho:outs = []
 ·subst ho
  simp
  refine fG.rr rfl rfl (Wf.Ar (K:=fun d H'=>d = .tup []∧H'=_) (sz:=6) rfl ⟨rfl,rfl⟩) ?_
  rintro d H' ⟨rfl,rfl⟩
  simp
  refine fG.rr rfl rfl (V' _ _) ?_
  rintro d H' ⟨rfl,rfl⟩
  simp
  exact Ey.i [] rfl rfl ⟨hm,by simp⟩
 ·have h0:0<outs.length:=ay.2 ho
  rw[if_neg ho]
  simp
  refine fG.rr rfl rfl (Wf.sort (K:=fun d H'=>∃ l',l'.Perm outs∧d = .tup []∧H' = [.row 43 0 g.cells,.row 46 0 p.cells,.row 256 0 [.eX 3 (outs.length-1) 6 0 outs.length],.row 259 (outs.length-1) (cl fV.cells l')]) (fc:=fV.cells) outs pd rfl rfl h0 (by omega) (fun x=>GF.2 rfl) OX U3 (fun x hx y hy=>f124 x y (oU x hx) (oU y hy)) (gen:=outs.length-1) (t:=259) (by simp) (fun l' hp hw=>⟨l',hp,rfl,by simp⟩)) ?_
  rintro d H' ⟨l',mc,rfl,rfl⟩
  simp
  refine fG.rr rfl rfl (f125 g p (outs.length-1) l' (fun o ho=>oU o ((mc.mem_iff).1 ho)) (by rw[mc.length_eq];exact h0) (by rw[mc.length_eq];omega) outs.length mc.length_eq) ?_
  rintro d H' ⟨junk,rfl,rfl⟩
  simp
  have gE:kU l'≠[]:=fun h=>ho (by rw[U']at h;rw[h]at mc;exact mc.symm.eq_nil)
  refine Ey.i (kU l') (by revert gE;cases kU l' with|nil=>intro h;exact absurd rfl h|cons a r=>intro _;rfl) rfl ⟨fun o=>by rw[Bm,mc.mem_iff,hm],?_⟩
  have:=O2 l'
  have:=mc.length_eq
  omega
def f86(l:List Pos)(h:0<l.length)(h2:l.length<2 ^ 40):Wf T 150 [gA l] [] (fun d H=>d = .eX 0 1 5 0 l.length∧H = [.row 46 1 (cl Pos.cells l)]):=by
 refine Yg yV ?_
 simp[yV]
 refine oA.i (a:=.b false) (by cases l with|nil=>exact absurd h (by simp)|cons a r=>rfl) ?_
 simp
 (with_reducible repeat' first|refine Xk ?_<;>try simp|refine Xs ?_ ?_<;>intro h<;>(try intro h')<;>(try simp[h])<;>try omega|refine Xg ?_|omega)
def Wu:Wf T 150 [.eU] [] (Is .eU):=by
 refine Yg yV ?_
 simp[yV]
def sU{l:List Pos}(h:l≠[]):gA l=dN 5 Pos.cells l:=by
 cases l with
 | nil=>exact absurd rfl h
 | cons a r=>rfl
@[simp] theorem akU(l:List Pos):closed (dN 5 Pos.cells l)=true:=w6 (fun a=>by simp) l
theorem agq:jL [] = []:=aB.1 (Nat.le_zero.1 (IW []))
def agp{l:List Pos}(h:l≠[]):jL l≠[]:=fun e=>by
 obtain⟨a,r,rfl⟩:=dW h
 have:a∈jL (a::r):=sB.2 (by simp)
 rw[e]at this;cases this
def f48(l:List Pos)(hs:∀ p∈l,Small p)(hl:l.length<2 ^ 40):Wf T 95 [dN 5 Pos.cells l] [] (Is (dN 5 Pos.cells (jL l))):=by
 by_cases h:l = []
 ·subst h
  rw[agq]
  show Wf T 95 [.eU] [] (Is .eU)
  refine Yg yU ?_
  simp[yU]
  refine Yc (Wu) ?_
  simp
  refine fG.rr rfl rfl (Wf.Ar (K:=fun d H'=>d = .tup []∧H'=_) (sz:=5) rfl ⟨rfl,rfl⟩) ?_
  rintro d H' ⟨rfl,rfl⟩
  simp
  refine fG.rr rfl rfl (Wv _ _) ?_
  rintro d H' ⟨rfl,rfl⟩
  simp
 ·have h0:0<l.length:=ay.2 h
  rw[← sU h,← sU (agp h)]
  refine Yg yU ?_
  simp[yU]
  refine Yn (f86 l h0 hl) ?_
  simp
  refine fG.rr rfl rfl (Wf.sort (K:=fun d H'=>∃ l',l'.Perm l∧l'.Pairwise (fun x y=>¬ gR y x<0)∧d = .tup []∧H' = [.row 46 1 (cl Pos.cells l')]) (fc:=Pos.cells) l gR rfl rfl h0 hl q6 (fun x y z=>vp) U4 (fun x hx y hy=>f88 x y (hs x hx) (hs y hy)) (gen:=1) (t:=46) (by simp) (fun l' hp hw=>⟨l',hp,hw,rfl,by simp⟩)) ?_
  rintro d H' ⟨l',mc,hw,rfl,rfl⟩
  simp
  refine fG.rr rfl rfl (f89 1 l' (fun o ho=>hs o ((mc.mem_iff).1 ho)) (by rw[mc.length_eq];exact h0) (by rw[mc.length_eq];omega) l.length mc.length_eq) ?_
  rintro d H' ⟨junk,rfl,rfl⟩
  simp[Vb mc hw]
