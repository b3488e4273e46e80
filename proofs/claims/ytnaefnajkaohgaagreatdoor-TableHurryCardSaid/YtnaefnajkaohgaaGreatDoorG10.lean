/- Part 10 of TableHurry. -/
import Derived.Test.YtnaefnajkaohgaaGreatDoorG09
import Derived.Test.YtnaefnajkaohgaaGreatDoorG07
set_option linter.all false
namespace Go.AL
def iF(a b:Int):Int:=if a<b then -1 else if a>b then 1 else 0
def iC:List Int→List Int→Int
 | [],[]=>0
 | [],_::_ => -1
 | _::_,[]=>1
 | a::l,b::m=>if a=b then iC l m else iF a b
def ke:List Int→Int
 | []=>0
 | a::l=>if a≠0 then a else ke l
def fG(p q:Pos):Int:=ke [iC p.cs q.cs,iC p.h0 q.h0,iC p.h1 q.h1,iF p.eR q.eR,iF p.side q.side]
theorem rI{a b:Int}:iF a b=0↔a=b:=by
 unfold iF;(repeat' split)<;>omega
theorem wx{a b:Int}:iF a b<0↔a<b:=by
 unfold iF;(repeat' split)<;>omega
theorem D8(a b:Int):iF b a = - iF a b:=by
 unfold iF;(repeat' split)<;>omega
theorem DY:∀ {a b:List Int},iC a b=0↔a=b
 | [],[]=>by simp[iC]
 | [],_::_=>by simp[iC]
 | _::_,[]=>by simp[iC]
 | a::l,b::m=>by
  unfold iC
  split
  ·rename_i h;subst h;rw[DY];simp
  ·rename_i h;rw[rI];simp[h]
theorem DW:∀ (a b:List Int),iC b a = - iC a b
 | [],[]=>rfl
 | [],_::_=>rfl
 | _::_,[]=>rfl
 | a::l,b::m=>by
  unfold iC
  by_cases h:a=b
  ·subst h;simp[DW l m]
  ·rw[if_neg h,if_neg (dg h),D8]
theorem DX:∀ {a b c:List Int},iC a b<0→iC b c<0→iC a c<0
 | [],[],c,h,_=>by simp[iC]at h
 | _::_,[],c,h,_=>by simp[iC]at h
 | a,_::_,[],_,h=>by simp[iC]at h
 | [],_::_,_::_,_,_=>by simp[iC]
 | a::l,b::m,c::k,h1,h2=>by
  unfold iC at *
  by_cases e1:a=b
  ·subst e1
   rw[if_pos rfl]at h1
   by_cases e2:a=c
   ·subst e2
    rw[if_pos rfl]at h2 ⊢
    exact DX h1 h2
   ·rw[if_neg e2]at h2 ⊢;exact h2
  ·rw[if_neg e1,wx]at h1
   by_cases e2:b=c
   ·subst e2;rw[if_neg e1,wx];exact h1
   ·rw[if_neg e2,wx]at h2
    rw[if_neg (by omega),wx];omega
theorem FR:∀ {l:List Int},ke l=0↔∀ x∈l,x=0
 | []=>by simp[ke]
 | a::l=>by
  unfold ke
  split
  ·rename_i h;simp[h]
  ·rename_i h;rw[FR];simp_all
theorem mI{p q:Pos}:fG p q=0↔p=q:=by
 unfold fG
 rw[FR]
 cases p;cases q
 simp[DY,rI]
theorem oQ(p:Pos):fG p p=0:=mI.2 rfl
theorem pj(p q:Pos):fG q p = - fG p q:=by
 unfold fG ke
 rw[DW p.cs,DW p.h0,DW p.h1,D8 p.eR,D8 p.side]
 simp only[ke]
 (repeat' split)<;>omega
theorem tQ{A B C:Int}{a b c:List Int}(h1:A=0→C=B)(h2:B=0→C=A)(h3:A<0→B<0→C<0)(h:ke a<0→ke b<0→ke c<0):ke (A::a)<0→ke (B::b)<0→ke (C::c)<0:=by
 unfold ke
 intro x y
 by_cases hA:A=0
 ·have:=h1 hA
  subst this
  rw[if_neg (by simpa using hA)]at x
  by_cases hB:C=0
  ·rw[if_neg (by simpa using hB)]at y ⊢
   exact h x y
  ·rw[if_pos hB]at y ⊢;exact y
 ·rw[if_pos hA]at x
  by_cases hB:B=0
  ·have:=h2 hB
   subst this
   rw[if_pos hA];exact x
  ·rw[if_pos hB]at y
   have:=h3 x y
   rw[if_pos (by omega)];exact this
theorem sr{p q r:Pos}:fG p q<0→fG q r<0→fG p r<0:=by
 have key:∀ a b c:List Int,iC a b=0→iC a c=iC b c:=fun a b c h=>by rw[DY.1 h]
 have Hh:∀ a b c:List Int,iC b c=0→iC a c=iC a b:=fun a b c h=>by rw[DY.1 h]
 have n1:∀ a b c:Int,iF a b=0→iF a c=iF b c:=fun a b c h=>by rw[rI.1 h]
 have n2:∀ a b c:Int,iF b c=0→iF a c=iF a b:=fun a b c h=>by rw[rI.1 h]
 have nt:∀ a b c:Int,iF a b<0→iF b c<0→iF a c<0:=fun a b c=>by simp only[wx];omega
 unfold fG
 refine tQ (key _ _ _) (Hh _ _ _) DX (tQ (key _ _ _) (Hh _ _ _) DX (tQ (key _ _ _) (Hh _ _ _) DX (tQ (n1 _ _ _) (n2 _ _ _) (nt _ _ _) (tQ (n1 _ _ _) (n2 _ _ _) (nt _ _ _) fun h=>?_))))
 simp[ke]at h
theorem MF{a b:List Int}:∀ {i:Nat},a.take i=b.take i→i≤a.length→i≤b.length→iC a b=iC (a.drop i) (b.drop i):=by
 intro i
 induction i generalizing a b with
 | zero=>intro _ _ _;rfl
 | succ i ih=>
  intro h h1 h2
  cases a with
  | nil=>simp at h1
  | cons x a=>
   cases b with
   | nil=>simp at h2
   | cons y b=>
    simp only[List.take_succ_cons,cz]at h
    simp only[aJ]at h1 h2
    simp only[List.drop_succ_cons,iC,h.1,if_true]
    exact ih h.2 (by omega) (by omega)
theorem Hq{a b:List Int}(h:a.length=0∨b.length=0):iC a b=iF a.length b.length:=by
 cases a<;>cases b<;>simp_all [iC,iF]
 all_goals omega
theorem J5{p q r:Pos}(h1:fG p q≤0)(h2:fG q r≤0):fG p r≤0:=by
 by_cases a:fG p q=0
 ·rw[mI.1 a];exact h2
 ·by_cases b:fG q r=0
  ·rw[← mI.1 b];exact h1
  ·exact Int.le_of_lt (sr (show fG p q<0 by omega) (show fG q r<0 by omega))
def WS(l:List Pos):Prop:=l.Pairwise fun x y=>fG x y≤0
def Small(p:Pos):Prop:=p.cs.length<2 ^ 40∧p.h0.length<2 ^ 40∧p.h1.length<2 ^ 40
def iI(l:List Pos):Prop:=∀ i:Int,1≤i→i<l.length→fG (gt l (i-1)) (gt l i)<0
theorem iI.lt{l:List Pos}(h:iI l){i:Int}(h0:0≤i):∀ {n:Nat},i<n→(n:Int)<l.length→fG (gt l i) (gt l n)<0
 | 0,h1,_=>by omega
 | n+1,h1,h2=>by
  have:=h (n+1) (by omega) (by omega)
  rw[cO]at this
  by_cases e:i=n
  ·subst e;exact this
  ·exact sr (h.lt h0 (by omega) (by omega)) this
theorem iI.le{l:List Pos}(h:iI l){i j:Int}(h0:0≤i)(h1:i<j)(h2:j<l.length):fG (gt l i) (gt l j)<0:=by
 have:=h.lt h0 (n:=j.toNat) (by omega) (by omega)
 rwa [b7 (by omega)]at this
theorem iI.inj{l:List Pos}(h:iI l){i j:Int}(h0:0≤i)(h1:i<l.length)(h2:0≤j)(h3:j<l.length)(e:gt l i=gt l j):i=j:=by
 by_cases a:i<j
 ·have:=h.le h0 a h3;rw[e,oQ]at this;omega
 ·by_cases b:j<i
  ·have:=h.le h2 b h1;rw[e,oQ]at this;omega
  ·omega
def jB(l:List Pos)(p:Pos):Int:=if p∈l then(l.idxOf p:Int)else -1
theorem KE{l:List Pos}{p:Pos}(h:p ∉ l):jB l p = -1:=if_neg h
theorem vF{l:List Pos}{p:Pos}(h:p∈l):0≤jB l p∧jB l p<l.length∧gt l (jB l p)=p:=by
 unfold jB
 rw[if_pos h]
 have hi:l.idxOf p<l.length:=List.idxOf_lt_length_iff.2 h
 refine⟨by omega,by omega,?_⟩
 rw[Dc hi]
 exact List.getElem_idxOf hi
theorem Qm{l:List Pos}(hs:iI l){i:Int}(h0:0≤i)(h1:i<l.length):jB l (gt l i)=i:=by
 obtain⟨a,b,c⟩:=vF (eH h0 h1)
 exact hs.inj a b h0 h1 c
end Go.AL
namespace Go.AL
open Go
def pt{α:Type}(l:List α)(n:Int)(v:α):List α:=l.take n.toNat++v::l.drop (n.toNat+1)
section
variable{α:Type}[Inhabited α]{l:List α}{n k:Int}{v:α}
theorem zj(h0:0≤n)(h:n<l.length):pt l n v=l.set n.toNat v:=by
 rw[pt,cp,if_pos (by omega)]
theorem ga(h0:0≤n)(h:n<l.length):(pt l n v).length=l.length:=by
 rw[zj h0 h,bV]
theorem n4(h0:0≤n)(h:n<l.length)(hk:0≤k):gt (pt l n v) k=if k=n then v else gt l k:=by
 rw[zj h0 h]
 unfold gt
 simp only[List.getD_eq_getElem?_getD,bH]
 by_cases e:k=n
 ·subst e;rw[if_pos rfl,if_pos rfl,if_pos (by omega)];rfl
 ·rw[if_neg (by omega),if_neg e]
theorem vH(h0:0≤n)(h:n<l.length):gt (pt l n v) n=v:=by rw[n4 h0 h h0,if_pos rfl]
theorem KW(h0:0≤n)(h:n<l.length)(hk:0≤k)(e:k≠n):gt (pt l n v) k=gt l k:=by rw[n4 h0 h hk,if_neg e]
theorem MR{x:α}(h:x∈pt l n v):x=v∨x∈l:=by
 unfold pt at h
 simp only[List.mem_append,ax]at h
 rcases h with h|h|h
 ·exact .inr (aN h)
 ·exact .inl h
 ·exact .inr (bN h)
end
@[simp] theorem aim{α:Type}(l:List α)(n:Int)(v:α):l.take n.toNat++v::l.drop (n.toNat+1)=pt l n v:=(rfl)
def jq(g:ey)(s d c:Int):Int:=
 if s<0∨s>1∨d<0∨d≥g.next.length∨c<0∨c≥g.size then -1 else gt (gt g.next (if s=1 then gt g.gE d else d)) c
structure kT(g:ey):Prop where
 size:1≤g.size∧g.size≤9
 next:g.next.length=8
 row:∀ l∈g.next,(l.length:Int)=g.size∧∀ x∈l,-1≤x∧x<g.size
 gE:g.gE.length=8
 turns:∀ d,0≤d→d<8→0≤gt g.gE d∧gt g.gE d<8∧gt g.gE (gt g.gE d)=d
theorem kT.to{g:ey}(h:kT g)(s d c:Int) : -1≤jq g s d c∧jq g s d c<g.size:=by
 have:=h.size
 unfold jq
 split
 ·omega
 ·rename_i e
  have hn:=h.next
  simp only[not_or,dZ,Int.not_le,gt_iff_lt,ge_iff_le]at e
  have hd:0≤(if s=1 then gt g.gE d else d)∧(if s=1 then gt g.gE d else d)<8:=by
   split
   ·have:=h.turns d (by omega) (by omega);omega
   ·omega
  have hr:=h.row _ (eH (l:=g.next) hd.1 (by omega))
  exact hr.2 _ (eH (by omega) (by omega))
structure xl(g:ey)(x:eI):Prop where
 ok:((x.1=1∨x.1=2∨x.1=7)∧0≤x.2∧x.2<8)∨(3≤x.1∧x.1≤6∧x.2=0)∨(x.1=8∧0≤x.2∧x.2<g.kinds.length)∨((x.1=9∨x.1=10)∧0≤x.2∧x.2<g.eR)
def kW(l:List eI)(op:Int):Int:=(l.countP fun x=>x.1=op:Nat)
structure qT(g:ey)(l:List eI):Prop where
 len:1≤l.length∧l.length≤8
 steps:∀ x∈l,xl g x
 pc:kW l 6≤2
 push:kW l 7≤1
 Co:kW l 8≤1
structure u6(g:ey)(c:Clause):Prop where
 ok:(c.cond=1∧0≤c.kind∧c.kind<g.kinds.length∧c.n=0)∨(c.cond=2∧0≤c.kind∧c.kind<g.kinds.length∧0≤c.n∧c.n<g.size)∨(c.cond=3∧c.kind=0∧0≤c.n∧c.n≤64)
 out:1≤c.out∧c.out≤3
def kindName(n:Int):ByteArray:=if n=0 then⟨#[97]⟩else⟨#[98,101,101]⟩
structure eW(g:ey):Prop where
 gH:kT g
 kinds:1≤g.kinds.length∧g.kinds.length≤2
 names:∀ k:Int,0≤k→k<g.kinds.length→(gt g.kinds k).name=kindName k
 fZ:∀ k∈g.kinds,k.fZ.length≤4∧∀ l∈k.fZ,qT g l
 eR:0≤g.eR∧g.eR≤2
 clauses:g.clauses.length≤3
 clause:∀ c∈g.clauses,u6 g c
 blocked:1≤g.blocked∧g.blocked≤3
 qf:1≤g.qf∧g.qf≤3
structure mW(g:ey)(l:List Int):Prop where
 len:l.length=g.kinds.length
 at_:∀ k:Int,0≤k→k<l.length→0≤gt l k∧gt l k≤8∧(0<gt l k→(gt g.kinds k).nu=true)
structure fo(g:ey)(p:Pos):Prop where
 size:(p.cs.length:Int)=g.size
 h0:mW g p.h0
 h1:mW g p.h1
 eR:0≤p.eR∧p.eR<2 ^ g.eR.toNat
 side:0≤p.side∧p.side≤1
 cs:∀ x∈p.cs,0≤x∧x≤2*g.kinds.length
def eS(n:Int):Int:=if 1≤n∧n≤12 then(n-1) / 2 else -1
def gV(n:Int):Int:=if 1≤n∧n≤12 then(n-1) % 2 else -1
def ju(k s:Int):Int:=1+2*k+s
def ox(g:ey)(s d c:Int):Nat→Int→List Int→List Int
 | 0,_,out=>out
 | n+1,x,out=>if 0≤x∧x≠c∧x ∉ out then ox g s d c n (jq g s d x) (out ++ [x])else out
def iW(g:ey)(s d c:Int):List Int:=ox g s d c 10 (jq g s d c) []
theorem MB{g:ey}(hg:kT g){s d c:Int}:∀ (n:Nat) (x:Int) (out:List Int),x<g.size→(∀ y∈out,0≤y∧y<g.size)→∀ y∈ox g s d c n x out,0≤y∧y<g.size
 | 0,x,out,_,h,y,hy=>h y hy
 | n+1,x,out,hx,h,y,hy=>by
  unfold ox at hy
  split at hy
  ·rename_i e
   refine MB hg n _ _ (hg.to _ _ _).2 (fun z hz=>?_) y hy
   simp only[List.mem_append,List.mem_singleton]at hz
   rcases hz with hz|hz
   ·exact h z hz
   ·omega
  ·exact h y hy
theorem Hm{g:ey}(hg:kT g){s d c y:Int}(h:y∈iW g s d c):0≤y∧y<g.size:=MB hg _ _ _ (hg.to _ _ _).2 (by simp) y h
theorem zc:∀ (n:Nat) (l:List Int),l.Nodup→(∀ y∈l,0≤y∧y<n)→l.length≤n
 | 0,[],_,_=>by simp
 | 0,a::l,_,h=>by have:=h a (by simp);omega
 | n+1,l,hn,h=>by
  by_cases e:(n:Int)∈l
  ·have h1:(l.erase (n:Int)).length≤n:=zc n _ (hn.erase _) fun y hy=>by
    have:=(hn.mem_erase_iff).1 hy
    have:=h y this.2
    omega
   rw[dJ e]at h1
   omega
  ·have:=zc n l hn fun y hy=>by
    have:=h y hy
    have:y≠n:=fun e2=>e (e2▸hy)
    omega
   omega
structure eE where
 p:Pos
 kind:Int
 cur:Int
 gO:Bool
 deriving DecidableEq,Inhabited
def eE.cells(s:eE):List D:=[dI s.p.cs,dI s.p.h0,dI s.p.h1,.i s.p.eR,.i s.p.side,.i s.kind,.i s.cur,.b s.gO]
structure ic(g:ey)(s:eE):Prop where
 p:fo g s.p
 kind:0≤s.kind∧s.kind<g.kinds.length
 cur:0≤s.cur∧s.cur<g.size
def Pos.hand(p:Pos)(s:Int):List Int:=if s=0 then p.h0 else p.h1
def Pos.jP(p:Pos)(s:Int)(l:List Int):Pos:=if s=0 then{ p with h0:=l }else{ p with h1:=l }
def me(s:eE):List Int→List eE
 | []=>[]
 | c::r=>{ s with cur:=c }::if gt s.p.cs c=0 then me s r else []
def nS(g:ey)(s:eE):List eE:=
 let c:=gt s.p.cs s.cur
 if gV c≠1-s.p.side then []else
  let p:={ s.p with cs:=pt s.p.cs s.cur 0 }
  if (gt g.kinds (eS c)).nu=false then [{ s with p:=p,gO:=true }]else
   let n:=gt (s.p.hand s.p.side) (eS c)+1
   if n≤8 then [{ s with p:=p.jP s.p.side (pt (s.p.hand s.p.side) (eS c) n),gO:=true }]else []
def oI(g:ey)(s:eE)(n:Int):List eE:=
 let to:=jq g s.p.side n s.cur
 if gt s.p.cs s.cur=0∨to<0∨gt s.p.cs to≠0 then []else
  [{ s with p:={ s.p with cs:=pt (pt s.p.cs to (gt s.p.cs s.cur)) s.cur 0 } }]
def tX(r n:Int):Prop:=r / 2 ^ n.toNat % 2=1
instance(r n:Int):Decidable (tX r n):=by unfold tX;infer_instance
def dropRight(r n:Int):Int:=if tX r n then r-2 ^ n.toNat else r
theorem Ir{b:Int}(h0:0≤b)(h:b≤4):EF .i64 1 b=2 ^ b.toNat:=by
 have:b=0∨b=1∨b=2∨b=3∨b=4:=by omega
 rcases this with rfl|rfl|rfl|rfl|rfl<;>decide
theorem MU{r:Int}(h0:0≤r)(h:r<16):∃ i:Fin 16,r=(i.val:Int):=⟨⟨r.toNat,by omega⟩,by simp;omega⟩
theorem HK{r:Int}(h0:0≤r)(h:r<4):∃ i:Fin 4,r=(i.val:Int):=⟨⟨r.toNat,by omega⟩,by simp;omega⟩
theorem NF:∀ (i:Fin 16) (k:Fin 4),(bits .and .i64 (qI .i64 (i.val:Int) (k.val:Int)) 1=1↔tX (i.val:Int) (k.val:Int))∧bits .andNot .i64 (i.val:Int) (EF .i64 1 (k.val:Int))=dropRight (i.val:Int) (k.val:Int):=by decide +kernel
theorem NC{r n:Int}(h0:0≤r)(h1:r<16)(h2:0≤n)(h3:n<4):(bits .and .i64 (qI .i64 r n) 1=1)=tX r n:=by
 obtain⟨i,rfl⟩:=MU h0 h1
 obtain⟨k,rfl⟩:=HK h2 h3
 exact propext (NF i k).1
theorem ND{r n:Int}(h0:0≤r)(h1:r<16)(h2:0≤n)(h3:n<4):bits .andNot .i64 r (EF .i64 1 n)=dropRight r n:=by
 obtain⟨i,rfl⟩:=MU h0 h1
 obtain⟨k,rfl⟩:=HK h2 h3
 exact(NF i k).2
theorem wC{b:Int}(h0:0≤b)(h:b≤4):(2:Int) ^ b.toNat≤16:=by
 have:b=0∨b=1∨b=2∨b=3∨b=4:=by omega
 rcases this with rfl|rfl|rfl|rfl|rfl<;>decide
def gd(g:ey)(s:eE)(x:eI):List eE:=
 let c:=gt s.p.cs s.cur
 if x.1=1 then(let to:=jq g s.p.side x.2 s.cur;if 0≤to then [{ s with cur:=to }]else [])
 else if x.1=2 then me s (iW g s.p.side x.2 s.cur)
 else if x.1=3 then(if c=0 then [s]else [])
 else if x.1=4 then(if gV c=1-s.p.side then [s]else [])
 else if x.1=5 then(if gV c=s.p.side then [s]else [])
 else if x.1=6 then nS g s
 else if x.1=7 then oI g s x.2
 else if x.1=8 then [{ s with kind:=x.2 }]
 else if x.1=9 then(if tX s.p.eR x.2 then [s]else [])
 else [{ s with p:={ s.p with eR:=dropRight s.p.eR x.2 } }]
def nP(g:ey):List eI→List eE→List eE
 | [],l=>l
 | x::r,l=>nP g r (l.flatMap fun s=>gd g s x)
def iX(p:Pos)(cell:Int):eE:={ p:={ p with cs:=pt p.cs cell 0 },kind:=eS (gt p.cs cell),cur:=cell,gO:=false }
structure eY where
 p:Pos
 gO:Bool
 deriving DecidableEq,Inhabited
def eY.cells(o:eY):List D:=[dI o.p.cs,dI o.p.h0,dI o.p.h1,.i o.p.eR,.i o.p.side,.b o.gO]
def kQ(side:Int)(s:eE):Option eY:=
 if gt s.p.cs s.cur=0 then some { p:={ s.p with cs:=pt s.p.cs s.cur (ju s.kind side),side:=1-side },gO:=s.gO }else none
def o7(g:ey)(p:Pos)(cell:Int)(l:List eI):List eY:=(nP g l [iX p cell]).filterMap (kQ p.side)
def upto(n:Nat):List Int:=(List.range n).map fun k:Nat=>(k:Int)
theorem iR{n:Nat}{k:Int}:k∈upto n↔0≤k∧k<n:=by
 simp only[upto,aw,bG]
 constructor
 ·rintro⟨a,h,rfl⟩;omega
 ·intro h;exact⟨k.toNat,by omega,by omega⟩
def lX(g:ey)(p:Pos)(c:Int):List eY:=if gV (gt p.cs c)=p.side then(gt g.kinds (eS (gt p.cs c))).fZ.flatMap (o7 g p c)else []
def mf(g:ey)(p:Pos):List eY:=(upto p.cs.length).flatMap (lX g p)
def hJ(p:Pos)(k c:Int):Pos:={ p.jP p.side (pt (p.hand p.side) k (gt (p.hand p.side) k-1))with cs:=pt p.cs c (ju k p.side),side:=1-p.side }
def rW(g:ey)(p q:Pos):Prop:=∃ k c:Int,0≤k∧k<g.kinds.length∧0≤c∧c<p.cs.length∧gt (p.hand p.side) k≠0∧gt p.cs c=0∧q=hJ p k c
def pJ(p:Pos)(side kind:Int):Int:=(p.cs.countP fun c=>0≤eS c∧gV c=side∧(kind<0∨eS c=kind):Nat)
def kX(p:Pos)(c:Clause):Prop:=
 if c.cond=1 then pJ p p.side c.kind=0 else if c.cond=2 then gt p.cs c.n=ju c.kind (1-p.side)else pJ p p.side (-1)≤c.n
def mE(g:ey)(p q:Pos):Prop:=
 (∀ c∈g.clauses,¬ kX p c) ∧
 if g.k6=true∧(∃ o∈mf g p,o.gO=true)then⟨q,true⟩∈mf g p else(∃ o∈mf g p,o.p=q)∨rW g p q
theorem fo.small{g:ey}(hg:eW g){p:Pos}(h:fo g p):Small p:=by
 have h1:=h.size;have h2:=hg.gH.size;have h3:=h.h0.len;have h4:=h.h1.len;have h5:=hg.kinds
 exact⟨by omega,by omega,by omega⟩
theorem fo.hand{g:ey}{p:Pos}(h:fo g p)(s:Int):mW g (p.hand s):=by
 unfold Pos.hand;split
 ·exact h.h0
 ·exact h.h1
theorem fo.jP{g:ey}{p:Pos}(h:fo g p)(s:Int){l:List Int}(hl:mW g l):fo g (p.jP s l):=by
 unfold Pos.jP;split
 ·exact{ h with h0:=hl }
 ·exact{ h with h1:=hl }
theorem fo.uY{g:ey}{p:Pos}(h:fo g p){c v:Int}(hc:0≤c)(Q':c<g.size)(hv:0≤v∧v≤2*g.kinds.length):fo g { p with cs:=pt p.cs c v }:=
 { h with
  size:=by dsimp only;rw[ga hc (by rw[h.size];exact Q')];exact h.size
  cs:=fun x hx=>by
   rcases MR hx with rfl|hx
   ·exact hv
   ·exact h.cs x hx }
theorem mW.set{g:ey}{l:List Int}(h:mW g l){k v:Int}(hk:0≤k)(jv:k<l.length)(hv:0≤v∧v≤8∧(0<v→(gt g.kinds k).nu=true)):mW g (pt l k v) where
 len:=by rw[ga hk jv];exact h.len
 at_ j hj Dp:=by
  rw[ga hk jv]at Dp
  rw[n4 hk jv hj]
  split
  ·rename_i e;subst e;exact hv
  ·exact h.at_ j hj Dp
theorem rH{n:Int}{g:ey}(h:n≤2*g.kinds.length)(hk:1≤g.kinds.length):eS n<g.kinds.length:=by
 unfold eS;split<;>omega
theorem yX{n s:Int}(hs:0≤s)(h:gV n=s):0≤eS n∧1≤n∧n≤12∧n=ju (eS n) s:=by
 unfold gV at h;unfold eS ju
 split at h<;>rename_i e
 ·rw[if_pos e];omega
 ·omega
theorem PE{r n k:Int}(h:0≤r)(h2:r<2 ^ k.toNat):0≤dropRight r n∧dropRight r n<2 ^ k.toNat:=by
 unfold dropRight
 split
 ·rename_i e
  unfold tX at e
  have hp:(0:Int)<2 ^ n.toNat:=Int.pow_pos (by decide)
  have:2 ^ n.toNat≤r:=by
   by_cases c:r<2 ^ n.toNat
   ·rw[Int.ediv_eq_zero_of_lt h c]at e;simp at e
   ·omega
  omega
 ·exact⟨h,h2⟩
theorem ME{s t:eE}:∀ {l:List Int},t∈me s l→∃ c∈l,t = { s with cur:=c }
 | [],h=>by simp[me]at h
 | c::r,h=>by
  unfold me at h
  rcases ax.1 h with h|h
  ·exact⟨c,by simp,h⟩
  ·split at h
   ·obtain⟨c',h1,h2⟩:=ME h;exact⟨c',by simp[h1],h2⟩
   ·cases h
theorem u5{g:ey}(hg:eW g){s:eE}(hs:ic g s){x:eI}(hx:xl g x){t:eE}(h:t∈gd g s x):ic g t:=by
 have hb:=hg.gH
 have lA:s.cur<s.p.cs.length:=by rw[hs.p.size];exact hs.cur.2
 have hc:=hs.p.cs _ (eH hs.cur.1 lA)
 unfold gd at h
 dsimp only at h
 split at h
 ·split at h
  ·rename_i h0
   rw[List.mem_singleton]at h;subst h
   exact{ hs with cur:=⟨h0,(hb.to _ _ _).2⟩ }
  ·cases h
 split at h
 ·obtain⟨c,h1,rfl⟩:=ME h
  exact{ hs with cur:=Hm hb h1 }
 iterate 3
  split at h
  ·split at h
   ·rw[List.mem_singleton]at h;subst h;exact hs
   ·cases h
 split at h
 ·unfold nS at h
  dsimp only at h
  split at h
  ·cases h
  rename_i e
  have e:=Decidable.not_not.1 e
  have gv:=hs.p.side
  obtain⟨m1,m2,m3,m4⟩:=yX (by omega) e
  have hk:eS (gt s.p.cs s.cur)<g.kinds.length:=rH hc.2 hg.kinds.1
  have hp:fo g { s.p with cs:=pt s.p.cs s.cur 0 }:=hs.p.uY hs.cur.1 hs.cur.2 (by omega)
  split at h
  ·rw[List.mem_singleton]at h;subst h
   exact{ hs with p:=hp }
  rename_i kp
  split at h
  ·rename_i h8
   rw[List.mem_singleton]at h;subst h
   have hh:=hs.p.hand s.p.side
   have hl:=hh.len
   have ha:=hh.at_ _ m1 (by rw[hl];exact hk)
   exact{ hs with p:=hp.jP _ (hh.set m1 (by rw[hl];exact hk) ⟨by omega,by omega,fun _=>by simpa using kp⟩) }
  ·cases h
 split at h
 ·unfold oI at h
  dsimp only at h
  split at h
  ·cases h
  rename_i e
  simp only[not_or,dZ]at e
  rw[List.mem_singleton]at h;subst h
  have h1:=hs.p.uY (c:=jq g s.p.side x.2 s.cur) (v:=gt s.p.cs s.cur) e.2.1 (hb.to _ _ _).2 hc
  exact{ hs with p:=h1.uY hs.cur.1 hs.cur.2 (by omega) }
 split at h
 ·rename_i e8
  rw[List.mem_singleton]at h;subst h
  have hk:0≤x.2∧x.2<g.kinds.length:=by have:=hx.ok;omega
  exact{ hs with kind:=hk }
 split at h
 ·split at h
  ·rw[List.mem_singleton]at h;subst h;exact hs
  ·cases h
 ·rw[List.mem_singleton]at h;subst h
  exact{ hs with p:={ hs.p with eR:=PE hs.p.eR.1 hs.p.eR.2 } }
theorem Eu{g:ey}(hg:eW g):∀ {l:List eI} {a:List eE},(∀ x∈l,xl g x)→(∀ s∈a,ic g s)→∀ s∈nP g l a,ic g s
 | [],_,_,h,s,hs=>h s hs
 | x::r,a,hx,h,s,hs=>by
  refine Eu (a:=a.flatMap fun s=>gd g s x) hg (fun y hy=>hx y (by simp[hy])) (fun t ht=>?_) s hs
  obtain⟨u,hu,ht⟩:=bn.1 ht
  exact u5 hg (h u hu) (hx x (by simp)) ht
theorem NO{g:ey}:∀ {l:List eI} {a b:List eE},(∀ s,s∈a↔s∈b)→∀ s,s∈nP g l a↔s∈nP g l b
 | [],_,_,h,s=>h s
 | x::r,a,b,h,s=>NO (l:=r) (fun t=>by simp only[bn,h]) s
theorem zO{g:ey}(hg:eW g){p:Pos}(hp:fo g p){c:Int}(h0:0≤c)(h1:c<g.size)(hm:gV (gt p.cs c)=p.side):ic g (iX p c):=by
 have hc:=hp.cs _ (eH h0 (by rw[hp.size];exact h1))
 exact{ p:=hp.uY h0 h1 (by omega),kind:=⟨(yX hp.side.1 hm).1,rH hc.2 hg.kinds.1⟩,cur:=⟨h0,h1⟩ }
theorem C3{g:ey}{s:eE}(hs:ic g s){side:Int}(h0:0≤side)(h1:side≤1){o:eY}(h:kQ side s=some o):fo g o.p:=by
 unfold kQ at h
 split at h
 ·cases h
  have:=hs.kind
  exact{ hs.p.uY hs.cur.1 hs.cur.2 (v:=ju s.kind side) (by unfold ju;omega)with side:=by dsimp only;omega }
 ·cases h
theorem Ed{g:ey}(hg:eW g){p:Pos}(hp:fo g p){o:eY}(h:o∈mf g p):fo g o.p:=by
 obtain⟨c,hc,h⟩:=bn.1 h
 rw[iR,hp.size]at hc
 unfold lX at h
 split at h
 ·rename_i e
  obtain⟨l,hl,h⟩:=bn.1 h
  obtain⟨s,hs,h⟩:=bR.1 h
  have eJ:=zO hg hp hc.1 hc.2 e
  have hk:=hg.fZ _ (eH (l:=g.kinds) eJ.kind.1 eJ.kind.2)
  exact C3 (Eu hg (hk.2 l hl).steps (fun t ht=>by rw[List.mem_singleton]at ht;subst ht;exact eJ) s hs) hp.side.1 hp.side.2 h
 ·cases h
theorem xQ{g:ey}{p:Pos}(hp:fo g p){q:Pos}(h:rW g p q):fo g q:=by
 obtain⟨k,c,h1,h2,h3,h4,h5,h6,rfl⟩:=h
 have hh:=hp.hand p.side
 have hl:=hh.len
 have ha:=hh.at_ k h1 (by omega)
 have hs:=hp.side
 have hz:=hp.size
 have qq:=(hp.jP p.side (hh.set h1 (v:=gt (p.hand p.side) k-1) (by omega) ⟨by omega,by omega,fun _=>ha.2.2 (by omega)⟩))
 have e:(p.jP p.side (pt (p.hand p.side) k (gt (p.hand p.side) k-1))).cs=p.cs:=by unfold Pos.jP;split<;>rfl
 have:=qq.uY (c:=c) (v:=ju k p.side) h3 (by omega) (by unfold ju;omega)
 rw[e]at this
 exact{ this with side:=by dsimp only[hJ];omega }
theorem HH{g:ey}(hg:eW g){p:Pos}(hp:fo g p){q:Pos}(h:mE g p q):fo g q:=by
 obtain⟨_,h⟩:=h
 split at h
 ·exact Ed hg hp h
 ·rcases h with⟨o,h,rfl⟩|h
  ·exact Ed hg hp h
  ·exact xQ hp h
end Go.AL
namespace Go.Proofs.YtnaefnajkaohgaaGreatDoor
open Go Go.AL Classical
set_option maxRecDepth 10000
theorem f95(n a b:Int):Wf T 95 [.i n,.i a,.i b] [] (Is (.b (decide (a≤n∧n≤b)))):=by
 refine Yg Cd ?_
 simp[Cd]
 (with_reducible repeat' first|refine Xk ?_<;>try simp|refine Xs ?_ ?_<;>intro h<;>(try intro h')<;>(try simp[h])<;>(try omega)|refine Xg ?_|omega)
theorem f94(a b:Int):Wf T 94 [.i a,.i b] [] (Is (.i (iF a b))):=by
 refine Yg Cc ?_
 simp[Cc]
 (with_reducible repeat' first|refine Xk ?_<;>try simp|refine Xs ?_ ?_<;>intro h<;>(try intro h')<;>(try simp[h])<;>(try omega)|refine Xg ?_|omega)
 all_goals (simp only[iF];(repeat' split)<;>omega)
theorem f92{k s:Int}(hk:0≤k)(jv:k<6)(hs:0≤s)(kK:s≤1):Wf T 92 [.i k,.i s] [] (Is (.i (1+2*k+s))):=by
 refine Yg Ca ?_
 simp[Ca]
 (with_reducible repeat' first|refine Xk ?_<;>try simp|refine Xs ?_ ?_<;>intro h<;>(try intro h')<;>(try simp[h])<;>(try omega)|refine Xg ?_|omega)
theorem f156{k s:Int}(hk:0≤k)(jv:k<6)(hs:0≤s)(kK:s≤1):Wf T 156 [.i k,.i s] [] (Is (.i (1+2*k+s))):=by
 refine Yg AO ?_
 simp[AO]
 refine eU.c rfl rfl (f95 _ _ _) (by simp[eV]) (by simp) ?_
 simp[show k≤5 by omega,hk]
 refine eU.c rfl rfl (f95 _ _ _) (by simp[eV]) (by simp) ?_
 simp[hs,kK]
 omega
theorem f25(l:List Int)(n:Int)(hl:l.length<2 ^ 40):Wf T 25 [dI l,.i n] [] (Is (.b (decide (n∈l)))):=by
 refine Yg Bp ?_
 simp[Bp]
 refine eF.i (α:=Int) [0,1,5] rfl (fun i=>[(0,dI l),(1,.i n),(5,.i i)]) (fun _=>[]) (fun i=>0≤i∧i≤l.length∧n ∉ l.take i.toNat) (fun i=>l.length-i.toNat) 0 (by simp) (by simp) rfl ?_
 rintro i ⟨h0,h1,h2⟩
 simp
 (with_reducible repeat' first|refine Xk ?_<;>try simp|refine Xs ?_ ?_<;>intro h<;>(try intro h')<;>(try simp[h])<;>(try omega)|refine Xg ?_|omega)
 ·have:=eH h0 ‹_›
  simp_all
 ·skip
  rw[gj h0 ‹_›]
  simp_all
  exact fun e=>h e.symm
 ·simpa[iH (by omega:(l.length:Int)≤i)]using h2
theorem f93(a b:List Int)(ha:a.length<2 ^ 40)(hb:b.length<2 ^ 40):Wf T 93 [dI a,dI b] [] (Is (.i (iC a b))):=by
 refine Yg Cb ?_
 simp[Cb]
 refine eF.j (0:Int) (fun i=>[(0,dI a),(1,dI b),(5,.i i)]) (fun _=>_) (fun i=>0≤i∧i≤a.length∧i≤b.length∧a.take i.toNat=b.take i.toNat) (fun i=>a.length-i.toNat) ?_ (by simp) (by first|rfl|simp) rfl ?_
 ·simp
 rintro i ⟨h0,h1,De,h2⟩
 have e:=MF h2 (by omega) (by omega)
 simp
 (with_reducible repeat' first|refine Xk ?_<;>try simp|refine Xs ?_ ?_<;>intro h<;>(try intro h')<;>(try simp[h])<;>(try omega)|refine Xg ?_|omega)
 ·skip
  rw[gj h0 (by omega),gj h0 (by omega),h2]
  simp_all
 ·refine Yt (f94 _ _) ?_
  simp
  rw[e,kP h0 ‹_›,kP h0 ‹_›,iC,if_neg (by assumption)]
 all_goals
  refine Yc (f94 _ _) ?_
  simp
  rw[e,Hq (by simp only[bk];omega)]
  simp only[bk,iF]
  (repeat' split)<;>omega
theorem f50(p q:Pos)(hp:Small p)(hq:Small q):Wf T 50 [dP p,dP q] [] (Is (.i (fG p q))):=by
 refine Yg BN ?_
 simp[BN]
 refine Yt (f93 _ _ hp.1 hq.1) ?_
 simp
 refine Yt (f93 _ _ hp.2.1 hq.2.1) ?_
 simp
 refine Yt (f93 _ _ hp.2.2 hq.2.2) ?_
 simp
 refine Yt (f94 _ _) ?_
 simp
 refine Yt (f94 _ _) ?_
 simp
 (refine eF.un ?_;(repeat' first|(refine gS.u ?_;simp;done)|(refine gS.u ?_;simp)|((with_reducible first|refine X2.d ?_ ?_|refine X2.a ?_ ?_|refine X2.o ?_ ?_|refine X2.b ?_ ?_)<;>intro h<;>(try simp[h]))|fail))
 all_goals simp_all [fG,ke]
theorem f51(n:Int):Wf T 51 [.i n] [] (Is (.agg [.i (eS n),.i (gV n)])):=by
 refine Yg BO ?_
 simp[BO]
 refine Yc (f95 _ _ _) ?_
 simp
 (with_reducible repeat' first|refine Xk ?_<;>try simp|refine Xs ?_ ?_<;>intro h<;>(try intro h')<;>(try simp[h])<;>(try omega)|refine Xg ?_|omega)
 ·rw[wE (by omega) (by omega) (by omega),jo (by omega)]
  simp[eS,gV];omega
 ·simp[eS,gV];omega
theorem f84(n:Int):Wf T 84 [.i n] [] (Is (.tup [.i (eS n),.i (gV n)])):=by
 refine Yg B6 ?_
 simp[B6]
 (with_reducible repeat' first|refine Xk ?_<;>try simp|refine Xs ?_ ?_<;>intro h<;>(try intro h')<;>(try simp[h])<;>(try omega)|refine Xg ?_|omega)
 ·simp[eS,gV];omega
 ·simp[eS,gV];omega
 ·rw[wE (by omega) (by omega) (by omega),jo (by omega)]
  simp[eS,gV];omega
theorem f251(g:ey)(hg:kT g)(s d c:Int):Wf T 251 [g.gH,.i s,.i d,.i c] [] (Is (.i (jq g s d c))):=by
 have hn:=hg.next
 have ht:=hg.gE
 refine Yg Br ?_
 simp[Br]
 (with_reducible repeat' first|refine Xk ?_<;>try simp|refine Xs ?_ ?_<;>intro h<;>(try intro h')<;>(try simp[h])<;>(try omega)|refine Xg ?_|omega)
 all_goals first
  | (simp only[jq];rw[if_pos (by omega)])
  | skip
 ·rename_i h
  have:=hg.turns d (by omega) (by omega)
  have hr:=hg.row (gt g.next (gt g.gE d)) (eH (by omega) (by omega))
  (with_reducible repeat' first|refine Xk ?_<;>try simp|refine Xs ?_ ?_<;>intro h<;>(try intro h')<;>(try simp[h])<;>(try omega)|refine Xg ?_|omega)
  simp only[jq];rw[if_neg (by omega)];simp
 ·rename_i h
  have hr:=hg.row (gt g.next d) (eH (by omega) (by omega))
  (with_reducible repeat' first|refine Xk ?_<;>try simp|refine Xs ?_ ?_<;>intro h<;>(try intro h')<;>(try simp[h])<;>(try omega)|refine Xg ?_|omega)
  simp only[jq];rw[if_neg (by omega)];simp[h]
theorem f240(g:ey)(hg:kT g)(s d c:Int):Wf T 240 [g.gH,.i s,.i d,.i c] [] (Is (.i (jq g s d c))):=by
 have hn:=hg.next
 have ht:=hg.gE
 refine Yg Bl ?_
 simp[Bl]
 (with_reducible repeat' first|refine Xk ?_<;>try simp|refine Xs ?_ ?_<;>intro h<;>(try intro h')<;>(try simp[h])<;>(try omega)|refine Xg ?_|omega)
 all_goals first
  | (simp only[jq];rw[if_pos (by omega)])
  | skip
 ·rename_i h
  have:=hg.turns d (by omega) (by omega)
  have hr:=hg.row (gt g.next (gt g.gE d)) (eH (by omega) (by omega))
  (with_reducible repeat' first|refine Xk ?_<;>try simp|refine Xs ?_ ?_<;>intro h<;>(try intro h')<;>(try simp[h])<;>(try omega)|refine Xg ?_|omega)
  simp only[jq];rw[if_neg (by omega)];simp
 ·rename_i h
  have hr:=hg.row (gt g.next d) (eH (by omega) (by omega))
  (with_reducible repeat' first|refine Xk ?_<;>try simp|refine Xs ?_ ?_<;>intro h<;>(try intro h')<;>(try simp[h])<;>(try omega)|refine Xg ?_|omega)
  simp only[jq];rw[if_neg (by omega)];simp[h]
theorem f110(p q:Pos)(hp:Small p)(hq:Small q):Wf T 110 [dP p,dP q] [] (Is (.b (decide (p=q)))):=by
 refine Yg Ag ?_
 simp[Ag]
 refine Yc (f50 p q hp hq) ?_
 simp
 rw[mI]
