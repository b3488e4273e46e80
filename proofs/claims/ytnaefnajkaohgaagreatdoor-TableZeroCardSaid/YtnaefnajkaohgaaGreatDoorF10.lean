/- Part 10 of the proof of skewer.skewerlaw15.TableZero. -/
import Derived.Test.YtnaefnajkaohgaaGreatDoorF09
import Derived.Test.YtnaefnajkaohgaaGreatDoorF07
set_option linter.all false
namespace Go.AL
def iB(a b:Int):Int:=if a<b then -1 else if a>b then 1 else 0
def iy:List Int→List Int→Int
 | [],[]=>0
 | [],_::_ => -1
 | _::_,[]=>1
 | a::l,b::m=>if a=b then iy l m else iB a b
def jW:List Int→Int
 | []=>0
 | a::l=>if a≠0 then a else jW l
def fD(p q:Pos):Int:=jW [iy p.cs q.cs,iy p.h0 q.h0,iy p.h1 q.h1,iB p.eQ q.eQ,iB p.side q.side]
theorem ru{a b:Int}:iB a b=0↔a=b:=by
 unfold iB;(repeat' split)<;>omega
theorem v7{a b:Int}:iB a b<0↔a<b:=by
 unfold iB;(repeat' split)<;>omega
theorem DX(a b:Int):iB b a = - iB a b:=by
 unfold iB;(repeat' split)<;>omega
theorem DO:∀ {a b:List Int},iy a b=0↔a=b
 | [],[]=>by simp[iy]
 | [],_::_=>by simp[iy]
 | _::_,[]=>by simp[iy]
 | a::l,b::m=>by
  unfold iy
  split
  ·rename_i h;subst h;rw[DO];simp
  ·rename_i h;rw[ru];simp[h]
theorem DM:∀ (a b:List Int),iy b a = - iy a b
 | [],[]=>rfl
 | [],_::_=>rfl
 | _::_,[]=>rfl
 | a::l,b::m=>by
  unfold iy
  by_cases h:a=b
  ·subst h;simp[DM l m]
  ·rw[if_neg h,if_neg (dg h),DX]
theorem DN:∀ {a b c:List Int},iy a b<0→iy b c<0→iy a c<0
 | [],[],c,h,_=>by simp[iy]at h
 | _::_,[],c,h,_=>by simp[iy]at h
 | a,_::_,[],_,h=>by simp[iy]at h
 | [],_::_,_::_,_,_=>by simp[iy]
 | a::l,b::m,c::k,h1,h2=>by
  unfold iy at *
  by_cases e1:a=b
  ·subst e1
   rw[if_pos rfl]at h1
   by_cases e2:a=c
   ·subst e2
    rw[if_pos rfl]at h2 ⊢
    exact DN h1 h2
   ·rw[if_neg e2]at h2 ⊢;exact h2
  ·rw[if_neg e1,v7]at h1
   by_cases e2:b=c
   ·subst e2;rw[if_neg e1,v7];exact h1
   ·rw[if_neg e2,v7]at h2
    rw[if_neg (by omega),v7];omega
theorem FF:∀ {l:List Int},jW l=0↔∀ x∈l,x=0
 | []=>by simp[jW]
 | a::l=>by
  unfold jW
  split
  ·rename_i h;simp[h]
  ·rename_i h;rw[FF];simp_all
theorem mD{p q:Pos}:fD p q=0↔p=q:=by
 unfold fD
 rw[FF]
 cases p;cases q
 simp[DO,ru]
theorem oH(p:Pos):fD p p=0:=mD.2 rfl
theorem o7(p q:Pos):fD q p = - fD p q:=by
 unfold fD jW
 rw[DM p.cs,DM p.h0,DM p.h1,DX p.eQ,DX p.side]
 simp only[jW]
 (repeat' split)<;>omega
theorem tD{A B C:Int}{a b c:List Int}(h1:A=0→C=B)(h2:B=0→C=A)(h3:A<0→B<0→C<0)(h:jW a<0→jW b<0→jW c<0):jW (A::a)<0→jW (B::b)<0→jW (C::c)<0:=by
 unfold jW
 intro x y
 by_cases hA:A=0
 ·have:=h1 hA
  subst this
  rw[if_neg (by simpa using hA)]at x
  by_cases hB:C=0
  ·rw[if_neg (by simpa using hB)]at y ⊢
   exact h x y
  ·rw[if_pos hB]at y ⊢;exact y
 ·rw[if_pos hA]at x
  by_cases hB:B=0
  ·have:=h2 hB
   subst this
   rw[if_pos hA];exact x
  ·rw[if_pos hB]at y
   have:=h3 x y
   rw[if_pos (by omega)];exact this
theorem rZ{p q r:Pos}:fD p q<0→fD q r<0→fD p r<0:=by
 have key:∀ a b c:List Int,iy a b=0→iy a c=iy b c:=fun a b c h=>by rw[DO.1 h]
 have G4:∀ a b c:List Int,iy b c=0→iy a c=iy a b:=fun a b c h=>by rw[DO.1 h]
 have n1:∀ a b c:Int,iB a b=0→iB a c=iB b c:=fun a b c h=>by rw[ru.1 h]
 have n2:∀ a b c:Int,iB b c=0→iB a c=iB a b:=fun a b c h=>by rw[ru.1 h]
 have nt:∀ a b c:Int,iB a b<0→iB b c<0→iB a c<0:=fun a b c=>by simp only[v7];omega
 unfold fD
 refine tD (key _ _ _) (G4 _ _ _) DN (tD (key _ _ _) (G4 _ _ _) DN (tD (key _ _ _) (G4 _ _ _) DN (tD (n1 _ _ _) (n2 _ _ _) (nt _ _ _) (tD (n1 _ _ _) (n2 _ _ _) (nt _ _ _) fun h=>?_))))
 simp[jW]at h
theorem Mk{a b:List Int}:∀ {i:Nat},a.take i=b.take i→i≤a.length→i≤b.length→iy a b=iy (a.drop i) (b.drop i):=by
 intro i
 induction i generalizing a b with
 | zero=>intro _ _ _;rfl
 | succ i ih=>
  intro h h1 h2
  cases a with
  | nil=>simp at h1
  | cons x a=>
   cases b with
   | nil=>simp at h2
   | cons y b=>
    simp only[List.take_succ_cons,cz]at h
    simp only[aJ]at h1 h2
    simp only[List.drop_succ_cons,iy,h.1,if_true]
    exact ih h.2 (by omega) (by omega)
theorem Ha{a b:List Int}(h:a.length=0∨b.length=0):iy a b=iB a.length b.length:=by
 cases a<;>cases b<;>simp_all [iy,iB]
 all_goals omega
theorem JP{p q r:Pos}(h1:fD p q≤0)(h2:fD q r≤0):fD p r≤0:=by
 by_cases a:fD p q=0
 ·rw[mD.1 a];exact h2
 ·by_cases b:fD q r=0
  ·rw[← mD.1 b];exact h1
  ·exact Int.le_of_lt (rZ (show fD p q<0 by omega) (show fD q r<0 by omega))
def WS(l:List Pos):Prop:=l.Pairwise fun x y=>fD x y≤0
def Small(p:Pos):Prop:=p.cs.length<2 ^ 40∧p.h0.length<2 ^ 40∧p.h1.length<2 ^ 40
def iE(l:List Pos):Prop:=∀ i:Int,1≤i→i<l.length→fD (gt l (i-1)) (gt l i)<0
theorem iE.lt{l:List Pos}(h:iE l){i:Int}(h0:0≤i):∀ {n:Nat},i<n→(n:Int)<l.length→fD (gt l i) (gt l n)<0
 | 0,h1,_=>by omega
 | n+1,h1,h2=>by
  have:=h (n+1) (by omega) (by omega)
  rw[cO]at this
  by_cases e:i=n
  ·subst e;exact this
  ·exact rZ (h.lt h0 (by omega) (by omega)) this
theorem iE.le{l:List Pos}(h:iE l){i j:Int}(h0:0≤i)(h1:i<j)(h2:j<l.length):fD (gt l i) (gt l j)<0:=by
 have:=h.lt h0 (n:=j.toNat) (by omega) (by omega)
 rwa [bZ (by omega)]at this
theorem iE.inj{l:List Pos}(h:iE l){i j:Int}(h0:0≤i)(h1:i<l.length)(h2:0≤j)(h3:j<l.length)(e:gt l i=gt l j):i=j:=by
 by_cases a:i<j
 ·have:=h.le h0 a h3;rw[e,oH]at this;omega
 ·by_cases b:j<i
  ·have:=h.le h2 b h1;rw[e,oH]at this;omega
  ·omega
def lJ(l:List Pos)(p:Pos):Int:=if p∈l then(l.idxOf p:Int)else -1
theorem Ko{l:List Pos}{p:Pos}(h:p ∉ l):lJ l p = -1:=if_neg h
theorem xL{l:List Pos}{p:Pos}(h:p∈l):0≤lJ l p∧lJ l p<l.length∧gt l (lJ l p)=p:=by
 unfold lJ
 rw[if_pos h]
 have hi:l.idxOf p<l.length:=List.idxOf_lt_length_iff.2 h
 refine⟨by omega,by omega,?_⟩
 rw[C2 hi]
 exact List.getElem_idxOf hi
theorem P2{l:List Pos}(hs:iE l){i:Int}(h0:0≤i)(h1:i<l.length):lJ l (gt l i)=i:=by
 obtain⟨a,b,c⟩:=xL (eI h0 h1)
 exact hs.inj a b h0 h1 c
end Go.AL
namespace Go.AL
open Go
def pt{α:Type}(l:List α)(n:Int)(v:α):List α:=l.take n.toNat++v::l.drop (n.toNat+1)
section
variable{α:Type}[Inhabited α]{l:List α}{n k:Int}{v:α}
theorem za(h0:0≤n)(h:n<l.length):pt l n v=l.set n.toNat v:=by
 rw[pt,cm,if_pos (by omega)]
theorem fX(h0:0≤n)(h:n<l.length):(pt l n v).length=l.length:=by
 rw[za h0 h,bV]
theorem nU(h0:0≤n)(h:n<l.length)(hk:0≤k):gt (pt l n v) k=if k=n then v else gt l k:=by
 rw[za h0 h]
 unfold gt
 simp only[List.getD_eq_getElem?_getD,bH]
 by_cases e:k=n
 ·subst e;rw[if_pos rfl,if_pos rfl,if_pos (by omega)];rfl
 ·rw[if_neg (by omega),if_neg e]
theorem vt(h0:0≤n)(h:n<l.length):gt (pt l n v) n=v:=by rw[nU h0 h h0,if_pos rfl]
theorem KD(h0:0≤n)(h:n<l.length)(hk:0≤k)(e:k≠n):gt (pt l n v) k=gt l k:=by rw[nU h0 h hk,if_neg e]
theorem Mv{x:α}(h:x∈pt l n v):x=v∨x∈l:=by
 unfold pt at h
 simp only[List.mem_append,ax]at h
 rcases h with h|h|h
 ·exact .inr (aN h)
 ·exact .inl h
 ·exact .inr (bN h)
end
@[simp] theorem ah3{α:Type}(l:List α)(n:Int)(v:α):l.take n.toNat++v::l.drop (n.toNat+1)=pt l n v:=(rfl)
def jl(g:ew)(s d c:Int):Int:=
 if s<0∨s>1∨d<0∨d≥g.next.length∨c<0∨c≥g.size then -1 else gt (gt g.next (if s=1 then gt g.gy d else d)) c
structure kN(g:ew):Prop where
 size:1≤g.size∧g.size≤9
 next:g.next.length=8
 row:∀ l∈g.next,(l.length:Int)=g.size∧∀ x∈l,-1≤x∧x<g.size
 gy:g.gy.length=8
 turns:∀ d,0≤d→d<8→0≤gt g.gy d∧gt g.gy d<8∧gt g.gy (gt g.gy d)=d
theorem kN.to{g:ew}(h:kN g)(s d c:Int) : -1≤jl g s d c∧jl g s d c<g.size:=by
 have:=h.size
 unfold jl
 split
 ·omega
 ·rename_i e
  have hn:=h.next
  simp only[not_or,dZ,Int.not_le,gt_iff_lt,ge_iff_le]at e
  have hd:0≤(if s=1 then gt g.gy d else d)∧(if s=1 then gt g.gy d else d)<8:=by
   split
   ·have:=h.turns d (by omega) (by omega);omega
   ·omega
  have hr:=h.row _ (eI (l:=g.next) hd.1 (by omega))
  exact hr.2 _ (eI (by omega) (by omega))
structure w9(g:ew)(x:eG):Prop where
 ok:((x.1=1∨x.1=2∨x.1=7)∧0≤x.2∧x.2<8)∨(3≤x.1∧x.1≤6∧x.2=0)∨(x.1=8∧0≤x.2∧x.2<g.kinds.length)∨((x.1=9∨x.1=10)∧0≤x.2∧x.2<g.eQ)
def kP(l:List eG)(op:Int):Int:=(l.countP fun x=>x.1=op:Nat)
structure qJ(g:ew)(l:List eG):Prop where
 len:1≤l.length∧l.length≤8
 steps:∀ x∈l,w9 g x
 oY:kP l 6≤2
 push:kP l 7≤1
 Ce:kP l 8≤1
structure uT(g:ew)(c:Clause):Prop where
 ok:(c.cond=1∧0≤c.kind∧c.kind<g.kinds.length∧c.n=0)∨(c.cond=2∧0≤c.kind∧c.kind<g.kinds.length∧0≤c.n∧c.n<g.size)∨(c.cond=3∧c.kind=0∧0≤c.n∧c.n≤64)
 out:1≤c.out∧c.out≤3
def kindName(n:Int):ByteArray:=if n=0 then⟨#[97]⟩else⟨#[98,101,101]⟩
structure eU(g:ew):Prop where
 gF:kN g
 kinds:1≤g.kinds.length∧g.kinds.length≤2
 names:∀ k:Int,0≤k→k<g.kinds.length→(gt g.kinds k).name=kindName k
 fW:∀ k∈g.kinds,k.fW.length≤4∧∀ l∈k.fW,qJ g l
 eQ:0≤g.eQ∧g.eQ≤2
 clauses:g.clauses.length≤3
 clause:∀ c∈g.clauses,uT g c
 blocked:1≤g.blocked∧g.blocked≤3
 p6:1≤g.p6∧g.p6≤3
structure mS(g:ew)(l:List Int):Prop where
 len:l.length=g.kinds.length
 at_:∀ k:Int,0≤k→k<l.length→0≤gt l k∧gt l k≤8∧(0<gt l k→(gt g.kinds k).nh=true)
structure fj(g:ew)(p:Pos):Prop where
 size:(p.cs.length:Int)=g.size
 h0:mS g p.h0
 h1:mS g p.h1
 eQ:0≤p.eQ∧p.eQ<2 ^ g.eQ.toNat
 side:0≤p.side∧p.side≤1
 cs:∀ x∈p.cs,0≤x∧x≤2*g.kinds.length
def eR(n:Int):Int:=if 1≤n∧n≤12 then(n-1) / 2 else -1
def gR(n:Int):Int:=if 1≤n∧n≤12 then(n-1) % 2 else -1
def jq(k s:Int):Int:=1+2*k+s
def oi(g:ew)(s d c:Int):Nat→Int→List Int→List Int
 | 0,_,out=>out
 | n+1,x,out=>if 0≤x∧x≠c∧x ∉ out then oi g s d c n (jl g s d x) (out ++ [x])else out
def iT(g:ew)(s d c:Int):List Int:=oi g s d c 10 (jl g s d c) []
theorem Mg{g:ew}(hg:kN g){s d c:Int}:∀ (n:Nat) (x:Int) (out:List Int),x<g.size→(∀ y∈out,0≤y∧y<g.size)→∀ y∈oi g s d c n x out,0≤y∧y<g.size
 | 0,x,out,_,h,y,hy=>h y hy
 | n+1,x,out,hx,h,y,hy=>by
  unfold oi at hy
  split at hy
  ·rename_i e
   refine Mg hg n _ _ (hg.to _ _ _).2 (fun z hz=>?_) y hy
   simp only[List.mem_append,List.mem_singleton]at hz
   rcases hz with hz|hz
   ·exact h z hz
   ·omega
  ·exact h y hy
theorem G9{g:ew}(hg:kN g){s d c y:Int}(h:y∈iT g s d c):0≤y∧y<g.size:=Mg hg _ _ _ (hg.to _ _ _).2 (by simp) y h
theorem yY:∀ (n:Nat) (l:List Int),l.Nodup→(∀ y∈l,0≤y∧y<n)→l.length≤n
 | 0,[],_,_=>by simp
 | 0,a::l,_,h=>by have:=h a (by simp);omega
 | n+1,l,hn,h=>by
  by_cases e:(n:Int)∈l
  ·have h1:(l.erase (n:Int)).length≤n:=yY n _ (hn.erase _) fun y hy=>by
    have:=(hn.mem_erase_iff).1 hy
    have:=h y this.2
    omega
   rw[dJ e]at h1
   omega
  ·have:=yY n l hn fun y hy=>by
    have:=h y hy
    have:y≠n:=fun e2=>e (e2▸hy)
    omega
   omega
structure eD where
 p:Pos
 kind:Int
 cur:Int
 gL:Bool
 deriving DecidableEq,Inhabited
def eD.cells(s:eD):List D:=[dI s.p.cs,dI s.p.h0,dI s.p.h1,.i s.p.eQ,.i s.p.side,.i s.kind,.i s.cur,.b s.gL]
structure gZ(g:ew)(s:eD):Prop where
 p:fj g s.p
 kind:0≤s.kind∧s.kind<g.kinds.length
 cur:0≤s.cur∧s.cur<g.size
def Pos.hand(p:Pos)(s:Int):List Int:=if s=0 then p.h0 else p.h1
def Pos.jI(p:Pos)(s:Int)(l:List Int):Pos:=if s=0 then{ p with h0:=l }else{ p with h1:=l }
def l5(s:eD):List Int→List eD
 | []=>[]
 | c::r=>{ s with cur:=c }::if gt s.p.cs c=0 then l5 s r else []
def nN(g:ew)(s:eD):List eD:=
 let c:=gt s.p.cs s.cur
 if gR c≠1-s.p.side then []else
  let p:={ s.p with cs:=pt s.p.cs s.cur 0 }
  if (gt g.kinds (eR c)).nh=false then [{ s with p:=p,gL:=true }]else
   let n:=gt (s.p.hand s.p.side) (eR c)+1
   if n≤8 then [{ s with p:=p.jI s.p.side (pt (s.p.hand s.p.side) (eR c) n),gL:=true }]else []
def oy(g:ew)(s:eD)(n:Int):List eD:=
 let to:=jl g s.p.side n s.cur
 if gt s.p.cs s.cur=0∨to<0∨gt s.p.cs to≠0 then []else
  [{ s with p:={ s.p with cs:=pt (pt s.p.cs to (gt s.p.cs s.cur)) s.cur 0 } }]
def tK(r n:Int):Prop:=r / 2 ^ n.toNat % 2=1
instance(r n:Int):Decidable (tK r n):=by unfold tK;infer_instance
def dropRight(r n:Int):Int:=if tK r n then r-2 ^ n.toNat else r
theorem H8{b:Int}(h0:0≤b)(h:b≤4):Er .i64 1 b=2 ^ b.toNat:=by
 have:b=0∨b=1∨b=2∨b=3∨b=4:=by omega
 rcases this with rfl|rfl|rfl|rfl|rfl<;>decide
theorem My{r:Int}(h0:0≤r)(h:r<16):∃ i:Fin 16,r=(i.val:Int):=⟨⟨r.toNat,by omega⟩,by simp;omega⟩
theorem Mz{r:Int}(h0:0≤r)(h:r<4):∃ i:Fin 4,r=(i.val:Int):=⟨⟨r.toNat,by omega⟩,by simp;omega⟩
theorem Nk:∀ (i:Fin 16) (k:Fin 4),(bits .and .i64 (sV .i64 (i.val:Int) (k.val:Int)) 1=1↔tK (i.val:Int) (k.val:Int))∧bits .andNot .i64 (i.val:Int) (Er .i64 1 (k.val:Int))=dropRight (i.val:Int) (k.val:Int):=by decide +kernel
theorem Ni{r n:Int}(h0:0≤r)(h1:r<16)(h2:0≤n)(h3:n<4):(bits .and .i64 (sV .i64 r n) 1=1)=tK r n:=by
 obtain⟨i,rfl⟩:=My h0 h1
 obtain⟨k,rfl⟩:=Mz h2 h3
 exact propext (Nk i k).1
theorem Nj{r n:Int}(h0:0≤r)(h1:r<16)(h2:0≤n)(h3:n<4):bits .andNot .i64 r (Er .i64 1 n)=dropRight r n:=by
 obtain⟨i,rfl⟩:=My h0 h1
 obtain⟨k,rfl⟩:=Mz h2 h3
 exact(Nk i k).2
theorem wh{b:Int}(h0:0≤b)(h:b≤4):(2:Int) ^ b.toNat≤16:=by
 have:b=0∨b=1∨b=2∨b=3∨b=4:=by omega
 rcases this with rfl|rfl|rfl|rfl|rfl<;>decide
def fZ(g:ew)(s:eD)(x:eG):List eD:=
 let c:=gt s.p.cs s.cur
 if x.1=1 then(let to:=jl g s.p.side x.2 s.cur;if 0≤to then [{ s with cur:=to }]else [])
 else if x.1=2 then l5 s (iT g s.p.side x.2 s.cur)
 else if x.1=3 then(if c=0 then [s]else [])
 else if x.1=4 then(if gR c=1-s.p.side then [s]else [])
 else if x.1=5 then(if gR c=s.p.side then [s]else [])
 else if x.1=6 then nN g s
 else if x.1=7 then oy g s x.2
 else if x.1=8 then [{ s with kind:=x.2 }]
 else if x.1=9 then(if tK s.p.eQ x.2 then [s]else [])
 else [{ s with p:={ s.p with eQ:=dropRight s.p.eQ x.2 } }]
def nK(g:ew):List eG→List eD→List eD
 | [],l=>l
 | x::r,l=>nK g r (l.flatMap fun s=>fZ g s x)
def iU(p:Pos)(cell:Int):eD:={ p:={ p with cs:=pt p.cs cell 0 },kind:=eR (gt p.cs cell),cur:=cell,gL:=false }
structure eW where
 p:Pos
 gL:Bool
 deriving DecidableEq,Inhabited
def eW.cells(o:eW):List D:=[dI o.p.cs,dI o.p.h0,dI o.p.h1,.i o.p.eQ,.i o.p.side,.b o.gL]
def kJ(side:Int)(s:eD):Option eW:=
 if gt s.p.cs s.cur=0 then some { p:={ s.p with cs:=pt s.p.cs s.cur (jq s.kind side),side:=1-side },gL:=s.gL }else none
def oT(g:ew)(p:Pos)(cell:Int)(l:List eG):List eW:=(nK g l [iU p cell]).filterMap (kJ p.side)
def upto(n:Nat):List Int:=(List.range n).map fun k:Nat=>(k:Int)
theorem iO{n:Nat}{k:Int}:k∈upto n↔0≤k∧k<n:=by
 simp only[upto,aw,bG]
 constructor
 ·rintro⟨a,h,rfl⟩;omega
 ·intro h;exact⟨k.toNat,by omega,by omega⟩
def lP(g:ew)(p:Pos)(c:Int):List eW:=if gR (gt p.cs c)=p.side then(gt g.kinds (eR (gt p.cs c))).fW.flatMap (oT g p c)else []
def l7(g:ew)(p:Pos):List eW:=(upto p.cs.length).flatMap (lP g p)
def gW(p:Pos)(k c:Int):Pos:={ p.jI p.side (pt (p.hand p.side) k (gt (p.hand p.side) k-1))with cs:=pt p.cs c (jq k p.side),side:=1-p.side }
def rJ(g:ew)(p q:Pos):Prop:=∃ k c:Int,0≤k∧k<g.kinds.length∧0≤c∧c<p.cs.length∧gt (p.hand p.side) k≠0∧gt p.cs c=0∧q=gW p k c
def pB(p:Pos)(side kind:Int):Int:=(p.cs.countP fun c=>0≤eR c∧gR c=side∧(kind<0∨eR c=kind):Nat)
def kQ(p:Pos)(c:Clause):Prop:=
 if c.cond=1 then pB p p.side c.kind=0 else if c.cond=2 then gt p.cs c.n=jq c.kind (1-p.side)else pB p p.side (-1)≤c.n
def mz(g:ew)(p q:Pos):Prop:=
 (∀ c∈g.clauses,¬ kQ p c) ∧
 if g.kT=true∧(∃ o∈l7 g p,o.gL=true)then⟨q,true⟩∈l7 g p else(∃ o∈l7 g p,o.p=q)∨rJ g p q
theorem fj.small{g:ew}(hg:eU g){p:Pos}(h:fj g p):Small p:=by
 have h1:=h.size;have h2:=hg.gF.size;have h3:=h.h0.len;have h4:=h.h1.len;have h5:=hg.kinds
 exact⟨by omega,by omega,by omega⟩
theorem fj.hand{g:ew}{p:Pos}(h:fj g p)(s:Int):mS g (p.hand s):=by
 unfold Pos.hand;split
 ·exact h.h0
 ·exact h.h1
theorem fj.jI{g:ew}{p:Pos}(h:fj g p)(s:Int){l:List Int}(hl:mS g l):fj g (p.jI s l):=by
 unfold Pos.jI;split
 ·exact{ h with h0:=hl }
 ·exact{ h with h1:=hl }
theorem fj.uN{g:ew}{p:Pos}(h:fj g p){c v:Int}(hc:0≤c)(QP:c<g.size)(hv:0≤v∧v≤2*g.kinds.length):fj g { p with cs:=pt p.cs c v }:=
 { h with
  size:=by dsimp only;rw[fX hc (by rw[h.size];exact QP)];exact h.size
  cs:=fun x hx=>by
   rcases Mv hx with rfl|hx
   ·exact hv
   ·exact h.cs x hx }
theorem mS.set{g:ew}{l:List Int}(h:mS g l){k v:Int}(hk:0≤k)(jr:k<l.length)(hv:0≤v∧v≤8∧(0<v→(gt g.kinds k).nh=true)):mS g (pt l k v) where
 len:=by rw[fX hk jr];exact h.len
 at_ j hj Db:=by
  rw[fX hk jr]at Db
  rw[nU hk jr hj]
  split
  ·rename_i e;subst e;exact hv
  ·exact h.at_ j hj Db
theorem rp{n:Int}{g:ew}(h:n≤2*g.kinds.length)(hk:1≤g.kinds.length):eR n<g.kinds.length:=by
 unfold eR;split<;>omega
theorem yN{n s:Int}(hs:0≤s)(h:gR n=s):0≤eR n∧1≤n∧n≤12∧n=jq (eR n) s:=by
 unfold gR at h;unfold eR jq
 split at h<;>rename_i e
 ·rw[if_pos e];omega
 ·omega
theorem Pg{r n k:Int}(h:0≤r)(h2:r<2 ^ k.toNat):0≤dropRight r n∧dropRight r n<2 ^ k.toNat:=by
 unfold dropRight
 split
 ·rename_i e
  unfold tK at e
  have hp:(0:Int)<2 ^ n.toNat:=Int.pow_pos (by decide)
  have:2 ^ n.toNat≤r:=by
   by_cases c:r<2 ^ n.toNat
   ·rw[Int.ediv_eq_zero_of_lt h c]at e;simp at e
   ·omega
  omega
 ·exact⟨h,h2⟩
theorem Mj{s t:eD}:∀ {l:List Int},t∈l5 s l→∃ c∈l,t = { s with cur:=c }
 | [],h=>by simp[l5]at h
 | c::r,h=>by
  unfold l5 at h
  rcases ax.1 h with h|h
  ·exact⟨c,by simp,h⟩
  ·split at h
   ·obtain⟨c',h1,h2⟩:=Mj h;exact⟨c',by simp[h1],h2⟩
   ·cases h
theorem uS{g:ew}(hg:eU g){s:eD}(hs:gZ g s){x:eG}(hx:w9 g x){t:eD}(h:t∈fZ g s x):gZ g t:=by
 have hb:=hg.gF
 have lq:s.cur<s.p.cs.length:=by rw[hs.p.size];exact hs.cur.2
 have hc:=hs.p.cs _ (eI hs.cur.1 lq)
 unfold fZ at h
 dsimp only at h
 split at h
 ·split at h
  ·rename_i h0
   rw[List.mem_singleton]at h;subst h
   exact{ hs with cur:=⟨h0,(hb.to _ _ _).2⟩ }
  ·cases h
 split at h
 ·obtain⟨c,h1,rfl⟩:=Mj h
  exact{ hs with cur:=G9 hb h1 }
 iterate 3
  split at h
  ·split at h
   ·rw[List.mem_singleton]at h;subst h;exact hs
   ·cases h
 split at h
 ·unfold nN at h
  dsimp only at h
  split at h
  ·cases h
  rename_i e
  have e:=Decidable.not_not.1 e
  have gp:=hs.p.side
  obtain⟨m1,m2,m3,m4⟩:=yN (by omega) e
  have hk:eR (gt s.p.cs s.cur)<g.kinds.length:=rp hc.2 hg.kinds.1
  have hp:fj g { s.p with cs:=pt s.p.cs s.cur 0 }:=hs.p.uN hs.cur.1 hs.cur.2 (by omega)
  split at h
  ·rw[List.mem_singleton]at h;subst h
   exact{ hs with p:=hp }
  rename_i kp
  split at h
  ·rename_i h8
   rw[List.mem_singleton]at h;subst h
   have hh:=hs.p.hand s.p.side
   have hl:=hh.len
   have ha:=hh.at_ _ m1 (by rw[hl];exact hk)
   exact{ hs with p:=hp.jI _ (hh.set m1 (by rw[hl];exact hk) ⟨by omega,by omega,fun _=>by simpa using kp⟩) }
  ·cases h
 split at h
 ·unfold oy at h
  dsimp only at h
  split at h
  ·cases h
  rename_i e
  simp only[not_or,dZ]at e
  rw[List.mem_singleton]at h;subst h
  have h1:=hs.p.uN (c:=jl g s.p.side x.2 s.cur) (v:=gt s.p.cs s.cur) e.2.1 (hb.to _ _ _).2 hc
  exact{ hs with p:=h1.uN hs.cur.1 hs.cur.2 (by omega) }
 split at h
 ·rename_i e8
  rw[List.mem_singleton]at h;subst h
  have hk:0≤x.2∧x.2<g.kinds.length:=by have:=hx.ok;omega
  exact{ hs with kind:=hk }
 split at h
 ·split at h
  ·rw[List.mem_singleton]at h;subst h;exact hs
  ·cases h
 ·rw[List.mem_singleton]at h;subst h
  exact{ hs with p:={ hs.p with eQ:=Pg hs.p.eQ.1 hs.p.eQ.2 } }
theorem Eh{g:ew}(hg:eU g):∀ {l:List eG} {a:List eD},(∀ x∈l,w9 g x)→(∀ s∈a,gZ g s)→∀ s∈nK g l a,gZ g s
 | [],_,_,h,s,hs=>h s hs
 | x::r,a,hx,h,s,hs=>by
  refine Eh (a:=a.flatMap fun s=>fZ g s x) hg (fun y hy=>hx y (by simp[hy])) (fun t ht=>?_) s hs
  obtain⟨u,hu,ht⟩:=bn.1 ht
  exact uS hg (h u hu) (hx x (by simp)) ht
theorem Nt{g:ew}:∀ {l:List eG} {a b:List eD},(∀ s,s∈a↔s∈b)→∀ s,s∈nK g l a↔s∈nK g l b
 | [],_,_,h,s=>h s
 | x::r,a,b,h,s=>Nt (l:=r) (fun t=>by simp only[bn,h]) s
theorem zF{g:ew}(hg:eU g){p:Pos}(hp:fj g p){c:Int}(h0:0≤c)(h1:c<g.size)(hm:gR (gt p.cs c)=p.side):gZ g (iU p c):=by
 have hc:=hp.cs _ (eI h0 (by rw[hp.size];exact h1))
 exact{ p:=hp.uN h0 h1 (by omega),kind:=⟨(yN hp.side.1 hm).1,rp hc.2 hg.kinds.1⟩,cur:=⟨h0,h1⟩ }
theorem CS{g:ew}{s:eD}(hs:gZ g s){side:Int}(h0:0≤side)(h1:side≤1){o:eW}(h:kJ side s=some o):fj g o.p:=by
 unfold kJ at h
 split at h
 ·cases h
  have:=hs.kind
  exact{ hs.p.uN hs.cur.1 hs.cur.2 (v:=jq s.kind side) (by unfold jq;omega)with side:=by dsimp only;omega }
 ·cases h
theorem D3{g:ew}(hg:eU g){p:Pos}(hp:fj g p){o:eW}(h:o∈l7 g p):fj g o.p:=by
 obtain⟨c,hc,h⟩:=bn.1 h
 rw[iO,hp.size]at hc
 unfold lP at h
 split at h
 ·rename_i e
  obtain⟨l,hl,h⟩:=bn.1 h
  obtain⟨s,hs,h⟩:=bR.1 h
  have eH:=zF hg hp hc.1 hc.2 e
  have hk:=hg.fW _ (eI (l:=g.kinds) eH.kind.1 eH.kind.2)
  exact CS (Eh hg (hk.2 l hl).steps (fun t ht=>by rw[List.mem_singleton]at ht;subst ht;exact eH) s hs) hp.side.1 hp.side.2 h
 ·cases h
theorem xE{g:ew}{p:Pos}(hp:fj g p){q:Pos}(h:rJ g p q):fj g q:=by
 obtain⟨k,c,h1,h2,h3,h4,h5,h6,rfl⟩:=h
 have hh:=hp.hand p.side
 have hl:=hh.len
 have ha:=hh.at_ k h1 (by omega)
 have hs:=hp.side
 have hz:=hp.size
 have vK:=(hp.jI p.side (hh.set h1 (v:=gt (p.hand p.side) k-1) (by omega) ⟨by omega,by omega,fun _=>ha.2.2 (by omega)⟩))
 have e:(p.jI p.side (pt (p.hand p.side) k (gt (p.hand p.side) k-1))).cs=p.cs:=by unfold Pos.jI;split<;>rfl
 have:=vK.uN (c:=c) (v:=jq k p.side) h3 (by omega) (by unfold jq;omega)
 rw[e]at this
 exact{ this with side:=by dsimp only[gW];omega }
theorem Hs{g:ew}(hg:eU g){p:Pos}(hp:fj g p){q:Pos}(h:mz g p q):fj g q:=by
 obtain⟨_,h⟩:=h
 split at h
 ·exact D3 hg hp h
 ·rcases h with⟨o,h,rfl⟩|h
  ·exact D3 hg hp h
  ·exact xE hp h
end Go.AL
namespace Go.Proofs.YtnaefnajkaohgaaGreatDoor
open Go Go.AL Classical
set_option maxRecDepth 10000
theorem f95(n a b:Int):Wf T 95 [.i n,.i a,.i b] [] (Is (.b (decide (a≤n∧n≤b)))):=by
 refine Yg B4 ?_
 simp[B4]
 (with_reducible repeat' first|refine Xk ?_<;>try simp|refine Xs ?_ ?_<;>intro h<;>(try intro h')<;>(try simp[h])<;>(try omega)|refine Xg ?_|omega)
theorem f94(a b:Int):Wf T 94 [.i a,.i b] [] (Is (.i (iB a b))):=by
 refine Yg B3 ?_
 simp[B3]
 (with_reducible repeat' first|refine Xk ?_<;>try simp|refine Xs ?_ ?_<;>intro h<;>(try intro h')<;>(try simp[h])<;>(try omega)|refine Xg ?_|omega)
 all_goals (simp only[iB];(repeat' split)<;>omega)
theorem f92{k s:Int}(hk:0≤k)(jr:k<6)(hs:0≤s)(kD:s≤1):Wf T 92 [.i k,.i s] [] (Is (.i (1+2*k+s))):=by
 refine Yg B1 ?_
 simp[B1]
 (with_reducible repeat' first|refine Xk ?_<;>try simp|refine Xs ?_ ?_<;>intro h<;>(try intro h')<;>(try simp[h])<;>(try omega)|refine Xg ?_|omega)
theorem f156{k s:Int}(hk:0≤k)(jr:k<6)(hs:0≤s)(kD:s≤1):Wf T 156 [.i k,.i s] [] (Is (.i (1+2*k+s))):=by
 refine Yg AE ?_
 simp[AE]
 refine eS.c rfl rfl (f95 _ _ _) (by simp[eT]) (by simp) ?_
 simp[show k≤5 by omega,hk]
 refine eS.c rfl rfl (f95 _ _ _) (by simp[eT]) (by simp) ?_
 simp[hs,kD]
 omega
theorem f25(l:List Int)(n:Int)(hl:l.length<2 ^ 40):Wf T 25 [dI l,.i n] [] (Is (.b (decide (n∈l)))):=by
 refine Yg Bg ?_
 simp[Bg]
 refine eE.i (α:=Int) [0,1,5] rfl (fun i=>[(0,dI l),(1,.i n),(5,.i i)]) (fun _=>[]) (fun i=>0≤i∧i≤l.length∧n ∉ l.take i.toNat) (fun i=>l.length-i.toNat) 0 (by simp) (by simp) rfl ?_
 rintro i ⟨h0,h1,h2⟩
 simp
 (with_reducible repeat' first|refine Xk ?_<;>try simp|refine Xs ?_ ?_<;>intro h<;>(try intro h')<;>(try simp[h])<;>(try omega)|refine Xg ?_|omega)
 ·have:=eI h0 ‹_›
  simp_all
 ·skip
  rw[gg h0 ‹_›]
  simp_all
  exact fun e=>h e.symm
 ·simpa[iD (by omega:(l.length:Int)≤i)]using h2
theorem f93(a b:List Int)(ha:a.length<2 ^ 40)(hb:b.length<2 ^ 40):Wf T 93 [dI a,dI b] [] (Is (.i (iy a b))):=by
 refine Yg B2 ?_
 simp[B2]
 refine eE.j (0:Int) (fun i=>[(0,dI a),(1,dI b),(5,.i i)]) (fun _=>_) (fun i=>0≤i∧i≤a.length∧i≤b.length∧a.take i.toNat=b.take i.toNat) (fun i=>a.length-i.toNat) ?_ (by simp) (by first|rfl|simp) rfl ?_
 ·simp
 rintro i ⟨h0,h1,C4,h2⟩
 have e:=Mk h2 (by omega) (by omega)
 simp
 (with_reducible repeat' first|refine Xk ?_<;>try simp|refine Xs ?_ ?_<;>intro h<;>(try intro h')<;>(try simp[h])<;>(try omega)|refine Xg ?_|omega)
 ·skip
  rw[gg h0 (by omega),gg h0 (by omega),h2]
  simp_all
 ·refine Yt (f94 _ _) ?_
  simp
  rw[e,kI h0 ‹_›,kI h0 ‹_›,iy,if_neg (by assumption)]
 all_goals
  refine Yc (f94 _ _) ?_
  simp
  rw[e,Ha (by simp only[bk];omega)]
  simp only[bk,iB]
  (repeat' split)<;>omega
theorem f50(p q:Pos)(hp:Small p)(hq:Small q):Wf T 50 [dP p,dP q] [] (Is (.i (fD p q))):=by
 refine Yg BD ?_
 simp[BD]
 refine Yt (f93 _ _ hp.1 hq.1) ?_
 simp
 refine Yt (f93 _ _ hp.2.1 hq.2.1) ?_
 simp
 refine Yt (f93 _ _ hp.2.2 hq.2.2) ?_
 simp
 refine Yt (f94 _ _) ?_
 simp
 refine Yt (f94 _ _) ?_
 simp
 (refine eE.un ?_;(repeat' first|(refine ib.u ?_;simp;done)|(refine ib.u ?_;simp)|((with_reducible first|refine X2.d ?_ ?_|refine X2.a ?_ ?_|refine X2.o ?_ ?_|refine X2.b ?_ ?_)<;>intro h<;>(try simp[h]))|fail))
 all_goals simp_all [fD,jW]
theorem f51(n:Int):Wf T 51 [.i n] [] (Is (.agg [.i (eR n),.i (gR n)])):=by
 refine Yg BE ?_
 simp[BE]
 refine Yc (f95 _ _ _) ?_
 simp
 (with_reducible repeat' first|refine Xk ?_<;>try simp|refine Xs ?_ ?_<;>intro h<;>(try intro h')<;>(try simp[h])<;>(try omega)|refine Xg ?_|omega)
 ·rw[wj (by omega) (by omega) (by omega),jk (by omega)]
  simp[eR,gR];omega
 ·simp[eR,gR];omega
theorem f84(n:Int):Wf T 84 [.i n] [] (Is (.tup [.i (eR n),.i (gR n)])):=by
 refine Yg BW ?_
 simp[BW]
 (with_reducible repeat' first|refine Xk ?_<;>try simp|refine Xs ?_ ?_<;>intro h<;>(try intro h')<;>(try simp[h])<;>(try omega)|refine Xg ?_|omega)
 ·simp[eR,gR];omega
 ·simp[eR,gR];omega
 ·rw[wj (by omega) (by omega) (by omega),jk (by omega)]
  simp[eR,gR];omega
theorem f251(g:ew)(hg:kN g)(s d c:Int):Wf T 251 [g.gF,.i s,.i d,.i c] [] (Is (.i (jl g s d c))):=by
 have hn:=hg.next
 have ht:=hg.gy
 refine Yg Bi ?_
 simp[Bi]
 (with_reducible repeat' first|refine Xk ?_<;>try simp|refine Xs ?_ ?_<;>intro h<;>(try intro h')<;>(try simp[h])<;>(try omega)|refine Xg ?_|omega)
 all_goals first
  | (simp only[jl];rw[if_pos (by omega)])
  | skip
 ·rename_i h
  have:=hg.turns d (by omega) (by omega)
  have hr:=hg.row (gt g.next (gt g.gy d)) (eI (by omega) (by omega))
  (with_reducible repeat' first|refine Xk ?_<;>try simp|refine Xs ?_ ?_<;>intro h<;>(try intro h')<;>(try simp[h])<;>(try omega)|refine Xg ?_|omega)
  simp only[jl];rw[if_neg (by omega)];simp
 ·rename_i h
  have hr:=hg.row (gt g.next d) (eI (by omega) (by omega))
  (with_reducible repeat' first|refine Xk ?_<;>try simp|refine Xs ?_ ?_<;>intro h<;>(try intro h')<;>(try simp[h])<;>(try omega)|refine Xg ?_|omega)
  simp only[jl];rw[if_neg (by omega)];simp[h]
theorem f240(g:ew)(hg:kN g)(s d c:Int):Wf T 240 [g.gF,.i s,.i d,.i c] [] (Is (.i (jl g s d c))):=by
 have hn:=hg.next
 have ht:=hg.gy
 refine Yg Bc ?_
 simp[Bc]
 (with_reducible repeat' first|refine Xk ?_<;>try simp|refine Xs ?_ ?_<;>intro h<;>(try intro h')<;>(try simp[h])<;>(try omega)|refine Xg ?_|omega)
 all_goals first
  | (simp only[jl];rw[if_pos (by omega)])
  | skip
 ·rename_i h
  have:=hg.turns d (by omega) (by omega)
  have hr:=hg.row (gt g.next (gt g.gy d)) (eI (by omega) (by omega))
  (with_reducible repeat' first|refine Xk ?_<;>try simp|refine Xs ?_ ?_<;>intro h<;>(try intro h')<;>(try simp[h])<;>(try omega)|refine Xg ?_|omega)
  simp only[jl];rw[if_neg (by omega)];simp
 ·rename_i h
  have hr:=hg.row (gt g.next d) (eI (by omega) (by omega))
  (with_reducible repeat' first|refine Xk ?_<;>try simp|refine Xs ?_ ?_<;>intro h<;>(try intro h')<;>(try simp[h])<;>(try omega)|refine Xg ?_|omega)
  simp only[jl];rw[if_neg (by omega)];simp[h]
theorem f110(p q:Pos)(hp:Small p)(hq:Small q):Wf T 110 [dP p,dP q] [] (Is (.b (decide (p=q)))):=by
 refine Yg z7 ?_
 simp[z7]
 refine Yc (f50 p q hp hq) ?_
 simp
 rw[mD]
