/- Part 10 of the proof of skewer.skewerlaw15.TableAgain. -/
import Derived.Test.YtnaefnajkaohgaaGreatDoorD09
import Derived.Test.YtnaefnajkaohgaaGreatDoorD07
set_option linter.all false
namespace Go.AL
def iT(a b:Int):Int:=if a<b then -1 else if a>b then 1 else 0
def iP:List Int→List Int→Int
 | [],[]=>0
 | [],_::_ => -1
 | _::_,[]=>1
 | a::l,b::m=>if a=b then iP l m else iT a b
def kM:List Int→Int
 | []=>0
 | a::l=>if a≠0 then a else kM l
def gd(p q:Pos):Int:=kM [iP p.cs q.cs,iP p.h0 q.h0,iP p.h1 q.h1,iT p.fg q.fg,iT p.side q.side]
theorem sL{a b:Int}:iT a b=0↔a=b:=by
 unfold iT;(repeat' split)<;>omega
theorem xH{a b:Int}:iT a b<0↔a<b:=by
 unfold iT;(repeat' split)<;>omega
theorem FP(a b:Int):iT b a = - iT a b:=by
 unfold iT;(repeat' split)<;>omega
theorem FA:∀ {a b:List Int},iP a b=0↔a=b
 | [],[]=>by simp[iP]
 | [],_::_=>by simp[iP]
 | _::_,[]=>by simp[iP]
 | a::l,b::m=>by
  unfold iP
  split
  ·rename_i h;subst h;rw[FA];simp
  ·rename_i h;rw[sL];simp[h]
theorem Fy:∀ (a b:List Int),iP b a = - iP a b
 | [],[]=>rfl
 | [],_::_=>rfl
 | _::_,[]=>rfl
 | a::l,b::m=>by
  unfold iP
  by_cases h:a=b
  ·subst h;simp[Fy l m]
  ·rw[if_neg h,if_neg (dB h),FP]
theorem Fz:∀ {a b c:List Int},iP a b<0→iP b c<0→iP a c<0
 | [],[],c,h,_=>by simp[iP]at h
 | _::_,[],c,h,_=>by simp[iP]at h
 | a,_::_,[],_,h=>by simp[iP]at h
 | [],_::_,_::_,_,_=>by simp[iP]
 | a::l,b::m,c::k,h1,h2=>by
  unfold iP at *
  by_cases e1:a=b
  ·subst e1
   rw[if_pos rfl]at h1
   by_cases e2:a=c
   ·subst e2
    rw[if_pos rfl]at h2 ⊢
    exact Fz h1 h2
   ·rw[if_neg e2]at h2 ⊢;exact h2
  ·rw[if_neg e1,xH]at h1
   by_cases e2:b=c
   ·subst e2;rw[if_neg e1,xH];exact h1
   ·rw[if_neg e2,xH]at h2
    rw[if_neg (by omega),xH];omega
theorem HC:∀ {l:List Int},kM l=0↔∀ x∈l,x=0
 | []=>by simp[kM]
 | a::l=>by
  unfold kM
  split
  ·rename_i h;simp[h]
  ·rename_i h;rw[HC];simp_all
theorem nJ{p q:Pos}:gd p q=0↔p=q:=by
 unfold gd
 rw[HC]
 cases p;cases q
 simp[FA,sL]
theorem pH(p:Pos):gd p p=0:=nJ.2 rfl
theorem qc(p q:Pos):gd q p = - gd p q:=by
 unfold gd kM
 rw[Fy p.cs,Fy p.h0,Fy p.h1,FP p.fg,FP p.side]
 simp only[kM]
 (repeat' split)<;>omega
theorem u6{A B C:Int}{a b c:List Int}(h1:A=0→C=B)(h2:B=0→C=A)(h3:A<0→B<0→C<0)(h:kM a<0→kM b<0→kM c<0):kM (A::a)<0→kM (B::b)<0→kM (C::c)<0:=by
 unfold kM
 intro x y
 by_cases hA:A=0
 ·have:=h1 hA
  subst this
  rw[if_neg (by simpa using hA)]at x
  by_cases hB:C=0
  ·rw[if_neg (by simpa using hB)]at y ⊢
   exact h x y
  ·rw[if_pos hB]at y ⊢;exact y
 ·rw[if_pos hA]at x
  by_cases hB:B=0
  ·have:=h2 hB
   subst this
   rw[if_pos hA];exact x
  ·rw[if_pos hB]at y
   have:=h3 x y
   rw[if_pos (by omega)];exact this
theorem tl{p q r:Pos}:gd p q<0→gd q r<0→gd p r<0:=by
 have key:∀ a b c:List Int,iP a b=0→iP a c=iP b c:=fun a b c h=>by rw[FA.1 h]
 have Jg:∀ a b c:List Int,iP b c=0→iP a c=iP a b:=fun a b c h=>by rw[FA.1 h]
 have n1:∀ a b c:Int,iT a b=0→iT a c=iT b c:=fun a b c h=>by rw[sL.1 h]
 have n2:∀ a b c:Int,iT b c=0→iT a c=iT a b:=fun a b c h=>by rw[sL.1 h]
 have nt:∀ a b c:Int,iT a b<0→iT b c<0→iT a c<0:=fun a b c=>by simp only[xH];omega
 unfold gd
 refine u6 (key _ _ _) (Jg _ _ _) Fz (u6 (key _ _ _) (Jg _ _ _) Fz (u6 (key _ _ _) (Jg _ _ _) Fz (u6 (n1 _ _ _) (n2 _ _ _) (nt _ _ _) (u6 (n1 _ _ _) (n2 _ _ _) (nt _ _ _) fun h=>?_))))
 simp[kM]at h
theorem OG{a b:List Int}:∀ {i:Nat},a.take i=b.take i→i≤a.length→i≤b.length→iP a b=iP (a.drop i) (b.drop i):=by
 intro i
 induction i generalizing a b with
 | zero=>intro _ _ _;rfl
 | succ i ih=>
  intro h h1 h2
  cases a with
  | nil=>simp at h1
  | cons x a=>
   cases b with
   | nil=>simp at h2
   | cons y b=>
    simp only[List.take_succ_cons,cm]at h
    simp only[aJ]at h1 h2
    simp only[List.drop_succ_cons,iP,h.1,if_true]
    exact ih h.2 (by omega) (by omega)
theorem Jo{a b:List Int}(h:a.length=0∨b.length=0):iP a b=iT a.length b.length:=by
 cases a<;>cases b<;>simp_all [iP,iT]
 all_goals omega
theorem Ma{p q r:Pos}(h1:gd p q≤0)(h2:gd q r≤0):gd p r≤0:=by
 by_cases a:gd p q=0
 ·rw[nJ.1 a];exact h2
 ·by_cases b:gd q r=0
  ·rw[← nJ.1 b];exact h1
  ·exact Int.le_of_lt (tl (show gd p q<0 by omega) (show gd q r<0 by omega))
def WS(l:List Pos):Prop:=l.Pairwise fun x y=>gd x y≤0
def Small(p:Pos):Prop:=p.cs.length<2 ^ 40∧p.h0.length<2 ^ 40∧p.h1.length<2 ^ 40
def iZ(l:List Pos):Prop:=∀ i:Int,1≤i→i<l.length→gd (gt l (i-1)) (gt l i)<0
theorem iZ.lt{l:List Pos}(h:iZ l){i:Int}(h0:0≤i):∀ {n:Nat},i<n→(n:Int)<l.length→gd (gt l i) (gt l n)<0
 | 0,h1,_=>by omega
 | n+1,h1,h2=>by
  have:=h (n+1) (by omega) (by omega)
  rw[Int.add_sub_cancel]at this
  by_cases e:i=n
  ·subst e;exact this
  ·exact tl (h.lt h0 (by omega) (by omega)) this
theorem iZ.le{l:List Pos}(h:iZ l){i j:Int}(h0:0≤i)(h1:i<j)(h2:j<l.length):gd (gt l i) (gt l j)<0:=by
 have:=h.lt h0 (n:=j.toNat) (by omega) (by omega)
 rwa [ct (by omega)]at this
theorem iZ.inj{l:List Pos}(h:iZ l){i j:Int}(h0:0≤i)(h1:i<l.length)(h2:0≤j)(h3:j<l.length)(e:gt l i=gt l j):i=j:=by
 by_cases a:i<j
 ·have:=h.le h0 a h3;rw[e,pH]at this;omega
 ·by_cases b:j<i
  ·have:=h.le h2 b h1;rw[e,pH]at this;omega
  ·omega
def nK(l:List Pos)(p:Pos):Int:=if p∈l then(l.idxOf p:Int)else -1
theorem MP{l:List Pos}{p:Pos}(h:p ∉ l):nK l p = -1:=if_neg h
theorem zk{l:List Pos}{p:Pos}(h:p∈l):0≤nK l p∧nK l p<l.length∧gt l (nK l p)=p:=by
 unfold nK
 rw[if_pos h]
 have hi:l.idxOf p<l.length:=List.idxOf_lt_length_iff.2 h
 refine⟨by omega,by omega,?_⟩
 rw[tB hi]
 exact List.getElem_idxOf hi
theorem SY{l:List Pos}(hs:iZ l){i:Int}(h0:0≤i)(h1:i<l.length):nK l (gt l i)=i:=by
 obtain⟨a,b,c⟩:=zk (eY h0 h1)
 exact hs.inj a b h0 h1 c
end Go.AL
namespace Go.AL
open Go
def pt{α:Type}(l:List α)(n:Int)(v:α):List α:=l.take n.toNat++v::l.drop (n.toNat+1)
section
variable{α:Type}[Inhabited α]{l:List α}{n k:Int}{v:α}
theorem AM(h0:0≤n)(h:n<l.length):pt l n v=l.set n.toNat v:=by
 rw[pt,cB,if_pos (by omega)]
theorem gC(h0:0≤n)(h:n<l.length):(pt l n v).length=l.length:=by
 rw[AM h0 h,bN]
theorem lA(h0:0≤n)(h:n<l.length)(hk:0≤k):gt (pt l n v) k=if k=n then v else gt l k:=by
 rw[AM h0 h]
 unfold gt
 simp only[List.getD_eq_getElem?_getD,bC]
 by_cases e:k=n
 ·subst e;rw[if_pos rfl,if_pos rfl,if_pos (by omega)];rfl
 ·rw[if_neg (by omega),if_neg e]
theorem zn(h0:0≤n)(h:n<l.length):gt (pt l n v) n=v:=by rw[lA h0 h h0,if_pos rfl]
theorem HN(h0:0≤n)(h:n<l.length)(hk:0≤k)(e:k≠n):gt (pt l n v) k=gt l k:=by rw[lA h0 h hk,if_neg e]
theorem O4{x:α}(h:x∈pt l n v):x=v∨x∈l:=by
 unfold pt at h
 simp only[List.mem_append,au]at h
 rcases h with h|h|h
 ·exact .inr (aM h)
 ·exact .inl h
 ·exact .inr (bV h)
end
@[simp] theorem akU{α:Type}(l:List α)(n:Int)(v:α):l.take n.toNat++v::l.drop (n.toNat+1)=pt l n v:=(rfl)
def jo(g:eO)(s d c:Int):Int:=
 if s<0∨s>1∨d<0∨d≥g.next.length∨c<0∨c≥g.size then -1 else gt (gt g.next (if s=1 then gt g.gN d else d)) c
structure lE(g:eO):Prop where
 size:1≤g.size∧g.size≤9
 next:g.next.length=8
 row:∀ l∈g.next,(l.length:Int)=g.size∧∀ x∈l,-1≤x∧x<g.size
 gN:g.gN.length=8
 turns:∀ d,0≤d→d<8→0≤gt g.gN d∧gt g.gN d<8∧gt g.gN (gt g.gN d)=d
theorem lE.to{g:eO}(h:lE g)(s d c:Int) : -1≤jo g s d c∧jo g s d c<g.size:=by
 have:=h.size
 unfold jo
 split
 ·omega
 ·rename_i e
  have hn:=h.next
  simp only[not_or,dY,Int.not_le,gt_iff_lt,ge_iff_le]at e
  have hd:0≤(if s=1 then gt g.gN d else d)∧(if s=1 then gt g.gN d else d)<8:=by
   split
   ·have:=h.turns d (by omega) (by omega);omega
   ·omega
  have hr:=h.row _ (eY (l:=g.next) hd.1 (by omega))
  exact hr.2 _ (eY (by omega) (by omega))
structure uJ(g:eO)(x:eT):Prop where
 ok:((x.1=1∨x.1=2∨x.1=7)∧0≤x.2∧x.2<8)∨(3≤x.1∧x.1≤6∧x.2=0)∨(x.1=8∧0≤x.2∧x.2<g.kinds.length)∨((x.1=9∨x.1=10)∧0≤x.2∧x.2<g.fg)
def jY(l:List eT)(op:Int):Int:=(l.countP fun x=>x.1=op:Nat)
structure rM(g:eO)(l:List eT):Prop where
 len:1≤l.length∧l.length≤8
 steps:∀ x∈l,uJ g x
 pX:jY l 6≤2
 push:jY l 7≤1
 yP:jY l 8≤1
structure wj(g:eO)(c:Clause):Prop where
 ok:(c.cond=1∧0≤c.kind∧c.kind<g.kinds.length∧c.n=0)∨(c.cond=2∧0≤c.kind∧c.kind<g.kinds.length∧0≤c.n∧c.n<g.size)∨(c.cond=3∧c.kind=0∧0≤c.n∧c.n≤64)
 out:1≤c.out∧c.out≤3
def kindName(n:Int):ByteArray:=if n=0 then⟨#[97]⟩else⟨#[98,101,101]⟩
structure fi(g:eO):Prop where
 gV:lE g
 kinds:1≤g.kinds.length∧g.kinds.length≤2
 names:∀ k:Int,0≤k→k<g.kinds.length→(gt g.kinds k).name=kindName k
 gu:∀ k∈g.kinds,k.gu.length≤4∧∀ l∈k.gu,rM g l
 fg:0≤g.fg∧g.fg≤2
 clauses:g.clauses.length≤3
 clause:∀ c∈g.clauses,wj g c
 blocked:1≤g.blocked∧g.blocked≤3
 oK:1≤g.oK∧g.oK≤3
structure n4(g:eO)(l:List Int):Prop where
 len:l.length=g.kinds.length
 at_:∀ k:Int,0≤k→k<l.length→0≤gt l k∧gt l k≤8∧(0<gt l k→(gt g.kinds k).mz=true)
structure fF(g:eO)(p:Pos):Prop where
 size:(p.cs.length:Int)=g.size
 h0:n4 g p.h0
 h1:n4 g p.h1
 fg:0≤p.fg∧p.fg<2 ^ g.fg.toNat
 side:0≤p.side∧p.side≤1
 cs:∀ x∈p.cs,0≤x∧x≤2*g.kinds.length
def ff(n:Int):Int:=if 1≤n∧n≤12 then(n-1) / 2 else -1
def iu(n:Int):Int:=if 1≤n∧n≤12 then(n-1) % 2 else -1
def iG(k s:Int):Int:=1+2*k+s
def pg(g:eO)(s d c:Int):Nat→Int→List Int→List Int
 | 0,_,out=>out
 | n+1,x,out=>if 0≤x∧x≠c∧x ∉ out then pg g s d c n (jo g s d x) (out ++ [x])else out
def jn(g:eO)(s d c:Int):List Int:=pg g s d c 10 (jo g s d c) []
theorem OD{g:eO}(hg:lE g){s d c:Int}:∀ (n:Nat) (x:Int) (out:List Int),x<g.size→(∀ y∈out,0≤y∧y<g.size)→∀ y∈pg g s d c n x out,0≤y∧y<g.size
 | 0,x,out,_,h,y,hy=>h y hy
 | n+1,x,out,hx,h,y,hy=>by
  unfold pg at hy
  split at hy
  ·rename_i e
   refine OD hg n _ _ (hg.to _ _ _).2 (fun z hz=>?_) y hy
   simp only[List.mem_append,List.mem_singleton]at hz
   rcases hz with hz|hz
   ·exact h z hz
   ·omega
  ·exact h y hy
theorem Jl{g:eO}(hg:lE g){s d c y:Int}(h:y∈jn g s d c):0≤y∧y<g.size:=OD hg _ _ _ (hg.to _ _ _).2 (by simp) y h
theorem uf:∀ (n:Nat) (l:List Int),l.Nodup→(∀ y∈l,0≤y∧y<n)→l.length≤n
 | 0,[],_,_=>by simp
 | 0,a::l,_,h=>by have:=h a (by simp);omega
 | n+1,l,hn,h=>by
  by_cases e:(n:Int)∈l
  ·have h1:(l.erase (n:Int)).length≤n:=uf n _ (hn.erase _) fun y hy=>by
    have:=(hn.mem_erase_iff).1 hy
    have:=h y this.2
    omega
   rw[ej e]at h1
   omega
  ·have:=uf n l hn fun y hy=>by
    have:=h y hy
    have:y≠n:=fun e2=>e (e2▸hy)
    omega
   omega
structure eV where
 p:Pos
 kind:Int
 cur:Int
 ig:Bool
 deriving DecidableEq,Inhabited
def eV.cells(s:eV):List D:=[dI s.p.cs,dI s.p.h0,dI s.p.h1,.i s.p.fg,.i s.p.side,.i s.kind,.i s.cur,.b s.ig]
structure ix(g:eO)(s:eV):Prop where
 p:fF g s.p
 kind:0≤s.kind∧s.kind<g.kinds.length
 cur:0≤s.cur∧s.cur<g.size
def Pos.hand(p:Pos)(s:Int):List Int:=if s=0 then p.h0 else p.h1
def Pos.jv(p:Pos)(s:Int)(l:List Int):Pos:=if s=0 then{ p with h0:=l }else{ p with h1:=l }
def mS(s:eV):List Int→List eV
 | []=>[]
 | c::r=>{ s with cur:=c }::if gt s.p.cs c=0 then mS s r else []
def oD(g:eO)(s:eV):List eV:=
 let c:=gt s.p.cs s.cur
 if iu c≠1-s.p.side then []else
  let p:={ s.p with cs:=pt s.p.cs s.cur 0 }
  if (gt g.kinds (ff c)).mz=false then [{ s with p:=p,ig:=true }]else
   let n:=gt (s.p.hand s.p.side) (ff c)+1
   if n≤8 then [{ s with p:=p.jv s.p.side (pt (s.p.hand s.p.side) (ff c) n),ig:=true }]else []
def oV(g:eO)(s:eV)(n:Int):List eV:=
 let to:=jo g s.p.side n s.cur
 if gt s.p.cs s.cur=0∨to<0∨gt s.p.cs to≠0 then []else
  [{ s with p:={ s.p with cs:=pt (pt s.p.cs to (gt s.p.cs s.cur)) s.cur 0 } }]
def ve(r n:Int):Prop:=r / 2 ^ n.toNat % 2=1
instance(r n:Int):Decidable (ve r n):=by unfold ve;infer_instance
def dropRight(r n:Int):Int:=if ve r n then r-2 ^ n.toNat else r
theorem Kd{b:Int}(h0:0≤b)(h:b≤4):Gm .i64 1 b=2 ^ b.toNat:=by
 have:b=0∨b=1∨b=2∨b=3∨b=4:=by omega
 rcases this with rfl|rfl|rfl|rfl|rfl<;>decide
theorem O7{r:Int}(h0:0≤r)(h:r<16):∃ i:Fin 16,r=(i.val:Int):=⟨⟨r.toNat,by omega⟩,by simp;omega⟩
theorem JK{r:Int}(h0:0≤r)(h:r<4):∃ i:Fin 4,r=(i.val:Int):=⟨⟨r.toNat,by omega⟩,by simp;omega⟩
theorem PU:∀ (i:Fin 16) (k:Fin 4),(bits .and .i64 (uw .i64 (i.val:Int) (k.val:Int)) 1=1↔ve (i.val:Int) (k.val:Int))∧bits .andNot .i64 (i.val:Int) (Gm .i64 1 (k.val:Int))=dropRight (i.val:Int) (k.val:Int):=by decide +kernel
theorem PS{r n:Int}(h0:0≤r)(h1:r<16)(h2:0≤n)(h3:n<4):(bits .and .i64 (uw .i64 r n) 1=1)=ve r n:=by
 obtain⟨i,rfl⟩:=O7 h0 h1
 obtain⟨k,rfl⟩:=JK h2 h3
 exact propext (PU i k).1
theorem PT{r n:Int}(h0:0≤r)(h1:r<16)(h2:0≤n)(h3:n<4):bits .andNot .i64 r (Gm .i64 1 n)=dropRight r n:=by
 obtain⟨i,rfl⟩:=O7 h0 h1
 obtain⟨k,rfl⟩:=JK h2 h3
 exact(PU i k).2
theorem xO{b:Int}(h0:0≤b)(h:b≤4):(2:Int) ^ b.toNat≤16:=by
 have:b=0∨b=1∨b=2∨b=3∨b=4:=by omega
 rcases this with rfl|rfl|rfl|rfl|rfl<;>decide
def gw(g:eO)(s:eV)(x:eT):List eV:=
 let c:=gt s.p.cs s.cur
 if x.1=1 then(let to:=jo g s.p.side x.2 s.cur;if 0≤to then [{ s with cur:=to }]else [])
 else if x.1=2 then mS s (jn g s.p.side x.2 s.cur)
 else if x.1=3 then(if c=0 then [s]else [])
 else if x.1=4 then(if iu c=1-s.p.side then [s]else [])
 else if x.1=5 then(if iu c=s.p.side then [s]else [])
 else if x.1=6 then oD g s
 else if x.1=7 then oV g s x.2
 else if x.1=8 then [{ s with kind:=x.2 }]
 else if x.1=9 then(if ve s.p.fg x.2 then [s]else [])
 else [{ s with p:={ s.p with fg:=dropRight s.p.fg x.2 } }]
def nX(g:eO):List eT→List eV→List eV
 | [],l=>l
 | x::r,l=>nX g r (l.flatMap fun s=>gw g s x)
def iY(p:Pos)(cell:Int):eV:={ p:={ p with cs:=pt p.cs cell 0 },kind:=ff (gt p.cs cell),cur:=cell,ig:=false }
structure fq where
 p:Pos
 ig:Bool
 deriving DecidableEq,Inhabited
def fq.cells(o:fq):List D:=[dI o.p.cs,dI o.p.h0,dI o.p.h1,.i o.p.fg,.i o.p.side,.b o.ig]
def ln(side:Int)(s:eV):Option fq:=
 if gt s.p.cs s.cur=0 then some { p:={ s.p with cs:=pt s.p.cs s.cur (iG s.kind side),side:=1-side },ig:=s.ig }else none
def pT(g:eO)(p:Pos)(cell:Int)(l:List eT):List fq:=(nX g l [iY p cell]).filterMap (ln p.side)
def upto(n:Nat):List Int:=(List.range n).map fun k:Nat=>(k:Int)
theorem pS{n:Nat}{k:Int}:k∈upto n↔0≤k∧k<n:=by
 simp only[upto,av,bx]
 constructor
 ·rintro⟨a,h,rfl⟩;omega
 ·intro h;exact⟨k.toNat,by omega,by omega⟩
def me(g:eO)(p:Pos)(c:Int):List fq:=if iu (gt p.cs c)=p.side then(gt g.kinds (ff (gt p.cs c))).gu.flatMap (pT g p c)else []
def mE(g:eO)(p:Pos):List fq:=(upto p.cs.length).flatMap (me g p)
def iz(p:Pos)(k c:Int):Pos:={ p.jv p.side (pt (p.hand p.side) k (gt (p.hand p.side) k-1))with cs:=pt p.cs c (iG k p.side),side:=1-p.side }
def rI(g:eO)(p q:Pos):Prop:=∃ k c:Int,0≤k∧k<g.kinds.length∧0≤c∧c<p.cs.length∧gt (p.hand p.side) k≠0∧gt p.cs c=0∧q=iz p k c
def oy(p:Pos)(side kind:Int):Int:=(p.cs.countP fun c=>0≤ff c∧iu c=side∧(kind<0∨ff c=kind):Nat)
def iV(p:Pos)(c:Clause):Prop:=
 if c.cond=1 then oy p p.side c.kind=0 else if c.cond=2 then gt p.cs c.n=iG c.kind (1-p.side)else oy p p.side (-1)≤c.n
def mU(g:eO)(p q:Pos):Prop:=
 (∀ c∈g.clauses,¬ iV p c) ∧
 if g.kS=true∧(∃ o∈mE g p,o.ig=true)then⟨q,true⟩∈mE g p else(∃ o∈mE g p,o.p=q)∨rI g p q
theorem fF.small{g:eO}(hg:fi g){p:Pos}(h:fF g p):Small p:=by
 have h1:=h.size;have h2:=hg.gV.size;have h3:=h.h0.len;have h4:=h.h1.len;have h5:=hg.kinds
 exact⟨by omega,by omega,by omega⟩
theorem fF.hand{g:eO}{p:Pos}(h:fF g p)(s:Int):n4 g (p.hand s):=by
 unfold Pos.hand;split
 ·exact h.h0
 ·exact h.h1
theorem fF.jv{g:eO}{p:Pos}(h:fF g p)(s:Int){l:List Int}(hl:n4 g l):fF g (p.jv s l):=by
 unfold Pos.jv;split
 ·exact{ h with h0:=hl }
 ·exact{ h with h1:=hl }
theorem fF.uv{g:eO}{p:Pos}(h:fF g p){c v:Int}(hc:0≤c)(EG:c<g.size)(hv:0≤v∧v≤2*g.kinds.length):fF g { p with cs:=pt p.cs c v }:=
 { h with
  size:=by dsimp only;rw[gC hc (by rw[h.size];exact EG)];exact h.size
  cs:=fun x hx=>by
   rcases O4 hx with rfl|hx
   ·exact hv
   ·exact h.cs x hx }
theorem n4.set{g:eO}{l:List Int}(h:n4 g l){k v:Int}(hk:0≤k)(jk:k<l.length)(hv:0≤v∧v≤8∧(0<v→(gt g.kinds k).mz=true)):n4 g (pt l k v) where
 len:=by rw[gC hk jk];exact h.len
 at_ j hj EM:=by
  rw[gC hk jk]at EM
  rw[lA hk jk hj]
  split
  ·rename_i e;subst e;exact hv
  ·exact h.at_ j hj EM
theorem ru{n:Int}{g:eO}(h:n≤2*g.kinds.length)(hk:1≤g.kinds.length):ff n<g.kinds.length:=by
 unfold ff;split<;>omega
theorem vJ{n s:Int}(hs:0≤s)(h:iu n=s):0≤ff n∧1≤n∧n≤12∧n=iG (ff n) s:=by
 unfold iu at h;unfold ff iG
 split at h<;>rename_i e
 ·rw[if_pos e];omega
 ·omega
theorem R8{r n k:Int}(h:0≤r)(h2:r<2 ^ k.toNat):0≤dropRight r n∧dropRight r n<2 ^ k.toNat:=by
 unfold dropRight
 split
 ·rename_i e
  unfold ve at e
  have hp:(0:Int)<2 ^ n.toNat:=Int.pow_pos (by decide)
  have:2 ^ n.toNat≤r:=by
   by_cases c:r<2 ^ n.toNat
   ·rw[Int.ediv_eq_zero_of_lt h c]at e;simp at e
   ·omega
  omega
 ·exact⟨h,h2⟩
theorem Jn{s t:eV}:∀ {l:List Int},t∈mS s l→∃ c∈l,t = { s with cur:=c }
 | [],h=>by simp[mS]at h
 | c::r,h=>by
  unfold mS at h
  rcases au.1 h with h|h
  ·exact⟨c,by simp,h⟩
  ·split at h
   ·obtain⟨c',h1,h2⟩:=Jn h;exact⟨c',by simp[h1],h2⟩
   ·cases h
theorem uz{g:eO}(hg:fi g){s:eV}(hs:ix g s){x:eT}(hx:uJ g x){t:eV}(h:t∈gw g s x):ix g t:=by
 have hb:=hg.gV
 have kz:s.cur<s.p.cs.length:=by rw[hs.p.size];exact hs.cur.2
 have hc:=hs.p.cs _ (eY hs.cur.1 kz)
 unfold gw at h
 dsimp only at h
 split at h
 ·split at h
  ·rename_i h0
   rw[List.mem_singleton]at h;subst h
   exact{ hs with cur:=⟨h0,(hb.to _ _ _).2⟩ }
  ·cases h
 split at h
 ·obtain⟨c,h1,rfl⟩:=Jn h
  exact{ hs with cur:=Jl hb h1 }
 iterate 3
  split at h
  ·split at h
   ·rw[List.mem_singleton]at h;subst h;exact hs
   ·cases h
 split at h
 ·unfold oD at h
  dsimp only at h
  split at h
  ·cases h
  rename_i e
  have e:=dq.1 e
  have gA:=hs.p.side
  obtain⟨m1,m2,m3,m4⟩:=vJ (by omega) e
  have hk:ff (gt s.p.cs s.cur)<g.kinds.length:=ru hc.2 hg.kinds.1
  have hp:fF g { s.p with cs:=pt s.p.cs s.cur 0 }:=hs.p.uv hs.cur.1 hs.cur.2 (by omega)
  split at h
  ·rw[List.mem_singleton]at h;subst h
   exact{ hs with p:=hp }
  rename_i kp
  split at h
  ·rename_i h8
   rw[List.mem_singleton]at h;subst h
   have hh:=hs.p.hand s.p.side
   have hl:=hh.len
   have ha:=hh.at_ _ m1 (by rw[hl];exact hk)
   exact{ hs with p:=hp.jv _ (hh.set m1 (by rw[hl];exact hk) ⟨by omega,by omega,fun _=>by simpa using kp⟩) }
  ·cases h
 split at h
 ·unfold oV at h
  dsimp only at h
  split at h
  ·cases h
  rename_i e
  simp only[not_or,dY]at e
  rw[List.mem_singleton]at h;subst h
  have h1:=hs.p.uv (c:=jo g s.p.side x.2 s.cur) (v:=gt s.p.cs s.cur) e.2.1 (hb.to _ _ _).2 hc
  exact{ hs with p:=h1.uv hs.cur.1 hs.cur.2 (by omega) }
 split at h
 ·rename_i e8
  rw[List.mem_singleton]at h;subst h
  have hk:0≤x.2∧x.2<g.kinds.length:=by have:=hx.ok;omega
  exact{ hs with kind:=hk }
 split at h
 ·split at h
  ·rw[List.mem_singleton]at h;subst h;exact hs
  ·cases h
 ·rw[List.mem_singleton]at h;subst h
  exact{ hs with p:={ hs.p with fg:=R8 hs.p.fg.1 hs.p.fg.2 } }
theorem Gc{g:eO}(hg:fi g):∀ {l:List eT} {a:List eV},(∀ x∈l,uJ g x)→(∀ s∈a,ix g s)→∀ s∈nX g l a,ix g s
 | [],_,_,h,s,hs=>h s hs
 | x::r,a,hx,h,s,hs=>by
  refine Gc (a:=a.flatMap fun s=>gw g s x) hg (fun y hy=>hx y (by simp[hy])) (fun t ht=>?_) s hs
  obtain⟨u,hu,ht⟩:=aZ.1 ht
  exact uz hg (h u hu) (hx x (by simp)) ht
theorem P7{g:eO}:∀ {l:List eT} {a b:List eV},(∀ s,s∈a↔s∈b)→∀ s,s∈nX g l a↔s∈nX g l b
 | [],_,_,h,s=>h s
 | x::r,a,b,h,s=>P7 (l:=r) (fun t=>by simp only[aZ,h]) s
theorem x7{g:eO}(hg:fi g){p:Pos}(hp:fF g p){c:Int}(h0:0≤c)(h1:c<g.size)(hm:iu (gt p.cs c)=p.side):ix g (iY p c):=by
 have hc:=hp.cs _ (eY h0 (by rw[hp.size];exact h1))
 exact{ p:=hp.uv h0 h1 (by omega),kind:=⟨(vJ hp.side.1 hm).1,ru hc.2 hg.kinds.1⟩,cur:=⟨h0,h1⟩ }
theorem Eg{g:eO}{s:eV}(hs:ix g s){side:Int}(h0:0≤side)(h1:side≤1){o:fq}(h:ln side s=some o):fF g o.p:=by
 unfold ln at h
 split at h
 ·cases h
  have:=hs.kind
  exact{ hs.p.uv hs.cur.1 hs.cur.2 (v:=iG s.kind side) (by unfold iG;omega)with side:=by dsimp only;omega }
 ·cases h
theorem FV{g:eO}(hg:fi g){p:Pos}(hp:fF g p){o:fq}(h:o∈mE g p):fF g o.p:=by
 obtain⟨c,hc,h⟩:=aZ.1 h
 rw[pS,hp.size]at hc
 unfold me at h
 split at h
 ·rename_i e
  obtain⟨l,hl,h⟩:=aZ.1 h
  obtain⟨s,hs,h⟩:=bS.1 h
  have eX:=x7 hg hp hc.1 hc.2 e
  have hk:=hg.gu _ (eY (l:=g.kinds) eX.kind.1 eX.kind.2)
  exact Eg (Gc hg (hk.2 l hl).steps (fun t ht=>by rw[List.mem_singleton]at ht;subst ht;exact eX) s hs) hp.side.1 hp.side.2 h
 ·cases h
theorem ze{g:eO}{p:Pos}(hp:fF g p){q:Pos}(h:rI g p q):fF g q:=by
 obtain⟨k,c,h1,h2,h3,h4,h5,h6,rfl⟩:=h
 have hh:=hp.hand p.side
 have hl:=hh.len
 have ha:=hh.at_ k h1 (by omega)
 have hs:=hp.side
 have hz:=hp.size
 have xi:=(hp.jv p.side (hh.set h1 (v:=gt (p.hand p.side) k-1) (by omega) ⟨by omega,by omega,fun _=>ha.2.2 (by omega)⟩))
 have e:(p.jv p.side (pt (p.hand p.side) k (gt (p.hand p.side) k-1))).cs=p.cs:=by unfold Pos.jv;split<;>rfl
 have:=xi.uv (c:=c) (v:=iG k p.side) h3 (by omega) (by unfold iG;omega)
 rw[e]at this
 exact{ this with side:=by dsimp only[iz];omega }
theorem JH{g:eO}(hg:fi g){p:Pos}(hp:fF g p){q:Pos}(h:mU g p q):fF g q:=by
 obtain⟨_,h⟩:=h
 split at h
 ·exact FV hg hp h
 ·rcases h with⟨o,h,rfl⟩|h
  ·exact FV hg hp h
  ·exact ze hp h
end Go.AL
namespace Go.Proofs.YtnaefnajkaohgaaGreatDoor
open Go Go.AL Classical
set_option maxRecDepth 10000
theorem f95(n a b:Int):Wf T 95 [.i n,.i a,.i b] [] (Is (.b (decide (a≤n∧n≤b)))):=by
 refine Yg Dq ?_
 simp[Dq]
 (with_reducible repeat' first|refine Xk ?_<;>try simp|refine Xs ?_ ?_<;>intro h<;>(try intro h')<;>(try simp[h])<;>(try omega)|refine Xg ?_|omega)
theorem f94(a b:Int):Wf T 94 [.i a,.i b] [] (Is (.i (iT a b))):=by
 refine Yg Dp ?_
 simp[Dp]
 (with_reducible repeat' first|refine Xk ?_<;>try simp|refine Xs ?_ ?_<;>intro h<;>(try intro h')<;>(try simp[h])<;>(try omega)|refine Xg ?_|omega)
 all_goals (simp only[iT];(repeat' split)<;>omega)
theorem f92{k s:Int}(hk:0≤k)(jk:k<6)(hs:0≤s)(lu:s≤1):Wf T 92 [.i k,.i s] [] (Is (.i (1+2*k+s))):=by
 refine Yg Dm ?_
 simp[Dm]
 (with_reducible repeat' first|refine Xk ?_<;>try simp|refine Xs ?_ ?_<;>intro h<;>(try intro h')<;>(try simp[h])<;>(try omega)|refine Xg ?_|omega)
theorem f156{k s:Int}(hk:0≤k)(jk:k<6)(hs:0≤s)(lu:s≤1):Wf T 156 [.i k,.i s] [] (Is (.i (1+2*k+s))):=by
 refine Yg B3 ?_
 simp[B3]
 refine fr.c rfl rfl (f95 _ _ _) (by simp[fm]) (by simp) ?_
 simp[show k≤5 by omega,hk]
 refine fr.c rfl rfl (f95 _ _ _) (by simp[fm]) (by simp) ?_
 simp[hs,lu]
 omega
theorem f25(l:List Int)(n:Int)(hl:l.length<2 ^ 40):Wf T 25 [dI l,.i n] [] (Is (.b (decide (n∈l)))):=by
 refine Yg CH ?_
 simp[CH]
 refine eW.i (α:=Int) [0,1,5] rfl (fun i=>[(0,dI l),(1,.i n),(5,.i i)]) (fun _=>[]) (fun i=>0≤i∧i≤l.length∧n ∉ l.take i.toNat) (fun i=>l.length-i.toNat) 0 (by simp) (by simp) rfl ?_
 rintro i ⟨h0,h1,h2⟩
 simp
 (with_reducible repeat' first|refine Xk ?_<;>try simp|refine Xs ?_ ?_<;>intro h<;>(try intro h')<;>(try simp[h])<;>(try omega)|refine Xg ?_|omega)
 ·have:=eY h0 ‹_›
  simp_all
 ·skip
  rw[gx h0 ‹_›]
  simp_all
  exact fun e=>h e.symm
 ·simpa[jg (by omega:(l.length:Int)≤i)]using h2
theorem f93(a b:List Int)(ha:a.length<2 ^ 40)(hb:b.length<2 ^ 40):Wf T 93 [dI a,dI b] [] (Is (.i (iP a b))):=by
 refine Yg Dn ?_
 simp[Dn]
 refine eW.j (0:Int) (fun i=>[(0,dI a),(1,dI b),(5,.i i)]) (fun _=>_) (fun i=>0≤i∧i≤a.length∧i≤b.length∧a.take i.toNat=b.take i.toNat) (fun i=>a.length-i.toNat) ?_ (by simp) (by first|rfl|simp) rfl ?_
 ·simp
 rintro i ⟨h0,h1,wV,h2⟩
 have e:=OG h2 (by omega) (by omega)
 simp
 (with_reducible repeat' first|refine Xk ?_<;>try simp|refine Xs ?_ ?_<;>intro h<;>(try intro h')<;>(try simp[h])<;>(try omega)|refine Xg ?_|omega)
 ·skip
  rw[gx h0 (by omega),gx h0 (by omega),h2]
  simp_all
 ·refine Yt (f94 _ _) ?_
  simp
  rw[e,lk h0 ‹_›,lk h0 ‹_›,iP,if_neg (by assumption)]
 all_goals
  refine Yc (f94 _ _) ?_
  simp
  rw[e,Jo (by simp only[bn];omega)]
  simp only[bn,iT]
  (repeat' split)<;>omega
theorem f50(p q:Pos)(hp:Small p)(hq:Small q):Wf T 50 [dP p,dP q] [] (Is (.i (gd p q))):=by
 refine Yg C4 ?_
 simp[C4]
 refine Yt (f93 _ _ hp.1 hq.1) ?_
 simp
 refine Yt (f93 _ _ hp.2.1 hq.2.1) ?_
 simp
 refine Yt (f93 _ _ hp.2.2 hq.2.2) ?_
 simp
 refine Yt (f94 _ _) ?_
 simp
 refine Yt (f94 _ _) ?_
 simp
 (refine eW.un ?_;(repeat' first|(refine iR.u ?_;simp;done)|(refine iR.u ?_;simp)|((with_reducible first|refine X2.d ?_ ?_|refine X2.a ?_ ?_|refine X2.o ?_ ?_|refine X2.b ?_ ?_)<;>intro h<;>(try simp[h]))|fail))
 all_goals simp_all [gd,kM]
theorem f51(n:Int):Wf T 51 [.i n] [] (Is (.agg [.i (ff n),.i (iu n)])):=by
 refine Yg C5 ?_
 simp[C5]
 refine Yc (f95 _ _ _) ?_
 simp
 (with_reducible repeat' first|refine Xk ?_<;>try simp|refine Xs ?_ ?_<;>intro h<;>(try intro h')<;>(try simp[h])<;>(try omega)|refine Xg ?_|omega)
 ·rw[xQ (by omega) (by omega) (by omega),jw (by omega)]
  simp[ff,iu];omega
 ·simp[ff,iu];omega
theorem f84(n:Int):Wf T 84 [.i n] [] (Is (.tup [.i (ff n),.i (iu n)])):=by
 refine Yg Dg ?_
 simp[Dg]
 (with_reducible repeat' first|refine Xk ?_<;>try simp|refine Xs ?_ ?_<;>intro h<;>(try intro h')<;>(try simp[h])<;>(try omega)|refine Xg ?_|omega)
 ·simp[ff,iu];omega
 ·simp[ff,iu];omega
 ·rw[xQ (by omega) (by omega) (by omega),jw (by omega)]
  simp[ff,iu];omega
theorem f251(g:eO)(hg:lE g)(s d c:Int):Wf T 251 [g.gV,.i s,.i d,.i c] [] (Is (.i (jo g s d c))):=by
 have hn:=hg.next
 have ht:=hg.gN
 refine Yg CJ ?_
 simp[CJ]
 (with_reducible repeat' first|refine Xk ?_<;>try simp|refine Xs ?_ ?_<;>intro h<;>(try intro h')<;>(try simp[h])<;>(try omega)|refine Xg ?_|omega)
 all_goals first
  | (simp only[jo];rw[if_pos (by omega)])
  | skip
 ·rename_i h
  have:=hg.turns d (by omega) (by omega)
  have hr:=hg.row (gt g.next (gt g.gN d)) (eY (by omega) (by omega))
  (with_reducible repeat' first|refine Xk ?_<;>try simp|refine Xs ?_ ?_<;>intro h<;>(try intro h')<;>(try simp[h])<;>(try omega)|refine Xg ?_|omega)
  simp only[jo];rw[if_neg (by omega)];simp
 ·rename_i h
  have hr:=hg.row (gt g.next d) (eY (by omega) (by omega))
  (with_reducible repeat' first|refine Xk ?_<;>try simp|refine Xs ?_ ?_<;>intro h<;>(try intro h')<;>(try simp[h])<;>(try omega)|refine Xg ?_|omega)
  simp only[jo];rw[if_neg (by omega)];simp[h]
theorem f240(g:eO)(hg:lE g)(s d c:Int):Wf T 240 [g.gV,.i s,.i d,.i c] [] (Is (.i (jo g s d c))):=by
 have hn:=hg.next
 have ht:=hg.gN
 refine Yg CD ?_
 simp[CD]
 (with_reducible repeat' first|refine Xk ?_<;>try simp|refine Xs ?_ ?_<;>intro h<;>(try intro h')<;>(try simp[h])<;>(try omega)|refine Xg ?_|omega)
 all_goals first
  | (simp only[jo];rw[if_pos (by omega)])
  | skip
 ·rename_i h
  have:=hg.turns d (by omega) (by omega)
  have hr:=hg.row (gt g.next (gt g.gN d)) (eY (by omega) (by omega))
  (with_reducible repeat' first|refine Xk ?_<;>try simp|refine Xs ?_ ?_<;>intro h<;>(try intro h')<;>(try simp[h])<;>(try omega)|refine Xg ?_|omega)
  simp only[jo];rw[if_neg (by omega)];simp
 ·rename_i h
  have hr:=hg.row (gt g.next d) (eY (by omega) (by omega))
  (with_reducible repeat' first|refine Xk ?_<;>try simp|refine Xs ?_ ?_<;>intro h<;>(try intro h')<;>(try simp[h])<;>(try omega)|refine Xg ?_|omega)
  simp only[jo];rw[if_neg (by omega)];simp[h]
theorem f110(p q:Pos)(hp:Small p)(hq:Small q):Wf T 110 [dP p,dP q] [] (Is (.b (decide (p=q)))):=by
 refine Yg BB ?_
 simp[BB]
 refine Yc (f50 p q hp hq) ?_
 simp
 rw[nJ]
set_option maxRecDepth 10000
set_option maxHeartbeats 1000000
theorem f27(l:List Pos)(p:Pos)(hl:l.length<2 ^ 40)(hs:∀ p∈l,Small p)(hp:Small p)(tR:iZ l):Wf T 27 [fW l,dP p] [] (Is (.i (nK l p))):=by
 refine Yg CS ?_
 simp[CS]
 refine eW.j ((0,(l.length:Int)):Int×Int) (fun x=>[(0,fW l),(3,.ptr 0 0 0),(5,.i x.1),(6,.i x.2)]) (fun _=>[.row 44 0 p.cells]) (fun x=>0≤x.1∧x.1≤x.2∧x.2≤l.length∧∀ k:Int,0≤k→k<l.length→gt l k=p→x.1≤k∧k<x.2) (fun x=>(x.2-x.1).toNat) ?_ (by simp) rfl rfl ?_
 ·simp;omega
 rintro⟨a,b⟩ ⟨h0,h1,h2,h3⟩
 simp at h0 h1 h2 h3
 simp
 (with_reducible repeat' first|refine Xk ?_<;>try simp|refine Xs ?_ ?_<;>intro h<;>(try intro h')<;>(try simp[h])<;>(try omega)|refine Xg ?_|omega)
 ·rw[xQ (by omega) (by omega) (by omega)]
  (with_reducible repeat' first|refine Xk ?_<;>try simp|refine Xs ?_ ?_<;>intro h<;>(try intro h')<;>(try simp[h])<;>(try omega)|refine Xg ?_|omega)
  refine Yt (f50 p (gt l ((a+b) / 2)) hp (hs _ (eY (by omega) (by omega)))) ?_
  simp
  (with_reducible repeat' first|refine Xk ?_<;>try simp|refine Xs ?_ ?_<;>intro h<;>(try intro h')<;>(try simp[h])<;>(try omega)|refine Xg ?_|omega)
  ·rw[nJ]at h
   rw[h,SY tR (by omega) (by omega)]
  ·have fj:∀ k:Int,(a+b) / 2≤k→k<l.length→gt l k≠p:=fun k hk jk e=>by
    by_cases e2:k=(a+b) / 2
    ·subst e2;rw[e,pH]at h;omega
    ·have:=tl h (tR.le (by omega) (show(a+b) / 2<k by omega) jk)
     rw[e,pH]at this;omega
   intro k hk jk e
   have:=h3 k hk jk e
   by_cases Iv:(a+b) / 2≤k
   ·exact absurd e (fj k Iv jk)
   ·omega
  ·have h6:gd (gt l ((a+b) / 2)) p<0:=by rw[qc];omega
   have fj:∀ k:Int,0≤k→k≤(a+b) / 2→gt l k≠p:=fun k hk jk e=>by
    by_cases e2:k=(a+b) / 2
    ·subst e2;rw[e,pH]at h6;omega
    ·have:=tl (tR.le hk (show k<(a+b) / 2 by omega) (by omega)) h6
     rw[e,pH]at this;omega
   intro k hk jk e
   have:=h3 k hk jk e
   by_cases Iv:k≤(a+b) / 2
   ·exact absurd e (fj k hk Iv)
   ·omega
 ·rw[MP]
  intro hm
  obtain⟨k,hk,jk,e⟩:=rv.1 hm
  have:=h3 k hk jk e
  omega
theorem f111(g:eO)(l:List Int)(hg:fi g)(hl:n4 g l):Wf T 111 [dG g,dI l] [] (Is (.b true)):=by
 have hk:=hg.kinds
 have hn:=hl.len
 refine Yg BC ?_
 simp[BC]
 (with_reducible repeat' first|refine Xk ?_<;>try simp|refine Xs ?_ ?_<;>intro h<;>(try intro h')<;>(try simp[h])<;>(try omega)|refine Xg ?_|omega)
 refine eW.j (0:Int) (fun i=>[(1,dI l),(2,.ptr 0 0 0),(5,.i i)]) (fun i=>[.row 41 0 g.cells]) (fun i=>0≤i∧i≤l.length) (fun i=>l.length-i.toNat) ?_ (by simp) (by first|rfl|simp) rfl ?_
 ·simp
 rintro i ⟨h0,h1⟩
 simp
 (with_reducible refine Xs ?_ ?_<;>intro h<;>(try intro h')<;>(try simp[h])<;>(try omega))
 ·have h2:=hl.at_ i h0 ‹_›
  (with_reducible repeat' first|refine Xk ?_<;>try simp|refine Xs ?_ ?_<;>intro h<;>(try intro h')<;>(try simp[h])<;>(try omega)|refine Xg ?_|omega)
  have:=h2.2.2
  all_goals simp_all
  all_goals omega
theorem f65(g:eO)(p:Pos)(hg:fi g)(hp:fF g p):Wf T 65 [dG g,dP p] [] (Is (.b true)):=by
 have hk:=hg.kinds
 have hr:=hg.fg
 have h1:=hp.size
 have h2:=hp.fg
 have h3:=hp.side
 have hb:=hg.gV.size
 have h4:=Kd hr.1 (by omega)
 refine Yg Dc ?_
 simp[Dc,h1]
 refine Yt (f111 g _ hg hp.h0) ?_
 simp[h1]
 refine Yt (f111 g _ hg hp.h1) ?_
 simp[h1]
 (with_reducible repeat' first|refine Xk ?_<;>try simp[h4]|refine Xs ?_ ?_<;>intro h<;>(try intro h')<;>(try simp[h,h4])<;>(try omega)|refine Xg ?_|omega)
 refine eW.j (0:Int) (fun i=>[(2,.ptr 0 0 0),(3,.ptr 1 0 0),(5,.i i)]) (fun i=>[.row 41 0 g.cells,.row 44 0 p.cells]) (fun i=>0≤i∧i≤p.cs.length) (fun i=>p.cs.length-i.toNat) ?_ (by simp) (by first|rfl|simp) rfl ?_
 ·simp
 rintro i ⟨h0,h5⟩
 simp
 (with_reducible refine Xs ?_ ?_<;>intro h<;>(try intro h')<;>(try simp[h])<;>(try omega))
 have h4:=hp.cs _ (eY h0 ‹_›)
 (with_reducible repeat' first|refine Xk ?_<;>try simp|refine Xs ?_ ?_<;>intro h<;>(try intro h')<;>(try simp[h])<;>(try omega)|refine Xg ?_|omega)
end Go.Proofs.YtnaefnajkaohgaaGreatDoor
namespace Go.AL
open Go
def Ex{α:Type}(g:α→D)(Q:α→Prop):D→U→Prop:=fun d H=>∃ r,d=g r∧H = []∧Q r
@[simp] theorem adj{α:Type}(g:α→D)(Q:α→Prop)(d:D)(H:U):Ex g Q d H = ∃ r,d=g r∧H = []∧Q r:=(rfl)
section
variable{T:gb}{f:FuncId}{args nH:List D}{dst:Option Nat}{s:St}{K:St→Prop}{fn:eQ}
theorem fr.q{α:Type}{g:α→D}{Q:α→Prop}(hf:T.fn f=some fn)(hp:fn.full=false)(h:Wf T f args [] (Ex g Q))
  (hc:fm args=true) (hx:∀ r,closed (g r)=true) (k:∀ r,Q r→K { s with env:=put s.env dst (g r) }):fr T f args dst s K .mk:=by
 refine fr.is hf hp (K0:=Ex g Q) ?_ ?_
 ·have e0:args.map (eS (fun _=>none) s.H 40)=args:=by
   conv=>rhs;rw[← aR args]
   exact aj fun d hd=>mf (jX hc d hd)
  rw[e0];exact h
 ·rintro d Hn ⟨r,rfl,rfl,hr⟩
  obtain⟨k1,k2⟩:=DR (H:=s.H) (hx r)
  refine⟨{ s with env:=put s.env dst (g r) },?_,k r hr⟩
  unfold after
  rw[if_pos hc,k1,k2]
  simp
end
section
variable{T:gb}{f:FuncId}{args:List D}{dst:Option Nat}{s:St}{K:St→Prop}{fn:eQ}
theorem fr.n{d:D}{Hn:U}(hf:T.fn f=some fn)(hp:fn.full=false)(h:Wf T f args [] fun d' H'=>d'=d∧H'=Hn)
  (hc:fm args=true) (hr:(kE d&&Hn.all lG)=true) (k:K { s with env:=put s.env dst (iO s.H.length d),H:=s.H++Hn }):fr T f args dst s K .mk:=by
 refine fr.is hf hp (K0:=fun d' H'=>d'=d∧H'=Hn) ?_ ?_
 ·have e0:args.map (eS (fun _=>none) s.H 40)=args:=by
   conv=>rhs;rw[← aR args]
   exact aj fun d hd=>mf (jX hc d hd)
  rw[e0];exact h
 ·rintro d' Dv ⟨rfl,rfl⟩
  refine⟨_,?_,k⟩
  unfold after
  rw[if_pos hc,if_pos hr]
theorem ta.n{R:List Fp}{Q:Rc→St→Prop}{d:D}{ob:Ob}(hf:T.fn f=some fn)(hp:fn.full=false)(h:Wf T f args [] fun d' H'=>d'=d∧H' = [ob])
  (hc:fm args=true) (hr:(kE d&&lG ob)=true) (k:Q ⟨R,[(s.H.length,none)]⟩ { s with env:=put s.env dst (iO s.H.length d),H:=s.H ++ [ob] }):p7 T f args R dst s Q .mk:=by
 have e0:args.map (eS (fun _=>none) s.H 40)=args:=by
  conv=>rhs;rw[← aR args]
  exact aj fun d hd=>mf (jX hc d hd)
 exact .inl (.inr ⟨fn,d,ob,hf,hp,by rw[e0];exact h,by rw[if_pos hc];exact hr,k⟩)
theorem ta.c{R:List Fp}{Q:Rc→St→Prop}{x:D}(hf:T.fn f=some fn)(hp:fn.full=false)(h:Wf T f args [] fun d H'=>d=x∧H' = [])
  (hc:fm args=true) (hx:closed x=true) (k:Q ⟨R,[]⟩ { s with env:=put s.env dst x }):p7 T f args R dst s Q .mk:=.inl (.inl (gR.c hf hp h hc hx k))
theorem p7.z{nH:List D}{R:List Fp}{Q:Rc→St→Prop}{d:D}(v:Nat)(hf:T.fn f=some fn)(hp:fn.full=false)(h:Wf T f nH [] (Is d))(hs:args.map (eS (fun _=>none) s.H 40)=nH)
  (hr:(args.map (fX s.H 40)).flatten = [v]) (fR:(rowsOf s.H v).isSome=true) (hc:fm nH=true) (hx:closed d=true) (k:Q ⟨R,[(v,none)]⟩ { s with env:=put s.env dst d,H:=s.H.set v .dead }):p7 T f args R dst s Q .mk:=
 .inr ⟨fn,d,v,hf,hp,by rw[hr];simp,by rw[hr];simp,fR,by rw[hs];exact hc,by rw[hs];exact h,hx,k⟩
@[simp] theorem akt(ds:List D):kE (.agg ds)=ds.all (sN closed):=rfl
@[simp] theorem akv(ds:List D):kE (.tup ds)=ds.all (sN closed):=rfl
@[simp] theorem aku(v g sz off n:Nat):kE (.eN v g sz off n)=true:=rfl
@[simp] theorem akj(p:D→Bool)(v g sz off n:Nat):sN p (.eN v g sz off n)=true:=rfl
@[simp] theorem aki(l:List Int):sN closed (dI l)=true:=by show closed (dI l)=true;simp
@[simp] theorem akk(v:Value):sN closed (.val v)=true:=by show closed (.val v)=true;simp
@[simp] theorem agS(t g:Nat)(cs:List D):lG (.row t g cs)=fm cs:=rfl
@[simp] theorem ajj(n:Nat)(ds:List D):iO n (.agg ds) = .agg (ds.map (sI n)):=rfl
@[simp] theorem ajl(n:Nat)(ds:List D):iO n (.tup ds) = .tup (ds.map (sI n)):=rfl
@[simp] theorem ajk(n v g sz off k:Nat):iO n (.eN v g sz off k) = .eN (v+n) g sz off k:=rfl
@[simp] theorem ajn(n v g sz off k:Nat):sI n (.eN v g sz off k) = .eN (v+n) g sz off k:=rfl
@[simp] theorem ajm(n:Nat)(l:List Int):sI n (dI l)=dI l:=by unfold dI;rfl
@[simp] theorem ajo(n:Nat)(v:Value):sI n (.val v) = .val v:=rfl
end
instance:Fl eV.cells 8:=⟨fun _=>rfl,fun s=>by simp[eV.cells,fm]⟩
instance:Fl fq.cells 6:=⟨fun _=>rfl,fun s=>by simp[fq.cells,fm]⟩
@[simp] theorem agJ(l:List eV)(a b c:List Int)(r q k u:Int)(t:Bool):cl eV.cells l ++ [dI a,dI b,dI c,.i r,.i q,.i k,.i u,.b t]=cl eV.cells (l ++ [⟨⟨a,b,c,r,q⟩,k,u,t⟩]):=by rw[← oI];rfl
@[simp] theorem agF(l:List fq)(a b c:List Int)(r q:Int)(t:Bool):cl fq.cells l ++ [dI a,dI b,dI c,.i r,.i q,.b t]=cl fq.cells (l ++ [⟨⟨a,b,c,r,q⟩,t⟩]):=by rw[← oI];rfl
@[simp] theorem amo(s:eV):eV.mk s.p s.kind s.cur s.ig=s:=rfl
@[simp] theorem akK(s:fq):fq.mk s.p s.ig=s:=rfl
attribute [simp] eV.cells fq.cells
theorem Yq{T:gb}{f:FuncId}{args:List D}{dst:Option Nat}{s:St}{K:St→Prop}{fn:eQ}{α:Type}{g:α→D}{Q:α→Prop}(h:Wf T f args [] (Ex g Q))(k:∀ r,Q r→K { s with env:=put s.env dst (g r) })
  (hf:T.fn f=some fn:=by exact rfl) (hp:fn.full=false:=by exact rfl) (hc:fm args=true:=by simp) (hx:∀ r,closed (g r)=true:=by intro;simp):fr T f args dst s K .mk:=fr.q hf hp h hc hx k
theorem Yn{T:gb}{f:FuncId}{args:List D}{dst:Option Nat}{s:St}{K:St→Prop}{fn:eQ}{d:D}{Hn:U}(h:Wf T f args [] fun d' H'=>d'=d∧H'=Hn)(k:K { s with env:=put s.env dst (iO s.H.length d),H:=s.H++Hn })
  (hf:T.fn f=some fn:=by exact rfl) (hp:fn.full=false:=by exact rfl) (hc:fm args=true:=by simp) (hr:(kE d&&Hn.all lG)=true:=by simp):fr T f args dst s K .mk:=fr.n hf hp h hc hr k
