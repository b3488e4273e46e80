/- Part 10 of the proof of skewer.skewerlaw15.TableValues. -/
import Derived.Test.YtnaefnajkaohgaaGreatDoorE09
import Derived.Test.YtnaefnajkaohgaaGreatDoorE07
set_option linter.all false
namespace Go.AL
def je(a b:Int):Int:=if a<b then -1 else if a>b then 1 else 0
def iY:List Int→List Int→Int
 | [],[]=>0
 | [],_::_ => -1
 | _::_,[]=>1
 | a::l,b::m=>if a=b then iY l m else je a b
def lg:List Int→Int
 | []=>0
 | a::l=>if a≠0 then a else lg l
def gp(p q:Pos):Int:=lg [iY p.cs q.cs,iY p.h0 q.h0,iY p.h1 q.h1,je p.fq q.fq,je p.side q.side]
theorem tf{a b:Int}:je a b=0↔a=b:=by
 unfold je;(repeat' split)<;>omega
theorem yu{a b:Int}:je a b<0↔a<b:=by
 unfold je;(repeat' split)<;>omega
theorem Gz(a b:Int):je b a = - je a b:=by
 unfold je;(repeat' split)<;>omega
theorem Gm:∀ {a b:List Int},iY a b=0↔a=b
 | [],[]=>by simp[iY]
 | [],_::_=>by simp[iY]
 | _::_,[]=>by simp[iY]
 | a::l,b::m=>by
  unfold iY
  split
  ·rename_i h;subst h;rw[Gm];simp
  ·rename_i h;rw[tf];simp[h]
theorem Gk:∀ (a b:List Int),iY b a = - iY a b
 | [],[]=>rfl
 | [],_::_=>rfl
 | _::_,[]=>rfl
 | a::l,b::m=>by
  unfold iY
  by_cases h:a=b
  ·subst h;simp[Gk l m]
  ·rw[if_neg h,if_neg (dM h),Gz]
theorem Gl:∀ {a b c:List Int},iY a b<0→iY b c<0→iY a c<0
 | [],[],c,h,_=>by simp[iY]at h
 | _::_,[],c,h,_=>by simp[iY]at h
 | a,_::_,[],_,h=>by simp[iY]at h
 | [],_::_,_::_,_,_=>by simp[iY]
 | a::l,b::m,c::k,h1,h2=>by
  unfold iY at *
  by_cases e1:a=b
  ·subst e1
   rw[if_pos rfl]at h1
   by_cases e2:a=c
   ·subst e2
    rw[if_pos rfl]at h2 ⊢
    exact Gl h1 h2
   ·rw[if_neg e2]at h2 ⊢;exact h2
  ·rw[if_neg e1,yu]at h1
   by_cases e2:b=c
   ·subst e2;rw[if_neg e1,yu];exact h1
   ·rw[if_neg e2,yu]at h2
    rw[if_neg (by omega),yu];omega
theorem Iy:∀ {l:List Int},lg l=0↔∀ x∈l,x=0
 | []=>by simp[lg]
 | a::l=>by
  unfold lg
  split
  ·rename_i h;simp[h]
  ·rename_i h;rw[Iy];simp_all
theorem n9{p q:Pos}:gp p q=0↔p=q:=by
 unfold gp
 rw[Iy]
 cases p;cases q
 simp[Gm,tf]
theorem p8(p:Pos):gp p p=0:=n9.2 rfl
theorem qB(p q:Pos):gp q p = - gp p q:=by
 unfold gp lg
 rw[Gk p.cs,Gk p.h0,Gk p.h1,Gz p.fq,Gz p.side]
 simp only[lg]
 (repeat' split)<;>omega
theorem vE{A B C:Int}{a b c:List Int}(h1:A=0→C=B)(h2:B=0→C=A)(h3:A<0→B<0→C<0)(h:lg a<0→lg b<0→lg c<0):lg (A::a)<0→lg (B::b)<0→lg (C::c)<0:=by
 unfold lg
 intro x y
 by_cases hA:A=0
 ·have:=h1 hA
  subst this
  rw[if_neg (by simpa using hA)]at x
  by_cases hB:C=0
  ·rw[if_neg (by simpa using hB)]at y ⊢
   exact h x y
  ·rw[if_pos hB]at y ⊢;exact y
 ·rw[if_pos hA]at x
  by_cases hB:B=0
  ·have:=h2 hB
   subst this
   rw[if_pos hA];exact x
  ·rw[if_pos hB]at y
   have:=h3 x y
   rw[if_pos (by omega)];exact this
theorem tS{p q r:Pos}:gp p q<0→gp q r<0→gp p r<0:=by
 have key:∀ a b c:List Int,iY a b=0→iY a c=iY b c:=fun a b c h=>by rw[Gm.1 h]
 have JW:∀ a b c:List Int,iY b c=0→iY a c=iY a b:=fun a b c h=>by rw[Gm.1 h]
 have n1:∀ a b c:Int,je a b=0→je a c=je b c:=fun a b c h=>by rw[tf.1 h]
 have n2:∀ a b c:Int,je b c=0→je a c=je a b:=fun a b c h=>by rw[tf.1 h]
 have nt:∀ a b c:Int,je a b<0→je b c<0→je a c<0:=fun a b c=>by simp only[yu];omega
 unfold gp
 refine vE (key _ _ _) (JW _ _ _) Gl (vE (key _ _ _) (JW _ _ _) Gl (vE (key _ _ _) (JW _ _ _) Gl (vE (n1 _ _ _) (n2 _ _ _) (nt _ _ _) (vE (n1 _ _ _) (n2 _ _ _) (nt _ _ _) fun h=>?_))))
 simp[lg]at h
theorem Pq{a b:List Int}:∀ {i:Nat},a.take i=b.take i→i≤a.length→i≤b.length→iY a b=iY (a.drop i) (b.drop i):=by
 intro i
 induction i generalizing a b with
 | zero=>intro _ _ _;rfl
 | succ i ih=>
  intro h h1 h2
  cases a with
  | nil=>simp at h1
  | cons x a=>
   cases b with
   | nil=>simp at h2
   | cons y b=>
    simp only[cE,bY]at h
    simp only[aG]at h1 h2
    simp only[List.drop_succ_cons,iY,h.1,if_true]
    exact ih h.2 (by omega) (by omega)
theorem J4{a b:List Int}(h:a.length=0∨b.length=0):iY a b=je a.length b.length:=by
 cases a<;>cases b<;>simp_all [iY,je]
 all_goals omega
theorem MI{p q r:Pos}(h1:gp p q≤0)(h2:gp q r≤0):gp p r≤0:=by
 by_cases a:gp p q=0
 ·rw[n9.1 a];exact h2
 ·by_cases b:gp q r=0
  ·rw[← n9.1 b];exact h1
  ·exact Int.le_of_lt (tS (show gp p q<0 by omega) (show gp q r<0 by omega))
def WS(l:List Pos):Prop:=l.Pairwise fun x y=>gp x y≤0
def Small(p:Pos):Prop:=p.cs.length<2 ^ 40∧p.h0.length<2 ^ 40∧p.h1.length<2 ^ 40
def jn(l:List Pos):Prop:=∀ i:Int,1≤i→i<l.length→gp (gt l (i-1)) (gt l i)<0
theorem jn.lt{l:List Pos}(h:jn l){i:Int}(h0:0≤i):∀ {n:Nat},i<n→(n:Int)<l.length→gp (gt l i) (gt l n)<0
 | 0,h1,_=>by omega
 | n+1,h1,h2=>by
  have:=h (n+1) (by omega) (by omega)
  rw[dj]at this
  by_cases e:i=n
  ·subst e;exact this
  ·exact tS (h.lt h0 (by omega) (by omega)) this
theorem jn.le{l:List Pos}(h:jn l){i j:Int}(h0:0≤i)(h1:i<j)(h2:j<l.length):gp (gt l i) (gt l j)<0:=by
 have:=h.lt h0 (n:=j.toNat) (by omega) (by omega)
 rwa [cD (by omega)]at this
theorem jn.inj{l:List Pos}(h:jn l){i j:Int}(h0:0≤i)(h1:i<l.length)(h2:0≤j)(h3:j<l.length)(e:gt l i=gt l j):i=j:=by
 by_cases a:i<j
 ·have:=h.le h0 a h3;rw[e,p8]at this;omega
 ·by_cases b:j<i
  ·have:=h.le h2 b h1;rw[e,p8]at this;omega
  ·omega
def oc(l:List Pos)(p:Pos):Int:=if p∈l then(l.idxOf p:Int)else -1
theorem Nu{l:List Pos}{p:Pos}(h:p ∉ l):oc l p = -1:=if_neg h
theorem z'{l:List Pos}{p:Pos}(h:p∈l):0≤oc l p∧oc l p<l.length∧gt l (oc l p)=p:=by
 unfold oc
 rw[if_pos h]
 have hi:l.idxOf p<l.length:=List.idxOf_lt_length_iff.2 h
 refine⟨by omega,by omega,?_⟩
 rw[qG hi]
 exact List.getElem_idxOf hi
theorem T2{l:List Pos}(hs:jn l){i:Int}(h0:0≤i)(h1:i<l.length):oc l (gt l i)=i:=by
 obtain⟨a,b,c⟩:=z' (ff h0 h1)
 exact hs.inj a b h0 h1 c
end Go.AL
namespace Go.AL
open Go
def pt{α:Type}(l:List α)(n:Int)(v:α):List α:=l.take n.toNat++v::l.drop (n.toNat+1)
section
variable{α:Type}[Inhabited α]{l:List α}{n k:Int}{v:α}
theorem Bs(h0:0≤n)(h:n<l.length):pt l n v=l.set n.toNat v:=by
 rw[pt,cO,if_pos (by omega)]
theorem gI(h0:0≤n)(h:n<l.length):(pt l n v).length=l.length:=by
 rw[Bs h0 h,bP]
theorem mb(h0:0≤n)(h:n<l.length)(hk:0≤k):gt (pt l n v) k=if k=n then v else gt l k:=by
 rw[Bs h0 h]
 unfold gt
 simp only[List.getD_eq_getElem?_getD,bF]
 by_cases e:k=n
 ·subst e;rw[if_pos rfl,if_pos rfl,if_pos (by omega)];rfl
 ·rw[if_neg (by omega),if_neg e]
theorem xH(h0:0≤n)(h:n<l.length):gt (pt l n v) n=v:=by rw[mb h0 h h0,if_pos rfl]
theorem Ae(h0:0≤n)(h:n<l.length)(hk:0≤k)(e:k≠n):gt (pt l n v) k=gt l k:=by rw[mb h0 h hk,if_neg e]
theorem PM{x:α}(h:x∈pt l n v):x=v∨x∈l:=by
 unfold pt at h
 simp only[List.mem_append,aq]at h
 rcases h with h|h|h
 ·exact .inr (aM h)
 ·exact .inl h
 ·exact .inr (bX h)
end
@[simp] theorem amn{α:Type}(l:List α)(n:Int)(v:α):l.take n.toNat++v::l.drop (n.toNat+1)=pt l n v:=(rfl)
def jB(g:eU)(s d c:Int):Int:=
 if s<0∨s>1∨d<0∨d≥g.next.length∨c<0∨c≥g.size then -1 else gt (gt g.next (if s=1 then gt g.gV d else d)) c
structure l7(g:eU):Prop where
 size:1≤g.size∧g.size≤9
 next:g.next.length=8
 row:∀ l∈g.next,(l.length:Int)=g.size∧∀ x∈l,-1≤x∧x<g.size
 gV:g.gV.length=8
 turns:∀ d,0≤d→d<8→0≤gt g.gV d∧gt g.gV d<8∧gt g.gV (gt g.gV d)=d
theorem l7.to{g:eU}(h:l7 g)(s d c:Int) : -1≤jB g s d c∧jB g s d c<g.size:=by
 have:=h.size
 unfold jB
 split
 ·omega
 ·rename_i e
  have hn:=h.next
  simp only[not_or,eu,Int.not_le,gt_iff_lt,ge_iff_le]at e
  have hd:0≤(if s=1 then gt g.gV d else d)∧(if s=1 then gt g.gV d else d)<8:=by
   split
   ·have:=h.turns d (by omega) (by omega);omega
   ·omega
  have hr:=h.row _ (ff (l:=g.next) hd.1 (by omega))
  exact hr.2 _ (ff (by omega) (by omega))
structure vg(g:eU)(x:eY):Prop where
 ok:((x.1=1∨x.1=2∨x.1=7)∧0≤x.2∧x.2<8)∨(3≤x.1∧x.1≤6∧x.2=0)∨(x.1=8∧0≤x.2∧x.2<g.kinds.length)∨((x.1=9∨x.1=10)∧0≤x.2∧x.2<g.fq)
def kr(l:List eY)(op:Int):Int:=(l.countP fun x=>x.1=op:Nat)
structure sw(g:eU)(l:List eY):Prop where
 len:1≤l.length∧l.length≤8
 steps:∀ x∈l,vg g x
 qu:kr l 6≤2
 push:kr l 7≤1
 zA:kr l 8≤1
structure w5(g:eU)(c:Clause):Prop where
 ok:(c.cond=1∧0≤c.kind∧c.kind<g.kinds.length∧c.n=0)∨(c.cond=2∧0≤c.kind∧c.kind<g.kinds.length∧0≤c.n∧c.n<g.size)∨(c.cond=3∧c.kind=0∧0≤c.n∧c.n≤64)
 out:1≤c.out∧c.out≤3
def kindName(n:Int):ByteArray:=if n=0 then⟨#[97]⟩else⟨#[98,101,101]⟩
structure fr(g:eU):Prop where
 ib:l7 g
 kinds:1≤g.kinds.length∧g.kinds.length≤2
 names:∀ k:Int,0≤k→k<g.kinds.length→(gt g.kinds k).name=kindName k
 gD:∀ k∈g.kinds,k.gD.length≤4∧∀ l∈k.gD,sw g l
 fq:0≤g.fq∧g.fq≤2
 clauses:g.clauses.length≤3
 clause:∀ c∈g.clauses,w5 g c
 blocked:1≤g.blocked∧g.blocked≤3
 o4:1≤g.o4∧g.o4≤3
structure oC(g:eU)(l:List Int):Prop where
 len:l.length=g.kinds.length
 at_:∀ k:Int,0≤k→k<l.length→0≤gt l k∧gt l k≤8∧(0<gt l k→(gt g.kinds k).mZ=true)
structure fR(g:eU)(p:Pos):Prop where
 size:(p.cs.length:Int)=g.size
 h0:oC g p.h0
 h1:oC g p.h1
 fq:0≤p.fq∧p.fq<2 ^ g.fq.toNat
 side:0≤p.side∧p.side≤1
 cs:∀ x∈p.cs,0≤x∧x≤2*g.kinds.length
def fo(n:Int):Int:=if 1≤n∧n≤12 then(n-1) / 2 else -1
def iA(n:Int):Int:=if 1≤n∧n≤12 then(n-1) % 2 else -1
def iS(k s:Int):Int:=1+2*k+s
def pK(g:eU)(s d c:Int):Nat→Int→List Int→List Int
 | 0,_,out=>out
 | n+1,x,out=>if 0≤x∧x≠c∧x ∉ out then pK g s d c n (jB g s d x) (out ++ [x])else out
def jz(g:eU)(s d c:Int):List Int:=pK g s d c 10 (jB g s d c) []
theorem Pn{g:eU}(hg:l7 g){s d c:Int}:∀ (n:Nat) (x:Int) (out:List Int),x<g.size→(∀ y∈out,0≤y∧y<g.size)→∀ y∈pK g s d c n x out,0≤y∧y<g.size
 | 0,x,out,_,h,y,hy=>h y hy
 | n+1,x,out,hx,h,y,hy=>by
  unfold pK at hy
  split at hy
  ·rename_i e
   refine Pn hg n _ _ (hg.to _ _ _).2 (fun z hz=>?_) y hy
   simp only[List.mem_append,List.mem_singleton]at hz
   rcases hz with hz|hz
   ·exact h z hz
   ·omega
  ·exact h y hy
theorem J1{g:eU}(hg:l7 g){s d c y:Int}(h:y∈jz g s d c):0≤y∧y<g.size:=Pn hg _ _ _ (hg.to _ _ _).2 (by simp) y h
theorem uL:∀ (n:Nat) (l:List Int),l.Nodup→(∀ y∈l,0≤y∧y<n)→l.length≤n
 | 0,[],_,_=>by simp
 | 0,a::l,_,h=>by have:=h a (by simp);omega
 | n+1,l,hn,h=>by
  by_cases e:(n:Int)∈l
  ·have h1:(l.erase (n:Int)).length≤n:=uL n _ (hn.erase _) fun y hy=>by
    have:=(hn.mem_erase_iff).1 hy
    have:=h y this.2
    omega
   rw[eC e]at h1
   omega
  ·have:=uL n l hn fun y hy=>by
    have:=h y hy
    have:y≠n:=fun e2=>e (e2▸hy)
    omega
   omega
structure e9 where
 p:Pos
 kind:Int
 cur:Int
 iu:Bool
 deriving DecidableEq,Inhabited
def e9.cells(s:e9):List D:=[dI s.p.cs,dI s.p.h0,dI s.p.h1,.i s.p.fq,.i s.p.side,.i s.kind,.i s.cur,.b s.iu]
structure iD(g:eU)(s:e9):Prop where
 p:fR g s.p
 kind:0≤s.kind∧s.kind<g.kinds.length
 cur:0≤s.cur∧s.cur<g.size
def Pos.hand(p:Pos)(s:Int):List Int:=if s=0 then p.h0 else p.h1
def Pos.jG(p:Pos)(s:Int)(l:List Int):Pos:=if s=0 then{ p with h0:=l }else{ p with h1:=l }
def nD(s:e9):List Int→List e9
 | []=>[]
 | c::r=>{ s with cur:=c }::if gt s.p.cs c=0 then nD s r else []
def oS(g:eU)(s:e9):List e9:=
 let c:=gt s.p.cs s.cur
 if iA c≠1-s.p.side then []else
  let p:={ s.p with cs:=pt s.p.cs s.cur 0 }
  if (gt g.kinds (fo c)).mZ=false then [{ s with p:=p,iu:=true }]else
   let n:=gt (s.p.hand s.p.side) (fo c)+1
   if n≤8 then [{ s with p:=p.jG s.p.side (pt (s.p.hand s.p.side) (fo c) n),iu:=true }]else []
def ph(g:eU)(s:e9)(n:Int):List e9:=
 let to:=jB g s.p.side n s.cur
 if gt s.p.cs s.cur=0∨to<0∨gt s.p.cs to≠0 then []else
  [{ s with p:={ s.p with cs:=pt (pt s.p.cs to (gt s.p.cs s.cur)) s.cur 0 } }]
def vL(r n:Int):Prop:=r / 2 ^ n.toNat % 2=1
instance(r n:Int):Decidable (vL r n):=by unfold vL;infer_instance
def dropRight(r n:Int):Int:=if vL r n then r-2 ^ n.toNat else r
theorem KX{b:Int}(h0:0≤b)(h:b≤4):Hb .i64 1 b=2 ^ b.toNat:=by
 have:b=0∨b=1∨b=2∨b=3∨b=4:=by omega
 rcases this with rfl|rfl|rfl|rfl|rfl<;>decide
theorem PU{r:Int}(h0:0≤r)(h:r<16):∃ i:Fin 16,r=(i.val:Int):=⟨⟨r.toNat,by omega⟩,by simp;omega⟩
theorem PW{r:Int}(h0:0≤r)(h:r<4):∃ i:Fin 4,r=(i.val:Int):=⟨⟨r.toNat,by omega⟩,by simp;omega⟩
theorem QG:∀ (i:Fin 16) (k:Fin 4),(bits .and .i64 (yJ .i64 (i.val:Int) (k.val:Int)) 1=1↔vL (i.val:Int) (k.val:Int))∧bits .andNot .i64 (i.val:Int) (Hb .i64 1 (k.val:Int))=dropRight (i.val:Int) (k.val:Int):=by decide +kernel
theorem QE{r n:Int}(h0:0≤r)(h1:r<16)(h2:0≤n)(h3:n<4):(bits .and .i64 (yJ .i64 r n) 1=1)=vL r n:=by
 obtain⟨i,rfl⟩:=PU h0 h1
 obtain⟨k,rfl⟩:=PW h2 h3
 exact propext (QG i k).1
theorem QF{r n:Int}(h0:0≤r)(h1:r<16)(h2:0≤n)(h3:n<4):bits .andNot .i64 r (Hb .i64 1 n)=dropRight r n:=by
 obtain⟨i,rfl⟩:=PU h0 h1
 obtain⟨k,rfl⟩:=PW h2 h3
 exact(QG i k).2
theorem yA{b:Int}(h0:0≤b)(h:b≤4):(2:Int) ^ b.toNat≤16:=by
 have:b=0∨b=1∨b=2∨b=3∨b=4:=by omega
 rcases this with rfl|rfl|rfl|rfl|rfl<;>decide
def gF(g:eU)(s:e9)(x:eY):List e9:=
 let c:=gt s.p.cs s.cur
 if x.1=1 then(let to:=jB g s.p.side x.2 s.cur;if 0≤to then [{ s with cur:=to }]else [])
 else if x.1=2 then nD s (jz g s.p.side x.2 s.cur)
 else if x.1=3 then(if c=0 then [s]else [])
 else if x.1=4 then(if iA c=1-s.p.side then [s]else [])
 else if x.1=5 then(if iA c=s.p.side then [s]else [])
 else if x.1=6 then oS g s
 else if x.1=7 then ph g s x.2
 else if x.1=8 then [{ s with kind:=x.2 }]
 else if x.1=9 then(if vL s.p.fq x.2 then [s]else [])
 else [{ s with p:={ s.p with fq:=dropRight s.p.fq x.2 } }]
def oy(g:eU):List eY→List e9→List e9
 | [],l=>l
 | x::r,l=>oy g r (l.flatMap fun s=>gF g s x)
def jl(p:Pos)(cell:Int):e9:={ p:={ p with cs:=pt p.cs cell 0 },kind:=fo (gt p.cs cell),cur:=cell,iu:=false }
structure fD where
 p:Pos
 iu:Bool
 deriving DecidableEq,Inhabited
def fD.cells(o:fD):List D:=[dI o.p.cs,dI o.p.h0,dI o.p.h1,.i o.p.fq,.i o.p.side,.b o.iu]
def lO(side:Int)(s:e9):Option fD:=
 if gt s.p.cs s.cur=0 then some { p:={ s.p with cs:=pt s.p.cs s.cur (iS s.kind side),side:=1-side },iu:=s.iu }else none
def qo(g:eU)(p:Pos)(cell:Int)(l:List eY):List fD:=(oy g l [jl p cell]).filterMap (lO p.side)
def upto(n:Nat):List Int:=(List.range n).map fun k:Nat=>(k:Int)
theorem pg{n:Nat}{k:Int}:k∈upto n↔0≤k∧k<n:=by
 simp only[upto,ao,aX]
 constructor
 ·rintro⟨a,h,rfl⟩;omega
 ·intro h;exact⟨k.toNat,by omega,by omega⟩
def mO(g:eU)(p:Pos)(c:Int):List fD:=if iA (gt p.cs c)=p.side then(gt g.kinds (fo (gt p.cs c))).gD.flatMap (qo g p c)else []
def nc(g:eU)(p:Pos):List fD:=(upto p.cs.length).flatMap (mO g p)
def iG(p:Pos)(k c:Int):Pos:={ p.jG p.side (pt (p.hand p.side) k (gt (p.hand p.side) k-1))with cs:=pt p.cs c (iS k p.side),side:=1-p.side }
def sr(g:eU)(p q:Pos):Prop:=∃ k c:Int,0≤k∧k<g.kinds.length∧0≤c∧c<p.cs.length∧gt (p.hand p.side) k≠0∧gt p.cs c=0∧q=iG p k c
def oO(p:Pos)(side kind:Int):Int:=(p.cs.countP fun c=>0≤fo c∧iA c=side∧(kind<0∨fo c=kind):Nat)
def jh(p:Pos)(c:Clause):Prop:=
 if c.cond=1 then oO p p.side c.kind=0 else if c.cond=2 then gt p.cs c.n=iS c.kind (1-p.side)else oO p p.side (-1)≤c.n
def nG(g:eU)(p q:Pos):Prop:=
 (∀ c∈g.clauses,¬ jh p c) ∧
 if g.lq=true∧(∃ o∈nc g p,o.iu=true)then⟨q,true⟩∈nc g p else(∃ o∈nc g p,o.p=q)∨sr g p q
theorem fR.small{g:eU}(hg:fr g){p:Pos}(h:fR g p):Small p:=by
 have h1:=h.size;have h2:=hg.ib.size;have h3:=h.h0.len;have h4:=h.h1.len;have h5:=hg.kinds
 exact⟨by omega,by omega,by omega⟩
theorem fR.hand{g:eU}{p:Pos}(h:fR g p)(s:Int):oC g (p.hand s):=by
 unfold Pos.hand;split
 ·exact h.h0
 ·exact h.h1
theorem fR.jG{g:eU}{p:Pos}(h:fR g p)(s:Int){l:List Int}(hl:oC g l):fR g (p.jG s l):=by
 unfold Pos.jG;split
 ·exact{ h with h0:=hl }
 ·exact{ h with h1:=hl }
theorem fR.uU{g:eU}{p:Pos}(h:fR g p){c v:Int}(hc:0≤c)(Fx:c<g.size)(hv:0≤v∧v≤2*g.kinds.length):fR g { p with cs:=pt p.cs c v }:=
 { h with
  size:=by dsimp only;rw[gI hc (by rw[h.size];exact Fx)];exact h.size
  cs:=fun x hx=>by
   rcases PM hx with rfl|hx
   ·exact hv
   ·exact h.cs x hx }
theorem oC.set{g:eU}{l:List Int}(h:oC g l){k v:Int}(hk:0≤k)(ja:k<l.length)(hv:0≤v∧v≤8∧(0<v→(gt g.kinds k).mZ=true)):oC g (pt l k v) where
 len:=by rw[gI hk ja];exact h.len
 at_ j hj FD:=by
  rw[gI hk ja]at FD
  rw[mb hk ja hj]
  split
  ·rename_i e;subst e;exact hv
  ·exact h.at_ j hj FD
theorem r7{n:Int}{g:eU}(h:n≤2*g.kinds.length)(hk:1≤g.kinds.length):fo n<g.kinds.length:=by
 unfold fo;split<;>omega
theorem wz{n s:Int}(hs:0≤s)(h:iA n=s):0≤fo n∧1≤n∧n≤12∧n=iS (fo n) s:=by
 unfold iA at h;unfold fo iS
 split at h<;>rename_i e
 ·rw[if_pos e];omega
 ·omega
theorem S5{r n k:Int}(h:0≤r)(h2:r<2 ^ k.toNat):0≤dropRight r n∧dropRight r n<2 ^ k.toNat:=by
 unfold dropRight
 split
 ·rename_i e
  unfold vL at e
  have hp:(0:Int)<2 ^ n.toNat:=Int.pow_pos (by decide)
  have:2 ^ n.toNat≤r:=by
   by_cases c:r<2 ^ n.toNat
   ·rw[Int.ediv_eq_zero_of_lt h c]at e;simp at e
   ·omega
  omega
 ·exact⟨h,h2⟩
theorem J3{s t:e9}:∀ {l:List Int},t∈nD s l→∃ c∈l,t = { s with cur:=c }
 | [],h=>by simp[nD]at h
 | c::r,h=>by
  unfold nD at h
  rcases aq.1 h with h|h
  ·exact⟨c,by simp,h⟩
  ·split at h
   ·obtain⟨c',h1,h2⟩:=J3 h;exact⟨c',by simp[h1],h2⟩
   ·cases h
theorem uV{g:eU}(hg:fr g){s:e9}(hs:iD g s){x:eY}(hx:vg g x){t:e9}(h:t∈gF g s x):iD g t:=by
 have hb:=hg.ib
 have kQ:s.cur<s.p.cs.length:=by rw[hs.p.size];exact hs.cur.2
 have hc:=hs.p.cs _ (ff hs.cur.1 kQ)
 unfold gF at h
 dsimp only at h
 split at h
 ·split at h
  ·rename_i h0
   rw[List.mem_singleton]at h;subst h
   exact{ hs with cur:=⟨h0,(hb.to _ _ _).2⟩ }
  ·cases h
 split at h
 ·obtain⟨c,h1,rfl⟩:=J3 h
  exact{ hs with cur:=J1 hb h1 }
 iterate 3
  split at h
  ·split at h
   ·rw[List.mem_singleton]at h;subst h;exact hs
   ·cases h
 split at h
 ·unfold oS at h
  dsimp only at h
  split at h
  ·cases h
  rename_i e
  have e:=dA.1 e
  have gH:=hs.p.side
  obtain⟨m1,m2,m3,m4⟩:=wz (by omega) e
  have hk:fo (gt s.p.cs s.cur)<g.kinds.length:=r7 hc.2 hg.kinds.1
  have hp:fR g { s.p with cs:=pt s.p.cs s.cur 0 }:=hs.p.uU hs.cur.1 hs.cur.2 (by omega)
  split at h
  ·rw[List.mem_singleton]at h;subst h
   exact{ hs with p:=hp }
  rename_i kp
  split at h
  ·rename_i h8
   rw[List.mem_singleton]at h;subst h
   have hh:=hs.p.hand s.p.side
   have hl:=hh.len
   have ha:=hh.at_ _ m1 (by rw[hl];exact hk)
   exact{ hs with p:=hp.jG _ (hh.set m1 (by rw[hl];exact hk) ⟨by omega,by omega,fun _=>by simpa using kp⟩) }
  ·cases h
 split at h
 ·unfold ph at h
  dsimp only at h
  split at h
  ·cases h
  rename_i e
  simp only[not_or,eu]at e
  rw[List.mem_singleton]at h;subst h
  have h1:=hs.p.uU (c:=jB g s.p.side x.2 s.cur) (v:=gt s.p.cs s.cur) e.2.1 (hb.to _ _ _).2 hc
  exact{ hs with p:=h1.uU hs.cur.1 hs.cur.2 (by omega) }
 split at h
 ·rename_i e8
  rw[List.mem_singleton]at h;subst h
  have hk:0≤x.2∧x.2<g.kinds.length:=by have:=hx.ok;omega
  exact{ hs with kind:=hk }
 split at h
 ·split at h
  ·rw[List.mem_singleton]at h;subst h;exact hs
  ·cases h
 ·rw[List.mem_singleton]at h;subst h
  exact{ hs with p:={ hs.p with fq:=S5 hs.p.fq.1 hs.p.fq.2 } }
theorem G3{g:eU}(hg:fr g):∀ {l:List eY} {a:List e9},(∀ x∈l,vg g x)→(∀ s∈a,iD g s)→∀ s∈oy g l a,iD g s
 | [],_,_,h,s,hs=>h s hs
 | x::r,a,hx,h,s,hs=>by
  refine G3 (a:=a.flatMap fun s=>gF g s x) hg (fun y hy=>hx y (by simp[hy])) (fun t ht=>?_) s hs
  obtain⟨u,hu,ht⟩:=bh.1 ht
  exact uV hg (h u hu) (hx x (by simp)) ht
theorem QR{g:eU}:∀ {l:List eY} {a b:List e9},(∀ s,s∈a↔s∈b)→∀ s,s∈oy g l a↔s∈oy g l b
 | [],_,_,h,s=>h s
 | x::r,a,b,h,s=>QR (l:=r) (fun t=>by simp only[bh,h]) s
theorem yO{g:eU}(hg:fr g){p:Pos}(hp:fR g p){c:Int}(h0:0≤c)(h1:c<g.size)(hm:iA (gt p.cs c)=p.side):iD g (jl p c):=by
 have hc:=hp.cs _ (ff h0 (by rw[hp.size];exact h1))
 exact{ p:=hp.uU h0 h1 (by omega),kind:=⟨(wz hp.side.1 hm).1,r7 hc.2 hg.kinds.1⟩,cur:=⟨h0,h1⟩ }
theorem E'{g:eU}{s:e9}(hs:iD g s){side:Int}(h0:0≤side)(h1:side≤1){o:fD}(h:lO side s=some o):fR g o.p:=by
 unfold lO at h
 split at h
 ·cases h
  have:=hs.kind
  exact{ hs.p.uU hs.cur.1 hs.cur.2 (v:=iS s.kind side) (by unfold iS;omega)with side:=by dsimp only;omega }
 ·cases h
theorem GL{g:eU}(hg:fr g){p:Pos}(hp:fR g p){o:fD}(h:o∈nc g p):fR g o.p:=by
 obtain⟨c,hc,h⟩:=bh.1 h
 rw[pg,hp.size]at hc
 unfold mO at h
 split at h
 ·rename_i e
  obtain⟨l,hl,h⟩:=bh.1 h
  obtain⟨s,hs,h⟩:=bW.1 h
  have fg:=yO hg hp hc.1 hc.2 e
  have hk:=hg.gD _ (ff (l:=g.kinds) fg.kind.1 fg.kind.2)
  exact E' (G3 hg (hk.2 l hl).steps (fun t ht=>by rw[List.mem_singleton]at ht;subst ht;exact fg) s hs) hp.side.1 hp.side.2 h
 ·cases h
theorem zX{g:eU}{p:Pos}(hp:fR g p){q:Pos}(h:sr g p q):fR g q:=by
 obtain⟨k,c,h1,h2,h3,h4,h5,h6,rfl⟩:=h
 have hh:=hp.hand p.side
 have hl:=hh.len
 have ha:=hh.at_ k h1 (by omega)
 have hs:=hp.side
 have hz:=hp.size
 have xZ:=(hp.jG p.side (hh.set h1 (v:=gt (p.hand p.side) k-1) (by omega) ⟨by omega,by omega,fun _=>ha.2.2 (by omega)⟩))
 have e:(p.jG p.side (pt (p.hand p.side) k (gt (p.hand p.side) k-1))).cs=p.cs:=by unfold Pos.jG;split<;>rfl
 have:=xZ.uU (c:=c) (v:=iS k p.side) h3 (by omega) (by unfold iS;omega)
 rw[e]at this
 exact{ this with side:=by dsimp only[iG];omega }
theorem Km{g:eU}(hg:fr g){p:Pos}(hp:fR g p){q:Pos}(h:nG g p q):fR g q:=by
 obtain⟨_,h⟩:=h
 split at h
 ·exact GL hg hp h
 ·rcases h with⟨o,h,rfl⟩|h
  ·exact GL hg hp h
  ·exact zX hp h
end Go.AL
namespace Go.Proofs.YtnaefnajkaohgaaGreatDoor
open Go Go.AL Classical
set_option maxRecDepth 10000
theorem f95(n a b:Int):Wf T 95 [.i n,.i a,.i b] [] (Is (.b (decide (a≤n∧n≤b)))):=by
 refine Yg Ec ?_
 simp[Ec]
 (with_reducible repeat' first|refine Xk ?_<;>try simp|refine Xs ?_ ?_<;>intro h<;>(try intro h')<;>(try simp[h])<;>(try omega)|refine Xg ?_|omega)
theorem f94(a b:Int):Wf T 94 [.i a,.i b] [] (Is (.i (je a b))):=by
 refine Yg Eb ?_
 simp[Eb]
 (with_reducible repeat' first|refine Xk ?_<;>try simp|refine Xs ?_ ?_<;>intro h<;>(try intro h')<;>(try simp[h])<;>(try omega)|refine Xg ?_|omega)
 all_goals (simp only[je];(repeat' split)<;>omega)
theorem f92{k s:Int}(hk:0≤k)(ja:k<6)(hs:0≤s)(lQ:s≤1):Wf T 92 [.i k,.i s] [] (Is (.i (1+2*k+s))):=by
 refine Yg D' ?_
 simp[D']
 (with_reducible repeat' first|refine Xk ?_<;>try simp|refine Xs ?_ ?_<;>intro h<;>(try intro h')<;>(try simp[h])<;>(try omega)|refine Xg ?_|omega)
theorem f156{k s:Int}(hk:0≤k)(ja:k<6)(hs:0≤s)(lQ:s≤1):Wf T 156 [.i k,.i s] [] (Is (.i (1+2*k+s))):=by
 refine Yg CQ ?_
 simp[CQ]
 refine fw.c rfl rfl (f95 _ _ _) (by simp[fy]) (by simp) ?_
 simp[show k≤5 by omega,hk]
 refine fw.c rfl rfl (f95 _ _ _) (by simp[fy]) (by simp) ?_
 simp[hs,lQ]
 omega
theorem f25(l:List Int)(n:Int)(hl:l.length<2 ^ 40):Wf T 25 [dI l,.i n] [] (Is (.b (decide (n∈l)))):=by
 refine Yg Du ?_
 simp[Du]
 refine fe.i (α:=Int) [0,1,5] rfl (fun i=>[(0,dI l),(1,.i n),(5,.i i)]) (fun _=>[]) (fun i=>0≤i∧i≤l.length∧n ∉ l.take i.toNat) (fun i=>l.length-i.toNat) 0 (by simp) (by simp) rfl ?_
 rintro i ⟨h0,h1,h2⟩
 simp
 (with_reducible repeat' first|refine Xk ?_<;>try simp|refine Xs ?_ ?_<;>intro h<;>(try intro h')<;>(try simp[h])<;>(try omega)|refine Xg ?_|omega)
 ·have:=ff h0 ‹_›
  simp_all
 ·skip
  rw[gE h0 ‹_›]
  simp_all
  exact fun e=>h e.symm
 ·simpa[js (by omega:(l.length:Int)≤i)]using h2
theorem f93(a b:List Int)(ha:a.length<2 ^ 40)(hb:b.length<2 ^ 40):Wf T 93 [dI a,dI b] [] (Is (.i (iY a b))):=by
 refine Yg Ea ?_
 simp[Ea]
 refine fe.j (0:Int) (fun i=>[(0,dI a),(1,dI b),(5,.i i)]) (fun _=>_) (fun i=>0≤i∧i≤a.length∧i≤b.length∧a.take i.toNat=b.take i.toNat) (fun i=>a.length-i.toNat) ?_ (by simp) (by first|rfl|simp) rfl ?_
 ·simp
 rintro i ⟨h0,h1,xL,h2⟩
 have e:=Pq h2 (by omega) (by omega)
 simp
 (with_reducible repeat' first|refine Xk ?_<;>try simp|refine Xs ?_ ?_<;>intro h<;>(try intro h')<;>(try simp[h])<;>(try omega)|refine Xg ?_|omega)
 ·skip
  rw[gE h0 (by omega),gE h0 (by omega),h2]
  simp_all
 ·refine Yt (f94 _ _) ?_
  simp
  rw[e,lB h0 ‹_›,lB h0 ‹_›,iY,if_neg (by assumption)]
 all_goals
  refine Yc (f94 _ _) ?_
  simp
  rw[e,J4 (by simp only[br];omega)]
  simp only[br,je]
  (repeat' split)<;>omega
theorem f50(p q:Pos)(hp:Small p)(hq:Small q):Wf T 50 [dP p,dP q] [] (Is (.i (gp p q))):=by
 refine Yg DR ?_
 simp[DR]
 refine Yt (f93 _ _ hp.1 hq.1) ?_
 simp
 refine Yt (f93 _ _ hp.2.1 hq.2.1) ?_
 simp
 refine Yt (f93 _ _ hp.2.2 hq.2.2) ?_
 simp
 refine Yt (f94 _ _) ?_
 simp
 refine Yt (f94 _ _) ?_
 simp
 (refine fe.un ?_;(repeat' first|(refine iO.u ?_;simp;done)|(refine iO.u ?_;simp)|((with_reducible first|refine X2.d ?_ ?_|refine X2.a ?_ ?_|refine X2.o ?_ ?_|refine X2.b ?_ ?_)<;>intro h<;>(try simp[h]))|fail))
 all_goals simp_all [gp,lg]
theorem f51(n:Int):Wf T 51 [.i n] [] (Is (.agg [.i (fo n),.i (iA n)])):=by
 refine Yg DS ?_
 simp[DS]
 refine Yc (f95 _ _ _) ?_
 simp
 (with_reducible repeat' first|refine Xk ?_<;>try simp|refine Xs ?_ ?_<;>intro h<;>(try intro h')<;>(try simp[h])<;>(try omega)|refine Xg ?_|omega)
 ·rw[yB (by omega) (by omega) (by omega),jV (by omega)]
  simp[fo,iA];omega
 ·simp[fo,iA];omega
theorem f84(n:Int):Wf T 84 [.i n] [] (Is (.tup [.i (fo n),.i (iA n)])):=by
 refine Yg D5 ?_
 simp[D5]
 (with_reducible repeat' first|refine Xk ?_<;>try simp|refine Xs ?_ ?_<;>intro h<;>(try intro h')<;>(try simp[h])<;>(try omega)|refine Xg ?_|omega)
 ·simp[fo,iA];omega
 ·simp[fo,iA];omega
 ·rw[yB (by omega) (by omega) (by omega),jV (by omega)]
  simp[fo,iA];omega
theorem f251(g:eU)(hg:l7 g)(s d c:Int):Wf T 251 [g.ib,.i s,.i d,.i c] [] (Is (.i (jB g s d c))):=by
 have hn:=hg.next
 have ht:=hg.gV
 refine Yg Dw ?_
 simp[Dw]
 (with_reducible repeat' first|refine Xk ?_<;>try simp|refine Xs ?_ ?_<;>intro h<;>(try intro h')<;>(try simp[h])<;>(try omega)|refine Xg ?_|omega)
 all_goals first
  | (simp only[jB];rw[if_pos (by omega)])
  | skip
 ·rename_i h
  have:=hg.turns d (by omega) (by omega)
  have hr:=hg.row (gt g.next (gt g.gV d)) (ff (by omega) (by omega))
  (with_reducible repeat' first|refine Xk ?_<;>try simp|refine Xs ?_ ?_<;>intro h<;>(try intro h')<;>(try simp[h])<;>(try omega)|refine Xg ?_|omega)
  simp only[jB];rw[if_neg (by omega)];simp
 ·rename_i h
  have hr:=hg.row (gt g.next d) (ff (by omega) (by omega))
  (with_reducible repeat' first|refine Xk ?_<;>try simp|refine Xs ?_ ?_<;>intro h<;>(try intro h')<;>(try simp[h])<;>(try omega)|refine Xg ?_|omega)
  simp only[jB];rw[if_neg (by omega)];simp[h]
theorem f240(g:eU)(hg:l7 g)(s d c:Int):Wf T 240 [g.ib,.i s,.i d,.i c] [] (Is (.i (jB g s d c))):=by
 have hn:=hg.next
 have ht:=hg.gV
 refine Yg Dq ?_
 simp[Dq]
 (with_reducible repeat' first|refine Xk ?_<;>try simp|refine Xs ?_ ?_<;>intro h<;>(try intro h')<;>(try simp[h])<;>(try omega)|refine Xg ?_|omega)
 all_goals first
  | (simp only[jB];rw[if_pos (by omega)])
  | skip
 ·rename_i h
  have:=hg.turns d (by omega) (by omega)
  have hr:=hg.row (gt g.next (gt g.gV d)) (ff (by omega) (by omega))
  (with_reducible repeat' first|refine Xk ?_<;>try simp|refine Xs ?_ ?_<;>intro h<;>(try intro h')<;>(try simp[h])<;>(try omega)|refine Xg ?_|omega)
  simp only[jB];rw[if_neg (by omega)];simp
 ·rename_i h
  have hr:=hg.row (gt g.next d) (ff (by omega) (by omega))
  (with_reducible repeat' first|refine Xk ?_<;>try simp|refine Xs ?_ ?_<;>intro h<;>(try intro h')<;>(try simp[h])<;>(try omega)|refine Xg ?_|omega)
  simp only[jB];rw[if_neg (by omega)];simp[h]
theorem f110(p q:Pos)(hp:Small p)(hq:Small q):Wf T 110 [dP p,dP q] [] (Is (.b (decide (p=q)))):=by
 refine Yg Cm ?_
 simp[Cm]
 refine Yc (f50 p q hp hq) ?_
 simp
 rw[n9]
set_option maxRecDepth 10000
set_option maxHeartbeats 1000000
theorem f27(l:List Pos)(p:Pos)(hl:l.length<2 ^ 40)(hs:∀ p∈l,Small p)(hp:Small p)(uz:jn l):Wf T 27 [gb l,dP p] [] (Is (.i (oc l p))):=by
 refine Yg DF ?_
 simp[DF]
 refine fe.j ((0,(l.length:Int)):Int×Int) (fun x=>[(0,gb l),(3,.ptr 0 0 0),(5,.i x.1),(6,.i x.2)]) (fun _=>[.row 44 0 p.cells]) (fun x=>0≤x.1∧x.1≤x.2∧x.2≤l.length∧∀ k:Int,0≤k→k<l.length→gt l k=p→x.1≤k∧k<x.2) (fun x=>(x.2-x.1).toNat) ?_ (by simp) rfl rfl ?_
 ·simp;omega
 rintro⟨a,b⟩ ⟨h0,h1,h2,h3⟩
 simp at h0 h1 h2 h3
 simp
 (with_reducible repeat' first|refine Xk ?_<;>try simp|refine Xs ?_ ?_<;>intro h<;>(try intro h')<;>(try simp[h])<;>(try omega)|refine Xg ?_|omega)
 ·rw[yB (by omega) (by omega) (by omega)]
  (with_reducible repeat' first|refine Xk ?_<;>try simp|refine Xs ?_ ?_<;>intro h<;>(try intro h')<;>(try simp[h])<;>(try omega)|refine Xg ?_|omega)
  refine Yt (f50 p (gt l ((a+b) / 2)) hp (hs _ (ff (by omega) (by omega)))) ?_
  simp
  (with_reducible repeat' first|refine Xk ?_<;>try simp|refine Xs ?_ ?_<;>intro h<;>(try intro h')<;>(try simp[h])<;>(try omega)|refine Xg ?_|omega)
  ·rw[n9]at h
   rw[h,T2 uz (by omega) (by omega)]
  ·have ft:∀ k:Int,(a+b) / 2≤k→k<l.length→gt l k≠p:=fun k hk ja e=>by
    by_cases e2:k=(a+b) / 2
    ·subst e2;rw[e,p8]at h;omega
    ·have:=tS h (uz.le (by omega) (show(a+b) / 2<k by omega) ja)
     rw[e,p8]at this;omega
   intro k hk ja e
   have:=h3 k hk ja e
   by_cases Jd:(a+b) / 2≤k
   ·exact absurd e (ft k Jd ja)
   ·omega
  ·have h6:gp (gt l ((a+b) / 2)) p<0:=by rw[qB];omega
   have ft:∀ k:Int,0≤k→k≤(a+b) / 2→gt l k≠p:=fun k hk ja e=>by
    by_cases e2:k=(a+b) / 2
    ·subst e2;rw[e,p8]at h6;omega
    ·have:=tS (uz.le hk (show k<(a+b) / 2 by omega) (by omega)) h6
     rw[e,p8]at this;omega
   intro k hk ja e
   have:=h3 k hk ja e
   by_cases Jd:k≤(a+b) / 2
   ·exact absurd e (ft k hk Jd)
   ·omega
 ·rw[Nu]
  intro hm
  obtain⟨k,hk,ja,e⟩:=qm.1 hm
  have:=h3 k hk ja e
  omega
theorem f111(g:eU)(l:List Int)(hg:fr g)(hl:oC g l):Wf T 111 [dG g,dI l] [] (Is (.b true)):=by
 have hk:=hg.kinds
 have hn:=hl.len
 refine Yg Cn ?_
 simp[Cn]
 (with_reducible repeat' first|refine Xk ?_<;>try simp|refine Xs ?_ ?_<;>intro h<;>(try intro h')<;>(try simp[h])<;>(try omega)|refine Xg ?_|omega)
 refine fe.j (0:Int) (fun i=>[(1,dI l),(2,.ptr 0 0 0),(5,.i i)]) (fun i=>[.row 41 0 g.cells]) (fun i=>0≤i∧i≤l.length) (fun i=>l.length-i.toNat) ?_ (by simp) (by first|rfl|simp) rfl ?_
 ·simp
 rintro i ⟨h0,h1⟩
 simp
 (with_reducible refine Xs ?_ ?_<;>intro h<;>(try intro h')<;>(try simp[h])<;>(try omega))
 ·have h2:=hl.at_ i h0 ‹_›
  (with_reducible repeat' first|refine Xk ?_<;>try simp|refine Xs ?_ ?_<;>intro h<;>(try intro h')<;>(try simp[h])<;>(try omega)|refine Xg ?_|omega)
  have:=h2.2.2
  all_goals simp_all
  all_goals omega
theorem f65(g:eU)(p:Pos)(hg:fr g)(hp:fR g p):Wf T 65 [dG g,dP p] [] (Is (.b true)):=by
 have hk:=hg.kinds
 have hr:=hg.fq
 have h1:=hp.size
 have h2:=hp.fq
 have h3:=hp.side
 have hb:=hg.ib.size
 have h4:=KX hr.1 (by omega)
 refine Yg D1 ?_
 simp[D1,h1]
 refine Yt (f111 g _ hg hp.h0) ?_
 simp[h1]
 refine Yt (f111 g _ hg hp.h1) ?_
 simp[h1]
 (with_reducible repeat' first|refine Xk ?_<;>try simp[h4]|refine Xs ?_ ?_<;>intro h<;>(try intro h')<;>(try simp[h,h4])<;>(try omega)|refine Xg ?_|omega)
 refine fe.j (0:Int) (fun i=>[(2,.ptr 0 0 0),(3,.ptr 1 0 0),(5,.i i)]) (fun i=>[.row 41 0 g.cells,.row 44 0 p.cells]) (fun i=>0≤i∧i≤p.cs.length) (fun i=>p.cs.length-i.toNat) ?_ (by simp) (by first|rfl|simp) rfl ?_
 ·simp
 rintro i ⟨h0,h5⟩
 simp
 (with_reducible refine Xs ?_ ?_<;>intro h<;>(try intro h')<;>(try simp[h])<;>(try omega))
 have h4:=hp.cs _ (ff h0 ‹_›)
 (with_reducible repeat' first|refine Xk ?_<;>try simp|refine Xs ?_ ?_<;>intro h<;>(try intro h')<;>(try simp[h])<;>(try omega)|refine Xg ?_|omega)
end Go.Proofs.YtnaefnajkaohgaaGreatDoor
namespace Go.AL
open Go
def Ex{α:Type}(g:α→D)(Q:α→Prop):D→U→Prop:=fun d H=>∃ r,d=g r∧H = []∧Q r
@[simp] theorem aeL{α:Type}(g:α→D)(Q:α→Prop)(d:D)(H:U):Ex g Q d H = ∃ r,d=g r∧H = []∧Q r:=(rfl)
section
variable{T:gj}{f:FuncId}{args ng:List D}{dst:Option Nat}{s:St}{K:St→Prop}{fn:eW}
theorem fw.q{α:Type}{g:α→D}{Q:α→Prop}(hf:T.fn f=some fn)(hp:fn.full=false)(h:Wf T f args [] (Ex g Q))
  (hc:fy args=true) (hx:∀ r,closed (g r)=true) (k:∀ r,Q r→K { s with env:=put s.env dst (g r) }):fw T f args dst s K .mk:=by
 refine fw.is hf hp (K0:=Ex g Q) ?_ ?_
 ·have e0:args.map (eZ (fun _=>none) s.H 40)=args:=by
   conv=>rhs;rw[← aT args]
   exact aj fun d hd=>lI (kE hc d hd)
  rw[e0];exact h
 ·rintro d Hn ⟨r,rfl,rfl,hr⟩
  obtain⟨k1,k2⟩:=zM (H:=s.H) (hx r)
  refine⟨{ s with env:=put s.env dst (g r) },?_,k r hr⟩
  unfold after
  rw[if_pos hc,k1,k2]
  simp
theorem ab6{d:D}(hx:flat d=true)(_:closed d=true):mN d=true:=(Iz (H:=[]) hx).1
theorem fw.rq{α:Type}{g:α→D}{Q:α→Prop}(hf:T.fn f=some fn)(hp:fn.full=false)(h:Wf T f ng [] (Ex g Q))
  (hs:args.map (eZ (fun _=>none) s.H 40)=ng) (hx:∀ r,flat (g r)=true) (kf:∀ r,closed (g r)=true) (k:∀ r,Q r→K { s with env:=put s.env dst (g r) }):fw T f args dst s K .mk:=by
 refine fw.is hf hp (K0:=Ex g Q) (by rw[hs];exact h) ?_
 rintro d Hn ⟨r,rfl,rfl,hr⟩
 obtain⟨k1,k2⟩:=zM (H:=s.H) (kf r)
 refine⟨{ s with env:=put s.env dst (g r) },?_,k r hr⟩
 unfold after
 rw[ab6 (hx r) (kf r),k1,k2]
 simp
end
section
variable{T:gj}{f:FuncId}{args:List D}{dst:Option Nat}{s:St}{K:St→Prop}{fn:eW}
theorem fw.n{d:D}{Hn:U}(hf:T.fn f=some fn)(hp:fn.full=false)(h:Wf T f args [] fun d' H'=>d'=d∧H'=Hn)
  (hc:fy args=true) (hr:(kW d&&Hn.all l9)=true) (k:K { s with env:=put s.env dst (iX s.H.length d),H:=s.H++Hn }):fw T f args dst s K .mk:=by
 refine fw.is hf hp (K0:=fun d' H'=>d'=d∧H'=Hn) ?_ ?_
 ·have e0:args.map (eZ (fun _=>none) s.H 40)=args:=by
   conv=>rhs;rw[← aT args]
   exact aj fun d hd=>lI (kE hc d hd)
  rw[e0];exact h
 ·rintro d' Ei ⟨rfl,rfl⟩
  refine⟨_,?_,k⟩
  unfold after
  rw[if_pos hc,if_pos hr]
theorem tJ.n{R:List Fp}{Q:Rc→St→Prop}{d:D}{ob:Ob}(hf:T.fn f=some fn)(hp:fn.full=false)(h:Wf T f args [] fun d' H'=>d'=d∧H' = [ob])
  (hc:fy args=true) (hr:(kW d&&l9 ob)=true) (k:Q ⟨R,[(s.H.length,none)]⟩ { s with env:=put s.env dst (iX s.H.length d),H:=s.H ++ [ob] }):qx T f args R dst s Q .mk:=by
 have e0:args.map (eZ (fun _=>none) s.H 40)=args:=by
  conv=>rhs;rw[← aT args]
  exact aj fun d hd=>lI (kE hc d hd)
 exact .inl (.inr ⟨fn,d,ob,hf,hp,by rw[e0];exact h,by rw[if_pos hc];exact hr,k⟩)
theorem tJ.c{R:List Fp}{Q:Rc→St→Prop}{x:D}(hf:T.fn f=some fn)(hp:fn.full=false)(h:Wf T f args [] fun d H'=>d=x∧H' = [])
  (hc:fy args=true) (hx:closed x=true) (k:Q ⟨R,[]⟩ { s with env:=put s.env dst x }):qx T f args R dst s Q .mk:=.inl (.inl (gZ.c hf hp h hc hx k))
theorem qx.z{ng:List D}{R:List Fp}{Q:Rc→St→Prop}{d:D}(v:Nat)(hf:T.fn f=some fn)(hp:fn.full=false)(h:Wf T f ng [] (Is d))(hs:args.map (eZ (fun _=>none) s.H 40)=ng)
  (hr:(args.map (gh s.H 40)).flatten = [v]) (gf:(rowsOf s.H v).isSome=true) (hc:fy ng=true) (hx:closed d=true) (k:Q ⟨R,[(v,none)]⟩ { s with env:=put s.env dst d,H:=s.H.set v .dead }):qx T f args R dst s Q .mk:=
 .inr ⟨fn,d,v,hf,hp,by rw[hr];simp,by rw[hr];simp,gf,by rw[hs];exact hc,by rw[hs];exact h,hx,k⟩
@[simp] theorem alV(ds:List D):kW (.agg ds)=ds.all (th closed):=rfl
@[simp] theorem alX(ds:List D):kW (.tup ds)=ds.all (th closed):=rfl
@[simp] theorem alW(v g sz off n:Nat):kW (.eT v g sz off n)=true:=rfl
@[simp] theorem alL(p:D→Bool)(v g sz off n:Nat):th p (.eT v g sz off n)=true:=rfl
@[simp] theorem alK(l:List Int):th closed (dI l)=true:=by show closed (dI l)=true;simp
@[simp] theorem alM(v:Value):th closed (.val v)=true:=by show closed (.val v)=true;simp
@[simp] theorem ail(t g:Nat)(cs:List D):l9 (.row t g cs)=fy cs:=rfl
@[simp] theorem akK(n:Nat)(ds:List D):iX n (.agg ds) = .agg (ds.map (te n)):=rfl
@[simp] theorem akM(n:Nat)(ds:List D):iX n (.tup ds) = .tup (ds.map (te n)):=rfl
@[simp] theorem akL(n v g sz off k:Nat):iX n (.eT v g sz off k) = .eT (v+n) g sz off k:=rfl
@[simp] theorem akO(n v g sz off k:Nat):te n (.eT v g sz off k) = .eT (v+n) g sz off k:=rfl
@[simp] theorem akN(n:Nat)(l:List Int):te n (dI l)=dI l:=by unfold dI;rfl
@[simp] theorem akP(n:Nat)(v:Value):te n (.val v) = .val v:=rfl
end
instance:Fl e9.cells 8:=⟨fun _=>rfl,fun s=>by simp[e9.cells,fy]⟩
instance:Fl fD.cells 6:=⟨fun _=>rfl,fun s=>by simp[fD.cells,fy]⟩
@[simp] theorem aib(l:List e9)(a b c:List Int)(r q k u:Int)(t:Bool):cl e9.cells l ++ [dI a,dI b,dI c,.i r,.i q,.i k,.i u,.b t]=cl e9.cells (l ++ [⟨⟨a,b,c,r,q⟩,k,u,t⟩]):=by rw[← oZ];rfl
@[simp] theorem ah7(l:List fD)(a b c:List Int)(r q:Int)(t:Bool):cl fD.cells l ++ [dI a,dI b,dI c,.i r,.i q,.b t]=cl fD.cells (l ++ [⟨⟨a,b,c,r,q⟩,t⟩]):=by rw[← oZ];rfl
@[simp] theorem anQ(s:e9):e9.mk s.p s.kind s.cur s.iu=s:=rfl
@[simp] theorem amc(s:fD):fD.mk s.p s.iu=s:=rfl
attribute [simp] e9.cells fD.cells
theorem Yq{T:gj}{f:FuncId}{args:List D}{dst:Option Nat}{s:St}{K:St→Prop}{fn:eW}{α:Type}{g:α→D}{Q:α→Prop}(h:Wf T f args [] (Ex g Q))(k:∀ r,Q r→K { s with env:=put s.env dst (g r) })
  (hf:T.fn f=some fn:=by exact rfl) (hp:fn.full=false:=by exact rfl) (hc:fy args=true:=by simp) (hx:∀ r,closed (g r)=true:=by intro;simp):fw T f args dst s K .mk:=fw.q hf hp h hc hx k
theorem Yn{T:gj}{f:FuncId}{args:List D}{dst:Option Nat}{s:St}{K:St→Prop}{fn:eW}{d:D}{Hn:U}(h:Wf T f args [] fun d' H'=>d'=d∧H'=Hn)(k:K { s with env:=put s.env dst (iX s.H.length d),H:=s.H++Hn })
  (hf:T.fn f=some fn:=by exact rfl) (hp:fn.full=false:=by exact rfl) (hc:fy args=true:=by simp) (hr:(kW d&&Hn.all l9)=true:=by simp):fw T f args dst s K .mk:=fw.n hf hp h hc hr k
end Go.AL
namespace Go.AL
open Go
def iT(l:List e9):D:=.sl 8 (l.map e9.cells)
def lN(l:List fD):D:=.sl 6 (l.map fD.cells)
@[simp] theorem anC(l:List e9):D.sl 8 (l.map e9.cells)=iT l:=by unfold iT;rfl
@[simp] theorem anA(l:List fD):D.sl 6 (l.map fD.cells)=lN l:=by unfold lN;rfl
section
variable{l:List e9}{n:Int}{k:IntKind}{P:D→Prop}{H:U}
@[simp] theorem aiw:closed (iT l)=true:=by unfold iT;exact HW l
@[simp] theorem akE:na .slice (iT l) H=some (.i l.length):=by simp only[iT,Pj,List.length_map]
@[simp] theorem an3(n:Nat):gG n (iT l) = []:=by unfold iT;rfl
@[simp] theorem ahO:cellsOf (iT l)=some [iT l]:=by unfold iT;rfl
@[simp] theorem alv:oA (mL 8 (iT l) (.val (.int k n))) P .mk=((0≤n∧n<l.length)∧P (.fh (gt l n).cells)):=by unfold iT;exact tg
end
section
variable{l:List fD}{n:Int}{k:IntKind}{P:D→Prop}{H:U}
@[simp] theorem aiu:closed (lN l)=true:=by unfold lN;exact HW l
@[simp] theorem akB:na .slice (lN l) H=some (.i l.length):=by simp only[lN,Pj,List.length_map]
@[simp] theorem anJ:jM 6 H (lN l)=some (cl fD.cells l,l.length):=by unfold lN;exact He ..
@[simp] theorem anZ(n:Nat):gG n (lN l) = []:=by unfold lN;rfl
@[simp] theorem alr:oA (mL 6 (lN l) (.val (.int k n))) P .mk=((0≤n∧n<l.length)∧P (.fh (gt l n).cells)):=by unfold lN;exact tg
end
@[simp] theorem anz:D.sl 8 []=iT []:=by unfold iT;rfl
@[simp] theorem anx:D.sl 6 []=lN []:=by unfold lN;rfl
@[simp] theorem ajt{ρ:Nat→Option Nat}{H:U}{k:Nat}{t:TypeId}{a b c:List Int}{r q w u:Int}{o:Bool}:lY ρ H (k+1) 8 0 1 (some (t,[dI a,dI b,dI c,.i r,.i q,.i w,.i u,.b o]))=iT [⟨⟨a,b,c,r,q⟩,w,u,o⟩]:=by
 have h:=qF (f:=e9.cells) (ρ:=ρ) (H:=H) (k:=k) (t:=t) (l:=[⟨⟨a,b,c,r,q⟩,w,u,o⟩]) (n:=1) rfl
 rw[l8]at h
 unfold iT;exact h
def sK(S:List Nat):Nat→U→ki
 | _,[]=>[]
 | i,_::r=>(i,!S.contains i)::sK S (i+1) r
@[simp] theorem ajb(S:List Nat)(i:Nat):sK S i [] = []:=rfl
@[simp] theorem aja(S:List Nat)(i:Nat)(o:Ob)(r:U):sK S i (o::r)=(i,!decide (i∈S))::sK S (i+1) r:=by
 rw[sK,dR]
theorem T'(H:U)(S:List Nat):jR H S=sK S 0 H:=by
 have key:∀ (H:U) (i:Nat),(List.range' i H.length).map (fun v=>(v,!(S.contains v)))=sK S i H:=by
  intro H
  induction H with
  | nil=>intro i;rfl
  | cons o r ih=>intro i;rw[aG,bV,List.map_cons,ih,sK]
 rw[jR,cw,key]
def ID(env:Env)(H:U)(m:List Nat)(r:Bool)(ks:ki):St:={ env:=env.map fun p=>(p.1,eZ (fL ks) H 40 p.2),H:=ks.map fun p=>if p.2 then pk (fL ks) H H[p.1]? else .dead,marks:=m,fG:=r }
@[simp] theorem ajl(S:List Nat)(env:Env)(H:U)(m:List Nat)(r:Bool):jx S { env:=env,H:=H,marks:=m,fG:=r }=ID env H m r (sK S 0 H):=by
 unfold jx ID
 rw[T']
 rfl
@[simp] theorem ajh(env:Env)(H:U)(m:List Nat)(r:Bool)(ks:ki):ID env H m r ks = { env:=env.map fun p=>(p.1,eZ (fL ks) H 40 p.2),H:=ks.map fun p=>if p.2 then pk (fL ks) H H[p.1]? else .dead,marks:=m,fG:=r }:=rfl
section
variable{T:gj}
def IE(S:List Nat)(T:gj)(b:IR)(K:gA):gA:=fun o=>match o with
 | .norm s=>s.marks = []∧XC T b (jx S s) K
 | o=>K o
@[simp ↓] theorem ajj{S:List Nat}{b:IR}{K:gA}{s:St}:IE S T b K (.norm s)=(s.marks = []∧XC T b (jx S s) K):=(rfl)
@[simp ↓] theorem aji{S:List Nat}{b:IR}{K:gA}{id:Nat}{s:St}:IE S T b K (.exit id s)=K (.exit id s):=(rfl)
@[simp ↓] theorem ajk{S:List Nat}{b:IR}{K:gA}{s:St}:IE S T b K (.ret s)=K (.ret s):=(rfl)
theorem fe.fz{live:List Nat}{a:IR}{s:St}{K:gA}(S:List Nat)(hm:s.marks = [])(h:fe T live a (jx S s) K .mk):fe T live a s K .mk:=Wc.jx S (by rw[hm];exact PC _) h
theorem fe.w{live:List Nat}{a:IR}{s:St}{K:gA}{α:Type}(x0:α)(E:α→Env)(Hp:α→U)(P:α→Prop)(μ:α→Nat)
  (h0:P x0) (hE:forget ((E x0).map (·.1)) s.env=E x0) (hH:s.H=Hp x0) (nN:(((E x0).map (·.1)).all fun k=>live.contains k)=true)
  (h:∀ x,P x→Wc T (jm a) { env:=E x,H:=Hp x,marks:=s.marks,fG:=s.fG } (qT s.H.length live ((E x0).map (·.1)) (fun e H m r=>∃ x',e=E x'∧H=Hp x'∧m=s.marks∧r=s.fG∧μ x'<μ x∧P x') K)):fe T live a s K .mk:=by
 refine Wc.loop (fun m s'=>∃ x,P x∧m=μ x∧({ s' with env:=forget ((E x0).map (·.1)) s'.env }:St) = { env:=E x,H:=Hp x,marks:=s.marks,fG:=s.fG }) (μ x0) ⟨x0,h0,rfl,?_⟩ ?_
 ·dsimp only
  rw[ND nN,hE]
  rw[← hH]
 ·rintro m s' ⟨x,hP,rfl,he⟩
  refine Ev.Aa ((E x0).map (·.1)) ?_
  rw[he]
  refine(h x hP).mono fun o ho=>?_
  cases o with
  | norm wT=>
   obtain⟨x',h3,h4,h5,h6,h2,h1⟩:=ho
   refine⟨μ x',h2,x',h1,rfl,?_⟩
   rw[h3]
   generalize cut s.H.length live wT=q at *
   cases q
   simp_all
  | exit=>exact ho
  | ret=>exact ho
end
theorem Po{g:eU}{s d c:Int}:∀ (n:Nat) (x:Int) (out:List Int),(pK g s d c n x out).length≤out.length+n
 | 0,x,out=>by simp[pK]
 | n+1,x,out=>by
  unfold pK
  split
  ·have:=Po (g:=g) (s:=s) (d:=d) (c:=c) n (jB g s d x) (out ++ [x])
   simp at this;omega
  ·omega
theorem J2{g:eU}{s d c:Int}:(jz g s d c).length≤10:=by
 have:=Po (g:=g) (s:=s) (d:=d) (c:=c) 10 (jB g s d c) []
 simpa[jz]using this
theorem Pp{s:e9}:∀ l:List Int,(nD s l).length≤l.length
 | []=>by simp[nD]
 | c::r=>by
  have:=Pp (s:=s) r
  unfold nD
  split<;>simp<;>omega
theorem yP{g:eU}{s:e9}{x:eY}:(gF g s x).length≤10:=by
 have:=Pp (s:=s) (jz g s.p.side x.2 s.cur)
 have:=J2 (g:=g) (s:=s.p.side) (d:=x.2) (c:=s.cur)
 unfold gF oS ph
 dsimp only
 repeat' split
 all_goals first|omega|(simp only[aG,cI];omega)
