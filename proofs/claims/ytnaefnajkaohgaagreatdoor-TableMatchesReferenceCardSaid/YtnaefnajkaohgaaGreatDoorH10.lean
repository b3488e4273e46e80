/- 10 -/
import Derived.Test.YtnaefnajkaohgaaGreatDoorH09
import Derived.Test.YtnaefnajkaohgaaGreatDoorH07
set_option linter.all false
namespace Go.AL
def jK(a b:Int):Int:=if a<b then -1 else if a>b then 1 else 0
def jC:List Int→List Int→Int
 | [],[]=>0
 | [],_::_ => -1
 | _::_,[]=>1
 | a::l,b::m=>if a=b then jC l m else jK a b
def mf:List Int→Int
 | []=>0
 | a::l=>if a≠0 then a else mf l
def gC(p q:Pos):Int:=mf [jC p.cs q.cs,jC p.h0 q.h0,jC p.h1 q.h1,jK p.ff q.ff,jK p.side q.side]
def u3{a b:Int}:jK a b=0↔a=b:=by
 unfold jK;(repeat' split)<;>omega
def Ab{a b:Int}:jK a b<0↔a<b:=by
 unfold jK;(repeat' split)<;>omega
def II(a b:Int):jK b a = - jK a b:=by
 unfold jK;(repeat' split)<;>omega
theorem Iw:∀ {a b:List Int},jC a b=0↔a=b
 | [],[]=>by simp[jC]
 | [],_::_=>by simp[jC]
 | _::_,[]=>by simp[jC]
 | a::l,b::m=>by
  unfold jC
  split
  ·rename_i h;subst h;rw[Iw];simp
  ·rename_i h;rw[u3];simp[h]
theorem Iu:∀ (a b:List Int),jC b a = - jC a b
 | [],[]=>rfl
 | [],_::_=>rfl
 | _::_,[]=>rfl
 | a::l,b::m=>by
  unfold jC
  by_cases h:a=b
  ·subst h;simp[Iu l m]
  ·rw[if_neg h,if_neg (dx h),II]
theorem Iv:∀ {a b c:List Int},jC a b<0→jC b c<0→jC a c<0
 | [],[],c,h,_=>by simp[jC]at h
 | _::_,[],c,h,_=>by simp[jC]at h
 | a,_::_,[],_,h=>by simp[jC]at h
 | [],_::_,_::_,_,_=>by simp[jC]
 | a::l,b::m,c::k,h1,h2=>by
  unfold jC at *
  by_cases e1:a=b
  ·subst e1
   rw[if_pos rfl]at h1
   by_cases e2:a=c
   ·subst e2
    rw[if_pos rfl]at h2 ⊢
    exact Iv h1 h2
   ·rw[if_neg e2]at h2 ⊢;exact h2
  ·rw[if_neg e1,Ab]at h1
   by_cases e2:b=c
   ·subst e2;rw[if_neg e1,Ab];exact h1
   ·rw[if_neg e2,Ab]at h2
    rw[if_neg (by omega),Ab];omega
theorem Km:∀ {l:List Int},mf l=0↔∀ x∈l,x=0
 | []=>by simp[mf]
 | a::l=>by
  unfold mf
  split
  ·rename_i h;simp[h]
  ·rename_i h;rw[Km];simp_all
def px{p q:Pos}:gC p q=0↔p=q:=by
 unfold gC
 rw[Km]
 cases p;cases q
 simp[Iw,u3]
def rv(p:Pos):gC p p=0:=px.2 rfl
def sj(p q:Pos):gC q p = - gC p q:=by
 unfold gC mf
 rw[Iu p.cs,Iu p.h0,Iu p.h1,II p.ff,II p.side]
 simp only[mf]
 (repeat' split)<;>omega
def xn{A B C:Int}{a b c:List Int}(h1:A=0→C=B)(h2:B=0→C=A)(h3:A<0→B<0→C<0)(h:mf a<0→mf b<0→mf c<0):mf (A::a)<0→mf (B::b)<0→mf (C::c)<0:=by
 unfold mf
 intro x y
 by_cases hA:A=0
 ·have:=h1 hA
  subst this
  rw[if_neg (by simpa using hA)]at x
  by_cases hB:C=0
  ·rw[if_neg (by simpa using hB)]at y ⊢
   exact h x y
  ·rw[if_pos hB]at y ⊢;exact y
 ·rw[if_pos hA]at x
  by_cases hB:B=0
  ·have:=h2 hB
   subst this
   rw[if_pos hA];exact x
  ·rw[if_pos hB]at y
   have:=h3 x y
   rw[if_pos (by omega)];exact this
def vE{p q r:Pos}:gC p q<0→gC q r<0→gC p r<0:=by
 have key:∀ a b c:List Int,jC a b=0→jC a c=jC b c:=fun a b c h=>by rw[Iw.1 h]
 have LS:∀ a b c:List Int,jC b c=0→jC a c=jC a b:=fun a b c h=>by rw[Iw.1 h]
 have n1:∀ a b c:Int,jK a b=0→jK a c=jK b c:=fun a b c h=>by rw[u3.1 h]
 have n2:∀ a b c:Int,jK b c=0→jK a c=jK a b:=fun a b c h=>by rw[u3.1 h]
 have nt:∀ a b c:Int,jK a b<0→jK b c<0→jK a c<0:=fun a b c=>by simp only[Ab];omega
 unfold gC
 refine xn (key _ _ _) (LS _ _ _) Iv (xn (key _ _ _) (LS _ _ _) Iv (xn (key _ _ _) (LS _ _ _) Iv (xn (n1 _ _ _) (n2 _ _ _) (nt _ _ _) (xn (n1 _ _ _) (n2 _ _ _) (nt _ _ _) fun h=>?_))))
 simp[mf]at h
def Ro{a b:List Int}:∀ {i:Nat},a.take i=b.take i→i≤a.length→i≤b.length→jC a b=jC (a.drop i) (b.drop i):=by
 intro i
 induction i generalizing a b with
 | zero=>intro _ _ _;rfl
 | succ i ih=>
  intro h h1 h2
  cases a with
  | nil=>simp at h1
  | cons x a=>
   cases b with
   | nil=>simp at h2
   | cons y b=>
    simp only[ct,cD]at h
    simp only[aI]at h1 h2
    simp only[List.drop_succ_cons,jC,h.1,if_true]
    exact ih h.2 (by omega) (by omega)
def L4{a b:List Int}(h:a.length=0∨b.length=0):jC a b=jK a.length b.length:=by
 cases a<;>cases b<;>simp_all [jC,jK]
 all_goals omega
def Oy{p q r:Pos}(h1:gC p q≤0)(h2:gC q r≤0):gC p r≤0:=by
 by_cases a:gC p q=0
 ·rw[px.1 a];exact h2
 ·by_cases b:gC q r=0
  ·rw[← px.1 b];exact h1
  ·exact Int.le_of_lt (vE (show gC p q<0 by omega) (show gC q r<0 by omega))
def WS(l:List Pos):Prop:=l.Pairwise fun x y=>gC x y≤0
def Small(p:Pos):Prop:=p.cs.length<2 ^ 40∧p.h0.length<2 ^ 40∧p.h1.length<2 ^ 40
def jM(l:List Pos):Prop:=∀ i:Int,1≤i→i<l.length→gC (gt l (i-1)) (gt l i)<0
theorem jM.lt{l:List Pos}(h:jM l){i:Int}(h0:0≤i):∀ {n:Nat},i<n→(n:Int)<l.length→gC (gt l i) (gt l n)<0
 | 0,h1,_=>by omega
 | n+1,h1,h2=>by
  have:=h (n+1) (by omega) (by omega)
  rw[Int.add_sub_cancel]at this
  by_cases e:i=n
  ·subst e;exact this
  ·exact vE (h.lt h0 (by omega) (by omega)) this
def jM.le{l:List Pos}(h:jM l){i j:Int}(h0:0≤i)(h1:i<j)(h2:j<l.length):gC (gt l i) (gt l j)<0:=by
 have:=h.lt h0 (n:=j.toNat) (by omega) (by omega)
 rwa [cr (by omega)]at this
def jM.inj{l:List Pos}(h:jM l){i j:Int}(h0:0≤i)(h1:i<l.length)(h2:0≤j)(h3:j<l.length)(e:gt l i=gt l j):i=j:=by
 by_cases a:i<j
 ·have:=h.le h0 a h3;rw[e,rv]at this;omega
 ·by_cases b:j<i
  ·have:=h.le h2 b h1;rw[e,rv]at this;omega
  ·omega
def oe(l:List Pos)(p:Pos):Int:=if p∈l then(l.idxOf p:Int)else -1
def Pf{l:List Pos}{p:Pos}(h:p ∉ l):oe l p = -1:=if_neg h
def BI{l:List Pos}{p:Pos}(h:p∈l):0≤oe l p∧oe l p<l.length∧gt l (oe l p)=p:=by
 unfold oe
 rw[if_pos h]
 have hi:l.idxOf p<l.length:=List.idxOf_lt_length_iff.2 h
 refine nk ?_
 rw[rC hi]
 exact List.getElem_idxOf hi
def V8{l:List Pos}(hs:jM l){i:Int}(h0:0≤i)(h1:i<l.length):oe l (gt l i)=i:=by
 obtain⟨a,b,c⟩:=BI (eQ h0 h1)
 exact hs.inj a b h0 h1 c
end Go.AL
namespace Go.AL
open Go
def pt{α:Type}(l:List α)(n:Int)(v:α):List α:=l.take n.toNat++v::l.drop (n.toNat+1)
section
variable{α:Type}[Inhabited α]{l:List α}{n k:Int}{v:α}
def C1(h0:0≤n)(h:n<l.length):pt l n v=l.set n.toNat v:=by
 rw[pt,cH,if_pos (by omega)]
def gN(h0:0≤n)(h:n<l.length):(pt l n v).length=l.length:=by
 rw[C1 h0 h,cd]
def pz(h0:0≤n)(h:n<l.length:=by omega)(hk:0≤k:=by omega):gt (pt l n v) k=if k=n then v else gt l k:=by
 rw[C1 h0 h]
 unfold gt
 simp only[List.getD_eq_getElem?_getD,bO]
 by_cases e:k=n
 ·subst e;rw[if_pos rfl,if_pos rfl,if_pos (by omega)];rfl
 ·rw[if_neg (by omega),if_neg e]
def xv(h0:0≤n)(h:n<l.length):gt (pt l n v) n=v:=by rw[pz h0 h h0,if_pos rfl]
def Hv(h0:0≤n)(h:n<l.length:=by omega)(hk:0≤k:=by omega)(e:k≠n:=by omega):gt (pt l n v) k=gt l k:=by rw[pz h0 h hk,if_neg e]
def RE{x:α}(h:x∈pt l n v):x=v∨x∈l:=by
 unfold pt at h
 simp only[List.mem_append,au]at h
 rcases h with h|h|h
 ·exact .inr (aJ h)
 ·exact .inl h
 ·exact .inr (bV h)
end
@[simp] theorem aoU{α:Type}(l:List α)(n:Int)(v:α):l.take n.toNat++v::l.drop (n.toNat+1)=pt l n v:=(rfl)
def kZ(g:eH)(s d c:Int):Int:=
 if s<0∨s>1∨d<0∨d≥g.next.length∨c<0∨c≥g.size then -1 else gt (gt g.next (if s=1 then gt g.gU d else d)) c
structure mX(g:eH):Prop where
 size:1≤g.size∧g.size≤9
 next:g.next.length=8
 row:∀ l∈g.next,(l.length:Int)=g.size∧∀ x∈l,-1≤x∧x<g.size
 gU:g.gU.length=8
 turns:∀ d,0≤d→d<8→0≤gt g.gU d∧gt g.gU d<8∧gt g.gU (gt g.gU d)=d
def mX.to{g:eH}(h:mX g)(s d c:Int) : -1≤kZ g s d c∧kZ g s d c<g.size:=by
 have:=h.size
 unfold kZ
 split
 ·omega
 ·rename_i e
  have hn:=h.next
  simp only[not_or,eB,Int.not_le,gt_iff_lt,ge_iff_le]at e
  have hd:0≤(if s=1 then gt g.gU d else d)∧(if s=1 then gt g.gU d else d)<8:=by
   split
   ·have:=h.turns d (by omega) (by omega);omega
   ·omega
  have hr:=h.row _ (eQ (l:=g.next) hd.1 (by omega))
  exact hr.2 _ (eQ (by omega) (by omega))
structure A7(g:eH)(x:eO):Prop where
 ok:((x.1=1∨x.1=2∨x.1=7)∧0≤x.2∧x.2<8)∨(3≤x.1∧x.1≤6∧x.2=0)∨(x.1=8∧0≤x.2∧x.2<g.kinds.length)∨((x.1=9∨x.1=10)∧0≤x.2∧x.2<g.ff)
def mZ(l:List eO)(op:Int):Int:=(l.countP fun x=>x.1=op:Nat)
structure ui(g:eH)(l:List eO):Prop where
 len:1≤l.length∧l.length≤8
 steps:∀ x∈l,A7 g x
 rX:mZ l 6≤2
 push:mZ l 7≤1
 Gv:mZ l 8≤1
structure yG(g:eH)(c:Clause):Prop where
 ok:(c.cond=1∧0≤c.kind∧c.kind<g.kinds.length∧c.n=0)∨(c.cond=2∧0≤c.kind∧c.kind<g.kinds.length∧0≤c.n∧c.n<g.size)∨(c.cond=3∧c.kind=0∧0≤c.n∧c.n≤64)
 out:1≤c.out∧c.out≤3
def kindName(n:Int):ByteArray:=if n=0 then⟨#[97]⟩else⟨#[98,101,101]⟩
structure fe(g:eH):Prop where
 iw:mX g
 kinds:1≤g.kinds.length∧g.kinds.length≤2
 names:∀ k:Int,0≤k→k<g.kinds.length→(gt g.kinds k).name=kindName k
 gT:∀ k∈g.kinds,k.gT.length≤4∧∀ l∈k.gT,ui g l
 ff:0≤g.ff∧g.ff≤2
 clauses:g.clauses.length≤3
 clause:∀ c∈g.clauses,yG g c
 blocked:1≤g.blocked∧g.blocked≤3
 n9:1≤g.n9∧g.n9≤3
structure pP(g:eH)(l:List Int):Prop where
 len:l.length=g.kinds.length
 at_:∀ k:Int,0≤k→k<l.length→0≤gt l k∧gt l k≤8∧(0<gt l k→(gt g.kinds k).pY=true)
structure fO(g:eH)(p:Pos):Prop where
 size:(p.cs.length:Int)=g.size
 h0:pP g p.h0
 h1:pP g p.h1
 ff:0≤p.ff∧p.ff<2 ^ g.ff.toNat
 side:0≤p.side∧p.side≤1
 cs:∀ x∈p.cs,0≤x∧x≤2*g.kinds.length
def fm(n:Int):Int:=if 1≤n∧n≤12 then(n-1) / 2 else -1
def iU(n:Int):Int:=if 1≤n∧n≤12 then(n-1) % 2 else -1
def kF(k s:Int):Int:=1+2*k+s
def qV(g:eH)(s d c:Int):Nat→Int→List Int→List Int
 | 0,_,out=>out
 | n+1,x,out=>if 0≤x∧x≠c∧x ∉ out then qV g s d c n (kZ g s d x) (out ++ [x])else out
def kd(g:eH)(s d c:Int):List Int:=qV g s d c 10 (kZ g s d c) []
theorem Rk{g:eH}(hg:mX g){s d c:Int}:∀ (n:Nat) (x:Int) (out:List Int),x<g.size→(∀ y∈out,0≤y∧y<g.size)→∀ y∈qV g s d c n x out,0≤y∧y<g.size
 | 0,x,out,_,h,y,hy=>h y hy
 | n+1,x,out,hx,h,y,hy=>by
  unfold qV at hy
  split at hy
  ·rename_i e
   refine Rk hg n _ _ (hg.to _ _ _).2 (fun z hz=>?_) y hy
   simp only[List.mem_append,List.mem_singleton]at hz
   rcases hz with hz|hz
   ·exact h z hz
   ·omega
  ·exact h y hy
def LZ{g:eH}(hg:mX g){s d c y:Int}(h:y∈kd g s d c):0≤y∧y<g.size:=Rk hg _ _ _ (hg.to _ _ _).2 (by simp) y h
theorem wv:∀ (n:Nat) (l:List Int),l.Nodup→(∀ y∈l,0≤y∧y<n)→l.length≤n
 | 0,[],_,_=>by simp
 | 0,a::l,_,h=>by have:=h a (by simp);omega
 | n+1,l,hn,h=>by
  by_cases e:(n:Int)∈l
  ·have h1:(l.erase (n:Int)).length≤n:=wv n _ (hn.erase _) fun y hy=>by
    have:=(hn.mem_erase_iff).1 hy
    have:=h y this.2
    omega
   rw[dX e]at h1
   omega
  ·have:=wv n l hn fun y hy=>by
    have:=h y hy
    have:y≠n:=fun e2=>e (e2▸hy)
    omega
   omega
structure eU where
 p:Pos
 kind:Int
 cur:Int
 iL:Bool
 deriving DecidableEq,Inhabited
def eU.cells(s:eU):List D:=[dI s.p.cs,dI s.p.h0,dI s.p.h1,.i s.p.ff,.i s.p.side,.i s.kind,.i s.cur,.b s.iL]
structure jk(g:eH)(s:eU):Prop where
 p:fO g s.p
 kind:0≤s.kind∧s.kind<g.kinds.length
 cur:0≤s.cur∧s.cur<g.size
def Pos.hand(p:Pos)(s:Int):List Int:=if s=0 then p.h0 else p.h1
def Pos.lN(p:Pos)(s:Int)(l:List Int):Pos:=if s=0 then{ p with h0:=l }else{ p with h1:=l }
def oM(s:eU):List Int→List eU
 | []=>[]
 | c::r=>{ s with cur:=c }::if gt s.p.cs c=0 then oM s r else []
def qC(g:eH)(s:eU):List eU:=
 let c:=gt s.p.cs s.cur
 if iU c≠1-s.p.side then []else
  let p:={ s.p with cs:=pt s.p.cs s.cur 0 }
  if (gt g.kinds (fm c)).pY=false then [{ s with p:=p,iL:=true }]else
   let n:=gt (s.p.hand s.p.side) (fm c)+1
   if n≤8 then [{ s with p:=p.lN s.p.side (pt (s.p.hand s.p.side) (fm c) n),iL:=true }]else []
def q'(g:eH)(s:eU)(n:Int):List eU:=
 let to:=kZ g s.p.side n s.cur
 if gt s.p.cs s.cur=0∨to<0∨gt s.p.cs to≠0 then []else
  [{ s with p:={ s.p with cs:=pt (pt s.p.cs to (gt s.p.cs s.cur)) s.cur 0 } }]
def xA(r n:Int):Prop:=r / 2 ^ n.toNat % 2=1
instance(r n:Int):Decidable (xA r n):=by unfold xA;infer_instance
def dropRight(r n:Int):Int:=if xA r n then r-2 ^ n.toNat else r
def MX{b:Int}(h0:0≤b)(h:b≤4:=by omega):Jh .i64 1 b=2 ^ b.toNat:=by
 have:b=0∨b=1∨b=2∨b=3∨b=4:=by omega
 rcases this with rfl|rfl|rfl|rfl|rfl<;>decide
def RI{r:Int}(h0:0≤r)(h:r<16):∃ i:Fin 16,r=(i.val:Int):=⟨⟨r.toNat,by omega⟩,by simp;omega⟩
def Mp{r:Int}(h0:0≤r)(h:r<4):∃ i:Fin 4,r=(i.val:Int):=⟨⟨r.toNat,by omega⟩,by simp;omega⟩
def SB:∀ (i:Fin 16) (k:Fin 4),(bits .and .i64 (tV .i64 (i.val:Int) (k.val:Int)) 1=1↔xA (i.val:Int) (k.val:Int))∧bits .andNot .i64 (i.val:Int) (Jh .i64 1 (k.val:Int))=dropRight (i.val:Int) (k.val:Int):=by decide +kernel
def Sz{r n:Int}(h0:0≤r)(h1:r<16)(h2:0≤n)(h3:n<4):(bits .and .i64 (tV .i64 r n) 1=1)=xA r n:=by
 obtain⟨i,rfl⟩:=RI h0 h1
 obtain⟨k,rfl⟩:=Mp h2 h3
 exact propext (SB i k).1
def SA{r n:Int}(h0:0≤r)(h1:r<16)(h2:0≤n)(h3:n<4):bits .andNot .i64 r (Jh .i64 1 n)=dropRight r n:=by
 obtain⟨i,rfl⟩:=RI h0 h1
 obtain⟨k,rfl⟩:=Mp h2 h3
 exact(SB i k).2
def Af{b:Int}(h0:0≤b)(h:b≤4:=by omega):(2:Int) ^ b.toNat≤16:=by
 have:b=0∨b=1∨b=2∨b=3∨b=4:=by omega
 rcases this with rfl|rfl|rfl|rfl|rfl<;>decide
def gY(g:eH)(s:eU)(x:eO):List eU:=
 let c:=gt s.p.cs s.cur
 if x.1=1 then(let to:=kZ g s.p.side x.2 s.cur;if 0≤to then [{ s with cur:=to }]else [])
 else if x.1=2 then oM s (kd g s.p.side x.2 s.cur)
 else if x.1=3 then(if c=0 then [s]else [])
 else if x.1=4 then(if iU c=1-s.p.side then [s]else [])
 else if x.1=5 then(if iU c=s.p.side then [s]else [])
 else if x.1=6 then qC g s
 else if x.1=7 then q' g s x.2
 else if x.1=8 then [{ s with kind:=x.2 }]
 else if x.1=9 then(if xA s.p.ff x.2 then [s]else [])
 else [{ s with p:={ s.p with ff:=dropRight s.p.ff x.2 } }]
def qy(g:eH):List eO→List eU→List eU
 | [],l=>l
 | x::r,l=>qy g r (l.flatMap fun s=>gY g s x)
def kf(p:Pos)(cell:Int):eU:={ p:={ p with cs:=pt p.cs cell 0 },kind:=fm (gt p.cs cell),cur:=cell,iL:=false }
structure fD where
 p:Pos
 iL:Bool
 deriving DecidableEq,Inhabited
def fD.cells(o:fD):List D:=[dI o.p.cs,dI o.p.h0,dI o.p.h1,.i o.p.ff,.i o.p.side,.b o.iL]
def mQ(side:Int)(s:eU):Option fD:=
 if gt s.p.cs s.cur=0 then some { p:={ s.p with cs:=pt s.p.cs s.cur (kF s.kind side),side:=1-side },iL:=s.iL }else none
def rS(g:eH)(p:Pos)(cell:Int)(l:List eO):List fD:=(qy g l [kf p cell]).filterMap (mQ p.side)
def upto(n:Nat):List Int:=(List.range n).map fun k:Nat=>(k:Int)
def jI{n:Nat}{k:Int}:k∈upto n↔0≤k∧k<n:=by
 simp only[upto,ao,aY]
 constructor
 ·rintro⟨a,h,rfl⟩;omega
 ·intro h;exact⟨k.toNat,by omega,by omega⟩
def ox(g:eH)(p:Pos)(c:Int):List fD:=if iU (gt p.cs c)=p.side then(gt g.kinds (fm (gt p.cs c))).gT.flatMap (rS g p c)else []
def oN(g:eH)(p:Pos):List fD:=(upto p.cs.length).flatMap (ox g p)
def jd(p:Pos)(k c:Int):Pos:={ p.lN p.side (pt (p.hand p.side) k (gt (p.hand p.side) k-1))with cs:=pt p.cs c (kF k p.side),side:=1-p.side }
def vp(g:eH)(p q:Pos):Prop:=∃ k c:Int,0≤k∧k<g.kinds.length∧0≤c∧c<p.cs.length∧gt (p.hand p.side) k≠0∧gt p.cs c=0∧q=jd p k c
def pZ(p:Pos)(side kind:Int):Int:=(p.cs.countP fun c=>0≤fm c∧iU c=side∧(kind<0∨fm c=kind):Nat)
def jN(p:Pos)(c:Clause):Prop:=
 if c.cond=1 then pZ p p.side c.kind=0 else if c.cond=2 then gt p.cs c.n=kF c.kind (1-p.side)else pZ p p.side (-1)≤c.n
def pj(g:eH)(p q:Pos):Prop:=
 (∀ c∈g.clauses,¬ jN p c) ∧
 if g.lg=true∧(∃ o∈oN g p,o.iL=true)then⟨q,true⟩∈oN g p else(∃ o∈oN g p,o.p=q)∨vp g p q
def fO.small{g:eH}(hg:fe g){p:Pos}(h:fO g p):Small p:=by
 have h1:=h.size;have h2:=hg.iw.size;have h3:=h.h0.len;have h4:=h.h1.len;have h5:=hg.kinds
 exact l4
theorem fO.hand{g:eH}{p:Pos}(h:fO g p)(s:Int):pP g (p.hand s):=by
 unfold Pos.hand;split
 ·exact h.h0
 ·exact h.h1
theorem fO.lN{g:eH}{p:Pos}(h:fO g p)(s:Int){l:List Int}(hl:pP g l):fO g (p.lN s l):=by
 unfold Pos.lN;split
 ·exact{ h with h0:=hl }
 ·exact{ h with h1:=hl }
def fO.yx{g:eH}{p:Pos}(h:fO g p){c v:Int}(hc:0≤c)(W6:c<g.size)(hv:0≤v∧v≤2*g.kinds.length):fO g { p with cs:=pt p.cs c v }:=
 { h with
  size:=by dsimp only;rw[gN hc (by rw[h.size];exact W6)];exact h.size
  cs:=fun x hx=>by
   rcases RE hx with rfl|hx
   ·exact hv
   ·exact h.cs x hx }
def pP.set{g:eH}{l:List Int}(h:pP g l){k v:Int}(hk:0≤k)(kH:k<l.length)(hv:0≤v∧v≤8∧(0<v→(gt g.kinds k).pY=true)):pP g (pt l k v) where
 len:=by rw[gN hk kH];exact h.len
 at_ j hj HN:=by
  rw[gN hk kH]at HN
  rw[pz hk kH hj]
  split
  ·rename_i e;subst e;exact hv
  ·exact h.at_ j hj HN
def u0{n:Int}{g:eH}(h:n≤2*g.kinds.length)(hk:1≤g.kinds.length):fm n<g.kinds.length:=by
 unfold fm;split<;>omega
def CJ{n s:Int}(hs:0≤s)(h:iU n=s):0≤fm n∧1≤n∧n≤12∧n=kF (fm n) s:=by
 unfold iU at h;unfold fm kF
 split at h<;>rename_i e
 ·rw[if_pos e];omega
 ·omega
def U1{r n k:Int}(h:0≤r)(h2:r<2 ^ k.toNat):0≤dropRight r n∧dropRight r n<2 ^ k.toNat:=by
 unfold dropRight
 split
 ·rename_i e
  unfold xA at e
  have hp:(0:Int)<2 ^ n.toNat:=Int.pow_pos (by decide)
  have:2 ^ n.toNat≤r:=by
   by_cases c:r<2 ^ n.toNat
   ·rw[Int.ediv_eq_zero_of_lt h c]at e;simp at e
   ·omega
  omega
 ·exact⟨h,h2⟩
theorem Rn{s t:eU}:∀ {l:List Int},t∈oM s l→∃ c∈l,t = { s with cur:=c }
 | [],h=>by simp[oM]at h
 | c::r,h=>by
  unfold oM at h
  rcases au.1 h with h|h
  ·exact⟨c,by simp,h⟩
  ·split at h
   ·obtain⟨c',h1,h2⟩:=Rn h;exact⟨c',by simp[h1],h2⟩
   ·cases h
def yD{g:eH}(hg:fe g){s:eU}(hs:jk g s){x:eO}(hx:A7 g x){t:eU}(h:t∈gY g s x):jk g t:=by
 have hb:=hg.iw
 have nN:s.cur<s.p.cs.length:=by rw[hs.p.size];exact hs.cur.2
 have hc:=hs.p.cs _ (eQ hs.cur.1 nN)
 unfold gY at h
 dsimp only at h
 split at h
 ·split at h
  ·rename_i h0
   rw[List.mem_singleton]at h;subst h
   exact{ hs with cur:=⟨h0,(hb.to _ _ _).2⟩ }
  ·cases h
 split at h
 ·obtain⟨c,h1,rfl⟩:=Rn h
  exact{ hs with cur:=LZ hb h1 }
 iterate 3
  split at h
  ·split at h
   ·rw[List.mem_singleton]at h;subst h;exact hs
   ·cases h
 split at h
 ·unfold qC at h
  dsimp only at h
  split at h
  ·cases h
  rename_i e
  have e:=Decidable.not_not.1 e
  have ik:=hs.p.side
  obtain⟨m1,m2,m3,m4⟩:=CJ (by omega) e
  have hk:fm (gt s.p.cs s.cur)<g.kinds.length:=u0 hc.2 hg.kinds.1
  have hp:fO g { s.p with cs:=pt s.p.cs s.cur 0 }:=hs.p.yx hs.cur.1 hs.cur.2 (by omega)
  split at h
  ·rw[List.mem_singleton]at h;subst h
   exact{ hs with p:=hp }
  rename_i kp
  split at h
  ·rename_i h8
   rw[List.mem_singleton]at h;subst h
   have hh:=hs.p.hand s.p.side
   have hl:=hh.len
   have ha:=hh.at_ _ m1 (by rw[hl];exact hk)
   exact{ hs with p:=hp.lN _ (hh.set m1 (by rw[hl];exact hk) (nk (fun _=>by simpa using kp))) }
  ·cases h
 split at h
 ·unfold q' at h
  dsimp only at h
  split at h
  ·cases h
  rename_i e
  simp only[not_or,eB]at e
  rw[List.mem_singleton]at h;subst h
  have h1:=hs.p.yx (c:=kZ g s.p.side x.2 s.cur) (v:=gt s.p.cs s.cur) e.2.1 (hb.to _ _ _).2 hc
  exact{ hs with p:=h1.yx hs.cur.1 hs.cur.2 (by omega) }
 split at h
 ·rename_i e8
  rw[List.mem_singleton]at h;subst h
  have hk:0≤x.2∧x.2<g.kinds.length:=by have:=hx.ok;omega
  exact{ hs with kind:=hk }
 split at h
 ·split at h
  ·rw[List.mem_singleton]at h;subst h;exact hs
  ·cases h
 ·rw[List.mem_singleton]at h;subst h
  exact{ hs with p:={ hs.p with ff:=U1 hs.p.ff.1 hs.p.ff.2 } }
theorem I9{g:eH}(hg:fe g):∀ {l:List eO} {a:List eU},(∀ x∈l,A7 g x)→(∀ s∈a,jk g s)→∀ s∈qy g l a,jk g s
 | [],_,_,h,s,hs=>h s hs
 | x::r,a,hx,h,s,hs=>by
  refine I9 (a:=a.flatMap fun s=>gY g s x) hg (fun y hy=>hx y (by simp[hy])) (fun t ht=>?_) s hs
  obtain⟨u,hu,ht⟩:=bz.1 ht
  exact yD hg (h u hu) (hx x (by simp)) ht
theorem SL{g:eH}:∀ {l:List eO} {a b:List eU},(∀ s,s∈a↔s∈b)→∀ s,s∈qy g l a↔s∈qy g l b
 | [],_,_,h,s=>h s
 | x::r,a,b,h,s=>SL (l:=r) (fun t=>by simp only[bz,h]) s
def Du{g:eH}(hg:fe g){p:Pos}(hp:fO g p){c:Int}(h0:0≤c)(h1:c<g.size)(hm:iU (gt p.cs c)=p.side):jk g (kf p c):=by
 have hc:=hp.cs _ (eQ h0 (by rw[hp.size];exact h1))
 exact{ p:=hp.yx h0 h1 (by omega),kind:=⟨(CJ hp.side.1 hm).1,u0 hc.2 hg.kinds.1⟩,cur:=⟨h0,h1⟩ }
def Hi{g:eH}{s:eU}(hs:jk g s){side:Int}(h0:0≤side)(h1:side≤1){o:fD}(h:mQ side s=some o):fO g o.p:=by
 unfold mQ at h
 split at h
 ·cases h
  have:=hs.kind
  exact{ hs.p.yx hs.cur.1 hs.cur.2 (v:=kF s.kind side) (by unfold kF;omega)with side:=by dsimp only;omega }
 ·cases h
def IQ{g:eH}(hg:fe g){p:Pos}(hp:fO g p){o:fD}(h:o∈oN g p):fO g o.p:=by
 obtain⟨c,hc,h⟩:=bz.1 h
 rw[jI,hp.size]at hc
 unfold ox at h
 split at h
 ·rename_i e
  obtain⟨l,hl,h⟩:=bz.1 h
  obtain⟨s,hs,h⟩:=b8.1 h
  have eX:=Du hg hp hc.1 hc.2 e
  have hk:=hg.gT _ (eQ (l:=g.kinds) eX.kind.1 eX.kind.2)
  exact Hi (I9 hg (hk.2 l hl).steps (fun t ht=>by rw[List.mem_singleton]at ht;subst ht;exact eX) s hs) hp.side.1 hp.side.2 h
 ·cases h
def BA{g:eH}{p:Pos}(hp:fO g p){q:Pos}(h:vp g p q):fO g q:=by
 obtain⟨k,c,h1,h2,h3,h4,h5,h6,rfl⟩:=h
 have hh:=hp.hand p.side
 have hl:=hh.len
 have ha:=hh.at_ k h1 (by omega)
 have hs:=hp.side
 have hz:=hp.size
 have zK:=(hp.lN p.side (hh.set h1 (v:=gt (p.hand p.side) k-1) (by omega) (nk (fun _=>ha.2.2 (by omega)))))
 have e:(p.lN p.side (pt (p.hand p.side) k (gt (p.hand p.side) k-1))).cs=p.cs:=by unfold Pos.lN;split<;>rfl
 have:=zK.yx (c:=c) (v:=kF k p.side) h3 (by omega) (by unfold kF;omega)
 rw[e]at this
 exact{ this with side:=by dsimp only[jd];omega }
def Mn{g:eH}(hg:fe g){p:Pos}(hp:fO g p){q:Pos}(h:pj g p q):fO g q:=by
 obtain⟨_,h⟩:=h
 split at h
 ·exact IQ hg hp h
 ·rcases h with⟨o,h,rfl⟩|h
  ·exact IQ hg hp h
  ·exact BA hp h
end Go.AL
namespace Go.Proofs.YtnaefnajkaohgaaGreatDoor
open Go Go.AL Classical
set_option maxRecDepth 10000
def f95(n a b:Int):Wf T 95 [.i n,.i a,.i b] [] (Is (.b (decide (a≤n∧n≤b)))):=by
 refine Yg Gk ?_
 simp[Gk]
 (with_reducible repeat' first|refine Xk ?_<;>try simp|refine Xs ?_ ?_<;>intro h<;>(try intro h')<;>(try simp[h])<;>try omega|refine Xg ?_|omega)
def f94(a b:Int):Wf T 94 [.i a,.i b] [] (Is (.i (jK a b))):=by
 refine Yg Gj ?_
 simp[Gj]
 (with_reducible repeat' first|refine Xk ?_<;>try simp|refine Xs ?_ ?_<;>intro h<;>(try intro h')<;>(try simp[h])<;>try omega|refine Xg ?_|omega)
 all_goals (simp only[jK];(repeat' split)<;>omega)
def f92{k s:Int}(hk:0≤k)(kH:k<6)(hs:0≤s)(mJ:s≤1):Wf T 92 [.i k,.i s] [] (Is (.i (1+2*k+s))):=by
 refine Yg Gh ?_
 simp[Gh]
 (with_reducible repeat' first|refine Xk ?_<;>try simp|refine Xs ?_ ?_<;>intro h<;>(try intro h')<;>(try simp[h])<;>try omega|refine Xg ?_|omega)
def f156{k s:Int}(hk:0≤k)(kH:k<6)(hs:0≤s)(mJ:s≤1):Wf T 156 [.i k,.i s] [] (Is (.i (1+2*k+s))):=by
 refine Yg Es ?_
 simp[Es]
 refine fg.c rfl rfl (f95 _ _ _) (by simp[fu]) (by simp) ?_
 simp[show k≤5 by omega,hk]
 refine fg.c rfl rfl (f95 _ _ _) (by simp[fu]) (by simp) ?_
 simp[hs,mJ]
 omega
def f25(l:List Int)(n:Int)(hl:l.length<2 ^ 40):Wf T 25 [dI l,.i n] [] (Is (.b (decide (n∈l)))):=by
 refine Yg Fe ?_
 simp[Fe]
 refine eN.i (α:=Int) [0,1,5] rfl (fun i=>[(0,dI l),(1,.i n),(5,.i i)]) (fun _=>[]) (fun i=>0≤i∧i≤l.length∧n ∉ l.take i.toNat) (fun i=>l.length-i.toNat) 0 (by simp) (by simp) rfl ?_
 rintro i ⟨h0,h1,h2⟩
 simp
 (with_reducible repeat' first|refine Xk ?_<;>try simp|refine Xs ?_ ?_<;>intro h<;>(try intro h')<;>(try simp[h])<;>try omega|refine Xg ?_|omega)
 ·have:=eQ h0 ‹_›
  simp_all
 ·skip
  rw[gx h0 ‹_›]
  simp_all
  exact fun e=>h e.symm
 ·simpa[jh (by omega:(l.length:Int)≤i)]using h2
def f22(a b:List Int)(ha:a.length<2 ^ 40):Wf T 22 [dI a,dI b] [] (Is (.b (decide (a=b)))):=by
 refine Yg E4 ?_
 simp[E4]
 (with_reducible repeat' first|refine Xk ?_<;>try simp|refine Xs ?_ ?_<;>intro h<;>(try intro h')<;>(try simp[h])<;>try omega|refine Xg ?_|omega)
 rotate_left
 ·rintro rfl;simp_all
 ·refine eN.j (0:Int) (fun i=>[(0,dI a),(1,dI b),(5,.i i)]) (fun _=>_) (fun i=>0≤i∧i≤a.length∧a.take i.toNat=b.take i.toNat) (fun i=>a.length-i.toNat) ?_ (by simp) (by first|rfl|simp) rfl ?_
  ·simp
  rintro i ⟨h0,h1,h2⟩
  simp
  (with_reducible repeat' first|refine Xk ?_<;>try simp|refine Xs ?_ ?_<;>intro h<;>(try intro h')<;>(try simp[h])<;>try omega|refine Xg ?_|omega)
  ·skip
   rw[gx h0 (by omega),gx h0 (by omega),h2]
   simp_all
  ·rintro rfl;simp_all
  ·simp only[jh (by omega:(a.length:Int)≤i),jh (by omega:(b.length:Int)≤i)]at h2
   exact h2
def f93(a b:List Int)(ha:a.length<2 ^ 40)(hb:b.length<2 ^ 40):Wf T 93 [dI a,dI b] [] (Is (.i (jC a b))):=by
 refine Yg Gi ?_
 simp[Gi]
 refine eN.j (0:Int) (fun i=>[(0,dI a),(1,dI b),(5,.i i)]) (fun _=>_) (fun i=>0≤i∧i≤a.length∧i≤b.length∧a.take i.toNat=b.take i.toNat) (fun i=>a.length-i.toNat) ?_ (by simp) (by first|rfl|simp) rfl ?_
 ·simp
 rintro i ⟨h0,h1,Hx,h2⟩
 have e:=Ro h2 (by omega) (by omega)
 simp
 (with_reducible repeat' first|refine Xk ?_<;>try simp|refine Xs ?_ ?_<;>intro h<;>(try intro h')<;>(try simp[h])<;>try omega|refine Xg ?_|omega)
 ·skip
  rw[gx h0 (by omega),gx h0 (by omega),h2]
  simp_all
 ·refine Yt (f94 _ _) ?_
  simp
  rw[e,lQ h0 ‹_›,lQ h0 ‹_›,jC,if_neg (by assumption)]
 all_goals
  refine Yc (f94 _ _) ?_
  simp
  rw[e,L4 (by simp only[bw];omega)]
  simp only[bw,jK]
  (repeat' split)<;>omega
def f50(p q:Pos)(hp:Small p)(hq:Small q):Wf T 50 [dP p,dP q] [] (Is (.i (gC p q))):=by
 refine Yg FK ?_
 simp[FK]
 refine Yt (f93 _ _ hp.1 hq.1) ?_
 simp
 refine Yt (f93 _ _ hp.2.1 hq.2.1) ?_
 simp
 refine Yt (f93 _ _ hp.2.2 hq.2.2) ?_
 simp
 refine Yt (f94 _ _) ?_
 simp
 refine Yt (f94 _ _) ?_
 simp
 (refine eN.un ?_;(repeat' first|(refine iP.u ?_;simp;done)|(refine iP.u ?_;simp)|((with_reducible first|refine X2.d ?_ ?_|refine X2.a ?_ ?_|refine X2.o ?_ ?_|refine X2.b ?_ ?_)<;>intro h<;>(try simp[h]))|fail))
 all_goals simp_all [gC,mf]
def f51(n:Int):Wf T 51 [.i n] [] (Is (.agg [.i (fm n),.i (iU n)])):=by
 refine Yg FL ?_
 simp[FL]
 refine Yc (f95 _ _ _) ?_
 simp
 (with_reducible repeat' first|refine Xk ?_<;>try simp|refine Xs ?_ ?_<;>intro h<;>(try intro h')<;>(try simp[h])<;>try omega|refine Xg ?_|omega)
 ·rw[Ah (by omega) (by omega) (by omega),kC (by omega)]
  simp[fm,iU];omega
 ·simp[fm,iU];omega
def f84(n:Int):Wf T 84 [.i n] [] (Is (.tup [.i (fm n),.i (iU n)])):=by
 refine Yg Gc ?_
 simp[Gc]
 (with_reducible repeat' first|refine Xk ?_<;>try simp|refine Xs ?_ ?_<;>intro h<;>(try intro h')<;>(try simp[h])<;>try omega|refine Xg ?_|omega)
 ·simp[fm,iU];omega
 ·simp[fm,iU];omega
 ·rw[Ah (by omega) (by omega) (by omega),kC (by omega)]
  simp[fm,iU];omega
def f251(g:eH)(hg:mX g)(s d c:Int):Wf T 251 [g.iw,.i s,.i d,.i c] [] (Is (.i (kZ g s d c))):=by
 have hn:=hg.next
 have ht:=hg.gU
 refine Yg Fg ?_
 simp[Fg]
 (with_reducible repeat' first|refine Xk ?_<;>try simp|refine Xs ?_ ?_<;>intro h<;>(try intro h')<;>(try simp[h])<;>try omega|refine Xg ?_|omega)
 all_goals first
  | (simp only[kZ];rw[if_pos (by omega)])
  | skip
 ·rename_i h
  have:=hg.turns d (by omega) (by omega)
  have hr:=hg.row (gt g.next (gt g.gU d)) (eQ (by omega) (by omega))
  (with_reducible repeat' first|refine Xk ?_<;>try simp|refine Xs ?_ ?_<;>intro h<;>(try intro h')<;>(try simp[h])<;>try omega|refine Xg ?_|omega)
  simp only[kZ];rw[if_neg (by omega)];simp
 ·rename_i h
  have hr:=hg.row (gt g.next d) (eQ (by omega) (by omega))
  (with_reducible repeat' first|refine Xk ?_<;>try simp|refine Xs ?_ ?_<;>intro h<;>(try intro h')<;>(try simp[h])<;>try omega|refine Xg ?_|omega)
  simp only[kZ];rw[if_neg (by omega)];simp[h]
def f240(g:eH)(hg:mX g)(s d c:Int):Wf T 240 [g.iw,.i s,.i d,.i c] [] (Is (.i (kZ g s d c))):=by
 have hn:=hg.next
 have ht:=hg.gU
 refine Yg E' ?_
 simp[E']
 (with_reducible repeat' first|refine Xk ?_<;>try simp|refine Xs ?_ ?_<;>intro h<;>(try intro h')<;>(try simp[h])<;>try omega|refine Xg ?_|omega)
 all_goals first
  | (simp only[kZ];rw[if_pos (by omega)])
  | skip
 ·rename_i h
  have:=hg.turns d (by omega) (by omega)
  have hr:=hg.row (gt g.next (gt g.gU d)) (eQ (by omega) (by omega))
  (with_reducible repeat' first|refine Xk ?_<;>try simp|refine Xs ?_ ?_<;>intro h<;>(try intro h')<;>(try simp[h])<;>try omega|refine Xg ?_|omega)
  simp only[kZ];rw[if_neg (by omega)];simp
 ·rename_i h
  have hr:=hg.row (gt g.next d) (eQ (by omega) (by omega))
  (with_reducible repeat' first|refine Xk ?_<;>try simp|refine Xs ?_ ?_<;>intro h<;>(try intro h')<;>(try simp[h])<;>try omega|refine Xg ?_|omega)
  simp only[kZ];rw[if_neg (by omega)];simp[h]
def f110(p q:Pos)(hp:Small p)(hq:Small q):Wf T 110 [dP p,dP q] [] (Is (.b (decide (p=q)))):=by
 refine Yg DT ?_
 simp[DT]
 refine Yc (f50 p q hp hq) ?_
 simp
 rw[px]
set_option maxHeartbeats 1000000
def f64(l:List Pos)(hl:l.length<2 ^ 40)(hs:∀ p∈l,Small p):Wf T 64 [e7 l] [] (Is (.b (decide (jM l)))):=by
 refine Yg FT ?_
 simp[FT]
 refine eN.j (1:Int) (fun i=>[(0,e7 l),(3,.i i)]) (fun _=>_) (fun i=>1≤i∧(i≤l.length∨i=1)∧∀ k:Int,1≤k→k<i→gC (gt l (k-1)) (gt l k)<0) (fun i=>l.length-i.toNat) ?_ (by simp) (by first|rfl|simp) rfl ?_
 ·simp;omega
 rintro i ⟨h0,h1,h2⟩
 simp
 (with_reducible repeat' first|refine Xk ?_<;>try simp|refine Xs ?_ ?_<;>intro h<;>(try intro h')<;>(try simp[h])<;>try omega|refine Xg ?_|omega)
 ·skip
  refine Yt (f50 (gt l (i-1)) (gt l i) (hs _ (eQ (by omega) (by omega))) (hs _ (eQ (by omega) (by omega)))) ?_
  simp
  (with_reducible repeat' first|refine Xk ?_<;>try simp|refine Xs ?_ ?_<;>intro h<;>(try intro h')<;>(try simp[h])<;>try omega|refine Xg ?_|omega)
  ·intro hc;have:=hc i h0 ‹_›;omega
  ·intro k hk kH
   by_cases e:k=i
   ·subst e;omega
   ·exact h2 k hk (by omega)
 ·intro k hk kH
  exact h2 k hk (by omega)
def f27(l:List Pos)(p:Pos)(hl:l.length<2 ^ 40)(hs:∀ p∈l,Small p)(hp:Small p)(v7:jM l):Wf T 27 [e7 l,dP p] [] (Is (.i (oe l p))):=by
 refine Yg Ft ?_
 simp[Ft]
 refine eN.j ((0,(l.length:Int)):Int×Int) (fun x=>[(0,e7 l),(3,.ptr 0 0 0),(5,.i x.1),(6,.i x.2)]) (fun _=>[.row 44 0 p.cells]) (fun x=>0≤x.1∧x.1≤x.2∧x.2≤l.length∧∀ k:Int,0≤k→k<l.length→gt l k=p→x.1≤k∧k<x.2) (fun x=>(x.2-x.1).toNat) ?_ (by simp) rfl rfl ?_
 ·simp;omega
 rintro⟨a,b⟩ ⟨h0,h1,h2,h3⟩
 simp at h0 h1 h2 h3
 simp
 (with_reducible repeat' first|refine Xk ?_<;>try simp|refine Xs ?_ ?_<;>intro h<;>(try intro h')<;>(try simp[h])<;>try omega|refine Xg ?_|omega)
 ·rw[Ah (by omega) (by omega) (by omega)]
  (with_reducible repeat' first|refine Xk ?_<;>try simp|refine Xs ?_ ?_<;>intro h<;>(try intro h')<;>(try simp[h])<;>try omega|refine Xg ?_|omega)
  refine Yt (f50 p (gt l ((a+b) / 2)) hp (hs _ (eQ (by omega) (by omega)))) ?_
  simp
  (with_reducible repeat' first|refine Xk ?_<;>try simp|refine Xs ?_ ?_<;>intro h<;>(try intro h')<;>(try simp[h])<;>try omega|refine Xg ?_|omega)
  ·rw[px]at h
   rw[h,V8 v7 (by omega) (by omega)]
  ·have fq:∀ k:Int,(a+b) / 2≤k→k<l.length→gt l k≠p:=fun k hk kH e=>by
    by_cases e2:k=(a+b) / 2
    ·subst e2;rw[e,rv]at h;omega
    ·have:=vE h (v7.le (by omega) (show(a+b) / 2<k by omega) kH)
     rw[e,rv]at this;omega
   intro k hk kH e
   have:=h3 k hk kH e
   by_cases La:(a+b) / 2≤k
   ·exact absurd e (fq k La kH)
   ·omega
  ·have h6:gC (gt l ((a+b) / 2)) p<0:=by rw[sj];omega
   have fq:∀ k:Int,0≤k→k≤(a+b) / 2→gt l k≠p:=fun k hk kH e=>by
    by_cases e2:k=(a+b) / 2
    ·subst e2;rw[e,rv]at h6;omega
    ·have:=vE (v7.le hk (show k<(a+b) / 2 by omega) (by omega)) h6
     rw[e,rv]at this;omega
   intro k hk kH e
   have:=h3 k hk kH e
   by_cases La:k≤(a+b) / 2
   ·exact absurd e (fq k hk La)
   ·omega
 ·rw[Pf]
  intro hm
  obtain⟨k,hk,kH,e⟩:=pc.1 hm
  have:=h3 k hk kH e
  omega
def f111(g:eH)(l:List Int)(hg:fe g)(hl:pP g l):Wf T 111 [dG g,dI l] [] (Is (.b true)):=by
 have hk:=hg.kinds
 have hn:=hl.len
 refine Yg DU ?_
 simp[DU]
 (with_reducible repeat' first|refine Xk ?_<;>try simp|refine Xs ?_ ?_<;>intro h<;>(try intro h')<;>(try simp[h])<;>try omega|refine Xg ?_|omega)
 refine eN.j (0:Int) (fun i=>[(1,dI l),(2,.ptr 0 0 0),(5,.i i)]) (fun i=>[.row 41 0 g.cells]) (fun i=>0≤i∧i≤l.length) (fun i=>l.length-i.toNat) ?_ (by simp) (by first|rfl|simp) rfl ?_
 ·simp
 rintro i ⟨h0,h1⟩
 simp
 (with_reducible refine Xs ?_ ?_<;>intro h<;>(try intro h')<;>(try simp[h])<;>(try omega))
 ·have h2:=hl.at_ i h0 ‹_›
  (with_reducible repeat' first|refine Xk ?_<;>try simp|refine Xs ?_ ?_<;>intro h<;>(try intro h')<;>(try simp[h])<;>try omega|refine Xg ?_|omega)
  have:=h2.2.2
  all_goals simp_all
  all_goals omega
def f65(g:eH)(p:Pos)(hg:fe g)(hp:fO g p):Wf T 65 [dG g,dP p] [] (Is (.b true)):=by
 have hk:=hg.kinds
 have hr:=hg.ff
 have h1:=hp.size
 have h2:=hp.ff
 have h3:=hp.side
 have hb:=hg.iw.size
 have h4:=MX hr.1
 refine Yg FU ?_
 simp[FU,h1]
 refine Yt (f111 g _ hg hp.h0) ?_
 simp[h1]
 refine Yt (f111 g _ hg hp.h1) ?_
 simp[h1]
 (with_reducible repeat' first|refine Xk ?_<;>try simp[h4]|refine Xs ?_ ?_<;>intro h<;>(try intro h')<;>(try simp[h,h4])<;>try omega|refine Xg ?_|omega)
 refine eN.j (0:Int) (fun i=>[(2,.ptr 0 0 0),(3,.ptr 1 0 0),(5,.i i)]) (fun i=>[.row 41 0 g.cells,.row 44 0 p.cells]) (fun i=>0≤i∧i≤p.cs.length) (fun i=>p.cs.length-i.toNat) ?_ (by simp) (by first|rfl|simp) rfl ?_
 ·simp
 rintro i ⟨h0,h5⟩
 simp
 (with_reducible refine Xs ?_ ?_<;>intro h<;>(try intro h')<;>(try simp[h])<;>(try omega))
 have h4:=hp.cs _ (eQ h0 ‹_›)
 (with_reducible repeat' first|refine Xk ?_<;>try simp|refine Xs ?_ ?_<;>intro h<;>(try intro h')<;>(try simp[h])<;>try omega|refine Xg ?_|omega)
end Go.Proofs.YtnaefnajkaohgaaGreatDoor
namespace Go.AL
open Go
def Ex{α:Type}(g:α→D)(Q:α→Prop):D→U→Prop:=fun d H=>∃ r,d=g r∧H = []∧Q r
@[simp] theorem aha{α:Type}(g:α→D)(Q:α→Prop)(d:D)(H:U):Ex g Q d H = ∃ r,d=g r∧H = []∧Q r:=(rfl)
section
variable{T:gy}{f:FuncId}{args nZ:List D}{dst:Option Nat}{s:St}{K:St→Prop}{fn:eI}
def fg.q{α:Type}{g:α→D}{Q:α→Prop}(hf:T.fn f=some fn)(hp:fn.full=false)(h:Wf T f args [] (Ex g Q))
  (hc:fu args=true) (hx:∀ r,closed (g r)=true) (k:∀ r,Q r→K { s with env:=put s.env dst (g r) }):fg T f args dst s K .mk:=by
 refine fg.is hf hp (K0:=Ex g Q) ?_ ?_
 ·have e0:args.map (eP (fun _=>none) s.H 40)=args:=by
   conv=>rhs;rw[← aQ args]
   exact aj fun d hd=>mD (lE hc d hd)
  rw[e0];exact h
 ·rintro d Hn ⟨r,rfl,rfl,hr⟩
  obtain⟨k1,k2⟩:=GR (H:=s.H) (hx r)
  refine⟨{ s with env:=put s.env dst (g r) },?_,k r hr⟩
  unfold after
  rw[if_pos hc,k1,k2]
  simp
end
section
variable{T:gy}{f:FuncId}{args:List D}{dst:Option Nat}{s:St}{K:St→Prop}{fn:eI}
def fg.n{d:D}{Hn:U}(hf:T.fn f=some fn)(hp:fn.full=false)(h:Wf T f args [] fun d' H'=>d'=d∧H'=Hn)
  (hc:fu args=true) (hr:(lM d&&Hn.all mO)=true) (k:K { s with env:=put s.env dst (jx s.H.length d),H:=s.H++Hn }):fg T f args dst s K .mk:=by
 refine fg.is hf hp (K0:=fun d' H'=>d'=d∧H'=Hn) ?_ ?_
 ·have e0:args.map (eP (fun _=>none) s.H 40)=args:=by
   conv=>rhs;rw[← aQ args]
   exact aj fun d hd=>mD (lE hc d hd)
  rw[e0];exact h
 ·rintro d' A2 ⟨rfl,rfl⟩
  refine⟨_,?_,k⟩
  unfold after
  rw[if_pos hc,if_pos hr]
def vu.n{R:List Fp}{Q:Rc→St→Prop}{d:D}{ob:Ob}(hf:T.fn f=some fn)(hp:fn.full=false)(h:Wf T f args [] fun d' H'=>d'=d∧H' = [ob])
  (hc:fu args=true) (hr:(lM d&&mO ob)=true) (k:Q ⟨R,[(s.H.length,none)]⟩ { s with env:=put s.env dst (jx s.H.length d),H:=s.H ++ [ob] }):r9 T f args R dst s Q .mk:=by
 have e0:args.map (eP (fun _=>none) s.H 40)=args:=by
  conv=>rhs;rw[← aQ args]
  exact aj fun d hd=>mD (lE hc d hd)
 exact .inl (.inr ⟨fn,d,ob,hf,hp,by rw[e0];exact h,by rw[if_pos hc];exact hr,k⟩)
theorem vu.c{R:List Fp}{Q:Rc→St→Prop}{x:D}(hf:T.fn f=some fn)(hp:fn.full=false)(h:Wf T f args [] fun d H'=>d=x∧H' = [])
  (hc:fu args=true) (hx:closed x=true) (k:Q ⟨R,[]⟩ { s with env:=put s.env dst x }):r9 T f args R dst s Q .mk:=.inl (.inl (gQ.c hf hp h hc hx k))
def r9.z{nZ:List D}{R:List Fp}{Q:Rc→St→Prop}{d:D}(v:Nat)(hf:T.fn f=some fn)(hp:fn.full=false)(h:Wf T f nZ [] (Is d))(hs:args.map (eP (fun _=>none) s.H 40)=nZ)
  (hr:(args.map (gv s.H 40)).flatten = [v]) (gq:(rowsOf s.H v).isSome=true) (hc:fu nZ=true) (hx:closed d=true) (k:Q ⟨R,[(v,none)]⟩ { s with env:=put s.env dst d,H:=s.H.set v .dead }):r9 T f args R dst s Q .mk:=
 .inr ⟨fn,d,v,hf,hp,by rw[hr];simp,by rw[hr];simp,gq,by rw[hs];exact hc,by rw[hs];exact h,hx,k⟩
@[simp] theorem aot(ds:List D):lM (.agg ds)=ds.all (u5 closed):=rfl
@[simp] theorem aou(v g sz off n:Nat):lM (.eF v g sz off n)=true:=rfl
@[simp] theorem aoi(p:D→Bool)(v g sz off n:Nat):u5 p (.eF v g sz off n)=true:=rfl
@[simp] theorem aoh(l:List Int):u5 closed (dI l)=true:=by show closed (dI l)=true;simp
@[simp] theorem aoj(v:Value):u5 closed (.val v)=true:=by show closed (.val v)=true;simp
@[simp] theorem akJ(t g:Nat)(cs:List D):mO (.row t g cs)=fu cs:=rfl
@[simp] theorem anf(n:Nat)(ds:List D):jx n (.agg ds) = .agg (ds.map (uZ n)):=rfl
@[simp] theorem ang(n v g sz off k:Nat):jx n (.eF v g sz off k) = .eF (v+n) g sz off k:=rfl
@[simp] theorem anj(n v g sz off k:Nat):uZ n (.eF v g sz off k) = .eF (v+n) g sz off k:=rfl
@[simp] theorem ani(n:Nat)(l:List Int):uZ n (dI l)=dI l:=by unfold dI;rfl
@[simp] theorem ank(n:Nat)(v:Value):uZ n (.val v) = .val v:=rfl
end
instance:Fl eU.cells 8:=⟨fun _=>rfl,fun s=>by simp[eU.cells,fu]⟩
instance:Fl fD.cells 6:=⟨fun _=>rfl,fun s=>by simp[fD.cells,fu]⟩
@[simp] theorem akA(l:List eU)(a b c:List Int)(r q k u:Int)(t:Bool):cl eU.cells l ++ [dI a,dI b,dI c,.i r,.i q,.i k,.i u,.b t]=cl eU.cells (l ++ [⟨⟨a,b,c,r,q⟩,k,u,t⟩]):=by rw[← pR];rfl
@[simp] theorem akw(l:List fD)(a b c:List Int)(r q:Int)(t:Bool):cl fD.cells l ++ [dI a,dI b,dI c,.i r,.i q,.b t]=cl fD.cells (l ++ [⟨⟨a,b,c,r,q⟩,t⟩]):=by rw[← pR];rfl
@[simp] theorem aqo(s:eU):eU.mk s.p s.kind s.cur s.iL=s:=rfl
@[simp] theorem aoK(s:fD):fD.mk s.p s.iL=s:=rfl
attribute [simp] eU.cells fD.cells
def Yq{T:gy}{f:FuncId}{args:List D}{dst:Option Nat}{s:St}{K:St→Prop}{fn:eI}{α:Type}{g:α→D}{Q:α→Prop}(h:Wf T f args [] (Ex g Q))(k:∀ r,Q r→K { s with env:=put s.env dst (g r) })
  (hf:T.fn f=some fn:=by exact rfl) (hp:fn.full=false:=by exact rfl) (hc:fu args=true:=by simp) (hx:∀ r,closed (g r)=true:=by intro;simp):fg T f args dst s K .mk:=fg.q hf hp h hc hx k
def Yn{T:gy}{f:FuncId}{args:List D}{dst:Option Nat}{s:St}{K:St→Prop}{fn:eI}{d:D}{Hn:U}(h:Wf T f args [] fun d' H'=>d'=d∧H'=Hn)(k:K { s with env:=put s.env dst (jx s.H.length d),H:=s.H++Hn })
  (hf:T.fn f=some fn:=by exact rfl) (hp:fn.full=false:=by exact rfl) (hc:fu args=true:=by simp) (hr:(lM d&&Hn.all mO)=true:=by simp):fg T f args dst s K .mk:=fg.n hf hp h hc hr k
