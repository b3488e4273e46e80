/- Part 11 of DisputeLocal. -/
import Derived.Test.YtmehofoficaelaaGreatDoorL10
import Derived.Test.YtmehofoficaelaaGreatDoorL08
set_option linter.all false
namespace Go.AL
def jZ(a b:Int):Int:=if a<b then -1 else if a>b then 1 else 0
def jS:List Int→List Int→Int
 | [],[]=>0
 | [],_::_ => -1
 | _::_,[]=>1
 | a::l,b::m=>if a=b then jS l m else jZ a b
def ma:List Int→Int
 | []=>0
 | a::l=>if a≠0 then a else ma l
def gR(p q:Pos):Int:=ma [jS p.cs q.cs,jS p.h0 q.h0,jS p.h1 q.h1,jZ p.fH q.fH,jZ p.side q.side]
def uJ{a b:Int}:jZ a b=0↔a=b:=by
 unfold jZ;(repeat' split)<;>omega
def Ac{a b:Int}:jZ a b<0↔a<b:=by
 unfold jZ;(repeat' split)<;>omega
def Ip(a b:Int):jZ b a = - jZ a b:=by
 unfold jZ;(repeat' split)<;>omega
theorem Ic:∀ {a b:List Int},jS a b=0↔a=b
 | [],[]=>by simp[jS]
 | [],_::_=>by simp[jS]
 | _::_,[]=>by simp[jS]
 | a::l,b::m=>by
  unfold jS
  split
  ·rename_i h;subst h;rw[Ic];simp
  ·rename_i h;rw[uJ];simp[h]
theorem Ia:∀ (a b:List Int),jS b a = - jS a b
 | [],[]=>rfl
 | [],_::_=>rfl
 | _::_,[]=>rfl
 | a::l,b::m=>by
  unfold jS
  by_cases h:a=b
  ·subst h;simp[Ia l m]
  ·rw[if_neg h,if_neg (dB h),Ip]
theorem Ib:∀ {a b c:List Int},jS a b<0→jS b c<0→jS a c<0
 | [],[],c,h,_=>by simp[jS]at h
 | _::_,[],c,h,_=>by simp[jS]at h
 | a,_::_,[],_,h=>by simp[jS]at h
 | [],_::_,_::_,_,_=>by simp[jS]
 | a::l,b::m,c::k,h1,h2=>by
  unfold jS at *
  by_cases e1:a=b
  ·subst e1
   rw[if_pos rfl]at h1
   by_cases e2:a=c
   ·subst e2
    rw[if_pos rfl]at h2 ⊢
    exact Ib h1 h2
   ·rw[if_neg e2]at h2 ⊢;exact h2
  ·rw[if_neg e1,Ac]at h1
   by_cases e2:b=c
   ·subst e2;rw[if_neg e1,Ac];exact h1
   ·rw[if_neg e2,Ac]at h2
    rw[if_neg (by omega),Ac];omega
theorem J6:∀ {l:List Int},ma l=0↔∀ x∈l,x=0
 | []=>by simp[ma]
 | a::l=>by
  unfold ma
  split
  ·rename_i h;simp[h]
  ·rename_i h;rw[J6];simp_all
def pe{p q:Pos}:gR p q=0↔p=q:=by
 unfold gR
 rw[J6]
 cases p;cases q
 simp[Ic,uJ]
def q6(p:Pos):gR p p=0:=pe.2 rfl
def rO(p q:Pos):gR q p = - gR p q:=by
 unfold gR ma
 rw[Ia p.cs,Ia p.h0,Ia p.h1,Ip p.fH,Ip p.side]
 simp only[ma]
 (repeat' split)<;>omega
def xl{A B C:Int}{a b c:List Int}(h1:A=0→C=B)(h2:B=0→C=A)(h3:A<0→B<0→C<0)(h:ma a<0→ma b<0→ma c<0):ma (A::a)<0→ma (B::b)<0→ma (C::c)<0:=by
 unfold ma
 intro x y
 by_cases hA:A=0
 ·have:=h1 hA
  subst this
  rw[if_neg (by simpa using hA)]at x
  by_cases hB:C=0
  ·rw[if_neg (by simpa using hB)]at y ⊢
   exact h x y
  ·rw[if_pos hB]at y ⊢;exact y
 ·rw[if_pos hA]at x
  by_cases hB:B=0
  ·have:=h2 hB
   subst this
   rw[if_pos hA];exact x
  ·rw[if_pos hB]at y
   have:=h3 x y
   rw[if_pos (by omega)];exact this
def vp{p q r:Pos}:gR p q<0→gR q r<0→gR p r<0:=by
 have key:∀ a b c:List Int,jS a b=0→jS a c=jS b c:=fun a b c h=>by rw[Ic.1 h]
 have LK:∀ a b c:List Int,jS b c=0→jS a c=jS a b:=fun a b c h=>by rw[Ic.1 h]
 have n1:∀ a b c:Int,jZ a b=0→jZ a c=jZ b c:=fun a b c h=>by rw[uJ.1 h]
 have n2:∀ a b c:Int,jZ b c=0→jZ a c=jZ a b:=fun a b c h=>by rw[uJ.1 h]
 have nt:∀ a b c:Int,jZ a b<0→jZ b c<0→jZ a c<0:=fun a b c=>by simp only[Ac];omega
 unfold gR
 refine xl (key _ _ _) (LK _ _ _) Ib (xl (key _ _ _) (LK _ _ _) Ib (xl (key _ _ _) (LK _ _ _) Ib (xl (n1 _ _ _) (n2 _ _ _) (nt _ _ _) (xl (n1 _ _ _) (n2 _ _ _) (nt _ _ _) fun h=>?_))))
 simp[ma]at h
def RI{a b:List Int}:∀ {i:Nat},a.take i=b.take i→i≤a.length→i≤b.length→jS a b=jS (a.drop i) (b.drop i):=by
 intro i
 induction i generalizing a b with
 | zero=>intro _ _ _;rfl
 | succ i ih=>
  intro h h1 h2
  cases a with
  | nil=>simp at h1
  | cons x a=>
   cases b with
   | nil=>simp at h2
   | cons y b=>
    simp only[List.take_succ_cons,cQ]at h
    simp only[aO]at h1 h2
    simp only[List.drop_succ_cons,jS,h.1,if_true]
    exact ih h.2 (by omega) (by omega)
def LV{a b:List Int}(h:a.length=0∨b.length=0):jS a b=jZ a.length b.length:=by
 cases a<;>cases b<;>simp_all [jS,jZ]
 all_goals omega
def OY{p q r:Pos}(h1:gR p q≤0)(h2:gR q r≤0):gR p r≤0:=by
 by_cases a:gR p q=0
 ·rw[pe.1 a];exact h2
 ·by_cases b:gR q r=0
  ·rw[← pe.1 b];exact h1
  ·exact Int.le_of_lt (vp (show gR p q<0 by omega) (show gR q r<0 by omega))
def WS(l:List Pos):Prop:=l.Pairwise fun x y=>gR x y≤0
def Small(p:Pos):Prop:=p.cs.length<2 ^ 40∧p.h0.length<2 ^ 40∧p.h1.length<2 ^ 40
def kc(l:List Pos):Prop:=∀ i:Int,1≤i→i<l.length→gR (gt l (i-1)) (gt l i)<0
theorem kc.lt{l:List Pos}(h:kc l){i:Int}(h0:0≤i):∀ {n:Nat},i<n→(n:Int)<l.length→gR (gt l i) (gt l n)<0
 | 0,h1,_=>by omega
 | n+1,h1,h2=>by
  have:=h (n+1) (by omega) (by omega)
  rw[de]at this
  by_cases e:i=n
  ·subst e;exact this
  ·exact vp (h.lt h0 (by omega) (by omega)) this
def kc.le{l:List Pos}(h:kc l){i j:Int}(h0:0≤i)(h1:i<j)(h2:j<l.length):gR (gt l i) (gt l j)<0:=by
 have:=h.lt h0 (n:=j.toNat) (by omega) (by omega)
 rwa [bN (by omega)]at this
def kc.inj{l:List Pos}(h:kc l){i j:Int}(h0:0≤i)(h1:i<l.length)(h2:0≤j)(h3:j<l.length)(e:gt l i=gt l j):i=j:=by
 by_cases a:i<j
 ·have:=h.le h0 a h3;rw[e,q6]at this;omega
 ·by_cases b:j<i
  ·have:=h.le h2 b h1;rw[e,q6]at this;omega
  ·omega
def od(l:List Pos)(p:Pos):Int:=if p∈l then(l.idxOf p:Int)else -1
def PM{l:List Pos}{p:Pos}(h:p ∉ l):od l p = -1:=if_neg h
def BD{l:List Pos}{p:Pos}(h:p∈l):0≤od l p∧od l p<l.length∧gt l (od l p)=p:=by
 unfold od
 rw[if_pos h]
 have hi:l.idxOf p<l.length:=List.idxOf_lt_length_iff.2 h
 refine ql ?_
 rw[Hk hi]
 exact List.getElem_idxOf hi
def WD{l:List Pos}(hs:kc l){i:Int}(h0:0≤i)(h1:i<l.length):od l (gt l i)=i:=by
 obtain⟨a,b,c⟩:=BD (ft h0 h1)
 exact hs.inj a b h0 h1 c
end Go.AL
namespace Go.AL
open Go
def pt{α:Type}(l:List α)(n:Int)(v:α):List α:=l.take n.toNat++v::l.drop (n.toNat+1)
section
variable{α:Type}[Inhabited α]{l:List α}{n k:Int}{v:α}
def CX(h0:0≤n)(h:n<l.length):pt l n v=l.set n.toNat v:=by
 rw[pt,cH,if_pos (by omega)]
def il(h0:0≤n)(h:n<l.length):(pt l n v).length=l.length:=by
 rw[CX h0 h,b8]
def qv(h0:0≤n)(h:n<l.length)(hk:0≤k):gt (pt l n v) k=if k=n then v else gt l k:=by
 rw[CX h0 h]
 unfold gt
 simp only[List.getD_eq_getElem?_getD,bA]
 by_cases e:k=n
 ·subst e;rw[if_pos rfl,if_pos rfl,if_pos (by omega)];rfl
 ·rw[if_neg (by omega),if_neg e]
def zp(h0:0≤n)(h:n<l.length):gt (pt l n v) n=v:=by rw[qv h0 h h0,if_pos rfl]
def P8(h0:0≤n)(h:n<l.length)(hk:0≤k)(e:k≠n):gt (pt l n v) k=gt l k:=by rw[qv h0 h hk,if_neg e]
def RZ{x:α}(h:x∈pt l n v):x=v∨x∈l:=by
 unfold pt at h
 simp only[List.mem_append,av]at h
 rcases h with h|h|h
 ·exact .inr (aN h)
 ·exact .inl h
 ·exact .inr (bp h)
end
@[simp] theorem ao7{α:Type}(l:List α)(n:Int)(v:α):l.take n.toNat++v::l.drop (n.toNat+1)=pt l n v:=(rfl)
def lg(g:eY)(s d c:Int):Int:=
 if s<0∨s>1∨d<0∨d≥g.next.length∨c<0∨c≥g.size then -1 else gt (gt g.next (if s=1 then gt g.iT d else d)) c
structure mY(g:eY):Prop where
 size:1≤g.size∧g.size≤9
 next:g.next.length=8
 row:∀ l∈g.next,(l.length:Int)=g.size∧∀ x∈l,-1≤x∧x<g.size
 iT:g.iT.length=8
 turns:∀ d,0≤d→d<8→0≤gt g.iT d∧gt g.iT d<8∧gt g.iT (gt g.iT d)=d
def mY.to{g:eY}(h:mY g)(s d c:Int) : -1≤lg g s d c∧lg g s d c<g.size:=by
 have:=h.size
 unfold lg
 split
 ·omega
 ·rename_i e
  have hn:=h.next
  simp only[not_or,eM,Int.not_le,gt_iff_lt,ge_iff_le]at e
  have hd:0≤(if s=1 then gt g.iT d else d)∧(if s=1 then gt g.iT d else d)<8:=by
   split
   ·have:=h.turns d (by omega) (by omega);omega
   ·omega
  have hr:=h.row _ (ft (l:=g.next) hd.1 (by omega))
  exact hr.2 _ (ft (by omega) (by omega))
structure A3(g:eY)(x:fe):Prop where
 ok:((x.1=1∨x.1=2∨x.1=7)∧0≤x.2∧x.2<8)∨(3≤x.1∧x.1≤6∧x.2=0)∨(x.1=8∧0≤x.2∧x.2<g.kinds.length)∨((x.1=9∨x.1=10)∧0≤x.2∧x.2<g.fH)
def nb(l:List fe)(op:Int):Int:=(l.countP fun x=>x.1=op:Nat)
structure tP(g:eY)(l:List fe):Prop where
 len:1≤l.length∧l.length≤8
 steps:∀ x∈l,A3 g x
 qU:nb l 6≤2
 push:nb l 7≤1
 Gl:nb l 8≤1
structure yK(g:eY)(c:Clause):Prop where
 ok:(c.cond=1∧0≤c.kind∧c.kind<g.kinds.length∧c.n=0)∨(c.cond=2∧0≤c.kind∧c.kind<g.kinds.length∧0≤c.n∧c.n<g.size)∨(c.cond=3∧c.kind=0∧0≤c.n∧c.n≤64)
 out:1≤c.out∧c.out≤3
def kindName(n:Int):ByteArray:=if n=0 then⟨#[97]⟩else⟨#[98,101,101]⟩
structure gh(g:eY):Prop where
 iY:mY g
 kinds:1≤g.kinds.length∧g.kinds.length≤2
 names:∀ k:Int,0≤k→k<g.kinds.length→(gt g.kinds k).name=kindName k
 iG:∀ k∈g.kinds,k.iG.length≤4∧∀ l∈k.iG,tP g l
 fH:0≤g.fH∧g.fH≤2
 clauses:g.clauses.length≤3
 clause:∀ c∈g.clauses,yK g c
 blocked:1≤g.blocked∧g.blocked≤3
 vz:1≤g.vz∧g.vz≤3
structure pD(g:eY)(l:List Int):Prop where
 len:l.length=g.kinds.length
 at_:∀ k:Int,0≤k→k<l.length→0≤gt l k∧gt l k≤8∧(0<gt l k→(gt g.kinds k).pN=true)
structure gG(g:eY)(p:Pos):Prop where
 size:(p.cs.length:Int)=g.size
 h0:pD g p.h0
 h1:pD g p.h1
 fH:0≤p.fH∧p.fH<2 ^ g.fH.toNat
 side:0≤p.side∧p.side≤1
 cs:∀ x∈p.cs,0≤x∧x≤2*g.kinds.length
def fF(n:Int):Int:=if 1≤n∧n≤12 then(n-1) / 2 else -1
def jo(n:Int):Int:=if 1≤n∧n≤12 then(n-1) % 2 else -1
def kO(k s:Int):Int:=1+2*k+s
def qG(g:eY)(s d c:Int):Nat→Int→List Int→List Int
 | 0,_,out=>out
 | n+1,x,out=>if 0≤x∧x≠c∧x ∉ out then qG g s d c n (lg g s d x) (out ++ [x])else out
def kE(g:eY)(s d c:Int):List Int:=qG g s d c 10 (lg g s d c) []
theorem RE{g:eY}(hg:mY g){s d c:Int}:∀ (n:Nat) (x:Int) (out:List Int),x<g.size→(∀ y∈out,0≤y∧y<g.size)→∀ y∈qG g s d c n x out,0≤y∧y<g.size
 | 0,x,out,_,h,y,hy=>h y hy
 | n+1,x,out,hx,h,y,hy=>by
  unfold qG at hy
  split at hy
  ·rename_i e
   refine RE hg n _ _ (hg.to _ _ _).2 (fun z hz=>?_) y hy
   simp only[List.mem_append,List.mem_singleton]at hz
   rcases hz with hz|hz
   ·exact h z hz
   ·omega
  ·exact h y hy
def LS{g:eY}(hg:mY g){s d c y:Int}(h:y∈kE g s d c):0≤y∧y<g.size:=RE hg _ _ _ (hg.to _ _ _).2 (by simp) y h
theorem Im:∀ (n:Nat) (l:List Int),l.Nodup→(∀ y∈l,0≤y∧y<n)→l.length≤n
 | 0,[],_,_=>by simp
 | 0,a::l,_,h=>by have:=h a (by simp);omega
 | n+1,l,hn,h=>by
  by_cases e:(n:Int)∈l
  ·have h1:(l.erase (n:Int)).length≤n:=Im n _ (hn.erase _) fun y hy=>by
    have:=(hn.mem_erase_iff).1 hy
    have:=h y this.2
    omega
   rw[eu e]at h1
   omega
  ·have:=Im n l hn fun y hy=>by
    have:=h y hy
    have:y≠n:=fun e2=>e (e2▸hy)
    omega
   omega
structure fg where
 p:Pos
 kind:Int
 cur:Int
 jb:Bool
 deriving DecidableEq,Inhabited
def fg.cells(s:fg):List D:=[dI s.p.cs,dI s.p.h0,dI s.p.h1,.i s.p.fH,.i s.p.side,.i s.kind,.i s.cur,.b s.jb]
structure jA(g:eY)(s:fg):Prop where
 p:gG g s.p
 kind:0≤s.kind∧s.kind<g.kinds.length
 cur:0≤s.cur∧s.cur<g.size
def Pos.hand(p:Pos)(s:Int):List Int:=if s=0 then p.h0 else p.h1
def Pos.lV(p:Pos)(s:Int)(l:List Int):Pos:=if s=0 then{ p with h0:=l }else{ p with h1:=l }
def oI(s:fg):List Int→List fg
 | []=>[]
 | c::r=>{ s with cur:=c }::if gt s.p.cs c=0 then oI s r else []
def qo(g:eY)(s:fg):List fg:=
 let c:=gt s.p.cs s.cur
 if jo c≠1-s.p.side then []else
  let p:={ s.p with cs:=pt s.p.cs s.cur 0 }
  if (gt g.kinds (fF c)).pN=false then [{ s with p:=p,jb:=true }]else
   let n:=gt (s.p.hand s.p.side) (fF c)+1
   if n≤8 then [{ s with p:=p.lV s.p.side (pt (s.p.hand s.p.side) (fF c) n),jb:=true }]else []
def qO(g:eY)(s:fg)(n:Int):List fg:=
 let to:=lg g s.p.side n s.cur
 if gt s.p.cs s.cur=0∨to<0∨gt s.p.cs to≠0 then []else
  [{ s with p:={ s.p with cs:=pt (pt s.p.cs to (gt s.p.cs s.cur)) s.cur 0 } }]
def xx(r n:Int):Prop:=r / 2 ^ n.toNat % 2=1
instance(r n:Int):Decidable (xx r n):=by unfold xx;infer_instance
def dropRight(r n:Int):Int:=if xx r n then r-2 ^ n.toNat else r
def MX{b:Int}(h0:0≤b)(h:b≤4):uR .i64 1 b=2 ^ b.toNat:=by
 have:b=0∨b=1∨b=2∨b=3∨b=4:=by omega
 rcases this with rfl|rfl|rfl|rfl|rfl<;>decide
def R8{r:Int}(h0:0≤r)(h:r<16):∃ i:Fin 16,r=(i.val:Int):=⟨⟨r.toNat,by omega⟩,by simp;omega⟩
def R9{r:Int}(h0:0≤r)(h:r<4):∃ i:Fin 4,r=(i.val:Int):=⟨⟨r.toNat,by omega⟩,by simp;omega⟩
def S1:∀ (i:Fin 16) (k:Fin 4),(bits .and .i64 (mA .i64 (i.val:Int) (k.val:Int)) 1=1↔xx (i.val:Int) (k.val:Int))∧bits .andNot .i64 (i.val:Int) (uR .i64 1 (k.val:Int))=dropRight (i.val:Int) (k.val:Int):=by decide +kernel
def SZ{r n:Int}(h0:0≤r)(h1:r<16)(h2:0≤n)(h3:n<4):(bits .and .i64 (mA .i64 r n) 1=1)=xx r n:=by
 obtain⟨i,rfl⟩:=R8 h0 h1
 obtain⟨k,rfl⟩:=R9 h2 h3
 exact propext (S1 i k).1
def S0{r n:Int}(h0:0≤r)(h1:r<16)(h2:0≤n)(h3:n<4):bits .andNot .i64 r (uR .i64 1 n)=dropRight r n:=by
 obtain⟨i,rfl⟩:=R8 h0 h1
 obtain⟨k,rfl⟩:=R9 h2 h3
 exact(S1 i k).2
def Af{b:Int}(h0:0≤b)(h:b≤4):(2:Int) ^ b.toNat≤16:=by
 have:b=0∨b=1∨b=2∨b=3∨b=4:=by omega
 rcases this with rfl|rfl|rfl|rfl|rfl<;>decide
def im(g:eY)(s:fg)(x:fe):List fg:=
 let c:=gt s.p.cs s.cur
 if x.1=1 then(let to:=lg g s.p.side x.2 s.cur;if 0≤to then [{ s with cur:=to }]else [])
 else if x.1=2 then oI s (kE g s.p.side x.2 s.cur)
 else if x.1=3 then(if c=0 then [s]else [])
 else if x.1=4 then(if jo c=1-s.p.side then [s]else [])
 else if x.1=5 then(if jo c=s.p.side then [s]else [])
 else if x.1=6 then qo g s
 else if x.1=7 then qO g s x.2
 else if x.1=8 then [{ s with kind:=x.2 }]
 else if x.1=9 then(if xx s.p.fH x.2 then [s]else [])
 else [{ s with p:={ s.p with fH:=dropRight s.p.fH x.2 } }]
def qm(g:eY):List fe→List fg→List fg
 | [],l=>l
 | x::r,l=>qm g r (l.flatMap fun s=>im g s x)
def kF(p:Pos)(cell:Int):fg:={ p:={ p with cs:=pt p.cs cell 0 },kind:=fF (gt p.cs cell),cur:=cell,jb:=false }
structure fV where
 p:Pos
 jb:Bool
 deriving DecidableEq,Inhabited
def fV.cells(o:fV):List D:=[dI o.p.cs,dI o.p.h0,dI o.p.h1,.i o.p.fH,.i o.p.side,.b o.jb]
def mN(side:Int)(s:fg):Option fV:=
 if gt s.p.cs s.cur=0 then some { p:={ s.p with cs:=pt s.p.cs s.cur (kO s.kind side),side:=1-side },jb:=s.jb }else none
def rz(g:eY)(p:Pos)(cell:Int)(l:List fe):List fV:=(qm g l [kF p cell]).filterMap (mN p.side)
def upto(n:Nat):List Int:=(List.range n).map fun k:Nat=>(k:Int)
def ku{n:Nat}{k:Int}:k∈upto n↔0≤k∧k<n:=by
 simp only[upto,aw,bC]
 constructor
 ·rintro⟨a,h,rfl⟩;omega
 ·intro h;exact⟨k.toNat,by omega,by omega⟩
def oq(g:eY)(p:Pos)(c:Int):List fV:=if jo (gt p.cs c)=p.side then(gt g.kinds (fF (gt p.cs c))).iG.flatMap (rz g p c)else []
def oJ(g:eY)(p:Pos):List fV:=(upto p.cs.length).flatMap (oq g p)
def jv(p:Pos)(k c:Int):Pos:={ p.lV p.side (pt (p.hand p.side) k (gt (p.hand p.side) k-1))with cs:=pt p.cs c (kO k p.side),side:=1-p.side }
def u9(g:eY)(p q:Pos):Prop:=∃ k c:Int,0≤k∧k<g.kinds.length∧0≤c∧c<p.cs.length∧gt (p.hand p.side) k≠0∧gt p.cs c=0∧q=jv p k c
def pO(p:Pos)(side kind:Int):Int:=(p.cs.countP fun c=>0≤fF c∧jo c=side∧(kind<0∨fF c=kind):Nat)
def ke(p:Pos)(c:Clause):Prop:=
 if c.cond=1 then pO p p.side c.kind=0 else if c.cond=2 then gt p.cs c.n=kO c.kind (1-p.side)else pO p p.side (-1)≤c.n
def pa(g:eY)(p q:Pos):Prop:=
 (∀ c∈g.clauses,¬ ke p c) ∧
 if g.om=true∧(∃ o∈oJ g p,o.jb=true)then⟨q,true⟩∈oJ g p else(∃ o∈oJ g p,o.p=q)∨u9 g p q
def gG.small{g:eY}(hg:gh g){p:Pos}(h:gG g p):Small p:=by
 have h1:=h.size;have h2:=hg.iY.size;have h3:=h.h0.len;have h4:=h.h1.len;have h5:=hg.kinds
 exact mW
theorem gG.hand{g:eY}{p:Pos}(h:gG g p)(s:Int):pD g (p.hand s):=by
 unfold Pos.hand;split
 ·exact h.h0
 ·exact h.h1
theorem gG.lV{g:eY}{p:Pos}(h:gG g p)(s:Int){l:List Int}(hl:pD g l):gG g (p.lV s l):=by
 unfold Pos.lV;split
 ·exact{ h with h0:=hl }
 ·exact{ h with h1:=hl }
def gG.yB{g:eY}{p:Pos}(h:gG g p){c v:Int}(hc:0≤c)(Xv:c<g.size)(hv:0≤v∧v≤2*g.kinds.length):gG g { p with cs:=pt p.cs c v }:=
 { h with
  size:=by dsimp only;rw[il hc (by rw[h.size];exact Xv)];exact h.size
  cs:=fun x hx=>by
   rcases RZ hx with rfl|hx
   ·exact hv
   ·exact h.cs x hx }
def pD.set{g:eY}{l:List Int}(h:pD g l){k v:Int}(hk:0≤k)(kL:k<l.length)(hv:0≤v∧v≤8∧(0<v→(gt g.kinds k).pN=true)):pD g (pt l k v) where
 len:=by rw[il hk kL];exact h.len
 at_ j hj Hy:=by
  rw[il hk kL]at Hy
  rw[qv hk kL hj]
  split
  ·rename_i e;subst e;exact hv
  ·exact h.at_ j hj Hy
def uI{n:Int}{g:eY}(h:n≤2*g.kinds.length)(hk:1≤g.kinds.length):fF n<g.kinds.length:=by
 unfold fF;split<;>omega
def CJ{n s:Int}(hs:0≤s)(h:jo n=s):0≤fF n∧1≤n∧n≤12∧n=kO (fF n) s:=by
 unfold jo at h;unfold fF kO
 split at h<;>rename_i e
 ·rw[if_pos e];omega
 ·omega
def Vs{r n k:Int}(h:0≤r)(h2:r<2 ^ k.toNat):0≤dropRight r n∧dropRight r n<2 ^ k.toNat:=by
 unfold dropRight
 split
 ·rename_i e
  unfold xx at e
  have hp:(0:Int)<2 ^ n.toNat:=Int.pow_pos (by decide)
  have:2 ^ n.toNat≤r:=by
   by_cases c:r<2 ^ n.toNat
   ·rw[Int.ediv_eq_zero_of_lt h c]at e;simp at e
   ·omega
  omega
 ·exact⟨h,h2⟩
theorem RH{s t:fg}:∀ {l:List Int},t∈oI s l→∃ c∈l,t = { s with cur:=c }
 | [],h=>by simp[oI]at h
 | c::r,h=>by
  unfold oI at h
  rcases av.1 h with h|h
  ·exact⟨c,by simp,h⟩
  ·split at h
   ·obtain⟨c',h1,h2⟩:=RH h;exact⟨c',by simp[h1],h2⟩
   ·cases h
def yH{g:eY}(hg:gh g){s:fg}(hs:jA g s){x:fe}(hx:A3 g x){t:fg}(h:t∈im g s x):jA g t:=by
 have hb:=hg.iY
 have nQ:s.cur<s.p.cs.length:=by rw[hs.p.size];exact hs.cur.2
 have hc:=hs.p.cs _ (ft hs.cur.1 nQ)
 unfold im at h
 dsimp only at h
 split at h
 ·split at h
  ·rename_i h0
   rw[List.mem_singleton]at h;subst h
   exact{ hs with cur:=⟨h0,(hb.to _ _ _).2⟩ }
  ·cases h
 split at h
 ·obtain⟨c,h1,rfl⟩:=RH h
  exact{ hs with cur:=LS hb h1 }
 iterate 3
  split at h
  ·split at h
   ·rw[List.mem_singleton]at h;subst h;exact hs
   ·cases h
 split at h
 ·unfold qo at h
  dsimp only at h
  split at h
  ·cases h
  rename_i e
  have e:=Decidable.not_not.1 e
  have iE:=hs.p.side
  obtain⟨m1,m2,m3,m4⟩:=CJ (by omega) e
  have hk:fF (gt s.p.cs s.cur)<g.kinds.length:=uI hc.2 hg.kinds.1
  have hp:gG g { s.p with cs:=pt s.p.cs s.cur 0 }:=hs.p.yB hs.cur.1 hs.cur.2 (by omega)
  split at h
  ·rw[List.mem_singleton]at h;subst h
   exact{ hs with p:=hp }
  rename_i kp
  split at h
  ·rename_i h8
   rw[List.mem_singleton]at h;subst h
   have hh:=hs.p.hand s.p.side
   have hl:=hh.len
   have ha:=hh.at_ _ m1 (by rw[hl];exact hk)
   exact{ hs with p:=hp.lV _ (hh.set m1 (by rw[hl];exact hk) (ql (fun _=>by simpa using kp))) }
  ·cases h
 split at h
 ·unfold qO at h
  dsimp only at h
  split at h
  ·cases h
  rename_i e
  simp only[not_or,eM]at e
  rw[List.mem_singleton]at h;subst h
  have h1:=hs.p.yB (c:=lg g s.p.side x.2 s.cur) (v:=gt s.p.cs s.cur) e.2.1 (hb.to _ _ _).2 hc
  exact{ hs with p:=h1.yB hs.cur.1 hs.cur.2 (by omega) }
 split at h
 ·rename_i e8
  rw[List.mem_singleton]at h;subst h
  have hk:0≤x.2∧x.2<g.kinds.length:=by have:=hx.ok;omega
  exact{ hs with kind:=hk }
 split at h
 ·split at h
  ·rw[List.mem_singleton]at h;subst h;exact hs
  ·cases h
 ·rw[List.mem_singleton]at h;subst h
  exact{ hs with p:={ hs.p with fH:=Vs hs.p.fH.1 hs.p.fH.2 } }
theorem II{g:eY}(hg:gh g):∀ {l:List fe} {a:List fg},(∀ x∈l,A3 g x)→(∀ s∈a,jA g s)→∀ s∈qm g l a,jA g s
 | [],_,_,h,s,hs=>h s hs
 | x::r,a,hx,h,s,hs=>by
  refine II (a:=a.flatMap fun s=>im g s x) hg (fun y hy=>hx y (by simp[hy])) (fun t ht=>?_) s hs
  obtain⟨u,hu,ht⟩:=bt.1 ht
  exact yH hg (h u hu) (hx x (by simp)) ht
theorem Ta{g:eY}:∀ {l:List fe} {a b:List fg},(∀ s,s∈a↔s∈b)→∀ s,s∈qm g l a↔s∈qm g l b
 | [],_,_,h,s=>h s
 | x::r,a,b,h,s=>Ta (l:=r) (fun t=>by simp only[bt,h]) s
def Dq{g:eY}(hg:gh g){p:Pos}(hp:gG g p){c:Int}(h0:0≤c)(h1:c<g.size)(hm:jo (gt p.cs c)=p.side):jA g (kF p c):=by
 have hc:=hp.cs _ (ft h0 (by rw[hp.size];exact h1))
 exact{ p:=hp.yB h0 h1 (by omega),kind:=⟨(CJ hp.side.1 hm).1,uI hc.2 hg.kinds.1⟩,cur:=⟨h0,h1⟩ }
def G9{g:eY}{s:fg}(hs:jA g s){side:Int}(h0:0≤side)(h1:side≤1){o:fV}(h:mN side s=some o):gG g o.p:=by
 unfold mN at h
 split at h
 ·cases h
  have:=hs.kind
  exact{ hs.p.yB hs.cur.1 hs.cur.2 (v:=kO s.kind side) (by unfold kO;omega)with side:=by dsimp only;omega }
 ·cases h
def Ix{g:eY}(hg:gh g){p:Pos}(hp:gG g p){o:fV}(h:o∈oJ g p):gG g o.p:=by
 obtain⟨c,hc,h⟩:=bt.1 h
 rw[ku,hp.size]at hc
 unfold oq at h
 split at h
 ·rename_i e
  obtain⟨l,hl,h⟩:=bt.1 h
  obtain⟨s,hs,h⟩:=b6.1 h
  have fm:=Dq hg hp hc.1 hc.2 e
  have hk:=hg.iG _ (ft (l:=g.kinds) fm.kind.1 fm.kind.2)
  exact G9 (II hg (hk.2 l hl).steps (fun t ht=>by rw[List.mem_singleton]at ht;subst ht;exact fm) s hs) hp.side.1 hp.side.2 h
 ·cases h
def Bs{g:eY}{p:Pos}(hp:gG g p){q:Pos}(h:u9 g p q):gG g q:=by
 obtain⟨k,c,h1,h2,h3,h4,h5,h6,rfl⟩:=h
 have hh:=hp.hand p.side
 have hl:=hh.len
 have ha:=hh.at_ k h1 (by omega)
 have hs:=hp.side
 have hz:=hp.size
 have vP:=(hp.lV p.side (hh.set h1 (v:=gt (p.hand p.side) k-1) (by omega) (ql (fun _=>ha.2.2 (by omega)))))
 have e:(p.lV p.side (pt (p.hand p.side) k (gt (p.hand p.side) k-1))).cs=p.cs:=by unfold Pos.lV;split<;>rfl
 have:=vP.yB (c:=c) (v:=kO k p.side) h3 (by omega) (by unfold kO;omega)
 rw[e]at this
 exact{ this with side:=by dsimp only[jv];omega }
def Mi{g:eY}(hg:gh g){p:Pos}(hp:gG g p){q:Pos}(h:pa g p q):gG g q:=by
 obtain⟨_,h⟩:=h
 split at h
 ·exact Ix hg hp h
 ·rcases h with⟨o,h,rfl⟩|h
  ·exact Ix hg hp h
  ·exact Bs hp h
end Go.AL
namespace Go.Proofs.YtmehofoficaelaaGreatDoor
open Go Go.AL Classical
set_option maxRecDepth 10000
def f95(n a b:Int):Wf T 253 [.i n,.i a,.i b] [] (Is (.b (decide (a≤n∧n≤b)))):=by
 refine Yg Ga ?_
 simp[Ga]
 (with_reducible repeat' first|refine Xk ?_<;>try simp|refine Xs ?_ ?_<;>intro h<;>(try intro h')<;>(try simp[h])<;>try omega|refine Xg ?_|omega)
def f94(a b:Int):Wf T 202 [.i a,.i b] [] (Is (.i (jZ a b))):=by
 refine Yg F' ?_
 simp[F']
 (with_reducible repeat' first|refine Xk ?_<;>try simp|refine Xs ?_ ?_<;>intro h<;>(try intro h')<;>(try simp[h])<;>try omega|refine Xg ?_|omega)
 all_goals (simp only[jZ];(repeat' split)<;>omega)
def f92{k s:Int}(hk:0≤k)(kL:k<6)(hs:0≤s)(mH:s≤1):Wf T 216 [.i k,.i s] [] (Is (.i (1+2*k+s))):=by
 refine Yg F8 ?_
 simp[F8]
 (with_reducible repeat' first|refine Xk ?_<;>try simp|refine Xs ?_ ?_<;>intro h<;>(try intro h')<;>(try simp[h])<;>try omega|refine Xg ?_|omega)
def f156{k s:Int}(hk:0≤k)(kL:k<6)(hs:0≤s)(mH:s≤1):Wf T 206 [.i k,.i s] [] (Is (.i (1+2*k+s))):=by
 refine Yg EN ?_
 simp[EN]
 refine fG.c rfl rfl (f95 _ _ _) (by simp[fE]) (by simp) ?_
 simp[show k≤5 by omega,hk]
 refine fG.c rfl rfl (f95 _ _ _) (by simp[fE]) (by simp) ?_
 simp[hs,mH]
 omega
def f25(l:List Int)(n:Int)(hl:l.length<2 ^ 40):Wf T 40 [dI l,.i n] [] (Is (.b (decide (n∈l)))):=by
 refine Yg Ft ?_
 simp[Ft]
 refine fh.i (α:=Int) [0,1,5] rfl (fun i=>[(0,dI l),(1,.i n),(5,.i i)]) (fun _=>[]) (fun i=>0≤i∧i≤l.length∧n ∉ l.take i.toNat) (fun i=>l.length-i.toNat) 0 (by simp) (by simp) rfl ?_
 rintro i ⟨h0,h1,h2⟩
 simp
 (with_reducible repeat' first|refine Xk ?_<;>try simp|refine Xs ?_ ?_<;>intro h<;>(try intro h')<;>(try simp[h])<;>try omega|refine Xg ?_|omega)
 ·have:=ft h0 ‹_›
  simp_all
 ·skip
  rw[iD h0 ‹_›]
  simp_all
  exact fun e=>h e.symm
 ·simpa[ky (by omega:(l.length:Int)≤i)]using h2
def f93(a b:List Int)(ha:a.length<2 ^ 40)(hb:b.length<2 ^ 40):Wf T 201 [dI a,dI b] [] (Is (.i (jS a b))):=by
 refine Yg F9 ?_
 simp[F9]
 refine fh.j (0:Int) (fun i=>[(0,dI a),(1,dI b),(5,.i i)]) (fun _=>_) (fun i=>0≤i∧i≤a.length∧i≤b.length∧a.take i.toNat=b.take i.toNat) (fun i=>a.length-i.toNat) ?_ (by simp) (by first|rfl|simp) rfl ?_
 ·simp
 rintro i ⟨h0,h1,zt,h2⟩
 have e:=RI h2 (by omega) (by omega)
 simp
 (with_reducible repeat' first|refine Xk ?_<;>try simp|refine Xs ?_ ?_<;>intro h<;>(try intro h')<;>(try simp[h])<;>try omega|refine Xg ?_|omega)
 ·skip
  rw[iD h0 (by omega),iD h0 (by omega),h2]
  simp_all
 ·refine Yt (f94 _ _) ?_
  simp
  rw[e,mM h0 ‹_›,mM h0 ‹_›,jS,if_neg (by assumption)]
 all_goals
  refine Yc (f94 _ _) ?_
  simp
  rw[e,LV (by simp only[aX];omega)]
  simp only[aX,jZ]
  (repeat' split)<;>omega
def f50(p q:Pos)(hp:Small p)(hq:Small q):Wf T 137 [dP p,dP q] [] (Is (.i (gR p q))):=by
 refine Yg FN ?_
 simp[FN]
 refine Yt (f93 _ _ hp.1 hq.1) ?_
 simp
 refine Yt (f93 _ _ hp.2.1 hq.2.1) ?_
 simp
 refine Yt (f93 _ _ hp.2.2 hq.2.2) ?_
 simp
 refine Yt (f94 _ _) ?_
 simp
 refine Yt (f94 _ _) ?_
 simp
 (refine fh.un ?_;(repeat' first|(refine kS.u ?_;simp;done)|(refine kS.u ?_;simp)|((with_reducible first|refine X2.d ?_ ?_|refine X2.a ?_ ?_|refine X2.o ?_ ?_|refine X2.b ?_ ?_)<;>intro h<;>(try simp[h]))|fail))
 all_goals simp_all [gR,ma]
def f51(n:Int):Wf T 203 [.i n] [] (Is (.agg [.i (fF n),.i (jo n)])):=by
 refine Yg FO ?_
 simp[FO]
 refine Yc (f95 _ _ _) ?_
 simp
 (with_reducible repeat' first|refine Xk ?_<;>try simp|refine Xs ?_ ?_<;>intro h<;>(try intro h')<;>(try simp[h])<;>try omega|refine Xg ?_|omega)
 ·rw[uO (by omega) (by omega) (by omega),jT (by omega)]
  simp[fF,jo];omega
 ·simp[fF,jo];omega
def f84(n:Int):Wf T 163 [.i n] [] (Is (.tup [.i (fF n),.i (jo n)])):=by
 refine Yg F3 ?_
 simp[F3]
 (with_reducible repeat' first|refine Xk ?_<;>try simp|refine Xs ?_ ?_<;>intro h<;>(try intro h')<;>(try simp[h])<;>try omega|refine Xg ?_|omega)
 ·simp[fF,jo];omega
 ·simp[fF,jo];omega
 ·rw[uO (by omega) (by omega) (by omega),jT (by omega)]
  simp[fF,jo];omega
def f251(g:eY)(hg:mY g)(s d c:Int):Wf T 295 [g.iY,.i s,.i d,.i c] [] (Is (.i (lg g s d c))):=by
 have hn:=hg.next
 have ht:=hg.iT
 refine Yg Fv ?_
 simp[Fv]
 (with_reducible repeat' first|refine Xk ?_<;>try simp|refine Xs ?_ ?_<;>intro h<;>(try intro h')<;>(try simp[h])<;>try omega|refine Xg ?_|omega)
 all_goals first
  | (simp only[lg];rw[if_pos (by omega)])
  | skip
 ·rename_i h
  have:=hg.turns d (by omega) (by omega)
  have hr:=hg.row (gt g.next (gt g.iT d)) (ft (by omega) (by omega))
  (with_reducible repeat' first|refine Xk ?_<;>try simp|refine Xs ?_ ?_<;>intro h<;>(try intro h')<;>(try simp[h])<;>try omega|refine Xg ?_|omega)
  simp only[lg];rw[if_neg (by omega)];simp
 ·rename_i h
  have hr:=hg.row (gt g.next d) (ft (by omega) (by omega))
  (with_reducible repeat' first|refine Xk ?_<;>try simp|refine Xs ?_ ?_<;>intro h<;>(try intro h')<;>(try simp[h])<;>try omega|refine Xg ?_|omega)
  simp only[lg];rw[if_neg (by omega)];simp[h]
def f240(g:eY)(hg:mY g)(s d c:Int):Wf T 322 [g.iY,.i s,.i d,.i c] [] (Is (.i (lg g s d c))):=by
 have hn:=hg.next
 have ht:=hg.iT
 refine Yg Fk ?_
 simp[Fk]
 (with_reducible repeat' first|refine Xk ?_<;>try simp|refine Xs ?_ ?_<;>intro h<;>(try intro h')<;>(try simp[h])<;>try omega|refine Xg ?_|omega)
 all_goals first
  | (simp only[lg];rw[if_pos (by omega)])
  | skip
 ·rename_i h
  have:=hg.turns d (by omega) (by omega)
  have hr:=hg.row (gt g.next (gt g.iT d)) (ft (by omega) (by omega))
  (with_reducible repeat' first|refine Xk ?_<;>try simp|refine Xs ?_ ?_<;>intro h<;>(try intro h')<;>(try simp[h])<;>try omega|refine Xg ?_|omega)
  simp only[lg];rw[if_neg (by omega)];simp
 ·rename_i h
  have hr:=hg.row (gt g.next d) (ft (by omega) (by omega))
  (with_reducible repeat' first|refine Xk ?_<;>try simp|refine Xs ?_ ?_<;>intro h<;>(try intro h')<;>(try simp[h])<;>try omega|refine Xg ?_|omega)
  simp only[lg];rw[if_neg (by omega)];simp[h]
def f110(p q:Pos)(hp:Small p)(hq:Small q):Wf T 162 [dP p,dP q] [] (Is (.b (decide (p=q)))):=by
 refine Yg DW ?_
 simp[DW]
 refine Yc (f50 p q hp hq) ?_
 simp
 rw[pe]
