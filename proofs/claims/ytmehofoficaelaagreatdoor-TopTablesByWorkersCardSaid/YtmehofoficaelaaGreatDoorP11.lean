/- 11 -/
import Derived.Test.YtmehofoficaelaaGreatDoorP10
import Derived.Test.YtmehofoficaelaaGreatDoorP08
set_option linter.all false
open Bool renaming true→aE,and_eq_true→di,false→dx
open List renaming all_eq_true→bf,mem_singleton→cc,length_map→eh,map_cons→ej,Perm→ek,map_nil→ep,range→ez,length→List.l
open Option renaming some→cp,none→er
open Int renaming toNat→Int.n
namespace Go.AL
def mf(a b:Int):Int:=if a<b then -1 else if a>b then 1 else 0
def l7:List Int->List Int->Int
 | [],[]=>0
 | [],_::_ => -1
 | _::_,[]=>1
 | a::l,b::m=>if a=b then l7 l m else mf a b
def pc:List Int->Int
 | []=>0
 | a::l=>if a≠0 then a else pc l
def jz(p q:Pos):Int:=pc [l7 p.cs q.cs,l7 p.h0 q.h0,l7 p.h1 q.h1,mf p.iw q.iw,mf p.side q.side]
def AI{a b:Int}:mf a b=0↔a=b:=by unfold mf;(repeat' split)<;>omega
def Hr{a b:Int}:mf a b<0↔a<b:=by unfold mf;(repeat' split)<;>omega
def RX(a b:Int):mf b a = - mf a b:=by unfold mf;(repeat' split)<;>omega
theorem RJ:∀ {a b:List Int},l7 a b=0↔a=b
 | [],[]=>by simp[l7]
 | [],_::_=>by simp[l7]
 | _::_,[]=>by simp[l7]
 | a::l,b::m=>by
  unfold l7;split
  .rename_i h;subst h;rw[RJ];simp
  .rename_i h;rw[AI];simp[h]
theorem RH:∀(a b:List Int),l7 b a = - l7 a b
 | [],[]=>rfl
 | [],_::_=>rfl
 | _::_,[]=>rfl
 | a::l,b::m=>by
  unfold l7
  by_cases h:a=b
  .subst h;simp[RH l m]
  .rw[if_neg h,if_neg (cP h),RX]
theorem RI:∀ {a b c:List Int},l7 a b<0->l7 b c<0->l7 a c<0
 | [],[],c,h,_=>by simp[l7]at h
 | _::_,[],c,h,_=>by simp[l7]at h
 | a,_::_,[],_,h=>by simp[l7]at h
 | [],_::_,_::_,_,_=>by simp[l7]
 | a::l,b::m,c::k,h1,h2=>by
  unfold l7 at *
  by_cases d:a=b
  .subst d;rw[if_pos rfl]at h1
   by_cases e2:a=c
   .subst e2;rw[if_pos rfl]at h2 ⊢;exact RI h1 h2
   .rw[if_neg e2]at h2 ⊢;exact h2
  .rw[if_neg d,Hr]at h1
   by_cases e2:b=c
   .subst e2;rw[if_neg d,Hr];exact h1
   .rw[if_neg e2,Hr]at h2;rw[if_neg U,Hr];omega
theorem T5:∀ {l:List Int},pc l=0↔∀x∈l,x=0
 | []=>by simp[pc]
 | a::l=>by
  unfold pc;split
  .rename_i h;simp[h]
  .rename_i h;rw[T5];simp_all
def tG{p q:Pos}:jz p q=0↔p=q:=by unfold jz;rw[T5];cases p;cases q;simp[RJ,AI]
def xH(p:Pos):jz p p=0:=tG.2 rfl
def xI(p q:Pos):jz q p = - jz p q:=by unfold jz pc;rw[RH p.cs,RH p.h0,RH p.h1,RX p.iw,RX p.side];simp only[pc];(repeat' split)<;>omega
def Du{A B C:Int}{a b c:List Int}(h1:A=0->C=B)(g:B=0->C=A)(f:A<0->B<0->C<0)(h:pc a<0->pc b<0->pc c<0):pc (A::a)<0->pc (B::b)<0->pc (C::c)<0:=by
 unfold pc;intro x y
 by_cases e:A=0
 .have:=h1 e;subst this;rw[if_neg (by simpa using e)]at x
  by_cases d:C=0
  .rw[if_neg (by simpa using d)]at y ⊢;exact h x y
  .rw[if_pos d]at y ⊢;exact y
 .rw[if_pos e]at x
  by_cases d:B=0
  .have:=g d;subst this;rw[if_pos e];exact x
  .rw[if_pos d]at y;have:=f x y;rw[if_pos U];exact this
def Bp{p q r:Pos}:jz p q<0->jz q r<0->jz p r<0:=by
 have key:∀a b c:List Int,l7 a b=0->l7 a c=l7 b c:=λa b c h=>by rw[RJ.1 h]
 have d:∀a b c:List Int,l7 b c=0->l7 a c=l7 a b:=λa b c h=>by rw[RJ.1 h]
 have n1:∀a b c:Int,mf a b=0->mf a c=mf b c:=λa b c h=>by rw[AI.1 h]
 have n2:∀a b c:Int,mf b c=0->mf a c=mf a b:=λa b c h=>by rw[AI.1 h]
 have e:∀a b c:Int,mf a b<0->mf b c<0->mf a c<0:=λa b c=>by simp only[Hr];omega
 unfold jz;refine Du (key _ _ _) (d _ _ _) RI (Du (key _ _ _) (d _ _ _) RI (Du (key _ _ _) (d _ _ _) RI (Du (n1 _ _ _) (n2 _ _ _) (e _ _ _) (Du (n1 _ _ _) (n2 _ _ _) (e _ _ _) λh=>?_))));simp[pc]at h
def acP{a b:List Int}:∀ {i:Nat},a.take i=b.take i->i<=a.l->i<=b.l->l7 a b=l7 (a.drop i) (b.drop i):=by
 intro i
 induction i generalizing a b with
 | zero=>intro _ _ _;rfl
 | succ i d=>
  intro h h1 c
  cases a with
  | nil=>simp at h1
  | cons x a=>
   cases b with
   | nil=>simp at c
   | cons y b=>
    simp only[dy,cN]at h;simp only[aF]at h1 c;simp only[List.drop_succ_cons,l7,h.1,if_true];exact d h.2 U U
def Wd{a b:List Int}(h:a.l=0\/b.l=0):l7 a b=mf a.l b.l:=by
 cases a<;>cases b<;>simp_all [l7,mf]
 all_goals omega
def ZQ{p q r:Pos}(h1:jz p q<=0)(c:jz q r<=0):jz p r<=0:=by
 by_cases a:jz p q=0
 .rw[tG.1 a];exact c
 .by_cases b:jz q r=0
  .rw[<-tG.1 b];exact h1
  .exact fg (Bp (U:jz p q<0) (U:jz q r<0))
def WS(l:List Pos):Prop:=l.Pairwise λx y=>jz x y<=0
def Small(p:Pos):Prop:=p.cs.l<2 ^ 40/\p.h0.l<2 ^ 40/\p.h1.l<2 ^ 40
def mr(l:List Pos):Prop:=∀i:Int,1<=i->i<l.l->jz (gt l (i-1)) (gt l i)<0
theorem mr.lt{l:List Pos}(h:mr l){i:Int}(h0:0<=i):∀ {n:Nat},i<n->(n:Int)<l.l->jz (gt l i) (gt l n)<0
 | 0,h1,_=>U
 | n+1,h1,h2=>by
  have:=h (n+1) U U;rw[eD]at this
  by_cases e:i=n
  .subst e;exact this
  .exact Bp (h.lt h0 U U) this
def mr.le{l:List Pos}(h:mr l){i j:Int}(h0:0<=i)(h1:i<j)(a:j<l.l):jz (gt l i) (gt l j)<0:=by have:=h.lt h0 (n:=j.n) U U;rwa [Int.toNat_of_nonneg U]at this
def mr.inj{l:List Pos}(h:mr l){i j:Int}(h0:0<=i)(h1:i<l.l)(d:0<=j)(c:j<l.l)(e:gt l i=gt l j):i=j:=by
 by_cases a:i<j
 .have:=h.le h0 a c;rw[e,xH]at this;omega
 .by_cases b:j<i
  .have:=h.le d b h1;rw[e,xH]at this;omega
  .omega
def tH(l:List Pos)(p:Pos):Int:=if p∈l then(l.idxOf p:Int)else -1
def aa8{l:List Pos}{p:Pos}(h:p ∉ l):tH l p = -1:=if_neg h
def JE{l:List Pos}{p:Pos}(h:p∈l):0<=tH l p/\tH l p<l.l/\gt l (tH l p)=p:=by unfold tH;rw[if_pos h];have hi:l.idxOf p<l.l:=List.idxOf_lt_length_iff.2 h;refine oO ?_;rw[w8 hi];exact List.getElem_idxOf hi
def ajq{l:List Pos}(hs:mr l){i:Int}(h0:0<=i)(h1:i<l.l):tH l (gt l i)=i:=by obtain⟨a,b,c⟩:=JE (ij h0 h1);exact hs.inj a b h0 h1 c
end Go.AL
namespace Go.AL
open Go
def pt{α:Type}(l:List α)(n:Int)(v:α):List α:=l.take n.n++v::l.drop (n.n+1)
section
variable{α:Type}[Inhabited α]{l:List α}{n k:Int}{v:α}
theorem yn(h0:0<=n)(h:n<l.l):pt l n v=l.set n.n v:=by rw[pt,bX,if_pos U]
theorem jy(h0:0<=n)(h:n<l.l):(pt l n v).l=l.l:=by rw[yn h0 h,av]
theorem mY(h0:0<=n)(h:n<l.l)(a:0<=k):gt (pt l n v) k=if k=n then v else gt l k:=by
 rw[yn h0 h];unfold gt;simp only[List.getD_eq_getElem?_getD,bI]
 by_cases e:k=n
 .subst e;rw[if_pos rfl,if_pos rfl,if_pos U];rfl
 .rw[if_neg U,if_neg e]
theorem Dx(h0:0<=n)(h:n<l.l):gt (pt l n v) n=v:=by rw[mY h0 h h0,if_pos rfl]
theorem Dy(h0:0<=n)(h:n<l.l)(a:0<=k)(e:k≠n):gt (pt l n v) k=gt l k:=by rw[mY h0 h a,if_neg e]
theorem adi{x:α}(h:x∈pt l n v):x=v\/x∈l:=by
 unfold pt at h;simp only[ai,ak]at h;rcases h with h|h|h
 .exact .inr (aQ h)
 .exact .inl h
 .exact .inr (bO h)
end
@[simp] theorem aC1{α:Type}(l:List α)(n:Int)(v:α):l.take n.n++v::l.drop (n.n+1)=pt l n v:=(rfl)
def mK(g:gY)(s d c:Int):Int:=
 if s<0\/s>1\/d<0\/d>=g.next.l\/c<0\/c>=g.size then -1 else gt (gt g.next (if s=1 then gt g.jC d else d)) c
structure qp(g:gY):Prop where
 size:1<=g.size/\g.size<=9
 next:g.next.l=8
 row:∀l∈g.next,(l.l:Int)=g.size/\∀x∈l,-1<=x/\x<g.size
 jC:g.jC.l=8
 turns:∀d,0<=d->d<8->0<=gt g.jC d/\gt g.jC d<8/\gt g.jC (gt g.jC d)=d
def qp.to{g:gY}(h:qp g)(s d c:Int) : -1<=mK g s d c/\mK g s d c<g.size:=by
 have:=h.size;unfold mK;split
 .omega
 .rename_i e;have f:=h.next
  simp only[not_or,ff,Int.not_le,gt_iff_lt,ge_iff_le]at e
  have b:0<=(if s=1 then gt g.jC d else d)/\(if s=1 then gt g.jC d else d)<8:=by
   split
   .have:=h.turns d U U;omega
   .omega
  have a:=h.row _ (ij (l:=g.next) b.1 U);exact a.2 _ (ij U U)
structure C3(g:gY)(x:gT):Prop where
 ok:((x.1=1\/x.1=2\/x.1=7)/\0<=x.2/\x.2<8)\/(3<=x.1/\x.1<=6/\x.2=0)\/(x.1=8/\0<=x.2/\x.2<g.kinds.l)\/((x.1=9\/x.1=10)/\0<=x.2/\x.2<g.iw)
def oj(l:List gT)(op:Int):Int:=(l.countP λx=>x.1=op:Nat)
structure zK(g:gY)(l:List gT):Prop where
 len:1<=l.l/\l.l<=8
 steps:∀x∈l,C3 g x
 wQ:oj l 6<=2
 push:oj l 7<=1
 I2:oj l 8<=1
structure Fe(g:gY)(c:Clause):Prop where
 ok:(c.cond=1/\0<=c.kind/\c.kind<g.kinds.l/\c.n=0)\/(c.cond=2/\0<=c.kind/\c.kind<g.kinds.l/\0<=c.n/\c.n<g.size)\/(c.cond=3/\c.kind=0/\0<=c.n/\c.n<=64)
 out:1<=c.out/\c.out<=3
def kindName(n:Int):ByteArray:=if n=0 then⟨#[97]⟩else⟨#[98,101,101]⟩
structure iE(g:gY):Prop where
 kC:qp g
 kinds:1<=g.kinds.l/\g.kinds.l<=2
 names:∀k:Int,0<=k->k<g.kinds.l->(gt g.kinds k).name=kindName k
 jv:∀k∈g.kinds,k.jv.l<=4/\∀l∈k.jv,zK g l
 iw:0<=g.iw/\g.iw<=2
 clauses:g.clauses.l<=3
 clause:∀c∈g.clauses,Fe g c
 blocked:1<=g.blocked/\g.blocked<=3
 oV:1<=g.oV/\g.oV<=3
structure ua(g:gY)(l:List Int):Prop where
 len:l.l=g.kinds.l
 at_:∀k:Int,0<=k->k<l.l->0<=gt l k/\gt l k<=8/\(0<gt l k->(gt g.kinds k).keep=aE)
structure ja(g:gY)(p:Pos):Prop where
 size:(p.cs.l:Int)=g.size
 h0:ua g p.h0
 h1:ua g p.h1
 iw:0<=p.iw/\p.iw<2 ^ g.iw.n
 side:0<=p.side/\p.side<=1
 cs:∀x∈p.cs,0<=x/\x<=2*g.kinds.l
def iC(n:Int):Int:=if 1<=n/\n<=12 then(n-1) / 2 else -1
def lg(n:Int):Int:=if 1<=n/\n<=12 then(n-1) % 2 else -1
def lQ(k s:Int):Int:=1+2*k+s
def wE(g:gY)(s d c:Int):Nat->Int->List Int->List Int
 | 0,_,out=>out
 | n+1,x,out=>if 0<=x/\x≠c/\x ∉ out then wE g s d c n (mK g s d x) (out ++ [x])else out
def mI(g:gY)(s d c:Int):List Int:=wE g s d c 10 (mK g s d c) []
theorem acM{g:gY}(hg:qp g){s d c:Int}:∀(n:Nat) (x:Int) (out:List Int),x<g.size->(∀y∈out,0<=y/\y<g.size)->∀y∈wE g s d c n x out,0<=y/\y<g.size
 | 0,x,out,_,h,y,hy=>h y hy
 | n+1,x,out,hx,h,y,hy=>by
  unfold wE at hy;split at hy
  .rename_i e;refine acM hg n _ _ (hg.to _ _ _).2 (λz a=>?_) y hy;simp only[ai,cc]at a;rcases a with a|a
   .exact h z a
   .omega
  .exact h y hy
def V9{g:gY}(hg:qp g){s d c y:Int}(h:y∈mI g s d c):0<=y/\y<g.size:=acM hg _ _ _ (hg.to _ _ _).2 gP y h
theorem yl:∀(n:Nat) (l:List Int),l.Nodup->(∀y∈l,0<=y/\y<n)->l.l<=n
 | 0,[],_,_=>gP
 | 0,a::l,_,h=>by have:=h a gP;omega
 | n+1,l,hn,h=>by
  by_cases e:(n:Int)∈l
  .have h1:(l.erase (n:Int)).l<=n:=yl n _ (hn.erase _) λy b=>by have:=(hn.mem_erase_iff).1 b;have:=h y this.2;omega
   rw[gj e]at h1;omega
  .have:=yl n l hn λy b=>by have:=h y b;have:y≠n:=λe2=>e (e2▸b);omega
   omega
structure il where
 p:Pos
 kind:Int
 cur:Int
 kP:Bool
 deriving DecidableEq,Inhabited
def il.cells(s:il):List D:=[dI s.p.cs,dI s.p.h0,dI s.p.h1,.i s.p.iw,.i s.p.side,.i s.kind,.i s.cur,.b s.kP]
structure lj(g:gY)(s:il):Prop where
 p:ja g s.p
 kind:0<=s.kind/\s.kind<g.kinds.l
 cur:0<=s.cur/\s.cur<g.size
def Pos.hand(p:Pos)(s:Int):List Int:=if s=0 then p.h0 else p.h1
def Pos.mW(p:Pos)(s:Int)(l:List Int):Pos:=if s=0 then{ p with h0:=l }else{ p with h1:=l }
def sN(s:il):List Int->List il
 | []=>[]
 | c::r=>{ s with cur:=c }::if gt s.p.cs c=0 then sN s r else []
def uK(g:gY)(s:il):List il:=
 let c:=gt s.p.cs s.cur
 if lg c≠1-s.p.side then []else
  let p:={ s.p with cs:=pt s.p.cs s.cur 0 }
  if (gt g.kinds (iC c)).keep=dx then [{ s with p:=p,kP:=aE }]else
   let n:=gt (s.p.hand s.p.side) (iC c)+1
   if n<=8 then [{ s with p:=p.mW s.p.side (pt (s.p.hand s.p.side) (iC c) n),kP:=aE }]else []
def vE(g:gY)(s:il)(n:Int):List il:=
 let to:=mK g s.p.side n s.cur
 if gt s.p.cs s.cur=0\/to<0\/gt s.p.cs to≠0 then []else
  [{ s with p:={ s.p with cs:=pt (pt s.p.cs to (gt s.p.cs s.cur)) s.cur 0 } }]
def DN(r n:Int):Prop:=r / 2 ^ n.n % 2=1
instance(r n:Int):Decidable (DN r n):=by unfold DN;infer_instance
def dropRight(r n:Int):Int:=if DN r n then r-2 ^ n.n else r
def Xo{b:Int}(h0:0<=b)(h:b<=4):AV .i64 1 b=2 ^ b.n:=by have:b=0\/b=1\/b=2\/b=3\/b=4:=U;rcases this with rfl|rfl|rfl|rfl|rfl<;>decide
def adt{r:Int}(h0:0<=r)(h:r<16):∃i:Fin 16,r=(i.val:Int):=⟨⟨r.n,U⟩,iz⟩
def adu{r:Int}(h0:0<=r)(h:r<4):∃i:Fin 4,r=(i.val:Int):=⟨⟨r.n,U⟩,iz⟩
def aei:∀(i:Fin 16) (k:Fin 4),(bits .and .i64 (nV .i64 (i.val:Int) (k.val:Int)) 1=1↔DN (i.val:Int) (k.val:Int))/\bits .andNot .i64 (i.val:Int) (AV .i64 1 (k.val:Int))=dropRight (i.val:Int) (k.val:Int):=by decide +kernel
def aeg{r n:Int}(h0:0<=r)(h1:r<16)(b:0<=n)(a:n<4):(bits .and .i64 (nV .i64 r n) 1=1)=DN r n:=by obtain⟨i,rfl⟩:=adt h0 h1;obtain⟨k,rfl⟩:=adu b a;exact propext (aei i k).1
def aeh{r n:Int}(h0:0<=r)(h1:r<16)(b:0<=n)(a:n<4):bits .andNot .i64 r (AV .i64 1 n)=dropRight r n:=by obtain⟨i,rfl⟩:=adt h0 h1;obtain⟨k,rfl⟩:=adu b a;exact(aei i k).2
def Hz{b:Int}(h0:0<=b)(h:b<=4):(2:Int) ^ b.n<=16:=by have:b=0\/b=1\/b=2\/b=3\/b=4:=U;rcases this with rfl|rfl|rfl|rfl|rfl<;>decide
def jT(g:gY)(s:il)(x:gT):List il:=
 let c:=gt s.p.cs s.cur
 if x.1=1 then(let to:=mK g s.p.side x.2 s.cur;if 0<=to then [{ s with cur:=to }]else [])
 else if x.1=2 then sN s (mI g s.p.side x.2 s.cur)
 else if x.1=3 then(if c=0 then [s]else [])
 else if x.1=4 then(if lg c=1-s.p.side then [s]else [])
 else if x.1=5 then(if lg c=s.p.side then [s]else [])
 else if x.1=6 then uK g s
 else if x.1=7 then vE g s x.2
 else if x.1=8 then [{ s with kind:=x.2 }]
 else if x.1=9 then(if DN s.p.iw x.2 then [s]else [])
 else [{ s with p:={ s.p with iw:=dropRight s.p.iw x.2 } }]
def tY(g:gY):List gT->List il->List il
 | [],l=>l
 | x::r,l=>tY g r (l.flatMap λs=>jT g s x)
def mo(p:Pos)(cell:Int):il:={ p:={ p with cs:=pt p.cs cell 0 },kind:=iC (gt p.cs cell),cur:=cell,kP:=dx }
structure iJ where
 p:Pos
 kP:Bool
 deriving DecidableEq,Inhabited
def iJ.cells(o:iJ):List D:=[dI o.p.cs,dI o.p.h0,dI o.p.h1,.i o.p.iw,.i o.p.side,.b o.kP]
def pT(side:Int)(s:il):Option iJ:=
 if gt s.p.cs s.cur=0 then cp { p:={ s.p with cs:=pt s.p.cs s.cur (lQ s.kind side),side:=1-side },kP:=s.kP }else er
def xp(g:gY)(p:Pos)(cell:Int)(l:List gT):List iJ:=(tY g l [mo p cell]).filterMap (pT p.side)
def upto(n:Nat):List Int:=(ez n).map λk:Nat=>(k:Int)
def l8{n:Nat}{k:Int}:k∈upto n↔0<=k/\k<n:=by
 simp only[upto,aj,aZ];constructor
 .rintro⟨a,h,rfl⟩;omega
 .intro h;exact⟨k.n,U,U⟩
def rS(g:gY)(p:Pos)(c:Int):List iJ:=if lg (gt p.cs c)=p.side then(gt g.kinds (iC (gt p.cs c))).jv.flatMap (xp g p c)else []
def su(g:gY)(p:Pos):List iJ:=(upto p.cs.l).flatMap (rS g p)
def lx(p:Pos)(k c:Int):Pos:={ p.mW p.side (pt (p.hand p.side) k (gt (p.hand p.side) k-1))with cs:=pt p.cs c (lQ k p.side),side:=1-p.side }
def zI(g:gY)(p q:Pos):Prop:=∃k c:Int,0<=k/\k<g.kinds.l/\0<=c/\c<p.cs.l/\gt (p.hand p.side) k≠0/\gt p.cs c=0/\q=lx p k c
def uE(p:Pos)(side kind:Int):Int:=(p.cs.countP λc=>0<=iC c/\lg c=side/\(kind<0\/iC c=kind):Nat)
def mj(p:Pos)(c:Clause):Prop:=
 if c.cond=1 then uE p p.side c.kind=0 else if c.cond=2 then gt p.cs c.n=lQ c.kind (1-p.side)else uE p p.side (-1)<=c.n
def sP(g:gY)(p q:Pos):Prop:=
 (∀c∈g.clauses,¬mj p c) /\
 if g.me=aE/\(∃o∈su g p,o.kP=aE)then⟨q,aE⟩∈su g p else(∃o∈su g p,o.p=q)\/zI g p q
def ja.small{g:gY}(hg:iE g){p:Pos}(h:ja g p):Small p:=by have h1:=h.size;have d:=hg.kC.size;have c:=h.h0.len;have b:=h.h1.len;have a:=hg.kinds;exact nE
theorem ja.hand{g:gY}{p:Pos}(h:ja g p)(s:Int):ua g (p.hand s):=by
 unfold Pos.hand;split
 .exact h.h0
 .exact h.h1
theorem ja.mW{g:gY}{p:Pos}(h:ja g p)(s:Int){l:List Int}(hl:ua g l):ja g (p.mW s l):=by
 unfold Pos.mW;split
 .exact{ h with h0:=hl }
 .exact{ h with h1:=hl }
def ja.CG{g:gY}{p:Pos}(h:ja g p){c v:Int}(e:0<=c)(b:c<g.size)(d:0<=v/\v<=2*g.kinds.l):ja g { p with cs:=pt p.cs c v }:=
 { h with
  size:=by dsimp only;rw[jy e (by rw[h.size];exact b)];exact h.size
  cs:=λx a=>by
   rcases adi a with rfl|a
   .exact d
   .exact h.cs x a }
def ua.set{g:gY}{l:List Int}(h:ua g l){k v:Int}(b:0<=k)(a:k<l.l)(c:0<=v/\v<=8/\(0<v->(gt g.kinds k).keep=aE)):ua g (pt l k v) where
 len:=by rw[jy b a];exact h.len
 at_ j hj Q0:=by
  rw[jy b a]at Q0;rw[mY b a hj];split
  .rename_i e;subst e;exact c
  .exact h.at_ j hj Q0
def zq{n:Int}{g:gY}(h:n<=2*g.kinds.l)(a:1<=g.kinds.l):iC n<g.kinds.l:=by unfold iC;split<;>omega
def Eu{n s:Int}(hs:0<=s)(h:lg n=s):0<=iC n/\1<=n/\n<=12/\n=lQ (iC n) s:=by
 unfold lg at h;unfold iC lQ;split at h<;>rename_i e
 .rw[if_pos e];omega
 .omega
def ahs{r n k:Int}(h:0<=r)(a:r<2 ^ k.n):0<=dropRight r n/\dropRight r n<2 ^ k.n:=by
 unfold dropRight;split
 .rename_i e;unfold DN at e;have b:(0:Int)<2 ^ n.n:=Int.pow_pos jo
  have:2 ^ n.n<=r:=by
   by_cases c:r<2 ^ n.n
   .rw[eU h c]at e;simp at e
   .omega
  omega
 .exact⟨h,a⟩
theorem Wb{s t:il}:∀ {l:List Int},t∈sN s l->∃c∈l,t = { s with cur:=c }
 | [],h=>by simp[sN]at h
 | c::r,h=>by
  unfold sN at h;rcases ak.1 h with h|h
  .exact⟨c,gP,h⟩
  .split at h
   .obtain⟨c',h1,a⟩:=Wb h;exact⟨c',by simp[h1],a⟩
   .cases h
def CJ{g:gY}(hg:iE g){s:il}(hs:lj g s){x:gT}(k:C3 g x){t:il}(h:t∈jT g s x):lj g t:=by
 have d:=hg.kC;have j:s.cur<s.p.cs.l:=by rw[hs.p.size];exact hs.cur.2
 have i:=hs.p.cs _ (ij hs.cur.1 j);unfold jT at h;dsimp only at h;split at h
 .split at h
  .rename_i h0;rw[cc]at h;subst h;exact{ hs with cur:=⟨h0,(d.to _ _ _).2⟩ }
  .cases h
 split at h
 .obtain⟨c,h1,rfl⟩:=Wb h;exact{ hs with cur:=V9 d h1 }
 iterate 3
  split at h
  .split at h
   .rw[cc]at h;subst h;exact hs
   .cases h
 split at h
 .unfold uK at h;dsimp only at h;split at h
  .cases h
  rename_i e;have e:=fM.1 e;have l:=hs.p.side;obtain⟨m1,m2,m3,m4⟩:=Eu U e;have a:iC (gt s.p.cs s.cur)<g.kinds.l:=zq i.2 hg.kinds.1;have f:ja g { s.p with cs:=pt s.p.cs s.cur 0 }:=hs.p.CG hs.cur.1 hs.cur.2 U;split at h
  .rw[cc]at h;subst h;exact{ hs with p:=f }
  rename_i kp;split at h
  .rename_i n;rw[cc]at h;subst h;have b:=hs.p.hand s.p.side;have hl:=b.len;have m:=b.at_ _ m1 (by rw[hl];exact a);exact{ hs with p:=f.mW _ (b.set m1 (by rw[hl];exact a) (oO (λ_=>by simpa using kp))) }
  .cases h
 split at h
 .unfold vE at h;dsimp only at h;split at h
  .cases h
  rename_i e;simp only[not_or,ff]at e;rw[cc]at h;subst h;have h1:=hs.p.CG (c:=mK g s.p.side x.2 s.cur) (v:=gt s.p.cs s.cur) e.2.1 (d.to _ _ _).2 i;exact{ hs with p:=h1.CG hs.cur.1 hs.cur.2 U }
 split at h
 .rename_i o;rw[cc]at h;subst h;have a:0<=x.2/\x.2<g.kinds.l:=by have:=k.ok;omega
  exact{ hs with kind:=a }
 split at h
 .split at h
  .rw[cc]at h;subst h;exact hs
  .cases h
 .rw[cc]at h;subst h;exact{ hs with p:={ hs.p with iw:=ahs hs.p.iw.1 hs.p.iw.2 } }
theorem Sm{g:gY}(hg:iE g):∀ {l:List gT} {a:List il},(∀x∈l,C3 g x)->(∀s∈a,lj g s)->∀s∈tY g l a,lj g s
 | [],_,_,h,s,hs=>h s hs
 | x::r,a,hx,h,s,hs=>by refine Sm (a:=a.flatMap λs=>jT g s x) hg (λy c=>hx y (by simp[c])) (λt b=>?_) s hs;obtain⟨u,d,b⟩:=bG.1 b;exact CJ hg (h u d) (hx x gP) b
theorem aez{g:gY}:∀ {l:List gT} {a b:List il},(∀s,s∈a↔s∈b)->∀s,s∈tY g l a↔s∈tY g l b
 | [],_,_,h,s=>h s
 | x::r,a,b,h,s=>aez (l:=r) (λt=>by simp only[bG,h]) s
def HY{g:gY}(hg:iE g){p:Pos}(a:ja g p){c:Int}(h0:0<=c)(h1:c<g.size)(b:lg (gt p.cs c)=p.side):lj g (mo p c):=by have d:=a.cs _ (ij h0 (by rw[a.size];exact h1));exact{ p:=a.CG h0 h1 U,kind:=⟨(Eu a.side.1 b).1,zq d.2 hg.kinds.1⟩,cur:=⟨h0,h1⟩ }
def Ql{g:gY}{s:il}(hs:lj g s){side:Int}(h0:0<=side)(h1:side<=1){o:iJ}(h:pT side s=cp o):ja g o.p:=by
 unfold pT at h;split at h
 .cases h;have:=hs.kind;exact{ hs.p.CG hs.cur.1 hs.cur.2 (v:=lQ s.kind side) (by unfold lQ;omega)with side:=by dsimp only;omega }
 .cases h
def R9{g:gY}(hg:iE g){p:Pos}(a:ja g p){o:iJ}(h:o∈su g p):ja g o.p:=by
 obtain⟨c,d,h⟩:=bG.1 h;rw[l8,a.size]at d;unfold rS at h;split at h
 .rename_i e;obtain⟨l,hl,h⟩:=bG.1 h;obtain⟨s,hs,h⟩:=c9.1 h;have b:=HY hg a d.1 d.2 e;have i:=hg.jv _ (ij (l:=g.kinds) b.kind.1 b.kind.2);exact Ql (Sm hg (i.2 l hl).steps (λt f=>by rw[cc]at f;subst f;exact b) s hs) a.side.1 a.side.2 h
 .cases h
def Jt{g:gY}{p:Pos}(a:ja g p){q:Pos}(h:zI g p q):ja g q:=by
 obtain⟨k,c,h1,o,i,n,m,l,rfl⟩:=h;have b:=a.hand p.side;have hl:=b.len;have f:=b.at_ k h1 U;have hs:=a.side;have j:=a.size;have d:=(a.mW p.side (b.set h1 (v:=gt (p.hand p.side) k-1) U (oO (λ_=>f.2.2 U))));have e:(p.mW p.side (pt (p.hand p.side) k (gt (p.hand p.side) k-1))).cs=p.cs:=by unfold Pos.mW;split<;>rfl
 have:=d.CG (c:=c) (v:=lQ k p.side) i U (by unfold lQ;omega);rw[e]at this;exact{ this with side:=by dsimp only[lx];omega }
def WG{g:gY}(hg:iE g){p:Pos}(a:ja g p){q:Pos}(h:sP g p q):ja g q:=by
 obtain⟨_,h⟩:=h;split at h
 .exact R9 hg a h
 .rcases h with⟨o,h,rfl⟩|h
  .exact R9 hg a h
  .exact Jt a h
end Go.AL
namespace Go.Proofs.YtmehofoficaelaaGreatDoor
open Go Go.AL Classical
set_option maxRecDepth 10000
def f95(n a b:Int):Wf T 253 [.i n,.i a,.i b] [] (Is (.b (decide (a<=n/\n<=b)))):=by refine Yg Pk ?_;simp[Pk];exact oS
def f94(a b:Int):Wf T 202 [.i a,.i b] [] (Is (.i (mf a b))):=by
 refine Yg Pj ?_;simp[Pj];(with_reducible repeat' first|refine Xk ?_<;>try simp|refine Xs ?_ ?_<;>intro h<;>(try intro c)<;>(try simp[h])<;>try omega|refine Xg ?_|omega)
 all_goals (simp only[mf];(repeat' split)<;>omega)
def f92{k s:Int}(c:0<=k)(b:k<6)(hs:0<=s)(a:s<=1):Wf T 216 [.i k,.i s] [] (Is (.i (1+2*k+s))):=by refine Yg Pg ?_;simp[Pg];exact oS
def f156{k s:Int}(b:0<=k)(c:k<6)(hs:0<=s)(a:s<=1):Wf T 206 [.i k,.i s] [] (Is (.i (1+2*k+s))):=by refine Yg NU ?_;simp[NU];refine ik.c rfl rfl (f95 _ _ _) (by simp[iB]) gP ?_;simp[(U:k<=5),b];refine ik.c rfl rfl (f95 _ _ _) (by simp[iB]) gP ?_;simp[hs,a];omega
def f25(l:List Int)(n:Int)(hl:l.l<2 ^ 40):Wf T 40 [dI l,.i n] [] (Is (.b (decide (n∈l)))):=by
 refine Yg OE ?_;simp[OE];refine gZ.i (α:=Int) [0,1,5] rfl (λi=>[(0,dI l),(1,.i n),(5,.i i)]) (λ_=>[]) (λi=>0<=i/\i<=l.l/\n ∉ l.take i.n) (λi=>l.l-i.n) 0 gP gP rfl ?_;rintro i ⟨h0,h1,a⟩;simp;(with_reducible repeat' first|refine Xk ?_<;>try simp|refine Xs ?_ ?_<;>intro h<;>(try intro b)<;>(try simp[h])<;>try omega|refine Xg ?_|omega)
 .have:=ij h0 ‹_›;simp_all
 .skip;rw[jP h0 ‹_›];simp_all;exactλe=>h e.symm
 .simpa[nf (by omega:(l.l:Int)<=i)]using a
def f93(a b:List Int)(g:a.l<2 ^ 40)(f:b.l<2 ^ 40):Wf T 201 [dI a,dI b] [] (Is (.i (l7 a b))):=by
 refine Yg Ph ?_;simp[Ph];refine gZ.j (0:Int) (λi=>[(0,dI a),(1,dI b),(5,.i i)]) (λ_=>_) (λi=>0<=i/\i<=a.l/\i<=b.l/\a.take i.n=b.take i.n) (λi=>a.l-i.n) ?_ gP yB rfl ?_
 .simp
 rintro i ⟨h0,h1,d,c⟩;have e:=acP c U U;simp;(with_reducible repeat' first|refine Xk ?_<;>try simp|refine Xs ?_ ?_<;>intro h<;>(try intro j)<;>(try simp[h])<;>try omega|refine Xg ?_|omega)
 .skip;rw[jP h0 U,jP h0 U,c];simp_all
 .refine Yt (f94 _ _) ?_;simp;rw[e,pa h0 ‹_›,pa h0 ‹_›,l7,if_neg km]
 all_goals
  refine Yc (f94 _ _) ?_;simp;rw[e,Wd (by simp only[aU];omega)];simp only[aU,mf];(repeat' split)<;>omega
def f50(p q:Pos)(b:Small p)(a:Small q):Wf T 137 [dP p,dP q] [] (Is (.i (jz p q))):=by
 refine Yg OZ ?_;simp[OZ];refine Yt (f93 _ _ b.1 a.1) ?_;simp;refine Yt (f93 _ _ b.2.1 a.2.1) ?_;simp;refine Yt (f93 _ _ b.2.2 a.2.2) ?_;simp;refine Yt (f94 _ _) ?_;simp;refine Yt (f94 _ _) ?_;simp;(refine gZ.un ?_;(repeat' first|(refine kT.u ?_;simp;done)|(refine kT.u ?_;simp)|((with_reducible first|refine X2.d ?_ ?_|refine X2.a ?_ ?_|refine X2.o ?_ ?_|refine X2.b ?_ ?_)<;>intro h<;>(try simp[h]))|fail))
 all_goals simp_all [jz,pc]
def f51(n:Int):Wf T 203 [.i n] [] (Is (.agg [.i (iC n),.i (lg n)])):=by
 refine Yg O0 ?_;simp[O0];refine Yc (f95 _ _ _) ?_;simp;(with_reducible repeat' first|refine Xk ?_<;>try simp|refine Xs ?_ ?_<;>intro h<;>(try intro a)<;>(try simp[h])<;>try omega|refine Xg ?_|omega)
 .rw[xq U U U,kK U];simp[iC,lg];omega
 .simp[iC,lg];omega
def f84(n:Int):Wf T 163 [.i n] [] (Is (.tup [.i (iC n),.i (lg n)])):=by
 refine Yg Pb ?_;simp[Pb];(with_reducible repeat' first|refine Xk ?_<;>try simp|refine Xs ?_ ?_<;>intro h<;>(try intro a)<;>(try simp[h])<;>try omega|refine Xg ?_|omega)
 .simp[iC,lg];omega
 .simp[iC,lg];omega
 .rw[xq U U U,kK U];simp[iC,lg];omega
def f251(g:gY)(hg:qp g)(s d c:Int):Wf T 295 [g.kC,.i s,.i d,.i c] [] (Is (.i (mK g s d c))):=by
 have e:=hg.next
 have b:=hg.jC;refine Yg OG ?_;simp[OG];(with_reducible repeat' first|refine Xk ?_<;>try simp|refine Xs ?_ ?_<;>intro h<;>(try intro f)<;>(try simp[h])<;>try omega|refine Xg ?_|omega)
 all_goals first
  | (simp only[mK];rw[if_pos U])
  | skip
 .rename_i h;have:=hg.turns d U U;have a:=hg.row (gt g.next (gt g.jC d)) (ij U U);refine gU ?_;simp only[mK];rw[if_neg U];simp
 .rename_i h;have a:=hg.row (gt g.next d) (ij U U);refine gU ?_;simp only[mK];rw[if_neg U];simp[h]
def f240(g:gY)(hg:qp g)(s d c:Int):Wf T 322 [g.kC,.i s,.i d,.i c] [] (Is (.i (mK g s d c))):=by
 have e:=hg.next
 have b:=hg.jC;refine Yg OA ?_;simp[OA];(with_reducible repeat' first|refine Xk ?_<;>try simp|refine Xs ?_ ?_<;>intro h<;>(try intro f)<;>(try simp[h])<;>try omega|refine Xg ?_|omega)
 all_goals first
  | (simp only[mK];rw[if_pos U])
  | skip
 .rename_i h;have:=hg.turns d U U;have a:=hg.row (gt g.next (gt g.jC d)) (ij U U);refine gU ?_;simp only[mK];rw[if_neg U];simp
 .rename_i h;have a:=hg.row (gt g.next d) (ij U U);refine gU ?_;simp only[mK];rw[if_neg U];simp[h]
def f110(p q:Pos)(b:Small p)(a:Small q):Wf T 162 [dP p,dP q] [] (Is (.b (decide (p=q)))):=by refine Yg MR ?_;simp[MR];refine Yc (f50 p q b a) ?_;simp;rw[tG]
set_option maxHeartbeats 1000000
def f27(l:List Pos)(p:Pos)(hl:l.l<2 ^ 40)(hs:∀p∈l,Small p)(m:Small p)(g:mr l):Wf T 86 [iZ l,dP p] [] (Is (.i (tH l p))):=by
 refine Yg OQ ?_;simp[OQ];refine gZ.j ((0,(l.l:Int)):Int×Int) (λx=>[(0,iZ l),(3,.ptr 0 0 0),(5,.i x.1),(6,.i x.2)]) (λ_=>[.row 46 0 p.cells]) (λx=>0<=x.1/\x.1<=x.2/\x.2<=l.l/\∀k:Int,0<=k->k<l.l->gt l k=p->x.1<=k/\k<x.2) (λx=>(x.2-x.1).n) ?_ gP rfl rfl ?_
 .simp;omega
 rintro⟨a,b⟩ ⟨h0,h1,q,f⟩;simp at h0 h1 q f;simp;refine ma ?_ ?_<;>intro h
 .rw[xq U U U];refine gU ?_;refine Yt (f50 p (gt l ((a+b) / 2)) m (hs _ (ij U U))) ?_;simp;(with_reducible repeat' first|refine Xk ?_<;>try simp|refine Xs ?_ ?_<;>intro h<;>(try intro r)<;>(try simp[h])<;>try omega|refine Xg ?_|omega)
  .rw[tG]at h;rw[h,ajq g U U]
  .have j:∀k:Int,(a+b) / 2<=k->k<l.l->gt l k≠p:=λk d c e=>by
    by_cases e2:k=(a+b) / 2
    .subst e2;rw[e,xH]at h;omega
    .have:=Bp h (g.le U (U:(a+b) / 2<k) c);rw[e,xH]at this;omega
   intro k d c e;have:=f k d c e
   by_cases i:(a+b) / 2<=k
   .grind
   .omega
  .have o:jz (gt l ((a+b) / 2)) p<0:=by rw[xI];omega
   have j:∀k:Int,0<=k->k<=(a+b) / 2->gt l k≠p:=λk d c e=>by
    by_cases e2:k=(a+b) / 2
    .grind
    .have:=Bp (g.le d (U:k<(a+b) / 2) U) o;rw[e,xH]at this;omega
   intro k d c e;have:=f k d c e
   by_cases i:k<=(a+b) / 2
   .grind
   .omega
 .rw[aa8];intro n;obtain⟨k,d,c,e⟩:=th.1 n;have:=f k d c e;omega
def f111(g:gY)(l:List Int)(hg:iE g)(hl:ua g l):Wf T 138 [dG g,dI l] [] (Is (.b aE)):=by
 have d:=hg.kinds;have c:=hl.len;refine Yg MS ?_;simp[MS];refine gU ?_;refine gZ.j (0:Int) (λi=>[(1,dI l),(2,.ptr 0 0 0),(5,.i i)]) (λi=>[.row 43 0 g.cells]) (λi=>0<=i/\i<=l.l) (λi=>l.l-i.n) ?_ gP yB rfl ?_
 .simp
 rintro i ⟨h0,h1⟩;simp;(with_reducible refine Xs ?_ ?_<;>intro h<;>(try intro b)<;>(try simp[h])<;>(try omega))
 .have a:=hl.at_ i h0 ‹_›;(with_reducible repeat' first|refine Xk ?_<;>try simp|refine Xs ?_ ?_<;>intro h<;>(try intro b)<;>(try simp[h])<;>try omega|refine Xg ?_|omega);have:=a.2.2
  all_goals simp_all
  all_goals omega
def f65(g:gY)(p:Pos)(hg:iE g)(a:ja g p):Wf T 84 [dG g,dP p] [] (Is (.b aE)):=by
 have d:=hg.kinds;have c:=hg.iw;have h1:=a.size;have k:=a.iw;have j:=a.side;have e:=hg.kC.size;have b:=Xo c.1 U;refine Yg O7 ?_;simp[O7,h1];refine Yt (f111 g _ hg a.h0) ?_;simp[h1];refine Yt (f111 g _ hg a.h1) ?_;simp[h1];refine jM b ?_;refine gZ.j (0:Int) (λi=>[(2,.ptr 0 0 0),(3,.ptr 1 0 0),(5,.i i)]) (λi=>[.row 43 0 g.cells,.row 46 0 p.cells]) (λi=>0<=i/\i<=p.cs.l) (λi=>p.cs.l-i.n) ?_ gP yB rfl ?_
 .simp
 rintro i ⟨h0,f⟩;simp;(with_reducible refine Xs ?_ ?_<;>intro h<;>(try intro l)<;>(try simp[h])<;>(try omega));have b:=a.cs _ (ij h0 ‹_›);exact oS
end Go.Proofs.YtmehofoficaelaaGreatDoor
namespace Go.AL
open Go
def Ex{α:Type}(g:α->D)(Q:α->Prop):D->gQ->Prop:=λd H=>∃r,d=g r/\H = []/\Q r
@[simp] theorem aus{α:Type}(g:α->D)(Q:α->Prop)(d:D)(H:gQ):Ex g Q d H = ∃r,d=g r/\H = []/\Q r:=(rfl)
section
variable{T:jt}{f:FuncId}{args qt:List D}{dst:Option Nat}{s:St}{K:St->Prop}{fn:kn}
theorem ik.q{α:Type}{g:α->D}{Q:α->Prop}(i:T.fn f=cp fn)(e:fn.full=dx)(h:Wf T f args [] (Ex g Q))
  (a:iB args=aE) (b:∀r,closed (g r)=aE) (k:∀r,Q r->K { s with env:=put s.env dst (g r) }):ik T f args dst s K .mk:=by
 refine ik.is i e (K0:=Ex g Q) ?_ ?_
 .have l:args.map (ib (λ_=>er) s.H 40)=args:=by
   conv=>rhs;rw[<-bn args]
   exact au λd j=>qn (nP a d j)
  rw[l];exact h
 .rintro d Hn ⟨r,rfl,rfl,c⟩;obtain⟨k1,k2⟩:=Jh (H:=s.H) (b r);refine⟨{ s with env:=put s.env dst (g r) },?_,k r c⟩;unfold after;rw[if_pos a,k1,k2];simp
theorem aq7{d:D}(a:flat d=aE)(_:closed d=aE):rl d=true:=(T6 (H:=[]) a).1
theorem ik.rq{α:Type}{g:α->D}{Q:α->Prop}(i:T.fn f=cp fn)(e:fn.full=dx)(h:Wf T f qt [] (Ex g Q))
  (hs:args.map (ib (λ_=>er) s.H 40)=qt) (b:∀r,flat (g r)=aE) (a:∀r,closed (g r)=aE) (k:∀r,Q r->K { s with env:=put s.env dst (g r) }):ik T f args dst s K .mk:=by
 refine ik.is i e (K0:=Ex g Q) (by rw[hs];exact h) ?_;rintro d Hn ⟨r,rfl,rfl,c⟩;obtain⟨k1,k2⟩:=Jh (H:=s.H) (a r);refine⟨{ s with env:=put s.env dst (g r) },?_,k r c⟩;unfold after;rw[aq7 (b r) (a r),k1,k2];simp
end
section
variable{T:jt}{f:FuncId}{args:List D}{dst:Option Nat}{s:St}{K:St->Prop}{fn:kn}
theorem ik.n{d:D}{Hn:gQ}(e:T.fn f=cp fn)(c:fn.full=dx)(h:Wf T f args [] λd' H'=>d'=d/\H'=Hn)
  (a:iB args=aE) (b:(oC d&&Hn.all pP)=aE) (k:K { s with env:=put s.env dst (lL s.H.l d),H:=s.H++Hn }):ik T f args dst s K .mk:=by
 refine ik.is e c (K0:=λd' H'=>d'=d/\H'=Hn) ?_ ?_
 .have i:args.map (ib (λ_=>er) s.H 40)=args:=by
   conv=>rhs;rw[<-bn args]
   exact au λd g=>qn (nP a d g)
  rw[i];exact h
 .rintro d' j ⟨rfl,rfl⟩;refine⟨_,?_,k⟩;unfold after;rw[if_pos a,if_pos b]
theorem rX.n{R:List Fp}{Q:Rc->St->Prop}{d:D}{ob:Ob}(e:T.fn f=cp fn)(c:fn.full=dx)(h:Wf T f args [] λd' H'=>d'=d/\H' = [ob])
  (a:iB args=aE) (b:(oC d&&pP ob)=aE) (k:Q ⟨R,[(s.H.l,er)]⟩ { s with env:=put s.env dst (lL s.H.l d),H:=s.H ++ [ob] }):wW T f args R dst s Q .mk:=by
 have i:args.map (ib (λ_=>er) s.H 40)=args:=by
  conv=>rhs;rw[<-bn args]
  exact au λd g=>qn (nP a d g)
 exact .inl (.inr ⟨fn,d,ob,e,c,by rw[i];exact h,by rw[if_pos a];exact b,k⟩)
theorem rX.c{R:List Fp}{Q:Rc->St->Prop}{x:D}(c:T.fn f=cp fn)(b:fn.full=dx)(h:Wf T f args [] λd H'=>d=x/\H' = [])
  (e:iB args=aE) (a:closed x=aE) (k:Q ⟨R,[]⟩ { s with env:=put s.env dst x }):wW T f args R dst s Q .mk:=.inl (.inl (ke.c c b h e a k))
theorem wW.z{qt:List D}{R:List Fp}{Q:Rc->St->Prop}{d:D}(v:Nat)(g:T.fn f=cp fn)(e:fn.full=dx)(h:Wf T f qt [] (Is d))(hs:args.map (ib (λ_=>er) s.H 40)=qt)
  (a:(args.map (jq s.H 40)).flatten = [v]) (b:(rowsOf s.H v).isSome=aE) (i:iB qt=aE) (c:closed d=aE) (k:Q ⟨R,[(v,er)]⟩ { s with env:=put s.env dst d,H:=s.H.set v .dead }):wW T f args R dst s Q .mk:=
 .inr ⟨fn,d,v,g,e,by rw[a];simp,by rw[a];simp,b,by rw[hs];exact i,by rw[hs];exact h,c,k⟩
@[simp] theorem aCv(ds:List D):oC (.agg ds)=ds.all (AK closed):=rfl
@[simp] theorem aCy(ds:List D):oC (.tup ds)=ds.all (AK closed):=rfl
@[simp] theorem aCx(v g sz off n:Nat):oC (.gR v g sz off n)=true:=rfl
@[simp] theorem aCl(p:D->Bool)(v g sz off n:Nat):AK p (.gR v g sz off n)=true:=rfl
@[simp] theorem aCk(l:List Int):AK closed (dI l)=true:=by show closed (dI l)=aE;simp
@[simp] theorem aCm(v:Value):AK closed (.val v)=true:=by show closed (.val v)=aE;simp
@[simp] theorem ayk(t g:Nat)(cs:List D):pP (.row t g cs)=iB cs:=rfl
@[simp] theorem aBa(n:Nat)(ds:List D):lL n (.agg ds) = .agg (ds.map (AD n)):=rfl
@[simp] theorem aBe(n:Nat)(ds:List D):lL n (.tup ds) = .tup (ds.map (AD n)):=rfl
@[simp] theorem aBd(n v g sz off k:Nat):lL n (.gR v g sz off k) = .gR (v+n) g sz off k:=rfl
@[simp] theorem aBg(n v g sz off k:Nat):AD n (.gR v g sz off k) = .gR (v+n) g sz off k:=rfl
@[simp] theorem aBf(n:Nat)(l:List Int):AD n (dI l)=dI l:=by unfold dI;rfl
@[simp] theorem aBh(n:Nat)(v:Value):AD n (.val v) = .val v:=rfl
end
instance:Fl il.cells 8:=⟨λ_=>rfl,λs=>by simp[il.cells,iB]⟩
instance:Fl iJ.cells 6:=⟨λ_=>rfl,λs=>by simp[iJ.cells,iB]⟩
@[simp] theorem ayb(l:List il)(a b c:List Int)(r q k u:Int)(t:Bool):cl il.cells l ++ [dI a,dI b,dI c,.i r,.i q,.i k,.i u,.b t]=cl il.cells (l ++ [⟨⟨a,b,c,r,q⟩,k,u,t⟩]):=by rw[<-tE];rfl
@[simp] theorem ax7(l:List iJ)(a b c:List Int)(r q:Int)(t:Bool):cl iJ.cells l ++ [dI a,dI b,dI c,.i r,.i q,.b t]=cl iJ.cells (l ++ [⟨⟨a,b,c,r,q⟩,t⟩]):=by rw[<-tE];rfl
@[simp] theorem aEC(s:il):il.mk s.p s.kind s.cur s.kP=s:=rfl
@[simp] theorem aCO(s:iJ):iJ.mk s.p s.kP=s:=rfl
attribute [simp] il.cells iJ.cells
def Yq{T:jt}{f:FuncId}{args:List D}{dst:Option Nat}{s:St}{K:St->Prop}{fn:kn}{α:Type}{g:α->D}{Q:α->Prop}(h:Wf T f args [] (Ex g Q))(k:∀r,Q r->K { s with env:=put s.env dst (g r) })
  (c:T.fn f=cp fn:=by exact rfl) (b:fn.full=false:=by exact rfl) (d:iB args=true:=by simp) (a:∀r,closed (g r)=true:=by intro;simp):ik T f args dst s K .mk:=ik.q c b h d a k
def Yn{T:jt}{f:FuncId}{args:List D}{dst:Option Nat}{s:St}{K:St->Prop}{fn:kn}{d:D}{Hn:gQ}(h:Wf T f args [] λd' H'=>d'=d/\H'=Hn)(k:K { s with env:=put s.env dst (lL s.H.l d),H:=s.H++Hn })
  (c:T.fn f=cp fn:=by exact rfl) (b:fn.full=false:=by exact rfl) (e:iB args=true:=by simp) (a:(oC d&&Hn.all pP)=true:=by simp):ik T f args dst s K .mk:=ik.n c b h e a k
end Go.AL
namespace Go.AL
open Go
def lR(l:List il):D:=.sl 8 (l.map il.cells)
def pS(l:List iJ):D:=.sl 6 (l.map iJ.cells)
@[simp] theorem aEg(l:List il):D.sl 8 (l.map il.cells)=lR l:=by unfold lR;rfl
@[simp] theorem aEe(l:List iJ):D.sl 6 (l.map iJ.cells)=pS l:=by unfold pS;rfl
section
variable{l:List il}{n:Int}{k:IntKind}{P:D->Prop}{H:gQ}
@[simp] theorem ayx:closed (lR l)=true:=by unfold lR;exact F0 l
@[simp] theorem aA4:od .slice (lR l) H=cp (.i l.l):=by simp only[lR,acK,eh]
@[simp] theorem aEQ(n:Nat):jQ n (lR l) = []:=by unfold lR;rfl
@[simp] theorem axP:cellsOf (lR l)=cp [lR l]:=by unfold lR;rfl
@[simp] theorem aB5:oA (ot 8 (lR l) (.val (.int k n))) P .mk=((0<=n/\n<l.l)/\P (.ie (gt l n).cells)):=by unfold lR;exact AJ
end
section
variable{l:List iJ}{n:Int}{k:IntKind}{P:D->Prop}{H:gQ}
@[simp] theorem ayv:closed (pS l)=true:=by unfold pS;exact F0 l
@[simp] theorem aA1:od .slice (pS l) H=cp (.i l.l):=by simp only[pS,acK,eh]
@[simp] theorem aEt:lX 6 H (pS l)=cp (cl iJ.cells l,l.l):=by unfold pS;exact HS ..
@[simp] theorem aEM(n:Nat):jQ n (pS l) = []:=by unfold pS;rfl
@[simp] theorem aB2:oA (ot 6 (pS l) (.val (.int k n))) P .mk=((0<=n/\n<l.l)/\P (.ie (gt l n).cells)):=by unfold pS;exact AJ
end
@[simp] theorem aEd:D.sl 8 []=lR []:=by unfold lR;rfl
@[simp] theorem aEc:D.sl 6 []=pS []:=by unfold pS;rfl
@[simp] theorem azu{ρ:Nat->Option Nat}{H:gQ}{k:Nat}{t:TypeId}{a b c:List Int}{r q w u:Int}{o:Bool}:oq ρ H (k+1) 8 0 1 (cp (t,[dI a,dI b,dI c,.i r,.i q,.i w,.i u,.b o]))=lR [⟨⟨a,b,c,r,q⟩,w,u,o⟩]:=by have h:=uX (f:=il.cells) (ρ:=ρ) (H:=H) (k:=k) (t:=t) (l:=[⟨⟨a,b,c,r,q⟩,w,u,o⟩]) (n:=1) rfl;rw[pO]at h;unfold lR;exact h
def z7(S:List Nat):Nat->gQ->nX
 | _,[]=>[]
 | i,_::r=>(i,!S.contains i)::z7 S (i+1) r
@[simp] theorem azd(S:List Nat)(i:Nat):z7 S i [] = []:=rfl
@[simp] theorem azc(S:List Nat)(i:Nat)(o:Ob)(r:gQ):z7 S i (o::r)=(i,!decide (i∈S))::z7 S (i+1) r:=by rw[z7,dq]
def ajx(H:gQ)(S:List Nat):nv H S=z7 S 0 H:=by
 have key:∀(H:gQ) (i:Nat),(List.range' i H.l).map (λv=>(v,!(S.contains v)))=z7 S i H:=by
  intro H
  induction H with
  | nil=>intro i;rfl
  | cons o r a=>intro i;rw[aF,cE,ej,a,z7]
 rw[nv,cy,key]
def Ua(env:Env)(H:gQ)(m:List Nat)(r:Bool)(ks:nX):St:={ env:=env.map λp=>(p.1,ib (iP ks) H 40 p.2),H:=ks.map λp=>if p.2 then vG (iP ks) H H[p.1]? else .dead,marks:=m,iI:=r }
@[simp] theorem azo(S:List Nat)(env:Env)(H:gQ)(m:List Nat)(r:Bool):mC S { env:=env,H:=H,marks:=m,iI:=r }=Ua env H m r (z7 S 0 H):=by unfold mC Ua;rw[ajx];rfl
@[simp] theorem azk(env:Env)(H:gQ)(m:List Nat)(r:Bool)(ks:nX):Ua env H m r ks = { env:=env.map λp=>(p.1,ib (iP ks) H 40 p.2),H:=ks.map λp=>if p.2 then vG (iP ks) H H[p.1]? else .dead,marks:=m,iI:=r }:=rfl
section
variable{T:jt}
def Ub(S:List Nat)(T:jt)(b:IR)(K:jD):jD:=λo=>match o with
 | .norm s=>s.marks = []/\XC T b (mC S s) K
 | o=>K o
@[simp ↓] theorem azm{S:List Nat}{b:IR}{K:jD}{s:St}:Ub S T b K (.norm s)=(s.marks = []/\XC T b (mC S s) K):=(rfl)
@[simp ↓] theorem azl{S:List Nat}{b:IR}{K:jD}{id:Nat}{s:St}:Ub S T b K (.exit id s)=K (.exit id s):=(rfl)
@[simp ↓] theorem azn{S:List Nat}{b:IR}{K:jD}{s:St}:Ub S T b K (.ret s)=K (.ret s):=(rfl)
theorem gZ.fz{live:List Nat}{a:IR}{s:St}{K:jD}(S:List Nat)(b:s.marks = [])(h:gZ T live a (mC S s) K .mk):gZ T live a s K .mk:=Wc.mC S (by rw[b];exact ac4 _) h
theorem gZ.w{live:List Nat}{a:IR}{s:St}{K:jD}{α:Type}(b:α)(E:α->Env)(f:α->gQ)(P:α->Prop)(d:α->Nat)
  (h0:P b) (n:forget ((E b).map (·.1)) s.env=E b) (l:s.H=f b) (i:(((E b).map (·.1)).all λk=>live.contains k)=aE)
  (h:∀x,P x->Wc T (mq a) { env:=E x,H:=f x,marks:=s.marks,iI:=s.iI } (vz s.H.l live ((E b).map (·.1)) (λe H m r=>∃c,e=E c/\H=f c/\m=s.marks/\r=s.iI/\d c<d x/\P c) K)):gZ T live a s K .mk:=by
 refine Wc.loop (λm s'=>∃x,P x/\m=d x/\({ s' with env:=forget ((E b).map (·.1)) s'.env }:St) = { env:=E x,H:=f x,marks:=s.marks,iI:=s.iI }) (d b) ⟨b,h0,rfl,?_⟩ ?_
 .dsimp only;rw[T8 i,n];rw[<-l]
 .rintro m s' ⟨x,hP,rfl,j⟩;refine Ev.F9 ((E b).map (·.1)) ?_;rw[j];refine(h x hP).mono λo g=>?_
  cases o with
  | norm u=>
   obtain⟨c,p,y,w,v,t,h1⟩:=g;refine⟨d c,t,c,h1,rfl,?_⟩;rw[p];generalize cut s.H.l live u=q at *;cases q;simp_all
  | exit=>exact g
  | ret=>exact g
end
theorem acN{g:gY}{s d c:Int}:∀(n:Nat) (x:Int) (out:List Int),(wE g s d c n x out).l<=out.l+n
 | 0,x,out=>by simp[wE]
 | n+1,x,out=>by
  unfold wE;split
  .have:=acN (g:=g) (s:=s) (d:=d) (c:=c) n (mK g s d x) (out ++ [x]);simp at this;omega
  .omega
def Wa{g:gY}{s d c:Int}:(mI g s d c).l<=10:=by have:=acN (g:=g) (s:=s) (d:=d) (c:=c) 10 (mK g s d c) [];simpa[mI]using this
theorem acO{s:il}:∀l:List Int,(sN s l).l<=l.l
 | []=>by simp[sN]
 | c::r=>by have:=acO (s:=s) r;unfold sN;split<;>simp<;>omega
def HZ{g:gY}{s:il}{x:gT}:(jT g s x).l<=10:=by
 have:=acO (s:=s) (mI g s.p.side x.2 s.cur);have:=Wa (g:=g) (s:=s.p.side) (d:=x.2) (c:=s.cur);unfold jT uK vE;dsimp only
 repeat' split
 all_goals first|omega|(simp only[aF,dp];omega)
end Go.AL
namespace Go.Proofs.YtmehofoficaelaaGreatDoor
open Go Go.AL Classical
set_option maxRecDepth 10000
set_option maxHeartbeats 1000000
structure tw(a b:List Pos)(i k:Int)(out:List Pos):Prop where
 i0:0<=i/\i<=a.l
 k0:0<=k/\k<=b.l
 len:(out.l:Int)=i+k
 perm:out.Perm (a.take i.n++b.take k.n)
 ws:WS out
 le:∀x∈out,∀y,y∈a.drop i.n\/y∈b.drop k.n->jz x y<=0
def tw.init(a b:List Pos):tw a b 0 0 []:=⟨U,U,rfl,gP,by simp[WS],gP⟩
def afs{a:List Pos}(h:WS a){i:Int}(h0:0<=i)(h1:i<a.l){y:Pos}(b:y∈a.drop i.n):jz (gt a i) y<=0:=by
 have c:WS (a.drop i.n):=gH (List.drop_sublist _ _) h;rw[pa h0 h1]at b c;rcases ak.1 b with rfl|b
 .rw[xH];omega
 .exact(aI.1 c).1 y b
def amb{α:Type}[Inhabited α]{a:List α}{i:Int}(h0:0<=i)(h1:i<a.l){y:α}:y∈a.drop i.n↔y=gt a i\/y∈a.drop (i+1).n:=by rw[pa h0 h1,ak,(U:(i+1).n=i.n+1)]
def tw.add{a b:List Pos}{i k:Int}{out:List Pos}(f:tw a b i k out)(hi:i<a.l)(g:WS a)(h:∀y∈b.drop k.n,jz (gt a i) y<=0):tw a b (i+1) k (out ++ [gt a i]):=by
 have h0:=f.i0;have e:∀y,y∈a.drop i.n↔y=gt a i\/y∈a.drop (i+1).n:=λy=>amb h0.1 hi;refine⟨U,f.k0,by have:=f.len;simp;omega,?_,?_,λx d y c=>?_⟩
 .rw[jP h0.1 hi,aO];refine(f.perm.append_right _).trans ?_;rw[aO];exact ek.append_left _ gI
 .refine bw.2 ⟨f.ws,gP,λx d y c=>?_⟩;simp at c;subst c;exact f.le x d _ (.inl ((e _).2 (.inl rfl)))
 .rcases ai.1 d with d|d
  .exact f.le x d y (c.imp (λh=>(e _).2 (.inr h)) id)
  .simp at d;subst d;rcases c with c|c
   .exact afs g h0.1 hi ((e _).2 (.inr c))
   .exact h y c
def tw.swap{a b:List Pos}{i k:Int}{out:List Pos}(c:tw a b i k out):tw b a k i out:=
 ⟨c.k0,c.i0,by have:=c.len;omega,c.perm.trans gI,c.ws,λx e y d=>c.le x e y d.symm⟩
def tw.Xx{a b:List Pos}{i k:Int}{out:List Pos}(d:tw a b i k out)(hi:i<a.l)(g:WS a)(f:WS b)(h:k<b.l->jz (gt a i) (gt b k)<=0):tw a b (i+1) k (out ++ [gt a i]):=by
 refine d.add hi g λy c=>?_
 by_cases e:k<b.l
 .exact ZQ (h e) (afs f d.k0.1 e c)
 .rw[bE (by have:=d.k0;omega)]at c;cases c
def tw.aeW{a b:List Pos}{i k:Int}{out:List Pos}(f:tw a b i k out)(c:k<b.l)(e:WS a)(d:WS b)(h:i<a.l->¬jz (gt a i) (gt b k)<=0):tw a b i (k+1) (out ++ [gt b k]):=by refine(f.swap.Xx c d e λhi=>?_).swap;have:=h hi;rw[xI];omega
def f109:∀(n:Nat) (l:List Pos),l.l=n->l.l<2 ^ 40->(∀p∈l,Small p)->Wf T 161 [iZ l] [] (Ex iZ λr=>r.Perm l/\WS r):=by
 intro n
 induction n using Nat.strongRecOn with
 | ind n g=>
 intro l v hl hs;refine Yg MP ?_;simp[MP];(with_reducible refine Xs ?_ ?_<;>intro h<;>(try intro j)<;>(try simp[h])<;>(try omega))
 .refine⟨l,rfl,ek.refl _,?_⟩;unfold WS
  cases l with
  | nil=>simp
  | cons a l=>cases l with
   | nil=>simp
   | cons b l=>simp at h;omega
 .rw[xq U U U];refine gU ?_;refine Yq (g (l.l / 2) U _ iz iz (λp d=>hs p (aQ d))) λa f=>?_;simp;rw[xq U U U];refine gU ?_;refine Yq (g (l.l-l.l / 2) U _ iz iz (λp d=>hs p (bO (aQ d)))) λb e=>?_;simp;have u:(a.l:Int)=l.l / 2:=by rw[f.1.length_eq];simp;omega
  have t:(b.l:Int)=l.l-l.l / 2:=by rw[e.1.length_eq];simp;omega
  have q:∀p∈a,Small p:=λp d=>hs p (aQ ((f.1.mem_iff).1 d));have o:∀p∈b,Small p:=λp d=>hs p (bO (aQ ((e.1.mem_iff).1 d)));refine gZ.j ((0,0,[]):Int×Int×List Pos) (λx=>[(3,iZ a),(4,iZ b),(5,.gR 0 x.2.2.l 5 0 x.2.2.l),(6,.i x.1),(7,.i x.2.1)]) (λx=>[.row 46 x.2.2.l (cl Pos.cells x.2.2)]) (λx=>tw a b x.1 x.2.1 x.2.2) (λx=>a.l+b.l-(x.1+x.2.1).n) ?_ gP yB rfl ?_
  .exact tw.init a b
  rintro⟨i,k,out⟩ c;have h0:=c.i0;have h1:=c.k0;have s:=c.len;dsimp only at c h0 h1 s ⊢;simp;(with_reducible repeat' first|refine Xk ?_<;>try simp|refine Xs ?_ ?_<;>intro h<;>(try intro j)<;>(try simp[h])<;>try omega|refine Xg ?_|omega)
  .exact⟨i+1,k,_,gP,rfl,rfl,gP,rfl,U,c.Xx km f.2 e.2 λh=>U⟩
  .refine Yt (f50 _ _ (q _ (ij U U)) (o _ (ij U U))) ?_;simp[*];(with_reducible repeat' first|refine Xk ?_<;>try simp|refine Xs ?_ ?_<;>intro h<;>(try intro j)<;>(try simp[h])<;>try omega|refine Xg ?_|omega)
   .exact⟨i+1,k,_,gP,rfl,rfl,gP,rfl,U,c.Xx km f.2 e.2 λ_=>km⟩
   .exact⟨i,k+1,_,gP,rfl,rfl,gP,rfl,U,c.aeW U f.2 e.2 λ_=>km⟩
  .exact⟨i,k+1,_,gP,rfl,rfl,gP,rfl,U,c.aeW U f.2 e.2 λ_=>U⟩
  .refine⟨out,rfl,?_,c.ws⟩;have m:=c.perm;rw[nf U,nf U]at m;refine m.trans ((ek.append f.1 e.1).trans ?_);have e2:(l.drop (↑l.l / 2:Int).n).take (l.l-(↑l.l / 2:Int).n)=l.drop (↑l.l / 2:Int).n:=af (by rw[aU];exact Nat.le_refl _);rw[e2,cj]
structure yP(a:List Pos)(i:Int)(out:List Pos):Prop where
 i0:0<=i/\i<=a.l
 len:(out.l:Int)<=i
 mem:∀q,q∈out↔q∈a.take i.n
 st:out.Pairwise λx y=>jz x y<0
def yP.init(a:List Pos):yP a 0 []:=⟨U,gP,gP,gP⟩
def afu{a:List Pos}(h:WS a){j:Int}(h0:0<=j)(h1:j<a.l){x:Pos}(b:x∈a.take (j+1).n):jz x (gt a j)<=0:=by
 have c:WS (a.take (j+1).n):=gH (List.take_sublist _ _) h;rw[jP h0 h1]at b c;rcases ai.1 b with b|b
 .exact(bw.1 c).2.2 x b _ gP
 .simp at b;subst b;rw[xH];omega
def yP.skip{a:List Pos}{i:Int}{out:List Pos}(b:yP a i out)(hi:i<a.l)(h1:i≠0)(h:gt a i=gt a (i-1)):yP a (i+1) out:=by have h0:=b.i0;refine⟨U,by have:=b.len;omega,λq=>?_,b.st⟩;rw[b.mem,jP h0.1 hi,ai,cc];refine⟨.inl,λc=>c.elim id λc=>?_⟩;rw[c,h];have:=jP (l:=a) (n:=i-1) U U;rw[(U:i-1+1=i)]at this;rw[this];simp
def yP.add{a:List Pos}{i:Int}{out:List Pos}(c:yP a i out)(hi:i<a.l)(f:WS a)(h:i=0\/gt a i≠gt a (i-1)):yP a (i+1) (out ++ [gt a i]):=by
 have h0:=c.i0;refine⟨U,by have:=c.len;simp;omega,λq=>?_,bw.2 ⟨c.st,gP,λx b y d=>?_⟩⟩
 .rw[ai,c.mem,jP h0.1 hi,ai]
 .simp at d;subst d;have b:=(c.mem x).1 b;rcases h with rfl|h
  .simp at b
  .by_cases g:i=0
   .subst g;simp at b
   have o:=afu f (j:=i-1) U U (x:=x) (by rw[(U:i-1+1=i)];exact b)
   have e2:=afu f h0.1 hi (x:=gt a (i-1)) (by
    have:=jP (l:=a) (n:=i-1) U U;rw[(U:i-1+1=i)]at this
    rw[jP h0.1 hi,this];simp)
   have m:jz (gt a (i-1)) (gt a i)≠0:=λe=>h (tG.1 e).symm
   by_cases k:jz x (gt a (i-1))=0
   .rw[tG.1 k];omega
   .exact Bp (U:jz x (gt a (i-1))<0) U
def atz{r:List Pos}(h:r.Pairwise λx y=>jz x y<0):mr r:=by intro i h1 a;rw[jU U U,jU U U];exact bV.1 h _ _ _ _ U
def f61(l:List Pos)(hl:l.l<2 ^ 40)(hs:∀p∈l,Small p):Wf T 101 [iZ l] [] (Ex iZ λr=>mr r/\r.l<=l.l/\∀q,q∈r↔q∈l):=by
 refine Yg O6 ?_;simp[O6];refine Yq (f109 _ l rfl hl hs) λa c=>?_;simp;have f:a.l=l.l:=c.1.length_eq;have d:∀p∈a,Small p:=λp e=>hs p (c.1.mem_iff.1 e);refine gZ.j ((0,[]):Int×List Pos) (λx=>[(3,iZ a),(4,.gR 0 x.2.l 5 0 x.2.l),(5,.i x.1)]) (λx=>[.row 46 x.2.l (cl Pos.cells x.2)]) (λx=>yP a x.1 x.2) (λx=>a.l-x.1.n) ?_ gP yB rfl ?_
 .exact yP.init a
 rintro⟨i,out⟩ b;have h0:=b.i0;have h1:=b.len;dsimp only at b h0 h1 ⊢;simp;(with_reducible repeat' first|refine Xk ?_<;>try simp|refine Xs ?_ ?_<;>intro h<;>(try intro g)<;>(try simp[h])<;>try omega|refine Xg ?_|omega)
 .exact⟨1,_,gP,rfl,gP,rfl,U,by subst h;exact b.add km c.2 (.inl rfl)⟩
 .refine Yt (f110 _ _ (d _ (ij U U)) (d _ (ij U U))) ?_;simp;refine ma ?_ ?_<;>intro h
  .exact⟨i+1,_,rfl,rfl,rfl,rfl,U,b.skip km km km⟩
  .exact⟨i+1,_,gP,rfl,gP,rfl,U,b.add km c.2 (.inr km)⟩
 .refine⟨out,rfl,atz b.st,U,λq=>?_⟩;rw[b.mem,nf U,c.1.mem_iff]
end Go.Proofs.YtmehofoficaelaaGreatDoor
namespace Go.AL
open Go
def V5(H:gQ)(d:D)(ks:nX):D×gQ:=(ib (iP ks) H 40 d,ks.map λp=>if p.2 then vG (iP ks) H H[p.1]? else .dead)
@[simp] theorem aAT(H:gQ)(d:D)(ks:nX):V5 H d ks=(ib (iP ks) H 40 d,ks.map λp=>if p.2 then vG (iP ks) H H[p.1]? else .dead):=rfl
def Hw(own n:Nat)(H:gQ)(d:D):List Nat:=match own with|0=>[]|1=>Hx n d|3=>((jq H 40 d).filter (n<=·)).take 1|_=>(jq H 40 d).filter (n<=·)
@[simp] theorem aCP(n:Nat)(H:gQ)(d:D):Hw 0 n H d = []:=rfl
@[simp] theorem aCQ(n:Nat)(H:gQ)(d:D):Hw 1 n H d=Hx n d:=rfl
@[simp] theorem aCR(n:Nat)(H:gQ)(d:D):Hw 2 n H d=(jq H 40 d).filter (n<=·):=rfl
@[simp] theorem aCS(n:Nat)(H:gQ)(d:D):Hw 3 n H d=((jq H 40 d).filter (n<=·)).take 1:=rfl
@[simp low] theorem RD{own n:Nat}{H:gQ}{d:D}(h:¬H.l<=n)(a:¬own=4):leave own n H d=V5 H d (jx n (dedup ((Hw own n H d++((H.take n).map (pg n)).flatten).filter (· < H.l)))):=by unfold leave V5 Hw;rw[if_neg U];rfl
@[simp] theorem aCT(n v g sz len:Nat):Hx n (.gR v g sz 0 len)=if n<=v then [v]else []:=rfl
theorem LF{H:gQ}{k:Nat}{d:D}(h:closed d=aE):jq H k d = []:=by
 cases k with
 | zero=>rfl
 | succ k=>unfold jq;exact if_pos h
def LG{H:gQ}{k:Nat}{cs:List D}(h:iB cs=aE):(cs.map (jq H k)).flatten = []:=by
 induction cs with
 | nil=>rfl
 | cons d r a=>
  simp only[iB,di]at h;simp[LF h.1,a h.2]
@[simp] theorem aDd{H:gQ}{k:Nat}{d:D}(h:closed d=aE):jq H k d = []:=LF h
@[simp] theorem aDb(H:gQ)(k:Nat)(cs:List D):jq H (k+1) (.agg cs)=(cs.map (jq H k)).flatten:=by
 by_cases h:closed (.agg cs)=aE
 .rw[LF h,LG (by simpa using h)]
 .rw[jq,if_neg h]
@[simp] theorem aDj(H:gQ)(k:Nat)(cs:List D):jq H (k+1) (.tup cs)=(cs.map (jq H k)).flatten:=by
 by_cases h:closed (.tup cs)=aE
 .rw[LF h,LG (by simpa using h)]
 .rw[jq,if_neg h]
def HG(H:gQ)(k:Nat):Option Ob->List Nat
 | some (.row _ _ cs)=>(cs.map (jq H k)).flatten
 | _=>[]
@[simp] theorem aDl(H:gQ)(k t g:Nat)(cs:List D):HG H k (cp (.row t g cs))=(cs.map (jq H k)).flatten:=rfl
@[simp] theorem aDk(H:gQ)(k:Nat)(kk:KK)(es:List (Value×D)):HG H k (cp (.map kk es)) = []:=rfl
theorem ad9(H:gQ)(k v:Nat):(match rowsOf H v with|some (_,_,cs)=>(cs.map (jq H k)).flatten|none=>[])=HG H k H[v]? := by
 unfold rowsOf HG
 cases h:H[v]? with
 | none=>rfl
 | some o=>cases o<;>rfl
@[simp] theorem aDg(H:gQ)(k v g sz off n:Nat):jq H (k+1) (.gR v g sz off n)=v::HG H k H[v]? := by rw[jq,if_neg gP];exact congrArg _ (ad9 H k v)
@[simp] theorem aDh(H:gQ)(k v g off:Nat):jq H (k+1) (.ptr v g off)=v::HG H k H[v]? := by rw[jq,if_neg gP];exact congrArg _ (ad9 H k v)
@[simp] theorem aDf(H:gQ)(k v:Nat):jq H (k+1) (.im v) = [v]:=by rw[jq,if_neg gP]
@[simp] theorem aDi{H:gQ}{k:Nat}{α:Type}{f:α->List D}{sz:Nat}[F:Fl f sz](l:List α):((cl f l).map (jq H k)).flatten = []:=LG (uR l)
@[simp low] theorem Ud{ρ:Nat->Option Nat}{H:gQ}{k sz:Nat}{t:TypeId}{cs:List D}(h:cs.l=sz):oq ρ H k sz 0 1 (cp (t,cs)) = .sl sz [cs.map (ib ρ H k)]:=by subst h;unfold oq;simp[chunks,af]
@[simp] theorem aEh{a b c:List Int}{r q w u:Int}{o:Bool}:D.sl 8 [[dI a,dI b,dI c,.i r,.i q,.i w,.i u,.b o]]=lR [⟨⟨a,b,c,r,q⟩,w,u,o⟩]:=by unfold lR;rfl
end Go.AL
namespace Go.Proofs.YtmehofoficaelaaGreatDoor
open Go Go.AL Classical
set_option maxRecDepth 10000
set_option maxHeartbeats 1000000
def Qh(p:Pos)(a:Small p):Wf T 205 [dP p] [] (λd H=>d = .agg [.gR 0 1 1 0 p.cs.l,.gR 1 1 1 0 p.h0.l,.gR 2 1 1 0 p.h1.l,.i p.iw,.i p.side]/\H = [.row 3 1 (cl f1 p.cs),.row 3 1 (cl f1 p.h0),.row 3 1 (cl f1 p.h1)]):=by obtain⟨h1,c,b⟩:=a;refine Wf.xo 2 (fn:=Bb) rfl (by simp[Bb]) ?_;simp[Bb];exact oS
def f250(a b:il)(d:Small a.p)(c:Small b.p):Wf T 294 [.agg a.cells,.agg b.cells] [] (Is (.b (decide (a=b)))):=by
 have e:(a=b)↔a.p=b.p/\a.kind=b.kind/\a.cur=b.cur/\a.kP=b.kP:=by cases a;cases b;simp
 have e2:decide (a=b)=decide (a.p=b.p/\a.kind=b.kind/\a.cur=b.cur/\a.kP=b.kP):=decide_eq_decide.2 e;rw[e2];refine Yg OF ?_;simp[OF];(with_reducible repeat' first|refine Xk ?_<;>try simp|refine Xs ?_ ?_<;>intro h<;>(try intro f)<;>(try simp[h])<;>try omega|refine Xg ?_|omega)
 .refine Yc (f50 _ _ d c) ?_;simp;simp_all [tG]
 all_goals (intros;simp_all)
def f252(s:il)(b:Bool):Wf T 296 [.agg s.cells,.b b] [] (Is (lR (if b then [s]else []))):=by refine Yg OH ?_;simp[OH];exact oS
def K9(a b:iJ):Prop:=jz a.p b.p<0\/(jz a.p b.p=0/\a.kP=dx/\b.kP=aE)
def f229(a b:iJ)(d:Small a.p)(c:Small b.p):Wf T 285 [.agg a.cells,.agg b.cells] [] (Is (.b (decide (K9 a b)))):=by
 refine Yg Ox ?_;simp[Ox];refine Yc (f50 _ _ d c) ?_;simp;(with_reducible repeat' first|refine Xk ?_<;>try simp|refine Xs ?_ ?_<;>intro h<;>(try intro f)<;>(try simp[h])<;>try omega|refine Xg ?_|omega)
 all_goals by_cases e:jz a.p b.p<0<;>simp[*,K9]at *
def f263(g:gY)(hg:qp g)(s d c:Int):Wf T 321 [g.kC,.i s,.i d,.i c] [] (Is (dI (mI g s d c))):=by
 have o:=hg.size;refine Yg ON ?_;simp[ON];refine Yc (f251 g hg s d c) ?_;simp;refine gZ.j ((0,mK g s d c,[]):Nat×Int×List Int) (λx=>[(1,.i s),(2,.i d),(3,.i c),(4,.ptr 0 0 0),(9,.gR 1 x.2.2.l 1 0 x.2.2.l),(10,.i x.2.1)]) (λx=>[.row 39 0 [.i g.size,.sl 1 (g.next.map fI),dI g.jC],.row 3 x.2.2.l (cl f1 x.2.2)]) (λx=>x.1=x.2.2.l/\x.2.1<g.size/\x.2.2.Nodup/\(∀y∈x.2.2,0<=y/\y<g.size)/\mI g s d c=wE g s d c (10-x.1) x.2.1 x.2.2) (λx=>10-x.1) ?_ gP yB rfl ?_
 .have:=hg.to s d c;simp[mI];omega
 rintro⟨m,x,out⟩ ⟨h0,h1,f,b,j⟩;dsimp only at h0 h1 f b j ⊢;have n:out.l<=9:=yl 9 out f (λy a=>by have:=b y a;omega);have e:=j;rw[(U:10-m=(9-m)+1),wE]at e;simp;(with_reducible repeat' first|refine Xk ?_<;>try simp|refine Xs ?_ ?_<;>intro h<;>(try intro p)<;>(try simp[h])<;>try omega|refine Xg ?_|omega)
 .rw[e,if_neg U]
 .refine ik.r rfl rfl (f25 out x U) gP rfl gP ?_;simp;refine ma ?_ ?_<;>intro h
  .rw[e,if_neg (by rintro⟨_,_,k⟩;exact k ‹_›)]
  .refine Yc (f251 g hg s d x) ?_;simp;refine⟨out.l+1,_,out ++ [x],gP,rfl,gP,rfl,U,gP,(hg.to _ _ _).2,?_,?_,?_⟩
   .rw[a8];refine⟨f,gP,λy a z i=>?_⟩;simp at i;subst i;intro l;subst l;exact absurd a ‹_›
   .intro y a;simp at a;rcases a with a|rfl
    .exact b y a
    .omega
   .rw[e,if_pos (oO km),h0,(U:9-out.l=10-(out.l+1))]
 .rw[e,if_neg U]
def f253(g:gY)(hg:iE g)(s:il)(hs:lj g s)(n:Int):Wf T 297 [dG g,.agg s.cells,.i n] [] (Is (lR (sN s (mI g s.p.side n s.cur)))):=by
 have hl:=Wa (g:=g) (s:=s.p.side) (d:=n) (c:=s.cur);have j:=hs.p.size;refine Yg OI ?_;simp[OI];refine Yc (f263 g hg.kC s.p.side n s.cur) ?_;simp;generalize f:mI g s.p.side n s.cur=L at *;have iG:∀y∈L,0<=y/\y<g.size:=λy e=>V9 hg.kC (f▸e);refine gZ.j ((0,[]):Int×List il) (λx=>[(4,.ptr 1 0 0),(7,.gR 2 x.2.l 8 0 x.2.l),(8,dI L),(9,.i x.1)]) (λx=>[.row 43 0 g.cells,.row 373 0 s.cells,.row 373 x.2.l (cl il.cells x.2)]) (λx=>0<=x.1/\x.1<=L.l/\x.2.l=x.1.n/\sN s L=x.2++sN s (L.drop x.1.n)) (λx=>L.l-x.1.n) ?_ gP yB rfl ?_
 .simp
 rintro⟨i,out⟩ ⟨h0,h1,b,a⟩;dsimp only at h0 h1 b a ⊢;simp;refine ma ?_ ?_<;>intro h
 .have k:=iG _ (ij h0 ‹_›);rw[pa h0 ‹_›,sN]at a;refine ma ?_ ?_<;>intro h
  .refine⟨i+1,out ++ [{ s with cur:=gt L i }],gP,rfl,gP,by rw[<-tE],U,U,U,by simp[b];omega,?_⟩;rw[a,if_pos ‹_›,(U:(i+1).n=i.n+1)];simp
  .rw[if_neg ‹_›]at a;rw[a];simp[lR]
 .rw[bE U]at a;rw[a];simp[sN]
def ac7{n s:Int}(_:0<=n)(a:0<=iC n)(h:lg n≠s)(hs:0<=s/\s<=1):lg n=1-s:=by
 unfold iC lg at *;split at a
 .rename_i e;rw[if_pos e]at h ⊢;omega
 .omega
def f254(g:gY)(hg:iE g)(s:il)(hs:lj g s):Wf T 298 [dG g,.agg s.cells] [] (Is (lR (uK g s))):=by
 have r:=hs.p.size;have d:=hs.cur;have j:=hs.p.small hg;refine Yg OJ ?_;simp[OJ];refine gU ?_;refine Yc (f51 _) ?_;simp;have b:=hs.p.cs _ (ij d.1 U);have i:=hg.kinds;have f:=hs.p.side;(with_reducible repeat' first|refine Xk ?_<;>try simp|refine Xs ?_ ?_<;>intro h<;>(try intro u)<;>(try simp[h])<;>try omega|refine Xg ?_|omega)
 .rw[uK,if_pos];unfold iC at *;unfold lg;split at h<;>rename_i m
  .omega
  .rw[if_neg m];omega
 .rw[uK,if_pos U]
 .have t:iC (gt s.p.cs s.cur)<g.kinds.l:=zq b.2 i.1;have o:s.p.side=0\/s.p.side=1:=U;have q:=hs.p.h0.len;have p:=hs.p.h1.len;have q0:=jy (l:=s.p.cs) (n:=s.cur) (v:=0) d.1 U;refine Yn (Qh s.p j) ?_;simp;refine FK q0 ?_ ?_<;>intro h
  .have a:lg (gt s.p.cs s.cur)=1-s.p.side:=ac7 b.1 U km f;have c:=h;rcases o with e|e
   .have k:=hs.p.h0.at_ _ U (U:iC (gt s.p.cs s.cur)<s.p.h0.l);have q1:=Dx (l:=s.p.h0) (n:=iC (gt s.p.cs s.cur)) (v:=gt s.p.h0 (iC (gt s.p.cs s.cur))+1) U U;have q2:=jy (l:=s.p.h0) (n:=iC (gt s.p.cs s.cur)) (v:=gt s.p.h0 (iC (gt s.p.cs s.cur))+1) U U;simp[e,q1,q2];refine ma ?_ ?_<;>intro h
    all_goals simp[uK,a,c,Pos.hand,Pos.mW,e,q0,q2]
    .rw[if_neg U]
    .rw[if_pos U]
   .have k:=hs.p.h1.at_ _ U (U:iC (gt s.p.cs s.cur)<s.p.h1.l);have q1:=Dx (l:=s.p.h1) (n:=iC (gt s.p.cs s.cur)) (v:=gt s.p.h1 (iC (gt s.p.cs s.cur))+1) U U;have q2:=jy (l:=s.p.h1) (n:=iC (gt s.p.cs s.cur)) (v:=gt s.p.h1 (iC (gt s.p.cs s.cur))+1) U U;simp[e,q1,q2];refine ma ?_ ?_<;>intro h
    all_goals simp[uK,a,c,Pos.hand,Pos.mW,e,q0,q2]
    .rw[if_neg U]
    .rw[if_pos U]
  .have a:lg (gt s.p.cs s.cur)=1-s.p.side:=ac7 b.1 U km f;simp[uK,a,h,q0]
def f255(g:gY)(hg:iE g)(s:il)(hs:lj g s)(n:Int):Wf T 299 [dG g,.agg s.cells,.i n] [] (Is (lR (vE g s n))):=by
 have c:=hs.p.size;have a:=hs.cur;have b:=hs.p.small hg;have d:=hg.kC.to s.p.side n s.cur;refine Yg OL ?_;simp[OL];refine Yc (f251 g hg.kC s.p.side n s.cur) ?_;simp;(with_reducible repeat' first|refine Xk ?_<;>try simp|refine Xs ?_ ?_<;>intro h<;>(try intro e)<;>(try simp[h])<;>try omega|refine Xg ?_|omega)
 .rw[vE,if_pos pK]
 .rw[vE,if_pos pK]
 .have q0:=jy (l:=s.p.cs) (n:=mK g s.p.side n s.cur) (v:=gt s.p.cs s.cur) U U;have q1:=jy (l:=pt s.p.cs (mK g s.p.side n s.cur) (gt s.p.cs s.cur)) (n:=s.cur) (v:=0) a.1 U;refine Yn (Qh s.p b) ?_;simp;refine ko q0 q1 ?_;simp[vE, *]
 .rw[vE,if_pos pK]
end Go.Proofs.YtmehofoficaelaaGreatDoor
namespace Go.AL
open Go
def oP(n:Nat):D->Bool
 | .gR v _ _ _ _ | .ptr v _ _ | .im v | .jF v=>decide (v<n)
 | d=>closed d
def kz(n:Nat):D->Bool
 | .agg cs | .tup cs | .ie cs=>cs.all (oP n)
 | .fn _ a b=>a.all (oP n)&&b.all (oP n)
 | d=>oP n d
def pj(n:Nat):Ob->Bool
 | .row _ _ cs=>cs.all (kz n)
 | .map _ es=>es.all λx=>kz n x.2
 | .iV _ env _=>env.all λx=>kz n x.2
 | .uI _ _=>aE
 | .jO m _ _=>oP n m
 | .jJ=>aE
 | .dead=>aE
 | .na=>dx
def jZ(n:Nat)(H:gQ):Prop:=∀o∈H,pj n o=aE
def Xl{ρ:Nat->Option Nat}{H:gQ}{n k:Nat}(a:∀u,u<n->ρ u=cp u){d:D}(h:oP n d=aE):ib ρ H (k+1) d=d:=by
 cases d with
 | gR v g sz off len=>simp only[oP,decide_eq_true_eq]at h;rw[EZ,a v h,aeG]
 | ptr v g off=>simp only[oP,decide_eq_true_eq]at h;rw[ata,a v h,as4]
 | im v=>simp only[oP,decide_eq_true_eq]at h;rw[as9,a v h,as3]
 | jF v=>
  simp only[oP,decide_eq_true_eq]at h;rw[ib,if_neg gP];rw[a v h]
 | _=>exact qn h
def Le{ρ:Nat->Option Nat}{H:gQ}{n k:Nat}(a:∀u,u<n->ρ u=cp u){cs:List D}(h:cs.all (oP n)=aE):cs.map (ib ρ H (k+1))=cs:=by
 conv=>rhs;rw[<-bn cs]
 exact au λd b=>Xl a (bf.1 h d b)
def HP{ρ:Nat->Option Nat}{H:gQ}{n k:Nat}(c:∀u,u<n->ρ u=cp u){d:D}(h:kz n d=aE):ib ρ H (k+2) d=d:=by
 cases d with
 | agg cs=>rw[as7,Le c h]
 | tup cs=>rw[atc,Le c h]
 | ie cs=>
  by_cases e:closed (.ie cs)=aE
  .simp_all
  .rw[ib,if_neg e,Le c h]
 | fn f a b=>
  simp only[kz,di]at h
  by_cases e:closed (.fn f a b)=aE
  .simp_all
  .rw[ib,if_neg e,Le c h.1,Le c h.2]
 | _=>exact Xl c h
def as6{ρ:Nat->Option Nat}{H:gQ}{n:Nat}(a:∀u,u<n->ρ u=cp u){o:Ob}(h:pj n o=aE):lG ρ H o=o:=by
 have key:∀ {α:Type} (l:List (α×D)),(l.all λx=>kz n x.2)=aE->(l.map λx=>(x.1,ib ρ H 40 x.2))=l:=by
  intro α l hl
  conv=>rhs;rw[<-bn l]
  exact au λx b=>by have:=bf.1 hl x b;rw[HP a this];rfl
 cases o with
 | row t g cs=>
  simp only[lG];congr 1
  conv=>rhs;rw[<-bn cs]
  exact au λd c=>HP a (bf.1 h d c)
 | map kk es=>simp only[lG];rw[key es h]
 | iV rf env st=>simp only[lG];rw[key env h]
 | uI=>rfl
 | jO m since seen=>simp only[lG];rw[Xl a h]
 | jJ=>rfl
 | dead=>rfl
 | na=>cases h
def HJ{n u:Nat}(h:u<n):iP (jx n []) u=cp u:=by unfold iP jx;rw[ep,az];rw[cG];refine⟨by simpa using h,gP,λj a=>iz⟩
def LZ{n:Nat}{H G:gQ}(b:H.l=n)(h:jZ n H):pJ (jx n []) (H++G)=H:=by
 unfold pJ;refine bN λi=>?_;rw[aw];unfold jx;rw[ep,az,aw]
 by_cases hi:i<n
 .rw[cF hi];simp only[aK,if_true];rw[ah U,List.getElem?_eq_getElem U];simp only;congr 1;have e:((ez n).map λv=>(v,aE))=jx n []:=by unfold jx;simp
  rw[e];exact as6 (λu a=>HJ a) (h _ (cD _))
 .grind
def SQ{n:Nat}{d:D}(h:kz n d=aE):jQ n d = []:=by cases d<;>first|rfl|(simp only[kz,oP,decide_eq_true_eq]at h;simp only[jQ];rw[if_neg U])
theorem flatten_nil{α c:Type}{f:α->List c}:∀ {l:List α},(∀a∈l,f a = [])->(l.map f).flatten = []
 | [],_=>rfl
 | a::l,h=>by rw[ej,bg,h a gP,flatten_nil λb d=>h b (by simp[d])];rfl
def WL{n:Nat}{o:Ob}(h:pj n o=aE):pg n o = []:=by
 cases o with
 | row t g cs=>exact flatten_nil λd b=>SQ (bf.1 h d b)
 | map kk es=>exact flatten_nil λx a=>SQ (bf.1 h x a)
 | _=>rfl
def ahg{n:Nat}{live:List Nat}{env:Env}{H G:gQ}{m:List Nat}{r:Bool}(j:vD live=dx)(h:H.l=n)(e:jZ n H)(d:((forget live env).all λp=>kz n p.2)=aE)(i:(m.all λv=>decide (v<n))=aE) :
  cut n live { env:=env,H:=H++G,marks:=m,iI:=r } = { env:=forget live env,H:=H,marks:=m,iI:=r }:=by
 by_cases hg:(H++G).l<=n
 .have:G = []:=by
   cases G with
   | nil=>rfl
   | cons a l=>simp at hg;omega
  subst this;rw[az];exact Jq (by show H.l<=n;omega)
 .unfold cut;dsimp only;rw[if_neg (by rw[j];simpa using hg)];have s:((forget live env).map λp=>jQ n p.2).flatten = []:=flatten_nil λp b=>SQ (bf.1 d p b)
  have e2:(((H++G).take n).map (pg n)).flatten = []:=flatten_nil λo c=>by rw[aV U,af U]at c;exact WL (e o c)
  have q:m.filter (n<=·) = []:=pK;rw[s,e2,q];have k:dedup (([] ++ [] ++ []:List Nat).filter (· < (H++G).l)) = []:=rfl;rw[k,LZ h e];congr 1
  .conv=>rhs;rw[<-bn (forget live env)]
   exact au λp b=>by rw[HP (λu g=>HJ g) (bf.1 d p b)];rfl
  .conv=>rhs;rw[<-bn m]
   exact au λv f=>by have:=bf.1 i v f;rw[HJ (by simpa using this)];rfl
def acJ{n:Nat}{H G:gQ}{d:D}(f:H.l=n)(c:jZ n H)(g:kz n d=aE):leave 0 n (H++G) d=(d,H):=by
 by_cases hg:(H++G).l<=n
 .have:G = []:=by
   cases G with
   | nil=>rfl
   | cons a l=>simp at hg;omega
  subst this;rw[az];exact acI U 0
 .unfold leave;rw[if_neg U]
  have e2:(((H++G).take n).map (pg n)).flatten = []:=flatten_nil λo b=>by rw[aV U,af U]at b;exact WL (c o b)
  simp only;rw[e2];have h:dedup (([] ++ []:List Nat).filter (· < (H++G).l)) = []:=rfl;rw[h,LZ f c,HP (λu e=>HJ e) g]
def rR{n v:Nat}{H:gQ}{o:Ob}(h:jZ n H)(b:pj n o=aE):jZ n (H.set v o):=λx a=>by
 rcases et a with a|rfl
 .exact h x a
 .exact b
def E3{n:Nat}{d:D}(h:closed d=aE):oP n d=true:=by cases d<;>first|exact h|(cases h;done)|(simp only[closed]at h;cases h)
def E0{n:Nat}{d:D}(h:closed d=aE):kz n d=true:=by
 cases d with
 | agg cs=>exact bf.2 λd c=>E3 (nP (by simpa using h) d c)
 | tup cs=>exact bf.2 λd c=>E3 (nP (by simpa using h) d c)
 | ie cs=>exact bf.2 λd c=>E3 (nP (by simpa using h) d c)
 | fn f a b=>
  simp only[Tu,di]at h;simp only[kz,di];exact⟨bf.2 λd c=>E3 (nP h.1 d c),bf.2 λd c=>E3 (nP h.2 d c)⟩
 | _=>exact E3 (n:=n) h
@[simp] theorem aDX{n:Nat}{d:D}(h:closed d=aE):kz n d=true:=E0 h
@[simp] theorem aD5{n:Nat}{d:D}(h:closed d=aE):oP n d=true:=E3 h
@[simp] theorem aD1(n v g sz off len:Nat):kz n (.gR v g sz off len)=decide (v<n):=rfl
@[simp] theorem aD2(n v g off:Nat):kz n (.ptr v g off)=decide (v<n):=rfl
@[simp] theorem aD0(n v:Nat):kz n (.im v)=decide (v<n):=rfl
@[simp] theorem aDW(n:Nat)(cs:List D):kz n (.agg cs)=cs.all (oP n):=rfl
@[simp] theorem aD3(n:Nat)(cs:List D):kz n (.tup cs)=cs.all (oP n):=rfl
@[simp] theorem aD6(n v g sz off len:Nat):oP n (.gR v g sz off len)=decide (v<n):=rfl
@[simp] theorem aD7(n v g off:Nat):oP n (.ptr v g off)=decide (v<n):=rfl
@[simp] theorem aDY(n:Nat)(f:Fn)(a b:List D):kz n (.fn f a b)=(a.all (oP n)&&b.all (oP n)):=rfl
@[simp] theorem Cs{n t g:Nat}{α:Type}{f:α->List D}{sz:Nat}[F:Fl f sz](l:List α):pj n (.row t g (cl f l))=true:=
 bf.2 λd a=>E0 (nP (uR l) d a)
@[simp high] theorem alv{α:Type}[Inhabited α]{f:α->List D}{sz:Nat}[F:Fl f sz]{l:List α}{t:TypeId}{n:Int}(a:0<sz):zn sz (n.n*sz) (cp (t,cl f l))=if n.n<l.l then cp (.agg (f (gt l n)))else none:=by
 have h:=amu (f:=f) (l:=l) (t:=t) (n:=n) (P:=λd=>d = .agg (f (gt l n))) a;simp only[and_true]at h
 by_cases b:n.n<l.l
 .simp_all
 .rw[if_neg b];unfold zn;dsimp only;rw[if_neg];rw[ue,<-cU,gi a];omega
section
variable{T:jt}{a b:IR}{s:St}{K:jD}{id n:Nat}{live:List Nat}
@[simp ↓] theorem aBO:RZ T b K (.norm s)=Wc T b s K:=(rfl)
@[simp ↓] theorem aBN:RZ T b K (.exit id s)=K (.exit id s):=(rfl)
@[simp ↓] theorem aBP:RZ T b K (.ret s)=K (.ret s):=(rfl)
end
def LJ{α:Type}(E:α->Env)(b:α->gQ)(ms:List Nat)(rd:Bool)(Q:α->Prop)(_:Tag (E,b,ms,rd,Q))(e:Env)(H:gQ)(m:List Nat)(r:Bool):Prop:=
 ∃a,e=E a/\H=b a/\m=ms/\r=rd/\Q a
theorem LJ.e{α:Type}{E:α->Env}{b:α->gQ}{ms:List Nat}{rd:Bool}{Q:α->Prop}{t:Tag (E,b,ms,rd,Q)}{e:Env}{H:gQ}{m:List Nat}{r:Bool}(a:α)(c:Q a)(h1:e=E a:=by first|rfl|simp)(g:H=b a:=by first|rfl|simp)(f:m=ms:=by exact rfl)(d:r=rd:=by exact rfl):LJ E b ms rd Q t e H m r:=⟨a,h1,g,f,d,c⟩
def LJ.i{α:Type}{E:α->Env}{b:α->gQ}{ms:List Nat}{rd:Bool}{Q:α->Prop}{t:Tag (E,b,ms,rd,Q)}{e:Env}{H:gQ}{m:List Nat}{r:Bool}(a:α)(h1:e=E a)(g:H=b a)(f:m=ms)(d:r=rd)(c:Q a):LJ E b ms rd Q t e H m r:=⟨a,h1,g,f,d,c⟩
section
variable{T:jt}{live:List Nat}{a:IR}{s:St}{K:jD}{α:Type}
theorem gZ.k(b:α)(E:α->Env)(c:α->gQ)(P:α->Prop)(d:α->Nat)
  (h0:P b) (l:forget ((E b).map (·.1)) s.env=E b) (j:s.H=c b) (i:s.marks = []) (g:s.iI=dx) (f:(((E b).map (·.1)).all λk=>live.contains k)=aE)
  (h:∀x,P x->XC T a { env:=E x,H:=c x } (vz s.H.l live ((E b).map (·.1)) (LJ E c [] dx (λe=>d e<d x/\P e) .mk) K)):gZ T live a s K .mk:=
 gZ.j b E c P d h0 l j f (by rw[i,g];exact h)
theorem gZ.v(b:α)(E:α->Env)(c:α->gQ)(P:α->Prop)(d:α->Nat)
  (h0:P b) (l:forget ((E b).map (·.1)) s.env=E b) (j:s.H=c b) (i:s.marks = []) (g:s.iI=dx) (f:(((E b).map (·.1)).all λk=>live.contains k)=aE)
  (h:∀x,P x->Wc T (mq a) { env:=E x,H:=c x } (vz s.H.l live ((E b).map (·.1)) (LJ E c [] dx (λe=>d e<d x/\P e) .mk) K)):gZ T live a s K .mk:=
 gZ.w b E c P d h0 l j f (by rw[i,g];exact h)
end
@[simp] theorem ayg{α:Type}{f:α->List D}[Fl f 1](l:List α)(n:Nat):(cl f l).take n=cl f (l.take n):=by simpa using zV (f:=f) l n
@[simp] theorem ayd{α:Type}{f:α->List D}[Fl f 1](l:List α)(n:Nat):(cl f l).drop n=cl f (l.drop n):=by simpa using xG (f:=f) l n
@[simp] theorem aAs(K:List Nat):jx 5 K=(0,aE)::(1,aE)::(2,aE)::(3,aE)::(4,aE)::K.map λv=>(v,aE):=rfl
@[simp] theorem aAt(K:List Nat):jx 6 K=(0,aE)::(1,aE)::(2,aE)::(3,aE)::(4,aE)::(5,aE)::K.map λv=>(v,aE):=rfl
@[simp] theorem aAu(K:List Nat):jx 7 K=(0,aE)::(1,aE)::(2,aE)::(3,aE)::(4,aE)::(5,aE)::(6,aE)::K.map λv=>(v,aE):=rfl
@[simp] theorem aAv(K:List Nat):jx 8 K=(0,aE)::(1,aE)::(2,aE)::(3,aE)::(4,aE)::(5,aE)::(6,aE)::(7,aE)::K.map λv=>(v,aE):=rfl
@[simp] theorem aAw(K:List Nat):jx 9 K=(0,aE)::(1,aE)::(2,aE)::(3,aE)::(4,aE)::(5,aE)::(6,aE)::(7,aE)::(8,aE)::K.map λv=>(v,aE):=rfl
@[simp] theorem aAc(K:List Nat):jx 10 K=(0,aE)::(1,aE)::(2,aE)::(3,aE)::(4,aE)::(5,aE)::(6,aE)::(7,aE)::(8,aE)::(9,aE)::K.map λv=>(v,aE):=rfl
@[simp] theorem aAd(K:List Nat):jx 11 K=(0,aE)::(1,aE)::(2,aE)::(3,aE)::(4,aE)::(5,aE)::(6,aE)::(7,aE)::(8,aE)::(9,aE)::(10,aE)::K.map λv=>(v,aE):=rfl
@[simp] theorem aAe(K:List Nat):jx 12 K=(0,aE)::(1,aE)::(2,aE)::(3,aE)::(4,aE)::(5,aE)::(6,aE)::(7,aE)::(8,aE)::(9,aE)::(10,aE)::(11,aE)::K.map λv=>(v,aE):=rfl
@[simp] theorem aAf(K:List Nat):jx 13 K=(0,aE)::(1,aE)::(2,aE)::(3,aE)::(4,aE)::(5,aE)::(6,aE)::(7,aE)::(8,aE)::(9,aE)::(10,aE)::(11,aE)::(12,aE)::K.map λv=>(v,aE):=rfl
@[simp] theorem aAg(K:List Nat):jx 14 K=(0,aE)::(1,aE)::(2,aE)::(3,aE)::(4,aE)::(5,aE)::(6,aE)::(7,aE)::(8,aE)::(9,aE)::(10,aE)::(11,aE)::(12,aE)::(13,aE)::K.map λv=>(v,aE):=rfl
@[simp] theorem aAh(K:List Nat):jx 15 K=(0,aE)::(1,aE)::(2,aE)::(3,aE)::(4,aE)::(5,aE)::(6,aE)::(7,aE)::(8,aE)::(9,aE)::(10,aE)::(11,aE)::(12,aE)::(13,aE)::(14,aE)::K.map λv=>(v,aE):=rfl
@[simp] theorem aAi(K:List Nat):jx 16 K=(0,aE)::(1,aE)::(2,aE)::(3,aE)::(4,aE)::(5,aE)::(6,aE)::(7,aE)::(8,aE)::(9,aE)::(10,aE)::(11,aE)::(12,aE)::(13,aE)::(14,aE)::(15,aE)::K.map λv=>(v,aE):=rfl
@[simp] theorem aAj(K:List Nat):jx 17 K=(0,aE)::(1,aE)::(2,aE)::(3,aE)::(4,aE)::(5,aE)::(6,aE)::(7,aE)::(8,aE)::(9,aE)::(10,aE)::(11,aE)::(12,aE)::(13,aE)::(14,aE)::(15,aE)::(16,aE)::K.map λv=>(v,aE):=rfl
@[simp] theorem aAk(K:List Nat):jx 18 K=(0,aE)::(1,aE)::(2,aE)::(3,aE)::(4,aE)::(5,aE)::(6,aE)::(7,aE)::(8,aE)::(9,aE)::(10,aE)::(11,aE)::(12,aE)::(13,aE)::(14,aE)::(15,aE)::(16,aE)::(17,aE)::K.map λv=>(v,aE):=rfl
@[simp] theorem aAl(K:List Nat):jx 19 K=(0,aE)::(1,aE)::(2,aE)::(3,aE)::(4,aE)::(5,aE)::(6,aE)::(7,aE)::(8,aE)::(9,aE)::(10,aE)::(11,aE)::(12,aE)::(13,aE)::(14,aE)::(15,aE)::(16,aE)::(17,aE)::(18,aE)::K.map λv=>(v,aE):=rfl
@[simp] theorem aAm(K:List Nat):jx 20 K=(0,aE)::(1,aE)::(2,aE)::(3,aE)::(4,aE)::(5,aE)::(6,aE)::(7,aE)::(8,aE)::(9,aE)::(10,aE)::(11,aE)::(12,aE)::(13,aE)::(14,aE)::(15,aE)::(16,aE)::(17,aE)::(18,aE)::(19,aE)::K.map λv=>(v,aE):=rfl
@[simp] theorem aAn(K:List Nat):jx 21 K=(0,aE)::(1,aE)::(2,aE)::(3,aE)::(4,aE)::(5,aE)::(6,aE)::(7,aE)::(8,aE)::(9,aE)::(10,aE)::(11,aE)::(12,aE)::(13,aE)::(14,aE)::(15,aE)::(16,aE)::(17,aE)::(18,aE)::(19,aE)::(20,aE)::K.map λv=>(v,aE):=rfl
@[simp] theorem aAo(K:List Nat):jx 22 K=(0,aE)::(1,aE)::(2,aE)::(3,aE)::(4,aE)::(5,aE)::(6,aE)::(7,aE)::(8,aE)::(9,aE)::(10,aE)::(11,aE)::(12,aE)::(13,aE)::(14,aE)::(15,aE)::(16,aE)::(17,aE)::(18,aE)::(19,aE)::(20,aE)::(21,aE)::K.map λv=>(v,aE):=rfl
@[simp] theorem aAp(K:List Nat):jx 23 K=(0,aE)::(1,aE)::(2,aE)::(3,aE)::(4,aE)::(5,aE)::(6,aE)::(7,aE)::(8,aE)::(9,aE)::(10,aE)::(11,aE)::(12,aE)::(13,aE)::(14,aE)::(15,aE)::(16,aE)::(17,aE)::(18,aE)::(19,aE)::(20,aE)::(21,aE)::(22,aE)::K.map λv=>(v,aE):=rfl
@[simp] theorem aEF{α:Type}{l:List α}{n:Nat}(h:l.l=n):l.take n=l:=af U
@[simp] theorem aEb(a b:List Pos):D.sl 5 (a.map Pos.cells++b.map Pos.cells)=iZ (a++b):=by unfold iZ;rw[List.map_append]
def Ey{α:Type}(g:α->D)(Q:α->Prop)(d:D)(H:gQ):Prop:=Ex g Q d H
def Ey.i{α:Type}{g:α->D}{Q:α->Prop}{d:D}{H:gQ}(x:α)(h1:d=g x)(b:H = [])(a:Q x):Ey g Q d H:=⟨x,h1,b,a⟩
def Uc(ρ:Nat->Option Nat)(H:gQ)(k off:Nat):Option (TypeId×List D)->D
 | some (_,cs)=>.ie ((cs.drop off).map (ib ρ H k))
 | none=>.any
@[simp] theorem aDG(H:gQ)(k:Nat)(ρ:Nat->Option Nat)(v g off:Nat):LY H k ρ v g off er=Uc ρ H k off (rowAt H v g):=by unfold LY Uc;rfl
@[simp] theorem azp(ρ:Nat->Option Nat)(H:gQ)(k off:Nat)(t:TypeId)(cs:List D):Uc ρ H k off (cp (t,cs)) = .ie ((cs.drop off).map (ib ρ H k)):=rfl
structure GH(H:gQ)(v:Nat):Prop where
 lt:v<H.l
 ok:jZ H.l H
section
variable{H G:gQ}{v:Nat}{o o':Ob}
@[simp] theorem GH.get(h:GH H v):(H.set v o)[v]? = cp o:=aN h.lt
@[simp] theorem GH.jl(h:GH H v):(H.set v o++G)[v]? = cp o:=by rw[ah (by rw[av];exact h.lt)];exact h.get
@[simp] theorem GH.ajC(_:GH H v):(H.set v o++G)[H.l]? = G[0]? := kM
@[simp] theorem GH.as2(_:GH H v):(H.set v o++G).set H.l o'=H.set v o++G.set 0 o':=kM
@[simp high] theorem GH.cut(h:GH H v){live:List Nat}{env:Env}{r:Bool}(c:vD live=dx)(a:pj H.l o=aE)(b:((forget live env).all λp=>kz H.l p.2)=aE) :
  Go.AL.cut H.l live { env:=env,H:=H.set v o++G,marks:=[],iI:=r } = { env:=forget live env,H:=H.set v o,marks:=[],iI:=r }:=ahg c (av ..) (rR h.ok a) b rfl
@[simp] theorem GH.lt_eq(h:GH H v):(v<H.l)=True:=eq_true h.lt
end
@[simp] theorem aCp(n:Nat):jZ n []=True:=eq_true λ_ h=>by cases h
@[simp] theorem aCo(n:Nat)(o:Ob)(r:gQ):jZ n (o::r)=(pj n o=aE/\jZ n r):=propext ⟨λh=>⟨h o gP,λx a=>h x (by simp[a])⟩,λh x a=>by
 rcases ak.1 a with rfl|a
 .exact h.1
 .exact h.2 x a⟩
@[simp] theorem aCu(n t g:Nat)(cs:List D):pj n (.row t g cs)=cs.all (kz n):=rfl
@[simp] theorem aCq(n:Nat):pj n .dead=true:=rfl
@[simp] theorem aCs(n:Nat)(kk:KK)(es:List (Value×D)):pj n (.map kk es)=es.all λx=>kz n x.2:=rfl
@[simp] theorem awC{n:Nat}{α:Type}{f:α->List D}{sz:Nat}[F:Fl f sz](l:List α):(cl f l).all (kz n)=true:=
 bf.2 λd a=>E0 (nP (uR l) d a)
section
variable{H G:gQ}{v k:Nat}{o:Ob}
@[simp] theorem afW:(H++G)[H.l+k]? = G[k]? := by rw[ao U];congr 1;omega
@[simp] theorem awH:(H++G)[H.l]? = G[0]? := by rw[ao U];congr 1;omega
theorem ac0(h:H[v]? = cp o):v<H.l:=kM
end
end Go.AL
namespace Go.Proofs.YtmehofoficaelaaGreatDoor
open Go Go.AL Classical
set_option maxRecDepth 10000
set_option maxHeartbeats 1000000
def al4{n:Int}{k:Nat}(h0:0<=n)(h1:n<=2*k)(a:k<=2):iC n<0↔n=0:=by unfold iC;split<;>omega
def al5{n s:Int}(h:0<=iC n)(hs:0<=s/\s<=1):lg n=1-s↔¬lg n=s:=by
 unfold iC at h;unfold lg;split at h
 .rename_i e;rw[if_pos e];omega
 .omega
def Wl{n s:Int}(h:¬ 0<=iC n)(hs:0<=s/\s<=1):¬lg n=1-s/\¬lg n=s:=by
 unfold iC at h;unfold lg;split at h
 .omega
 .rename_i e;rw[if_neg e];omega
def f228(g:gY)(hg:iE g)(s:il)(hs:lj g s)(x:gT)(i:C3 g x):Wf T 284 [dG g,.agg s.cells,.agg [.i x.1,.i x.2]] [] (Is (lR (jT g s x))):=by
 have o:=hs.p.size;have f:=hs.cur;have l:=hs.p.small hg;have p:=hg.kC.to s.p.side x.2 s.cur;have d:=hs.p.cs _ (ij f.1 U);have a:=hs.p.side;have j:=al4 d.1 d.2 hg.kinds.2;have e:=hs.p.iw;have c:=hg.iw;have m:=i.ok;refine Yg Ow ?_;simp[Ow];refine gU ?_;refine Yc (f51 _) ?_;simp;(with_reducible repeat' first|refine Xk ?_<;>try simp|refine Xs ?_ ?_<;>intro h<;>(try intro q)<;>(try simp[h])<;>try omega|refine Xg ?_|omega)
 .refine Yc (f251 g hg.kC s.p.side x.2 s.cur) ?_;simp;refine Yc (f252 { s with cur:=mK g s.p.side x.2 s.cur } _) ?_;simp;simp[jT,h]
 .refine Yc (f253 g hg s hs x.2) ?_;simp;simp[jT,h]
 .refine Yc (f252 s _) ?_;simp;simp[jT,h,j]
 .refine Yc (f252 s _) ?_;simp;have h1:=al5 km a;simp[jT, *]
 .refine Yc (f252 s _) ?_;simp;have h1:=Wl km a;simp[jT, *]
 .refine Yc (f252 s _) ?_;simp;simp[jT, *]
 .refine Yc (f252 s _) ?_;simp;have h1:=Wl km a;simp[jT, *]
 .refine Yc (f254 g hg s hs) ?_;simp;simp[jT, *]
 .refine Yc (f255 g hg s hs x.2) ?_;simp;simp[jT, *]
 .simp[jT, *]
 .refine Yt (f252 s _) ?_;simp;have k:=Hz c.1 U;have b:=aeg (r:=s.p.iw) (n:=x.2) e.1 U U U;simp[jT,b, *]
 .have k:=Hz c.1 U;have b:=aeh (r:=s.p.iw) (n:=x.2) e.1 U U U;simp[jT,b, *]
def nL(a:List il):List il->List il
 | []=>a
 | x::r=>nL (if x∈a then a else a ++ [x]) r
theorem IT:∀ {b a:List il} {x:il},x∈nL a b↔x∈a\/x∈b
 | [],a,x=>by simp[nL]
 | y::r,a,x=>by
  unfold nL;rw[IT];split<;>simp
  .constructor
   .rintro(h|h)<;>simp[h]
   .rintro(h|rfl|h)<;>simp[*]
  .constructor
   .rintro((h|h)|h)<;>simp[h]
   .rintro(h|rfl|h)<;>simp[*]
theorem IS:∀ {b a:List il},(nL a b).l<=a.l+b.l
 | [],a=>by simp[nL]
 | y::r,a=>by unfold nL;refine Nat.le_trans IS ?_;split<;>simp<;>omega
def as0{H:gQ}{v:Nat}{o:Ob}(h:H[v]? = cp o):H=H.set v o:=by
 refine bN λi=>?_;rw[bI];split
 .rename_i e;subst e;rw[if_pos (ac0 h),h]
 .rfl
def GH.of{H:gQ}{v:Nat}{o:Ob}(a:H[v]? = cp o)(b:jZ H.l H):GH H v:=⟨ac0 a,b⟩
def f227(v gen:Nat)(a b:List il)(H:gQ)(n:H[v]? = cp (.row 373 gen (cl il.cells a)))(t:jZ H.l H)(r:∀s∈a,Small s.p)(o:∀s∈b,Small s.p)(hl:a.l+b.l<2 ^ 39):Wf T 283 [.gR v gen 8 0 a.l,lR b] H (λd H'=>∃q,d = .gR v q 8 0 (nL a b).l/\H'=H.set v (.row 373 q (cl il.cells (nL a b)))):=by
 have hg:=GH.of n t;have z:=hg.lt;refine Yg Ov ?_;simp[Ov];refine gZ.j ((0,gen,a):Int×Nat×List il) (λx=>[(0,.gR v x.2.1 8 0 x.2.2.l),(1,lR b),(5,.i x.1)]) (λx=>H.set v (.row 373 x.2.1 (cl il.cells x.2.2))) (λx=>0<=x.1/\x.1<=b.l/\x.2.2.l<=a.l+x.1.n/\(∀s∈x.2.2,Small s.p)/\nL x.2.2 (b.drop x.1.n)=nL a b) (λx=>b.l-x.1.n) ?_ gP (as0 n) rfl ?_
 .simp;exact r
 rintro⟨i,p,l⟩ ⟨h0,h1,u,f,c⟩;dsimp only at h0 h1 u f c ⊢;simp;refine ma ?_ ?_<;>intro h
 .refine gZ.j ((0,dx):Int×Bool) (λx=>[(0,.gR v p 8 0 l.l),(1,lR b),(5,.i i),(6,.b x.2),(7,.i x.1)]) (λx=>H.set v (.row 373 p (cl il.cells l))) (λx=>0<=x.1/\x.1<=l.l/\x.2=decide (gt b i∈l.take x.1.n)) (λx=>l.l-x.1.n) ?_ gP rfl rfl ?_
  .simp
  rintro⟨k,m⟩ ⟨g,w,j⟩;dsimp only at g w j ⊢;simp[hg];(with_reducible repeat' first|refine Xk ?_<;>try simp[hg]|refine Xs ?_ ?_<;>intro h<;>(try intro A)<;>(try simp[h,hg])<;>try omega|refine Xg ?_|omega)
  .rw[jP g km];simp_all
  .refine Yt (f250 _ _ (f _ (ij g km)) (o _ (ij h0 km))) ?_;simp;simp only[h,cond_false];refine oO ⟨k+1,?_⟩;rw[jP g km]
   by_cases e:gt l k=gt b i
   .right;simp[e];omega
   .left;simp_all;exact iQ (λy=>e y.symm)
  .refine⟨i+1,l,rfl,rfl,rfl,U,U,U,U,f,?_⟩;rw[<-c,pa h0 km,nL,(U:(i+1).n=i.n+1)];rw[if_pos];rw[j,nf U]at h;simpa using h
  .refine⟨i+1,l ++ [gt b i],gP,rfl,gP,U,U,U,iz,?_,?_⟩
   .intro s hs;simp at hs;rcases hs with hs|rfl
    .exact f s hs
    .exact o _ (ij h0 km)
   .rw[<-c,pa h0 km,nL,(U:(i+1).n=i.n+1)];rw[if_neg];rw[j,nf U]at h;simpa using h
 .rw[bE U]at c;have e:nL l []=l:=rfl;rw[e]at c;rw[<-c];exact⟨rfl,rfl⟩
