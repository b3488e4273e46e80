/- Part 11 of DisputeWorkers. -/
import Derived.Test.YtmehofoficaelaaGreatDoorW10
import Derived.Test.YtmehofoficaelaaGreatDoorW08
set_option linter.all false
namespace Go.AL
def kR(a b:Int):Int:=if a<b then -1 else if a>b then 1 else 0
def kN:List Int->List Int->Int
 | [],[]=>0
 | [],_::_ => -1
 | _::_,[]=>1
 | a::l,b::m=>if a=b then kN l m else kR a b
def ny:List Int->Int
 | []=>0
 | a::l=>if a≠0 then a else ny l
def iE(p q:Pos):Int:=ny [kN p.cs q.cs,kN p.h0 q.h0,kN p.h1 q.h1,kR p.gL q.gL,kR p.side q.side]
theorem yK{a b:Int}:kR a b=0↔a=b:=by unfold kR;(repeat' split)<;>omega
theorem EF{a b:Int}:kR a b<0↔a<b:=by unfold kR;(repeat' split)<;>omega
theorem Oy(a b:Int):kR b a = - kR a b:=by unfold kR;(repeat' split)<;>omega
theorem Om:∀ {a b:List Int},kN a b=0↔a=b
 | [],[]=>by simp[kN]
 | [],_::_=>by simp[kN]
 | _::_,[]=>by simp[kN]
 | a::l,b::m=>by
  unfold kN;split
  .rename_i h;subst h;rw[Om];simp
  .rename_i h;rw[yK];simp[h]
theorem Oj:∀(a b:List Int),kN b a = - kN a b
 | [],[]=>rfl
 | [],_::_=>rfl
 | _::_,[]=>rfl
 | a::l,b::m=>by
  unfold kN
  by_cases h:a=b
  .subst h;simp[Oj l m]
  .rw[if_neg h,if_neg (cu h),Oy]
theorem Ol:∀ {a b c:List Int},kN a b<0->kN b c<0->kN a c<0
 | [],[],c,h,_=>by simp[kN]at h
 | _::_,[],c,h,_=>by simp[kN]at h
 | a,_::_,[],_,h=>by simp[kN]at h
 | [],_::_,_::_,_,_=>by simp[kN]
 | a::l,b::m,c::k,h1,h2=>by
  unfold kN at *
  by_cases e:a=b
  .subst e;rw[if_pos rfl]at h1
   by_cases d:a=c
   .subst d;rw[if_pos rfl]at h2 ⊢;exact Ol h1 h2
   .rw[if_neg d]at h2 ⊢;exact h2
  .rw[if_neg e,EF]at h1
   by_cases d:b=c
   .subst d;rw[if_neg e,EF];exact h1
   .rw[if_neg d,EF]at h2;rw[if_neg (by omega),EF];omega
theorem Qr:∀ {l:List Int},ny l=0↔∀x∈l,x=0
 | []=>by simp[ny]
 | a::l=>by
  unfold ny;split
  .rename_i h;simp[h]
  .rename_i h;rw[Qr];simp_all
theorem rO{p q:Pos}:iE p q=0↔p=q:=by unfold iE;rw[Qr];cases p;cases q;simp[Om,yK]
theorem vj(p:Pos):iE p p=0:=rO.2 rfl
theorem vm(p q:Pos):iE q p = - iE p q:=by unfold iE ny;rw[Oj p.cs,Oj p.h0,Oj p.h1,Oy p.gL,Oy p.side];simp only[ny];(repeat' split)<;>omega
theorem Bl{A B C:Int}{a b c:List Int}(h1:A=0->C=B)(g:B=0->C=A)(f:A<0->B<0->C<0)(h:ny a<0->ny b<0->ny c<0):ny (A::a)<0->ny (B::b)<0->ny (C::c)<0:=by
 unfold ny;intro x y
 by_cases e:A=0
 .have:=h1 e;subst this;rw[if_neg (by simpa using e)]at x
  by_cases d:C=0
  .rw[if_neg (by simpa using d)]at y ⊢;exact h x y
  .rw[if_pos d]at y ⊢;exact y
 .rw[if_pos e]at x
  by_cases d:B=0
  .have:=g d;subst this;rw[if_pos e];exact x
  .rw[if_pos d]at y;have:=f x y;rw[if_pos (by omega)];exact this
theorem zu{p q r:Pos}:iE p q<0->iE q r<0->iE p r<0:=by
 have key:∀a b c:List Int,kN a b=0->kN a c=kN b c:=λa b c h=>by rw[Om.1 h]
 have d:∀a b c:List Int,kN b c=0->kN a c=kN a b:=λa b c h=>by rw[Om.1 h]
 have n1:∀a b c:Int,kR a b=0->kR a c=kR b c:=λa b c h=>by rw[yK.1 h]
 have n2:∀a b c:Int,kR b c=0->kR a c=kR a b:=λa b c h=>by rw[yK.1 h]
 have e:∀a b c:Int,kR a b<0->kR b c<0->kR a c<0:=λa b c=>by simp only[EF];omega
 unfold iE;refine Bl (key _ _ _) (d _ _ _) Ol (Bl (key _ _ _) (d _ _ _) Ol (Bl (key _ _ _) (d _ _ _) Ol (Bl (n1 _ _ _) (n2 _ _ _) (e _ _ _) (Bl (n1 _ _ _) (n2 _ _ _) (e _ _ _) λh=>?_))));simp[ny]at h
theorem Zg{a b:List Int}:∀ {i:Nat},a.take i=b.take i->i<=a.length->i<=b.length->kN a b=kN (a.drop i) (b.drop i):=by
 intro i
 induction i generalizing a b with
 | zero=>intro _ _ _;rfl
 | succ i d=>
  intro h h1 c
  cases a with
  | nil=>simp at h1
  | cons x a=>
   cases b with
   | nil=>simp at c
   | cons y b=>
    simp only[List.take_succ_cons,cY]at h;simp only[aJ]at h1 c;simp only[List.drop_succ_cons,kN,h.1,if_true];exact d h.2 (by omega) (by omega)
theorem SA{a b:List Int}(h:a.length=0\/b.length=0):kN a b=kR a.length b.length:=by
 cases a<;>cases b<;>simp_all [kN,kR]
 all_goals omega
theorem Vo{p q r:Pos}(h1:iE p q<=0)(c:iE q r<=0):iE p r<=0:=by
 by_cases a:iE p q=0
 .rw[rO.1 a];exact c
 .by_cases b:iE q r=0
  .rw[<-rO.1 b];exact h1
  .exact eF (zu (show iE p q<0 by omega) (show iE q r<0 by omega))
def WS(l:List Pos):Prop:=l.Pairwise λx y=>iE x y<=0
def Small(p:Pos):Prop:=p.cs.length<2 ^ 40/\p.h0.length<2 ^ 40/\p.h1.length<2 ^ 40
def kU(l:List Pos):Prop:=∀i:Int,1<=i->i<l.length->iE (gt l (i-1)) (gt l i)<0
theorem kU.lt{l:List Pos}(h:kU l){i:Int}(h0:0<=i):∀ {n:Nat},i<n->(n:Int)<l.length->iE (gt l i) (gt l n)<0
 | 0,h1,_=>by omega
 | n+1,h1,h2=>by
  have:=h (n+1) (by omega) (by omega);rw[dR]at this
  by_cases e:i=n
  .subst e;exact this
  .exact zu (h.lt h0 (by omega) (by omega)) this
theorem kU.le{l:List Pos}(h:kU l){i j:Int}(h0:0<=i)(h1:i<j)(a:j<l.length):iE (gt l i) (gt l j)<0:=by have:=h.lt h0 (n:=j.toNat) (by omega) (by omega);rwa [b7 (by omega)]at this
theorem kU.inj{l:List Pos}(h:kU l){i j:Int}(h0:0<=i)(h1:i<l.length)(d:0<=j)(c:j<l.length)(e:gt l i=gt l j):i=j:=by
 by_cases a:i<j
 .have:=h.le h0 a c;rw[e,vj]at this;omega
 .by_cases b:j<i
  .have:=h.le d b h1;rw[e,vj]at this;omega
  .omega
def pO(l:List Pos)(p:Pos):Int:=if p∈l then(l.idxOf p:Int)else -1
theorem WC{l:List Pos}{p:Pos}(h:p ∉ l):pO l p = -1:=if_neg h
theorem Gx{l:List Pos}{p:Pos}(h:p∈l):0<=pO l p/\pO l p<l.length/\gt l (pO l p)=p:=by unfold pO;rw[if_pos h];have hi:l.idxOf p<l.length:=List.idxOf_lt_length_iff.2 h;refine p9 ?_;rw[Bp hi];exact List.getElem_idxOf hi
theorem ae7{l:List Pos}(hs:kU l){i:Int}(h0:0<=i)(h1:i<l.length):pO l (gt l i)=i:=by obtain⟨a,b,c⟩:=Gx (gy h0 h1);exact hs.inj a b h0 h1 c
end Go.AL
namespace Go.AL
open Go
def pt{α:Type}(l:List α)(n:Int)(v:α):List α:=l.take n.toNat++v::l.drop (n.toNat+1)
section
variable{α:Type}[Inhabited α]{l:List α}{n k:Int}{v:α}
theorem Ix(h0:0<=n)(h:n<l.length):pt l n v=l.set n.toNat v:=by rw[pt,bY,if_pos (by omega)]
theorem iP(h0:0<=n)(h:n<l.length):(pt l n v).length=l.length:=by rw[Ix h0 h,ao]
theorem pR(h0:0<=n)(h:n<l.length)(a:0<=k):gt (pt l n v) k=if k=n then v else gt l k:=by
 rw[Ix h0 h];unfold gt;simp only[List.getD_eq_getElem?_getD,bW]
 by_cases e:k=n
 .subst e;rw[if_pos rfl,if_pos rfl,if_pos (by omega)];rfl
 .rw[if_neg (by omega),if_neg e]
theorem DG(h0:0<=n)(h:n<l.length):gt (pt l n v) n=v:=by rw[pR h0 h h0,if_pos rfl]
theorem W3(h0:0<=n)(h:n<l.length)(a:0<=k)(e:k≠n):gt (pt l n v) k=gt l k:=by rw[pR h0 h a,if_neg e]
theorem Zz{x:α}(h:x∈pt l n v):x=v\/x∈l:=by
 unfold pt at h;simp only[List.mem_append,av]at h;rcases h with h|h|h
 .exact .inr (aW h)
 .exact .inl h
 .exact .inr (bw h)
end
@[simp] theorem axL{α:Type}(l:List α)(n:Int)(v:α):l.take n.toNat++v::l.drop (n.toNat+1)=pt l n v:=(rfl)
def mf(g:gi)(s d c:Int):Int:=
 if s<0\/s>1\/d<0\/d>=g.next.length\/c<0\/c>=g.size then -1 else gt (gt g.next (if s=1 then gt g.jy d else d)) c
structure oM(g:gi):Prop where
 size:1<=g.size/\g.size<=9
 next:g.next.length=8
 row:∀l∈g.next,(l.length:Int)=g.size/\∀x∈l,-1<=x/\x<g.size
 jy:g.jy.length=8
 turns:∀d,0<=d->d<8->0<=gt g.jy d/\gt g.jy d<8/\gt g.jy (gt g.jy d)=d
theorem oM.to{g:gi}(h:oM g)(s d c:Int) : -1<=mf g s d c/\mf g s d c<g.size:=by
 have:=h.size;unfold mf;split
 .omega
 .rename_i e;have f:=h.next
  simp only[not_or,e7,Int.not_le,gt_iff_lt,ge_iff_le]at e
  have b:0<=(if s=1 then gt g.jy d else d)/\(if s=1 then gt g.jy d else d)<8:=by
   split
   .have:=h.turns d (by omega) (by omega);omega
   .omega
  have a:=h.row _ (gy (l:=g.next) b.1 (by omega));exact a.2 _ (gy (by omega) (by omega))
structure FJ(g:gi)(x:fZ):Prop where
 ok:((x.1=1\/x.1=2\/x.1=7)/\0<=x.2/\x.2<8)\/(3<=x.1/\x.1<=6/\x.2=0)\/(x.1=8/\0<=x.2/\x.2<g.kinds.length)\/((x.1=9\/x.1=10)/\0<=x.2/\x.2<g.gL)
def oO(l:List fZ)(op:Int):Int:=(l.countP λx=>x.1=op:Nat)
structure xM(g:gi)(l:List fZ):Prop where
 len:1<=l.length/\l.length<=8
 steps:∀x∈l,FJ g x
 uz:oO l 6<=2
 push:oO l 7<=1
 Ms:oO l 8<=1
structure CT(g:gi)(c:Clause):Prop where
 ok:(c.cond=1/\0<=c.kind/\c.kind<g.kinds.length/\c.n=0)\/(c.cond=2/\0<=c.kind/\c.kind<g.kinds.length/\0<=c.n/\c.n<g.size)\/(c.cond=3/\c.kind=0/\0<=c.n/\c.n<=64)
 out:1<=c.out/\c.out<=3
def kindName(n:Int):ByteArray:=if n=0 then⟨#[97]⟩else⟨#[98,101,101]⟩
structure gV(g:gi):Prop where
 jJ:oM g
 kinds:1<=g.kinds.length/\g.kinds.length<=2
 names:∀k:Int,0<=k->k<g.kinds.length->(gt g.kinds k).name=kindName k
 jt:∀k∈g.kinds,k.jt.length<=4/\∀l∈k.jt,xM g l
 gL:0<=g.gL/\g.gL<=2
 clauses:g.clauses.length<=3
 clause:∀c∈g.clauses,CT g c
 blocked:1<=g.blocked/\g.blocked<=3
 vo:1<=g.vo/\g.vo<=3
structure sn(g:gi)(l:List Int):Prop where
 len:l.length=g.kinds.length
 at_:∀k:Int,0<=k->k<l.length->0<=gt l k/\gt l k<=8/\(0<gt l k->(gt g.kinds k).keep=true)
structure iw(g:gi)(p:Pos):Prop where
 size:(p.cs.length:Int)=g.size
 h0:sn g p.h0
 h1:sn g p.h1
 gL:0<=p.gL/\p.gL<2 ^ g.gL.toNat
 side:0<=p.side/\p.side<=1
 cs:∀x∈p.cs,0<=x/\x<=2*g.kinds.length
def gJ(n:Int):Int:=if 1<=n/\n<=12 then(n-1) / 2 else -1
def jY(n:Int):Int:=if 1<=n/\n<=12 then(n-1) % 2 else -1
def lQ(k s:Int):Int:=1+2*k+s
def ub(g:gi)(s d c:Int):Nat->Int->List Int->List Int
 | 0,_,out=>out
 | n+1,x,out=>if 0<=x/\x≠c/\x ∉ out then ub g s d c n (mf g s d x) (out ++ [x])else out
def lB(g:gi)(s d c:Int):List Int:=ub g s d c 10 (mf g s d c) []
theorem Zc{g:gi}(hg:oM g){s d c:Int}:∀(n:Nat) (x:Int) (out:List Int),x<g.size->(∀y∈out,0<=y/\y<g.size)->∀y∈ub g s d c n x out,0<=y/\y<g.size
 | 0,x,out,_,h,y,hy=>h y hy
 | n+1,x,out,hx,h,y,hy=>by
  unfold ub at hy;split at hy
  .rename_i e;refine Zc hg n _ _ (hg.to _ _ _).2 (λz a=>?_) y hy;simp only[List.mem_append,List.mem_singleton]at a;rcases a with a|a
   .exact h z a
   .omega
  .exact h y hy
theorem Sy{g:gi}(hg:oM g){s d c y:Int}(h:y∈lB g s d c):0<=y/\y<g.size:=Zc hg _ _ _ (hg.to _ _ _).2 (by simp) y h
theorem Av:∀(n:Nat) (l:List Int),l.Nodup->(∀y∈l,0<=y/\y<n)->l.length<=n
 | 0,[],_,_=>by simp
 | 0,a::l,_,h=>by have:=h a (by simp);omega
 | n+1,l,hn,h=>by
  by_cases e:(n:Int)∈l
  .have h1:(l.erase (n:Int)).length<=n:=Av n _ (hn.erase _) λy b=>by have:=(hn.mem_erase_iff).1 b;have:=h y this.2;omega
   rw[fr e]at h1;omega
  .have:=Av n l hn λy b=>by have:=h y b;have:y≠n:=λc=>e (c▸b);omega
   omega
structure gv where
 p:Pos
 kind:Int
 cur:Int
 jN:Bool
 deriving DecidableEq,Inhabited
def gv.cells(s:gv):List D:=[dI s.p.cs,dI s.p.h0,dI s.p.h1,.i s.p.gL,.i s.p.side,.i s.kind,.i s.cur,.b s.jN]
structure kn(g:gi)(s:gv):Prop where
 p:iw g s.p
 kind:0<=s.kind/\s.kind<g.kinds.length
 cur:0<=s.cur/\s.cur<g.size
def Pos.hand(p:Pos)(s:Int):List Int:=if s=0 then p.h0 else p.h1
def Pos.mY(p:Pos)(s:Int)(l:List Int):Pos:=if s=0 then{ p with h0:=l }else{ p with h1:=l }
def qo(s:gv):List Int->List gv
 | []=>[]
 | c::r=>{ s with cur:=c }::if gt s.p.cs c=0 then qo s r else []
def tv(g:gi)(s:gv):List gv:=
 let c:=gt s.p.cs s.cur
 if jY c≠1-s.p.side then []else
  let p:={ s.p with cs:=pt s.p.cs s.cur 0 }
  if (gt g.kinds (gJ c)).keep=false then [{ s with p:=p,jN:=true }]else
   let n:=gt (s.p.hand s.p.side) (gJ c)+1
   if n<=8 then [{ s with p:=p.mY s.p.side (pt (s.p.hand s.p.side) (gJ c) n),jN:=true }]else []
def uo(g:gi)(s:gv)(n:Int):List gv:=
 let to:=mf g s.p.side n s.cur
 if gt s.p.cs s.cur=0\/to<0\/gt s.p.cs to≠0 then []else
  [{ s with p:={ s.p with cs:=pt (pt s.p.cs to (gt s.p.cs s.cur)) s.cur 0 } }]
def BD(r n:Int):Prop:=r / 2 ^ n.toNat % 2=1
instance(r n:Int):Decidable (BD r n):=by unfold BD;infer_instance
def dropRight(r n:Int):Int:=if BD r n then r-2 ^ n.toNat else r
theorem TI{b:Int}(h0:0<=b)(h:b<=4):yS .i64 1 b=2 ^ b.toNat:=by
 have:b=0\/b=1\/b=2\/b=3\/b=4:=by omega
 rcases this with rfl|rfl|rfl|rfl|rfl<;>decide
theorem ZH{r:Int}(h0:0<=r)(h:r<16):∃i:Fin 16,r=(i.val:Int):=⟨⟨r.toNat,by omega⟩,by simp;omega⟩
theorem ZI{r:Int}(h0:0<=r)(h:r<4):∃i:Fin 4,r=(i.val:Int):=⟨⟨r.toNat,by omega⟩,by simp;omega⟩
theorem aax:∀(i:Fin 16) (k:Fin 4),(bits .and .i64 (my .i64 (i.val:Int) (k.val:Int)) 1=1↔BD (i.val:Int) (k.val:Int))/\bits .andNot .i64 (i.val:Int) (yS .i64 1 (k.val:Int))=dropRight (i.val:Int) (k.val:Int):=by decide +kernel
theorem aav{r n:Int}(h0:0<=r)(h1:r<16)(b:0<=n)(a:n<4):(bits .and .i64 (my .i64 r n) 1=1)=BD r n:=by obtain⟨i,rfl⟩:=ZH h0 h1;obtain⟨k,rfl⟩:=ZI b a;exact propext (aax i k).1
theorem aaw{r n:Int}(h0:0<=r)(h1:r<16)(b:0<=n)(a:n<4):bits .andNot .i64 r (yS .i64 1 n)=dropRight r n:=by obtain⟨i,rfl⟩:=ZH h0 h1;obtain⟨k,rfl⟩:=ZI b a;exact(aax i k).2
theorem EJ{b:Int}(h0:0<=b)(h:b<=4):(2:Int) ^ b.toNat<=16:=by
 have:b=0\/b=1\/b=2\/b=3\/b=4:=by omega
 rcases this with rfl|rfl|rfl|rfl|rfl<;>decide
def jd(g:gi)(s:gv)(x:fZ):List gv:=
 let c:=gt s.p.cs s.cur
 if x.1=1 then(let to:=mf g s.p.side x.2 s.cur;if 0<=to then [{ s with cur:=to }]else [])
 else if x.1=2 then qo s (lB g s.p.side x.2 s.cur)
 else if x.1=3 then(if c=0 then [s]else [])
 else if x.1=4 then(if jY c=1-s.p.side then [s]else [])
 else if x.1=5 then(if jY c=s.p.side then [s]else [])
 else if x.1=6 then tv g s
 else if x.1=7 then uo g s x.2
 else if x.1=8 then [{ s with kind:=x.2 }]
 else if x.1=9 then(if BD s.p.gL x.2 then [s]else [])
 else [{ s with p:={ s.p with gL:=dropRight s.p.gL x.2 } }]
def tm(g:gi):List fZ->List gv->List gv
 | [],l=>l
 | x::r,l=>tm g r (l.flatMap λs=>jd g s x)
def lD(p:Pos)(cell:Int):gv:={ p:={ p with cs:=pt p.cs cell 0 },kind:=gJ (gt p.cs cell),cur:=cell,jN:=false }
structure gQ where
 p:Pos
 jN:Bool
 deriving DecidableEq,Inhabited
def gQ.cells(o:gQ):List D:=[dI o.p.cs,dI o.p.h0,dI o.p.h1,.i o.p.gL,.i o.p.side,.b o.jN]
def oD(side:Int)(s:gv):Option gQ:=
 if gt s.p.cs s.cur=0 then some { p:={ s.p with cs:=pt s.p.cs s.cur (lQ s.kind side),side:=1-side },jN:=s.jN }else none
def u0(g:gi)(p:Pos)(cell:Int)(l:List fZ):List gQ:=(tm g l [lD p cell]).filterMap (oD p.side)
def upto(n:Nat):List Int:=(List.range n).map λk:Nat=>(k:Int)
theorem jc{n:Nat}{k:Int}:k∈upto n↔0<=k/\k<n:=by
 simp only[upto,ar,bj];constructor
 .rintro⟨a,h,rfl⟩;omega
 .intro h;exact⟨k.toNat,by omega,by omega⟩
def p8(g:gi)(p:Pos)(c:Int):List gQ:=if jY (gt p.cs c)=p.side then(gt g.kinds (gJ (gt p.cs c))).jt.flatMap (u0 g p c)else []
def qp(g:gi)(p:Pos):List gQ:=(upto p.cs.length).flatMap (p8 g p)
def kl(p:Pos)(k c:Int):Pos:={ p.mY p.side (pt (p.hand p.side) k (gt (p.hand p.side) k-1))with cs:=pt p.cs c (lQ k p.side),side:=1-p.side }
def zg(g:gi)(p q:Pos):Prop:=∃k c:Int,0<=k/\k<g.kinds.length/\0<=c/\c<p.cs.length/\gt (p.hand p.side) k≠0/\gt p.cs c=0/\q=kl p k c
def sL(p:Pos)(side kind:Int):Int:=(p.cs.countP λc=>0<=gJ c/\jY c=side/\(kind<0\/gJ c=kind):Nat)
def kX(p:Pos)(c:Clause):Prop:=
 if c.cond=1 then sL p p.side c.kind=0 else if c.cond=2 then gt p.cs c.n=lQ c.kind (1-p.side)else sL p p.side (-1)<=c.n
def rH(g:gi)(p q:Pos):Prop:=
 (∀c∈g.clauses,¬kX p c) /\
 if g.oK=true/\(∃o∈qp g p,o.jN=true)then⟨q,true⟩∈qp g p else(∃o∈qp g p,o.p=q)\/zg g p q
theorem iw.small{g:gi}(hg:gV g){p:Pos}(h:iw g p):Small p:=by have h1:=h.size;have d:=hg.jJ.size;have c:=h.h0.len;have b:=h.h1.len;have a:=hg.kinds;exact mI
theorem iw.hand{g:gi}{p:Pos}(h:iw g p)(s:Int):sn g (p.hand s):=by
 unfold Pos.hand;split
 .exact h.h0
 .exact h.h1
theorem iw.mY{g:gi}{p:Pos}(h:iw g p)(s:Int){l:List Int}(hl:sn g l):iw g (p.mY s l):=by
 unfold Pos.mY;split
 .exact{ h with h0:=hl }
 .exact{ h with h1:=hl }
theorem iw.CG{g:gi}{p:Pos}(h:iw g p){c v:Int}(d:0<=c)(e:c<g.size)(b:0<=v/\v<=2*g.kinds.length):iw g { p with cs:=pt p.cs c v }:=
 { h with
  size:=by dsimp only;rw[iP d (by rw[h.size];exact e)];exact h.size
  cs:=λx a=>by
   rcases Zz a with rfl|a
   .exact b
   .exact h.cs x a }
theorem sn.set{g:gi}{l:List Int}(h:sn g l){k v:Int}(b:0<=k)(a:k<l.length)(c:0<=v/\v<=8/\(0<v->(gt g.kinds k).keep=true)):sn g (pt l k v) where
 len:=by rw[iP b a];exact h.len
 at_ j hj NM:=by
  rw[iP b a]at NM;rw[pR b a hj];split
  .rename_i e;subst e;exact c
  .exact h.at_ j hj NM
theorem yG{n:Int}{g:gi}(h:n<=2*g.kinds.length)(a:1<=g.kinds.length):gJ n<g.kinds.length:=by unfold gJ;split<;>omega
theorem Ic{n s:Int}(hs:0<=s)(h:jY n=s):0<=gJ n/\1<=n/\n<=12/\n=lQ (gJ n) s:=by
 unfold jY at h;unfold gJ lQ;split at h<;>rename_i e
 .rw[if_pos e];omega
 .omega
theorem adk{r n k:Int}(h:0<=r)(a:r<2 ^ k.toNat):0<=dropRight r n/\dropRight r n<2 ^ k.toNat:=by
 unfold dropRight;split
 .rename_i e;unfold BD at e;have b:(0:Int)<2 ^ n.toNat:=Int.pow_pos (by decide)
  have:2 ^ n.toNat<=r:=by
   by_cases c:r<2 ^ n.toNat
   .rw[ec h c]at e;simp at e
   .omega
  omega
 .exact⟨h,a⟩
theorem Zf{s t:gv}:∀ {l:List Int},t∈qo s l->∃c∈l,t = { s with cur:=c }
 | [],h=>by simp[qo]at h
 | c::r,h=>by
  unfold qo at h;rcases av.1 h with h|h
  .exact⟨c,by simp,h⟩
  .split at h
   .obtain⟨c',h1,a⟩:=Zf h;exact⟨c',by simp[h1],a⟩
   .cases h
theorem CQ{g:gi}(hg:gV g){s:gv}(hs:kn g s){x:fZ}(k:FJ g x){t:gv}(h:t∈jd g s x):kn g t:=by
 have d:=hg.jJ;have j:s.cur<s.p.cs.length:=by rw[hs.p.size];exact hs.cur.2
 have i:=hs.p.cs _ (gy hs.cur.1 j);unfold jd at h;dsimp only at h;split at h
 .split at h
  .rename_i h0;rw[List.mem_singleton]at h;subst h;exact{ hs with cur:=⟨h0,(d.to _ _ _).2⟩ }
  .cases h
 split at h
 .obtain⟨c,h1,rfl⟩:=Zf h;exact{ hs with cur:=Sy d h1 }
 iterate 3
  split at h
  .split at h
   .rw[List.mem_singleton]at h;subst h;exact hs
   .cases h
 split at h
 .unfold tv at h;dsimp only at h;split at h
  .cases h
  rename_i e;have e:=Decidable.not_not.1 e;have l:=hs.p.side;obtain⟨m1,m2,m3,m4⟩:=Ic (by omega) e;have a:gJ (gt s.p.cs s.cur)<g.kinds.length:=yG i.2 hg.kinds.1;have f:iw g { s.p with cs:=pt s.p.cs s.cur 0 }:=hs.p.CG hs.cur.1 hs.cur.2 (by omega);split at h
  .rw[List.mem_singleton]at h;subst h;exact{ hs with p:=f }
  rename_i kp;split at h
  .rename_i n;rw[List.mem_singleton]at h;subst h;have b:=hs.p.hand s.p.side;have hl:=b.len;have m:=b.at_ _ m1 (by rw[hl];exact a);exact{ hs with p:=f.mY _ (b.set m1 (by rw[hl];exact a) (p9 (λ_=>by simpa using kp))) }
  .cases h
 split at h
 .unfold uo at h;dsimp only at h;split at h
  .cases h
  rename_i e;simp only[not_or,e7]at e;rw[List.mem_singleton]at h;subst h;have h1:=hs.p.CG (c:=mf g s.p.side x.2 s.cur) (v:=gt s.p.cs s.cur) e.2.1 (d.to _ _ _).2 i;exact{ hs with p:=h1.CG hs.cur.1 hs.cur.2 (by omega) }
 split at h
 .rename_i o;rw[List.mem_singleton]at h;subst h;have a:0<=x.2/\x.2<g.kinds.length:=by have:=k.ok;omega
  exact{ hs with kind:=a }
 split at h
 .split at h
  .rw[List.mem_singleton]at h;subst h;exact hs
  .cases h
 .rw[List.mem_singleton]at h;subst h;exact{ hs with p:={ hs.p with gL:=adk hs.p.gL.1 hs.p.gL.2 } }
theorem OX{g:gi}(hg:gV g):∀ {l:List fZ} {a:List gv},(∀x∈l,FJ g x)->(∀s∈a,kn g s)->∀s∈tm g l a,kn g s
 | [],_,_,h,s,hs=>h s hs
 | x::r,a,hx,h,s,hs=>by refine OX (a:=a.flatMap λs=>jd g s x) hg (λy c=>hx y (by simp[c])) (λt b=>?_) s hs;obtain⟨u,d,b⟩:=bM.1 b;exact CQ hg (h u d) (hx x (by simp)) b
theorem aaK{g:gi}:∀ {l:List fZ} {a b:List gv},(∀s,s∈a↔s∈b)->∀s,s∈tm g l a↔s∈tm g l b
 | [],_,_,h,s=>h s
 | x::r,a,b,h,s=>aaK (l:=r) (λt=>by simp only[bM,h]) s
theorem I3{g:gi}(hg:gV g){p:Pos}(a:iw g p){c:Int}(h0:0<=c)(h1:c<g.size)(b:jY (gt p.cs c)=p.side):kn g (lD p c):=by have d:=a.cs _ (gy h0 (by rw[a.size];exact h1));exact{ p:=a.CG h0 h1 (by omega),kind:=⟨(Ic a.side.1 b).1,yG d.2 hg.kinds.1⟩,cur:=⟨h0,h1⟩ }
theorem Nd{g:gi}{s:gv}(hs:kn g s){side:Int}(h0:0<=side)(h1:side<=1){o:gQ}(h:oD side s=some o):iw g o.p:=by
 unfold oD at h;split at h
 .cases h;have:=hs.kind;exact{ hs.p.CG hs.cur.1 hs.cur.2 (v:=lQ s.kind side) (by unfold lQ;omega)with side:=by dsimp only;omega }
 .cases h
theorem OH{g:gi}(hg:gV g){p:Pos}(a:iw g p){o:gQ}(h:o∈qp g p):iw g o.p:=by
 obtain⟨c,b,h⟩:=bM.1 h;rw[jc,a.size]at b;unfold p8 at h;split at h
 .rename_i e;obtain⟨l,hl,h⟩:=bM.1 h;obtain⟨s,hs,h⟩:=cU.1 h;have d:=I3 hg a b.1 b.2 e;have i:=hg.jt _ (gy (l:=g.kinds) d.kind.1 d.kind.2);exact Nd (OX hg (i.2 l hl).steps (λt f=>by rw[List.mem_singleton]at f;subst f;exact d) s hs) a.side.1 a.side.2 h
 .cases h
theorem Gk{g:gi}{p:Pos}(a:iw g p){q:Pos}(h:zg g p q):iw g q:=by
 obtain⟨k,c,h1,o,i,n,m,l,rfl⟩:=h;have b:=a.hand p.side;have hl:=b.len;have f:=b.at_ k h1 (by omega);have hs:=a.side;have j:=a.size;have d:=(a.mY p.side (b.set h1 (v:=gt (p.hand p.side) k-1) (by omega) (p9 (λ_=>f.2.2 (by omega)))));have e:(p.mY p.side (pt (p.hand p.side) k (gt (p.hand p.side) k-1))).cs=p.cs:=by unfold Pos.mY;split<;>rfl
 have:=d.CG (c:=c) (v:=lQ k p.side) i (by omega) (by unfold lQ;omega);rw[e]at this;exact{ this with side:=by dsimp only[kl];omega }
theorem SZ{g:gi}(hg:gV g){p:Pos}(a:iw g p){q:Pos}(h:rH g p q):iw g q:=by
 obtain⟨_,h⟩:=h;split at h
 .exact OH hg a h
 .rcases h with⟨o,h,rfl⟩|h
  .exact OH hg a h
  .exact Gk a h
end Go.AL
namespace Go.Proofs.YtmehofoficaelaaGreatDoor
open Go Go.AL Classical
set_option maxRecDepth 10000
theorem f95(n a b:Int):Wf T 253 [.i n,.i a,.i b] [] (Is (.b (decide (a<=n/\n<=b)))):=by refine Yg Md ?_;simp[Md];exact mK
theorem f94(a b:Int):Wf T 202 [.i a,.i b] [] (Is (.i (kR a b))):=by
 refine Yg Mc ?_;simp[Mc];(with_reducible repeat' first|refine Xk ?_<;>try simp|refine Xs ?_ ?_<;>intro h<;>(try intro c)<;>(try simp[h])<;>try omega|refine Xg ?_|omega)
 all_goals (simp only[kR];(repeat' split)<;>omega)
theorem f92{k s:Int}(c:0<=k)(a:k<6)(hs:0<=s)(b:s<=1):Wf T 216 [.i k,.i s] [] (Is (.i (1+2*k+s))):=by refine Yg Ma ?_;simp[Ma];exact mK
theorem f156{k s:Int}(b:0<=k)(c:k<6)(hs:0<=s)(a:s<=1):Wf T 206 [.i k,.i s] [] (Is (.i (1+2*k+s))):=by refine Yg KF ?_;simp[KF];refine gx.c rfl rfl (f95 _ _ _) (by simp[gF]) (by simp) ?_;simp[show k<=5 by omega,b];refine gx.c rfl rfl (f95 _ _ _) (by simp[gF]) (by simp) ?_;simp[hs,a];omega
theorem f25(l:List Int)(n:Int)(hl:l.length<2 ^ 40):Wf T 40 [dI l,.i n] [] (Is (.b (decide (n∈l)))):=by
 refine Yg Lo ?_;simp[Lo];refine gj.i (α:=Int) [0,1,5] rfl (λi=>[(0,dI l),(1,.i n),(5,.i i)]) (λ_=>[]) (λi=>0<=i/\i<=l.length/\n ∉ l.take i.toNat) (λi=>l.length-i.toNat) 0 (by simp) (by simp) rfl ?_;rintro i ⟨h0,h1,a⟩;simp;(with_reducible repeat' first|refine Xk ?_<;>try simp|refine Xs ?_ ?_<;>intro h<;>(try intro b)<;>(try simp[h])<;>try omega|refine Xg ?_|omega)
 .have:=gy h0 ‹_›;simp_all
 .skip;rw[jq h0 ‹_›];simp_all;exactλe=>h e.symm
 .simpa[ln (by omega:(l.length:Int)<=i)]using a
theorem f93(a b:List Int)(g:a.length<2 ^ 40)(f:b.length<2 ^ 40):Wf T 201 [dI a,dI b] [] (Is (.i (kN a b))):=by
 refine Yg Mb ?_;simp[Mb];refine gj.j (0:Int) (λi=>[(0,dI a),(1,dI b),(5,.i i)]) (λ_=>_) (λi=>0<=i/\i<=a.length/\i<=b.length/\a.take i.toNat=b.take i.toNat) (λi=>a.length-i.toNat) ?_ (by simp) (by first|rfl|simp) rfl ?_
 .simp
 rintro i ⟨h0,h1,d,c⟩;have e:=Zg c (by omega) (by omega);simp;(with_reducible repeat' first|refine Xk ?_<;>try simp|refine Xs ?_ ?_<;>intro h<;>(try intro j)<;>(try simp[h])<;>try omega|refine Xg ?_|omega)
 .skip;rw[jq h0 (by omega),jq h0 (by omega),c];simp_all
 .refine Yt (f94 _ _) ?_;simp;rw[e,oc h0 ‹_›,oc h0 ‹_›,kN,if_neg (by assumption)]
 all_goals
  refine Yc (f94 _ _) ?_;simp;rw[e,SA (by simp only[aR];omega)];simp only[aR,kR];(repeat' split)<;>omega
theorem f50(p q:Pos)(b:Small p)(a:Small q):Wf T 137 [dP p,dP q] [] (Is (.i (iE p q))):=by
 refine Yg LN ?_;simp[LN];refine Yt (f93 _ _ b.1 a.1) ?_;simp;refine Yt (f93 _ _ b.2.1 a.2.1) ?_;simp;refine Yt (f93 _ _ b.2.2 a.2.2) ?_;simp;refine Yt (f94 _ _) ?_;simp;refine Yt (f94 _ _) ?_;simp;(refine gj.un ?_;(repeat' first|(refine kP.u ?_;simp;done)|(refine kP.u ?_;simp)|((with_reducible first|refine X2.d ?_ ?_|refine X2.a ?_ ?_|refine X2.o ?_ ?_|refine X2.b ?_ ?_)<;>intro h<;>(try simp[h]))|fail))
 all_goals simp_all [iE,ny]
theorem f51(n:Int):Wf T 203 [.i n] [] (Is (.agg [.i (gJ n),.i (jY n)])):=by
 refine Yg LO ?_;simp[LO];refine Yc (f95 _ _ _) ?_;simp;(with_reducible repeat' first|refine Xk ?_<;>try simp|refine Xs ?_ ?_<;>intro h<;>(try intro a)<;>(try simp[h])<;>try omega|refine Xg ?_|omega)
 .rw[uu (by omega) (by omega) (by omega),jH (by omega)];simp[gJ,jY];omega
 .simp[gJ,jY];omega
theorem f84(n:Int):Wf T 163 [.i n] [] (Is (.tup [.i (gJ n),.i (jY n)])):=by
 refine Yg L5 ?_;simp[L5];(with_reducible repeat' first|refine Xk ?_<;>try simp|refine Xs ?_ ?_<;>intro h<;>(try intro a)<;>(try simp[h])<;>try omega|refine Xg ?_|omega)
 .simp[gJ,jY];omega
 .simp[gJ,jY];omega
 .rw[uu (by omega) (by omega) (by omega),jH (by omega)];simp[gJ,jY];omega
theorem f251(g:gi)(hg:oM g)(s d c:Int):Wf T 295 [g.jJ,.i s,.i d,.i c] [] (Is (.i (mf g s d c))):=by
 have e:=hg.next
 have b:=hg.jy;refine Yg Lq ?_;simp[Lq];(with_reducible repeat' first|refine Xk ?_<;>try simp|refine Xs ?_ ?_<;>intro h<;>(try intro f)<;>(try simp[h])<;>try omega|refine Xg ?_|omega)
 all_goals first
  | (simp only[mf];rw[if_pos (by omega)])
  | skip
 .rename_i h;have:=hg.turns d (by omega) (by omega);have a:=hg.row (gt g.next (gt g.jy d)) (gy (by omega) (by omega));refine gd ?_;simp only[mf];rw[if_neg (by omega)];simp
 .rename_i h;have a:=hg.row (gt g.next d) (gy (by omega) (by omega));refine gd ?_;simp only[mf];rw[if_neg (by omega)];simp[h]
theorem f240(g:gi)(hg:oM g)(s d c:Int):Wf T 322 [g.jJ,.i s,.i d,.i c] [] (Is (.i (mf g s d c))):=by
 have e:=hg.next
 have b:=hg.jy;refine Yg Lj ?_;simp[Lj];(with_reducible repeat' first|refine Xk ?_<;>try simp|refine Xs ?_ ?_<;>intro h<;>(try intro f)<;>(try simp[h])<;>try omega|refine Xg ?_|omega)
 all_goals first
  | (simp only[mf];rw[if_pos (by omega)])
  | skip
 .rename_i h;have:=hg.turns d (by omega) (by omega);have a:=hg.row (gt g.next (gt g.jy d)) (gy (by omega) (by omega));refine gd ?_;simp only[mf];rw[if_neg (by omega)];simp
 .rename_i h;have a:=hg.row (gt g.next d) (gy (by omega) (by omega));refine gd ?_;simp only[mf];rw[if_neg (by omega)];simp[h]
theorem f110(p q:Pos)(b:Small p)(a:Small q):Wf T 162 [dP p,dP q] [] (Is (.b (decide (p=q)))):=by refine Yg JF ?_;simp[JF];refine Yc (f50 p q b a) ?_;simp;rw[rO]
set_option maxHeartbeats 1000000
theorem f64(l:List Pos)(hl:l.length<2 ^ 40)(hs:∀p∈l,Small p):Wf T 83 [gZ l] [] (Is (.b (decide (kU l)))):=by
 refine Yg LW ?_;simp[LW];refine gj.j (1:Int) (λi=>[(0,gZ l),(3,.i i)]) (λ_=>_) (λi=>1<=i/\(i<=l.length\/i=1)/\∀k:Int,1<=k->k<i->iE (gt l (k-1)) (gt l k)<0) (λi=>l.length-i.toNat) ?_ (by simp) (by first|rfl|simp) rfl ?_
 .simp;omega
 rintro i ⟨h0,h1,c⟩;simp;refine j' ?_ ?_<;>intro h
 .skip;refine Yt (f50 (gt l (i-1)) (gt l i) (hs _ (gy (by omega) (by omega))) (hs _ (gy (by omega) (by omega)))) ?_;simp;refine j' ?_ ?_<;>intro h
  .intro b;have:=b i h0 ‹_›;omega
  .grind
 .intro k a d;exact c k a (by omega)
theorem f27(l:List Pos)(p:Pos)(hl:l.length<2 ^ 40)(hs:∀p∈l,Small p)(m:Small p)(g:kU l):Wf T 86 [gZ l,dP p] [] (Is (.i (pO l p))):=by
 refine Yg Ly ?_;simp[Ly];refine gj.j ((0,(l.length:Int)):Int×Int) (λx=>[(0,gZ l),(3,.ptr 0 0 0),(5,.i x.1),(6,.i x.2)]) (λ_=>[.row 46 0 p.cells]) (λx=>0<=x.1/\x.1<=x.2/\x.2<=l.length/\∀k:Int,0<=k->k<l.length->gt l k=p->x.1<=k/\k<x.2) (λx=>(x.2-x.1).toNat) ?_ (by simp) rfl rfl ?_
 .simp;omega
 rintro⟨a,b⟩ ⟨h0,h1,q,f⟩;simp at h0 h1 q f;simp;refine j' ?_ ?_<;>intro h
 .rw[uu (by omega) (by omega) (by omega)];refine gd ?_;refine Yt (f50 p (gt l ((a+b) / 2)) m (hs _ (gy (by omega) (by omega)))) ?_;simp;(with_reducible repeat' first|refine Xk ?_<;>try simp|refine Xs ?_ ?_<;>intro h<;>(try intro s)<;>(try simp[h])<;>try omega|refine Xg ?_|omega)
  .rw[rO]at h;rw[h,ae7 g (by omega) (by omega)]
  .have r:∀k:Int,(a+b) / 2<=k->k<l.length->gt l k≠p:=λk d c e=>by
    by_cases j:k=(a+b) / 2
    .subst j;rw[e,vj]at h;omega
    .have:=zu h (g.le (by omega) (show(a+b) / 2<k by omega) c);rw[e,vj]at this;omega
   intro k d c e;have:=f k d c e
   by_cases i:(a+b) / 2<=k
   .grind
   .omega
  .have o:iE (gt l ((a+b) / 2)) p<0:=by rw[vm];omega
   have r:∀k:Int,0<=k->k<=(a+b) / 2->gt l k≠p:=λk d c e=>by
    by_cases j:k=(a+b) / 2
    .grind
    .have:=zu (g.le d (show k<(a+b) / 2 by omega) (by omega)) o;rw[e,vj]at this;omega
   intro k d c e;have:=f k d c e
   by_cases i:k<=(a+b) / 2
   .grind
   .omega
 .rw[WC];intro n;obtain⟨k,d,c,e⟩:=wm.1 n;have:=f k d c e;omega
theorem f111(g:gi)(l:List Int)(hg:gV g)(hl:sn g l):Wf T 138 [dG g,dI l] [] (Is (.b true)):=by
 have d:=hg.kinds;have c:=hl.len;refine Yg JG ?_;simp[JG];(with_reducible repeat' first|refine Xk ?_<;>try simp|refine Xs ?_ ?_<;>intro h<;>(try intro a)<;>(try simp[h])<;>try omega|refine Xg ?_|omega);refine gj.j (0:Int) (λi=>[(1,dI l),(2,.ptr 0 0 0),(5,.i i)]) (λi=>[.row 43 0 g.cells]) (λi=>0<=i/\i<=l.length) (λi=>l.length-i.toNat) ?_ (by simp) (by first|rfl|simp) rfl ?_
 .simp
 rintro i ⟨h0,h1⟩;simp;(with_reducible refine Xs ?_ ?_<;>intro h<;>(try intro a)<;>(try simp[h])<;>(try omega))
 .have b:=hl.at_ i h0 ‹_›;(with_reducible repeat' first|refine Xk ?_<;>try simp|refine Xs ?_ ?_<;>intro h<;>(try intro a)<;>(try simp[h])<;>try omega|refine Xg ?_|omega);have:=b.2.2
  all_goals simp_all
  all_goals omega
theorem f65(g:gi)(p:Pos)(hg:gV g)(a:iw g p):Wf T 84 [dG g,dP p] [] (Is (.b true)):=by
 have e:=hg.kinds;have c:=hg.gL;have h1:=a.size;have l:=a.gL;have k:=a.side;have f:=hg.jJ.size;have b:=TI c.1 (by omega);refine Yg LX ?_;simp[LX,h1];refine Yt (f111 g _ hg a.h0) ?_;simp[h1];refine Yt (f111 g _ hg a.h1) ?_;simp[h1];(with_reducible repeat' first|refine Xk ?_<;>try simp[b]|refine Xs ?_ ?_<;>intro h<;>(try intro d)<;>(try simp[h,b])<;>try omega|refine Xg ?_|omega);refine gj.j (0:Int) (λi=>[(2,.ptr 0 0 0),(3,.ptr 1 0 0),(5,.i i)]) (λi=>[.row 43 0 g.cells,.row 46 0 p.cells]) (λi=>0<=i/\i<=p.cs.length) (λi=>p.cs.length-i.toNat) ?_ (by simp) (by first|rfl|simp) rfl ?_
 .simp
 rintro i ⟨h0,j⟩;simp;(with_reducible refine Xs ?_ ?_<;>intro h<;>(try intro d)<;>(try simp[h])<;>(try omega));have b:=a.cs _ (gy h0 ‹_›);exact mK
end Go.Proofs.YtmehofoficaelaaGreatDoor
namespace Go.AL
open Go
def Ex{α:Type}(g:α->D)(Q:α->Prop):D->U->Prop:=λd H=>∃r,d=g r/\H = []/\Q r
@[simp] theorem ao0{α:Type}(g:α->D)(Q:α->Prop)(d:D)(H:U):Ex g Q d H = ∃r,d=g r/\H = []/\Q r:=(rfl)
section
variable{T:iB}{f:FuncId}{args oN:List D}{dst:Option Nat}{s:St}{K:St->Prop}{fn:jw}
theorem gx.q{α:Type}{g:α->D}{Q:α->Prop}(i:T.fn f=some fn)(e:fn.full=false)(h:Wf T f args [] (Ex g Q))
  (a:gF args=true) (b:∀r,closed (g r)=true) (k:∀r,Q r->K { s with env:=put s.env dst (g r) }):gx T f args dst s K .mk:=by
 refine gx.is i e (K0:=Ex g Q) ?_ ?_
 .have l:args.map (gq (λ_=>none) s.H 40)=args:=by
   conv=>rhs;rw[<-bf args]
   exact aw λd j=>qt (mo a d j)
  rw[l];exact h
 .rintro d Hn ⟨r,rfl,rfl,c⟩;obtain⟨k1,k2⟩:=F' (H:=s.H) (b r);refine⟨{ s with env:=put s.env dst (g r) },?_,k r c⟩;unfold after;rw[if_pos a,k1,k2];simp
theorem al3{d:D}(a:flat d=true)(_:closed d=true):o3 d=true:=(Qs (H:=[]) a).1
theorem gx.rq{α:Type}{g:α->D}{Q:α->Prop}(i:T.fn f=some fn)(e:fn.full=false)(h:Wf T f oN [] (Ex g Q))
  (hs:args.map (gq (λ_=>none) s.H 40)=oN) (b:∀r,flat (g r)=true) (a:∀r,closed (g r)=true) (k:∀r,Q r->K { s with env:=put s.env dst (g r) }):gx T f args dst s K .mk:=by
 refine gx.is i e (K0:=Ex g Q) (by rw[hs];exact h) ?_;rintro d Hn ⟨r,rfl,rfl,c⟩;obtain⟨k1,k2⟩:=F' (H:=s.H) (a r);refine⟨{ s with env:=put s.env dst (g r) },?_,k r c⟩;unfold after;rw[al3 (b r) (a r),k1,k2];simp
end
section
variable{T:iB}{f:FuncId}{args:List D}{dst:Option Nat}{s:St}{K:St->Prop}{fn:jw}
theorem gx.n{d:D}{Hn:U}(e:T.fn f=some fn)(c:fn.full=false)(h:Wf T f args [] λd' H'=>d'=d/\H'=Hn)
  (a:gF args=true) (b:(mO d&&Hn.all n5)=true) (k:K { s with env:=put s.env dst (kE s.H.length d),H:=s.H++Hn }):gx T f args dst s K .mk:=by
 refine gx.is e c (K0:=λd' H'=>d'=d/\H'=Hn) ?_ ?_
 .have i:args.map (gq (λ_=>none) s.H 40)=args:=by
   conv=>rhs;rw[<-bf args]
   exact aw λd g=>qt (mo a d g)
  rw[i];exact h
 .rintro d' j ⟨rfl,rfl⟩;refine⟨_,?_,k⟩;unfold after;rw[if_pos a,if_pos b]
theorem pK.n{R:List Fp}{Q:Rc->St->Prop}{d:D}{ob:Ob}(e:T.fn f=some fn)(c:fn.full=false)(h:Wf T f args [] λd' H'=>d'=d/\H' = [ob])
  (a:gF args=true) (b:(mO d&&n5 ob)=true) (k:Q ⟨R,[(s.H.length,none)]⟩ { s with env:=put s.env dst (kE s.H.length d),H:=s.H ++ [ob] }):uF T f args R dst s Q .mk:=by
 have i:args.map (gq (λ_=>none) s.H 40)=args:=by
  conv=>rhs;rw[<-bf args]
  exact aw λd g=>qt (mo a d g)
 exact .inl (.inr ⟨fn,d,ob,e,c,by rw[i];exact h,by rw[if_pos a];exact b,k⟩)
theorem pK.c{R:List Fp}{Q:Rc->St->Prop}{x:D}(c:T.fn f=some fn)(b:fn.full=false)(h:Wf T f args [] λd H'=>d=x/\H' = [])
  (e:gF args=true) (a:closed x=true) (k:Q ⟨R,[]⟩ { s with env:=put s.env dst x }):uF T f args R dst s Q .mk:=.inl (.inl (je.c c b h e a k))
theorem uF.z{oN:List D}{R:List Fp}{Q:Rc->St->Prop}{d:D}(v:Nat)(e:T.fn f=some fn)(c:fn.full=false)(h:Wf T f oN [] (Is d))(hs:args.map (gq (λ_=>none) s.H 40)=oN)
  (a:(args.map (iC s.H 40)).flatten = [v]) (i:(rowsOf s.H v).isSome=true) (g:gF oN=true) (b:closed d=true) (k:Q ⟨R,[(v,none)]⟩ { s with env:=put s.env dst d,H:=s.H.set v .dead }):uF T f args R dst s Q .mk:=
 .inr ⟨fn,d,v,e,c,by rw[a];simp,by rw[a];simp,i,by rw[hs];exact g,by rw[hs];exact h,b,k⟩
@[simp] theorem axe(ds:List D):mO (.agg ds)=ds.all (yM closed):=rfl
@[simp] theorem axh(ds:List D):mO (.tup ds)=ds.all (yM closed):=rfl
@[simp] theorem axg(v g sz off n:Nat):mO (.fY v g sz off n)=true:=rfl
@[simp] theorem aw4(p:D->Bool)(v g sz off n:Nat):yM p (.fY v g sz off n)=true:=rfl
@[simp] theorem aw3(l:List Int):yM closed (dI l)=true:=by show closed (dI l)=true;simp
@[simp] theorem aw5(v:Value):yM closed (.val v)=true:=by show closed (.val v)=true;simp
@[simp] theorem asY(t g:Nat)(cs:List D):n5 (.row t g cs)=gF cs:=rfl
@[simp] theorem avQ(n:Nat)(ds:List D):kE n (.agg ds) = .agg (ds.map (yF n)):=rfl
@[simp] theorem avT(n:Nat)(ds:List D):kE n (.tup ds) = .tup (ds.map (yF n)):=rfl
@[simp] theorem avS(n v g sz off k:Nat):kE n (.fY v g sz off k) = .fY (v+n) g sz off k:=rfl
@[simp] theorem avV(n v g sz off k:Nat):yF n (.fY v g sz off k) = .fY (v+n) g sz off k:=rfl
@[simp] theorem avU(n:Nat)(l:List Int):yF n (dI l)=dI l:=by unfold dI;rfl
@[simp] theorem avW(n:Nat)(v:Value):yF n (.val v) = .val v:=rfl
end
instance:Fl gv.cells 8:=⟨λ_=>rfl,λs=>by simp[gv.cells,gF]⟩
instance:Fl gQ.cells 6:=⟨λ_=>rfl,λs=>by simp[gQ.cells,gF]⟩
@[simp] theorem asP(l:List gv)(a b c:List Int)(r q k u:Int)(t:Bool):cl gv.cells l ++ [dI a,dI b,dI c,.i r,.i q,.i k,.i u,.b t]=cl gv.cells (l ++ [⟨⟨a,b,c,r,q⟩,k,u,t⟩]):=by rw[<-q'];rfl
@[simp] theorem asL(l:List gQ)(a b c:List Int)(r q:Int)(t:Bool):cl gQ.cells l ++ [dI a,dI b,dI c,.i r,.i q,.b t]=cl gQ.cells (l ++ [⟨⟨a,b,c,r,q⟩,t⟩]):=by rw[<-q'];rfl
@[simp] theorem azo(s:gv):gv.mk s.p s.kind s.cur s.jN=s:=rfl
@[simp] theorem axy(s:gQ):gQ.mk s.p s.jN=s:=rfl
attribute [simp] gv.cells gQ.cells
theorem Yq{T:iB}{f:FuncId}{args:List D}{dst:Option Nat}{s:St}{K:St->Prop}{fn:jw}{α:Type}{g:α->D}{Q:α->Prop}(h:Wf T f args [] (Ex g Q))(k:∀r,Q r->K { s with env:=put s.env dst (g r) })
  (c:T.fn f=some fn:=by exact rfl) (b:fn.full=false:=by exact rfl) (d:gF args=true:=by simp) (a:∀r,closed (g r)=true:=by intro;simp):gx T f args dst s K .mk:=gx.q c b h d a k
theorem Yn{T:iB}{f:FuncId}{args:List D}{dst:Option Nat}{s:St}{K:St->Prop}{fn:jw}{d:D}{Hn:U}(h:Wf T f args [] λd' H'=>d'=d/\H'=Hn)(k:K { s with env:=put s.env dst (kE s.H.length d),H:=s.H++Hn })
  (c:T.fn f=some fn:=by exact rfl) (b:fn.full=false:=by exact rfl) (e:gF args=true:=by simp) (a:(mO d&&Hn.all n5)=true:=by simp):gx T f args dst s K .mk:=gx.n c b h e a k
end Go.AL
namespace Go.AL
open Go
def kF(l:List gv):D:=.sl 8 (l.map gv.cells)
def oa(l:List gQ):D:=.sl 6 (l.map gQ.cells)
@[simp] theorem ay2(l:List gv):D.sl 8 (l.map gv.cells)=kF l:=by unfold kF;rfl
@[simp] theorem ayZ(l:List gQ):D.sl 6 (l.map gQ.cells)=oa l:=by unfold oa;rfl
section
variable{l:List gv}{n:Int}{k:IntKind}{P:D->Prop}{H:U}
@[simp] theorem atc:closed (kF l)=true:=by unfold kF;exact wP l
@[simp] theorem avK:mX .slice (kF l) H=some (.i l.length):=by simp only[kF,Za,List.length_map]
@[simp] theorem azD(n:Nat):jv n (kF l) = []:=by unfold kF;rfl
@[simp] theorem ass:cellsOf (kF l)=some [kF l]:=by unfold kF;rfl
@[simp] theorem awM:oA (mH 8 (kF l) (.val (.int k n))) P .mk=((0<=n/\n<l.length)/\P (.gu (gt l n).cells)):=by unfold kF;exact yL
end
section
variable{l:List gQ}{n:Int}{k:IntKind}{P:D->Prop}{H:U}
@[simp] theorem as9:closed (oa l)=true:=by unfold oa;exact wP l
@[simp] theorem avH:mX .slice (oa l) H=some (.i l.length):=by simp only[oa,Za,List.length_map]
@[simp] theorem azf:kS 6 H (oa l)=some (cl gQ.cells l,l.length):=by unfold oa;exact EY ..
@[simp] theorem azz(n:Nat):jv n (oa l) = []:=by unfold oa;rfl
@[simp] theorem awJ:oA (mH 6 (oa l) (.val (.int k n))) P .mk=((0<=n/\n<l.length)/\P (.gu (gt l n).cells)):=by unfold oa;exact yL
end
@[simp] theorem ayX:D.sl 8 []=kF []:=by unfold kF;rfl
@[simp] theorem ayW:D.sl 6 []=oa []:=by unfold oa;rfl
@[simp] theorem aua{ρ:Nat->Option Nat}{H:U}{k:Nat}{t:TypeId}{a b c:List Int}{r q w u:Int}{o:Bool}:mS ρ H (k+1) 8 0 1 (some (t,[dI a,dI b,dI c,.i r,.i q,.i w,.i u,.b o]))=kF [⟨⟨a,b,c,r,q⟩,w,u,o⟩]:=by have h:=vu (f:=gv.cells) (ρ:=ρ) (H:=H) (k:=k) (t:=t) (l:=[⟨⟨a,b,c,r,q⟩,w,u,o⟩]) (n:=1) rfl;rw[oC]at h;unfold kF;exact h
def x7(S:List Nat):Nat->U->nL
 | _,[]=>[]
 | i,_::r=>(i,!S.contains i)::x7 S (i+1) r
@[simp] theorem atQ(S:List Nat)(i:Nat):x7 S i [] = []:=rfl
@[simp] theorem atP(S:List Nat)(i:Nat)(o:Ob)(r:U):x7 S i (o::r)=(i,!decide (i∈S))::x7 S (i+1) r:=by rw[x7,c9]
theorem afe(H:U)(S:List Nat):mC H S=x7 S 0 H:=by
 have key:∀(H:U) (i:Nat),(List.range' i H.length).map (λv=>(v,!(S.contains v)))=x7 S i H:=by
  intro H
  induction H with
  | nil=>intro i;rfl
  | cons o r a=>intro i;rw[aJ,cG,List.map_cons,a,x7]
 rw[mC,cK,key]
def Qw(env:Env)(H:U)(m:List Nat)(r:Bool)(ks:nL):St:={ env:=env.map λp=>(p.1,gq (iI ks) H 40 p.2),H:=ks.map λp=>if p.2 then u6 (iI ks) H H[p.1]? else .dead,marks:=m,iD:=r }
@[simp] theorem at2(S:List Nat)(env:Env)(H:U)(m:List Nat)(r:Bool):l8 S { env:=env,H:=H,marks:=m,iD:=r }=Qw env H m r (x7 S 0 H):=by unfold l8 Qw;rw[afe];rfl
@[simp] theorem atY(env:Env)(H:U)(m:List Nat)(r:Bool)(ks:nL):Qw env H m r ks = { env:=env.map λp=>(p.1,gq (iI ks) H 40 p.2),H:=ks.map λp=>if p.2 then u6 (iI ks) H H[p.1]? else .dead,marks:=m,iD:=r }:=rfl
section
variable{T:iB}
def Qx(S:List Nat)(T:iB)(b:IR)(K:iY):iY:=λo=>match o with
 | .norm s=>s.marks = []/\XC T b (l8 S s) K
 | o=>K o
@[simp ↓] theorem at0{S:List Nat}{b:IR}{K:iY}{s:St}:Qx S T b K (.norm s)=(s.marks = []/\XC T b (l8 S s) K):=(rfl)
@[simp ↓] theorem atZ{S:List Nat}{b:IR}{K:iY}{id:Nat}{s:St}:Qx S T b K (.exit id s)=K (.exit id s):=(rfl)
@[simp ↓] theorem at1{S:List Nat}{b:IR}{K:iY}{s:St}:Qx S T b K (.ret s)=K (.ret s):=(rfl)
theorem gj.fz{live:List Nat}{a:IR}{s:St}{K:iY}(S:List Nat)(b:s.marks = [])(h:gj T live a (l8 S s) K .mk):gj T live a s K .mk:=Wc.l8 S (by rw[b];exact aht _) h
end
theorem Zd{g:gi}{s d c:Int}:∀(n:Nat) (x:Int) (out:List Int),(ub g s d c n x out).length<=out.length+n
 | 0,x,out=>by simp[ub]
 | n+1,x,out=>by
  unfold ub;split
  .have:=Zd (g:=g) (s:=s) (d:=d) (c:=c) n (mf g s d x) (out ++ [x]);simp at this;omega
  .omega
theorem Sz{g:gi}{s d c:Int}:(lB g s d c).length<=10:=by have:=Zd (g:=g) (s:=s) (d:=d) (c:=c) 10 (mf g s d c) [];simpa[lB]using this
theorem Ze{s:gv}:∀l:List Int,(qo s l).length<=l.length
 | []=>by simp[qo]
 | c::r=>by have:=Ze (s:=s) r;unfold qo;split<;>simp<;>omega
theorem E4{g:gi}{s:gv}{x:fZ}:(jd g s x).length<=10:=by
 have:=Ze (s:=s) (lB g s.p.side x.2 s.cur);have:=Sz (g:=g) (s:=s.p.side) (d:=x.2) (c:=s.cur);unfold jd tv uo;dsimp only
 repeat' split
 all_goals first|omega|(simp only[aJ,cW];omega)
end Go.AL
namespace Go.Proofs.YtmehofoficaelaaGreatDoor
open Go Go.AL Classical
set_option maxRecDepth 10000
set_option maxHeartbeats 1000000
structure rJ(a b:List Pos)(i k:Int)(out:List Pos):Prop where
 i0:0<=i/\i<=a.length
 k0:0<=k/\k<=b.length
 len:(out.length:Int)=i+k
 perm:out.Perm (a.take i.toNat++b.take k.toNat)
 ws:WS out
 le:∀x∈out,∀y,y∈a.drop i.toNat\/y∈b.drop k.toNat->iE x y<=0
theorem rJ.init(a b:List Pos):rJ a b 0 0 []:=⟨by omega,by omega,rfl,by simp,by simp[WS],by simp⟩
theorem abx{a:List Pos}(h:WS a){i:Int}(h0:0<=i)(h1:i<a.length){y:Pos}(b:y∈a.drop i.toNat):iE (gt a i) y<=0:=by
 have c:WS (a.drop i.toNat):=fL (List.drop_sublist _ _) h;rw[oc h0 h1]at b c;rcases av.1 b with rfl|b
 .rw[vj];omega
 .exact(aS.1 c).1 y b
theorem ahB{α:Type}[Inhabited α]{a:List α}{i:Int}(h0:0<=i)(h1:i<a.length){y:α}:y∈a.drop i.toNat↔y=gt a i\/y∈a.drop (i+1).toNat:=by rw[oc h0 h1,av,show(i+1).toNat=i.toNat+1 by omega]
theorem rJ.add{a b:List Pos}{i k:Int}{out:List Pos}(f:rJ a b i k out)(hi:i<a.length)(g:WS a)(h:∀y∈b.drop k.toNat,iE (gt a i) y<=0):rJ a b (i+1) k (out ++ [gt a i]):=by
 have h0:=f.i0;have e:∀y,y∈a.drop i.toNat↔y=gt a i\/y∈a.drop (i+1).toNat:=λy=>ahB h0.1 hi;refine⟨by omega,f.k0,by have:=f.len;simp;omega,?_,?_,λx d y c=>?_⟩
 .rw[jq h0.1 hi,aL];refine(f.perm.append_right _).trans ?_;rw[aL];exact List.Perm.append_left _ fM
 .refine bR.2 ⟨f.ws,by simp,λx d y c=>?_⟩;simp at c;subst c;exact f.le x d _ (.inl ((e _).2 (.inl rfl)))
 .rcases List.mem_append.1 d with d|d
  .exact f.le x d y (c.imp (λh=>(e _).2 (.inr h)) id)
  .simp at d;subst d;rcases c with c|c
   .exact abx g h0.1 hi ((e _).2 (.inr c))
   .exact h y c
theorem rJ.swap{a b:List Pos}{i k:Int}{out:List Pos}(c:rJ a b i k out):rJ b a k i out:=
 ⟨c.k0,c.i0,by have:=c.len;omega,c.perm.trans fM,c.ws,λx e y d=>c.le x e y d.symm⟩
theorem rJ.TQ{a b:List Pos}{i k:Int}{out:List Pos}(d:rJ a b i k out)(hi:i<a.length)(g:WS a)(f:WS b)(h:k<b.length->iE (gt a i) (gt b k)<=0):rJ a b (i+1) k (out ++ [gt a i]):=by
 refine d.add hi g λy c=>?_
 by_cases e:k<b.length
 .exact Vo (h e) (abx f d.k0.1 e c)
 .rw[bB (by have:=d.k0;omega)]at c;cases c
theorem rJ.aa1{a b:List Pos}{i k:Int}{out:List Pos}(f:rJ a b i k out)(c:k<b.length)(e:WS a)(d:WS b)(h:i<a.length->¬iE (gt a i) (gt b k)<=0):rJ a b i (k+1) (out ++ [gt b k]):=by refine(f.swap.TQ c d e λhi=>?_).swap;have:=h hi;rw[vm];omega
theorem f109:∀(n:Nat) (l:List Pos),l.length=n->l.length<2 ^ 40->(∀p∈l,Small p)->Wf T 161 [gZ l] [] (Ex gZ λr=>r.Perm l/\WS r):=by
 intro n
 induction n using Nat.strongRecOn with
 | ind n g=>
 intro l w hl hs;refine Yg JC ?_;simp[JC];(with_reducible refine Xs ?_ ?_<;>intro h<;>(try intro j)<;>(try simp[h])<;>(try omega))
 .refine⟨l,rfl,List.Perm.refl _,?_⟩;unfold WS
  cases l with
  | nil=>simp
  | cons a l=>cases l with
   | nil=>simp
   | cons b l=>simp at h;omega
 .rw[uu (by omega) (by omega) (by omega)];refine gd ?_;refine Yq (g (l.length / 2) (by omega) _ (by simp;omega) (by simp;omega) (λp d=>hs p (aW d))) λa f=>?_;simp;rw[uu (by omega) (by omega) (by omega)];refine gd ?_;refine Yq (g (l.length-l.length / 2) (by omega) _ (by simp;omega) (by simp;omega) (λp d=>hs p (bw (aW d)))) λb e=>?_;simp;have v:(a.length:Int)=l.length / 2:=by rw[f.1.length_eq];simp;omega
  have u:(b.length:Int)=l.length-l.length / 2:=by rw[e.1.length_eq];simp;omega
  have q:∀p∈a,Small p:=λp d=>hs p (aW ((f.1.mem_iff).1 d));have o:∀p∈b,Small p:=λp d=>hs p (bw (aW ((e.1.mem_iff).1 d)));refine gj.j ((0,0,[]):Int×Int×List Pos) (λx=>[(3,gZ a),(4,gZ b),(5,.fY 0 x.2.2.length 5 0 x.2.2.length),(6,.i x.1),(7,.i x.2.1)]) (λx=>[.row 46 x.2.2.length (cl Pos.cells x.2.2)]) (λx=>rJ a b x.1 x.2.1 x.2.2) (λx=>a.length+b.length-(x.1+x.2.1).toNat) ?_ (by simp) (by first|rfl|simp) rfl ?_
  .exact rJ.init a b
  rintro⟨i,k,out⟩ c;have h0:=c.i0;have h1:=c.k0;have s:=c.len;dsimp only at c h0 h1 s ⊢;simp;(with_reducible repeat' first|refine Xk ?_<;>try simp|refine Xs ?_ ?_<;>intro h<;>(try intro j)<;>(try simp[h])<;>try omega|refine Xg ?_|omega)
  .exact⟨i+1,k,_,by simp,rfl,rfl,by simp,rfl,by omega,c.TQ (by assumption) f.2 e.2 λh=>by omega⟩
  .refine Yt (f50 _ _ (q _ (gy (by omega) (by omega))) (o _ (gy (by omega) (by omega)))) ?_;simp[*];(with_reducible repeat' first|refine Xk ?_<;>try simp|refine Xs ?_ ?_<;>intro h<;>(try intro j)<;>(try simp[h])<;>try omega|refine Xg ?_|omega)
   .exact⟨i+1,k,_,by simp,rfl,rfl,by simp,rfl,by omega,c.TQ (by assumption) f.2 e.2 λ_=>by assumption⟩
   .exact⟨i,k+1,_,by simp,rfl,rfl,by simp,rfl,by omega,c.aa1 (by omega) f.2 e.2 λ_=>by assumption⟩
  .exact⟨i,k+1,_,by simp,rfl,rfl,by simp,rfl,by omega,c.aa1 (by omega) f.2 e.2 λ_=>by omega⟩
  .refine⟨out,rfl,?_,c.ws⟩;have m:=c.perm;rw[ln (by omega),ln (by omega)]at m;refine m.trans ((List.Perm.append f.1 e.1).trans ?_);have t:(l.drop (↑l.length / 2:Int).toNat).take (l.length-(↑l.length / 2:Int).toNat)=l.drop (↑l.length / 2:Int).toNat:=af (by rw[aR];exact Nat.le_refl _);rw[t,bX]
structure wM(a:List Pos)(i:Int)(out:List Pos):Prop where
 i0:0<=i/\i<=a.length
 len:(out.length:Int)<=i
 mem:∀q,q∈out↔q∈a.take i.toNat
 st:out.Pairwise λx y=>iE x y<0
theorem wM.init(a:List Pos):wM a 0 []:=⟨by omega,by simp,by simp,by simp⟩
theorem aby{a:List Pos}(h:WS a){j:Int}(h0:0<=j)(h1:j<a.length){x:Pos}(b:x∈a.take (j+1).toNat):iE x (gt a j)<=0:=by
 have c:WS (a.take (j+1).toNat):=fL (List.take_sublist _ _) h;rw[jq h0 h1]at b c;rcases List.mem_append.1 b with b|b
 .exact(bR.1 c).2.2 x b _ (by simp)
 .simp at b;subst b;rw[vj];omega
theorem wM.skip{a:List Pos}{i:Int}{out:List Pos}(b:wM a i out)(hi:i<a.length)(h1:i≠0)(h:gt a i=gt a (i-1)):wM a (i+1) out:=by have h0:=b.i0;refine⟨by omega,by have:=b.len;omega,λq=>?_,b.st⟩;rw[b.mem,jq h0.1 hi,List.mem_append,List.mem_singleton];refine⟨.inl,λc=>c.elim id λc=>?_⟩;rw[c,h];have:=jq (l:=a) (n:=i-1) (by omega) (by omega);rw[show i-1+1=i by omega]at this;rw[this];simp
theorem wM.add{a:List Pos}{i:Int}{out:List Pos}(c:wM a i out)(hi:i<a.length)(f:WS a)(h:i=0\/gt a i≠gt a (i-1)):wM a (i+1) (out ++ [gt a i]):=by
 have h0:=c.i0;refine⟨by omega,by have:=c.len;simp;omega,λq=>?_,bR.2 ⟨c.st,by simp,λx b y d=>?_⟩⟩
 .rw[List.mem_append,c.mem,jq h0.1 hi,List.mem_append]
 .simp at d;subst d;have b:=(c.mem x).1 b;rcases h with rfl|h
  .simp at b
  .by_cases g:i=0
   .subst g;simp at b
   have p:=aby f (j:=i-1) (by omega) (by omega) (x:=x) (by rw[show i-1+1=i by omega];exact b)
   have o:=aby f h0.1 hi (x:=gt a (i-1)) (by
    have:=jq (l:=a) (n:=i-1) (by omega) (by omega);rw[show i-1+1=i by omega]at this
    rw[jq h0.1 hi,this];simp)
   have m:iE (gt a (i-1)) (gt a i)≠0:=λe=>h (rO.1 e).symm
   by_cases k:iE x (gt a (i-1))=0
   .rw[rO.1 k];omega
   .exact zu (show iE x (gt a (i-1))<0 by omega) (by omega)
theorem aoj{r:List Pos}(h:r.Pairwise λx y=>iE x y<0):kU r:=by intro i h1 a;rw[jg (by omega) (by omega),jg (by omega) (by omega)];exact bJ.1 h _ _ _ _ (by omega)
theorem f61(l:List Pos)(hl:l.length<2 ^ 40)(hs:∀p∈l,Small p):Wf T 101 [gZ l] [] (Ex gZ λr=>kU r/\r.length<=l.length/\∀q,q∈r↔q∈l):=by
 refine Yg LV ?_;simp[LV];refine Yq (f109 _ l rfl hl hs) λa c=>?_;simp;have f:a.length=l.length:=c.1.length_eq;have d:∀p∈a,Small p:=λp e=>hs p (c.1.mem_iff.1 e);refine gj.j ((0,[]):Int×List Pos) (λx=>[(3,gZ a),(4,.fY 0 x.2.length 5 0 x.2.length),(5,.i x.1)]) (λx=>[.row 46 x.2.length (cl Pos.cells x.2)]) (λx=>wM a x.1 x.2) (λx=>a.length-x.1.toNat) ?_ (by simp) (by first|rfl|simp) rfl ?_
 .exact wM.init a
 rintro⟨i,out⟩ b;have h0:=b.i0;have h1:=b.len;dsimp only at b h0 h1 ⊢;simp;(with_reducible repeat' first|refine Xk ?_<;>try simp|refine Xs ?_ ?_<;>intro h<;>(try intro g)<;>(try simp[h])<;>try omega|refine Xg ?_|omega)
 .exact⟨1,_,by simp,rfl,by simp,rfl,by omega,by subst h;exact b.add (by assumption) c.2 (.inl rfl)⟩
 .refine Yt (f110 _ _ (d _ (gy (by omega) (by omega))) (d _ (gy (by omega) (by omega)))) ?_;simp;refine j' ?_ ?_<;>intro h
  .exact⟨i+1,_,rfl,rfl,rfl,rfl,by omega,b.skip (by assumption) (by assumption) (by assumption)⟩
  .exact⟨i+1,_,by simp,rfl,by simp,rfl,by omega,b.add (by assumption) c.2 (.inr (by assumption))⟩
 .refine⟨out,rfl,aoj b.st,by omega,λq=>?_⟩;rw[b.mem,ln (by omega),c.1.mem_iff]
end Go.Proofs.YtmehofoficaelaaGreatDoor
namespace Go.AL
open Go
def Su(H:U)(d:D)(ks:nL):D×U:=(gq (iI ks) H 40 d,ks.map λp=>if p.2 then u6 (iI ks) H H[p.1]? else .dead)
@[simp] theorem avz(H:U)(d:D)(ks:nL):Su H d ks=(gq (iI ks) H 40 d,ks.map λp=>if p.2 then u6 (iI ks) H H[p.1]? else .dead):=rfl
def EH(own n:Nat)(H:U)(d:D):List Nat:=match own with|0=>[]|1=>EI n d|3=>((iC H 40 d).filter (n<=·)).take 1|_=>(iC H 40 d).filter (n<=·)
@[simp] theorem axz(n:Nat)(H:U)(d:D):EH 0 n H d = []:=rfl
@[simp] theorem axA(n:Nat)(H:U)(d:D):EH 1 n H d=EI n d:=rfl
@[simp] theorem axB(n:Nat)(H:U)(d:D):EH 2 n H d=(iC H 40 d).filter (n<=·):=rfl
@[simp] theorem axC(n:Nat)(H:U)(d:D):EH 3 n H d=((iC H 40 d).filter (n<=·)).take 1:=rfl
@[simp low] theorem ag4{own n:Nat}{H:U}{d:D}(h:¬H.length<=n)(a:¬own=4):leave own n H d=Su H d (ji n (dedup ((EH own n H d++((H.take n).map (oZ n)).flatten).filter (· < H.length)))):=by unfold leave Su EH;rw[if_neg (by omega)];rfl
@[simp] theorem axD(n v g sz len:Nat):EI n (.fY v g sz 0 len)=if n<=v then [v]else []:=rfl
theorem OQ{H:U}{k:Nat}{d:D}(h:closed d=true):iC H k d = []:=by
 cases k with
 | zero=>rfl
 | succ k=>unfold iC;exact if_pos h
theorem Tm{H:U}{k:Nat}{cs:List D}(h:gF cs=true):(cs.map (iC H k)).flatten = []:=by
 induction cs with
 | nil=>rfl
 | cons d r a=>
  simp only[gF,Bool.and_eq_true]at h;simp[OQ h.1,a h.2]
@[simp] theorem axX{H:U}{k:Nat}{d:D}(h:closed d=true):iC H k d = []:=OQ h
@[simp] theorem axV(H:U)(k:Nat)(cs:List D):iC H (k+1) (.agg cs)=(cs.map (iC H k)).flatten:=by
 by_cases h:closed (.agg cs)=true
 .rw[OQ h,Tm (by simpa using h)]
 .rw[iC,if_neg h]
@[simp] theorem ax2(H:U)(k:Nat)(cs:List D):iC H (k+1) (.tup cs)=(cs.map (iC H k)).flatten:=by
 by_cases h:closed (.tup cs)=true
 .rw[OQ h,Tm (by simpa using h)]
 .rw[iC,if_neg h]
def EO(H:U)(k:Nat):Option Ob->List Nat
 | some (.row _ _ cs)=>(cs.map (iC H k)).flatten
 | _=>[]
@[simp] theorem ax4(H:U)(k t g:Nat)(cs:List D):EO H k (some (.row t g cs))=(cs.map (iC H k)).flatten:=rfl
@[simp] theorem ax3(H:U)(k:Nat)(kk:KK)(es:List (Value×D)):EO H k (some (.map kk es)) = []:=rfl
theorem aap(H:U)(k v:Nat):(match rowsOf H v with|some (_,_,cs)=>(cs.map (iC H k)).flatten|none=>[])=EO H k H[v]? := by
 unfold rowsOf EO
 cases h:H[v]? with
 | none=>rfl
 | some o=>cases o<;>rfl
@[simp] theorem axZ(H:U)(k v g sz off n:Nat):iC H (k+1) (.fY v g sz off n)=v::EO H k H[v]? := by rw[iC,if_neg (by simp)];exact congrArg _ (aap H k v)
@[simp] theorem ax0(H:U)(k v g off:Nat):iC H (k+1) (.ptr v g off)=v::EO H k H[v]? := by rw[iC,if_neg (by simp)];exact congrArg _ (aap H k v)
@[simp] theorem axY(H:U)(k v:Nat):iC H (k+1) (.gD v) = [v]:=by rw[iC,if_neg (by simp)]
@[simp] theorem ax1{H:U}{k:Nat}{α:Type}{f:α->List D}{sz:Nat}[F:Fl f sz](l:List α):((cl f l).map (iC H k)).flatten = []:=Tm (uJ l)
@[simp low] theorem Qz{ρ:Nat->Option Nat}{H:U}{k sz:Nat}{t:TypeId}{cs:List D}(h:cs.length=sz):mS ρ H k sz 0 1 (some (t,cs)) = .sl sz [cs.map (gq ρ H k)]:=by subst h;unfold mS;simp[chunks,af]
@[simp] theorem ay3{a b c:List Int}{r q w u:Int}{o:Bool}:D.sl 8 [[dI a,dI b,dI c,.i r,.i q,.i w,.i u,.b o]]=kF [⟨⟨a,b,c,r,q⟩,w,u,o⟩]:=by unfold kF;rfl
end Go.AL
namespace Go.Proofs.YtmehofoficaelaaGreatDoor
open Go Go.AL Classical
set_option maxRecDepth 10000
set_option maxHeartbeats 1000000
theorem Nb(p:Pos)(a:Small p):Wf T 205 [dP p] [] (λd H=>d = .agg [.fY 0 1 1 0 p.cs.length,.fY 1 1 1 0 p.h0.length,.fY 2 1 1 0 p.h1.length,.i p.gL,.i p.side]/\H = [.row 3 1 (cl f1 p.cs),.row 3 1 (cl f1 p.h0),.row 3 1 (cl f1 p.h1)]):=by
 obtain⟨h1,c,b⟩:=a;refine Wf.xo 2 (fn:=zd) rfl (by simp[zd]) ?_;simp[zd];exact mK
 all_goals trace_state
theorem f250(a b:gv)(d:Small a.p)(c:Small b.p):Wf T 294 [.agg a.cells,.agg b.cells] [] (Is (.b (decide (a=b)))):=by
 have e:(a=b)↔a.p=b.p/\a.kind=b.kind/\a.cur=b.cur/\a.jN=b.jN:=by cases a;cases b;simp
 have f:decide (a=b)=decide (a.p=b.p/\a.kind=b.kind/\a.cur=b.cur/\a.jN=b.jN):=decide_eq_decide.2 e;rw[f];refine Yg Lp ?_;simp[Lp];(with_reducible repeat' first|refine Xk ?_<;>try simp|refine Xs ?_ ?_<;>intro h<;>(try intro g)<;>(try simp[h])<;>try omega|refine Xg ?_|omega)
 .refine Yc (f50 _ _ d c) ?_;simp;simp_all [rO]
 all_goals (intros;simp_all)
theorem f252(s:gv)(b:Bool):Wf T 296 [.agg s.cells,.b b] [] (Is (kF (if b then [s]else []))):=by refine Yg Lr ?_;simp[Lr];exact mK
def H8(a b:gQ):Prop:=iE a.p b.p<0\/(iE a.p b.p=0/\a.jN=false/\b.jN=true)
theorem f229(a b:gQ)(d:Small a.p)(c:Small b.p):Wf T 285 [.agg a.cells,.agg b.cells] [] (Is (.b (decide (H8 a b)))):=by
 refine Yg Lg ?_;simp[Lg];refine Yc (f50 _ _ d c) ?_;simp;(with_reducible repeat' first|refine Xk ?_<;>try simp|refine Xs ?_ ?_<;>intro h<;>(try intro f)<;>(try simp[h])<;>try omega|refine Xg ?_|omega)
 all_goals by_cases e:iE a.p b.p<0<;>simp[*,H8]at *
theorem f263(g:gi)(hg:oM g)(s d c:Int):Wf T 321 [g.jJ,.i s,.i d,.i c] [] (Is (dI (lB g s d c))):=by
 have o:=hg.size;refine Yg Lw ?_;simp[Lw];refine Yc (f251 g hg s d c) ?_;simp;refine gj.j ((0,mf g s d c,[]):Nat×Int×List Int) (λx=>[(1,.i s),(2,.i d),(3,.i c),(4,.ptr 0 0 0),(9,.fY 1 x.2.2.length 1 0 x.2.2.length),(10,.i x.2.1)]) (λx=>[.row 39 0 [.i g.size,.sl 1 (g.next.map fI),dI g.jy],.row 3 x.2.2.length (cl f1 x.2.2)]) (λx=>x.1=x.2.2.length/\x.2.1<g.size/\x.2.2.Nodup/\(∀y∈x.2.2,0<=y/\y<g.size)/\lB g s d c=ub g s d c (10-x.1) x.2.1 x.2.2) (λx=>10-x.1) ?_ (by simp) (by first|rfl|simp) rfl ?_
 .have:=hg.to s d c;simp[lB];omega
 rintro⟨m,x,out⟩ ⟨h0,h1,f,b,j⟩;dsimp only at h0 h1 f b j ⊢;have n:out.length<=9:=Av 9 out f (λy a=>by have:=b y a;omega);have e:=j;rw[show 10-m=(9-m)+1 by omega,ub]at e;simp;(with_reducible repeat' first|refine Xk ?_<;>try simp|refine Xs ?_ ?_<;>intro h<;>(try intro p)<;>(try simp[h])<;>try omega|refine Xg ?_|omega)
 .rw[e,if_neg (by omega)]
 .refine gx.r rfl rfl (f25 out x (by omega)) (by simp) rfl (by simp) ?_;simp;refine j' ?_ ?_<;>intro h
  .rw[e,if_neg (by rintro⟨_,_,k⟩;exact k ‹_›)]
  .refine Yc (f251 g hg s d x) ?_;simp;refine⟨out.length+1,_,out ++ [x],by simp,rfl,by simp,rfl,by omega,by simp,(hg.to _ _ _).2,?_,?_,?_⟩
   .rw[cO];refine⟨f,by simp,λy a z i=>?_⟩;simp at i;subst i;intro l;subst l;exact absurd a ‹_›
   .intro y a;simp at a;rcases a with a|rfl
    .exact b y a
    .omega
   .rw[e,if_pos (p9 (by assumption)),h0,show 9-out.length=10-(out.length+1)by omega]
 .rw[e,if_neg (by omega)]
