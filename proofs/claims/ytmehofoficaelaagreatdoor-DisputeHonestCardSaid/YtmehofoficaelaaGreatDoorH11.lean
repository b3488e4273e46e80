/- Part 11 of DisputeHonest. -/
import Derived.Test.YtmehofoficaelaaGreatDoorH10
import Derived.Test.YtmehofoficaelaaGreatDoorH08
set_option linter.all false
namespace Go.AL
def ka(a b:Int):Int:=if a<b then -1 else if a>b then 1 else 0
def jW:List Int->List Int->Int
 | [],[]=>0
 | [],_::_ => -1
 | _::_,[]=>1
 | a::l,b::m=>if a=b then jW l m else ka a b
def mo:List Int->Int
 | []=>0
 | a::l=>if a≠0 then a else mo l
def gP(p q:Pos):Int:=mo [jW p.cs q.cs,jW p.h0 q.h0,jW p.h1 q.h1,ka p.fY q.fY,ka p.side q.side]
theorem w7{a b:Int}:ka a b=0↔a=b:=by unfold ka;(repeat' split)<;>omega
theorem CA{a b:Int}:ka a b<0↔a<b:=by unfold ka;(repeat' split)<;>omega
theorem LQ(a b:Int):ka b a = - ka a b:=by unfold ka;(repeat' split)<;>omega
theorem LF:∀ {a b:List Int},jW a b=0↔a=b
 | [],[]=>by simp[jW]
 | [],_::_=>by simp[jW]
 | _::_,[]=>by simp[jW]
 | a::l,b::m=>by
  unfold jW;split
  .rename_i h;subst h;rw[LF];simp
  .rename_i h;rw[w7];simp[h]
theorem LC:∀(a b:List Int),jW b a = - jW a b
 | [],[]=>rfl
 | [],_::_=>rfl
 | _::_,[]=>rfl
 | a::l,b::m=>by
  unfold jW
  by_cases h:a=b
  .subst h;simp[LC l m]
  .rw[if_neg h,if_neg (cF h),LQ]
theorem LD:∀ {a b c:List Int},jW a b<0->jW b c<0->jW a c<0
 | [],[],c,h,_=>by simp[jW]at h
 | _::_,[],c,h,_=>by simp[jW]at h
 | a,_::_,[],_,h=>by simp[jW]at h
 | [],_::_,_::_,_,_=>by simp[jW]
 | a::l,b::m,c::k,h1,h2=>by
  unfold jW at *
  by_cases e:a=b
  .subst e;rw[if_pos rfl]at h1
   by_cases d:a=c
   .subst d;rw[if_pos rfl]at h2 ⊢;exact LD h1 h2
   .rw[if_neg d]at h2 ⊢;exact h2
  .rw[if_neg e,CA]at h1
   by_cases d:b=c
   .subst d;rw[if_neg e,CA];exact h1
   .rw[if_neg d,CA]at h2;rw[if_neg (by omega),CA];omega
theorem NO:∀ {l:List Int},mo l=0↔∀x∈l,x=0
 | []=>by simp[mo]
 | a::l=>by
  unfold mo;split
  .rename_i h;simp[h]
  .rename_i h;rw[NO];simp_all
theorem pU{p q:Pos}:gP p q=0↔p=q:=by unfold gP;rw[NO];cases p;cases q;simp[LF,w7]
theorem tN(p:Pos):gP p p=0:=pU.2 rfl
theorem tO(p q:Pos):gP q p = - gP p q:=by unfold gP mo;rw[LC p.cs,LC p.h0,LC p.h1,LQ p.fY,LQ p.side];simp only[mo];(repeat' split)<;>omega
theorem zw{A B C:Int}{a b c:List Int}(h1:A=0->C=B)(g:B=0->C=A)(f:A<0->B<0->C<0)(h:mo a<0->mo b<0->mo c<0):mo (A::a)<0->mo (B::b)<0->mo (C::c)<0:=by
 unfold mo;intro x y
 by_cases e:A=0
 .have:=h1 e;subst this;rw[if_neg (by simpa using e)]at x
  by_cases d:C=0
  .rw[if_neg (by simpa using d)]at y ⊢;exact h x y
  .rw[if_pos d]at y ⊢;exact y
 .rw[if_pos e]at x
  by_cases d:B=0
  .have:=g d;subst this;rw[if_pos e];exact x
  .rw[if_pos d]at y;have:=f x y;rw[if_pos (by omega)];exact this
theorem xM{p q r:Pos}:gP p q<0->gP q r<0->gP p r<0:=by
 have key:∀a b c:List Int,jW a b=0->jW a c=jW b c:=λa b c h=>by rw[LF.1 h]
 have d:∀a b c:List Int,jW b c=0->jW a c=jW a b:=λa b c h=>by rw[LF.1 h]
 have n1:∀a b c:Int,ka a b=0->ka a c=ka b c:=λa b c h=>by rw[w7.1 h]
 have n2:∀a b c:Int,ka b c=0->ka a c=ka a b:=λa b c h=>by rw[w7.1 h]
 have e:∀a b c:Int,ka a b<0->ka b c<0->ka a c<0:=λa b c=>by simp only[CA];omega
 unfold gP;refine zw (key _ _ _) (d _ _ _) LD (zw (key _ _ _) (d _ _ _) LD (zw (key _ _ _) (d _ _ _) LD (zw (n1 _ _ _) (n2 _ _ _) (e _ _ _) (zw (n1 _ _ _) (n2 _ _ _) (e _ _ _) λh=>?_))));simp[mo]at h
theorem V8{a b:List Int}:∀ {i:Nat},a.take i=b.take i->i<=a.length->i<=b.length->jW a b=jW (a.drop i) (b.drop i):=by
 intro i
 induction i generalizing a b with
 | zero=>intro _ _ _;rfl
 | succ i d=>
  intro h h1 c
  cases a with
  | nil=>simp at h1
  | cons x a=>
   cases b with
   | nil=>simp at c
   | cons y b=>
    simp only[List.take_succ_cons,cW]at h;simp only[aG]at h1 c;simp only[List.drop_succ_cons,jW,h.1,if_true];exact d h.2 (by omega) (by omega)
theorem PM{a b:List Int}(h:a.length=0\/b.length=0):jW a b=ka a.length b.length:=by
 cases a<;>cases b<;>simp_all [jW,ka]
 all_goals omega
theorem SM{p q r:Pos}(h1:gP p q<=0)(c:gP q r<=0):gP p r<=0:=by
 by_cases a:gP p q=0
 .rw[pU.1 a];exact c
 .by_cases b:gP q r=0
  .rw[<-pU.1 b];exact h1
  .exact Int.le_of_lt (xM (show gP p q<0 by omega) (show gP q r<0 by omega))
def WS(l:List Pos):Prop:=l.Pairwise λx y=>gP x y<=0
def Small(p:Pos):Prop:=p.cs.length<2 ^ 40/\p.h0.length<2 ^ 40/\p.h1.length<2 ^ 40
def kd(l:List Pos):Prop:=∀i:Int,1<=i->i<l.length->gP (gt l (i-1)) (gt l i)<0
theorem kd.lt{l:List Pos}(h:kd l){i:Int}(h0:0<=i):∀ {n:Nat},i<n->(n:Int)<l.length->gP (gt l i) (gt l n)<0
 | 0,h1,_=>by omega
 | n+1,h1,h2=>by
  have:=h (n+1) (by omega) (by omega);rw[dw]at this
  by_cases e:i=n
  .subst e;exact this
  .exact xM (h.lt h0 (by omega) (by omega)) this
theorem kd.le{l:List Pos}(h:kd l){i j:Int}(h0:0<=i)(h1:i<j)(a:j<l.length):gP (gt l i) (gt l j)<0:=by have:=h.lt h0 (n:=j.toNat) (by omega) (by omega);rwa [bS (by omega)]at this
theorem kd.inj{l:List Pos}(h:kd l){i j:Int}(h0:0<=i)(h1:i<l.length)(d:0<=j)(c:j<l.length)(e:gt l i=gt l j):i=j:=by
 by_cases a:i<j
 .have:=h.le h0 a c;rw[e,tN]at this;omega
 .by_cases b:j<i
  .have:=h.le d b h1;rw[e,tN]at this;omega
  .omega
def oH(l:List Pos)(p:Pos):Int:=if p∈l then(l.idxOf p:Int)else -1
theorem TR{l:List Pos}{p:Pos}(h:p ∉ l):oH l p = -1:=if_neg h
theorem Eb{l:List Pos}{p:Pos}(h:p∈l):0<=oH l p/\oH l p<l.length/\gt l (oH l p)=p:=by unfold oH;rw[if_pos h];have hi:l.idxOf p<l.length:=List.idxOf_lt_length_iff.2 h;refine qe ?_;rw[KL hi];exact List.getElem_idxOf hi
theorem abT{l:List Pos}(hs:kd l){i:Int}(h0:0<=i)(h1:i<l.length):oH l (gt l i)=i:=by obtain⟨a,b,c⟩:=Eb (fM h0 h1);exact hs.inj a b h0 h1 c
end Go.AL
namespace Go.AL
open Go
def pt{α:Type}(l:List α)(n:Int)(v:α):List α:=l.take n.toNat++v::l.drop (n.toNat+1)
section
variable{α:Type}[Inhabited α]{l:List α}{n k:Int}{v:α}
theorem FQ(h0:0<=n)(h:n<l.length):pt l n v=l.set n.toNat v:=by rw[pt,cP,if_pos (by omega)]
theorem ig(h0:0<=n)(h:n<l.length):(pt l n v).length=l.length:=by rw[FQ h0 h,aF]
theorem o5(h0:0<=n)(h:n<l.length)(a:0<=k):gt (pt l n v) k=if k=n then v else gt l k:=by
 rw[FQ h0 h];unfold gt;simp only[List.getD_eq_getElem?_getD,bK]
 by_cases e:k=n
 .subst e;rw[if_pos rfl,if_pos rfl,if_pos (by omega)];rfl
 .rw[if_neg (by omega),if_neg e]
theorem BK(h0:0<=n)(h:n<l.length):gt (pt l n v) n=v:=by rw[o5 h0 h h0,if_pos rfl]
theorem Uf(h0:0<=n)(h:n<l.length)(a:0<=k)(e:k≠n):gt (pt l n v) k=gt l k:=by rw[o5 h0 h a,if_neg e]
theorem Wn{x:α}(h:x∈pt l n v):x=v\/x∈l:=by
 unfold pt at h;simp only[List.mem_append,aw]at h;rcases h with h|h|h
 .exact .inr (aN h)
 .exact .inl h
 .exact .inr (bz h)
end
@[simp] theorem atU{α:Type}(l:List α)(n:Int)(v:α):l.take n.toNat++v::l.drop (n.toNat+1)=pt l n v:=(rfl)
def ly(g:fu)(s d c:Int):Int:=
 if s<0\/s>1\/d<0\/d>=g.next.length\/c<0\/c>=g.size then -1 else gt (gt g.next (if s=1 then gt g.iO d else d)) c
structure nv(g:fu):Prop where
 size:1<=g.size/\g.size<=9
 next:g.next.length=8
 row:∀l∈g.next,(l.length:Int)=g.size/\∀x∈l,-1<=x/\x<g.size
 iO:g.iO.length=8
 turns:∀d,0<=d->d<8->0<=gt g.iO d/\gt g.iO d<8/\gt g.iO (gt g.iO d)=d
theorem nv.to{g:fu}(h:nv g)(s d c:Int) : -1<=ly g s d c/\ly g s d c<g.size:=by
 have:=h.size;unfold ly;split
 .omega
 .rename_i e;have f:=h.next
  simp only[not_or,eG,Int.not_le,gt_iff_lt,ge_iff_le]at e
  have b:0<=(if s=1 then gt g.iO d else d)/\(if s=1 then gt g.iO d else d)<8:=by
   split
   .have:=h.turns d (by omega) (by omega);omega
   .omega
  have a:=h.row _ (fM (l:=g.next) b.1 (by omega));exact a.2 _ (fM (by omega) (by omega))
structure Dv(g:fu)(x:fq):Prop where
 ok:((x.1=1\/x.1=2\/x.1=7)/\0<=x.2/\x.2<8)\/(3<=x.1/\x.1<=6/\x.2=0)\/(x.1=8/\0<=x.2/\x.2<g.kinds.length)\/((x.1=9\/x.1=10)/\0<=x.2/\x.2<g.fY)
def nz(l:List fq)(op:Int):Int:=(l.countP λx=>x.1=op:Nat)
structure vQ(g:fu)(l:List fq):Prop where
 len:1<=l.length/\l.length<=8
 steps:∀x∈l,Dv g x
 sS:nz l 6<=2
 push:nz l 7<=1
 JJ:nz l 8<=1
structure A3(g:fu)(c:Clause):Prop where
 ok:(c.cond=1/\0<=c.kind/\c.kind<g.kinds.length/\c.n=0)\/(c.cond=2/\0<=c.kind/\c.kind<g.kinds.length/\0<=c.n/\c.n<g.size)\/(c.cond=3/\c.kind=0/\0<=c.n/\c.n<=64)
 out:1<=c.out/\c.out<=3
def kindName(n:Int):ByteArray:=if n=0 then⟨#[97]⟩else⟨#[98,101,101]⟩
structure gu(g:fu):Prop where
 jb:nv g
 kinds:1<=g.kinds.length/\g.kinds.length<=2
 names:∀k:Int,0<=k->k<g.kinds.length->(gt g.kinds k).name=kindName k
 iG:∀k∈g.kinds,k.iG.length<=4/\∀l∈k.iG,vQ g l
 fY:0<=g.fY/\g.fY<=2
 clauses:g.clauses.length<=3
 clause:∀c∈g.clauses,A3 g c
 blocked:1<=g.blocked/\g.blocked<=3
 u4:1<=g.u4/\g.u4<=3
structure qj(g:fu)(l:List Int):Prop where
 len:l.length=g.kinds.length
 at_:∀k:Int,0<=k->k<l.length->0<=gt l k/\gt l k<=8/\(0<gt l k->(gt g.kinds k).keep=true)
structure gJ(g:fu)(p:Pos):Prop where
 size:(p.cs.length:Int)=g.size
 h0:qj g p.h0
 h1:qj g p.h1
 fY:0<=p.fY/\p.fY<2 ^ g.fY.toNat
 side:0<=p.side/\p.side<=1
 cs:∀x∈p.cs,0<=x/\x<=2*g.kinds.length
def fX(n:Int):Int:=if 1<=n/\n<=12 then(n-1) / 2 else -1
def jr(n:Int):Int:=if 1<=n/\n<=12 then(n-1) % 2 else -1
def kO(k s:Int):Int:=1+2*k+s
def sG(g:fu)(s d c:Int):Nat->Int->List Int->List Int
 | 0,_,out=>out
 | n+1,x,out=>if 0<=x/\x≠c/\x ∉ out then sG g s d c n (ly g s d x) (out ++ [x])else out
def kA(g:fu)(s d c:Int):List Int:=sG g s d c 10 (ly g s d c) []
theorem V4{g:fu}(hg:nv g){s d c:Int}:∀(n:Nat) (x:Int) (out:List Int),x<g.size->(∀y∈out,0<=y/\y<g.size)->∀y∈sG g s d c n x out,0<=y/\y<g.size
 | 0,x,out,_,h,y,hy=>h y hy
 | n+1,x,out,hx,h,y,hy=>by
  unfold sG at hy;split at hy
  .rename_i e;refine V4 hg n _ _ (hg.to _ _ _).2 (λz a=>?_) y hy;simp only[List.mem_append,List.mem_singleton]at a;rcases a with a|a
   .exact h z a
   .omega
  .exact h y hy
theorem PK{g:fu}(hg:nv g){s d c y:Int}(h:y∈kA g s d c):0<=y/\y<g.size:=V4 hg _ _ _ (hg.to _ _ _).2 (by simp) y h
theorem AB:∀(n:Nat) (l:List Int),l.Nodup->(∀y∈l,0<=y/\y<n)->l.length<=n
 | 0,[],_,_=>by simp
 | 0,a::l,_,h=>by have:=h a (by simp);omega
 | n+1,l,hn,h=>by
  by_cases e:(n:Int)∈l
  .have h1:(l.erase (n:Int)).length<=n:=AB n _ (hn.erase _) λy b=>by have:=(hn.mem_erase_iff).1 b;have:=h y this.2;omega
   rw[eR e]at h1;omega
  .have:=AB n l hn λy b=>by have:=h y b;have:y≠n:=λc=>e (c▸b);omega
   omega
structure fF where
 p:Pos
 kind:Int
 cur:Int
 je:Bool
 deriving DecidableEq,Inhabited
def fF.cells(s:fF):List D:=[dI s.p.cs,dI s.p.h0,dI s.p.h1,.i s.p.fY,.i s.p.side,.i s.kind,.i s.cur,.b s.je]
structure jE(g:fu)(s:fF):Prop where
 p:gJ g s.p
 kind:0<=s.kind/\s.kind<g.kinds.length
 cur:0<=s.cur/\s.cur<g.size
def Pos.hand(p:Pos)(s:Int):List Int:=if s=0 then p.h0 else p.h1
def Pos.mc(p:Pos)(s:Int)(l:List Int):Pos:=if s=0 then{ p with h0:=l }else{ p with h1:=l }
def pe(s:fF):List Int->List fF
 | []=>[]
 | c::r=>{ s with cur:=c }::if gt s.p.cs c=0 then pe s r else []
def rS(g:fu)(s:fF):List fF:=
 let c:=gt s.p.cs s.cur
 if jr c≠1-s.p.side then []else
  let p:={ s.p with cs:=pt s.p.cs s.cur 0 }
  if (gt g.kinds (fX c)).keep=false then [{ s with p:=p,je:=true }]else
   let n:=gt (s.p.hand s.p.side) (fX c)+1
   if n<=8 then [{ s with p:=p.mc s.p.side (pt (s.p.hand s.p.side) (fX c) n),je:=true }]else []
def sO(g:fu)(s:fF)(n:Int):List fF:=
 let to:=ly g s.p.side n s.cur
 if gt s.p.cs s.cur=0\/to<0\/gt s.p.cs to≠0 then []else
  [{ s with p:={ s.p with cs:=pt (pt s.p.cs to (gt s.p.cs s.cur)) s.cur 0 } }]
def zM(r n:Int):Prop:=r / 2 ^ n.toNat % 2=1
instance(r n:Int):Decidable (zM r n):=by unfold zM;infer_instance
def dropRight(r n:Int):Int:=if zM r n then r-2 ^ n.toNat else r
theorem QT{b:Int}(h0:0<=b)(h:b<=4):xe .i64 1 b=2 ^ b.toNat:=by
 have:b=0\/b=1\/b=2\/b=3\/b=4:=by omega
 rcases this with rfl|rfl|rfl|rfl|rfl<;>decide
theorem Ww{r:Int}(h0:0<=r)(h:r<16):∃i:Fin 16,r=(i.val:Int):=⟨⟨r.toNat,by omega⟩,by simp;omega⟩
theorem Wx{r:Int}(h0:0<=r)(h:r<4):∃i:Fin 4,r=(i.val:Int):=⟨⟨r.toNat,by omega⟩,by simp;omega⟩
theorem Xu:∀(i:Fin 16) (k:Fin 4),(bits .and .i64 (lK .i64 (i.val:Int) (k.val:Int)) 1=1↔zM (i.val:Int) (k.val:Int))/\bits .andNot .i64 (i.val:Int) (xe .i64 1 (k.val:Int))=dropRight (i.val:Int) (k.val:Int):=by decide +kernel
theorem Xr{r n:Int}(h0:0<=r)(h1:r<16)(b:0<=n)(a:n<4):(bits .and .i64 (lK .i64 r n) 1=1)=zM r n:=by obtain⟨i,rfl⟩:=Ww h0 h1;obtain⟨k,rfl⟩:=Wx b a;exact propext (Xu i k).1
theorem Xt{r n:Int}(h0:0<=r)(h1:r<16)(b:0<=n)(a:n<4):bits .andNot .i64 r (xe .i64 1 n)=dropRight r n:=by obtain⟨i,rfl⟩:=Ww h0 h1;obtain⟨k,rfl⟩:=Wx b a;exact(Xu i k).2
theorem CF{b:Int}(h0:0<=b)(h:b<=4):(2:Int) ^ b.toNat<=16:=by
 have:b=0\/b=1\/b=2\/b=3\/b=4:=by omega
 rcases this with rfl|rfl|rfl|rfl|rfl<;>decide
def im(g:fu)(s:fF)(x:fq):List fF:=
 let c:=gt s.p.cs s.cur
 if x.1=1 then(let to:=ly g s.p.side x.2 s.cur;if 0<=to then [{ s with cur:=to }]else [])
 else if x.1=2 then pe s (kA g s.p.side x.2 s.cur)
 else if x.1=3 then(if c=0 then [s]else [])
 else if x.1=4 then(if jr c=1-s.p.side then [s]else [])
 else if x.1=5 then(if jr c=s.p.side then [s]else [])
 else if x.1=6 then rS g s
 else if x.1=7 then sO g s x.2
 else if x.1=8 then [{ s with kind:=x.2 }]
 else if x.1=9 then(if zM s.p.fY x.2 then [s]else [])
 else [{ s with p:={ s.p with fY:=dropRight s.p.fY x.2 } }]
def rQ(g:fu):List fq->List fF->List fF
 | [],l=>l
 | x::r,l=>rQ g r (l.flatMap λs=>im g s x)
def kC(p:Pos)(cell:Int):fF:={ p:={ p with cs:=pt p.cs cell 0 },kind:=fX (gt p.cs cell),cur:=cell,je:=false }
structure gh where
 p:Pos
 je:Bool
 deriving DecidableEq,Inhabited
def gh.cells(o:gh):List D:=[dI o.p.cs,dI o.p.h0,dI o.p.h1,.i o.p.fY,.i o.p.side,.b o.je]
def nc(side:Int)(s:fF):Option gh:=
 if gt s.p.cs s.cur=0 then some { p:={ s.p with cs:=pt s.p.cs s.cur (kO s.kind side),side:=1-side },je:=s.je }else none
def tq(g:fu)(p:Pos)(cell:Int)(l:List fq):List gh:=(rQ g l [kC p cell]).filterMap (nc p.side)
def upto(n:Nat):List Int:=(List.range n).map λk:Nat=>(k:Int)
theorem js{n:Nat}{k:Int}:k∈upto n↔0<=k/\k<n:=by
 simp only[upto,au,a7];constructor
 .rintro⟨a,h,rfl⟩;omega
 .intro h;exact⟨k.toNat,by omega,by omega⟩
def oU(g:fu)(p:Pos)(c:Int):List gh:=if jr (gt p.cs c)=p.side then(gt g.kinds (fX (gt p.cs c))).iG.flatMap (tq g p c)else []
def pg(g:fu)(p:Pos):List gh:=(upto p.cs.length).flatMap (oU g p)
def jA(p:Pos)(k c:Int):Pos:={ p.mc p.side (pt (p.hand p.side) k (gt (p.hand p.side) k-1))with cs:=pt p.cs c (kO k p.side),side:=1-p.side }
def xy(g:fu)(p q:Pos):Prop:=∃k c:Int,0<=k/\k<g.kinds.length/\0<=c/\c<p.cs.length/\gt (p.hand p.side) k≠0/\gt p.cs c=0/\q=jA p k c
def qx(p:Pos)(side kind:Int):Int:=(p.cs.countP λc=>0<=fX c/\jr c=side/\(kind<0\/fX c=kind):Nat)
def kf(p:Pos)(c:Clause):Prop:=
 if c.cond=1 then qx p p.side c.kind=0 else if c.cond=2 then gt p.cs c.n=kO c.kind (1-p.side)else qx p p.side (-1)<=c.n
def pP(g:fu)(p q:Pos):Prop:=
 (∀c∈g.clauses,¬kf p c) /\
 if g.nL=true/\(∃o∈pg g p,o.je=true)then⟨q,true⟩∈pg g p else(∃o∈pg g p,o.p=q)\/xy g p q
theorem gJ.small{g:fu}(hg:gu g){p:Pos}(h:gJ g p):Small p:=by have h1:=h.size;have d:=hg.jb.size;have c:=h.h0.len;have b:=h.h1.len;have a:=hg.kinds;exact mb
theorem gJ.hand{g:fu}{p:Pos}(h:gJ g p)(s:Int):qj g (p.hand s):=by
 unfold Pos.hand;split
 .exact h.h0
 .exact h.h1
theorem gJ.mc{g:fu}{p:Pos}(h:gJ g p)(s:Int){l:List Int}(hl:qj g l):gJ g (p.mc s l):=by
 unfold Pos.mc;split
 .exact{ h with h0:=hl }
 .exact{ h with h1:=hl }
theorem gJ.AV{g:fu}{p:Pos}(h:gJ g p){c v:Int}(d:0<=c)(e:c<g.size)(b:0<=v/\v<=2*g.kinds.length):gJ g { p with cs:=pt p.cs c v }:=
 { h with
  size:=by dsimp only;rw[ig d (by rw[h.size];exact e)];exact h.size
  cs:=λx a=>by
   rcases Wn a with rfl|a
   .exact b
   .exact h.cs x a }
theorem qj.set{g:fu}{l:List Int}(h:qj g l){k v:Int}(b:0<=k)(a:k<l.length)(c:0<=v/\v<=8/\(0<v->(gt g.kinds k).keep=true)):qj g (pt l k v) where
 len:=by rw[ig b a];exact h.len
 at_ j hj K8:=by
  rw[ig b a]at K8;rw[o5 b a hj];split
  .rename_i e;subst e;exact c
  .exact h.at_ j hj K8
theorem wY{n:Int}{g:fu}(h:n<=2*g.kinds.length)(a:1<=g.kinds.length):fX n<g.kinds.length:=by unfold fX;split<;>omega
theorem Fw{n s:Int}(hs:0<=s)(h:jr n=s):0<=fX n/\1<=n/\n<=12/\n=kO (fX n) s:=by
 unfold jr at h;unfold fX kO;split at h<;>rename_i e
 .rw[if_pos e];omega
 .omega
theorem aai{r n k:Int}(h:0<=r)(a:r<2 ^ k.toNat):0<=dropRight r n/\dropRight r n<2 ^ k.toNat:=by
 unfold dropRight;split
 .rename_i e;unfold zM at e;have b:(0:Int)<2 ^ n.toNat:=Int.pow_pos (by decide)
  have:2 ^ n.toNat<=r:=by
   by_cases c:r<2 ^ n.toNat
   .rw[Int.ediv_eq_zero_of_lt h c]at e;simp at e
   .omega
  omega
 .exact⟨h,a⟩
theorem V7{s t:fF}:∀ {l:List Int},t∈pe s l->∃c∈l,t = { s with cur:=c }
 | [],h=>by simp[pe]at h
 | c::r,h=>by
  unfold pe at h;rcases aw.1 h with h|h
  .exact⟨c,by simp,h⟩
  .split at h
   .obtain⟨c',h1,a⟩:=V7 h;exact⟨c',by simp[h1],a⟩
   .cases h
theorem A0{g:fu}(hg:gu g){s:fF}(hs:jE g s){x:fq}(k:Dv g x){t:fF}(h:t∈im g s x):jE g t:=by
 have d:=hg.jb;have j:s.cur<s.p.cs.length:=by rw[hs.p.size];exact hs.cur.2
 have i:=hs.p.cs _ (fM hs.cur.1 j);unfold im at h;dsimp only at h;split at h
 .split at h
  .rename_i h0;rw[List.mem_singleton]at h;subst h;exact{ hs with cur:=⟨h0,(d.to _ _ _).2⟩ }
  .cases h
 split at h
 .obtain⟨c,h1,rfl⟩:=V7 h;exact{ hs with cur:=PK d h1 }
 iterate 3
  split at h
  .split at h
   .rw[List.mem_singleton]at h;subst h;exact hs
   .cases h
 split at h
 .unfold rS at h;dsimp only at h;split at h
  .cases h
  rename_i e;have e:=Decidable.not_not.1 e;have l:=hs.p.side;obtain⟨m1,m2,m3,m4⟩:=Fw (by omega) e;have a:fX (gt s.p.cs s.cur)<g.kinds.length:=wY i.2 hg.kinds.1;have f:gJ g { s.p with cs:=pt s.p.cs s.cur 0 }:=hs.p.AV hs.cur.1 hs.cur.2 (by omega);split at h
  .rw[List.mem_singleton]at h;subst h;exact{ hs with p:=f }
  rename_i kp;split at h
  .rename_i n;rw[List.mem_singleton]at h;subst h;have b:=hs.p.hand s.p.side;have hl:=b.len;have m:=b.at_ _ m1 (by rw[hl];exact a);exact{ hs with p:=f.mc _ (b.set m1 (by rw[hl];exact a) (qe (λ_=>by simpa using kp))) }
  .cases h
 split at h
 .unfold sO at h;dsimp only at h;split at h
  .cases h
  rename_i e;simp only[not_or,eG]at e;rw[List.mem_singleton]at h;subst h;have h1:=hs.p.AV (c:=ly g s.p.side x.2 s.cur) (v:=gt s.p.cs s.cur) e.2.1 (d.to _ _ _).2 i;exact{ hs with p:=h1.AV hs.cur.1 hs.cur.2 (by omega) }
 split at h
 .rename_i o;rw[List.mem_singleton]at h;subst h;have a:0<=x.2/\x.2<g.kinds.length:=by have:=k.ok;omega
  exact{ hs with kind:=a }
 split at h
 .split at h
  .rw[List.mem_singleton]at h;subst h;exact hs
  .cases h
 .rw[List.mem_singleton]at h;subst h;exact{ hs with p:={ hs.p with fY:=aai hs.p.fY.1 hs.p.fY.2 } }
theorem Me{g:fu}(hg:gu g):∀ {l:List fq} {a:List fF},(∀x∈l,Dv g x)->(∀s∈a,jE g s)->∀s∈rQ g l a,jE g s
 | [],_,_,h,s,hs=>h s hs
 | x::r,a,hx,h,s,hs=>by refine Me (a:=a.flatMap λs=>im g s x) hg (λy c=>hx y (by simp[c])) (λt b=>?_) s hs;obtain⟨u,d,b⟩:=bB.1 b;exact A0 hg (h u d) (hx x (by simp)) b
theorem XI{g:fu}:∀ {l:List fq} {a b:List fF},(∀s,s∈a↔s∈b)->∀s,s∈rQ g l a↔s∈rQ g l b
 | [],_,_,h,s=>h s
 | x::r,a,b,h,s=>XI (l:=r) (λt=>by simp only[bB,h]) s
theorem Gm{g:fu}(hg:gu g){p:Pos}(a:gJ g p){c:Int}(h0:0<=c)(h1:c<g.size)(b:jr (gt p.cs c)=p.side):jE g (kC p c):=by have d:=a.cs _ (fM h0 (by rw[a.size];exact h1));exact{ p:=a.AV h0 h1 (by omega),kind:=⟨(Fw a.side.1 b).1,wY d.2 hg.kinds.1⟩,cur:=⟨h0,h1⟩ }
theorem Kt{g:fu}{s:fF}(hs:jE g s){side:Int}(h0:0<=side)(h1:side<=1){o:gh}(h:nc side s=some o):gJ g o.p:=by
 unfold nc at h;split at h
 .cases h;have:=hs.kind;exact{ hs.p.AV hs.cur.1 hs.cur.2 (v:=kO s.kind side) (by unfold kO;omega)with side:=by dsimp only;omega }
 .cases h
theorem LY{g:fu}(hg:gu g){p:Pos}(a:gJ g p){o:gh}(h:o∈pg g p):gJ g o.p:=by
 obtain⟨c,b,h⟩:=bB.1 h;rw[js,a.size]at b;unfold oU at h;split at h
 .rename_i e;obtain⟨l,hl,h⟩:=bB.1 h;obtain⟨s,hs,h⟩:=cK.1 h;have d:=Gm hg a b.1 b.2 e;have i:=hg.iG _ (fM (l:=g.kinds) d.kind.1 d.kind.2);exact Kt (Me hg (i.2 l hl).steps (λt f=>by rw[List.mem_singleton]at f;subst f;exact d) s hs) a.side.1 a.side.2 h
 .cases h
theorem D0{g:fu}{p:Pos}(a:gJ g p){q:Pos}(h:xy g p q):gJ g q:=by
 obtain⟨k,c,h1,o,i,n,m,l,rfl⟩:=h;have b:=a.hand p.side;have hl:=b.len;have f:=b.at_ k h1 (by omega);have hs:=a.side;have j:=a.size;have d:=(a.mc p.side (b.set h1 (v:=gt (p.hand p.side) k-1) (by omega) (qe (λ_=>f.2.2 (by omega)))));have e:(p.mc p.side (pt (p.hand p.side) k (gt (p.hand p.side) k-1))).cs=p.cs:=by unfold Pos.mc;split<;>rfl
 have:=d.AV (c:=c) (v:=kO k p.side) i (by omega) (by unfold kO;omega);rw[e]at this;exact{ this with side:=by dsimp only[jA];omega }
theorem P'{g:fu}(hg:gu g){p:Pos}(a:gJ g p){q:Pos}(h:pP g p q):gJ g q:=by
 obtain⟨_,h⟩:=h;split at h
 .exact LY hg a h
 .rcases h with⟨o,h,rfl⟩|h
  .exact LY hg a h
  .exact D0 a h
end Go.AL
namespace Go.Proofs.YtmehofoficaelaaGreatDoor
open Go Go.AL Classical
set_option maxRecDepth 10000
theorem f95(n a b:Int):Wf T 253 [.i n,.i a,.i b] [] (Is (.b (decide (a<=n/\n<=b)))):=by refine Yg Ju ?_;simp[Ju];exact lZ
theorem f94(a b:Int):Wf T 202 [.i a,.i b] [] (Is (.i (ka a b))):=by
 refine Yg Jt ?_;simp[Jt];(with_reducible repeat' first|refine Xk ?_<;>try simp|refine Xs ?_ ?_<;>intro h<;>(try intro c)<;>(try simp[h])<;>try omega|refine Xg ?_|omega)
 all_goals (simp only[ka];(repeat' split)<;>omega)
theorem f92{k s:Int}(c:0<=k)(b:k<6)(hs:0<=s)(a:s<=1):Wf T 216 [.i k,.i s] [] (Is (.i (1+2*k+s))):=by refine Yg Jr ?_;simp[Jr];exact lZ
theorem f156{k s:Int}(b:0<=k)(c:k<6)(hs:0<=s)(a:s<=1):Wf T 206 [.i k,.i s] [] (Is (.i (1+2*k+s))):=by refine Yg Ia ?_;simp[Ia];refine fL.c rfl rfl (f95 _ _ _) (by simp[fR]) (by simp) ?_;simp[show k<=5 by omega,b];refine fL.c rfl rfl (f95 _ _ _) (by simp[fR]) (by simp) ?_;simp[hs,a];omega
theorem f25(l:List Int)(n:Int)(hl:l.length<2 ^ 40):Wf T 40 [dI l,.i n] [] (Is (.b (decide (n∈l)))):=by
 refine Yg IS ?_;simp[IS];refine fE.i (α:=Int) [0,1,5] rfl (λi=>[(0,dI l),(1,.i n),(5,.i i)]) (λ_=>[]) (λi=>0<=i/\i<=l.length/\n ∉ l.take i.toNat) (λi=>l.length-i.toNat) 0 (by simp) (by simp) rfl ?_;rintro i ⟨h0,h1,a⟩;simp;(with_reducible repeat' first|refine Xk ?_<;>try simp|refine Xs ?_ ?_<;>intro h<;>(try intro b)<;>(try simp[h])<;>try omega|refine Xg ?_|omega)
 .have:=fM h0 ‹_›;simp_all
 .skip;rw[iD h0 ‹_›];simp_all;exactλe=>h e.symm
 .simpa[kq (by omega:(l.length:Int)<=i)]using a
theorem f93(a b:List Int)(f:a.length<2 ^ 40)(d:b.length<2 ^ 40):Wf T 201 [dI a,dI b] [] (Is (.i (jW a b))):=by
 refine Yg Js ?_;simp[Js];refine fE.j (0:Int) (λi=>[(0,dI a),(1,dI b),(5,.i i)]) (λ_=>_) (λi=>0<=i/\i<=a.length/\i<=b.length/\a.take i.toNat=b.take i.toNat) (λi=>a.length-i.toNat) ?_ (by simp) (by first|rfl|simp) rfl ?_
 .simp
 rintro i ⟨h0,h1,j,c⟩;have e:=V8 c (by omega) (by omega);simp;(with_reducible repeat' first|refine Xk ?_<;>try simp|refine Xs ?_ ?_<;>intro h<;>(try intro g)<;>(try simp[h])<;>try omega|refine Xg ?_|omega)
 .skip;rw[iD h0 (by omega),iD h0 (by omega),c];simp_all
 .refine Yt (f94 _ _) ?_;simp;rw[e,mP h0 ‹_›,mP h0 ‹_›,jW,if_neg (by assumption)]
 all_goals
  refine Yc (f94 _ _) ?_;simp;rw[e,PM (by simp only[aQ];omega)];simp only[aQ,ka];(repeat' split)<;>omega
theorem f50(p q:Pos)(b:Small p)(a:Small q):Wf T 137 [dP p,dP q] [] (Is (.i (gP p q))):=by
 refine Yg I' ?_;simp[I'];refine Yt (f93 _ _ b.1 a.1) ?_;simp;refine Yt (f93 _ _ b.2.1 a.2.1) ?_;simp;refine Yt (f93 _ _ b.2.2 a.2.2) ?_;simp;refine Yt (f94 _ _) ?_;simp;refine Yt (f94 _ _) ?_;simp;(refine fE.un ?_;(repeat' first|(refine jY.u ?_;simp;done)|(refine jY.u ?_;simp)|((with_reducible first|refine X2.d ?_ ?_|refine X2.a ?_ ?_|refine X2.o ?_ ?_|refine X2.b ?_ ?_)<;>intro h<;>(try simp[h]))|fail))
 all_goals simp_all [gP,mo]
theorem f51(n:Int):Wf T 203 [.i n] [] (Is (.agg [.i (fX n),.i (jr n)])):=by
 refine Yg Ja ?_;simp[Ja];refine Yc (f95 _ _ _) ?_;simp;(with_reducible repeat' first|refine Xk ?_<;>try simp|refine Xs ?_ ?_<;>intro h<;>(try intro a)<;>(try simp[h])<;>try omega|refine Xg ?_|omega)
 .rw[tu (by omega) (by omega) (by omega),iV (by omega)];simp[fX,jr];omega
 .simp[fX,jr];omega
theorem f84(n:Int):Wf T 163 [.i n] [] (Is (.tup [.i (fX n),.i (jr n)])):=by
 refine Yg Jm ?_;simp[Jm];(with_reducible repeat' first|refine Xk ?_<;>try simp|refine Xs ?_ ?_<;>intro h<;>(try intro a)<;>(try simp[h])<;>try omega|refine Xg ?_|omega)
 .simp[fX,jr];omega
 .simp[fX,jr];omega
 .rw[tu (by omega) (by omega) (by omega),iV (by omega)];simp[fX,jr];omega
theorem f251(g:fu)(hg:nv g)(s d c:Int):Wf T 295 [g.jb,.i s,.i d,.i c] [] (Is (.i (ly g s d c))):=by
 have e:=hg.next
 have b:=hg.iO;refine Yg IU ?_;simp[IU];(with_reducible repeat' first|refine Xk ?_<;>try simp|refine Xs ?_ ?_<;>intro h<;>(try intro f)<;>(try simp[h])<;>try omega|refine Xg ?_|omega)
 all_goals first
  | (simp only[ly];rw[if_pos (by omega)])
  | skip
 .rename_i h;have:=hg.turns d (by omega) (by omega);have a:=hg.row (gt g.next (gt g.iO d)) (fM (by omega) (by omega));refine fo ?_;simp only[ly];rw[if_neg (by omega)];simp
 .rename_i h;have a:=hg.row (gt g.next d) (fM (by omega) (by omega));refine fo ?_;simp only[ly];rw[if_neg (by omega)];simp[h]
theorem f240(g:fu)(hg:nv g)(s d c:Int):Wf T 322 [g.jb,.i s,.i d,.i c] [] (Is (.i (ly g s d c))):=by
 have e:=hg.next
 have b:=hg.iO;refine Yg IM ?_;simp[IM];(with_reducible repeat' first|refine Xk ?_<;>try simp|refine Xs ?_ ?_<;>intro h<;>(try intro f)<;>(try simp[h])<;>try omega|refine Xg ?_|omega)
 all_goals first
  | (simp only[ly];rw[if_pos (by omega)])
  | skip
 .rename_i h;have:=hg.turns d (by omega) (by omega);have a:=hg.row (gt g.next (gt g.iO d)) (fM (by omega) (by omega));refine fo ?_;simp only[ly];rw[if_neg (by omega)];simp
 .rename_i h;have a:=hg.row (gt g.next d) (fM (by omega) (by omega));refine fo ?_;simp only[ly];rw[if_neg (by omega)];simp[h]
theorem f110(p q:Pos)(b:Small p)(a:Small q):Wf T 162 [dP p,dP q] [] (Is (.b (decide (p=q)))):=by refine Yg G5 ?_;simp[G5];refine Yc (f50 p q b a) ?_;simp;rw[pU]
set_option maxHeartbeats 1000000
theorem f64(l:List Pos)(hl:l.length<2 ^ 40)(hs:∀p∈l,Small p):Wf T 83 [gC l] [] (Is (.b (decide (kd l)))):=by
 refine Yg Jg ?_;simp[Jg];refine fE.j (1:Int) (λi=>[(0,gC l),(3,.i i)]) (λ_=>_) (λi=>1<=i/\(i<=l.length\/i=1)/\∀k:Int,1<=k->k<i->gP (gt l (k-1)) (gt l k)<0) (λi=>l.length-i.toNat) ?_ (by simp) (by first|rfl|simp) rfl ?_
 .simp;omega
 rintro i ⟨h0,h1,c⟩;simp;refine ju ?_ ?_<;>intro h
 .skip;refine Yt (f50 (gt l (i-1)) (gt l i) (hs _ (fM (by omega) (by omega))) (hs _ (fM (by omega) (by omega)))) ?_;simp;refine ju ?_ ?_<;>intro h
  .intro b;have:=b i h0 ‹_›;omega
  .grind
 .intro k a d;exact c k a (by omega)
theorem f27(l:List Pos)(p:Pos)(hl:l.length<2 ^ 40)(hs:∀p∈l,Small p)(m:Small p)(g:kd l):Wf T 86 [gC l,dP p] [] (Is (.i (oH l p))):=by
 refine Yg I2 ?_;simp[I2];refine fE.j ((0,(l.length:Int)):Int×Int) (λx=>[(0,gC l),(3,.ptr 0 0 0),(5,.i x.1),(6,.i x.2)]) (λ_=>[.row 46 0 p.cells]) (λx=>0<=x.1/\x.1<=x.2/\x.2<=l.length/\∀k:Int,0<=k->k<l.length->gt l k=p->x.1<=k/\k<x.2) (λx=>(x.2-x.1).toNat) ?_ (by simp) rfl rfl ?_
 .simp;omega
 rintro⟨a,b⟩ ⟨h0,h1,q,f⟩;simp at h0 h1 q f;simp;refine ju ?_ ?_<;>intro h
 .rw[tu (by omega) (by omega) (by omega)];refine fo ?_;refine Yt (f50 p (gt l ((a+b) / 2)) m (hs _ (fM (by omega) (by omega)))) ?_;simp;(with_reducible repeat' first|refine Xk ?_<;>try simp|refine Xs ?_ ?_<;>intro h<;>(try intro s)<;>(try simp[h])<;>try omega|refine Xg ?_|omega)
  .rw[pU]at h;rw[h,abT g (by omega) (by omega)]
  .have r:∀k:Int,(a+b) / 2<=k->k<l.length->gt l k≠p:=λk d c e=>by
    by_cases j:k=(a+b) / 2
    .subst j;rw[e,tN]at h;omega
    .have:=xM h (g.le (by omega) (show(a+b) / 2<k by omega) c);rw[e,tN]at this;omega
   intro k d c e;have:=f k d c e
   by_cases i:(a+b) / 2<=k
   .grind
   .omega
  .have o:gP (gt l ((a+b) / 2)) p<0:=by rw[tO];omega
   have r:∀k:Int,0<=k->k<=(a+b) / 2->gt l k≠p:=λk d c e=>by
    by_cases j:k=(a+b) / 2
    .grind
    .have:=xM (g.le d (show k<(a+b) / 2 by omega) (by omega)) o;rw[e,tN]at this;omega
   intro k d c e;have:=f k d c e
   by_cases i:k<=(a+b) / 2
   .grind
   .omega
 .rw[TR];intro n;obtain⟨k,d,c,e⟩:=w6.1 n;have:=f k d c e;omega
theorem f111(g:fu)(l:List Int)(hg:gu g)(hl:qj g l):Wf T 138 [dG g,dI l] [] (Is (.b true)):=by
 have d:=hg.kinds;have c:=hl.len;refine Yg G6 ?_;simp[G6];(with_reducible repeat' first|refine Xk ?_<;>try simp|refine Xs ?_ ?_<;>intro h<;>(try intro a)<;>(try simp[h])<;>try omega|refine Xg ?_|omega);refine fE.j (0:Int) (λi=>[(1,dI l),(2,.ptr 0 0 0),(5,.i i)]) (λi=>[.row 43 0 g.cells]) (λi=>0<=i/\i<=l.length) (λi=>l.length-i.toNat) ?_ (by simp) (by first|rfl|simp) rfl ?_
 .simp
 rintro i ⟨h0,h1⟩;simp;(with_reducible refine Xs ?_ ?_<;>intro h<;>(try intro a)<;>(try simp[h])<;>(try omega))
 .have b:=hl.at_ i h0 ‹_›;(with_reducible repeat' first|refine Xk ?_<;>try simp|refine Xs ?_ ?_<;>intro h<;>(try intro a)<;>(try simp[h])<;>try omega|refine Xg ?_|omega);have:=b.2.2
  all_goals simp_all
  all_goals omega
theorem f65(g:fu)(p:Pos)(hg:gu g)(a:gJ g p):Wf T 84 [dG g,dP p] [] (Is (.b true)):=by
 have e:=hg.kinds;have c:=hg.fY;have h1:=a.size;have l:=a.fY;have k:=a.side;have f:=hg.jb.size;have b:=QT c.1 (by omega);refine Yg Jh ?_;simp[Jh,h1];refine Yt (f111 g _ hg a.h0) ?_;simp[h1];refine Yt (f111 g _ hg a.h1) ?_;simp[h1];(with_reducible repeat' first|refine Xk ?_<;>try simp[b]|refine Xs ?_ ?_<;>intro h<;>(try intro d)<;>(try simp[h,b])<;>try omega|refine Xg ?_|omega);refine fE.j (0:Int) (λi=>[(2,.ptr 0 0 0),(3,.ptr 1 0 0),(5,.i i)]) (λi=>[.row 43 0 g.cells,.row 46 0 p.cells]) (λi=>0<=i/\i<=p.cs.length) (λi=>p.cs.length-i.toNat) ?_ (by simp) (by first|rfl|simp) rfl ?_
 .simp
 rintro i ⟨h0,j⟩;simp;(with_reducible refine Xs ?_ ?_<;>intro h<;>(try intro d)<;>(try simp[h])<;>(try omega));have b:=a.cs _ (fM h0 ‹_›);exact lZ
end Go.Proofs.YtmehofoficaelaaGreatDoor
namespace Go.AL
open Go
def Ex{α:Type}(g:α->D)(Q:α->Prop):D->U->Prop:=λd H=>∃r,d=g r/\H = []/\Q r
@[simp] theorem alb{α:Type}(g:α->D)(Q:α->Prop)(d:D)(H:U):Ex g Q d H = ∃r,d=g r/\H = []/\Q r:=(rfl)
section
variable{T:gO}{f:FuncId}{args ny:List D}{dst:Option Nat}{s:St}{K:St->Prop}{fn:iE}
theorem fL.q{α:Type}{g:α->D}{Q:α->Prop}(i:T.fn f=some fn)(e:fn.full=false)(h:Wf T f args [] (Ex g Q))
  (a:fR args=true) (b:∀r,closed (g r)=true) (k:∀r,Q r->K { s with env:=put s.env dst (g r) }):fL T f args dst s K .mk:=by
 refine fL.is i e (K0:=Ex g Q) ?_ ?_
 .have l:args.map (fy (λ_=>none) s.H 40)=args:=by
   conv=>rhs;rw[<-aS args]
   exact ao λd j=>pj (lD a d j)
  rw[l];exact h
 .rintro d Hn ⟨r,rfl,rfl,c⟩;obtain⟨k1,k2⟩:=DQ (H:=s.H) (b r);refine⟨{ s with env:=put s.env dst (g r) },?_,k r c⟩;unfold after;rw[if_pos a,k1,k2];simp
theorem aiu{d:D}(a:flat d=true)(_:closed d=true):nO d=true:=(NP (H:=[]) a).1
theorem fL.rq{α:Type}{g:α->D}{Q:α->Prop}(i:T.fn f=some fn)(e:fn.full=false)(h:Wf T f ny [] (Ex g Q))
  (hs:args.map (fy (λ_=>none) s.H 40)=ny) (b:∀r,flat (g r)=true) (a:∀r,closed (g r)=true) (k:∀r,Q r->K { s with env:=put s.env dst (g r) }):fL T f args dst s K .mk:=by
 refine fL.is i e (K0:=Ex g Q) (by rw[hs];exact h) ?_;rintro d Hn ⟨r,rfl,rfl,c⟩;obtain⟨k1,k2⟩:=DQ (H:=s.H) (a r);refine⟨{ s with env:=put s.env dst (g r) },?_,k r c⟩;unfold after;rw[aiu (b r) (a r),k1,k2];simp
end
section
variable{T:gO}{f:FuncId}{args:List D}{dst:Option Nat}{s:St}{K:St->Prop}{fn:iE}
theorem fL.n{d:D}{Hn:U}(e:T.fn f=some fn)(c:fn.full=false)(h:Wf T f args [] λd' H'=>d'=d/\H'=Hn)
  (a:fR args=true) (b:(ma d&&Hn.all nb)=true) (k:K { s with env:=put s.env dst (jQ s.H.length d),H:=s.H++Hn }):fL T f args dst s K .mk:=by
 refine fL.is e c (K0:=λd' H'=>d'=d/\H'=Hn) ?_ ?_
 .have i:args.map (fy (λ_=>none) s.H 40)=args:=by
   conv=>rhs;rw[<-aS args]
   exact ao λd g=>pj (lD a d g)
  rw[i];exact h
 .rintro d' j ⟨rfl,rfl⟩;refine⟨_,?_,k⟩;unfold after;rw[if_pos a,if_pos b]
theorem uW.n{R:List Fp}{Q:Rc->St->Prop}{d:D}{ob:Ob}(e:T.fn f=some fn)(c:fn.full=false)(h:Wf T f args [] λd' H'=>d'=d/\H' = [ob])
  (a:fR args=true) (b:(ma d&&nb ob)=true) (k:Q ⟨R,[(s.H.length,none)]⟩ { s with env:=put s.env dst (jQ s.H.length d),H:=s.H ++ [ob] }):sW T f args R dst s Q .mk:=by
 have i:args.map (fy (λ_=>none) s.H 40)=args:=by
  conv=>rhs;rw[<-aS args]
  exact ao λd g=>pj (lD a d g)
 exact .inl (.inr ⟨fn,d,ob,e,c,by rw[i];exact h,by rw[if_pos a];exact b,k⟩)
theorem uW.c{R:List Fp}{Q:Rc->St->Prop}{x:D}(c:T.fn f=some fn)(b:fn.full=false)(h:Wf T f args [] λd H'=>d=x/\H' = [])
  (e:fR args=true) (a:closed x=true) (k:Q ⟨R,[]⟩ { s with env:=put s.env dst x }):sW T f args R dst s Q .mk:=.inl (.inl (iy.c c b h e a k))
theorem sW.z{ny:List D}{R:List Fp}{Q:Rc->St->Prop}{d:D}(v:Nat)(e:T.fn f=some fn)(c:fn.full=false)(h:Wf T f ny [] (Is d))(hs:args.map (fy (λ_=>none) s.H 40)=ny)
  (a:(args.map (gN s.H 40)).flatten = [v]) (i:(rowsOf s.H v).isSome=true) (g:fR ny=true) (b:closed d=true) (k:Q ⟨R,[(v,none)]⟩ { s with env:=put s.env dst d,H:=s.H.set v .dead }):sW T f args R dst s Q .mk:=
 .inr ⟨fn,d,v,e,c,by rw[a];simp,by rw[a];simp,i,by rw[hs];exact g,by rw[hs];exact h,b,k⟩
@[simp] theorem atl(ds:List D):ma (.agg ds)=ds.all (w9 closed):=rfl
@[simp] theorem atn(ds:List D):ma (.tup ds)=ds.all (w9 closed):=rfl
@[simp] theorem atm(v g sz off n:Nat):ma (.fm v g sz off n)=true:=rfl
@[simp] theorem atb(p:D->Bool)(v g sz off n:Nat):w9 p (.fm v g sz off n)=true:=rfl
@[simp] theorem ata(l:List Int):w9 closed (dI l)=true:=by show closed (dI l)=true;simp
@[simp] theorem atc(v:Value):w9 closed (.val v)=true:=by show closed (.val v)=true;simp
@[simp] theorem ao7(t g:Nat)(cs:List D):nb (.row t g cs)=fR cs:=rfl
@[simp] theorem arX(n:Nat)(ds:List D):jQ n (.agg ds) = .agg (ds.map (wW n)):=rfl
@[simp] theorem arZ(n:Nat)(ds:List D):jQ n (.tup ds) = .tup (ds.map (wW n)):=rfl
@[simp] theorem arY(n v g sz off k:Nat):jQ n (.fm v g sz off k) = .fm (v+n) g sz off k:=rfl
@[simp] theorem ar1(n v g sz off k:Nat):wW n (.fm v g sz off k) = .fm (v+n) g sz off k:=rfl
@[simp] theorem ar0(n:Nat)(l:List Int):wW n (dI l)=dI l:=by unfold dI;rfl
@[simp] theorem ar2(n:Nat)(v:Value):wW n (.val v) = .val v:=rfl
end
instance:Fl fF.cells 8:=⟨λ_=>rfl,λs=>by simp[fF.cells,fR]⟩
instance:Fl gh.cells 6:=⟨λ_=>rfl,λs=>by simp[gh.cells,fR]⟩
@[simp] theorem aoY(l:List fF)(a b c:List Int)(r q k u:Int)(t:Bool):cl fF.cells l ++ [dI a,dI b,dI c,.i r,.i q,.i k,.i u,.b t]=cl fF.cells (l ++ [⟨⟨a,b,c,r,q⟩,k,u,t⟩]):=by rw[<-oZ];rfl
@[simp] theorem aoU(l:List gh)(a b c:List Int)(r q:Int)(t:Bool):cl gh.cells l ++ [dI a,dI b,dI c,.i r,.i q,.b t]=cl gh.cells (l ++ [⟨⟨a,b,c,r,q⟩,t⟩]):=by rw[<-oZ];rfl
@[simp] theorem avw(s:fF):fF.mk s.p s.kind s.cur s.je=s:=rfl
@[simp] theorem atD(s:gh):gh.mk s.p s.je=s:=rfl
attribute [simp] fF.cells gh.cells
theorem Yq{T:gO}{f:FuncId}{args:List D}{dst:Option Nat}{s:St}{K:St->Prop}{fn:iE}{α:Type}{g:α->D}{Q:α->Prop}(h:Wf T f args [] (Ex g Q))(k:∀r,Q r->K { s with env:=put s.env dst (g r) })
  (c:T.fn f=some fn:=by exact rfl) (b:fn.full=false:=by exact rfl) (d:fR args=true:=by simp) (a:∀r,closed (g r)=true:=by intro;simp):fL T f args dst s K .mk:=fL.q c b h d a k
theorem Yn{T:gO}{f:FuncId}{args:List D}{dst:Option Nat}{s:St}{K:St->Prop}{fn:iE}{d:D}{Hn:U}(h:Wf T f args [] λd' H'=>d'=d/\H'=Hn)(k:K { s with env:=put s.env dst (jQ s.H.length d),H:=s.H++Hn })
  (c:T.fn f=some fn:=by exact rfl) (b:fn.full=false:=by exact rfl) (e:fR args=true:=by simp) (a:(ma d&&Hn.all nb)=true:=by simp):fL T f args dst s K .mk:=fL.n c b h e a k
end Go.AL
namespace Go.AL
open Go
def jN(l:List fF):D:=.sl 8 (l.map fF.cells)
def mO(l:List gh):D:=.sl 6 (l.map gh.cells)
@[simp] theorem avc(l:List fF):D.sl 8 (l.map fF.cells)=jN l:=by unfold jN;rfl
@[simp] theorem au9(l:List gh):D.sl 6 (l.map gh.cells)=mO l:=by unfold mO;rfl
section
variable{l:List fF}{n:Int}{k:IntKind}{P:D->Prop}{H:U}
@[simp] theorem apl:closed (jN l)=true:=by unfold jN;exact ze l
@[simp] theorem arR:mB .slice (jN l) H=some (.i l.length):=by simp only[jN,V3,List.length_map]
@[simp] theorem avL(n:Nat):iH n (jN l) = []:=by unfold jN;rfl
@[simp] theorem aoB:cellsOf (jN l)=some [jN l]:=by unfold jN;rfl
@[simp] theorem asT:oA (lV 8 (jN l) (.val (.int k n))) P .mk=((0<=n/\n<l.length)/\P (.fH (gt l n).cells)):=by unfold jN;exact w8
end
section
variable{l:List gh}{n:Int}{k:IntKind}{P:D->Prop}{H:U}
@[simp] theorem api:closed (mO l)=true:=by unfold mO;exact ze l
@[simp] theorem arO:mB .slice (mO l) H=some (.i l.length):=by simp only[mO,V3,List.length_map]
@[simp] theorem avo:ki 6 H (mO l)=some (cl gh.cells l,l.length):=by unfold mO;exact Gh ..
@[simp] theorem avH(n:Nat):iH n (mO l) = []:=by unfold mO;rfl
@[simp] theorem asQ:oA (lV 6 (mO l) (.val (.int k n))) P .mk=((0<=n/\n<l.length)/\P (.fH (gt l n).cells)):=by unfold mO;exact w8
end
@[simp] theorem au7:D.sl 8 []=jN []:=by unfold jN;rfl
@[simp] theorem au6:D.sl 6 []=mO []:=by unfold mO;rfl
@[simp] theorem aqd{ρ:Nat->Option Nat}{H:U}{k:Nat}{t:TypeId}{a b c:List Int}{r q w u:Int}{o:Bool}:l6 ρ H (k+1) 8 0 1 (some (t,[dI a,dI b,dI c,.i r,.i q,.i w,.i u,.b o]))=jN [⟨⟨a,b,c,r,q⟩,w,u,o⟩]:=by have h:=tS (f:=fF.cells) (ρ:=ρ) (H:=H) (k:=k) (t:=t) (l:=[⟨⟨a,b,c,r,q⟩,w,u,o⟩]) (n:=1) rfl;rw[na]at h;unfold jN;exact h
def wj(S:List Nat):Nat->U->mD
 | _,[]=>[]
 | i,_::r=>(i,!S.contains i)::wj S (i+1) r
@[simp] theorem apX(S:List Nat)(i:Nat):wj S i [] = []:=rfl
@[simp] theorem apW(S:List Nat)(i:Nat)(o:Ob)(r:U):wj S i (o::r)=(i,!decide (i∈S))::wj S (i+1) r:=by rw[wj,List.contains_eq_mem]
theorem ab1(H:U)(S:List Nat):lN H S=wj S 0 H:=by
 have key:∀(H:U) (i:Nat),(List.range' i H.length).map (λv=>(v,!(S.contains v)))=wj S i H:=by
  intro H
  induction H with
  | nil=>intro i;rfl
  | cons o r a=>intro i;rw[aG,cG,List.map_cons,a,wj]
 rw[lN,dg,key]
def NT(env:Env)(H:U)(m:List Nat)(r:Bool)(ks:mD):St:={ env:=env.map λp=>(p.1,fy (gX ks) H 40 p.2),H:=ks.map λp=>if p.2 then tA (gX ks) H H[p.1]? else .dead,marks:=m,gW:=r }
@[simp] theorem ap7(S:List Nat)(env:Env)(H:U)(m:List Nat)(r:Bool):lk S { env:=env,H:=H,marks:=m,gW:=r }=NT env H m r (wj S 0 H):=by unfold lk NT;rw[ab1];rfl
@[simp] theorem ap3(env:Env)(H:U)(m:List Nat)(r:Bool)(ks:mD):NT env H m r ks = { env:=env.map λp=>(p.1,fy (gX ks) H 40 p.2),H:=ks.map λp=>if p.2 then tA (gX ks) H H[p.1]? else .dead,marks:=m,gW:=r }:=rfl
section
variable{T:gO}
def NU(S:List Nat)(T:gO)(b:IR)(K:iq):iq:=λo=>match o with
 | .norm s=>s.marks = []/\XC T b (lk S s) K
 | o=>K o
@[simp ↓] theorem ap5{S:List Nat}{b:IR}{K:iq}{s:St}:NU S T b K (.norm s)=(s.marks = []/\XC T b (lk S s) K):=(rfl)
@[simp ↓] theorem ap4{S:List Nat}{b:IR}{K:iq}{id:Nat}{s:St}:NU S T b K (.exit id s)=K (.exit id s):=(rfl)
@[simp ↓] theorem ap6{S:List Nat}{b:IR}{K:iq}{s:St}:NU S T b K (.ret s)=K (.ret s):=(rfl)
theorem fE.fz{live:List Nat}{a:IR}{s:St}{K:iq}(S:List Nat)(b:s.marks = [])(h:fE T live a (lk S s) K .mk):fE T live a s K .mk:=Wc.lk S (by rw[b];exact aeb _) h
end
theorem V5{g:fu}{s d c:Int}:∀(n:Nat) (x:Int) (out:List Int),(sG g s d c n x out).length<=out.length+n
 | 0,x,out=>by simp[sG]
 | n+1,x,out=>by
  unfold sG;split
  .have:=V5 (g:=g) (s:=s) (d:=d) (c:=c) n (ly g s d x) (out ++ [x]);simp at this;omega
  .omega
theorem PL{g:fu}{s d c:Int}:(kA g s d c).length<=10:=by have:=V5 (g:=g) (s:=s) (d:=d) (c:=c) 10 (ly g s d c) [];simpa[kA]using this
theorem V6{s:fF}:∀l:List Int,(pe s l).length<=l.length
 | []=>by simp[pe]
 | c::r=>by have:=V6 (s:=s) r;unfold pe;split<;>simp<;>omega
theorem CW{g:fu}{s:fF}{x:fq}:(im g s x).length<=10:=by
 have:=V6 (s:=s) (kA g s.p.side x.2 s.cur);have:=PL (g:=g) (s:=s.p.side) (d:=x.2) (c:=s.cur);unfold im rS sO;dsimp only
 repeat' split
 all_goals first|omega|(simp only[aG,cM];omega)
end Go.AL
namespace Go.Proofs.YtmehofoficaelaaGreatDoor
open Go Go.AL Classical
set_option maxRecDepth 10000
set_option maxHeartbeats 1000000
structure pQ(a b:List Pos)(i k:Int)(out:List Pos):Prop where
 i0:0<=i/\i<=a.length
 k0:0<=k/\k<=b.length
 len:(out.length:Int)=i+k
 perm:out.Perm (a.take i.toNat++b.take k.toNat)
 ws:WS out
 le:∀x∈out,∀y,y∈a.drop i.toNat\/y∈b.drop k.toNat->gP x y<=0
theorem pQ.init(a b:List Pos):pQ a b 0 0 []:=⟨by omega,by omega,rfl,by simp,by simp[WS],by simp⟩
theorem Yw{a:List Pos}(h:WS a){i:Int}(h0:0<=i)(h1:i<a.length){y:Pos}(b:y∈a.drop i.toNat):gP (gt a i) y<=0:=by
 have c:WS (a.drop i.toNat):=e9 (List.drop_sublist _ _) h;rw[mP h0 h1]at b c;rcases aw.1 b with rfl|b
 .rw[tN];omega
 .exact(a8.1 c).1 y b
theorem aej{α:Type}[Inhabited α]{a:List α}{i:Int}(h0:0<=i)(h1:i<a.length){y:α}:y∈a.drop i.toNat↔y=gt a i\/y∈a.drop (i+1).toNat:=by rw[mP h0 h1,aw,show(i+1).toNat=i.toNat+1 by omega]
theorem pQ.add{a b:List Pos}{i k:Int}{out:List Pos}(f:pQ a b i k out)(hi:i<a.length)(g:WS a)(h:∀y∈b.drop k.toNat,gP (gt a i) y<=0):pQ a b (i+1) k (out ++ [gt a i]):=by
 have h0:=f.i0;have e:∀y,y∈a.drop i.toNat↔y=gt a i\/y∈a.drop (i+1).toNat:=λy=>aej h0.1 hi;refine⟨by omega,f.k0,by have:=f.len;simp;omega,?_,?_,λx d y c=>?_⟩
 .rw[iD h0.1 hi,aM];refine(f.perm.append_right _).trans ?_;rw[aM];exact List.Perm.append_left _ fe
 .refine bG.2 ⟨f.ws,by simp,λx d y c=>?_⟩;simp at c;subst c;exact f.le x d _ (.inl ((e _).2 (.inl rfl)))
 .rcases List.mem_append.1 d with d|d
  .exact f.le x d y (c.imp (λh=>(e _).2 (.inr h)) id)
  .simp at d;subst d;rcases c with c|c
   .exact Yw g h0.1 hi ((e _).2 (.inr c))
   .exact h y c
theorem pQ.swap{a b:List Pos}{i k:Int}{out:List Pos}(c:pQ a b i k out):pQ b a k i out:=
 ⟨c.k0,c.i0,by have:=c.len;omega,c.perm.trans fe,c.ws,λx e y d=>c.le x e y d.symm⟩
theorem pQ.Q2{a b:List Pos}{i k:Int}{out:List Pos}(d:pQ a b i k out)(hi:i<a.length)(g:WS a)(f:WS b)(h:k<b.length->gP (gt a i) (gt b k)<=0):pQ a b (i+1) k (out ++ [gt a i]):=by
 refine d.add hi g λy c=>?_
 by_cases e:k<b.length
 .exact SM (h e) (Yw f d.k0.1 e c)
 .rw[bn (by have:=d.k0;omega)]at c;cases c
theorem pQ.XZ{a b:List Pos}{i k:Int}{out:List Pos}(f:pQ a b i k out)(c:k<b.length)(e:WS a)(d:WS b)(h:i<a.length->¬gP (gt a i) (gt b k)<=0):pQ a b i (k+1) (out ++ [gt b k]):=by refine(f.swap.Q2 c d e λhi=>?_).swap;have:=h hi;rw[tO];omega
theorem f109:∀(n:Nat) (l:List Pos),l.length=n->l.length<2 ^ 40->(∀p∈l,Small p)->Wf T 161 [gC l] [] (Ex gC λr=>r.Perm l/\WS r):=by
 intro n
 induction n using Nat.strongRecOn with
 | ind n g=>
 intro l w hl hs;refine Yg G3 ?_;simp[G3];(with_reducible refine Xs ?_ ?_<;>intro h<;>(try intro j)<;>(try simp[h])<;>(try omega))
 .refine⟨l,rfl,List.Perm.refl _,?_⟩;unfold WS
  cases l with
  | nil=>simp
  | cons a l=>cases l with
   | nil=>simp
   | cons b l=>simp at h;omega
 .rw[tu (by omega) (by omega) (by omega)];refine fo ?_;refine Yq (g (l.length / 2) (by omega) _ (by simp;omega) (by simp;omega) (λp d=>hs p (aN d))) λa f=>?_;simp;rw[tu (by omega) (by omega) (by omega)];refine fo ?_;refine Yq (g (l.length-l.length / 2) (by omega) _ (by simp;omega) (by simp;omega) (λp d=>hs p (bz (aN d)))) λb e=>?_;simp;have v:(a.length:Int)=l.length / 2:=by rw[f.1.length_eq];simp;omega
  have u:(b.length:Int)=l.length-l.length / 2:=by rw[e.1.length_eq];simp;omega
  have q:∀p∈a,Small p:=λp d=>hs p (aN ((f.1.mem_iff).1 d));have o:∀p∈b,Small p:=λp d=>hs p (bz (aN ((e.1.mem_iff).1 d)));refine fE.j ((0,0,[]):Int×Int×List Pos) (λx=>[(3,gC a),(4,gC b),(5,.fm 0 x.2.2.length 5 0 x.2.2.length),(6,.i x.1),(7,.i x.2.1)]) (λx=>[.row 46 x.2.2.length (cl Pos.cells x.2.2)]) (λx=>pQ a b x.1 x.2.1 x.2.2) (λx=>a.length+b.length-(x.1+x.2.1).toNat) ?_ (by simp) (by first|rfl|simp) rfl ?_
  .exact pQ.init a b
  rintro⟨i,k,out⟩ c;have h0:=c.i0;have h1:=c.k0;have s:=c.len;dsimp only at c h0 h1 s ⊢;simp;(with_reducible repeat' first|refine Xk ?_<;>try simp|refine Xs ?_ ?_<;>intro h<;>(try intro j)<;>(try simp[h])<;>try omega|refine Xg ?_|omega)
  .exact⟨i+1,k,_,by simp,rfl,rfl,by simp,rfl,by omega,c.Q2 (by assumption) f.2 e.2 λh=>by omega⟩
  .refine Yt (f50 _ _ (q _ (fM (by omega) (by omega))) (o _ (fM (by omega) (by omega)))) ?_;simp[*];(with_reducible repeat' first|refine Xk ?_<;>try simp|refine Xs ?_ ?_<;>intro h<;>(try intro j)<;>(try simp[h])<;>try omega|refine Xg ?_|omega)
   .exact⟨i+1,k,_,by simp,rfl,rfl,by simp,rfl,by omega,c.Q2 (by assumption) f.2 e.2 λ_=>by assumption⟩
   .exact⟨i,k+1,_,by simp,rfl,rfl,by simp,rfl,by omega,c.XZ (by omega) f.2 e.2 λ_=>by assumption⟩
  .exact⟨i,k+1,_,by simp,rfl,rfl,by simp,rfl,by omega,c.XZ (by omega) f.2 e.2 λ_=>by omega⟩
  .refine⟨out,rfl,?_,c.ws⟩;have m:=c.perm;rw[kq (by omega),kq (by omega)]at m;refine m.trans ((List.Perm.append f.1 e.1).trans ?_);have t:(l.drop (↑l.length / 2:Int).toNat).take (l.length-(↑l.length / 2:Int).toNat)=l.drop (↑l.length / 2:Int).toNat:=af (by rw[aQ];exact Nat.le_refl _);rw[t,bM]
structure uU(a:List Pos)(i:Int)(out:List Pos):Prop where
 i0:0<=i/\i<=a.length
 len:(out.length:Int)<=i
 mem:∀q,q∈out↔q∈a.take i.toNat
 st:out.Pairwise λx y=>gP x y<0
theorem uU.init(a:List Pos):uU a 0 []:=⟨by omega,by simp,by simp,by simp⟩
theorem Yx{a:List Pos}(h:WS a){j:Int}(h0:0<=j)(h1:j<a.length){x:Pos}(b:x∈a.take (j+1).toNat):gP x (gt a j)<=0:=by
 have c:WS (a.take (j+1).toNat):=e9 (List.take_sublist _ _) h;rw[iD h0 h1]at b c;rcases List.mem_append.1 b with b|b
 .exact(bG.1 c).2.2 x b _ (by simp)
 .simp at b;subst b;rw[tN];omega
theorem uU.skip{a:List Pos}{i:Int}{out:List Pos}(b:uU a i out)(hi:i<a.length)(h1:i≠0)(h:gt a i=gt a (i-1)):uU a (i+1) out:=by have h0:=b.i0;refine⟨by omega,by have:=b.len;omega,λq=>?_,b.st⟩;rw[b.mem,iD h0.1 hi,List.mem_append,List.mem_singleton];refine⟨.inl,λc=>c.elim id λc=>?_⟩;rw[c,h];have:=iD (l:=a) (n:=i-1) (by omega) (by omega);rw[show i-1+1=i by omega]at this;rw[this];simp
theorem uU.add{a:List Pos}{i:Int}{out:List Pos}(c:uU a i out)(hi:i<a.length)(f:WS a)(h:i=0\/gt a i≠gt a (i-1)):uU a (i+1) (out ++ [gt a i]):=by
 have h0:=c.i0;refine⟨by omega,by have:=c.len;simp;omega,λq=>?_,bG.2 ⟨c.st,by simp,λx b y d=>?_⟩⟩
 .rw[List.mem_append,c.mem,iD h0.1 hi,List.mem_append]
 .simp at d;subst d;have b:=(c.mem x).1 b;rcases h with rfl|h
  .simp at b
  .by_cases g:i=0
   .subst g;simp at b
   have p:=Yx f (j:=i-1) (by omega) (by omega) (x:=x) (by rw[show i-1+1=i by omega];exact b)
   have o:=Yx f h0.1 hi (x:=gt a (i-1)) (by
    have:=iD (l:=a) (n:=i-1) (by omega) (by omega);rw[show i-1+1=i by omega]at this
    rw[iD h0.1 hi,this];simp)
   have m:gP (gt a (i-1)) (gt a i)≠0:=λe=>h (pU.1 e).symm
   by_cases k:gP x (gt a (i-1))=0
   .rw[pU.1 k];omega
   .exact xM (show gP x (gt a (i-1))<0 by omega) (by omega)
theorem akD{r:List Pos}(h:r.Pairwise λx y=>gP x y<0):kd r:=by intro i h1 a;rw[jh (by omega) (by omega),jh (by omega) (by omega)];exact bh.1 h _ _ _ _ (by omega)
theorem f61(l:List Pos)(hl:l.length<2 ^ 40)(hs:∀p∈l,Small p):Wf T 101 [gC l] [] (Ex gC λr=>kd r/\r.length<=l.length/\∀q,q∈r↔q∈l):=by
 refine Yg Jf ?_;simp[Jf];refine Yq (f109 _ l rfl hl hs) λa c=>?_;simp;have f:a.length=l.length:=c.1.length_eq;have d:∀p∈a,Small p:=λp e=>hs p (c.1.mem_iff.1 e);refine fE.j ((0,[]):Int×List Pos) (λx=>[(3,gC a),(4,.fm 0 x.2.length 5 0 x.2.length),(5,.i x.1)]) (λx=>[.row 46 x.2.length (cl Pos.cells x.2)]) (λx=>uU a x.1 x.2) (λx=>a.length-x.1.toNat) ?_ (by simp) (by first|rfl|simp) rfl ?_
 .exact uU.init a
 rintro⟨i,out⟩ b;have h0:=b.i0;have h1:=b.len;dsimp only at b h0 h1 ⊢;simp;(with_reducible repeat' first|refine Xk ?_<;>try simp|refine Xs ?_ ?_<;>intro h<;>(try intro g)<;>(try simp[h])<;>try omega|refine Xg ?_|omega)
 .exact⟨1,_,by simp,rfl,by simp,rfl,by omega,by subst h;exact b.add (by assumption) c.2 (.inl rfl)⟩
 .refine Yt (f110 _ _ (d _ (fM (by omega) (by omega))) (d _ (fM (by omega) (by omega)))) ?_;simp;refine ju ?_ ?_<;>intro h
  .exact⟨i+1,_,rfl,rfl,rfl,rfl,by omega,b.skip (by assumption) (by assumption) (by assumption)⟩
  .exact⟨i+1,_,by simp,rfl,by simp,rfl,by omega,b.add (by assumption) c.2 (.inr (by assumption))⟩
 .refine⟨out,rfl,akD b.st,by omega,λq=>?_⟩;rw[b.mem,kq (by omega),c.1.mem_iff]
end Go.Proofs.YtmehofoficaelaaGreatDoor
namespace Go.AL
open Go
def PH(H:U)(d:D)(ks:mD):D×U:=(fy (gX ks) H 40 d,ks.map λp=>if p.2 then tA (gX ks) H H[p.1]? else .dead)
@[simp] theorem arG(H:U)(d:D)(ks:mD):PH H d ks=(fy (gX ks) H 40 d,ks.map λp=>if p.2 then tA (gX ks) H H[p.1]? else .dead):=rfl
def CD(own n:Nat)(H:U)(d:D):List Nat:=match own with|0=>[]|1=>CE n d|3=>((gN H 40 d).filter (n<=·)).take 1|_=>(gN H 40 d).filter (n<=·)
@[simp] theorem atE(n:Nat)(H:U)(d:D):CD 0 n H d = []:=rfl
@[simp] theorem atG(n:Nat)(H:U)(d:D):CD 1 n H d=CE n d:=rfl
@[simp] theorem atH(n:Nat)(H:U)(d:D):CD 2 n H d=(gN H 40 d).filter (n<=·):=rfl
@[simp] theorem atI(n:Nat)(H:U)(d:D):CD 3 n H d=((gN H 40 d).filter (n<=·)).take 1:=rfl
@[simp low] theorem adP{own n:Nat}{H:U}{d:D}(h:¬H.length<=n)(a:¬own=4):leave own n H d=PH H d (iv n (dedup ((CD own n H d++((H.take n).map (nN n)).flatten).filter (· < H.length)))):=by unfold leave PH CD;rw[if_neg (by omega)];rfl
@[simp] theorem atJ(n v g sz len:Nat):CE n (.fm v g sz 0 len)=if n<=v then [v]else []:=rfl
theorem L8{H:U}{k:Nat}{d:D}(h:closed d=true):gN H k d = []:=by
 cases k with
 | zero=>rfl
 | succ k=>unfold gN;exact if_pos h
theorem Qx{H:U}{k:Nat}{cs:List D}(h:fR cs=true):(cs.map (gN H k)).flatten = []:=by
 induction cs with
 | nil=>rfl
 | cons d r a=>
  simp only[fR,Bool.and_eq_true]at h;simp[L8 h.1,a h.2]
@[simp] theorem at6{H:U}{k:Nat}{d:D}(h:closed d=true):gN H k d = []:=L8 h
@[simp] theorem at4(H:U)(k:Nat)(cs:List D):gN H (k+1) (.agg cs)=(cs.map (gN H k)).flatten:=by
 by_cases h:closed (.agg cs)=true
 .rw[L8 h,Qx (by simpa using h)]
 .rw[gN,if_neg h]
@[simp] theorem auc(H:U)(k:Nat)(cs:List D):gN H (k+1) (.tup cs)=(cs.map (gN H k)).flatten:=by
 by_cases h:closed (.tup cs)=true
 .rw[L8 h,Qx (by simpa using h)]
 .rw[gN,if_neg h]
def CJ(H:U)(k:Nat):Option Ob->List Nat
 | some (.row _ _ cs)=>(cs.map (gN H k)).flatten
 | _=>[]
@[simp] theorem aue(H:U)(k t g:Nat)(cs:List D):CJ H k (some (.row t g cs))=(cs.map (gN H k)).flatten:=rfl
@[simp] theorem aud(H:U)(k:Nat)(kk:KK)(es:List (Value×D)):CJ H k (some (.map kk es)) = []:=rfl
theorem Xi(H:U)(k v:Nat):(match rowsOf H v with|some (_,_,cs)=>(cs.map (gN H k)).flatten|none=>[])=CJ H k H[v]? := by
 unfold rowsOf CJ
 cases h:H[v]? with
 | none=>rfl
 | some o=>cases o<;>rfl
@[simp] theorem at7(H:U)(k v g sz off n:Nat):gN H (k+1) (.fm v g sz off n)=v::CJ H k H[v]? := by rw[gN,if_neg (by simp)];exact congrArg _ (Xi H k v)
@[simp] theorem aua(H:U)(k v g off:Nat):gN H (k+1) (.ptr v g off)=v::CJ H k H[v]? := by rw[gN,if_neg (by simp)];exact congrArg _ (Xi H k v)
@[simp] theorem aub{H:U}{k:Nat}{α:Type}{f:α->List D}{sz:Nat}[F:Fl f sz](l:List α):((cl f l).map (gN H k)).flatten = []:=Qx (tL l)
@[simp low] theorem NW{ρ:Nat->Option Nat}{H:U}{k sz:Nat}{t:TypeId}{cs:List D}(h:cs.length=sz):l6 ρ H k sz 0 1 (some (t,cs)) = .sl sz [cs.map (fy ρ H k)]:=by subst h;unfold l6;simp[chunks,af]
@[simp] theorem avd{a b c:List Int}{r q w u:Int}{o:Bool}:D.sl 8 [[dI a,dI b,dI c,.i r,.i q,.i w,.i u,.b o]]=jN [⟨⟨a,b,c,r,q⟩,w,u,o⟩]:=by unfold jN;rfl
