/- Part 11 of DisputeSettles. -/
import Derived.Test.YtmehofoficaelaaGreatDoorS10
import Derived.Test.YtmehofoficaelaaGreatDoorS08
set_option linter.all false
namespace Go.AL
def kU(a b:Int):Int:=if a<b then -1 else if a>b then 1 else 0
def kP:List Int->List Int->Int
 | [],[]=>0
 | [],_::_ => -1
 | _::_,[]=>1
 | a::l,b::m=>if a=b then kP l m else kU a b
def nA:List Int->Int
 | []=>0
 | a::l=>if a≠0 then a else nA l
def iH(p q:Pos):Int:=nA [kP p.cs q.cs,kP p.h0 q.h0,kP p.h1 q.h1,kU p.gM q.gM,kU p.side q.side]
def yU{a b:Int}:kU a b=0↔a=b:=by unfold kU;(repeat' split)<;>omega
def EY{a b:Int}:kU a b<0↔a<b:=by unfold kU;(repeat' split)<;>omega
def O'(a b:Int):kU b a = - kU a b:=by unfold kU;(repeat' split)<;>omega
theorem O1:∀ {a b:List Int},kP a b=0↔a=b
 | [],[]=>by simp[kP]
 | [],_::_=>by simp[kP]
 | _::_,[]=>by simp[kP]
 | a::l,b::m=>by
  unfold kP;split
  .rename_i h;subst h;rw[O1];simp
  .rename_i h;rw[yU];simp[h]
theorem OY:∀(a b:List Int),kP b a = - kP a b
 | [],[]=>rfl
 | [],_::_=>rfl
 | _::_,[]=>rfl
 | a::l,b::m=>by
  unfold kP
  by_cases h:a=b
  .subst h;simp[OY l m]
  .rw[if_neg h,if_neg (cA h),O']
theorem OZ:∀ {a b c:List Int},kP a b<0->kP b c<0->kP a c<0
 | [],[],c,h,_=>by simp[kP]at h
 | _::_,[],c,h,_=>by simp[kP]at h
 | a,_::_,[],_,h=>by simp[kP]at h
 | [],_::_,_::_,_,_=>by simp[kP]
 | a::l,b::m,c::k,h1,h2=>by
  unfold kP at *
  by_cases e:a=b
  .subst e;rw[if_pos rfl]at h1
   by_cases d:a=c
   .subst d;rw[if_pos rfl]at h2 ⊢;exact OZ h1 h2
   .rw[if_neg d]at h2 ⊢;exact h2
  .rw[if_neg e,EY]at h1
   by_cases d:b=c
   .subst d;rw[if_neg e,EY];exact h1
   .rw[if_neg d,EY]at h2;rw[if_neg (by omega),EY];omega
theorem Re:∀ {l:List Int},nA l=0↔∀x∈l,x=0
 | []=>by simp[nA]
 | a::l=>by
  unfold nA;split
  .rename_i h;simp[h]
  .rename_i h;rw[Re];simp_all
def rP{p q:Pos}:iH p q=0↔p=q:=by unfold iH;rw[Re];cases p;cases q;simp[O1,yU]
def vG(p:Pos):iH p p=0:=rP.2 rfl
def vH(p q:Pos):iH q p = - iH p q:=by unfold iH nA;rw[OY p.cs,OY p.h0,OY p.h1,O' p.gM,O' p.side];simp only[nA];(repeat' split)<;>omega
def By{A B C:Int}{a b c:List Int}(h1:A=0->C=B)(g:B=0->C=A)(f:A<0->B<0->C<0)(h:nA a<0->nA b<0->nA c<0):nA (A::a)<0->nA (B::b)<0->nA (C::c)<0:=by
 unfold nA;intro x y
 by_cases e:A=0
 .have:=h1 e;subst this;rw[if_neg (by simpa using e)]at x
  by_cases d:C=0
  .rw[if_neg (by simpa using d)]at y ⊢;exact h x y
  .rw[if_pos d]at y ⊢;exact y
 .rw[if_pos e]at x
  by_cases d:B=0
  .have:=g d;subst this;rw[if_pos e];exact x
  .rw[if_pos d]at y;have:=f x y;rw[if_pos (by omega)];exact this
def zI{p q r:Pos}:iH p q<0->iH q r<0->iH p r<0:=by
 have key:∀a b c:List Int,kP a b=0->kP a c=kP b c:=λa b c h=>by rw[O1.1 h]
 have d:∀a b c:List Int,kP b c=0->kP a c=kP a b:=λa b c h=>by rw[O1.1 h]
 have n1:∀a b c:Int,kU a b=0->kU a c=kU b c:=λa b c h=>by rw[yU.1 h]
 have n2:∀a b c:Int,kU b c=0->kU a c=kU a b:=λa b c h=>by rw[yU.1 h]
 have e:∀a b c:Int,kU a b<0->kU b c<0->kU a c<0:=λa b c=>by simp only[EY];omega
 unfold iH;refine By (key _ _ _) (d _ _ _) OZ (By (key _ _ _) (d _ _ _) OZ (By (key _ _ _) (d _ _ _) OZ (By (n1 _ _ _) (n2 _ _ _) (e _ _ _) (By (n1 _ _ _) (n2 _ _ _) (e _ _ _) λh=>?_))));simp[nA]at h
def Z'{a b:List Int}:∀ {i:Nat},a.take i=b.take i->i<=a.length->i<=b.length->kP a b=kP (a.drop i) (b.drop i):=by
 intro i
 induction i generalizing a b with
 | zero=>intro _ _ _;rfl
 | succ i d=>
  intro h h1 c
  cases a with
  | nil=>simp at h1
  | cons x a=>
   cases b with
   | nil=>simp at c
   | cons y b=>
    simp only[List.take_succ_cons,cS]at h;simp only[aC]at h1 c;simp only[List.drop_succ_cons,kP,h.1,if_true];exact d h.2 (by omega) (by omega)
def Tn{a b:List Int}(h:a.length=0\/b.length=0):kP a b=kU a.length b.length:=by
 cases a<;>cases b<;>simp_all [kP,kU]
 all_goals omega
def Wi{p q r:Pos}(h1:iH p q<=0)(c:iH q r<=0):iH p r<=0:=by
 by_cases a:iH p q=0
 .rw[rP.1 a];exact c
 .by_cases b:iH q r=0
  .rw[<-rP.1 b];exact h1
  .exact Int.le_of_lt (zI (show iH p q<0 by omega) (show iH q r<0 by omega))
def WS(l:List Pos):Prop:=l.Pairwise λx y=>iH x y<=0
def Small(p:Pos):Prop:=p.cs.length<2 ^ 40/\p.h0.length<2 ^ 40/\p.h1.length<2 ^ 40
def kX(l:List Pos):Prop:=∀i:Int,1<=i->i<l.length->iH (gt l (i-1)) (gt l i)<0
theorem kX.lt{l:List Pos}(h:kX l){i:Int}(h0:0<=i):∀ {n:Nat},i<n->(n:Int)<l.length->iH (gt l i) (gt l n)<0
 | 0,h1,_=>by omega
 | n+1,h1,h2=>by
  have:=h (n+1) (by omega) (by omega);rw[dW]at this
  by_cases e:i=n
  .subst e;exact this
  .exact zI (h.lt h0 (by omega) (by omega)) this
def kX.le{l:List Pos}(h:kX l){i j:Int}(h0:0<=i)(h1:i<j)(a:j<l.length):iH (gt l i) (gt l j)<0:=by have:=h.lt h0 (n:=j.toNat) (by omega) (by omega);rwa [cj (by omega)]at this
def kX.inj{l:List Pos}(h:kX l){i j:Int}(h0:0<=i)(h1:i<l.length)(d:0<=j)(c:j<l.length)(e:gt l i=gt l j):i=j:=by
 by_cases a:i<j
 .have:=h.le h0 a c;rw[e,vG]at this;omega
 .by_cases b:j<i
  .have:=h.le d b h1;rw[e,vG]at this;omega
  .omega
def pN(l:List Pos)(p:Pos):Int:=if p∈l then(l.idxOf p:Int)else -1
def Xu{l:List Pos}{p:Pos}(h:p ∉ l):pN l p = -1:=if_neg h
def G2{l:List Pos}{p:Pos}(h:p∈l):0<=pN l p/\pN l p<l.length/\gt l (pN l p)=p:=by unfold pN;rw[if_pos h];have hi:l.idxOf p<l.length:=List.idxOf_lt_length_iff.2 h;refine qo ?_;rw[zU hi];exact List.getElem_idxOf hi
def af1{l:List Pos}(hs:kX l){i:Int}(h0:0<=i)(h1:i<l.length):pN l (gt l i)=i:=by obtain⟨a,b,c⟩:=G2 (gA h0 h1);exact hs.inj a b h0 h1 c
end Go.AL
namespace Go.AL
open Go
def pt{α:Type}(l:List α)(n:Int)(v:α):List α:=l.take n.toNat++v::l.drop (n.toNat+1)
section
variable{α:Type}[Inhabited α]{l:List α}{n k:Int}{v:α}
theorem AO(h0:0<=n)(h:n<l.length):pt l n v=l.set n.toNat v:=by rw[pt,cH,if_pos (by omega)]
theorem iC(h0:0<=n)(h:n<l.length):(pt l n v).length=l.length:=by rw[AO h0 h,ar]
theorem lK(h0:0<=n)(h:n<l.length)(a:0<=k):gt (pt l n v) k=if k=n then v else gt l k:=by
 rw[AO h0 h];unfold gt;simp only[List.getD_eq_getElem?_getD,bL]
 by_cases e:k=n
 .subst e;rw[if_pos rfl,if_pos rfl,if_pos (by omega)];rfl
 .rw[if_neg (by omega),if_neg e]
theorem BC(h0:0<=n)(h:n<l.length):gt (pt l n v) n=v:=by rw[lK h0 h h0,if_pos rfl]
theorem XZ(h0:0<=n)(h:n<l.length)(a:0<=k)(e:k≠n):gt (pt l n v) k=gt l k:=by rw[lK h0 h a,if_neg e]
theorem aar{x:α}(h:x∈pt l n v):x=v\/x∈l:=by
 unfold pt at h;simp only[List.mem_append,ao]at h;rcases h with h|h|h
 .exact .inr (aN h)
 .exact .inl h
 .exact .inr (bC h)
end
@[simp] theorem ayA{α:Type}(l:List α)(n:Int)(v:α):l.take n.toNat++v::l.drop (n.toNat+1)=pt l n v:=(rfl)
def ml(g:gj)(s d c:Int):Int:=
 if s<0\/s>1\/d<0\/d>=g.next.length\/c<0\/c>=g.size then -1 else gt (gt g.next (if s=1 then gt g.jw d else d)) c
structure oM(g:gj):Prop where
 size:1<=g.size/\g.size<=9
 next:g.next.length=8
 row:∀l∈g.next,(l.length:Int)=g.size/\∀x∈l,-1<=x/\x<g.size
 jw:g.jw.length=8
 turns:∀d,0<=d->d<8->0<=gt g.jw d/\gt g.jw d<8/\gt g.jw (gt g.jw d)=d
def oM.to{g:gj}(h:oM g)(s d c:Int) : -1<=ml g s d c/\ml g s d c<g.size:=by
 have:=h.size;unfold ml;split
 .omega
 .rename_i e;have f:=h.next
  simp only[not_or,fe,Int.not_le,gt_iff_lt,ge_iff_le]at e
  have b:0<=(if s=1 then gt g.jw d else d)/\(if s=1 then gt g.jw d else d)<8:=by
   split
   .have:=h.turns d (by omega) (by omega);omega
   .omega
  have a:=h.row _ (gA (l:=g.next) b.1 (by omega));exact a.2 _ (gA (by omega) (by omega))
structure F8(g:gj)(x:gd):Prop where
 ok:((x.1=1\/x.1=2\/x.1=7)/\0<=x.2/\x.2<8)\/(3<=x.1/\x.1<=6/\x.2=0)\/(x.1=8/\0<=x.2/\x.2<g.kinds.length)\/((x.1=9\/x.1=10)/\0<=x.2/\x.2<g.gM)
def oO(l:List gd)(op:Int):Int:=(l.countP λx=>x.1=op:Nat)
structure xW(g:gj)(l:List gd):Prop where
 len:1<=l.length/\l.length<=8
 steps:∀x∈l,F8 g x
 uF:oO l 6<=2
 push:oO l 7<=1
 MR:oO l 8<=1
structure C'(g:gj)(c:Clause):Prop where
 ok:(c.cond=1/\0<=c.kind/\c.kind<g.kinds.length/\c.n=0)\/(c.cond=2/\0<=c.kind/\c.kind<g.kinds.length/\0<=c.n/\c.n<g.size)\/(c.cond=3/\c.kind=0/\0<=c.n/\c.n<=64)
 out:1<=c.out/\c.out<=3
def kindName(n:Int):ByteArray:=if n=0 then⟨#[97]⟩else⟨#[98,101,101]⟩
structure gU(g:gj):Prop where
 jJ:oM g
 kinds:1<=g.kinds.length/\g.kinds.length<=2
 names:∀k:Int,0<=k->k<g.kinds.length->(gt g.kinds k).name=kindName k
 jr:∀k∈g.kinds,k.jr.length<=4/\∀l∈k.jr,xW g l
 gM:0<=g.gM/\g.gM<=2
 clauses:g.clauses.length<=3
 clause:∀c∈g.clauses,C' g c
 blocked:1<=g.blocked/\g.blocked<=3
 vJ:1<=g.vJ/\g.vJ<=3
structure su(g:gj)(l:List Int):Prop where
 len:l.length=g.kinds.length
 at_:∀k:Int,0<=k->k<l.length->0<=gt l k/\gt l k<=8/\(0<gt l k->(gt g.kinds k).keep=true)
structure iz(g:gj)(p:Pos):Prop where
 size:(p.cs.length:Int)=g.size
 h0:su g p.h0
 h1:su g p.h1
 gM:0<=p.gM/\p.gM<2 ^ g.gM.toNat
 side:0<=p.side/\p.side<=1
 cs:∀x∈p.cs,0<=x/\x<=2*g.kinds.length
def gI(n:Int):Int:=if 1<=n/\n<=12 then(n-1) / 2 else -1
def jZ(n:Int):Int:=if 1<=n/\n<=12 then(n-1) % 2 else -1
def lU(k s:Int):Int:=1+2*k+s
def ui(g:gj)(s d c:Int):Nat->Int->List Int->List Int
 | 0,_,out=>out
 | n+1,x,out=>if 0<=x/\x≠c/\x ∉ out then ui g s d c n (ml g s d x) (out ++ [x])else out
def lC(g:gj)(s d c:Int):List Int:=ui g s d c 10 (ml g s d c) []
theorem Z6{g:gj}(hg:oM g){s d c:Int}:∀(n:Nat) (x:Int) (out:List Int),x<g.size->(∀y∈out,0<=y/\y<g.size)->∀y∈ui g s d c n x out,0<=y/\y<g.size
 | 0,x,out,_,h,y,hy=>h y hy
 | n+1,x,out,hx,h,y,hy=>by
  unfold ui at hy;split at hy
  .rename_i e;refine Z6 hg n _ _ (hg.to _ _ _).2 (λz a=>?_) y hy;simp only[List.mem_append,List.mem_singleton]at a;rcases a with a|a
   .exact h z a
   .omega
  .exact h y hy
def Tl{g:gj}(hg:oM g){s d c y:Int}(h:y∈lC g s d c):0<=y/\y<g.size:=Z6 hg _ _ _ (hg.to _ _ _).2 (by simp) y h
theorem AI:∀(n:Nat) (l:List Int),l.Nodup->(∀y∈l,0<=y/\y<n)->l.length<=n
 | 0,[],_,_=>by simp
 | 0,a::l,_,h=>by have:=h a (by simp);omega
 | n+1,l,hn,h=>by
  by_cases e:(n:Int)∈l
  .have h1:(l.erase (n:Int)).length<=n:=AI n _ (hn.erase _) λy b=>by have:=(hn.mem_erase_iff).1 b;have:=h y this.2;omega
   rw[fu e]at h1;omega
  .have:=AI n l hn λy b=>by have:=h y b;have:y≠n:=λc=>e (c▸b);omega
   omega
structure gy where
 p:Pos
 kind:Int
 cur:Int
 jM:Bool
 deriving DecidableEq,Inhabited
def gy.cells(s:gy):List D:=[dI s.p.cs,dI s.p.h0,dI s.p.h1,.i s.p.gM,.i s.p.side,.i s.kind,.i s.cur,.b s.jM]
structure km(g:gj)(s:gy):Prop where
 p:iz g s.p
 kind:0<=s.kind/\s.kind<g.kinds.length
 cur:0<=s.cur/\s.cur<g.size
def Pos.hand(p:Pos)(s:Int):List Int:=if s=0 then p.h0 else p.h1
def Pos.mZ(p:Pos)(s:Int)(l:List Int):Pos:=if s=0 then{ p with h0:=l }else{ p with h1:=l }
def qm(s:gy):List Int->List gy
 | []=>[]
 | c::r=>{ s with cur:=c }::if gt s.p.cs c=0 then qm s r else []
def tA(g:gj)(s:gy):List gy:=
 let c:=gt s.p.cs s.cur
 if jZ c≠1-s.p.side then []else
  let p:={ s.p with cs:=pt s.p.cs s.cur 0 }
  if (gt g.kinds (gI c)).keep=false then [{ s with p:=p,jM:=true }]else
   let n:=gt (s.p.hand s.p.side) (gI c)+1
   if n<=8 then [{ s with p:=p.mZ s.p.side (pt (s.p.hand s.p.side) (gI c) n),jM:=true }]else []
def uA(g:gj)(s:gy)(n:Int):List gy:=
 let to:=ml g s.p.side n s.cur
 if gt s.p.cs s.cur=0\/to<0\/gt s.p.cs to≠0 then []else
  [{ s with p:={ s.p with cs:=pt (pt s.p.cs to (gt s.p.cs s.cur)) s.cur 0 } }]
def BR(r n:Int):Prop:=r / 2 ^ n.toNat % 2=1
instance(r n:Int):Decidable (BR r n):=by unfold BR;infer_instance
def dropRight(r n:Int):Int:=if BR r n then r-2 ^ n.toNat else r
def Ut{b:Int}(h0:0<=b)(h:b<=4):y6 .i64 1 b=2 ^ b.toNat:=by
 have:b=0\/b=1\/b=2\/b=3\/b=4:=by omega
 rcases this with rfl|rfl|rfl|rfl|rfl<;>decide
def aaz{r:Int}(h0:0<=r)(h:r<16):∃i:Fin 16,r=(i.val:Int):=⟨⟨r.toNat,by omega⟩,by simp;omega⟩
def aaA{r:Int}(h0:0<=r)(h:r<4):∃i:Fin 4,r=(i.val:Int):=⟨⟨r.toNat,by omega⟩,by simp;omega⟩
def abm:∀(i:Fin 16) (k:Fin 4),(bits .and .i64 (mB .i64 (i.val:Int) (k.val:Int)) 1=1↔BR (i.val:Int) (k.val:Int))/\bits .andNot .i64 (i.val:Int) (y6 .i64 1 (k.val:Int))=dropRight (i.val:Int) (k.val:Int):=by decide +kernel
def abk{r n:Int}(h0:0<=r)(h1:r<16)(b:0<=n)(a:n<4):(bits .and .i64 (mB .i64 r n) 1=1)=BR r n:=by obtain⟨i,rfl⟩:=aaz h0 h1;obtain⟨k,rfl⟩:=aaA b a;exact propext (abm i k).1
def abl{r n:Int}(h0:0<=r)(h1:r<16)(b:0<=n)(a:n<4):bits .andNot .i64 r (y6 .i64 1 n)=dropRight r n:=by obtain⟨i,rfl⟩:=aaz h0 h1;obtain⟨k,rfl⟩:=aaA b a;exact(abm i k).2
def E6{b:Int}(h0:0<=b)(h:b<=4):(2:Int) ^ b.toNat<=16:=by
 have:b=0\/b=1\/b=2\/b=3\/b=4:=by omega
 rcases this with rfl|rfl|rfl|rfl|rfl<;>decide
def je(g:gj)(s:gy)(x:gd):List gy:=
 let c:=gt s.p.cs s.cur
 if x.1=1 then(let to:=ml g s.p.side x.2 s.cur;if 0<=to then [{ s with cur:=to }]else [])
 else if x.1=2 then qm s (lC g s.p.side x.2 s.cur)
 else if x.1=3 then(if c=0 then [s]else [])
 else if x.1=4 then(if jZ c=1-s.p.side then [s]else [])
 else if x.1=5 then(if jZ c=s.p.side then [s]else [])
 else if x.1=6 then tA g s
 else if x.1=7 then uA g s x.2
 else if x.1=8 then [{ s with kind:=x.2 }]
 else if x.1=9 then(if BR s.p.gM x.2 then [s]else [])
 else [{ s with p:={ s.p with gM:=dropRight s.p.gM x.2 } }]
def tw(g:gj):List gd->List gy->List gy
 | [],l=>l
 | x::r,l=>tw g r (l.flatMap λs=>je g s x)
def lE(p:Pos)(cell:Int):gy:={ p:={ p with cs:=pt p.cs cell 0 },kind:=gI (gt p.cs cell),cur:=cell,jM:=false }
structure gQ where
 p:Pos
 jM:Bool
 deriving DecidableEq,Inhabited
def gQ.cells(o:gQ):List D:=[dI o.p.cs,dI o.p.h0,dI o.p.h1,.i o.p.gM,.i o.p.side,.b o.jM]
def oz(side:Int)(s:gy):Option gQ:=
 if gt s.p.cs s.cur=0 then some { p:={ s.p with cs:=pt s.p.cs s.cur (lU s.kind side),side:=1-side },jM:=s.jM }else none
def vh(g:gj)(p:Pos)(cell:Int)(l:List gd):List gQ:=(tw g l [lE p cell]).filterMap (oz p.side)
def upto(n:Nat):List Int:=(List.range n).map λk:Nat=>(k:Int)
def jd{n:Nat}{k:Int}:k∈upto n↔0<=k/\k<n:=by
 simp only[upto,List.mem_map,a8];constructor
 .rintro⟨a,h,rfl⟩;omega
 .intro h;exact⟨k.toNat,by omega,by omega⟩
def p5(g:gj)(p:Pos)(c:Int):List gQ:=if jZ (gt p.cs c)=p.side then(gt g.kinds (gI (gt p.cs c))).jr.flatMap (vh g p c)else []
def qn(g:gj)(p:Pos):List gQ:=(upto p.cs.length).flatMap (p5 g p)
def kh(p:Pos)(k c:Int):Pos:={ p.mZ p.side (pt (p.hand p.side) k (gt (p.hand p.side) k-1))with cs:=pt p.cs c (lU k p.side),side:=1-p.side }
def zr(g:gj)(p q:Pos):Prop:=∃k c:Int,0<=k/\k<g.kinds.length/\0<=c/\c<p.cs.length/\gt (p.hand p.side) k≠0/\gt p.cs c=0/\q=kh p k c
def sL(p:Pos)(side kind:Int):Int:=(p.cs.countP λc=>0<=gI c/\jZ c=side/\(kind<0\/gI c=kind):Nat)
def kZ(p:Pos)(c:Clause):Prop:=
 if c.cond=1 then sL p p.side c.kind=0 else if c.cond=2 then gt p.cs c.n=lU c.kind (1-p.side)else sL p p.side (-1)<=c.n
def rH(g:gj)(p q:Pos):Prop:=
 (∀c∈g.clauses,¬kZ p c) /\
 if g.oH=true/\(∃o∈qn g p,o.jM=true)then⟨q,true⟩∈qn g p else(∃o∈qn g p,o.p=q)\/zr g p q
def iz.small{g:gj}(hg:gU g){p:Pos}(h:iz g p):Small p:=by have h1:=h.size;have d:=hg.jJ.size;have c:=h.h0.len;have b:=h.h1.len;have a:=hg.kinds;exact mj
theorem iz.hand{g:gj}{p:Pos}(h:iz g p)(s:Int):su g (p.hand s):=by
 unfold Pos.hand;split
 .exact h.h0
 .exact h.h1
theorem iz.mZ{g:gj}{p:Pos}(h:iz g p)(s:Int){l:List Int}(hl:su g l):iz g (p.mZ s l):=by
 unfold Pos.mZ;split
 .exact{ h with h0:=hl }
 .exact{ h with h1:=hl }
def iz.C0{g:gj}{p:Pos}(h:iz g p){c v:Int}(d:0<=c)(e:c<g.size)(b:0<=v/\v<=2*g.kinds.length):iz g { p with cs:=pt p.cs c v }:=
 { h with
  size:=by dsimp only;rw[iC d (by rw[h.size];exact e)];exact h.size
  cs:=λx a=>by
   rcases aar a with rfl|a
   .exact b
   .exact h.cs x a }
def su.set{g:gj}{l:List Int}(h:su g l){k v:Int}(b:0<=k)(a:k<l.length)(c:0<=v/\v<=8/\(0<v->(gt g.kinds k).keep=true)):su g (pt l k v) where
 len:=by rw[iC b a];exact h.len
 at_ j hj Oj:=by
  rw[iC b a]at Oj;rw[lK b a hj];split
  .rename_i e;subst e;exact c
  .exact h.at_ j hj Oj
def yP{n:Int}{g:gj}(h:n<=2*g.kinds.length)(a:1<=g.kinds.length):gI n<g.kinds.length:=by unfold gI;split<;>omega
def IJ{n s:Int}(hs:0<=s)(h:jZ n=s):0<=gI n/\1<=n/\n<=12/\n=lU (gI n) s:=by
 unfold jZ at h;unfold gI lU;split at h<;>rename_i e
 .rw[if_pos e];omega
 .omega
def aei{r n k:Int}(h:0<=r)(a:r<2 ^ k.toNat):0<=dropRight r n/\dropRight r n<2 ^ k.toNat:=by
 unfold dropRight;split
 .rename_i e;unfold BR at e;have b:(0:Int)<2 ^ n.toNat:=Int.pow_pos (by decide)
  have:2 ^ n.toNat<=r:=by
   by_cases c:r<2 ^ n.toNat
   .rw[Int.ediv_eq_zero_of_lt h c]at e;simp at e
   .omega
  omega
 .exact⟨h,a⟩
theorem Z9{s t:gy}:∀ {l:List Int},t∈qm s l->∃c∈l,t = { s with cur:=c }
 | [],h=>by simp[qm]at h
 | c::r,h=>by
  unfold qm at h;rcases ao.1 h with h|h
  .exact⟨c,by simp,h⟩
  .split at h
   .obtain⟨c',h1,a⟩:=Z9 h;exact⟨c',by simp[h1],a⟩
   .cases h
def C7{g:gj}(hg:gU g){s:gy}(hs:km g s){x:gd}(k:F8 g x){t:gy}(h:t∈je g s x):km g t:=by
 have d:=hg.jJ;have j:s.cur<s.p.cs.length:=by rw[hs.p.size];exact hs.cur.2
 have i:=hs.p.cs _ (gA hs.cur.1 j);unfold je at h;dsimp only at h;split at h
 .split at h
  .rename_i h0;rw[List.mem_singleton]at h;subst h;exact{ hs with cur:=⟨h0,(d.to _ _ _).2⟩ }
  .cases h
 split at h
 .obtain⟨c,h1,rfl⟩:=Z9 h;exact{ hs with cur:=Tl d h1 }
 iterate 3
  split at h
  .split at h
   .rw[List.mem_singleton]at h;subst h;exact hs
   .cases h
 split at h
 .unfold tA at h;dsimp only at h;split at h
  .cases h
  rename_i e;have e:=Decidable.not_not.1 e;have l:=hs.p.side;obtain⟨m1,m2,m3,m4⟩:=IJ (by omega) e;have a:gI (gt s.p.cs s.cur)<g.kinds.length:=yP i.2 hg.kinds.1;have f:iz g { s.p with cs:=pt s.p.cs s.cur 0 }:=hs.p.C0 hs.cur.1 hs.cur.2 (by omega);split at h
  .rw[List.mem_singleton]at h;subst h;exact{ hs with p:=f }
  rename_i kp;split at h
  .rename_i n;rw[List.mem_singleton]at h;subst h;have b:=hs.p.hand s.p.side;have hl:=b.len;have m:=b.at_ _ m1 (by rw[hl];exact a);exact{ hs with p:=f.mZ _ (b.set m1 (by rw[hl];exact a) (qo (λ_=>by simpa using kp))) }
  .cases h
 split at h
 .unfold uA at h;dsimp only at h;split at h
  .cases h
  rename_i e;simp only[not_or,fe]at e;rw[List.mem_singleton]at h;subst h;have h1:=hs.p.C0 (c:=ml g s.p.side x.2 s.cur) (v:=gt s.p.cs s.cur) e.2.1 (d.to _ _ _).2 i;exact{ hs with p:=h1.C0 hs.cur.1 hs.cur.2 (by omega) }
 split at h
 .rename_i o;rw[List.mem_singleton]at h;subst h;have a:0<=x.2/\x.2<g.kinds.length:=by have:=k.ok;omega
  exact{ hs with kind:=a }
 split at h
 .split at h
  .rw[List.mem_singleton]at h;subst h;exact hs
  .cases h
 .rw[List.mem_singleton]at h;subst h;exact{ hs with p:={ hs.p with gM:=aei hs.p.gM.1 hs.p.gM.2 } }
theorem Px{g:gj}(hg:gU g):∀ {l:List gd} {a:List gy},(∀x∈l,F8 g x)->(∀s∈a,km g s)->∀s∈tw g l a,km g s
 | [],_,_,h,s,hs=>h s hs
 | x::r,a,hx,h,s,hs=>by refine Px (a:=a.flatMap λs=>je g s x) hg (λy c=>hx y (by simp[c])) (λt b=>?_) s hs;obtain⟨u,d,b⟩:=bN.1 b;exact C7 hg (h u d) (hx x (by simp)) b
theorem abA{g:gj}:∀ {l:List gd} {a b:List gy},(∀s,s∈a↔s∈b)->∀s,s∈tw g l a↔s∈tw g l b
 | [],_,_,h,s=>h s
 | x::r,a,b,h,s=>abA (l:=r) (λt=>by simp only[bN,h]) s
def Ju{g:gj}(hg:gU g){p:Pos}(a:iz g p){c:Int}(h0:0<=c)(h1:c<g.size)(b:jZ (gt p.cs c)=p.side):km g (lE p c):=by have d:=a.cs _ (gA h0 (by rw[a.size];exact h1));exact{ p:=a.C0 h0 h1 (by omega),kind:=⟨(IJ a.side.1 b).1,yP d.2 hg.kinds.1⟩,cur:=⟨h0,h1⟩ }
def NH{g:gj}{s:gy}(hs:km g s){side:Int}(h0:0<=side)(h1:side<=1){o:gQ}(h:oz side s=some o):iz g o.p:=by
 unfold oz at h;split at h
 .cases h;have:=hs.kind;exact{ hs.p.C0 hs.cur.1 hs.cur.2 (v:=lU s.kind side) (by unfold lU;omega)with side:=by dsimp only;omega }
 .cases h
def Ph{g:gj}(hg:gU g){p:Pos}(a:iz g p){o:gQ}(h:o∈qn g p):iz g o.p:=by
 obtain⟨c,b,h⟩:=bN.1 h;rw[jd,a.size]at b;unfold p5 at h;split at h
 .rename_i e;obtain⟨l,hl,h⟩:=bN.1 h;obtain⟨s,hs,h⟩:=cY.1 h;have d:=Ju hg a b.1 b.2 e;have i:=hg.jr _ (gA (l:=g.kinds) d.kind.1 d.kind.2);exact NH (Px hg (i.2 l hl).steps (λt f=>by rw[List.mem_singleton]at f;subst f;exact d) s hs) a.side.1 a.side.2 h
 .cases h
def GN{g:gj}{p:Pos}(a:iz g p){q:Pos}(h:zr g p q):iz g q:=by
 obtain⟨k,c,h1,o,i,n,m,l,rfl⟩:=h;have b:=a.hand p.side;have hl:=b.len;have f:=b.at_ k h1 (by omega);have hs:=a.side;have j:=a.size;have d:=(a.mZ p.side (b.set h1 (v:=gt (p.hand p.side) k-1) (by omega) (qo (λ_=>f.2.2 (by omega)))));have e:(p.mZ p.side (pt (p.hand p.side) k (gt (p.hand p.side) k-1))).cs=p.cs:=by unfold Pos.mZ;split<;>rfl
 have:=d.C0 (c:=c) (v:=lU k p.side) i (by omega) (by unfold lU;omega);rw[e]at this;exact{ this with side:=by dsimp only[kh];omega }
def TL{g:gj}(hg:gU g){p:Pos}(a:iz g p){q:Pos}(h:rH g p q):iz g q:=by
 obtain⟨_,h⟩:=h;split at h
 .exact Ph hg a h
 .rcases h with⟨o,h,rfl⟩|h
  .exact Ph hg a h
  .exact GN a h
end Go.AL
namespace Go.Proofs.YtmehofoficaelaaGreatDoor
open Go Go.AL Classical
set_option maxRecDepth 10000
def f95(n a b:Int):Wf T 253 [.i n,.i a,.i b] [] (Is (.b (decide (a<=n/\n<=b)))):=by refine Yg MD ?_;simp[MD];exact mQ
def f94(a b:Int):Wf T 202 [.i a,.i b] [] (Is (.i (kU a b))):=by
 refine Yg MC ?_;simp[MC];(with_reducible repeat' first|refine Xk ?_<;>try simp|refine Xs ?_ ?_<;>intro h<;>(try intro c)<;>(try simp[h])<;>try omega|refine Xg ?_|omega)
 all_goals (simp only[kU];(repeat' split)<;>omega)
def f92{k s:Int}(c:0<=k)(a:k<6)(hs:0<=s)(b:s<=1):Wf T 216 [.i k,.i s] [] (Is (.i (1+2*k+s))):=by refine Yg MA ?_;simp[MA];exact mQ
def f156{k s:Int}(b:0<=k)(c:k<6)(hs:0<=s)(a:s<=1):Wf T 206 [.i k,.i s] [] (Is (.i (1+2*k+s))):=by refine Yg K8 ?_;simp[K8];refine gx.c rfl rfl (f95 _ _ _) (by simp[gG]) (by simp) ?_;simp[show k<=5 by omega,b];refine gx.c rfl rfl (f95 _ _ _) (by simp[gG]) (by simp) ?_;simp[hs,a];omega
def f25(l:List Int)(n:Int)(hl:l.length<2 ^ 40):Wf T 40 [dI l,.i n] [] (Is (.b (decide (n∈l)))):=by
 refine Yg LU ?_;simp[LU];refine gp.i (α:=Int) [0,1,5] rfl (λi=>[(0,dI l),(1,.i n),(5,.i i)]) (λ_=>[]) (λi=>0<=i/\i<=l.length/\n ∉ l.take i.toNat) (λi=>l.length-i.toNat) 0 (by simp) (by simp) rfl ?_;rintro i ⟨h0,h1,a⟩;simp;(with_reducible repeat' first|refine Xk ?_<;>try simp|refine Xs ?_ ?_<;>intro h<;>(try intro b)<;>(try simp[h])<;>try omega|refine Xg ?_|omega)
 .have:=gA h0 ‹_›;simp_all
 .skip;rw[jn h0 ‹_›];simp_all;exactλe=>h e.symm
 .simpa[lr (by omega:(l.length:Int)<=i)]using a
def f93(a b:List Int)(g:a.length<2 ^ 40)(f:b.length<2 ^ 40):Wf T 201 [dI a,dI b] [] (Is (.i (kP a b))):=by
 refine Yg MB ?_;simp[MB];refine gp.j (0:Int) (λi=>[(0,dI a),(1,dI b),(5,.i i)]) (λ_=>_) (λi=>0<=i/\i<=a.length/\i<=b.length/\a.take i.toNat=b.take i.toNat) (λi=>a.length-i.toNat) ?_ (by simp) (by first|rfl|simp) rfl ?_
 .simp
 rintro i ⟨h0,h1,d,c⟩;have e:=Z' c (by omega) (by omega);simp;(with_reducible repeat' first|refine Xk ?_<;>try simp|refine Xs ?_ ?_<;>intro h<;>(try intro j)<;>(try simp[h])<;>try omega|refine Xg ?_|omega)
 .skip;rw[jn h0 (by omega),jn h0 (by omega),c];simp_all
 .refine Yt (f94 _ _) ?_;simp;rw[e,n5 h0 ‹_›,n5 h0 ‹_›,kP,if_neg (by assumption)]
 all_goals
  refine Yc (f94 _ _) ?_;simp;rw[e,Tn (by simp only[aQ];omega)];simp only[aQ,kU];(repeat' split)<;>omega
def f50(p q:Pos)(b:Small p)(a:Small q):Wf T 137 [dP p,dP q] [] (Is (.i (iH p q))):=by
 refine Yg Mh ?_;simp[Mh];refine Yt (f93 _ _ b.1 a.1) ?_;simp;refine Yt (f93 _ _ b.2.1 a.2.1) ?_;simp;refine Yt (f93 _ _ b.2.2 a.2.2) ?_;simp;refine Yt (f94 _ _) ?_;simp;refine Yt (f94 _ _) ?_;simp;(refine gp.un ?_;(repeat' first|(refine kS.u ?_;simp;done)|(refine kS.u ?_;simp)|((with_reducible first|refine X2.d ?_ ?_|refine X2.a ?_ ?_|refine X2.o ?_ ?_|refine X2.b ?_ ?_)<;>intro h<;>(try simp[h]))|fail))
 all_goals simp_all [iH,nA]
def f51(n:Int):Wf T 203 [.i n] [] (Is (.agg [.i (gI n),.i (jZ n)])):=by
 refine Yg Mi ?_;simp[Mi];refine Yc (f95 _ _ _) ?_;simp;(with_reducible repeat' first|refine Xk ?_<;>try simp|refine Xs ?_ ?_<;>intro h<;>(try intro a)<;>(try simp[h])<;>try omega|refine Xg ?_|omega)
 .rw[vj (by omega) (by omega) (by omega),jB (by omega)];simp[gI,jZ];omega
 .simp[gI,jZ];omega
def f84(n:Int):Wf T 163 [.i n] [] (Is (.tup [.i (gI n),.i (jZ n)])):=by
 refine Yg Mv ?_;simp[Mv];(with_reducible repeat' first|refine Xk ?_<;>try simp|refine Xs ?_ ?_<;>intro h<;>(try intro a)<;>(try simp[h])<;>try omega|refine Xg ?_|omega)
 .simp[gI,jZ];omega
 .simp[gI,jZ];omega
 .rw[vj (by omega) (by omega) (by omega),jB (by omega)];simp[gI,jZ];omega
def f251(g:gj)(hg:oM g)(s d c:Int):Wf T 295 [g.jJ,.i s,.i d,.i c] [] (Is (.i (ml g s d c))):=by
 have e:=hg.next
 have b:=hg.jw;refine Yg LW ?_;simp[LW];(with_reducible repeat' first|refine Xk ?_<;>try simp|refine Xs ?_ ?_<;>intro h<;>(try intro f)<;>(try simp[h])<;>try omega|refine Xg ?_|omega)
 all_goals first
  | (simp only[ml];rw[if_pos (by omega)])
  | skip
 .rename_i h;have:=hg.turns d (by omega) (by omega);have a:=hg.row (gt g.next (gt g.jw d)) (gA (by omega) (by omega));refine gf ?_;simp only[ml];rw[if_neg (by omega)];simp
 .rename_i h;have a:=hg.row (gt g.next d) (gA (by omega) (by omega));refine gf ?_;simp only[ml];rw[if_neg (by omega)];simp[h]
def f240(g:gj)(hg:oM g)(s d c:Int):Wf T 322 [g.jJ,.i s,.i d,.i c] [] (Is (.i (ml g s d c))):=by
 have e:=hg.next
 have b:=hg.jw;refine Yg LO ?_;simp[LO];(with_reducible repeat' first|refine Xk ?_<;>try simp|refine Xs ?_ ?_<;>intro h<;>(try intro f)<;>(try simp[h])<;>try omega|refine Xg ?_|omega)
 all_goals first
  | (simp only[ml];rw[if_pos (by omega)])
  | skip
 .rename_i h;have:=hg.turns d (by omega) (by omega);have a:=hg.row (gt g.next (gt g.jw d)) (gA (by omega) (by omega));refine gf ?_;simp only[ml];rw[if_neg (by omega)];simp
 .rename_i h;have a:=hg.row (gt g.next d) (gA (by omega) (by omega));refine gf ?_;simp only[ml];rw[if_neg (by omega)];simp[h]
def f110(p q:Pos)(b:Small p)(a:Small q):Wf T 162 [dP p,dP q] [] (Is (.b (decide (p=q)))):=by refine Yg J7 ?_;simp[J7];refine Yc (f50 p q b a) ?_;simp;rw[rP]
set_option maxHeartbeats 1000000
def f64(l:List Pos)(hl:l.length<2 ^ 40)(hs:∀p∈l,Small p):Wf T 83 [gZ l] [] (Is (.b (decide (kX l)))):=by
 refine Yg Mp ?_;simp[Mp];refine gp.j (1:Int) (λi=>[(0,gZ l),(3,.i i)]) (λ_=>_) (λi=>1<=i/\(i<=l.length\/i=1)/\∀k:Int,1<=k->k<i->iH (gt l (k-1)) (gt l k)<0) (λi=>l.length-i.toNat) ?_ (by simp) (by first|rfl|simp) rfl ?_
 .simp;omega
 rintro i ⟨h0,h1,c⟩;simp;refine jT ?_ ?_<;>intro h
 .skip;refine Yt (f50 (gt l (i-1)) (gt l i) (hs _ (gA (by omega) (by omega))) (hs _ (gA (by omega) (by omega)))) ?_;simp;refine jT ?_ ?_<;>intro h
  .intro b;have:=b i h0 ‹_›;omega
  .grind
 .intro k a d;exact c k a (by omega)
def f27(l:List Pos)(p:Pos)(hl:l.length<2 ^ 40)(hs:∀p∈l,Small p)(m:Small p)(g:kX l):Wf T 86 [gZ l,dP p] [] (Is (.i (pN l p))):=by
 refine Yg L7 ?_;simp[L7];refine gp.j ((0,(l.length:Int)):Int×Int) (λx=>[(0,gZ l),(3,.ptr 0 0 0),(5,.i x.1),(6,.i x.2)]) (λ_=>[.row 46 0 p.cells]) (λx=>0<=x.1/\x.1<=x.2/\x.2<=l.length/\∀k:Int,0<=k->k<l.length->gt l k=p->x.1<=k/\k<x.2) (λx=>(x.2-x.1).toNat) ?_ (by simp) rfl rfl ?_
 .simp;omega
 rintro⟨a,b⟩ ⟨h0,h1,q,f⟩;simp at h0 h1 q f;simp;refine jT ?_ ?_<;>intro h
 .rw[vj (by omega) (by omega) (by omega)];refine gf ?_;refine Yt (f50 p (gt l ((a+b) / 2)) m (hs _ (gA (by omega) (by omega)))) ?_;simp;(with_reducible repeat' first|refine Xk ?_<;>try simp|refine Xs ?_ ?_<;>intro h<;>(try intro s)<;>(try simp[h])<;>try omega|refine Xg ?_|omega)
  .rw[rP]at h;rw[h,af1 g (by omega) (by omega)]
  .have r:∀k:Int,(a+b) / 2<=k->k<l.length->gt l k≠p:=λk d c e=>by
    by_cases j:k=(a+b) / 2
    .subst j;rw[e,vG]at h;omega
    .have:=zI h (g.le (by omega) (show(a+b) / 2<k by omega) c);rw[e,vG]at this;omega
   intro k d c e;have:=f k d c e
   by_cases i:(a+b) / 2<=k
   .grind
   .omega
  .have o:iH (gt l ((a+b) / 2)) p<0:=by rw[vH];omega
   have r:∀k:Int,0<=k->k<=(a+b) / 2->gt l k≠p:=λk d c e=>by
    by_cases j:k=(a+b) / 2
    .grind
    .have:=zI (g.le d (show k<(a+b) / 2 by omega) (by omega)) o;rw[e,vG]at this;omega
   intro k d c e;have:=f k d c e
   by_cases i:k<=(a+b) / 2
   .grind
   .omega
 .rw[Xu];intro n;obtain⟨k,d,c,e⟩:=um.1 n;have:=f k d c e;omega
def f111(g:gj)(l:List Int)(hg:gU g)(hl:su g l):Wf T 138 [dG g,dI l] [] (Is (.b true)):=by
 have d:=hg.kinds;have c:=hl.len;refine Yg J8 ?_;simp[J8];(with_reducible repeat' first|refine Xk ?_<;>try simp|refine Xs ?_ ?_<;>intro h<;>(try intro a)<;>(try simp[h])<;>try omega|refine Xg ?_|omega);refine gp.j (0:Int) (λi=>[(1,dI l),(2,.ptr 0 0 0),(5,.i i)]) (λi=>[.row 43 0 g.cells]) (λi=>0<=i/\i<=l.length) (λi=>l.length-i.toNat) ?_ (by simp) (by first|rfl|simp) rfl ?_
 .simp
 rintro i ⟨h0,h1⟩;simp;(with_reducible refine Xs ?_ ?_<;>intro h<;>(try intro a)<;>(try simp[h])<;>(try omega))
 .have b:=hl.at_ i h0 ‹_›;(with_reducible repeat' first|refine Xk ?_<;>try simp|refine Xs ?_ ?_<;>intro h<;>(try intro a)<;>(try simp[h])<;>try omega|refine Xg ?_|omega);have:=b.2.2
  all_goals simp_all
  all_goals omega
def f65(g:gj)(p:Pos)(hg:gU g)(a:iz g p):Wf T 84 [dG g,dP p] [] (Is (.b true)):=by
 have e:=hg.kinds;have c:=hg.gM;have h1:=a.size;have l:=a.gM;have k:=a.side;have f:=hg.jJ.size;have b:=Ut c.1 (by omega);refine Yg Mq ?_;simp[Mq,h1];refine Yt (f111 g _ hg a.h0) ?_;simp[h1];refine Yt (f111 g _ hg a.h1) ?_;simp[h1];(with_reducible repeat' first|refine Xk ?_<;>try simp[b]|refine Xs ?_ ?_<;>intro h<;>(try intro d)<;>(try simp[h,b])<;>try omega|refine Xg ?_|omega);refine gp.j (0:Int) (λi=>[(2,.ptr 0 0 0),(3,.ptr 1 0 0),(5,.i i)]) (λi=>[.row 43 0 g.cells,.row 46 0 p.cells]) (λi=>0<=i/\i<=p.cs.length) (λi=>p.cs.length-i.toNat) ?_ (by simp) (by first|rfl|simp) rfl ?_
 .simp
 rintro i ⟨h0,j⟩;simp;(with_reducible refine Xs ?_ ?_<;>intro h<;>(try intro d)<;>(try simp[h])<;>(try omega));have b:=a.cs _ (gA h0 ‹_›);exact mQ
end Go.Proofs.YtmehofoficaelaaGreatDoor
namespace Go.AL
open Go
def Ex{α:Type}(g:α->D)(Q:α->Prop):D->U->Prop:=λd H=>∃r,d=g r/\H = []/\Q r
@[simp] theorem apQ{α:Type}(g:α->D)(Q:α->Prop)(d:D)(H:U):Ex g Q d H = ∃r,d=g r/\H = []/\Q r:=(rfl)
section
variable{T:iD}{f:FuncId}{args oN:List D}{dst:Option Nat}{s:St}{K:St->Prop}{fn:jo}
theorem gx.q{α:Type}{g:α->D}{Q:α->Prop}(i:T.fn f=some fn)(e:fn.full=false)(h:Wf T f args [] (Ex g Q))
  (a:gG args=true) (b:∀r,closed (g r)=true) (k:∀r,Q r->K { s with env:=put s.env dst (g r) }):gx T f args dst s K .mk:=by
 refine gx.is i e (K0:=Ex g Q) ?_ ?_
 .have l:args.map (gq (λ_=>none) s.H 40)=args:=by
   conv=>rhs;rw[<-aY args]
   exact aq λd j=>p6 (lT a d j)
  rw[l];exact h
 .rintro d Hn ⟨r,rfl,rfl,c⟩;obtain⟨k1,k2⟩:=Gx (H:=s.H) (b r);refine⟨{ s with env:=put s.env dst (g r) },?_,k r c⟩;unfold after;rw[if_pos a,k1,k2];simp
theorem amR{d:D}(a:flat d=true)(_:closed d=true):o3 d=true:=(Rf (H:=[]) a).1
theorem gx.rq{α:Type}{g:α->D}{Q:α->Prop}(i:T.fn f=some fn)(e:fn.full=false)(h:Wf T f oN [] (Ex g Q))
  (hs:args.map (gq (λ_=>none) s.H 40)=oN) (b:∀r,flat (g r)=true) (a:∀r,closed (g r)=true) (k:∀r,Q r->K { s with env:=put s.env dst (g r) }):gx T f args dst s K .mk:=by
 refine gx.is i e (K0:=Ex g Q) (by rw[hs];exact h) ?_;rintro d Hn ⟨r,rfl,rfl,c⟩;obtain⟨k1,k2⟩:=Gx (H:=s.H) (a r);refine⟨{ s with env:=put s.env dst (g r) },?_,k r c⟩;unfold after;rw[amR (b r) (a r),k1,k2];simp
end
section
variable{T:iD}{f:FuncId}{args:List D}{dst:Option Nat}{s:St}{K:St->Prop}{fn:jo}
theorem gx.n{d:D}{Hn:U}(e:T.fn f=some fn)(c:fn.full=false)(h:Wf T f args [] λd' H'=>d'=d/\H'=Hn)
  (a:gG args=true) (b:(mY d&&Hn.all oy)=true) (k:K { s with env:=put s.env dst (kH s.H.length d),H:=s.H++Hn }):gx T f args dst s K .mk:=by
 refine gx.is e c (K0:=λd' H'=>d'=d/\H'=Hn) ?_ ?_
 .have i:args.map (gq (λ_=>none) s.H 40)=args:=by
   conv=>rhs;rw[<-aY args]
   exact aq λd g=>p6 (lT a d g)
  rw[i];exact h
 .rintro d' j ⟨rfl,rfl⟩;refine⟨_,?_,k⟩;unfold after;rw[if_pos a,if_pos b]
theorem wZ.n{R:List Fp}{Q:Rc->St->Prop}{d:D}{ob:Ob}(e:T.fn f=some fn)(c:fn.full=false)(h:Wf T f args [] λd' H'=>d'=d/\H' = [ob])
  (a:gG args=true) (b:(mY d&&oy ob)=true) (k:Q ⟨R,[(s.H.length,none)]⟩ { s with env:=put s.env dst (kH s.H.length d),H:=s.H ++ [ob] }):uK T f args R dst s Q .mk:=by
 have i:args.map (gq (λ_=>none) s.H 40)=args:=by
  conv=>rhs;rw[<-aY args]
  exact aq λd g=>p6 (lT a d g)
 exact .inl (.inr ⟨fn,d,ob,e,c,by rw[i];exact h,by rw[if_pos a];exact b,k⟩)
theorem wZ.c{R:List Fp}{Q:Rc->St->Prop}{x:D}(c:T.fn f=some fn)(b:fn.full=false)(h:Wf T f args [] λd H'=>d=x/\H' = [])
  (e:gG args=true) (a:closed x=true) (k:Q ⟨R,[]⟩ { s with env:=put s.env dst x }):uK T f args R dst s Q .mk:=.inl (.inl (jh.c c b h e a k))
theorem uK.z{oN:List D}{R:List Fp}{Q:Rc->St->Prop}{d:D}(v:Nat)(e:T.fn f=some fn)(c:fn.full=false)(h:Wf T f oN [] (Is d))(hs:args.map (gq (λ_=>none) s.H 40)=oN)
  (a:(args.map (iF s.H 40)).flatten = [v]) (i:(rowsOf s.H v).isSome=true) (g:gG oN=true) (b:closed d=true) (k:Q ⟨R,[(v,none)]⟩ { s with env:=put s.env dst d,H:=s.H.set v .dead }):uK T f args R dst s Q .mk:=
 .inr ⟨fn,d,v,e,c,by rw[a];simp,by rw[a];simp,i,by rw[hs];exact g,by rw[hs];exact h,b,k⟩
@[simp] theorem ax5(ds:List D):mY (.agg ds)=ds.all (yW closed):=rfl
@[simp] theorem ax7(ds:List D):mY (.tup ds)=ds.all (yW closed):=rfl
@[simp] theorem ax6(v g sz off n:Nat):mY (.fZ v g sz off n)=true:=rfl
@[simp] theorem axV(p:D->Bool)(v g sz off n:Nat):yW p (.fZ v g sz off n)=true:=rfl
@[simp] theorem axU(l:List Int):yW closed (dI l)=true:=by show closed (dI l)=true;simp
@[simp] theorem axW(v:Value):yW closed (.val v)=true:=by show closed (.val v)=true;simp
@[simp] theorem atQ(t g:Nat)(cs:List D):oy (.row t g cs)=gG cs:=rfl
@[simp] theorem awI(n:Nat)(ds:List D):kH n (.agg ds) = .agg (ds.map (yO n)):=rfl
@[simp] theorem awK(n:Nat)(ds:List D):kH n (.tup ds) = .tup (ds.map (yO n)):=rfl
@[simp] theorem awJ(n v g sz off k:Nat):kH n (.fZ v g sz off k) = .fZ (v+n) g sz off k:=rfl
@[simp] theorem awM(n v g sz off k:Nat):yO n (.fZ v g sz off k) = .fZ (v+n) g sz off k:=rfl
@[simp] theorem awL(n:Nat)(l:List Int):yO n (dI l)=dI l:=by unfold dI;rfl
@[simp] theorem awN(n:Nat)(v:Value):yO n (.val v) = .val v:=rfl
end
instance:Fl gy.cells 8:=⟨λ_=>rfl,λs=>by simp[gy.cells,gG]⟩
instance:Fl gQ.cells 6:=⟨λ_=>rfl,λs=>by simp[gQ.cells,gG]⟩
@[simp] theorem atG(l:List gy)(a b c:List Int)(r q k u:Int)(t:Bool):cl gy.cells l ++ [dI a,dI b,dI c,.i r,.i q,.i k,.i u,.b t]=cl gy.cells (l ++ [⟨⟨a,b,c,r,q⟩,k,u,t⟩]):=by rw[<-p9];rfl
@[simp] theorem atB(l:List gQ)(a b c:List Int)(r q:Int)(t:Bool):cl gQ.cells l ++ [dI a,dI b,dI c,.i r,.i q,.b t]=cl gQ.cells (l ++ [⟨⟨a,b,c,r,q⟩,t⟩]):=by rw[<-p9];rfl
@[simp] theorem az7(s:gy):gy.mk s.p s.kind s.cur s.jM=s:=rfl
@[simp] theorem ayn(s:gQ):gQ.mk s.p s.jM=s:=rfl
attribute [simp] gy.cells gQ.cells
def Yq{T:iD}{f:FuncId}{args:List D}{dst:Option Nat}{s:St}{K:St->Prop}{fn:jo}{α:Type}{g:α->D}{Q:α->Prop}(h:Wf T f args [] (Ex g Q))(k:∀r,Q r->K { s with env:=put s.env dst (g r) })
  (c:T.fn f=some fn:=by exact rfl) (b:fn.full=false:=by exact rfl) (d:gG args=true:=by simp) (a:∀r,closed (g r)=true:=by intro;simp):gx T f args dst s K .mk:=gx.q c b h d a k
def Yn{T:iD}{f:FuncId}{args:List D}{dst:Option Nat}{s:St}{K:St->Prop}{fn:jo}{d:D}{Hn:U}(h:Wf T f args [] λd' H'=>d'=d/\H'=Hn)(k:K { s with env:=put s.env dst (kH s.H.length d),H:=s.H++Hn })
  (c:T.fn f=some fn:=by exact rfl) (b:fn.full=false:=by exact rfl) (e:gG args=true:=by simp) (a:(mY d&&Hn.all oy)=true:=by simp):gx T f args dst s K .mk:=gx.n c b h e a k
end Go.AL
namespace Go.AL
open Go
def kE(l:List gy):D:=.sl 8 (l.map gy.cells)
def nZ(l:List gQ):D:=.sl 6 (l.map gQ.cells)
@[simp] theorem azN(l:List gy):D.sl 8 (l.map gy.cells)=kE l:=by unfold kE;rfl
@[simp] theorem azL(l:List gQ):D.sl 6 (l.map gQ.cells)=nZ l:=by unfold nZ;rfl
section
variable{l:List gy}{n:Int}{k:IntKind}{P:D->Prop}{H:U}
@[simp] theorem at6:closed (kE l)=true:=by unfold kE;exact yd l
@[simp] theorem awC:mX .slice (kE l) H=some (.i l.length):=by simp only[kE,Z4,List.length_map]
@[simp] theorem aAm(n:Nat):jk n (kE l) = []:=by unfold kE;rfl
@[simp] theorem ati:cellsOf (kE l)=some [kE l]:=by unfold kE;rfl
@[simp] theorem axE:oA (mG 8 (kE l) (.val (.int k n))) P .mk=((0<=n/\n<l.length)/\P (.gC (gt l n).cells)):=by unfold kE;exact yV
end
section
variable{l:List gQ}{n:Int}{k:IntKind}{P:D->Prop}{H:U}
@[simp] theorem at3:closed (nZ l)=true:=by unfold nZ;exact yd l
@[simp] theorem awz:mX .slice (nZ l) H=some (.i l.length):=by simp only[nZ,Z4,List.length_map]
@[simp] theorem azZ:kQ 6 H (nZ l)=some (cl gQ.cells l,l.length):=by unfold nZ;exact Jp ..
@[simp] theorem aAi(n:Nat):jk n (nZ l) = []:=by unfold nZ;rfl
@[simp] theorem axB:oA (mG 6 (nZ l) (.val (.int k n))) P .mk=((0<=n/\n<l.length)/\P (.gC (gt l n).cells)):=by unfold nZ;exact yV
end
@[simp] theorem azJ:D.sl 8 []=kE []:=by unfold kE;rfl
@[simp] theorem azI:D.sl 6 []=nZ []:=by unfold nZ;rfl
@[simp] theorem au1{ρ:Nat->Option Nat}{H:U}{k:Nat}{t:TypeId}{a b c:List Int}{r q w u:Int}{o:Bool}:mK ρ H (k+1) 8 0 1 (some (t,[dI a,dI b,dI c,.i r,.i q,.i w,.i u,.b o]))=kE [⟨⟨a,b,c,r,q⟩,w,u,o⟩]:=by have h:=tM (f:=gy.cells) (ρ:=ρ) (H:=H) (k:=k) (t:=t) (l:=[⟨⟨a,b,c,r,q⟩,w,u,o⟩]) (n:=1) rfl;rw[nO]at h;unfold kE;exact h
def yh(S:List Nat):Nat->U->mP
 | _,[]=>[]
 | i,_::r=>(i,!S.contains i)::yh S (i+1) r
@[simp] theorem auL(S:List Nat)(i:Nat):yh S i [] = []:=rfl
@[simp] theorem auK(S:List Nat)(i:Nat)(o:Ob)(r:U):yh S i (o::r)=(i,!decide (i∈S))::yh S (i+1) r:=by rw[yh,dm]
def af8(H:U)(S:List Nat):mE H S=yh S 0 H:=by
 have key:∀(H:U) (i:Nat),(List.range' i H.length).map (λv=>(v,!(S.contains v)))=yh S i H:=by
  intro H
  induction H with
  | nil=>intro i;rfl
  | cons o r a=>intro i;rw[aC,cL,List.map_cons,a,yh]
 rw[mE,cP,key]
def Rj(env:Env)(H:U)(m:List Nat)(r:Bool)(ks:mP):St:={ env:=env.map λp=>(p.1,gq (iv ks) H 40 p.2),H:=ks.map λp=>if p.2 then uD (iv ks) H H[p.1]? else .dead,marks:=m,ic:=r }
@[simp] theorem auV(S:List Nat)(env:Env)(H:U)(m:List Nat)(r:Bool):me S { env:=env,H:=H,marks:=m,ic:=r }=Rj env H m r (yh S 0 H):=by unfold me Rj;rw[af8];rfl
@[simp] theorem auR(env:Env)(H:U)(m:List Nat)(r:Bool)(ks:mP):Rj env H m r ks = { env:=env.map λp=>(p.1,gq (iv ks) H 40 p.2),H:=ks.map λp=>if p.2 then uD (iv ks) H H[p.1]? else .dead,marks:=m,ic:=r }:=rfl
section
variable{T:iD}
def Rk(S:List Nat)(T:iD)(b:IR)(K:iU):iU:=λo=>match o with
 | .norm s=>s.marks = []/\XC T b (me S s) K
 | o=>K o
@[simp ↓] theorem auT{S:List Nat}{b:IR}{K:iU}{s:St}:Rk S T b K (.norm s)=(s.marks = []/\XC T b (me S s) K):=(rfl)
@[simp ↓] theorem auS{S:List Nat}{b:IR}{K:iU}{id:Nat}{s:St}:Rk S T b K (.exit id s)=K (.exit id s):=(rfl)
@[simp ↓] theorem auU{S:List Nat}{b:IR}{K:iU}{s:St}:Rk S T b K (.ret s)=K (.ret s):=(rfl)
theorem gp.fz{live:List Nat}{a:IR}{s:St}{K:iU}(S:List Nat)(b:s.marks = [])(h:gp T live a (me S s) K .mk):gp T live a s K .mk:=Wc.me S (by rw[b];exact ain _) h
end
theorem Z7{g:gj}{s d c:Int}:∀(n:Nat) (x:Int) (out:List Int),(ui g s d c n x out).length<=out.length+n
 | 0,x,out=>by simp[ui]
 | n+1,x,out=>by
  unfold ui;split
  .have:=Z7 (g:=g) (s:=s) (d:=d) (c:=c) n (ml g s d x) (out ++ [x]);simp at this;omega
  .omega
def Tm{g:gj}{s d c:Int}:(lC g s d c).length<=10:=by have:=Z7 (g:=g) (s:=s) (d:=d) (c:=c) 10 (ml g s d c) [];simpa[lC]using this
theorem Z8{s:gy}:∀l:List Int,(qm s l).length<=l.length
 | []=>by simp[qm]
 | c::r=>by have:=Z8 (s:=s) r;unfold qm;split<;>simp<;>omega
def Ft{g:gj}{s:gy}{x:gd}:(je g s x).length<=10:=by
 have:=Z8 (s:=s) (lC g s.p.side x.2 s.cur);have:=Tm (g:=g) (s:=s.p.side) (d:=x.2) (c:=s.cur);unfold je tA uA;dsimp only
 repeat' split
 all_goals first|omega|(simp only[aC,da];omega)
end Go.AL
namespace Go.Proofs.YtmehofoficaelaaGreatDoor
open Go Go.AL Classical
set_option maxRecDepth 10000
set_option maxHeartbeats 1000000
structure rJ(a b:List Pos)(i k:Int)(out:List Pos):Prop where
 i0:0<=i/\i<=a.length
 k0:0<=k/\k<=b.length
 len:(out.length:Int)=i+k
 perm:out.Perm (a.take i.toNat++b.take k.toNat)
 ws:WS out
 le:∀x∈out,∀y,y∈a.drop i.toNat\/y∈b.drop k.toNat->iH x y<=0
def rJ.init(a b:List Pos):rJ a b 0 0 []:=⟨by omega,by omega,rfl,by simp,by simp[WS],by simp⟩
def acp{a:List Pos}(h:WS a){i:Int}(h0:0<=i)(h1:i<a.length){y:Pos}(b:y∈a.drop i.toNat):iH (gt a i) y<=0:=by
 have c:WS (a.drop i.toNat):=fO (List.drop_sublist _ _) h;rw[n5 h0 h1]at b c;rcases ao.1 b with rfl|b
 .rw[vG];omega
 .exact(aX.1 c).1 y b
def aiv{α:Type}[Inhabited α]{a:List α}{i:Int}(h0:0<=i)(h1:i<a.length){y:α}:y∈a.drop i.toNat↔y=gt a i\/y∈a.drop (i+1).toNat:=by rw[n5 h0 h1,ao,show(i+1).toNat=i.toNat+1 by omega]
def rJ.add{a b:List Pos}{i k:Int}{out:List Pos}(f:rJ a b i k out)(hi:i<a.length)(g:WS a)(h:∀y∈b.drop k.toNat,iH (gt a i) y<=0):rJ a b (i+1) k (out ++ [gt a i]):=by
 have h0:=f.i0;have e:∀y,y∈a.drop i.toNat↔y=gt a i\/y∈a.drop (i+1).toNat:=λy=>aiv h0.1 hi;refine⟨by omega,f.k0,by have:=f.len;simp;omega,?_,?_,λx d y c=>?_⟩
 .rw[jn h0.1 hi,aK];refine(f.perm.append_right _).trans ?_;rw[aK];exact List.Perm.append_left _ fQ
 .refine bn.2 ⟨f.ws,by simp,λx d y c=>?_⟩;simp at c;subst c;exact f.le x d _ (.inl ((e _).2 (.inl rfl)))
 .rcases List.mem_append.1 d with d|d
  .exact f.le x d y (c.imp (λh=>(e _).2 (.inr h)) id)
  .simp at d;subst d;rcases c with c|c
   .exact acp g h0.1 hi ((e _).2 (.inr c))
   .exact h y c
def rJ.swap{a b:List Pos}{i k:Int}{out:List Pos}(c:rJ a b i k out):rJ b a k i out:=
 ⟨c.k0,c.i0,by have:=c.len;omega,c.perm.trans fQ,c.ws,λx e y d=>c.le x e y d.symm⟩
def rJ.UC{a b:List Pos}{i k:Int}{out:List Pos}(d:rJ a b i k out)(hi:i<a.length)(g:WS a)(f:WS b)(h:k<b.length->iH (gt a i) (gt b k)<=0):rJ a b (i+1) k (out ++ [gt a i]):=by
 refine d.add hi g λy c=>?_
 by_cases e:k<b.length
 .exact Wi (h e) (acp f d.k0.1 e c)
 .rw[bF (by have:=d.k0;omega)]at c;cases c
def rJ.abU{a b:List Pos}{i k:Int}{out:List Pos}(f:rJ a b i k out)(c:k<b.length)(e:WS a)(d:WS b)(h:i<a.length->¬iH (gt a i) (gt b k)<=0):rJ a b i (k+1) (out ++ [gt b k]):=by refine(f.swap.UC c d e λhi=>?_).swap;have:=h hi;rw[vH];omega
def f109:∀(n:Nat) (l:List Pos),l.length=n->l.length<2 ^ 40->(∀p∈l,Small p)->Wf T 161 [gZ l] [] (Ex gZ λr=>r.Perm l/\WS r):=by
 intro n
 induction n using Nat.strongRecOn with
 | ind n g=>
 intro l w hl hs;refine Yg J5 ?_;simp[J5];(with_reducible refine Xs ?_ ?_<;>intro h<;>(try intro j)<;>(try simp[h])<;>(try omega))
 .refine⟨l,rfl,List.Perm.refl _,?_⟩;unfold WS
  cases l with
  | nil=>simp
  | cons a l=>cases l with
   | nil=>simp
   | cons b l=>simp at h;omega
 .rw[vj (by omega) (by omega) (by omega)];refine gf ?_;refine Yq (g (l.length / 2) (by omega) _ (by simp;omega) (by simp;omega) (λp d=>hs p (aN d))) λa f=>?_;simp;rw[vj (by omega) (by omega) (by omega)];refine gf ?_;refine Yq (g (l.length-l.length / 2) (by omega) _ (by simp;omega) (by simp;omega) (λp d=>hs p (bC (aN d)))) λb e=>?_;simp;have v:(a.length:Int)=l.length / 2:=by rw[f.1.length_eq];simp;omega
  have u:(b.length:Int)=l.length-l.length / 2:=by rw[e.1.length_eq];simp;omega
  have q:∀p∈a,Small p:=λp d=>hs p (aN ((f.1.mem_iff).1 d));have o:∀p∈b,Small p:=λp d=>hs p (bC (aN ((e.1.mem_iff).1 d)));refine gp.j ((0,0,[]):Int×Int×List Pos) (λx=>[(3,gZ a),(4,gZ b),(5,.fZ 0 x.2.2.length 5 0 x.2.2.length),(6,.i x.1),(7,.i x.2.1)]) (λx=>[.row 46 x.2.2.length (cl Pos.cells x.2.2)]) (λx=>rJ a b x.1 x.2.1 x.2.2) (λx=>a.length+b.length-(x.1+x.2.1).toNat) ?_ (by simp) (by first|rfl|simp) rfl ?_
  .exact rJ.init a b
  rintro⟨i,k,out⟩ c;have h0:=c.i0;have h1:=c.k0;have s:=c.len;dsimp only at c h0 h1 s ⊢;simp;(with_reducible repeat' first|refine Xk ?_<;>try simp|refine Xs ?_ ?_<;>intro h<;>(try intro j)<;>(try simp[h])<;>try omega|refine Xg ?_|omega)
  .exact⟨i+1,k,_,by simp,rfl,rfl,by simp,rfl,by omega,c.UC (by assumption) f.2 e.2 λh=>by omega⟩
  .refine Yt (f50 _ _ (q _ (gA (by omega) (by omega))) (o _ (gA (by omega) (by omega)))) ?_;simp[*];(with_reducible repeat' first|refine Xk ?_<;>try simp|refine Xs ?_ ?_<;>intro h<;>(try intro j)<;>(try simp[h])<;>try omega|refine Xg ?_|omega)
   .exact⟨i+1,k,_,by simp,rfl,rfl,by simp,rfl,by omega,c.UC (by assumption) f.2 e.2 λ_=>by assumption⟩
   .exact⟨i,k+1,_,by simp,rfl,rfl,by simp,rfl,by omega,c.abU (by omega) f.2 e.2 λ_=>by assumption⟩
  .exact⟨i,k+1,_,by simp,rfl,rfl,by simp,rfl,by omega,c.abU (by omega) f.2 e.2 λ_=>by omega⟩
  .refine⟨out,rfl,?_,c.ws⟩;have m:=c.perm;rw[lr (by omega),lr (by omega)]at m;refine m.trans ((List.Perm.append f.1 e.1).trans ?_);have t:(l.drop (↑l.length / 2:Int).toNat).take (l.length-(↑l.length / 2:Int).toNat)=l.drop (↑l.length / 2:Int).toNat:=af (by rw[aQ];exact Nat.le_refl _);rw[t,bY]
structure wX(a:List Pos)(i:Int)(out:List Pos):Prop where
 i0:0<=i/\i<=a.length
 len:(out.length:Int)<=i
 mem:∀q,q∈out↔q∈a.take i.toNat
 st:out.Pairwise λx y=>iH x y<0
def wX.init(a:List Pos):wX a 0 []:=⟨by omega,by simp,by simp,by simp⟩
def acq{a:List Pos}(h:WS a){j:Int}(h0:0<=j)(h1:j<a.length){x:Pos}(b:x∈a.take (j+1).toNat):iH x (gt a j)<=0:=by
 have c:WS (a.take (j+1).toNat):=fO (List.take_sublist _ _) h;rw[jn h0 h1]at b c;rcases List.mem_append.1 b with b|b
 .exact(bn.1 c).2.2 x b _ (by simp)
 .simp at b;subst b;rw[vG];omega
def wX.skip{a:List Pos}{i:Int}{out:List Pos}(b:wX a i out)(hi:i<a.length)(h1:i≠0)(h:gt a i=gt a (i-1)):wX a (i+1) out:=by have h0:=b.i0;refine⟨by omega,by have:=b.len;omega,λq=>?_,b.st⟩;rw[b.mem,jn h0.1 hi,List.mem_append,List.mem_singleton];refine⟨.inl,λc=>c.elim id λc=>?_⟩;rw[c,h];have:=jn (l:=a) (n:=i-1) (by omega) (by omega);rw[show i-1+1=i by omega]at this;rw[this];simp
def wX.add{a:List Pos}{i:Int}{out:List Pos}(c:wX a i out)(hi:i<a.length)(f:WS a)(h:i=0\/gt a i≠gt a (i-1)):wX a (i+1) (out ++ [gt a i]):=by
 have h0:=c.i0;refine⟨by omega,by have:=c.len;simp;omega,λq=>?_,bn.2 ⟨c.st,by simp,λx b y d=>?_⟩⟩
 .rw[List.mem_append,c.mem,jn h0.1 hi,List.mem_append]
 .simp at d;subst d;have b:=(c.mem x).1 b;rcases h with rfl|h
  .simp at b
  .by_cases g:i=0
   .subst g;simp at b
   have p:=acq f (j:=i-1) (by omega) (by omega) (x:=x) (by rw[show i-1+1=i by omega];exact b)
   have o:=acq f h0.1 hi (x:=gt a (i-1)) (by
    have:=jn (l:=a) (n:=i-1) (by omega) (by omega);rw[show i-1+1=i by omega]at this
    rw[jn h0.1 hi,this];simp)
   have m:iH (gt a (i-1)) (gt a i)≠0:=λe=>h (rP.1 e).symm
   by_cases k:iH x (gt a (i-1))=0
   .rw[rP.1 k];omega
   .exact zI (show iH x (gt a (i-1))<0 by omega) (by omega)
def apb{r:List Pos}(h:r.Pairwise λx y=>iH x y<0):kX r:=by intro i h1 a;rw[iZ (by omega) (by omega),iZ (by omega) (by omega)];exact bM.1 h _ _ _ _ (by omega)
def f61(l:List Pos)(hl:l.length<2 ^ 40)(hs:∀p∈l,Small p):Wf T 101 [gZ l] [] (Ex gZ λr=>kX r/\r.length<=l.length/\∀q,q∈r↔q∈l):=by
 refine Yg Mo ?_;simp[Mo];refine Yq (f109 _ l rfl hl hs) λa c=>?_;simp;have f:a.length=l.length:=c.1.length_eq;have d:∀p∈a,Small p:=λp e=>hs p (c.1.mem_iff.1 e);refine gp.j ((0,[]):Int×List Pos) (λx=>[(3,gZ a),(4,.fZ 0 x.2.length 5 0 x.2.length),(5,.i x.1)]) (λx=>[.row 46 x.2.length (cl Pos.cells x.2)]) (λx=>wX a x.1 x.2) (λx=>a.length-x.1.toNat) ?_ (by simp) (by first|rfl|simp) rfl ?_
 .exact wX.init a
 rintro⟨i,out⟩ b;have h0:=b.i0;have h1:=b.len;dsimp only at b h0 h1 ⊢;simp;(with_reducible repeat' first|refine Xk ?_<;>try simp|refine Xs ?_ ?_<;>intro h<;>(try intro g)<;>(try simp[h])<;>try omega|refine Xg ?_|omega)
 .exact⟨1,_,by simp,rfl,by simp,rfl,by omega,by subst h;exact b.add (by assumption) c.2 (.inl rfl)⟩
 .refine Yt (f110 _ _ (d _ (gA (by omega) (by omega))) (d _ (gA (by omega) (by omega)))) ?_;simp;refine jT ?_ ?_<;>intro h
  .exact⟨i+1,_,rfl,rfl,rfl,rfl,by omega,b.skip (by assumption) (by assumption) (by assumption)⟩
  .exact⟨i+1,_,by simp,rfl,by simp,rfl,by omega,b.add (by assumption) c.2 (.inr (by assumption))⟩
 .refine⟨out,rfl,apb b.st,by omega,λq=>?_⟩;rw[b.mem,lr (by omega),c.1.mem_iff]
end Go.Proofs.YtmehofoficaelaaGreatDoor
namespace Go.AL
open Go
def Tg(H:U)(d:D)(ks:mP):D×U:=(gq (iv ks) H 40 d,ks.map λp=>if p.2 then uD (iv ks) H H[p.1]? else .dead)
@[simp] theorem awr(H:U)(d:D)(ks:mP):Tg H d ks=(gq (iv ks) H 40 d,ks.map λp=>if p.2 then uD (iv ks) H H[p.1]? else .dead):=rfl
def E4(own n:Nat)(H:U)(d:D):List Nat:=match own with|0=>[]|1=>E5 n d|3=>((iF H 40 d).filter (n<=·)).take 1|_=>(iF H 40 d).filter (n<=·)
@[simp] theorem ayo(n:Nat)(H:U)(d:D):E4 0 n H d = []:=rfl
@[simp] theorem ayp(n:Nat)(H:U)(d:D):E4 1 n H d=E5 n d:=rfl
@[simp] theorem ayq(n:Nat)(H:U)(d:D):E4 2 n H d=(iF H 40 d).filter (n<=·):=rfl
@[simp] theorem ayr(n:Nat)(H:U)(d:D):E4 3 n H d=((iF H 40 d).filter (n<=·)).take 1:=rfl
@[simp low] theorem OV{own n:Nat}{H:U}{d:D}(h:¬H.length<=n)(a:¬own=4):leave own n H d=Tg H d (iI n (dedup ((E4 own n H d++((H.take n).map (oJ n)).flatten).filter (· < H.length)))):=by unfold leave Tg E4;rw[if_neg (by omega)];rfl
@[simp] theorem ays(n v g sz len:Nat):E5 n (.fZ v g sz 0 len)=if n<=v then [v]else []:=rfl
theorem Pq{H:U}{k:Nat}{d:D}(h:closed d=true):iF H k d = []:=by
 cases k with
 | zero=>rfl
 | succ k=>unfold iF;exact if_pos h
def T9{H:U}{k:Nat}{cs:List D}(h:gG cs=true):(cs.map (iF H k)).flatten = []:=by
 induction cs with
 | nil=>rfl
 | cons d r a=>
  simp only[gG,Bool.and_eq_true]at h;simp[Pq h.1,a h.2]
@[simp] theorem ayM{H:U}{k:Nat}{d:D}(h:closed d=true):iF H k d = []:=Pq h
@[simp] theorem ayK(H:U)(k:Nat)(cs:List D):iF H (k+1) (.agg cs)=(cs.map (iF H k)).flatten:=by
 by_cases h:closed (.agg cs)=true
 .rw[Pq h,T9 (by simpa using h)]
 .rw[iF,if_neg h]
@[simp] theorem ayQ(H:U)(k:Nat)(cs:List D):iF H (k+1) (.tup cs)=(cs.map (iF H k)).flatten:=by
 by_cases h:closed (.tup cs)=true
 .rw[Pq h,T9 (by simpa using h)]
 .rw[iF,if_neg h]
def E'(H:U)(k:Nat):Option Ob->List Nat
 | some (.row _ _ cs)=>(cs.map (iF H k)).flatten
 | _=>[]
@[simp] theorem ayS(H:U)(k t g:Nat)(cs:List D):E' H k (some (.row t g cs))=(cs.map (iF H k)).flatten:=rfl
@[simp] theorem ayR(H:U)(k:Nat)(kk:KK)(es:List (Value×D)):E' H k (some (.map kk es)) = []:=rfl
theorem abe(H:U)(k v:Nat):(match rowsOf H v with|some (_,_,cs)=>(cs.map (iF H k)).flatten|none=>[])=E' H k H[v]? := by
 unfold rowsOf E'
 cases h:H[v]? with
 | none=>rfl
 | some o=>cases o<;>rfl
@[simp] theorem ayN(H:U)(k v g sz off n:Nat):iF H (k+1) (.fZ v g sz off n)=v::E' H k H[v]? := by rw[iF,if_neg (by simp)];exact congrArg _ (abe H k v)
@[simp] theorem ayO(H:U)(k v g off:Nat):iF H (k+1) (.ptr v g off)=v::E' H k H[v]? := by rw[iF,if_neg (by simp)];exact congrArg _ (abe H k v)
@[simp] theorem ayP{H:U}{k:Nat}{α:Type}{f:α->List D}{sz:Nat}[F:Fl f sz](l:List α):((cl f l).map (iF H k)).flatten = []:=T9 (tG l)
@[simp low] theorem Rm{ρ:Nat->Option Nat}{H:U}{k sz:Nat}{t:TypeId}{cs:List D}(h:cs.length=sz):mK ρ H k sz 0 1 (some (t,cs)) = .sl sz [cs.map (gq ρ H k)]:=by subst h;unfold mK;simp[chunks,af]
@[simp] theorem azO{a b c:List Int}{r q w u:Int}{o:Bool}:D.sl 8 [[dI a,dI b,dI c,.i r,.i q,.i w,.i u,.b o]]=kE [⟨⟨a,b,c,r,q⟩,w,u,o⟩]:=by unfold kE;rfl
end Go.AL
namespace Go.Proofs.YtmehofoficaelaaGreatDoor
open Go Go.AL Classical
set_option maxRecDepth 10000
set_option maxHeartbeats 1000000
def ND(p:Pos)(a:Small p):Wf T 205 [dP p] [] (λd H=>d = .agg [.fZ 0 1 1 0 p.cs.length,.fZ 1 1 1 0 p.h0.length,.fZ 2 1 1 0 p.h1.length,.i p.gM,.i p.side]/\H = [.row 3 1 (cl f1 p.cs),.row 3 1 (cl f1 p.h0),.row 3 1 (cl f1 p.h1)]):=by
 obtain⟨h1,c,b⟩:=a;refine Wf.xo 2 (fn:=zn) rfl (by simp[zn]) ?_;simp[zn];exact mQ
 all_goals trace_state
def f250(a b:gy)(d:Small a.p)(c:Small b.p):Wf T 294 [.agg a.cells,.agg b.cells] [] (Is (.b (decide (a=b)))):=by
 have e:(a=b)↔a.p=b.p/\a.kind=b.kind/\a.cur=b.cur/\a.jM=b.jM:=by cases a;cases b;simp
 have f:decide (a=b)=decide (a.p=b.p/\a.kind=b.kind/\a.cur=b.cur/\a.jM=b.jM):=decide_eq_decide.2 e;rw[f];refine Yg LV ?_;simp[LV];(with_reducible repeat' first|refine Xk ?_<;>try simp|refine Xs ?_ ?_<;>intro h<;>(try intro g)<;>(try simp[h])<;>try omega|refine Xg ?_|omega)
 .refine Yc (f50 _ _ d c) ?_;simp;simp_all [rP]
 all_goals (intros;simp_all)
def f252(s:gy)(b:Bool):Wf T 296 [.agg s.cells,.b b] [] (Is (kE (if b then [s]else []))):=by refine Yg LX ?_;simp[LX];exact mQ
def IF(a b:gQ):Prop:=iH a.p b.p<0\/(iH a.p b.p=0/\a.jM=false/\b.jM=true)
def f229(a b:gQ)(d:Small a.p)(c:Small b.p):Wf T 285 [.agg a.cells,.agg b.cells] [] (Is (.b (decide (IF a b)))):=by
 refine Yg LK ?_;simp[LK];refine Yc (f50 _ _ d c) ?_;simp;(with_reducible repeat' first|refine Xk ?_<;>try simp|refine Xs ?_ ?_<;>intro h<;>(try intro f)<;>(try simp[h])<;>try omega|refine Xg ?_|omega)
 all_goals by_cases e:iH a.p b.p<0<;>simp[*,IF]at *
def f263(g:gj)(hg:oM g)(s d c:Int):Wf T 321 [g.jJ,.i s,.i d,.i c] [] (Is (dI (lC g s d c))):=by
 have o:=hg.size;refine Yg L5 ?_;simp[L5];refine Yc (f251 g hg s d c) ?_;simp;refine gp.j ((0,ml g s d c,[]):Nat×Int×List Int) (λx=>[(1,.i s),(2,.i d),(3,.i c),(4,.ptr 0 0 0),(9,.fZ 1 x.2.2.length 1 0 x.2.2.length),(10,.i x.2.1)]) (λx=>[.row 39 0 [.i g.size,.sl 1 (g.next.map fI),dI g.jw],.row 3 x.2.2.length (cl f1 x.2.2)]) (λx=>x.1=x.2.2.length/\x.2.1<g.size/\x.2.2.Nodup/\(∀y∈x.2.2,0<=y/\y<g.size)/\lC g s d c=ui g s d c (10-x.1) x.2.1 x.2.2) (λx=>10-x.1) ?_ (by simp) (by first|rfl|simp) rfl ?_
 .have:=hg.to s d c;simp[lC];omega
 rintro⟨m,x,out⟩ ⟨h0,h1,f,b,j⟩;dsimp only at h0 h1 f b j ⊢;have n:out.length<=9:=AI 9 out f (λy a=>by have:=b y a;omega);have e:=j;rw[show 10-m=(9-m)+1 by omega,ui]at e;simp;(with_reducible repeat' first|refine Xk ?_<;>try simp|refine Xs ?_ ?_<;>intro h<;>(try intro p)<;>(try simp[h])<;>try omega|refine Xg ?_|omega)
 .rw[e,if_neg (by omega)]
 .refine gx.r rfl rfl (f25 out x (by omega)) (by simp) rfl (by simp) ?_;simp;refine jT ?_ ?_<;>intro h
  .rw[e,if_neg (by rintro⟨_,_,k⟩;exact k ‹_›)]
  .refine Yc (f251 g hg s d x) ?_;simp;refine⟨out.length+1,_,out ++ [x],by simp,rfl,by simp,rfl,by omega,by simp,(hg.to _ _ _).2,?_,?_,?_⟩
   .rw[bR];refine⟨f,by simp,λy a z i=>?_⟩;simp at i;subst i;intro l;subst l;exact absurd a ‹_›
   .intro y a;simp at a;rcases a with a|rfl
    .exact b y a
    .omega
   .rw[e,if_pos (qo (by assumption)),h0,show 9-out.length=10-(out.length+1)by omega]
 .rw[e,if_neg (by omega)]
def f253(g:gj)(hg:gU g)(s:gy)(hs:km g s)(n:Int):Wf T 297 [dG g,.agg s.cells,.i n] [] (Is (kE (qm s (lC g s.p.side n s.cur)))):=by
 have hl:=Tm (g:=g) (s:=s.p.side) (d:=n) (c:=s.cur);have j:=hs.p.size;refine Yg LY ?_;simp[LY];refine Yc (f263 g hg.jJ s.p.side n s.cur) ?_;simp;generalize f:lC g s.p.side n s.cur=L at *;have gF:∀y∈L,0<=y/\y<g.size:=λy e=>Tl hg.jJ (f▸e);refine gp.j ((0,[]):Int×List gy) (λx=>[(4,.ptr 1 0 0),(7,.fZ 2 x.2.length 8 0 x.2.length),(8,dI L),(9,.i x.1)]) (λx=>[.row 43 0 g.cells,.row 373 0 s.cells,.row 373 x.2.length (cl gy.cells x.2)]) (λx=>0<=x.1/\x.1<=L.length/\x.2.length=x.1.toNat/\qm s L=x.2++qm s (L.drop x.1.toNat)) (λx=>L.length-x.1.toNat) ?_ (by simp) (by first|rfl|simp) rfl ?_
 .simp
 rintro⟨i,out⟩ ⟨h0,h1,b,a⟩;dsimp only at h0 h1 b a ⊢;simp;refine jT ?_ ?_<;>intro h
 .have k:=gF _ (gA h0 ‹_›);rw[n5 h0 ‹_›,qm]at a;refine jT ?_ ?_<;>intro h
  .refine⟨i+1,out ++ [{ s with cur:=gt L i }],by simp,rfl,by simp,by rw[<-p9],by omega,by omega,by omega,by simp[b];omega,?_⟩;rw[a,if_pos ‹_›,show(i+1).toNat=i.toNat+1 by omega];simp
  .rw[if_neg ‹_›]at a;rw[a];simp[kE]
 .rw[bF (by omega)]at a;rw[a];simp[qm]
def aak{n s:Int}(_:0<=n)(a:0<=gI n)(h:jZ n≠s)(hs:0<=s/\s<=1):jZ n=1-s:=by
 unfold gI jZ at *;split at a
 .rename_i e;rw[if_pos e]at h ⊢;omega
 .omega
def f254(g:gj)(hg:gU g)(s:gy)(hs:km g s):Wf T 298 [dG g,.agg s.cells] [] (Is (kE (tA g s))):=by
 have r:=hs.p.size;have d:=hs.cur;have j:=hs.p.small hg;refine Yg LZ ?_;simp[LZ];refine gf ?_;refine Yc (f51 _) ?_;simp;have b:=hs.p.cs _ (gA d.1 (by omega));have i:=hg.kinds;have f:=hs.p.side;(with_reducible repeat' first|refine Xk ?_<;>try simp|refine Xs ?_ ?_<;>intro h<;>(try intro u)<;>(try simp[h])<;>try omega|refine Xg ?_|omega)
 .rw[tA,if_pos];unfold gI at *;unfold jZ;split at h<;>rename_i m
  .omega
  .rw[if_neg m];omega
 .rw[tA,if_pos (by omega)]
 .have t:gI (gt s.p.cs s.cur)<g.kinds.length:=yP b.2 i.1;have o:s.p.side=0\/s.p.side=1:=by omega
  have q:=hs.p.h0.len;have p:=hs.p.h1.len;have q0:=iC (l:=s.p.cs) (n:=s.cur) (v:=0) d.1 (by omega);refine Yn (ND s.p j) ?_;simp;refine F9 q0 ?_ ?_<;>intro h
  .have a:jZ (gt s.p.cs s.cur)=1-s.p.side:=aak b.1 (by omega) (by assumption) f;have c:=h;rcases o with e|e
   .have k:=hs.p.h0.at_ _ (by omega) (show gI (gt s.p.cs s.cur)<s.p.h0.length by omega);have q1:=BC (l:=s.p.h0) (n:=gI (gt s.p.cs s.cur)) (v:=gt s.p.h0 (gI (gt s.p.cs s.cur))+1) (by omega) (by omega);have q2:=iC (l:=s.p.h0) (n:=gI (gt s.p.cs s.cur)) (v:=gt s.p.h0 (gI (gt s.p.cs s.cur))+1) (by omega) (by omega);simp[e,q1,q2];refine jT ?_ ?_<;>intro h
    all_goals simp[tA,a,c,Pos.hand,Pos.mZ,e,q0,q2]
    .rw[if_neg (by omega)]
    .rw[if_pos (by omega)]
   .have k:=hs.p.h1.at_ _ (by omega) (show gI (gt s.p.cs s.cur)<s.p.h1.length by omega);have q1:=BC (l:=s.p.h1) (n:=gI (gt s.p.cs s.cur)) (v:=gt s.p.h1 (gI (gt s.p.cs s.cur))+1) (by omega) (by omega);have q2:=iC (l:=s.p.h1) (n:=gI (gt s.p.cs s.cur)) (v:=gt s.p.h1 (gI (gt s.p.cs s.cur))+1) (by omega) (by omega);simp[e,q1,q2];refine jT ?_ ?_<;>intro h
    all_goals simp[tA,a,c,Pos.hand,Pos.mZ,e,q0,q2]
    .rw[if_neg (by omega)]
    .rw[if_pos (by omega)]
  .have a:jZ (gt s.p.cs s.cur)=1-s.p.side:=aak b.1 (by omega) (by assumption) f;simp[tA,a,h,q0]
def f255(g:gj)(hg:gU g)(s:gy)(hs:km g s)(n:Int):Wf T 299 [dG g,.agg s.cells,.i n] [] (Is (kE (uA g s n))):=by
 have c:=hs.p.size;have a:=hs.cur;have b:=hs.p.small hg;have d:=hg.jJ.to s.p.side n s.cur;refine Yg L3 ?_;simp[L3];refine Yc (f251 g hg.jJ s.p.side n s.cur) ?_;simp;(with_reducible repeat' first|refine Xk ?_<;>try simp|refine Xs ?_ ?_<;>intro h<;>(try intro e)<;>(try simp[h])<;>try omega|refine Xg ?_|omega)
 .rw[uA,if_pos (by simp_all)]
 .rw[uA,if_pos (by simp_all)]
 .have q0:=iC (l:=s.p.cs) (n:=ml g s.p.side n s.cur) (v:=gt s.p.cs s.cur) (by omega) (by omega);have q1:=iC (l:=pt s.p.cs (ml g s.p.side n s.cur) (gt s.p.cs s.cur)) (n:=s.cur) (v:=0) a.1 (by omega);refine Yn (ND s.p b) ?_;simp;refine kJ q0 q1 ?_;simp[uA, *]
 .rw[uA,if_pos (by simp_all)]
