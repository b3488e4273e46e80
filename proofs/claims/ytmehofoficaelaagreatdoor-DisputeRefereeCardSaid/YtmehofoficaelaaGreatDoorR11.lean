/- Part 11 of DisputeReferee. -/
import Derived.Test.YtmehofoficaelaaGreatDoorR10
import Derived.Test.YtmehofoficaelaaGreatDoorR08
set_option linter.all false
namespace Go.AL
def kn(a b:Int):Int:=if a<b then -1 else if a>b then 1 else 0
def kh:List Int->List Int->Int
 | [],[]=>0
 | [],_::_ => -1
 | _::_,[]=>1
 | a::l,b::m=>if a=b then kh l m else kn a b
def mG:List Int->Int
 | []=>0
 | a::l=>if a≠0 then a else mG l
def ib(p q:Pos):Int:=mG [kh p.cs q.cs,kh p.h0 q.h0,kh p.h1 q.h1,kn p.gj q.gj,kn p.side q.side]
theorem xx{a b:Int}:kn a b=0↔a=b:=by unfold kn;(repeat' split)<;>omega
theorem C9{a b:Int}:kn a b<0↔a<b:=by unfold kn;(repeat' split)<;>omega
theorem Mk(a b:Int):kn b a = - kn a b:=by unfold kn;(repeat' split)<;>omega
theorem Mb:∀ {a b:List Int},kh a b=0↔a=b
 | [],[]=>by simp[kh]
 | [],_::_=>by simp[kh]
 | _::_,[]=>by simp[kh]
 | a::l,b::m=>by
  unfold kh;split
  .rename_i h;subst h;rw[Mb];simp
  .rename_i h;rw[xx];simp[h]
theorem L9:∀(a b:List Int),kh b a = - kh a b
 | [],[]=>rfl
 | [],_::_=>rfl
 | _::_,[]=>rfl
 | a::l,b::m=>by
  unfold kh
  by_cases h:a=b
  .subst h;simp[L9 l m]
  .rw[if_neg h,if_neg (cF h),Mk]
theorem Ma:∀ {a b c:List Int},kh a b<0->kh b c<0->kh a c<0
 | [],[],c,h,_=>by simp[kh]at h
 | _::_,[],c,h,_=>by simp[kh]at h
 | a,_::_,[],_,h=>by simp[kh]at h
 | [],_::_,_::_,_,_=>by simp[kh]
 | a::l,b::m,c::k,h1,h2=>by
  unfold kh at *
  by_cases e:a=b
  .subst e;rw[if_pos rfl]at h1
   by_cases d:a=c
   .subst d;rw[if_pos rfl]at h2 ⊢;exact Ma h1 h2
   .rw[if_neg d]at h2 ⊢;exact h2
  .rw[if_neg e,C9]at h1
   by_cases d:b=c
   .subst d;rw[if_neg e,C9];exact h1
   .rw[if_neg d,C9]at h2;rw[if_neg (by omega),C9];omega
theorem Oe:∀ {l:List Int},mG l=0↔∀x∈l,x=0
 | []=>by simp[mG]
 | a::l=>by
  unfold mG;split
  .rename_i h;simp[h]
  .rename_i h;rw[Oe];simp_all
theorem qh{p q:Pos}:ib p q=0↔p=q:=by unfold ib;rw[Oe];cases p;cases q;simp[Mb,xx]
theorem uh(p:Pos):ib p p=0:=qh.2 rfl
theorem ui(p q:Pos):ib q p = - ib p q:=by unfold ib mG;rw[L9 p.cs,L9 p.h0,L9 p.h1,Mk p.gj,Mk p.side];simp only[mG];(repeat' split)<;>omega
theorem z6{A B C:Int}{a b c:List Int}(h1:A=0->C=B)(g:B=0->C=A)(f:A<0->B<0->C<0)(h:mG a<0->mG b<0->mG c<0):mG (A::a)<0->mG (B::b)<0->mG (C::c)<0:=by
 unfold mG;intro x y
 by_cases e:A=0
 .have:=h1 e;subst this;rw[if_neg (by simpa using e)]at x
  by_cases d:C=0
  .rw[if_neg (by simpa using d)]at y ⊢;exact h x y
  .rw[if_pos d]at y ⊢;exact y
 .rw[if_pos e]at x
  by_cases d:B=0
  .have:=g d;subst this;rw[if_pos e];exact x
  .rw[if_pos d]at y;have:=f x y;rw[if_pos (by omega)];exact this
theorem yi{p q r:Pos}:ib p q<0->ib q r<0->ib p r<0:=by
 have key:∀a b c:List Int,kh a b=0->kh a c=kh b c:=λa b c h=>by rw[Mb.1 h]
 have d:∀a b c:List Int,kh b c=0->kh a c=kh a b:=λa b c h=>by rw[Mb.1 h]
 have n1:∀a b c:Int,kn a b=0->kn a c=kn b c:=λa b c h=>by rw[xx.1 h]
 have n2:∀a b c:Int,kn b c=0->kn a c=kn a b:=λa b c h=>by rw[xx.1 h]
 have e:∀a b c:Int,kn a b<0->kn b c<0->kn a c<0:=λa b c=>by simp only[C9];omega
 unfold ib;refine z6 (key _ _ _) (d _ _ _) Ma (z6 (key _ _ _) (d _ _ _) Ma (z6 (key _ _ _) (d _ _ _) Ma (z6 (n1 _ _ _) (n2 _ _ _) (e _ _ _) (z6 (n1 _ _ _) (n2 _ _ _) (e _ _ _) λh=>?_))));simp[mG]at h
theorem WE{a b:List Int}:∀ {i:Nat},a.take i=b.take i->i<=a.length->i<=b.length->kh a b=kh (a.drop i) (b.drop i):=by
 intro i
 induction i generalizing a b with
 | zero=>intro _ _ _;rfl
 | succ i d=>
  intro h h1 c
  cases a with
  | nil=>simp at h1
  | cons x a=>
   cases b with
   | nil=>simp at c
   | cons y b=>
    simp only[List.take_succ_cons,cZ]at h;simp only[aG]at h1 c;simp only[List.drop_succ_cons,kh,h.1,if_true];exact d h.2 (by omega) (by omega)
theorem Qg{a b:List Int}(h:a.length=0\/b.length=0):kh a b=kn a.length b.length:=by
 cases a<;>cases b<;>simp_all [kh,kn]
 all_goals omega
theorem Th{p q r:Pos}(h1:ib p q<=0)(c:ib q r<=0):ib p r<=0:=by
 by_cases a:ib p q=0
 .rw[qh.1 a];exact c
 .by_cases b:ib q r=0
  .rw[<-qh.1 b];exact h1
  .exact Int.le_of_lt (yi (show ib p q<0 by omega) (show ib q r<0 by omega))
def WS(l:List Pos):Prop:=l.Pairwise λx y=>ib x y<=0
def Small(p:Pos):Prop:=p.cs.length<2 ^ 40/\p.h0.length<2 ^ 40/\p.h1.length<2 ^ 40
def kr(l:List Pos):Prop:=∀i:Int,1<=i->i<l.length->ib (gt l (i-1)) (gt l i)<0
theorem kr.lt{l:List Pos}(h:kr l){i:Int}(h0:0<=i):∀ {n:Nat},i<n->(n:Int)<l.length->ib (gt l i) (gt l n)<0
 | 0,h1,_=>by omega
 | n+1,h1,h2=>by
  have:=h (n+1) (by omega) (by omega);rw[dA]at this
  by_cases e:i=n
  .subst e;exact this
  .exact yi (h.lt h0 (by omega) (by omega)) this
theorem kr.le{l:List Pos}(h:kr l){i j:Int}(h0:0<=i)(h1:i<j)(a:j<l.length):ib (gt l i) (gt l j)<0:=by have:=h.lt h0 (n:=j.toNat) (by omega) (by omega);rwa [bV (by omega)]at this
theorem kr.inj{l:List Pos}(h:kr l){i j:Int}(h0:0<=i)(h1:i<l.length)(d:0<=j)(c:j<l.length)(e:gt l i=gt l j):i=j:=by
 by_cases a:i<j
 .have:=h.le h0 a c;rw[e,uh]at this;omega
 .by_cases b:j<i
  .have:=h.le d b h1;rw[e,uh]at this;omega
  .omega
def oW(l:List Pos)(p:Pos):Int:=if p∈l then(l.idxOf p:Int)else -1
theorem Uk{l:List Pos}{p:Pos}(h:p ∉ l):oW l p = -1:=if_neg h
theorem EM{l:List Pos}{p:Pos}(h:p∈l):0<=oW l p/\oW l p<l.length/\gt l (oW l p)=p:=by unfold oW;rw[if_pos h];have hi:l.idxOf p<l.length:=List.idxOf_lt_length_iff.2 h;refine qy ?_;rw[Lf hi];exact List.getElem_idxOf hi
theorem acB{l:List Pos}(hs:kr l){i:Int}(h0:0<=i)(h1:i<l.length):oW l (gt l i)=i:=by obtain⟨a,b,c⟩:=EM (fZ h0 h1);exact hs.inj a b h0 h1 c
end Go.AL
namespace Go.AL
open Go
def pt{α:Type}(l:List α)(n:Int)(v:α):List α:=l.take n.toNat++v::l.drop (n.toNat+1)
section
variable{α:Type}[Inhabited α]{l:List α}{n k:Int}{v:α}
theorem Gl(h0:0<=n)(h:n<l.length):pt l n v=l.set n.toNat v:=by rw[pt,cP,if_pos (by omega)]
theorem iq(h0:0<=n)(h:n<l.length):(pt l n v).length=l.length:=by rw[Gl h0 h,aF]
theorem oz(h0:0<=n)(h:n<l.length)(a:0<=k):gt (pt l n v) k=if k=n then v else gt l k:=by
 rw[Gl h0 h];unfold gt;simp only[List.getD_eq_getElem?_getD,bM]
 by_cases e:k=n
 .subst e;rw[if_pos rfl,if_pos rfl,if_pos (by omega)];rfl
 .rw[if_neg (by omega),if_neg e]
theorem Cg(h0:0<=n)(h:n<l.length):gt (pt l n v) n=v:=by rw[oz h0 h h0,if_pos rfl]
theorem UG(h0:0<=n)(h:n<l.length)(a:0<=k)(e:k≠n):gt (pt l n v) k=gt l k:=by rw[oz h0 h a,if_neg e]
theorem WU{x:α}(h:x∈pt l n v):x=v\/x∈l:=by
 unfold pt at h;simp only[List.mem_append,aw]at h;rcases h with h|h|h
 .exact .inr (aN h)
 .exact .inl h
 .exact .inr (bj h)
end
@[simp] theorem auD{α:Type}(l:List α)(n:Int)(v:α):l.take n.toNat++v::l.drop (n.toNat+1)=pt l n v:=(rfl)
def lM(g:fH)(s d c:Int):Int:=
 if s<0\/s>1\/d<0\/d>=g.next.length\/c<0\/c>=g.size then -1 else gt (gt g.next (if s=1 then gt g.iX d else d)) c
structure nM(g:fH):Prop where
 size:1<=g.size/\g.size<=9
 next:g.next.length=8
 row:∀l∈g.next,(l.length:Int)=g.size/\∀x∈l,-1<=x/\x<g.size
 iX:g.iX.length=8
 turns:∀d,0<=d->d<8->0<=gt g.iX d/\gt g.iX d<8/\gt g.iX (gt g.iX d)=d
theorem nM.to{g:fH}(h:nM g)(s d c:Int) : -1<=lM g s d c/\lM g s d c<g.size:=by
 have:=h.size;unfold lM;split
 .omega
 .rename_i e;have f:=h.next
  simp only[not_or,eN,Int.not_le,gt_iff_lt,ge_iff_le]at e
  have b:0<=(if s=1 then gt g.iX d else d)/\(if s=1 then gt g.iX d else d)<8:=by
   split
   .have:=h.turns d (by omega) (by omega);omega
   .omega
  have a:=h.row _ (fZ (l:=g.next) b.1 (by omega));exact a.2 _ (fZ (by omega) (by omega))
structure D3(g:fH)(x:fE):Prop where
 ok:((x.1=1\/x.1=2\/x.1=7)/\0<=x.2/\x.2<8)\/(3<=x.1/\x.1<=6/\x.2=0)\/(x.1=8/\0<=x.2/\x.2<g.kinds.length)\/((x.1=9\/x.1=10)/\0<=x.2/\x.2<g.gj)
def nO(l:List fE)(op:Int):Int:=(l.countP λx=>x.1=op:Nat)
structure wB(g:fH)(l:List fE):Prop where
 len:1<=l.length/\l.length<=8
 steps:∀x∈l,D3 g x
 th:nO l 6<=2
 push:nO l 7<=1
 Ka:nO l 8<=1
structure Bz(g:fH)(c:Clause):Prop where
 ok:(c.cond=1/\0<=c.kind/\c.kind<g.kinds.length/\c.n=0)\/(c.cond=2/\0<=c.kind/\c.kind<g.kinds.length/\0<=c.n/\c.n<g.size)\/(c.cond=3/\c.kind=0/\0<=c.n/\c.n<=64)
 out:1<=c.out/\c.out<=3
def kindName(n:Int):ByteArray:=if n=0 then⟨#[97]⟩else⟨#[98,101,101]⟩
structure gF(g:fH):Prop where
 jm:nM g
 kinds:1<=g.kinds.length/\g.kinds.length<=2
 names:∀k:Int,0<=k->k<g.kinds.length->(gt g.kinds k).name=kindName k
 iS:∀k∈g.kinds,k.iS.length<=4/\∀l∈k.iS,wB g l
 gj:0<=g.gj/\g.gj<=2
 clauses:g.clauses.length<=3
 clause:∀c∈g.clauses,Bz g c
 blocked:1<=g.blocked/\g.blocked<=3
 uk:1<=g.uk/\g.uk<=3
structure rh(g:fH)(l:List Int):Prop where
 len:l.length=g.kinds.length
 at_:∀k:Int,0<=k->k<l.length->0<=gt l k/\gt l k<=8/\(0<gt l k->(gt g.kinds k).keep=true)
structure gT(g:fH)(p:Pos):Prop where
 size:(p.cs.length:Int)=g.size
 h0:rh g p.h0
 h1:rh g p.h1
 gj:0<=p.gj/\p.gj<2 ^ g.gj.toNat
 side:0<=p.side/\p.side<=1
 cs:∀x∈p.cs,0<=x/\x<=2*g.kinds.length
def gi(n:Int):Int:=if 1<=n/\n<=12 then(n-1) / 2 else -1
def jD(n:Int):Int:=if 1<=n/\n<=12 then(n-1) % 2 else -1
def lj(k s:Int):Int:=1+2*k+s
def s0(g:fH)(s d c:Int):Nat->Int->List Int->List Int
 | 0,_,out=>out
 | n+1,x,out=>if 0<=x/\x≠c/\x ∉ out then s0 g s d c n (lM g s d x) (out ++ [x])else out
def kL(g:fH)(s d c:Int):List Int:=s0 g s d c 10 (lM g s d c) []
theorem WA{g:fH}(hg:nM g){s d c:Int}:∀(n:Nat) (x:Int) (out:List Int),x<g.size->(∀y∈out,0<=y/\y<g.size)->∀y∈s0 g s d c n x out,0<=y/\y<g.size
 | 0,x,out,_,h,y,hy=>h y hy
 | n+1,x,out,hx,h,y,hy=>by
  unfold s0 at hy;split at hy
  .rename_i e;refine WA hg n _ _ (hg.to _ _ _).2 (λz a=>?_) y hy;simp only[List.mem_append,List.mem_singleton]at a;rcases a with a|a
   .exact h z a
   .omega
  .exact h y hy
theorem Qe{g:fH}(hg:nM g){s d c y:Int}(h:y∈kL g s d c):0<=y/\y<g.size:=WA hg _ _ _ (hg.to _ _ _).2 (by simp) y h
theorem A8:∀(n:Nat) (l:List Int),l.Nodup->(∀y∈l,0<=y/\y<n)->l.length<=n
 | 0,[],_,_=>by simp
 | 0,a::l,_,h=>by have:=h a (by simp);omega
 | n+1,l,hn,h=>by
  by_cases e:(n:Int)∈l
  .have h1:(l.erase (n:Int)).length<=n:=A8 n _ (hn.erase _) λy b=>by have:=(hn.mem_erase_iff).1 b;have:=h y this.2;omega
   rw[eX e]at h1;omega
  .have:=A8 n l hn λy b=>by have:=h y b;have:y≠n:=λc=>e (c▸b);omega
   omega
structure fQ where
 p:Pos
 kind:Int
 cur:Int
 jq:Bool
 deriving DecidableEq,Inhabited
def fQ.cells(s:fQ):List D:=[dI s.p.cs,dI s.p.h0,dI s.p.h1,.i s.p.gj,.i s.p.side,.i s.kind,.i s.cur,.b s.jq]
structure jQ(g:fH)(s:fQ):Prop where
 p:gT g s.p
 kind:0<=s.kind/\s.kind<g.kinds.length
 cur:0<=s.cur/\s.cur<g.size
def Pos.hand(p:Pos)(s:Int):List Int:=if s=0 then p.h0 else p.h1
def Pos.mu(p:Pos)(s:Int)(l:List Int):Pos:=if s=0 then{ p with h0:=l }else{ p with h1:=l }
def pC(s:fQ):List Int->List fQ
 | []=>[]
 | c::r=>{ s with cur:=c }::if gt s.p.cs c=0 then pC s r else []
def sv(g:fH)(s:fQ):List fQ:=
 let c:=gt s.p.cs s.cur
 if jD c≠1-s.p.side then []else
  let p:={ s.p with cs:=pt s.p.cs s.cur 0 }
  if (gt g.kinds (gi c)).keep=false then [{ s with p:=p,jq:=true }]else
   let n:=gt (s.p.hand s.p.side) (gi c)+1
   if n<=8 then [{ s with p:=p.mu s.p.side (pt (s.p.hand s.p.side) (gi c) n),jq:=true }]else []
def tc(g:fH)(s:fQ)(n:Int):List fQ:=
 let to:=lM g s.p.side n s.cur
 if gt s.p.cs s.cur=0\/to<0\/gt s.p.cs to≠0 then []else
  [{ s with p:={ s.p with cs:=pt (pt s.p.cs to (gt s.p.cs s.cur)) s.cur 0 } }]
def Ao(r n:Int):Prop:=r / 2 ^ n.toNat % 2=1
instance(r n:Int):Decidable (Ao r n):=by unfold Ao;infer_instance
def dropRight(r n:Int):Int:=if Ao r n then r-2 ^ n.toNat else r
theorem Ro{b:Int}(h0:0<=b)(h:b<=4):xF .i64 1 b=2 ^ b.toNat:=by
 have:b=0\/b=1\/b=2\/b=3\/b=4:=by omega
 rcases this with rfl|rfl|rfl|rfl|rfl<;>decide
theorem W1{r:Int}(h0:0<=r)(h:r<16):∃i:Fin 16,r=(i.val:Int):=⟨⟨r.toNat,by omega⟩,by simp;omega⟩
theorem W2{r:Int}(h0:0<=r)(h:r<4):∃i:Fin 4,r=(i.val:Int):=⟨⟨r.toNat,by omega⟩,by simp;omega⟩
theorem X4:∀(i:Fin 16) (k:Fin 4),(bits .and .i64 (l4 .i64 (i.val:Int) (k.val:Int)) 1=1↔Ao (i.val:Int) (k.val:Int))/\bits .andNot .i64 (i.val:Int) (xF .i64 1 (k.val:Int))=dropRight (i.val:Int) (k.val:Int):=by decide +kernel
theorem X1{r n:Int}(h0:0<=r)(h1:r<16)(b:0<=n)(a:n<4):(bits .and .i64 (l4 .i64 r n) 1=1)=Ao r n:=by obtain⟨i,rfl⟩:=W1 h0 h1;obtain⟨k,rfl⟩:=W2 b a;exact propext (X4 i k).1
theorem X3{r n:Int}(h0:0<=r)(h1:r<16)(b:0<=n)(a:n<4):bits .andNot .i64 r (xF .i64 1 n)=dropRight r n:=by obtain⟨i,rfl⟩:=W1 h0 h1;obtain⟨k,rfl⟩:=W2 b a;exact(X4 i k).2
theorem Dc{b:Int}(h0:0<=b)(h:b<=4):(2:Int) ^ b.toNat<=16:=by
 have:b=0\/b=1\/b=2\/b=3\/b=4:=by omega
 rcases this with rfl|rfl|rfl|rfl|rfl<;>decide
def iD(g:fH)(s:fQ)(x:fE):List fQ:=
 let c:=gt s.p.cs s.cur
 if x.1=1 then(let to:=lM g s.p.side x.2 s.cur;if 0<=to then [{ s with cur:=to }]else [])
 else if x.1=2 then pC s (kL g s.p.side x.2 s.cur)
 else if x.1=3 then(if c=0 then [s]else [])
 else if x.1=4 then(if jD c=1-s.p.side then [s]else [])
 else if x.1=5 then(if jD c=s.p.side then [s]else [])
 else if x.1=6 then sv g s
 else if x.1=7 then tc g s x.2
 else if x.1=8 then [{ s with kind:=x.2 }]
 else if x.1=9 then(if Ao s.p.gj x.2 then [s]else [])
 else [{ s with p:={ s.p with gj:=dropRight s.p.gj x.2 } }]
def sq(g:fH):List fE->List fQ->List fQ
 | [],l=>l
 | x::r,l=>sq g r (l.flatMap λs=>iD g s x)
def kN(p:Pos)(cell:Int):fQ:={ p:={ p with cs:=pt p.cs cell 0 },kind:=gi (gt p.cs cell),cur:=cell,jq:=false }
structure gy where
 p:Pos
 jq:Bool
 deriving DecidableEq,Inhabited
def gy.cells(o:gy):List D:=[dI o.p.cs,dI o.p.h0,dI o.p.h1,.i o.p.gj,.i o.p.side,.b o.jq]
def nA(side:Int)(s:fQ):Option gy:=
 if gt s.p.cs s.cur=0 then some { p:={ s.p with cs:=pt s.p.cs s.cur (lj s.kind side),side:=1-side },jq:=s.jq }else none
def tM(g:fH)(p:Pos)(cell:Int)(l:List fE):List gy:=(sq g l [kN p cell]).filterMap (nA p.side)
def upto(n:Nat):List Int:=(List.range n).map λk:Nat=>(k:Int)
theorem jj{n:Nat}{k:Int}:k∈upto n↔0<=k/\k<n:=by
 simp only[upto,aq,a8];constructor
 .rintro⟨a,h,rfl⟩;omega
 .intro h;exact⟨k.toNat,by omega,by omega⟩
def pa(g:fH)(p:Pos)(c:Int):List gy:=if jD (gt p.cs c)=p.side then(gt g.kinds (gi (gt p.cs c))).iS.flatMap (tM g p c)else []
def pD(g:fH)(p:Pos):List gy:=(upto p.cs.length).flatMap (pa g p)
def jL(p:Pos)(k c:Int):Pos:={ p.mu p.side (pt (p.hand p.side) k (gt (p.hand p.side) k-1))with cs:=pt p.cs c (lj k p.side),side:=1-p.side }
def xX(g:fH)(p q:Pos):Prop:=∃k c:Int,0<=k/\k<g.kinds.length/\0<=c/\c<p.cs.length/\gt (p.hand p.side) k≠0/\gt p.cs c=0/\q=jL p k c
def rC(p:Pos)(side kind:Int):Int:=(p.cs.countP λc=>0<=gi c/\jD c=side/\(kind<0\/gi c=kind):Nat)
def kz(p:Pos)(c:Clause):Prop:=
 if c.cond=1 then rC p p.side c.kind=0 else if c.cond=2 then gt p.cs c.n=lj c.kind (1-p.side)else rC p p.side (-1)<=c.n
def qd(g:fH)(p q:Pos):Prop:=
 (∀c∈g.clauses,¬kz p c) /\
 if g.nJ=true/\(∃o∈pD g p,o.jq=true)then⟨q,true⟩∈pD g p else(∃o∈pD g p,o.p=q)\/xX g p q
theorem gT.small{g:fH}(hg:gF g){p:Pos}(h:gT g p):Small p:=by have h1:=h.size;have d:=hg.jm.size;have c:=h.h0.len;have b:=h.h1.len;have a:=hg.kinds;exact mr
theorem gT.hand{g:fH}{p:Pos}(h:gT g p)(s:Int):rh g (p.hand s):=by
 unfold Pos.hand;split
 .exact h.h0
 .exact h.h1
theorem gT.mu{g:fH}{p:Pos}(h:gT g p)(s:Int){l:List Int}(hl:rh g l):gT g (p.mu s l):=by
 unfold Pos.mu;split
 .exact{ h with h0:=hl }
 .exact{ h with h1:=hl }
theorem gT.Bp{g:fH}{p:Pos}(h:gT g p){c v:Int}(e:0<=c)(b:c<g.size)(d:0<=v/\v<=2*g.kinds.length):gT g { p with cs:=pt p.cs c v }:=
 { h with
  size:=by dsimp only;rw[iq e (by rw[h.size];exact b)];exact h.size
  cs:=λx a=>by
   rcases WU a with rfl|a
   .exact d
   .exact h.cs x a }
theorem rh.set{g:fH}{l:List Int}(h:rh g l){k v:Int}(b:0<=k)(a:k<l.length)(c:0<=v/\v<=8/\(0<v->(gt g.kinds k).keep=true)):rh g (pt l k v) where
 len:=by rw[iq b a];exact h.len
 at_ j hj CB:=by
  rw[iq b a]at CB;rw[oz b a hj];split
  .rename_i e;subst e;exact c
  .exact h.at_ j hj CB
theorem xt{n:Int}{g:fH}(h:n<=2*g.kinds.length)(a:1<=g.kinds.length):gi n<g.kinds.length:=by unfold gi;split<;>omega
theorem F4{n s:Int}(hs:0<=s)(h:jD n=s):0<=gi n/\1<=n/\n<=12/\n=lj (gi n) s:=by
 unfold jD at h;unfold gi lj;split at h<;>rename_i e
 .rw[if_pos e];omega
 .omega
theorem aaV{r n k:Int}(h:0<=r)(a:r<2 ^ k.toNat):0<=dropRight r n/\dropRight r n<2 ^ k.toNat:=by
 unfold dropRight;split
 .rename_i e;unfold Ao at e;have b:(0:Int)<2 ^ n.toNat:=Int.pow_pos (by decide)
  have:2 ^ n.toNat<=r:=by
   by_cases c:r<2 ^ n.toNat
   .rw[Int.ediv_eq_zero_of_lt h c]at e;simp at e
   .omega
  omega
 .exact⟨h,a⟩
theorem WD{s t:fQ}:∀ {l:List Int},t∈pC s l->∃c∈l,t = { s with cur:=c }
 | [],h=>by simp[pC]at h
 | c::r,h=>by
  unfold pC at h;rcases aw.1 h with h|h
  .exact⟨c,by simp,h⟩
  .split at h
   .obtain⟨c',h1,a⟩:=WD h;exact⟨c',by simp[h1],a⟩
   .cases h
theorem Bu{g:fH}(hg:gF g){s:fQ}(hs:jQ g s){x:fE}(k:D3 g x){t:fQ}(h:t∈iD g s x):jQ g t:=by
 have d:=hg.jm;have j:s.cur<s.p.cs.length:=by rw[hs.p.size];exact hs.cur.2
 have i:=hs.p.cs _ (fZ hs.cur.1 j);unfold iD at h;dsimp only at h;split at h
 .split at h
  .rename_i h0;rw[List.mem_singleton]at h;subst h;exact{ hs with cur:=⟨h0,(d.to _ _ _).2⟩ }
  .cases h
 split at h
 .obtain⟨c,h1,rfl⟩:=WD h;exact{ hs with cur:=Qe d h1 }
 iterate 3
  split at h
  .split at h
   .rw[List.mem_singleton]at h;subst h;exact hs
   .cases h
 split at h
 .unfold sv at h;dsimp only at h;split at h
  .cases h
  rename_i e;have e:=Decidable.not_not.1 e;have l:=hs.p.side;obtain⟨m1,m2,m3,m4⟩:=F4 (by omega) e;have a:gi (gt s.p.cs s.cur)<g.kinds.length:=xt i.2 hg.kinds.1;have f:gT g { s.p with cs:=pt s.p.cs s.cur 0 }:=hs.p.Bp hs.cur.1 hs.cur.2 (by omega);split at h
  .rw[List.mem_singleton]at h;subst h;exact{ hs with p:=f }
  rename_i kp;split at h
  .rename_i n;rw[List.mem_singleton]at h;subst h;have b:=hs.p.hand s.p.side;have hl:=b.len;have m:=b.at_ _ m1 (by rw[hl];exact a);exact{ hs with p:=f.mu _ (b.set m1 (by rw[hl];exact a) (qy (λ_=>by simpa using kp))) }
  .cases h
 split at h
 .unfold tc at h;dsimp only at h;split at h
  .cases h
  rename_i e;simp only[not_or,eN]at e;rw[List.mem_singleton]at h;subst h;have h1:=hs.p.Bp (c:=lM g s.p.side x.2 s.cur) (v:=gt s.p.cs s.cur) e.2.1 (d.to _ _ _).2 i;exact{ hs with p:=h1.Bp hs.cur.1 hs.cur.2 (by omega) }
 split at h
 .rename_i o;rw[List.mem_singleton]at h;subst h;have a:0<=x.2/\x.2<g.kinds.length:=by have:=k.ok;omega
  exact{ hs with kind:=a }
 split at h
 .split at h
  .rw[List.mem_singleton]at h;subst h;exact hs
  .cases h
 .rw[List.mem_singleton]at h;subst h;exact{ hs with p:={ hs.p with gj:=aaV hs.p.gj.1 hs.p.gj.2 } }
theorem MF{g:fH}(hg:gF g):∀ {l:List fE} {a:List fQ},(∀x∈l,D3 g x)->(∀s∈a,jQ g s)->∀s∈sq g l a,jQ g s
 | [],_,_,h,s,hs=>h s hs
 | x::r,a,hx,h,s,hs=>by refine MF (a:=a.flatMap λs=>iD g s x) hg (λy c=>hx y (by simp[c])) (λt b=>?_) s hs;obtain⟨u,d,b⟩:=bC.1 b;exact Bu hg (h u d) (hx x (by simp)) b
theorem Yf{g:fH}:∀ {l:List fE} {a b:List fQ},(∀s,s∈a↔s∈b)->∀s,s∈sq g l a↔s∈sq g l b
 | [],_,_,h,s=>h s
 | x::r,a,b,h,s=>Yf (l:=r) (λt=>by simp only[bC,h]) s
theorem GY{g:fH}(hg:gF g){p:Pos}(a:gT g p){c:Int}(h0:0<=c)(h1:c<g.size)(b:jD (gt p.cs c)=p.side):jQ g (kN p c):=by have d:=a.cs _ (fZ h0 (by rw[a.size];exact h1));exact{ p:=a.Bp h0 h1 (by omega),kind:=⟨(F4 a.side.1 b).1,xt d.2 hg.kinds.1⟩,cur:=⟨h0,h1⟩ }
theorem KZ{g:fH}{s:fQ}(hs:jQ g s){side:Int}(h0:0<=side)(h1:side<=1){o:gy}(h:nA side s=some o):gT g o.p:=by
 unfold nA at h;split at h
 .cases h;have:=hs.kind;exact{ hs.p.Bp hs.cur.1 hs.cur.2 (v:=lj s.kind side) (by unfold lj;omega)with side:=by dsimp only;omega }
 .cases h
theorem Mr{g:fH}(hg:gF g){p:Pos}(a:gT g p){o:gy}(h:o∈pD g p):gT g o.p:=by
 obtain⟨c,b,h⟩:=bC.1 h;rw[jj,a.size]at b;unfold pa at h;split at h
 .rename_i e;obtain⟨l,hl,h⟩:=bC.1 h;obtain⟨s,hs,h⟩:=cK.1 h;have d:=GY hg a b.1 b.2 e;have i:=hg.iS _ (fZ (l:=g.kinds) d.kind.1 d.kind.2);exact KZ (MF hg (i.2 l hl).steps (λt f=>by rw[List.mem_singleton]at f;subst f;exact d) s hs) a.side.1 a.side.2 h
 .cases h
theorem EC{g:fH}{p:Pos}(a:gT g p){q:Pos}(h:xX g p q):gT g q:=by
 obtain⟨k,c,h1,o,i,n,m,l,rfl⟩:=h;have b:=a.hand p.side;have hl:=b.len;have f:=b.at_ k h1 (by omega);have hs:=a.side;have j:=a.size;have d:=(a.mu p.side (b.set h1 (v:=gt (p.hand p.side) k-1) (by omega) (qy (λ_=>f.2.2 (by omega)))));have e:(p.mu p.side (pt (p.hand p.side) k (gt (p.hand p.side) k-1))).cs=p.cs:=by unfold Pos.mu;split<;>rfl
 have:=d.Bp (c:=c) (v:=lj k p.side) i (by omega) (by unfold lj;omega);rw[e]at this;exact{ this with side:=by dsimp only[jL];omega }
theorem QB{g:fH}(hg:gF g){p:Pos}(a:gT g p){q:Pos}(h:qd g p q):gT g q:=by
 obtain⟨_,h⟩:=h;split at h
 .exact Mr hg a h
 .rcases h with⟨o,h,rfl⟩|h
  .exact Mr hg a h
  .exact EC a h
end Go.AL
namespace Go.Proofs.YtmehofoficaelaaGreatDoor
open Go Go.AL Classical
set_option maxRecDepth 10000
theorem f95(n a b:Int):Wf T 253 [.i n,.i a,.i b] [] (Is (.b (decide (a<=n/\n<=b)))):=by refine Yg JX ?_;simp[JX];exact mE
theorem f94(a b:Int):Wf T 202 [.i a,.i b] [] (Is (.i (kn a b))):=by
 refine Yg JW ?_;simp[JW];(with_reducible repeat' first|refine Xk ?_<;>try simp|refine Xs ?_ ?_<;>intro h<;>(try intro c)<;>(try simp[h])<;>try omega|refine Xg ?_|omega)
 all_goals (simp only[kn];(repeat' split)<;>omega)
theorem f92{k s:Int}(c:0<=k)(a:k<6)(hs:0<=s)(b:s<=1):Wf T 216 [.i k,.i s] [] (Is (.i (1+2*k+s))):=by refine Yg JU ?_;simp[JU];exact mE
theorem f156{k s:Int}(b:0<=k)(c:k<6)(hs:0<=s)(a:s<=1):Wf T 206 [.i k,.i s] [] (Is (.i (1+2*k+s))):=by refine Yg IH ?_;simp[IH];refine fY.c rfl rfl (f95 _ _ _) (by simp[gh]) (by simp) ?_;simp[show k<=5 by omega,b];refine fY.c rfl rfl (f95 _ _ _) (by simp[gh]) (by simp) ?_;simp[hs,a];omega
theorem f25(l:List Int)(n:Int)(hl:l.length<2 ^ 40):Wf T 40 [dI l,.i n] [] (Is (.b (decide (n∈l)))):=by
 refine Yg Jk ?_;simp[Jk];refine fO.i (α:=Int) [0,1,5] rfl (λi=>[(0,dI l),(1,.i n),(5,.i i)]) (λ_=>[]) (λi=>0<=i/\i<=l.length/\n ∉ l.take i.toNat) (λi=>l.length-i.toNat) 0 (by simp) (by simp) rfl ?_;rintro i ⟨h0,h1,a⟩;simp;(with_reducible repeat' first|refine Xk ?_<;>try simp|refine Xs ?_ ?_<;>intro h<;>(try intro b)<;>(try simp[h])<;>try omega|refine Xg ?_|omega)
 .have:=fZ h0 ‹_›;simp_all
 .skip;rw[iO h0 ‹_›];simp_all;exactλe=>h e.symm
 .simpa[kG (by omega:(l.length:Int)<=i)]using a
theorem f93(a b:List Int)(f:a.length<2 ^ 40)(d:b.length<2 ^ 40):Wf T 201 [dI a,dI b] [] (Is (.i (kh a b))):=by
 refine Yg JV ?_;simp[JV];refine fO.j (0:Int) (λi=>[(0,dI a),(1,dI b),(5,.i i)]) (λ_=>_) (λi=>0<=i/\i<=a.length/\i<=b.length/\a.take i.toNat=b.take i.toNat) (λi=>a.length-i.toNat) ?_ (by simp) (by first|rfl|simp) rfl ?_
 .simp
 rintro i ⟨h0,h1,j,c⟩;have e:=WE c (by omega) (by omega);simp;(with_reducible repeat' first|refine Xk ?_<;>try simp|refine Xs ?_ ?_<;>intro h<;>(try intro g)<;>(try simp[h])<;>try omega|refine Xg ?_|omega)
 .skip;rw[iO h0 (by omega),iO h0 (by omega),c];simp_all
 .refine Yt (f94 _ _) ?_;simp;rw[e,nb h0 ‹_›,nb h0 ‹_›,kh,if_neg (by assumption)]
 all_goals
  refine Yc (f94 _ _) ?_;simp;rw[e,Qg (by simp only[aR];omega)];simp only[aR,kn];(repeat' split)<;>omega
theorem f50(p q:Pos)(b:Small p)(a:Small q):Wf T 137 [dP p,dP q] [] (Is (.i (ib p q))):=by
 refine Yg JC ?_;simp[JC];refine Yt (f93 _ _ b.1 a.1) ?_;simp;refine Yt (f93 _ _ b.2.1 a.2.1) ?_;simp;refine Yt (f93 _ _ b.2.2 a.2.2) ?_;simp;refine Yt (f94 _ _) ?_;simp;refine Yt (f94 _ _) ?_;simp;(refine fO.un ?_;(repeat' first|(refine kj.u ?_;simp;done)|(refine kj.u ?_;simp)|((with_reducible first|refine X2.d ?_ ?_|refine X2.a ?_ ?_|refine X2.o ?_ ?_|refine X2.b ?_ ?_)<;>intro h<;>(try simp[h]))|fail))
 all_goals simp_all [ib,mG]
theorem f51(n:Int):Wf T 203 [.i n] [] (Is (.agg [.i (gi n),.i (jD n)])):=by
 refine Yg JD ?_;simp[JD];refine Yc (f95 _ _ _) ?_;simp;(with_reducible repeat' first|refine Xk ?_<;>try simp|refine Xs ?_ ?_<;>intro h<;>(try intro a)<;>(try simp[h])<;>try omega|refine Xg ?_|omega)
 .rw[tO (by omega) (by omega) (by omega),jd (by omega)];simp[gi,jD];omega
 .simp[gi,jD];omega
theorem f84(n:Int):Wf T 163 [.i n] [] (Is (.tup [.i (gi n),.i (jD n)])):=by
 refine Yg JO ?_;simp[JO];(with_reducible repeat' first|refine Xk ?_<;>try simp|refine Xs ?_ ?_<;>intro h<;>(try intro a)<;>(try simp[h])<;>try omega|refine Xg ?_|omega)
 .simp[gi,jD];omega
 .simp[gi,jD];omega
 .rw[tO (by omega) (by omega) (by omega),jd (by omega)];simp[gi,jD];omega
theorem f251(g:fH)(hg:nM g)(s d c:Int):Wf T 295 [g.jm,.i s,.i d,.i c] [] (Is (.i (lM g s d c))):=by
 have e:=hg.next
 have b:=hg.iX;refine Yg Jm ?_;simp[Jm];(with_reducible repeat' first|refine Xk ?_<;>try simp|refine Xs ?_ ?_<;>intro h<;>(try intro f)<;>(try simp[h])<;>try omega|refine Xg ?_|omega)
 all_goals first
  | (simp only[lM];rw[if_pos (by omega)])
  | skip
 .rename_i h;have:=hg.turns d (by omega) (by omega);have a:=hg.row (gt g.next (gt g.iX d)) (fZ (by omega) (by omega));refine fD ?_;simp only[lM];rw[if_neg (by omega)];simp
 .rename_i h;have a:=hg.row (gt g.next d) (fZ (by omega) (by omega));refine fD ?_;simp only[lM];rw[if_neg (by omega)];simp[h]
theorem f240(g:fH)(hg:nM g)(s d c:Int):Wf T 322 [g.jm,.i s,.i d,.i c] [] (Is (.i (lM g s d c))):=by
 have e:=hg.next
 have b:=hg.iX;refine Yg Jg ?_;simp[Jg];(with_reducible repeat' first|refine Xk ?_<;>try simp|refine Xs ?_ ?_<;>intro h<;>(try intro f)<;>(try simp[h])<;>try omega|refine Xg ?_|omega)
 all_goals first
  | (simp only[lM];rw[if_pos (by omega)])
  | skip
 .rename_i h;have:=hg.turns d (by omega) (by omega);have a:=hg.row (gt g.next (gt g.iX d)) (fZ (by omega) (by omega));refine fD ?_;simp only[lM];rw[if_neg (by omega)];simp
 .rename_i h;have a:=hg.row (gt g.next d) (fZ (by omega) (by omega));refine fD ?_;simp only[lM];rw[if_neg (by omega)];simp[h]
theorem f110(p q:Pos)(b:Small p)(a:Small q):Wf T 162 [dP p,dP q] [] (Is (.b (decide (p=q)))):=by refine Yg HB ?_;simp[HB];refine Yc (f50 p q b a) ?_;simp;rw[qh]
set_option maxHeartbeats 1000000
theorem f64(l:List Pos)(hl:l.length<2 ^ 40)(hs:∀p∈l,Small p):Wf T 83 [gJ l] [] (Is (.b (decide (kr l)))):=by
 refine Yg JI ?_;simp[JI];refine fO.j (1:Int) (λi=>[(0,gJ l),(3,.i i)]) (λ_=>_) (λi=>1<=i/\(i<=l.length\/i=1)/\∀k:Int,1<=k->k<i->ib (gt l (k-1)) (gt l k)<0) (λi=>l.length-i.toNat) ?_ (by simp) (by first|rfl|simp) rfl ?_
 .simp;omega
 rintro i ⟨h0,h1,c⟩;simp;refine jF ?_ ?_<;>intro h
 .skip;refine Yt (f50 (gt l (i-1)) (gt l i) (hs _ (fZ (by omega) (by omega))) (hs _ (fZ (by omega) (by omega)))) ?_;simp;refine jF ?_ ?_<;>intro h
  .intro b;have:=b i h0 ‹_›;omega
  .grind
 .intro k a d;exact c k a (by omega)
theorem f27(l:List Pos)(p:Pos)(hl:l.length<2 ^ 40)(hs:∀p∈l,Small p)(m:Small p)(g:kr l):Wf T 86 [gJ l,dP p] [] (Is (.i (oW l p))):=by
 refine Yg Ju ?_;simp[Ju];refine fO.j ((0,(l.length:Int)):Int×Int) (λx=>[(0,gJ l),(3,.ptr 0 0 0),(5,.i x.1),(6,.i x.2)]) (λ_=>[.row 46 0 p.cells]) (λx=>0<=x.1/\x.1<=x.2/\x.2<=l.length/\∀k:Int,0<=k->k<l.length->gt l k=p->x.1<=k/\k<x.2) (λx=>(x.2-x.1).toNat) ?_ (by simp) rfl rfl ?_
 .simp;omega
 rintro⟨a,b⟩ ⟨h0,h1,q,f⟩;simp at h0 h1 q f;simp;refine jF ?_ ?_<;>intro h
 .rw[tO (by omega) (by omega) (by omega)];refine fD ?_;refine Yt (f50 p (gt l ((a+b) / 2)) m (hs _ (fZ (by omega) (by omega)))) ?_;simp;(with_reducible repeat' first|refine Xk ?_<;>try simp|refine Xs ?_ ?_<;>intro h<;>(try intro s)<;>(try simp[h])<;>try omega|refine Xg ?_|omega)
  .rw[qh]at h;rw[h,acB g (by omega) (by omega)]
  .have r:∀k:Int,(a+b) / 2<=k->k<l.length->gt l k≠p:=λk d c e=>by
    by_cases j:k=(a+b) / 2
    .subst j;rw[e,uh]at h;omega
    .have:=yi h (g.le (by omega) (show(a+b) / 2<k by omega) c);rw[e,uh]at this;omega
   intro k d c e;have:=f k d c e
   by_cases i:(a+b) / 2<=k
   .grind
   .omega
  .have o:ib (gt l ((a+b) / 2)) p<0:=by rw[ui];omega
   have r:∀k:Int,0<=k->k<=(a+b) / 2->gt l k≠p:=λk d c e=>by
    by_cases j:k=(a+b) / 2
    .grind
    .have:=yi (g.le d (show k<(a+b) / 2 by omega) (by omega)) o;rw[e,uh]at this;omega
   intro k d c e;have:=f k d c e
   by_cases i:k<=(a+b) / 2
   .grind
   .omega
 .rw[Uk];intro n;obtain⟨k,d,c,e⟩:=xw.1 n;have:=f k d c e;omega
theorem f111(g:fH)(l:List Int)(hg:gF g)(hl:rh g l):Wf T 138 [dG g,dI l] [] (Is (.b true)):=by
 have d:=hg.kinds;have c:=hl.len;refine Yg HC ?_;simp[HC];(with_reducible repeat' first|refine Xk ?_<;>try simp|refine Xs ?_ ?_<;>intro h<;>(try intro a)<;>(try simp[h])<;>try omega|refine Xg ?_|omega);refine fO.j (0:Int) (λi=>[(1,dI l),(2,.ptr 0 0 0),(5,.i i)]) (λi=>[.row 43 0 g.cells]) (λi=>0<=i/\i<=l.length) (λi=>l.length-i.toNat) ?_ (by simp) (by first|rfl|simp) rfl ?_
 .simp
 rintro i ⟨h0,h1⟩;simp;(with_reducible refine Xs ?_ ?_<;>intro h<;>(try intro a)<;>(try simp[h])<;>(try omega))
 .have b:=hl.at_ i h0 ‹_›;(with_reducible repeat' first|refine Xk ?_<;>try simp|refine Xs ?_ ?_<;>intro h<;>(try intro a)<;>(try simp[h])<;>try omega|refine Xg ?_|omega);have:=b.2.2
  all_goals simp_all
  all_goals omega
theorem f65(g:fH)(p:Pos)(hg:gF g)(a:gT g p):Wf T 84 [dG g,dP p] [] (Is (.b true)):=by
 have e:=hg.kinds;have c:=hg.gj;have h1:=a.size;have l:=a.gj;have k:=a.side;have f:=hg.jm.size;have b:=Ro c.1 (by omega);refine Yg JJ ?_;simp[JJ,h1];refine Yt (f111 g _ hg a.h0) ?_;simp[h1];refine Yt (f111 g _ hg a.h1) ?_;simp[h1];(with_reducible repeat' first|refine Xk ?_<;>try simp[b]|refine Xs ?_ ?_<;>intro h<;>(try intro d)<;>(try simp[h,b])<;>try omega|refine Xg ?_|omega);refine fO.j (0:Int) (λi=>[(2,.ptr 0 0 0),(3,.ptr 1 0 0),(5,.i i)]) (λi=>[.row 43 0 g.cells,.row 46 0 p.cells]) (λi=>0<=i/\i<=p.cs.length) (λi=>p.cs.length-i.toNat) ?_ (by simp) (by first|rfl|simp) rfl ?_
 .simp
 rintro i ⟨h0,j⟩;simp;(with_reducible refine Xs ?_ ?_<;>intro h<;>(try intro d)<;>(try simp[h])<;>(try omega));have b:=a.cs _ (fZ h0 ‹_›);exact mE
end Go.Proofs.YtmehofoficaelaaGreatDoor
namespace Go.AL
open Go
def Ex{α:Type}(g:α->D)(Q:α->Prop):D->U->Prop:=λd H=>∃r,d=g r/\H = []/\Q r
@[simp] theorem alS{α:Type}(g:α->D)(Q:α->Prop)(d:D)(H:U):Ex g Q d H = ∃r,d=g r/\H = []/\Q r:=(rfl)
section
variable{T:ia}{f:FuncId}{args nN:List D}{dst:Option Nat}{s:St}{K:St->Prop}{fn:iP}
theorem fY.q{α:Type}{g:α->D}{Q:α->Prop}(i:T.fn f=some fn)(e:fn.full=false)(h:Wf T f args [] (Ex g Q))
  (a:gh args=true) (b:∀r,closed (g r)=true) (k:∀r,Q r->K { s with env:=put s.env dst (g r) }):fY T f args dst s K .mk:=by
 refine fY.is i e (K0:=Ex g Q) ?_ ?_
 .have l:args.map (fL (λ_=>none) s.H 40)=args:=by
   conv=>rhs;rw[<-aT args]
   exact ak λd j=>pF (lS a d j)
  rw[l];exact h
 .rintro d Hn ⟨r,rfl,rfl,c⟩;obtain⟨k1,k2⟩:=En (H:=s.H) (b r);refine⟨{ s with env:=put s.env dst (g r) },?_,k r c⟩;unfold after;rw[if_pos a,k1,k2];simp
theorem ai9{d:D}(a:flat d=true)(_:closed d=true):n5 d=true:=(Of (H:=[]) a).1
theorem fY.rq{α:Type}{g:α->D}{Q:α->Prop}(i:T.fn f=some fn)(e:fn.full=false)(h:Wf T f nN [] (Ex g Q))
  (hs:args.map (fL (λ_=>none) s.H 40)=nN) (b:∀r,flat (g r)=true) (a:∀r,closed (g r)=true) (k:∀r,Q r->K { s with env:=put s.env dst (g r) }):fY T f args dst s K .mk:=by
 refine fY.is i e (K0:=Ex g Q) (by rw[hs];exact h) ?_;rintro d Hn ⟨r,rfl,rfl,c⟩;obtain⟨k1,k2⟩:=En (H:=s.H) (a r);refine⟨{ s with env:=put s.env dst (g r) },?_,k r c⟩;unfold after;rw[ai9 (b r) (a r),k1,k2];simp
end
section
variable{T:ia}{f:FuncId}{args:List D}{dst:Option Nat}{s:St}{K:St->Prop}{fn:iP}
theorem fY.n{d:D}{Hn:U}(e:T.fn f=some fn)(c:fn.full=false)(h:Wf T f args [] λd' H'=>d'=d/\H'=Hn)
  (a:gh args=true) (b:(mq d&&Hn.all nz)=true) (k:K { s with env:=put s.env dst (j' s.H.length d),H:=s.H++Hn }):fY T f args dst s K .mk:=by
 refine fY.is e c (K0:=λd' H'=>d'=d/\H'=Hn) ?_ ?_
 .have i:args.map (fL (λ_=>none) s.H 40)=args:=by
   conv=>rhs;rw[<-aT args]
   exact ak λd g=>pF (lS a d g)
  rw[i];exact h
 .rintro d' j ⟨rfl,rfl⟩;refine⟨_,?_,k⟩;unfold after;rw[if_pos a,if_pos b]
theorem vt.n{R:List Fp}{Q:Rc->St->Prop}{d:D}{ob:Ob}(e:T.fn f=some fn)(c:fn.full=false)(h:Wf T f args [] λd' H'=>d'=d/\H' = [ob])
  (a:gh args=true) (b:(mq d&&nz ob)=true) (k:Q ⟨R,[(s.H.length,none)]⟩ { s with env:=put s.env dst (j' s.H.length d),H:=s.H ++ [ob] }):pK T f args R dst s Q .mk:=by
 have i:args.map (fL (λ_=>none) s.H 40)=args:=by
  conv=>rhs;rw[<-aT args]
  exact ak λd g=>pF (lS a d g)
 exact .inl (.inr ⟨fn,d,ob,e,c,by rw[i];exact h,by rw[if_pos a];exact b,k⟩)
theorem vt.c{R:List Fp}{Q:Rc->St->Prop}{x:D}(c:T.fn f=some fn)(b:fn.full=false)(h:Wf T f args [] λd H'=>d=x/\H' = [])
  (e:gh args=true) (a:closed x=true) (k:Q ⟨R,[]⟩ { s with env:=put s.env dst x }):pK T f args R dst s Q .mk:=.inl (.inl (iF.c c b h e a k))
theorem pK.z{nN:List D}{R:List Fp}{Q:Rc->St->Prop}{d:D}(v:Nat)(e:T.fn f=some fn)(c:fn.full=false)(h:Wf T f nN [] (Is d))(hs:args.map (fL (λ_=>none) s.H 40)=nN)
  (a:(args.map (gZ s.H 40)).flatten = [v]) (i:(rowsOf s.H v).isSome=true) (g:gh nN=true) (b:closed d=true) (k:Q ⟨R,[(v,none)]⟩ { s with env:=put s.env dst d,H:=s.H.set v .dead }):pK T f args R dst s Q .mk:=
 .inr ⟨fn,d,v,e,c,by rw[a];simp,by rw[a];simp,i,by rw[hs];exact g,by rw[hs];exact h,b,k⟩
@[simp] theorem at5(ds:List D):mq (.agg ds)=ds.all (xA closed):=rfl
@[simp] theorem at7(ds:List D):mq (.tup ds)=ds.all (xA closed):=rfl
@[simp] theorem at6(v g sz off n:Nat):mq (.fy v g sz off n)=true:=rfl
@[simp] theorem atU(p:D->Bool)(v g sz off n:Nat):xA p (.fy v g sz off n)=true:=rfl
@[simp] theorem atT(l:List Int):xA closed (dI l)=true:=by show closed (dI l)=true;simp
@[simp] theorem atV(v:Value):xA closed (.val v)=true:=by show closed (.val v)=true;simp
@[simp] theorem apN(t g:Nat)(cs:List D):nz (.row t g cs)=gh cs:=rfl
@[simp] theorem asD(n:Nat)(ds:List D):j' n (.agg ds) = .agg (ds.map (xp n)):=rfl
@[simp] theorem asF(n:Nat)(ds:List D):j' n (.tup ds) = .tup (ds.map (xp n)):=rfl
@[simp] theorem asE(n v g sz off k:Nat):j' n (.fy v g sz off k) = .fy (v+n) g sz off k:=rfl
@[simp] theorem asH(n v g sz off k:Nat):xp n (.fy v g sz off k) = .fy (v+n) g sz off k:=rfl
@[simp] theorem asG(n:Nat)(l:List Int):xp n (dI l)=dI l:=by unfold dI;rfl
@[simp] theorem asI(n:Nat)(v:Value):xp n (.val v) = .val v:=rfl
end
instance:Fl fQ.cells 8:=⟨λ_=>rfl,λs=>by simp[fQ.cells,gh]⟩
instance:Fl gy.cells 6:=⟨λ_=>rfl,λs=>by simp[gy.cells,gh]⟩
@[simp] theorem apE(l:List fQ)(a b c:List Int)(r q k u:Int)(t:Bool):cl fQ.cells l ++ [dI a,dI b,dI c,.i r,.i q,.i k,.i u,.b t]=cl fQ.cells (l ++ [⟨⟨a,b,c,r,q⟩,k,u,t⟩]):=by rw[<-ph];rfl
@[simp] theorem apA(l:List gy)(a b c:List Int)(r q:Int)(t:Bool):cl gy.cells l ++ [dI a,dI b,dI c,.i r,.i q,.b t]=cl gy.cells (l ++ [⟨⟨a,b,c,r,q⟩,t⟩]):=by rw[<-ph];rfl
@[simp] theorem awd(s:fQ):fQ.mk s.p s.kind s.cur s.jq=s:=rfl
@[simp] theorem aup(s:gy):gy.mk s.p s.jq=s:=rfl
attribute [simp] fQ.cells gy.cells
theorem Yq{T:ia}{f:FuncId}{args:List D}{dst:Option Nat}{s:St}{K:St->Prop}{fn:iP}{α:Type}{g:α->D}{Q:α->Prop}(h:Wf T f args [] (Ex g Q))(k:∀r,Q r->K { s with env:=put s.env dst (g r) })
  (c:T.fn f=some fn:=by exact rfl) (b:fn.full=false:=by exact rfl) (d:gh args=true:=by simp) (a:∀r,closed (g r)=true:=by intro;simp):fY T f args dst s K .mk:=fY.q c b h d a k
theorem Yn{T:ia}{f:FuncId}{args:List D}{dst:Option Nat}{s:St}{K:St->Prop}{fn:iP}{d:D}{Hn:U}(h:Wf T f args [] λd' H'=>d'=d/\H'=Hn)(k:K { s with env:=put s.env dst (j' s.H.length d),H:=s.H++Hn })
  (c:T.fn f=some fn:=by exact rfl) (b:fn.full=false:=by exact rfl) (e:gh args=true:=by simp) (a:(mq d&&Hn.all nz)=true:=by simp):fY T f args dst s K .mk:=fY.n c b h e a k
end Go.AL
namespace Go.AL
open Go
def jX(l:List fQ):D:=.sl 8 (l.map fQ.cells)
def na(l:List gy):D:=.sl 6 (l.map gy.cells)
@[simp] theorem avS(l:List fQ):D.sl 8 (l.map fQ.cells)=jX l:=by unfold jX;rfl
@[simp] theorem avP(l:List gy):D.sl 6 (l.map gy.cells)=na l:=by unfold na;rfl
section
variable{l:List fQ}{n:Int}{k:IntKind}{P:D->Prop}{H:U}
@[simp] theorem ap1:closed (jX l)=true:=by unfold jX;exact yh l
@[simp] theorem asx:mM .slice (jX l) H=some (.i l.length):=by simp only[jX,Wz,List.length_map]
@[simp] theorem aws(n:Nat):iT n (jX l) = []:=by unfold jX;rfl
@[simp] theorem apg:cellsOf (jX l)=some [jX l]:=by unfold jX;rfl
@[simp] theorem aty:oA (ma 8 (jX l) (.val (.int k n))) P .mk=((0<=n/\n<l.length)/\P (.fV (gt l n).cells)):=by unfold jX;exact xy
end
section
variable{l:List gy}{n:Int}{k:IntKind}{P:D->Prop}{H:U}
@[simp] theorem apY:closed (na l)=true:=by unfold na;exact yh l
@[simp] theorem asu:mM .slice (na l) H=some (.i l.length):=by simp only[na,Wz,List.length_map]
@[simp] theorem av4:ko 6 H (na l)=some (cl gy.cells l,l.length):=by unfold na;exact Dr ..
@[simp] theorem awo(n:Nat):iT n (na l) = []:=by unfold na;rfl
@[simp] theorem atv:oA (ma 6 (na l) (.val (.int k n))) P .mk=((0<=n/\n<l.length)/\P (.fV (gt l n).cells)):=by unfold na;exact xy
end
@[simp] theorem avN:D.sl 8 []=jX []:=by unfold jX;rfl
@[simp] theorem avM:D.sl 6 []=na []:=by unfold na;rfl
@[simp] theorem aqS{ρ:Nat->Option Nat}{H:U}{k:Nat}{t:TypeId}{a b c:List Int}{r q w u:Int}{o:Bool}:ml ρ H (k+1) 8 0 1 (some (t,[dI a,dI b,dI c,.i r,.i q,.i w,.i u,.b o]))=jX [⟨⟨a,b,c,r,q⟩,w,u,o⟩]:=by have h:=uq (f:=fQ.cells) (ρ:=ρ) (H:=H) (k:=k) (t:=t) (l:=[⟨⟨a,b,c,r,q⟩,w,u,o⟩]) (n:=1) rfl;rw[mY]at h;unfold jX;exact h
def wQ(S:List Nat):Nat->U->mP
 | _,[]=>[]
 | i,_::r=>(i,!S.contains i)::wQ S (i+1) r
@[simp] theorem aqC(S:List Nat)(i:Nat):wQ S i [] = []:=rfl
@[simp] theorem aqB(S:List Nat)(i:Nat)(o:Ob)(r:U):wQ S i (o::r)=(i,!decide (i∈S))::wQ S (i+1) r:=by rw[wQ,List.contains_eq_mem]
theorem acJ(H:U)(S:List Nat):l6 H S=wQ S 0 H:=by
 have key:∀(H:U) (i:Nat),(List.range' i H.length).map (λv=>(v,!(S.contains v)))=wQ S i H:=by
  intro H
  induction H with
  | nil=>intro i;rfl
  | cons o r a=>intro i;rw[aG,cG,List.map_cons,a,wQ]
 rw[l6,dj,key]
def Oj(env:Env)(H:U)(m:List Nat)(r:Bool)(ks:mP):St:={ env:=env.map λp=>(p.1,fL (il ks) H 40 p.2),H:=ks.map λp=>if p.2 then tS (il ks) H H[p.1]? else .dead,marks:=m,ik:=r }
@[simp] theorem aqM(S:List Nat)(env:Env)(H:U)(m:List Nat)(r:Bool):lH S { env:=env,H:=H,marks:=m,ik:=r }=Oj env H m r (wQ S 0 H):=by unfold lH Oj;rw[acJ];rfl
@[simp] theorem aqI(env:Env)(H:U)(m:List Nat)(r:Bool)(ks:mP):Oj env H m r ks = { env:=env.map λp=>(p.1,fL (il ks) H 40 p.2),H:=ks.map λp=>if p.2 then tS (il ks) H H[p.1]? else .dead,marks:=m,ik:=r }:=rfl
section
variable{T:ia}
def Ol(S:List Nat)(T:ia)(b:IR)(K:iE):iE:=λo=>match o with
 | .norm s=>s.marks = []/\XC T b (lH S s) K
 | o=>K o
@[simp ↓] theorem aqK{S:List Nat}{b:IR}{K:iE}{s:St}:Ol S T b K (.norm s)=(s.marks = []/\XC T b (lH S s) K):=(rfl)
@[simp ↓] theorem aqJ{S:List Nat}{b:IR}{K:iE}{id:Nat}{s:St}:Ol S T b K (.exit id s)=K (.exit id s):=(rfl)
@[simp ↓] theorem aqL{S:List Nat}{b:IR}{K:iE}{s:St}:Ol S T b K (.ret s)=K (.ret s):=(rfl)
theorem fO.fz{live:List Nat}{a:IR}{s:St}{K:iE}(S:List Nat)(b:s.marks = [])(h:fO T live a (lH S s) K .mk):fO T live a s K .mk:=Wc.lH S (by rw[b];exact aeT _) h
end
theorem WB{g:fH}{s d c:Int}:∀(n:Nat) (x:Int) (out:List Int),(s0 g s d c n x out).length<=out.length+n
 | 0,x,out=>by simp[s0]
 | n+1,x,out=>by
  unfold s0;split
  .have:=WB (g:=g) (s:=s) (d:=d) (c:=c) n (lM g s d x) (out ++ [x]);simp at this;omega
  .omega
theorem Qf{g:fH}{s d c:Int}:(kL g s d c).length<=10:=by have:=WB (g:=g) (s:=s) (d:=d) (c:=c) 10 (lM g s d c) [];simpa[kL]using this
theorem WC{s:fQ}:∀l:List Int,(pC s l).length<=l.length
 | []=>by simp[pC]
 | c::r=>by have:=WC (s:=s) r;unfold pC;split<;>simp<;>omega
theorem Du{g:fH}{s:fQ}{x:fE}:(iD g s x).length<=10:=by
 have:=WC (s:=s) (kL g s.p.side x.2 s.cur);have:=Qf (g:=g) (s:=s.p.side) (d:=x.2) (c:=s.cur);unfold iD sv tc;dsimp only
 repeat' split
 all_goals first|omega|(simp only[aG,cM];omega)
end Go.AL
namespace Go.Proofs.YtmehofoficaelaaGreatDoor
open Go Go.AL Classical
set_option maxRecDepth 10000
set_option maxHeartbeats 1000000
structure qe(a b:List Pos)(i k:Int)(out:List Pos):Prop where
 i0:0<=i/\i<=a.length
 k0:0<=k/\k<=b.length
 len:(out.length:Int)=i+k
 perm:out.Perm (a.take i.toNat++b.take k.toNat)
 ws:WS out
 le:∀x∈out,∀y,y∈a.drop i.toNat\/y∈b.drop k.toNat->ib x y<=0
theorem qe.init(a b:List Pos):qe a b 0 0 []:=⟨by omega,by omega,rfl,by simp,by simp[WS],by simp⟩
theorem YZ{a:List Pos}(h:WS a){i:Int}(h0:0<=i)(h1:i<a.length){y:Pos}(b:y∈a.drop i.toNat):ib (gt a i) y<=0:=by
 have c:WS (a.drop i.toNat):=fm (List.drop_sublist _ _) h;rw[nb h0 h1]at b c;rcases aw.1 b with rfl|b
 .rw[uh];omega
 .exact(bf.1 c).1 y b
theorem ae1{α:Type}[Inhabited α]{a:List α}{i:Int}(h0:0<=i)(h1:i<a.length){y:α}:y∈a.drop i.toNat↔y=gt a i\/y∈a.drop (i+1).toNat:=by rw[nb h0 h1,aw,show(i+1).toNat=i.toNat+1 by omega]
theorem qe.add{a b:List Pos}{i k:Int}{out:List Pos}(f:qe a b i k out)(hi:i<a.length)(g:WS a)(h:∀y∈b.drop k.toNat,ib (gt a i) y<=0):qe a b (i+1) k (out ++ [gt a i]):=by
 have h0:=f.i0;have e:∀y,y∈a.drop i.toNat↔y=gt a i\/y∈a.drop (i+1).toNat:=λy=>ae1 h0.1 hi;refine⟨by omega,f.k0,by have:=f.len;simp;omega,?_,?_,λx d y c=>?_⟩
 .rw[iO h0.1 hi,aI];refine(f.perm.append_right _).trans ?_;rw[aI];exact List.Perm.append_left _ fo
 .refine bI.2 ⟨f.ws,by simp,λx d y c=>?_⟩;simp at c;subst c;exact f.le x d _ (.inl ((e _).2 (.inl rfl)))
 .rcases List.mem_append.1 d with d|d
  .exact f.le x d y (c.imp (λh=>(e _).2 (.inr h)) id)
  .simp at d;subst d;rcases c with c|c
   .exact YZ g h0.1 hi ((e _).2 (.inr c))
   .exact h y c
theorem qe.swap{a b:List Pos}{i k:Int}{out:List Pos}(c:qe a b i k out):qe b a k i out:=
 ⟨c.k0,c.i0,by have:=c.len;omega,c.perm.trans fo,c.ws,λx e y d=>c.le x e y d.symm⟩
theorem qe.Ry{a b:List Pos}{i k:Int}{out:List Pos}(d:qe a b i k out)(hi:i<a.length)(g:WS a)(f:WS b)(h:k<b.length->ib (gt a i) (gt b k)<=0):qe a b (i+1) k (out ++ [gt a i]):=by
 refine d.add hi g λy c=>?_
 by_cases e:k<b.length
 .exact Th (h e) (YZ f d.k0.1 e c)
 .rw[bp (by have:=d.k0;omega)]at c;cases c
theorem qe.YA{a b:List Pos}{i k:Int}{out:List Pos}(f:qe a b i k out)(c:k<b.length)(e:WS a)(d:WS b)(h:i<a.length->¬ib (gt a i) (gt b k)<=0):qe a b i (k+1) (out ++ [gt b k]):=by refine(f.swap.Ry c d e λhi=>?_).swap;have:=h hi;rw[ui];omega
theorem f109:∀(n:Nat) (l:List Pos),l.length=n->l.length<2 ^ 40->(∀p∈l,Small p)->Wf T 161 [gJ l] [] (Ex gJ λr=>r.Perm l/\WS r):=by
 intro n
 induction n using Nat.strongRecOn with
 | ind n g=>
 intro l w hl hs;refine Yg Hz ?_;simp[Hz];(with_reducible refine Xs ?_ ?_<;>intro h<;>(try intro j)<;>(try simp[h])<;>(try omega))
 .refine⟨l,rfl,List.Perm.refl _,?_⟩;unfold WS
  cases l with
  | nil=>simp
  | cons a l=>cases l with
   | nil=>simp
   | cons b l=>simp at h;omega
 .rw[tO (by omega) (by omega) (by omega)];refine fD ?_;refine Yq (g (l.length / 2) (by omega) _ (by simp;omega) (by simp;omega) (λp d=>hs p (aN d))) λa f=>?_;simp;rw[tO (by omega) (by omega) (by omega)];refine fD ?_;refine Yq (g (l.length-l.length / 2) (by omega) _ (by simp;omega) (by simp;omega) (λp d=>hs p (bj (aN d)))) λb e=>?_;simp;have v:(a.length:Int)=l.length / 2:=by rw[f.1.length_eq];simp;omega
  have u:(b.length:Int)=l.length-l.length / 2:=by rw[e.1.length_eq];simp;omega
  have q:∀p∈a,Small p:=λp d=>hs p (aN ((f.1.mem_iff).1 d));have o:∀p∈b,Small p:=λp d=>hs p (bj (aN ((e.1.mem_iff).1 d)));refine fO.j ((0,0,[]):Int×Int×List Pos) (λx=>[(3,gJ a),(4,gJ b),(5,.fy 0 x.2.2.length 5 0 x.2.2.length),(6,.i x.1),(7,.i x.2.1)]) (λx=>[.row 46 x.2.2.length (cl Pos.cells x.2.2)]) (λx=>qe a b x.1 x.2.1 x.2.2) (λx=>a.length+b.length-(x.1+x.2.1).toNat) ?_ (by simp) (by first|rfl|simp) rfl ?_
  .exact qe.init a b
  rintro⟨i,k,out⟩ c;have h0:=c.i0;have h1:=c.k0;have s:=c.len;dsimp only at c h0 h1 s ⊢;simp;(with_reducible repeat' first|refine Xk ?_<;>try simp|refine Xs ?_ ?_<;>intro h<;>(try intro j)<;>(try simp[h])<;>try omega|refine Xg ?_|omega)
  .exact⟨i+1,k,_,by simp,rfl,rfl,by simp,rfl,by omega,c.Ry (by assumption) f.2 e.2 λh=>by omega⟩
  .refine Yt (f50 _ _ (q _ (fZ (by omega) (by omega))) (o _ (fZ (by omega) (by omega)))) ?_;simp[*];(with_reducible repeat' first|refine Xk ?_<;>try simp|refine Xs ?_ ?_<;>intro h<;>(try intro j)<;>(try simp[h])<;>try omega|refine Xg ?_|omega)
   .exact⟨i+1,k,_,by simp,rfl,rfl,by simp,rfl,by omega,c.Ry (by assumption) f.2 e.2 λ_=>by assumption⟩
   .exact⟨i,k+1,_,by simp,rfl,rfl,by simp,rfl,by omega,c.YA (by omega) f.2 e.2 λ_=>by assumption⟩
  .exact⟨i,k+1,_,by simp,rfl,rfl,by simp,rfl,by omega,c.YA (by omega) f.2 e.2 λ_=>by omega⟩
  .refine⟨out,rfl,?_,c.ws⟩;have m:=c.perm;rw[kG (by omega),kG (by omega)]at m;refine m.trans ((List.Perm.append f.1 e.1).trans ?_);have t:(l.drop (↑l.length / 2:Int).toNat).take (l.length-(↑l.length / 2:Int).toNat)=l.drop (↑l.length / 2:Int).toNat:=af (by rw[aR];exact Nat.le_refl _);rw[t,bO]
structure vp(a:List Pos)(i:Int)(out:List Pos):Prop where
 i0:0<=i/\i<=a.length
 len:(out.length:Int)<=i
 mem:∀q,q∈out↔q∈a.take i.toNat
 st:out.Pairwise λx y=>ib x y<0
theorem vp.init(a:List Pos):vp a 0 []:=⟨by omega,by simp,by simp,by simp⟩
theorem Y4{a:List Pos}(h:WS a){j:Int}(h0:0<=j)(h1:j<a.length){x:Pos}(b:x∈a.take (j+1).toNat):ib x (gt a j)<=0:=by
 have c:WS (a.take (j+1).toNat):=fm (List.take_sublist _ _) h;rw[iO h0 h1]at b c;rcases List.mem_append.1 b with b|b
 .exact(bI.1 c).2.2 x b _ (by simp)
 .simp at b;subst b;rw[uh];omega
theorem vp.skip{a:List Pos}{i:Int}{out:List Pos}(b:vp a i out)(hi:i<a.length)(h1:i≠0)(h:gt a i=gt a (i-1)):vp a (i+1) out:=by have h0:=b.i0;refine⟨by omega,by have:=b.len;omega,λq=>?_,b.st⟩;rw[b.mem,iO h0.1 hi,List.mem_append,List.mem_singleton];refine⟨.inl,λc=>c.elim id λc=>?_⟩;rw[c,h];have:=iO (l:=a) (n:=i-1) (by omega) (by omega);rw[show i-1+1=i by omega]at this;rw[this];simp
theorem vp.add{a:List Pos}{i:Int}{out:List Pos}(c:vp a i out)(hi:i<a.length)(f:WS a)(h:i=0\/gt a i≠gt a (i-1)):vp a (i+1) (out ++ [gt a i]):=by
 have h0:=c.i0;refine⟨by omega,by have:=c.len;simp;omega,λq=>?_,bI.2 ⟨c.st,by simp,λx b y d=>?_⟩⟩
 .rw[List.mem_append,c.mem,iO h0.1 hi,List.mem_append]
 .simp at d;subst d;have b:=(c.mem x).1 b;rcases h with rfl|h
  .simp at b
  .by_cases g:i=0
   .subst g;simp at b
   have p:=Y4 f (j:=i-1) (by omega) (by omega) (x:=x) (by rw[show i-1+1=i by omega];exact b)
   have o:=Y4 f h0.1 hi (x:=gt a (i-1)) (by
    have:=iO (l:=a) (n:=i-1) (by omega) (by omega);rw[show i-1+1=i by omega]at this
    rw[iO h0.1 hi,this];simp)
   have m:ib (gt a (i-1)) (gt a i)≠0:=λe=>h (qh.1 e).symm
   by_cases k:ib x (gt a (i-1))=0
   .rw[qh.1 k];omega
   .exact yi (show ib x (gt a (i-1))<0 by omega) (by omega)
theorem ali{r:List Pos}(h:r.Pairwise λx y=>ib x y<0):kr r:=by intro i h1 a;rw[jc (by omega) (by omega),jc (by omega) (by omega)];exact bA.1 h _ _ _ _ (by omega)
theorem f61(l:List Pos)(hl:l.length<2 ^ 40)(hs:∀p∈l,Small p):Wf T 101 [gJ l] [] (Ex gJ λr=>kr r/\r.length<=l.length/\∀q,q∈r↔q∈l):=by
 refine Yg JH ?_;simp[JH];refine Yq (f109 _ l rfl hl hs) λa c=>?_;simp;have f:a.length=l.length:=c.1.length_eq;have d:∀p∈a,Small p:=λp e=>hs p (c.1.mem_iff.1 e);refine fO.j ((0,[]):Int×List Pos) (λx=>[(3,gJ a),(4,.fy 0 x.2.length 5 0 x.2.length),(5,.i x.1)]) (λx=>[.row 46 x.2.length (cl Pos.cells x.2)]) (λx=>vp a x.1 x.2) (λx=>a.length-x.1.toNat) ?_ (by simp) (by first|rfl|simp) rfl ?_
 .exact vp.init a
 rintro⟨i,out⟩ b;have h0:=b.i0;have h1:=b.len;dsimp only at b h0 h1 ⊢;simp;(with_reducible repeat' first|refine Xk ?_<;>try simp|refine Xs ?_ ?_<;>intro h<;>(try intro g)<;>(try simp[h])<;>try omega|refine Xg ?_|omega)
 .exact⟨1,_,by simp,rfl,by simp,rfl,by omega,by subst h;exact b.add (by assumption) c.2 (.inl rfl)⟩
 .refine Yt (f110 _ _ (d _ (fZ (by omega) (by omega))) (d _ (fZ (by omega) (by omega)))) ?_;simp;refine jF ?_ ?_<;>intro h
  .exact⟨i+1,_,rfl,rfl,rfl,rfl,by omega,b.skip (by assumption) (by assumption) (by assumption)⟩
  .exact⟨i+1,_,by simp,rfl,by simp,rfl,by omega,b.add (by assumption) c.2 (.inr (by assumption))⟩
 .refine⟨out,rfl,ali b.st,by omega,λq=>?_⟩;rw[b.mem,kG (by omega),c.1.mem_iff]
end Go.Proofs.YtmehofoficaelaaGreatDoor
namespace Go.AL
open Go
def Qb(H:U)(d:D)(ks:mP):D×U:=(fL (il ks) H 40 d,ks.map λp=>if p.2 then tS (il ks) H H[p.1]? else .dead)
@[simp] theorem asm(H:U)(d:D)(ks:mP):Qb H d ks=(fL (il ks) H 40 d,ks.map λp=>if p.2 then tS (il ks) H H[p.1]? else .dead):=rfl
def Da(own n:Nat)(H:U)(d:D):List Nat:=match own with|0=>[]|1=>Db n d|3=>((gZ H 40 d).filter (n<=·)).take 1|_=>(gZ H 40 d).filter (n<=·)
@[simp] theorem auq(n:Nat)(H:U)(d:D):Da 0 n H d = []:=rfl
@[simp] theorem aur(n:Nat)(H:U)(d:D):Da 1 n H d=Db n d:=rfl
@[simp] theorem aus(n:Nat)(H:U)(d:D):Da 2 n H d=(gZ H 40 d).filter (n<=·):=rfl
@[simp] theorem aut(n:Nat)(H:U)(d:D):Da 3 n H d=((gZ H 40 d).filter (n<=·)).take 1:=rfl
@[simp low] theorem aex{own n:Nat}{H:U}{d:D}(h:¬H.length<=n)(a:¬own=4):leave own n H d=Qb H d (iG n (dedup ((Da own n H d++((H.take n).map (nZ n)).flatten).filter (· < H.length)))):=by unfold leave Qb Da;rw[if_neg (by omega)];rfl
@[simp] theorem auu(n v g sz len:Nat):Db n (.fy v g sz 0 len)=if n<=v then [v]else []:=rfl
theorem Mz{H:U}{k:Nat}{d:D}(h:closed d=true):gZ H k d = []:=by
 cases k with
 | zero=>rfl
 | succ k=>unfold gZ;exact if_pos h
theorem QY{H:U}{k:Nat}{cs:List D}(h:gh cs=true):(cs.map (gZ H k)).flatten = []:=by
 induction cs with
 | nil=>rfl
 | cons d r a=>
  simp only[gh,Bool.and_eq_true]at h;simp[Mz h.1,a h.2]
@[simp] theorem auP{H:U}{k:Nat}{d:D}(h:closed d=true):gZ H k d = []:=Mz h
@[simp] theorem auN(H:U)(k:Nat)(cs:List D):gZ H (k+1) (.agg cs)=(cs.map (gZ H k)).flatten:=by
 by_cases h:closed (.agg cs)=true
 .rw[Mz h,QY (by simpa using h)]
 .rw[gZ,if_neg h]
@[simp] theorem auT(H:U)(k:Nat)(cs:List D):gZ H (k+1) (.tup cs)=(cs.map (gZ H k)).flatten:=by
 by_cases h:closed (.tup cs)=true
 .rw[Mz h,QY (by simpa using h)]
 .rw[gZ,if_neg h]
def Dg(H:U)(k:Nat):Option Ob->List Nat
 | some (.row _ _ cs)=>(cs.map (gZ H k)).flatten
 | _=>[]
@[simp] theorem auV(H:U)(k t g:Nat)(cs:List D):Dg H k (some (.row t g cs))=(cs.map (gZ H k)).flatten:=rfl
@[simp] theorem auU(H:U)(k:Nat)(kk:KK)(es:List (Value×D)):Dg H k (some (.map kk es)) = []:=rfl
theorem XR(H:U)(k v:Nat):(match rowsOf H v with|some (_,_,cs)=>(cs.map (gZ H k)).flatten|none=>[])=Dg H k H[v]? := by
 unfold rowsOf Dg
 cases h:H[v]? with
 | none=>rfl
 | some o=>cases o<;>rfl
@[simp] theorem auQ(H:U)(k v g sz off n:Nat):gZ H (k+1) (.fy v g sz off n)=v::Dg H k H[v]? := by rw[gZ,if_neg (by simp)];exact congrArg _ (XR H k v)
@[simp] theorem auR(H:U)(k v g off:Nat):gZ H (k+1) (.ptr v g off)=v::Dg H k H[v]? := by rw[gZ,if_neg (by simp)];exact congrArg _ (XR H k v)
@[simp] theorem auS{H:U}{k:Nat}{α:Type}{f:α->List D}{sz:Nat}[F:Fl f sz](l:List α):((cl f l).map (gZ H k)).flatten = []:=QY (ue l)
@[simp low] theorem Oo{ρ:Nat->Option Nat}{H:U}{k sz:Nat}{t:TypeId}{cs:List D}(h:cs.length=sz):ml ρ H k sz 0 1 (some (t,cs)) = .sl sz [cs.map (fL ρ H k)]:=by subst h;unfold ml;simp[chunks,af]
@[simp] theorem avT{a b c:List Int}{r q w u:Int}{o:Bool}:D.sl 8 [[dI a,dI b,dI c,.i r,.i q,.i w,.i u,.b o]]=jX [⟨⟨a,b,c,r,q⟩,w,u,o⟩]:=by unfold jX;rfl
