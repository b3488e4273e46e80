/- Part 11 of DisputeTruth. -/
import Derived.Test.YtmehofoficaelaaGreatDoorV10
import Derived.Test.YtmehofoficaelaaGreatDoorV08
set_option linter.all false
namespace Go.AL
def kJ(a b:Int):Int:=if a<b then -1 else if a>b then 1 else 0
def kF:List Int->List Int->Int
 | [],[]=>0
 | [],_::_ => -1
 | _::_,[]=>1
 | a::l,b::m=>if a=b then kF l m else kJ a b
def nb:List Int->Int
 | []=>0
 | a::l=>if a≠0 then a else nb l
def iw(p q:Pos):Int:=nb [kF p.cs q.cs,kF p.h0 q.h0,kF p.h1 q.h1,kJ p.gD q.gD,kJ p.side q.side]
theorem yj{a b:Int}:kJ a b=0↔a=b:=by unfold kJ;(repeat' split)<;>omega
theorem D'{a b:Int}:kJ a b<0↔a<b:=by unfold kJ;(repeat' split)<;>omega
theorem NT(a b:Int):kJ b a = - kJ a b:=by unfold kJ;(repeat' split)<;>omega
theorem NK:∀ {a b:List Int},kF a b=0↔a=b
 | [],[]=>by simp[kF]
 | [],_::_=>by simp[kF]
 | _::_,[]=>by simp[kF]
 | a::l,b::m=>by
  unfold kF;split
  .rename_i h;subst h;rw[NK];simp
  .rename_i h;rw[yj];simp[h]
theorem NI:∀(a b:List Int),kF b a = - kF a b
 | [],[]=>rfl
 | [],_::_=>rfl
 | _::_,[]=>rfl
 | a::l,b::m=>by
  unfold kF
  by_cases h:a=b
  .subst h;simp[NI l m]
  .rw[if_neg h,if_neg (cu h),NT]
theorem NJ:∀ {a b c:List Int},kF a b<0->kF b c<0->kF a c<0
 | [],[],c,h,_=>by simp[kF]at h
 | _::_,[],c,h,_=>by simp[kF]at h
 | a,_::_,[],_,h=>by simp[kF]at h
 | [],_::_,_::_,_,_=>by simp[kF]
 | a::l,b::m,c::k,h1,h2=>by
  unfold kF at *
  by_cases e:a=b
  .subst e;rw[if_pos rfl]at h1
   by_cases d:a=c
   .subst d;rw[if_pos rfl]at h2 ⊢;exact NJ h1 h2
   .rw[if_neg d]at h2 ⊢;exact h2
  .rw[if_neg e,D']at h1
   by_cases d:b=c
   .subst d;rw[if_neg e,D'];exact h1
   .rw[if_neg d,D']at h2;rw[if_neg (by omega),D'];omega
theorem P0:∀ {l:List Int},nb l=0↔∀x∈l,x=0
 | []=>by simp[nb]
 | a::l=>by
  unfold nb;split
  .rename_i h;simp[h]
  .rename_i h;rw[P0];simp_all
theorem rj{p q:Pos}:iw p q=0↔p=q:=by unfold iw;rw[P0];cases p;cases q;simp[NK,yj]
theorem uW(p:Pos):iw p p=0:=rj.2 rfl
theorem uX(p q:Pos):iw q p = - iw p q:=by unfold iw nb;rw[NI p.cs,NI p.h0,NI p.h1,NT p.gD,NT p.side];simp only[nb];(repeat' split)<;>omega
theorem AV{A B C:Int}{a b c:List Int}(h1:A=0->C=B)(g:B=0->C=A)(f:A<0->B<0->C<0)(h:nb a<0->nb b<0->nb c<0):nb (A::a)<0->nb (B::b)<0->nb (C::c)<0:=by
 unfold nb;intro x y
 by_cases e:A=0
 .have:=h1 e;subst this;rw[if_neg (by simpa using e)]at x
  by_cases d:C=0
  .rw[if_neg (by simpa using d)]at y ⊢;exact h x y
  .rw[if_pos d]at y ⊢;exact y
 .rw[if_pos e]at x
  by_cases d:B=0
  .have:=g d;subst this;rw[if_pos e];exact x
  .rw[if_pos d]at y;have:=f x y;rw[if_pos (by omega)];exact this
theorem yY{p q r:Pos}:iw p q<0->iw q r<0->iw p r<0:=by
 have key:∀a b c:List Int,kF a b=0->kF a c=kF b c:=λa b c h=>by rw[NK.1 h]
 have d:∀a b c:List Int,kF b c=0->kF a c=kF a b:=λa b c h=>by rw[NK.1 h]
 have n1:∀a b c:Int,kJ a b=0->kJ a c=kJ b c:=λa b c h=>by rw[yj.1 h]
 have n2:∀a b c:Int,kJ b c=0->kJ a c=kJ a b:=λa b c h=>by rw[yj.1 h]
 have e:∀a b c:Int,kJ a b<0->kJ b c<0->kJ a c<0:=λa b c=>by simp only[D'];omega
 unfold iw;refine AV (key _ _ _) (d _ _ _) NJ (AV (key _ _ _) (d _ _ _) NJ (AV (key _ _ _) (d _ _ _) NJ (AV (n1 _ _ _) (n2 _ _ _) (e _ _ _) (AV (n1 _ _ _) (n2 _ _ _) (e _ _ _) λh=>?_))));simp[nb]at h
theorem YQ{a b:List Int}:∀ {i:Nat},a.take i=b.take i->i<=a.length->i<=b.length->kF a b=kF (a.drop i) (b.drop i):=by
 intro i
 induction i generalizing a b with
 | zero=>intro _ _ _;rfl
 | succ i d=>
  intro h h1 c
  cases a with
  | nil=>simp at h1
  | cons x a=>
   cases b with
   | nil=>simp at c
   | cons y b=>
    simp only[List.take_succ_cons,de]at h;simp only[aH]at h1 c;simp only[List.drop_succ_cons,kF,h.1,if_true];exact d h.2 (by omega) (by omega)
theorem Sb{a b:List Int}(h:a.length=0\/b.length=0):kF a b=kJ a.length b.length:=by
 cases a<;>cases b<;>simp_all [kF,kJ]
 all_goals omega
theorem U6{p q r:Pos}(h1:iw p q<=0)(c:iw q r<=0):iw p r<=0:=by
 by_cases a:iw p q=0
 .rw[rj.1 a];exact c
 .by_cases b:iw q r=0
  .rw[<-rj.1 b];exact h1
  .exact Int.le_of_lt (yY (show iw p q<0 by omega) (show iw q r<0 by omega))
def WS(l:List Pos):Prop:=l.Pairwise λx y=>iw x y<=0
def Small(p:Pos):Prop:=p.cs.length<2 ^ 40/\p.h0.length<2 ^ 40/\p.h1.length<2 ^ 40
def kL(l:List Pos):Prop:=∀i:Int,1<=i->i<l.length->iw (gt l (i-1)) (gt l i)<0
theorem kL.lt{l:List Pos}(h:kL l){i:Int}(h0:0<=i):∀ {n:Nat},i<n->(n:Int)<l.length->iw (gt l i) (gt l n)<0
 | 0,h1,_=>by omega
 | n+1,h1,h2=>by
  have:=h (n+1) (by omega) (by omega);rw[dM]at this
  by_cases e:i=n
  .subst e;exact this
  .exact yY (h.lt h0 (by omega) (by omega)) this
theorem kL.le{l:List Pos}(h:kL l){i j:Int}(h0:0<=i)(h1:i<j)(a:j<l.length):iw (gt l i) (gt l j)<0:=by have:=h.lt h0 (n:=j.toNat) (by omega) (by omega);rwa [b6 (by omega)]at this
theorem kL.inj{l:List Pos}(h:kL l){i j:Int}(h0:0<=i)(h1:i<l.length)(d:0<=j)(c:j<l.length)(e:gt l i=gt l j):i=j:=by
 by_cases a:i<j
 .have:=h.le h0 a c;rw[e,uW]at this;omega
 .by_cases b:j<i
  .have:=h.le d b h1;rw[e,uW]at this;omega
  .omega
def pk(l:List Pos)(p:Pos):Int:=if p∈l then(l.idxOf p:Int)else -1
theorem Wd{l:List Pos}{p:Pos}(h:p ∉ l):pk l p = -1:=if_neg h
theorem F1{l:List Pos}{p:Pos}(h:p∈l):0<=pk l p/\pk l p<l.length/\gt l (pk l p)=p:=by unfold pk;rw[if_pos h];have hi:l.idxOf p<l.length:=List.idxOf_lt_length_iff.2 h;refine pI ?_;rw[AZ hi];exact List.getElem_idxOf hi
theorem aeE{l:List Pos}(hs:kL l){i:Int}(h0:0<=i)(h1:i<l.length):pk l (gt l i)=i:=by obtain⟨a,b,c⟩:=F1 (gq h0 h1);exact hs.inj a b h0 h1 c
end Go.AL
namespace Go.AL
open Go
def pt{α:Type}(l:List α)(n:Int)(v:α):List α:=l.take n.toNat++v::l.drop (n.toNat+1)
section
variable{α:Type}[Inhabited α]{l:List α}{n k:Int}{v:α}
theorem HP(h0:0<=n)(h:n<l.length):pt l n v=l.set n.toNat v:=by rw[pt,cE,if_pos (by omega)]
theorem iH(h0:0<=n)(h:n<l.length):(pt l n v).length=l.length:=by rw[HP h0 h,ar]
theorem pq(h0:0<=n)(h:n<l.length)(a:0<=k):gt (pt l n v) k=if k=n then v else gt l k:=by
 rw[HP h0 h];unfold gt;simp only[List.getD_eq_getElem?_getD,bS]
 by_cases e:k=n
 .subst e;rw[if_pos rfl,if_pos rfl,if_pos (by omega)];rfl
 .rw[if_neg (by omega),if_neg e]
theorem Da(h0:0<=n)(h:n<l.length):gt (pt l n v) n=v:=by rw[pq h0 h h0,if_pos rfl]
theorem WG(h0:0<=n)(h:n<l.length)(a:0<=k)(e:k≠n):gt (pt l n v) k=gt l k:=by rw[pq h0 h a,if_neg e]
theorem Za{x:α}(h:x∈pt l n v):x=v\/x∈l:=by
 unfold pt at h;simp only[List.mem_append,aw]at h;rcases h with h|h|h
 .exact .inr (aS h)
 .exact .inl h
 .exact .inr (bq h)
end
@[simp] theorem aw1{α:Type}(l:List α)(n:Int)(v:α):l.take n.toNat++v::l.drop (n.toNat+1)=pt l n v:=(rfl)
def l5(g:fY)(s d c:Int):Int:=
 if s<0\/s>1\/d<0\/d>=g.next.length\/c<0\/c>=g.size then -1 else gt (gt g.next (if s=1 then gt g.jn d else d)) c
structure oo(g:fY):Prop where
 size:1<=g.size/\g.size<=9
 next:g.next.length=8
 row:∀l∈g.next,(l.length:Int)=g.size/\∀x∈l,-1<=x/\x<g.size
 jn:g.jn.length=8
 turns:∀d,0<=d->d<8->0<=gt g.jn d/\gt g.jn d<8/\gt g.jn (gt g.jn d)=d
theorem oo.to{g:fY}(h:oo g)(s d c:Int) : -1<=l5 g s d c/\l5 g s d c<g.size:=by
 have:=h.size;unfold l5;split
 .omega
 .rename_i e;have f:=h.next
  simp only[not_or,eW,Int.not_le,gt_iff_lt,ge_iff_le]at e
  have b:0<=(if s=1 then gt g.jn d else d)/\(if s=1 then gt g.jn d else d)<8:=by
   split
   .have:=h.turns d (by omega) (by omega);omega
   .omega
  have a:=h.row _ (gq (l:=g.next) b.1 (by omega));exact a.2 _ (gq (by omega) (by omega))
structure Fb(g:fY)(x:fO):Prop where
 ok:((x.1=1\/x.1=2\/x.1=7)/\0<=x.2/\x.2<8)\/(3<=x.1/\x.1<=6/\x.2=0)\/(x.1=8/\0<=x.2/\x.2<g.kinds.length)\/((x.1=9\/x.1=10)/\0<=x.2/\x.2<g.gD)
def ot(l:List fO)(op:Int):Int:=(l.countP λx=>x.1=op:Nat)
structure xk(g:fY)(l:List fO):Prop where
 len:1<=l.length/\l.length<=8
 steps:∀x∈l,Fb g x
 tT:ot l 6<=2
 push:ot l 7<=1
 LK:ot l 8<=1
structure Cm(g:fY)(c:Clause):Prop where
 ok:(c.cond=1/\0<=c.kind/\c.kind<g.kinds.length/\c.n=0)\/(c.cond=2/\0<=c.kind/\c.kind<g.kinds.length/\0<=c.n/\c.n<g.size)\/(c.cond=3/\c.kind=0/\0<=c.n/\c.n<=64)
 out:1<=c.out/\c.out<=3
def kindName(n:Int):ByteArray:=if n=0 then⟨#[97]⟩else⟨#[98,101,101]⟩
structure gN(g:fY):Prop where
 jB:oo g
 kinds:1<=g.kinds.length/\g.kinds.length<=2
 names:∀k:Int,0<=k->k<g.kinds.length->(gt g.kinds k).name=kindName k
 jh:∀k∈g.kinds,k.jh.length<=4/\∀l∈k.jh,xk g l
 gD:0<=g.gD/\g.gD<=2
 clauses:g.clauses.length<=3
 clause:∀c∈g.clauses,Cm g c
 blocked:1<=g.blocked/\g.blocked<=3
 uY:1<=g.uY/\g.uY<=3
structure rN(g:fY)(l:List Int):Prop where
 len:l.length=g.kinds.length
 at_:∀k:Int,0<=k->k<l.length->0<=gt l k/\gt l k<=8/\(0<gt l k->(gt g.kinds k).keep=true)
structure ij(g:fY)(p:Pos):Prop where
 size:(p.cs.length:Int)=g.size
 h0:rN g p.h0
 h1:rN g p.h1
 gD:0<=p.gD/\p.gD<2 ^ g.gD.toNat
 side:0<=p.side/\p.side<=1
 cs:∀x∈p.cs,0<=x/\x<=2*g.kinds.length
def gC(n:Int):Int:=if 1<=n/\n<=12 then(n-1) / 2 else -1
def jS(n:Int):Int:=if 1<=n/\n<=12 then(n-1) % 2 else -1
def lI(k s:Int):Int:=1+2*k+s
def tG(g:fY)(s d c:Int):Nat->Int->List Int->List Int
 | 0,_,out=>out
 | n+1,x,out=>if 0<=x/\x≠c/\x ∉ out then tG g s d c n (l5 g s d x) (out ++ [x])else out
def lk(g:fY)(s d c:Int):List Int:=tG g s d c 10 (l5 g s d c) []
theorem YM{g:fY}(hg:oo g){s d c:Int}:∀(n:Nat) (x:Int) (out:List Int),x<g.size->(∀y∈out,0<=y/\y<g.size)->∀y∈tG g s d c n x out,0<=y/\y<g.size
 | 0,x,out,_,h,y,hy=>h y hy
 | n+1,x,out,hx,h,y,hy=>by
  unfold tG at hy;split at hy
  .rename_i e;refine YM hg n _ _ (hg.to _ _ _).2 (λz a=>?_) y hy;simp only[List.mem_append,List.mem_singleton]at a;rcases a with a|a
   .exact h z a
   .omega
  .exact h y hy
theorem R9{g:fY}(hg:oo g){s d c y:Int}(h:y∈lk g s d c):0<=y/\y<g.size:=YM hg _ _ _ (hg.to _ _ _).2 (by simp) y h
theorem zV:∀(n:Nat) (l:List Int),l.Nodup->(∀y∈l,0<=y/\y<n)->l.length<=n
 | 0,[],_,_=>by simp
 | 0,a::l,_,h=>by have:=h a (by simp);omega
 | n+1,l,hn,h=>by
  by_cases e:(n:Int)∈l
  .have h1:(l.erase (n:Int)).length<=n:=zV n _ (hn.erase _) λy b=>by have:=(hn.mem_erase_iff).1 b;have:=h y this.2;omega
   rw[fj e]at h1;omega
  .have:=zV n l hn λy b=>by have:=h y b;have:y≠n:=λc=>e (c▸b);omega
   omega
structure gg where
 p:Pos
 kind:Int
 cur:Int
 jF:Bool
 deriving DecidableEq,Inhabited
def gg.cells(s:gg):List D:=[dI s.p.cs,dI s.p.h0,dI s.p.h1,.i s.p.gD,.i s.p.side,.i s.kind,.i s.cur,.b s.jF]
structure kd(g:fY)(s:gg):Prop where
 p:ij g s.p
 kind:0<=s.kind/\s.kind<g.kinds.length
 cur:0<=s.cur/\s.cur<g.size
def Pos.hand(p:Pos)(s:Int):List Int:=if s=0 then p.h0 else p.h1
def Pos.mM(p:Pos)(s:Int)(l:List Int):Pos:=if s=0 then{ p with h0:=l }else{ p with h1:=l }
def pX(s:gg):List Int->List gg
 | []=>[]
 | c::r=>{ s with cur:=c }::if gt s.p.cs c=0 then pX s r else []
def sX(g:fY)(s:gg):List gg:=
 let c:=gt s.p.cs s.cur
 if jS c≠1-s.p.side then []else
  let p:={ s.p with cs:=pt s.p.cs s.cur 0 }
  if (gt g.kinds (gC c)).keep=false then [{ s with p:=p,jF:=true }]else
   let n:=gt (s.p.hand s.p.side) (gC c)+1
   if n<=8 then [{ s with p:=p.mM s.p.side (pt (s.p.hand s.p.side) (gC c) n),jF:=true }]else []
def tP(g:fY)(s:gg)(n:Int):List gg:=
 let to:=l5 g s.p.side n s.cur
 if gt s.p.cs s.cur=0\/to<0\/gt s.p.cs to≠0 then []else
  [{ s with p:={ s.p with cs:=pt (pt s.p.cs to (gt s.p.cs s.cur)) s.cur 0 } }]
def Bb(r n:Int):Prop:=r / 2 ^ n.toNat % 2=1
instance(r n:Int):Decidable (Bb r n):=by unfold Bb;infer_instance
def dropRight(r n:Int):Int:=if Bb r n then r-2 ^ n.toNat else r
theorem Tl{b:Int}(h0:0<=b)(h:b<=4):yv .i64 1 b=2 ^ b.toNat:=by
 have:b=0\/b=1\/b=2\/b=3\/b=4:=by omega
 rcases this with rfl|rfl|rfl|rfl|rfl<;>decide
theorem Zj{r:Int}(h0:0<=r)(h:r<16):∃i:Fin 16,r=(i.val:Int):=⟨⟨r.toNat,by omega⟩,by simp;omega⟩
theorem Zk{r:Int}(h0:0<=r)(h:r<4):∃i:Fin 4,r=(i.val:Int):=⟨⟨r.toNat,by omega⟩,by simp;omega⟩
theorem aah:∀(i:Fin 16) (k:Fin 4),(bits .and .i64 (mj .i64 (i.val:Int) (k.val:Int)) 1=1↔Bb (i.val:Int) (k.val:Int))/\bits .andNot .i64 (i.val:Int) (yv .i64 1 (k.val:Int))=dropRight (i.val:Int) (k.val:Int):=by decide +kernel
theorem aaf{r n:Int}(h0:0<=r)(h1:r<16)(b:0<=n)(a:n<4):(bits .and .i64 (mj .i64 r n) 1=1)=Bb r n:=by obtain⟨i,rfl⟩:=Zj h0 h1;obtain⟨k,rfl⟩:=Zk b a;exact propext (aah i k).1
theorem aag{r n:Int}(h0:0<=r)(h1:r<16)(b:0<=n)(a:n<4):bits .andNot .i64 r (yv .i64 1 n)=dropRight r n:=by obtain⟨i,rfl⟩:=Zj h0 h1;obtain⟨k,rfl⟩:=Zk b a;exact(aah i k).2
theorem Ed{b:Int}(h0:0<=b)(h:b<=4):(2:Int) ^ b.toNat<=16:=by
 have:b=0\/b=1\/b=2\/b=3\/b=4:=by omega
 rcases this with rfl|rfl|rfl|rfl|rfl<;>decide
def iT(g:fY)(s:gg)(x:fO):List gg:=
 let c:=gt s.p.cs s.cur
 if x.1=1 then(let to:=l5 g s.p.side x.2 s.cur;if 0<=to then [{ s with cur:=to }]else [])
 else if x.1=2 then pX s (lk g s.p.side x.2 s.cur)
 else if x.1=3 then(if c=0 then [s]else [])
 else if x.1=4 then(if jS c=1-s.p.side then [s]else [])
 else if x.1=5 then(if jS c=s.p.side then [s]else [])
 else if x.1=6 then sX g s
 else if x.1=7 then tP g s x.2
 else if x.1=8 then [{ s with kind:=x.2 }]
 else if x.1=9 then(if Bb s.p.gD x.2 then [s]else [])
 else [{ s with p:={ s.p with gD:=dropRight s.p.gD x.2 } }]
def sU(g:fY):List fO->List gg->List gg
 | [],l=>l
 | x::r,l=>sU g r (l.flatMap λs=>iT g s x)
def lq(p:Pos)(cell:Int):gg:={ p:={ p with cs:=pt p.cs cell 0 },kind:=gC (gt p.cs cell),cur:=cell,jF:=false }
structure gJ where
 p:Pos
 jF:Bool
 deriving DecidableEq,Inhabited
def gJ.cells(o:gJ):List D:=[dI o.p.cs,dI o.p.h0,dI o.p.h1,.i o.p.gD,.i o.p.side,.b o.jF]
def nZ(side:Int)(s:gg):Option gJ:=
 if gt s.p.cs s.cur=0 then some { p:={ s.p with cs:=pt s.p.cs s.cur (lI s.kind side),side:=1-side },jF:=s.jF }else none
def uF(g:fY)(p:Pos)(cell:Int)(l:List fO):List gJ:=(sU g l [lq p cell]).filterMap (nZ p.side)
def upto(n:Nat):List Int:=(List.range n).map λk:Nat=>(k:Int)
theorem iS{n:Nat}{k:Int}:k∈upto n↔0<=k/\k<n:=by
 simp only[upto,ao,bj];constructor
 .rintro⟨a,h,rfl⟩;omega
 .intro h;exact⟨k.toNat,by omega,by omega⟩
def pH(g:fY)(p:Pos)(c:Int):List gJ:=if jS (gt p.cs c)=p.side then(gt g.kinds (gC (gt p.cs c))).jh.flatMap (uF g p c)else []
def pY(g:fY)(p:Pos):List gJ:=(upto p.cs.length).flatMap (pH g p)
def j'(p:Pos)(k c:Int):Pos:={ p.mM p.side (pt (p.hand p.side) k (gt (p.hand p.side) k-1))with cs:=pt p.cs c (lI k p.side),side:=1-p.side }
def yM(g:fY)(p q:Pos):Prop:=∃k c:Int,0<=k/\k<g.kinds.length/\0<=c/\c<p.cs.length/\gt (p.hand p.side) k≠0/\gt p.cs c=0/\q=j' p k c
def sh(p:Pos)(side kind:Int):Int:=(p.cs.countP λc=>0<=gC c/\jS c=side/\(kind<0\/gC c=kind):Nat)
def kO(p:Pos)(c:Clause):Prop:=
 if c.cond=1 then sh p p.side c.kind=0 else if c.cond=2 then gt p.cs c.n=lI c.kind (1-p.side)else sh p p.side (-1)<=c.n
def qy(g:fY)(p q:Pos):Prop:=
 (∀c∈g.clauses,¬kO p c) /\
 if g.oi=true/\(∃o∈pY g p,o.jF=true)then⟨q,true⟩∈pY g p else(∃o∈pY g p,o.p=q)\/yM g p q
theorem ij.small{g:fY}(hg:gN g){p:Pos}(h:ij g p):Small p:=by have h1:=h.size;have d:=hg.jB.size;have c:=h.h0.len;have b:=h.h1.len;have a:=hg.kinds;exact l4
theorem ij.hand{g:fY}{p:Pos}(h:ij g p)(s:Int):rN g (p.hand s):=by
 unfold Pos.hand;split
 .exact h.h0
 .exact h.h1
theorem ij.mM{g:fY}{p:Pos}(h:ij g p)(s:Int){l:List Int}(hl:rN g l):ij g (p.mM s l):=by
 unfold Pos.mM;split
 .exact{ h with h0:=hl }
 .exact{ h with h1:=hl }
theorem ij.Cb{g:fY}{p:Pos}(h:ij g p){c v:Int}(d:0<=c)(e:c<g.size)(b:0<=v/\v<=2*g.kinds.length):ij g { p with cs:=pt p.cs c v }:=
 { h with
  size:=by dsimp only;rw[iH d (by rw[h.size];exact e)];exact h.size
  cs:=λx a=>by
   rcases Za a with rfl|a
   .exact b
   .exact h.cs x a }
theorem rN.set{g:fY}{l:List Int}(h:rN g l){k v:Int}(b:0<=k)(a:k<l.length)(c:0<=v/\v<=8/\(0<v->(gt g.kinds k).keep=true)):rN g (pt l k v) where
 len:=by rw[iH b a];exact h.len
 at_ j hj M9:=by
  rw[iH b a]at M9;rw[pq b a hj];split
  .rename_i e;subst e;exact c
  .exact h.at_ j hj M9
theorem yf{n:Int}{g:fY}(h:n<=2*g.kinds.length)(a:1<=g.kinds.length):gC n<g.kinds.length:=by unfold gC;split<;>omega
theorem Hw{n s:Int}(hs:0<=s)(h:jS n=s):0<=gC n/\1<=n/\n<=12/\n=lI (gC n) s:=by
 unfold jS at h;unfold gC lI;split at h<;>rename_i e
 .rw[if_pos e];omega
 .omega
theorem acY{r n k:Int}(h:0<=r)(a:r<2 ^ k.toNat):0<=dropRight r n/\dropRight r n<2 ^ k.toNat:=by
 unfold dropRight;split
 .rename_i e;unfold Bb at e;have b:(0:Int)<2 ^ n.toNat:=Int.pow_pos (by decide)
  have:2 ^ n.toNat<=r:=by
   by_cases c:r<2 ^ n.toNat
   .rw[Int.ediv_eq_zero_of_lt h c]at e;simp at e
   .omega
  omega
 .exact⟨h,a⟩
theorem YP{s t:gg}:∀ {l:List Int},t∈pX s l->∃c∈l,t = { s with cur:=c }
 | [],h=>by simp[pX]at h
 | c::r,h=>by
  unfold pX at h;rcases aw.1 h with h|h
  .exact⟨c,by simp,h⟩
  .split at h
   .obtain⟨c',h1,a⟩:=YP h;exact⟨c',by simp[h1],a⟩
   .cases h
theorem Ci{g:fY}(hg:gN g){s:gg}(hs:kd g s){x:fO}(k:Fb g x){t:gg}(h:t∈iT g s x):kd g t:=by
 have d:=hg.jB;have j:s.cur<s.p.cs.length:=by rw[hs.p.size];exact hs.cur.2
 have i:=hs.p.cs _ (gq hs.cur.1 j);unfold iT at h;dsimp only at h;split at h
 .split at h
  .rename_i h0;rw[List.mem_singleton]at h;subst h;exact{ hs with cur:=⟨h0,(d.to _ _ _).2⟩ }
  .cases h
 split at h
 .obtain⟨c,h1,rfl⟩:=YP h;exact{ hs with cur:=R9 d h1 }
 iterate 3
  split at h
  .split at h
   .rw[List.mem_singleton]at h;subst h;exact hs
   .cases h
 split at h
 .unfold sX at h;dsimp only at h;split at h
  .cases h
  rename_i e;have e:=Decidable.not_not.1 e;have l:=hs.p.side;obtain⟨m1,m2,m3,m4⟩:=Hw (by omega) e;have a:gC (gt s.p.cs s.cur)<g.kinds.length:=yf i.2 hg.kinds.1;have f:ij g { s.p with cs:=pt s.p.cs s.cur 0 }:=hs.p.Cb hs.cur.1 hs.cur.2 (by omega);split at h
  .rw[List.mem_singleton]at h;subst h;exact{ hs with p:=f }
  rename_i kp;split at h
  .rename_i n;rw[List.mem_singleton]at h;subst h;have b:=hs.p.hand s.p.side;have hl:=b.len;have m:=b.at_ _ m1 (by rw[hl];exact a);exact{ hs with p:=f.mM _ (b.set m1 (by rw[hl];exact a) (pI (λ_=>by simpa using kp))) }
  .cases h
 split at h
 .unfold tP at h;dsimp only at h;split at h
  .cases h
  rename_i e;simp only[not_or,eW]at e;rw[List.mem_singleton]at h;subst h;have h1:=hs.p.Cb (c:=l5 g s.p.side x.2 s.cur) (v:=gt s.p.cs s.cur) e.2.1 (d.to _ _ _).2 i;exact{ hs with p:=h1.Cb hs.cur.1 hs.cur.2 (by omega) }
 split at h
 .rename_i o;rw[List.mem_singleton]at h;subst h;have a:0<=x.2/\x.2<g.kinds.length:=by have:=k.ok;omega
  exact{ hs with kind:=a }
 split at h
 .split at h
  .rw[List.mem_singleton]at h;subst h;exact hs
  .cases h
 .rw[List.mem_singleton]at h;subst h;exact{ hs with p:={ hs.p with gD:=acY hs.p.gD.1 hs.p.gD.2 } }
theorem Og{g:fY}(hg:gN g):∀ {l:List fO} {a:List gg},(∀x∈l,Fb g x)->(∀s∈a,kd g s)->∀s∈sU g l a,kd g s
 | [],_,_,h,s,hs=>h s hs
 | x::r,a,hx,h,s,hs=>by refine Og (a:=a.flatMap λs=>iT g s x) hg (λy c=>hx y (by simp[c])) (λt b=>?_) s hs;obtain⟨u,d,b⟩:=bI.1 b;exact Ci hg (h u d) (hx x (by simp)) b
theorem aau{g:fY}:∀ {l:List fO} {a b:List gg},(∀s,s∈a↔s∈b)->∀s,s∈sU g l a↔s∈sU g l b
 | [],_,_,h,s=>h s
 | x::r,a,b,h,s=>aau (l:=r) (λt=>by simp only[bI,h]) s
theorem Iu{g:fY}(hg:gN g){p:Pos}(a:ij g p){c:Int}(h0:0<=c)(h1:c<g.size)(b:jS (gt p.cs c)=p.side):kd g (lq p c):=by have d:=a.cs _ (gq h0 (by rw[a.size];exact h1));exact{ p:=a.Cb h0 h1 (by omega),kind:=⟨(Hw a.side.1 b).1,yf d.2 hg.kinds.1⟩,cur:=⟨h0,h1⟩ }
theorem Mz{g:fY}{s:gg}(hs:kd g s){side:Int}(h0:0<=side)(h1:side<=1){o:gJ}(h:nZ side s=some o):ij g o.p:=by
 unfold nZ at h;split at h
 .cases h;have:=hs.kind;exact{ hs.p.Cb hs.cur.1 hs.cur.2 (v:=lI s.kind side) (by unfold lI;omega)with side:=by dsimp only;omega }
 .cases h
theorem N2{g:fY}(hg:gN g){p:Pos}(a:ij g p){o:gJ}(h:o∈pY g p):ij g o.p:=by
 obtain⟨c,b,h⟩:=bI.1 h;rw[iS,a.size]at b;unfold pH at h;split at h
 .rename_i e;obtain⟨l,hl,h⟩:=bI.1 h;obtain⟨s,hs,h⟩:=cT.1 h;have d:=Iu hg a b.1 b.2 e;have i:=hg.jh _ (gq (l:=g.kinds) d.kind.1 d.kind.2);exact Mz (Og hg (i.2 l hl).steps (λt f=>by rw[List.mem_singleton]at f;subst f;exact d) s hs) a.side.1 a.side.2 h
 .cases h
theorem FO{g:fY}{p:Pos}(a:ij g p){q:Pos}(h:yM g p q):ij g q:=by
 obtain⟨k,c,h1,o,i,n,m,l,rfl⟩:=h;have b:=a.hand p.side;have hl:=b.len;have f:=b.at_ k h1 (by omega);have hs:=a.side;have j:=a.size;have d:=(a.mM p.side (b.set h1 (v:=gt (p.hand p.side) k-1) (by omega) (pI (λ_=>f.2.2 (by omega)))));have e:(p.mM p.side (pt (p.hand p.side) k (gt (p.hand p.side) k-1))).cs=p.cs:=by unfold Pos.mM;split<;>rfl
 have:=d.Cb (c:=c) (v:=lI k p.side) i (by omega) (by unfold lI;omega);rw[e]at this;exact{ this with side:=by dsimp only[j'];omega }
theorem Sy{g:fY}(hg:gN g){p:Pos}(a:ij g p){q:Pos}(h:qy g p q):ij g q:=by
 obtain⟨_,h⟩:=h;split at h
 .exact N2 hg a h
 .rcases h with⟨o,h,rfl⟩|h
  .exact N2 hg a h
  .exact FO a h
end Go.AL
namespace Go.Proofs.YtmehofoficaelaaGreatDoor
open Go Go.AL Classical
set_option maxRecDepth 10000
theorem f95(n a b:Int):Wf T 253 [.i n,.i a,.i b] [] (Is (.b (decide (a<=n/\n<=b)))):=by refine Yg Ls ?_;simp[Ls];exact mE
theorem f94(a b:Int):Wf T 202 [.i a,.i b] [] (Is (.i (kJ a b))):=by
 refine Yg Lr ?_;simp[Lr];(with_reducible repeat' first|refine Xk ?_<;>try simp|refine Xs ?_ ?_<;>intro h<;>(try intro c)<;>(try simp[h])<;>try omega|refine Xg ?_|omega)
 all_goals (simp only[kJ];(repeat' split)<;>omega)
theorem f92{k s:Int}(c:0<=k)(a:k<6)(hs:0<=s)(b:s<=1):Wf T 216 [.i k,.i s] [] (Is (.i (1+2*k+s))):=by refine Yg Lp ?_;simp[Lp];exact mE
theorem f156{k s:Int}(b:0<=k)(c:k<6)(hs:0<=s)(a:s<=1):Wf T 206 [.i k,.i s] [] (Is (.i (1+2*k+s))):=by refine Yg J4 ?_;simp[J4];refine gj.c rfl rfl (f95 _ _ _) (by simp[gw]) (by simp) ?_;simp[show k<=5 by omega,b];refine gj.c rfl rfl (f95 _ _ _) (by simp[gw]) (by simp) ?_;simp[hs,a];omega
theorem f25(l:List Int)(n:Int)(hl:l.length<2 ^ 40):Wf T 40 [dI l,.i n] [] (Is (.b (decide (n∈l)))):=by
 refine Yg KH ?_;simp[KH];refine fZ.i (α:=Int) [0,1,5] rfl (λi=>[(0,dI l),(1,.i n),(5,.i i)]) (λ_=>[]) (λi=>0<=i/\i<=l.length/\n ∉ l.take i.toNat) (λi=>l.length-i.toNat) 0 (by simp) (by simp) rfl ?_;rintro i ⟨h0,h1,a⟩;simp;(with_reducible repeat' first|refine Xk ?_<;>try simp|refine Xs ?_ ?_<;>intro h<;>(try intro b)<;>(try simp[h])<;>try omega|refine Xg ?_|omega)
 .have:=gq h0 ‹_›;simp_all
 .skip;rw[jd h0 ‹_›];simp_all;exactλe=>h e.symm
 .simpa[kW (by omega:(l.length:Int)<=i)]using a
theorem f93(a b:List Int)(g:a.length<2 ^ 40)(f:b.length<2 ^ 40):Wf T 201 [dI a,dI b] [] (Is (.i (kF a b))):=by
 refine Yg Lq ?_;simp[Lq];refine fZ.j (0:Int) (λi=>[(0,dI a),(1,dI b),(5,.i i)]) (λ_=>_) (λi=>0<=i/\i<=a.length/\i<=b.length/\a.take i.toNat=b.take i.toNat) (λi=>a.length-i.toNat) ?_ (by simp) (by first|rfl|simp) rfl ?_
 .simp
 rintro i ⟨h0,h1,d,c⟩;have e:=YQ c (by omega) (by omega);simp;(with_reducible repeat' first|refine Xk ?_<;>try simp|refine Xs ?_ ?_<;>intro h<;>(try intro j)<;>(try simp[h])<;>try omega|refine Xg ?_|omega)
 .skip;rw[jd h0 (by omega),jd h0 (by omega),c];simp_all
 .refine Yt (f94 _ _) ?_;simp;rw[e,nN h0 ‹_›,nN h0 ‹_›,kF,if_neg (by assumption)]
 all_goals
  refine Yc (f94 _ _) ?_;simp;rw[e,Sb (by simp only[aR];omega)];simp only[aR,kJ];(repeat' split)<;>omega
theorem f50(p q:Pos)(b:Small p)(a:Small q):Wf T 137 [dP p,dP q] [] (Is (.i (iw p q))):=by
 refine Yg K5 ?_;simp[K5];refine Yt (f93 _ _ b.1 a.1) ?_;simp;refine Yt (f93 _ _ b.2.1 a.2.1) ?_;simp;refine Yt (f93 _ _ b.2.2 a.2.2) ?_;simp;refine Yt (f94 _ _) ?_;simp;refine Yt (f94 _ _) ?_;simp;(refine fZ.un ?_;(repeat' first|(refine kH.u ?_;simp;done)|(refine kH.u ?_;simp)|((with_reducible first|refine X2.d ?_ ?_|refine X2.a ?_ ?_|refine X2.o ?_ ?_|refine X2.b ?_ ?_)<;>intro h<;>(try simp[h]))|fail))
 all_goals simp_all [iw,nb]
theorem f51(n:Int):Wf T 203 [.i n] [] (Is (.agg [.i (gC n),.i (jS n)])):=by
 refine Yg K6 ?_;simp[K6];refine Yc (f95 _ _ _) ?_;simp;(with_reducible repeat' first|refine Xk ?_<;>try simp|refine Xs ?_ ?_<;>intro h<;>(try intro a)<;>(try simp[h])<;>try omega|refine Xg ?_|omega)
 .rw[uH (by omega) (by omega) (by omega),jt (by omega)];simp[gC,jS];omega
 .simp[gC,jS];omega
theorem f84(n:Int):Wf T 163 [.i n] [] (Is (.tup [.i (gC n),.i (jS n)])):=by
 refine Yg Lj ?_;simp[Lj];(with_reducible repeat' first|refine Xk ?_<;>try simp|refine Xs ?_ ?_<;>intro h<;>(try intro a)<;>(try simp[h])<;>try omega|refine Xg ?_|omega)
 .simp[gC,jS];omega
 .simp[gC,jS];omega
 .rw[uH (by omega) (by omega) (by omega),jt (by omega)];simp[gC,jS];omega
theorem f251(g:fY)(hg:oo g)(s d c:Int):Wf T 295 [g.jB,.i s,.i d,.i c] [] (Is (.i (l5 g s d c))):=by
 have e:=hg.next
 have b:=hg.jn;refine Yg KL ?_;simp[KL];(with_reducible repeat' first|refine Xk ?_<;>try simp|refine Xs ?_ ?_<;>intro h<;>(try intro f)<;>(try simp[h])<;>try omega|refine Xg ?_|omega)
 all_goals first
  | (simp only[l5];rw[if_pos (by omega)])
  | skip
 .rename_i h;have:=hg.turns d (by omega) (by omega);have a:=hg.row (gt g.next (gt g.jn d)) (gq (by omega) (by omega));refine fQ ?_;simp only[l5];rw[if_neg (by omega)];simp
 .rename_i h;have a:=hg.row (gt g.next d) (gq (by omega) (by omega));refine fQ ?_;simp only[l5];rw[if_neg (by omega)];simp[h]
theorem f240(g:fY)(hg:oo g)(s d c:Int):Wf T 322 [g.jB,.i s,.i d,.i c] [] (Is (.i (l5 g s d c))):=by
 have e:=hg.next
 have b:=hg.jn;refine Yg KD ?_;simp[KD];(with_reducible repeat' first|refine Xk ?_<;>try simp|refine Xs ?_ ?_<;>intro h<;>(try intro f)<;>(try simp[h])<;>try omega|refine Xg ?_|omega)
 all_goals first
  | (simp only[l5];rw[if_pos (by omega)])
  | skip
 .rename_i h;have:=hg.turns d (by omega) (by omega);have a:=hg.row (gt g.next (gt g.jn d)) (gq (by omega) (by omega));refine fQ ?_;simp only[l5];rw[if_neg (by omega)];simp
 .rename_i h;have a:=hg.row (gt g.next d) (gq (by omega) (by omega));refine fQ ?_;simp only[l5];rw[if_neg (by omega)];simp[h]
theorem f110(p q:Pos)(b:Small p)(a:Small q):Wf T 162 [dP p,dP q] [] (Is (.b (decide (p=q)))):=by refine Yg I9 ?_;simp[I9];refine Yc (f50 p q b a) ?_;simp;rw[rj]
set_option maxHeartbeats 1000000
theorem f64(l:List Pos)(hl:l.length<2 ^ 40)(hs:∀p∈l,Small p):Wf T 83 [gQ l] [] (Is (.b (decide (kL l)))):=by
 refine Yg Ld ?_;simp[Ld];refine fZ.j (1:Int) (λi=>[(0,gQ l),(3,.i i)]) (λ_=>_) (λi=>1<=i/\(i<=l.length\/i=1)/\∀k:Int,1<=k->k<i->iw (gt l (k-1)) (gt l k)<0) (λi=>l.length-i.toNat) ?_ (by simp) (by first|rfl|simp) rfl ?_
 .simp;omega
 rintro i ⟨h0,h1,c⟩;simp;refine jU ?_ ?_<;>intro h
 .skip;refine Yt (f50 (gt l (i-1)) (gt l i) (hs _ (gq (by omega) (by omega))) (hs _ (gq (by omega) (by omega)))) ?_;simp;refine jU ?_ ?_<;>intro h
  .intro b;have:=b i h0 ‹_›;omega
  .grind
 .intro k a d;exact c k a (by omega)
theorem f27(l:List Pos)(p:Pos)(hl:l.length<2 ^ 40)(hs:∀p∈l,Small p)(m:Small p)(g:kL l):Wf T 86 [gQ l,dP p] [] (Is (.i (pk l p))):=by
 refine Yg KV ?_;simp[KV];refine fZ.j ((0,(l.length:Int)):Int×Int) (λx=>[(0,gQ l),(3,.ptr 0 0 0),(5,.i x.1),(6,.i x.2)]) (λ_=>[.row 46 0 p.cells]) (λx=>0<=x.1/\x.1<=x.2/\x.2<=l.length/\∀k:Int,0<=k->k<l.length->gt l k=p->x.1<=k/\k<x.2) (λx=>(x.2-x.1).toNat) ?_ (by simp) rfl rfl ?_
 .simp;omega
 rintro⟨a,b⟩ ⟨h0,h1,q,f⟩;simp at h0 h1 q f;simp;refine jU ?_ ?_<;>intro h
 .rw[uH (by omega) (by omega) (by omega)];refine fQ ?_;refine Yt (f50 p (gt l ((a+b) / 2)) m (hs _ (gq (by omega) (by omega)))) ?_;simp;(with_reducible repeat' first|refine Xk ?_<;>try simp|refine Xs ?_ ?_<;>intro h<;>(try intro s)<;>(try simp[h])<;>try omega|refine Xg ?_|omega)
  .rw[rj]at h;rw[h,aeE g (by omega) (by omega)]
  .have r:∀k:Int,(a+b) / 2<=k->k<l.length->gt l k≠p:=λk d c e=>by
    by_cases j:k=(a+b) / 2
    .subst j;rw[e,uW]at h;omega
    .have:=yY h (g.le (by omega) (show(a+b) / 2<k by omega) c);rw[e,uW]at this;omega
   intro k d c e;have:=f k d c e
   by_cases i:(a+b) / 2<=k
   .grind
   .omega
  .have o:iw (gt l ((a+b) / 2)) p<0:=by rw[uX];omega
   have r:∀k:Int,0<=k->k<=(a+b) / 2->gt l k≠p:=λk d c e=>by
    by_cases j:k=(a+b) / 2
    .grind
    .have:=yY (g.le d (show k<(a+b) / 2 by omega) (by omega)) o;rw[e,uW]at this;omega
   intro k d c e;have:=f k d c e
   by_cases i:k<=(a+b) / 2
   .grind
   .omega
 .rw[Wd];intro n;obtain⟨k,d,c,e⟩:=vL.1 n;have:=f k d c e;omega
theorem f111(g:fY)(l:List Int)(hg:gN g)(hl:rN g l):Wf T 138 [dG g,dI l] [] (Is (.b true)):=by
 have d:=hg.kinds;have c:=hl.len;refine Yg I' ?_;simp[I'];(with_reducible repeat' first|refine Xk ?_<;>try simp|refine Xs ?_ ?_<;>intro h<;>(try intro a)<;>(try simp[h])<;>try omega|refine Xg ?_|omega);refine fZ.j (0:Int) (λi=>[(1,dI l),(2,.ptr 0 0 0),(5,.i i)]) (λi=>[.row 43 0 g.cells]) (λi=>0<=i/\i<=l.length) (λi=>l.length-i.toNat) ?_ (by simp) (by first|rfl|simp) rfl ?_
 .simp
 rintro i ⟨h0,h1⟩;simp;(with_reducible refine Xs ?_ ?_<;>intro h<;>(try intro a)<;>(try simp[h])<;>(try omega))
 .have b:=hl.at_ i h0 ‹_›;(with_reducible repeat' first|refine Xk ?_<;>try simp|refine Xs ?_ ?_<;>intro h<;>(try intro a)<;>(try simp[h])<;>try omega|refine Xg ?_|omega);have:=b.2.2
  all_goals simp_all
  all_goals omega
theorem f65(g:fY)(p:Pos)(hg:gN g)(a:ij g p):Wf T 84 [dG g,dP p] [] (Is (.b true)):=by
 have e:=hg.kinds;have c:=hg.gD;have h1:=a.size;have l:=a.gD;have k:=a.side;have f:=hg.jB.size;have b:=Tl c.1 (by omega);refine Yg Le ?_;simp[Le,h1];refine Yt (f111 g _ hg a.h0) ?_;simp[h1];refine Yt (f111 g _ hg a.h1) ?_;simp[h1];(with_reducible repeat' first|refine Xk ?_<;>try simp[b]|refine Xs ?_ ?_<;>intro h<;>(try intro d)<;>(try simp[h,b])<;>try omega|refine Xg ?_|omega);refine fZ.j (0:Int) (λi=>[(2,.ptr 0 0 0),(3,.ptr 1 0 0),(5,.i i)]) (λi=>[.row 43 0 g.cells,.row 46 0 p.cells]) (λi=>0<=i/\i<=p.cs.length) (λi=>p.cs.length-i.toNat) ?_ (by simp) (by first|rfl|simp) rfl ?_
 .simp
 rintro i ⟨h0,j⟩;simp;(with_reducible refine Xs ?_ ?_<;>intro h<;>(try intro d)<;>(try simp[h])<;>(try omega));have b:=a.cs _ (gq h0 ‹_›);exact mE
end Go.Proofs.YtmehofoficaelaaGreatDoor
namespace Go.AL
open Go
def Ex{α:Type}(g:α->D)(Q:α->Prop):D->U->Prop:=λd H=>∃r,d=g r/\H = []/\Q r
@[simp] theorem aoh{α:Type}(g:α->D)(Q:α->Prop)(d:D)(H:U):Ex g Q d H = ∃r,d=g r/\H = []/\Q r:=(rfl)
section
variable{T:il}{f:FuncId}{args oq:List D}{dst:Option Nat}{s:St}{K:St->Prop}{fn:je}
theorem gj.q{α:Type}{g:α->D}{Q:α->Prop}(i:T.fn f=some fn)(e:fn.full=false)(h:Wf T f args [] (Ex g Q))
  (a:gw args=true) (b:∀r,closed (g r)=true) (k:∀r,Q r->K { s with env:=put s.env dst (g r) }):gj T f args dst s K .mk:=by
 refine gj.is i e (K0:=Ex g Q) ?_ ?_
 .have l:args.map (gd (λ_=>none) s.H 40)=args:=by
   conv=>rhs;rw[<-aY args]
   exact au λd j=>p5 (lH a d j)
  rw[l];exact h
 .rintro d Hn ⟨r,rfl,rfl,c⟩;obtain⟨k1,k2⟩:=FD (H:=s.H) (b r);refine⟨{ s with env:=put s.env dst (g r) },?_,k r c⟩;unfold after;rw[if_pos a,k1,k2];simp
theorem aln{d:D}(a:flat d=true)(_:closed d=true):oH d=true:=(P1 (H:=[]) a).1
theorem gj.rq{α:Type}{g:α->D}{Q:α->Prop}(i:T.fn f=some fn)(e:fn.full=false)(h:Wf T f oq [] (Ex g Q))
  (hs:args.map (gd (λ_=>none) s.H 40)=oq) (b:∀r,flat (g r)=true) (a:∀r,closed (g r)=true) (k:∀r,Q r->K { s with env:=put s.env dst (g r) }):gj T f args dst s K .mk:=by
 refine gj.is i e (K0:=Ex g Q) (by rw[hs];exact h) ?_;rintro d Hn ⟨r,rfl,rfl,c⟩;obtain⟨k1,k2⟩:=FD (H:=s.H) (a r);refine⟨{ s with env:=put s.env dst (g r) },?_,k r c⟩;unfold after;rw[aln (b r) (a r),k1,k2];simp
end
section
variable{T:il}{f:FuncId}{args:List D}{dst:Option Nat}{s:St}{K:St->Prop}{fn:je}
theorem gj.n{d:D}{Hn:U}(e:T.fn f=some fn)(c:fn.full=false)(h:Wf T f args [] λd' H'=>d'=d/\H'=Hn)
  (a:gw args=true) (b:(mL d&&Hn.all nY)=true) (k:K { s with env:=put s.env dst (ku s.H.length d),H:=s.H++Hn }):gj T f args dst s K .mk:=by
 refine gj.is e c (K0:=λd' H'=>d'=d/\H'=Hn) ?_ ?_
 .have i:args.map (gd (λ_=>none) s.H 40)=args:=by
   conv=>rhs;rw[<-aY args]
   exact au λd g=>p5 (lH a d g)
  rw[i];exact h
 .rintro d' j ⟨rfl,rfl⟩;refine⟨_,?_,k⟩;unfold after;rw[if_pos a,if_pos b]
theorem wm.n{R:List Fp}{Q:Rc->St->Prop}{d:D}{ob:Ob}(e:T.fn f=some fn)(c:fn.full=false)(h:Wf T f args [] λd' H'=>d'=d/\H' = [ob])
  (a:gw args=true) (b:(mL d&&nY ob)=true) (k:Q ⟨R,[(s.H.length,none)]⟩ { s with env:=put s.env dst (ku s.H.length d),H:=s.H ++ [ob] }):tY T f args R dst s Q .mk:=by
 have i:args.map (gd (λ_=>none) s.H 40)=args:=by
  conv=>rhs;rw[<-aY args]
  exact au λd g=>p5 (lH a d g)
 exact .inl (.inr ⟨fn,d,ob,e,c,by rw[i];exact h,by rw[if_pos a];exact b,k⟩)
theorem wm.c{R:List Fp}{Q:Rc->St->Prop}{x:D}(c:T.fn f=some fn)(b:fn.full=false)(h:Wf T f args [] λd H'=>d=x/\H' = [])
  (e:gw args=true) (a:closed x=true) (k:Q ⟨R,[]⟩ { s with env:=put s.env dst x }):tY T f args R dst s Q .mk:=.inl (.inl (iW.c c b h e a k))
theorem tY.z{oq:List D}{R:List Fp}{Q:Rc->St->Prop}{d:D}(v:Nat)(e:T.fn f=some fn)(c:fn.full=false)(h:Wf T f oq [] (Is d))(hs:args.map (gd (λ_=>none) s.H 40)=oq)
  (a:(args.map (iv s.H 40)).flatten = [v]) (i:(rowsOf s.H v).isSome=true) (g:gw oq=true) (b:closed d=true) (k:Q ⟨R,[(v,none)]⟩ { s with env:=put s.env dst d,H:=s.H.set v .dead }):tY T f args R dst s Q .mk:=
 .inr ⟨fn,d,v,e,c,by rw[a];simp,by rw[a];simp,i,by rw[hs];exact g,by rw[hs];exact h,b,k⟩
@[simp] theorem aww(ds:List D):mL (.agg ds)=ds.all (yl closed):=rfl
@[simp] theorem awy(ds:List D):mL (.tup ds)=ds.all (yl closed):=rfl
@[simp] theorem awx(v g sz off n:Nat):mL (.fM v g sz off n)=true:=rfl
@[simp] theorem awm(p:D->Bool)(v g sz off n:Nat):yl p (.fM v g sz off n)=true:=rfl
@[simp] theorem awl(l:List Int):yl closed (dI l)=true:=by show closed (dI l)=true;simp
@[simp] theorem awn(v:Value):yl closed (.val v)=true:=by show closed (.val v)=true;simp
@[simp] theorem asf(t g:Nat)(cs:List D):nY (.row t g cs)=gw cs:=rfl
@[simp] theorem au9(n:Nat)(ds:List D):ku n (.agg ds) = .agg (ds.map (ye n)):=rfl
@[simp] theorem avb(n:Nat)(ds:List D):ku n (.tup ds) = .tup (ds.map (ye n)):=rfl
@[simp] theorem ava(n v g sz off k:Nat):ku n (.fM v g sz off k) = .fM (v+n) g sz off k:=rfl
@[simp] theorem avd(n v g sz off k:Nat):ye n (.fM v g sz off k) = .fM (v+n) g sz off k:=rfl
@[simp] theorem avc(n:Nat)(l:List Int):ye n (dI l)=dI l:=by unfold dI;rfl
@[simp] theorem ave(n:Nat)(v:Value):ye n (.val v) = .val v:=rfl
end
instance:Fl gg.cells 8:=⟨λ_=>rfl,λs=>by simp[gg.cells,gw]⟩
instance:Fl gJ.cells 6:=⟨λ_=>rfl,λs=>by simp[gJ.cells,gw]⟩
@[simp] theorem ar6(l:List gg)(a b c:List Int)(r q k u:Int)(t:Bool):cl gg.cells l ++ [dI a,dI b,dI c,.i r,.i q,.i k,.i u,.b t]=cl gg.cells (l ++ [⟨⟨a,b,c,r,q⟩,k,u,t⟩]):=by rw[<-pL];rfl
@[simp] theorem ar2(l:List gJ)(a b c:List Int)(r q:Int)(t:Bool):cl gJ.cells l ++ [dI a,dI b,dI c,.i r,.i q,.b t]=cl gJ.cells (l ++ [⟨⟨a,b,c,r,q⟩,t⟩]):=by rw[<-pL];rfl
@[simp] theorem ayB(s:gg):gg.mk s.p s.kind s.cur s.jF=s:=rfl
@[simp] theorem awO(s:gJ):gJ.mk s.p s.jF=s:=rfl
attribute [simp] gg.cells gJ.cells
theorem Yq{T:il}{f:FuncId}{args:List D}{dst:Option Nat}{s:St}{K:St->Prop}{fn:je}{α:Type}{g:α->D}{Q:α->Prop}(h:Wf T f args [] (Ex g Q))(k:∀r,Q r->K { s with env:=put s.env dst (g r) })
  (c:T.fn f=some fn:=by exact rfl) (b:fn.full=false:=by exact rfl) (d:gw args=true:=by simp) (a:∀r,closed (g r)=true:=by intro;simp):gj T f args dst s K .mk:=gj.q c b h d a k
theorem Yn{T:il}{f:FuncId}{args:List D}{dst:Option Nat}{s:St}{K:St->Prop}{fn:je}{d:D}{Hn:U}(h:Wf T f args [] λd' H'=>d'=d/\H'=Hn)(k:K { s with env:=put s.env dst (ku s.H.length d),H:=s.H++Hn })
  (c:T.fn f=some fn:=by exact rfl) (b:fn.full=false:=by exact rfl) (e:gw args=true:=by simp) (a:(mL d&&Hn.all nY)=true:=by simp):gj T f args dst s K .mk:=gj.n c b h e a k
end Go.AL
namespace Go.AL
open Go
def kq(l:List gg):D:=.sl 8 (l.map gg.cells)
def nM(l:List gJ):D:=.sl 6 (l.map gJ.cells)
@[simp] theorem ayh(l:List gg):D.sl 8 (l.map gg.cells)=kq l:=by unfold kq;rfl
@[simp] theorem aye(l:List gJ):D.sl 6 (l.map gJ.cells)=nM l:=by unfold nM;rfl
section
variable{l:List gg}{n:Int}{k:IntKind}{P:D->Prop}{H:U}
@[simp] theorem asu:closed (kq l)=true:=by unfold kq;exact xB l
@[simp] theorem au3:mK .slice (kq l) H=some (.i l.length):=by simp only[kq,YL,List.length_map]
@[simp] theorem ayQ(n:Nat):ji n (kq l) = []:=by unfold kq;rfl
@[simp] theorem arJ:cellsOf (kq l)=some [kq l]:=by unfold kq;rfl
@[simp] theorem av4:oA (mB 8 (kq l) (.val (.int k n))) P .mk=((0<=n/\n<l.length)/\P (.gi (gt l n).cells)):=by unfold kq;exact yk
end
section
variable{l:List gJ}{n:Int}{k:IntKind}{P:D->Prop}{H:U}
@[simp] theorem asr:closed (nM l)=true:=by unfold nM;exact xB l
@[simp] theorem au0:mK .slice (nM l) H=some (.i l.length):=by simp only[nM,YL,List.length_map]
@[simp] theorem ayt:kR 6 H (nM l)=some (cl gJ.cells l,l.length):=by unfold nM;exact Il ..
@[simp] theorem ayM(n:Nat):ji n (nM l) = []:=by unfold nM;rfl
@[simp] theorem av1:oA (mB 6 (nM l) (.val (.int k n))) P .mk=((0<=n/\n<l.length)/\P (.gi (gt l n).cells)):=by unfold nM;exact yk
end
@[simp] theorem ayc:D.sl 8 []=kq []:=by unfold kq;rfl
@[simp] theorem ayb:D.sl 6 []=nM []:=by unfold nM;rfl
@[simp] theorem atm{ρ:Nat->Option Nat}{H:U}{k:Nat}{t:TypeId}{a b c:List Int}{r q w u:Int}{o:Bool}:mG ρ H (k+1) 8 0 1 (some (t,[dI a,dI b,dI c,.i r,.i q,.i w,.i u,.b o]))=kq [⟨⟨a,b,c,r,q⟩,w,u,o⟩]:=by have h:=u6 (f:=gg.cells) (ρ:=ρ) (H:=H) (k:=k) (t:=t) (l:=[⟨⟨a,b,c,r,q⟩,w,u,o⟩]) (n:=1) rfl;rw[nX]at h;unfold kq;exact h
def xG(S:List Nat):Nat->U->ny
 | _,[]=>[]
 | i,_::r=>(i,!S.contains i)::xG S (i+1) r
@[simp] theorem as6(S:List Nat)(i:Nat):xG S i [] = []:=rfl
@[simp] theorem as5(S:List Nat)(i:Nat)(o:Ob)(r:U):xG S i (o::r)=(i,!decide (i∈S))::xG S (i+1) r:=by rw[xG,cZ]
theorem aeL(H:U)(S:List Nat):mm H S=xG S 0 H:=by
 have key:∀(H:U) (i:Nat),(List.range' i H.length).map (λv=>(v,!(S.contains v)))=xG S i H:=by
  intro H
  induction H with
  | nil=>intro i;rfl
  | cons o r a=>intro i;rw[aH,cH,List.map_cons,a,xG]
 rw[mm,cK,key]
def P5(env:Env)(H:U)(m:List Nat)(r:Bool)(ks:ny):St:={ env:=env.map λp=>(p.1,gd (iB ks) H 40 p.2),H:=ks.map λp=>if p.2 then uL (iB ks) H H[p.1]? else .dead,marks:=m,iq:=r }
@[simp] theorem atg(S:List Nat)(env:Env)(H:U)(m:List Nat)(r:Bool):lW S { env:=env,H:=H,marks:=m,iq:=r }=P5 env H m r (xG S 0 H):=by unfold lW P5;rw[aeL];rfl
@[simp] theorem atc(env:Env)(H:U)(m:List Nat)(r:Bool)(ks:ny):P5 env H m r ks = { env:=env.map λp=>(p.1,gd (iB ks) H 40 p.2),H:=ks.map λp=>if p.2 then uL (iB ks) H H[p.1]? else .dead,marks:=m,iq:=r }:=rfl
section
variable{T:il}
def P6(S:List Nat)(T:il)(b:IR)(K:iQ):iQ:=λo=>match o with
 | .norm s=>s.marks = []/\XC T b (lW S s) K
 | o=>K o
@[simp ↓] theorem ate{S:List Nat}{b:IR}{K:iQ}{s:St}:P6 S T b K (.norm s)=(s.marks = []/\XC T b (lW S s) K):=(rfl)
@[simp ↓] theorem atd{S:List Nat}{b:IR}{K:iQ}{id:Nat}{s:St}:P6 S T b K (.exit id s)=K (.exit id s):=(rfl)
@[simp ↓] theorem atf{S:List Nat}{b:IR}{K:iQ}{s:St}:P6 S T b K (.ret s)=K (.ret s):=(rfl)
theorem fZ.fz{live:List Nat}{a:IR}{s:St}{K:iQ}(S:List Nat)(b:s.marks = [])(h:fZ T live a (lW S s) K .mk):fZ T live a s K .mk:=Wc.lW S (by rw[b];exact agX _) h
end
theorem YN{g:fY}{s d c:Int}:∀(n:Nat) (x:Int) (out:List Int),(tG g s d c n x out).length<=out.length+n
 | 0,x,out=>by simp[tG]
 | n+1,x,out=>by
  unfold tG;split
  .have:=YN (g:=g) (s:=s) (d:=d) (c:=c) n (l5 g s d x) (out ++ [x]);simp at this;omega
  .omega
theorem Sa{g:fY}{s d c:Int}:(lk g s d c).length<=10:=by have:=YN (g:=g) (s:=s) (d:=d) (c:=c) 10 (l5 g s d c) [];simpa[lk]using this
theorem YO{s:gg}:∀l:List Int,(pX s l).length<=l.length
 | []=>by simp[pX]
 | c::r=>by have:=YO (s:=s) r;unfold pX;split<;>simp<;>omega
theorem EA{g:fY}{s:gg}{x:fO}:(iT g s x).length<=10:=by
 have:=YO (s:=s) (lk g s.p.side x.2 s.cur);have:=Sa (g:=g) (s:=s.p.side) (d:=x.2) (c:=s.cur);unfold iT sX tP;dsimp only
 repeat' split
 all_goals first|omega|(simp only[aH,cV];omega)
end Go.AL
namespace Go.Proofs.YtmehofoficaelaaGreatDoor
open Go Go.AL Classical
set_option maxRecDepth 10000
set_option maxHeartbeats 1000000
structure qz(a b:List Pos)(i k:Int)(out:List Pos):Prop where
 i0:0<=i/\i<=a.length
 k0:0<=k/\k<=b.length
 len:(out.length:Int)=i+k
 perm:out.Perm (a.take i.toNat++b.take k.toNat)
 ws:WS out
 le:∀x∈out,∀y,y∈a.drop i.toNat\/y∈b.drop k.toNat->iw x y<=0
theorem qz.init(a b:List Pos):qz a b 0 0 []:=⟨by omega,by omega,rfl,by simp,by simp[WS],by simp⟩
theorem abe{a:List Pos}(h:WS a){i:Int}(h0:0<=i)(h1:i<a.length){y:Pos}(b:y∈a.drop i.toNat):iw (gt a i) y<=0:=by
 have c:WS (a.drop i.toNat):=fE (List.drop_sublist _ _) h;rw[nN h0 h1]at b c;rcases aw.1 b with rfl|b
 .rw[uW];omega
 .exact(bg.1 c).1 y b
theorem ag5{α:Type}[Inhabited α]{a:List α}{i:Int}(h0:0<=i)(h1:i<a.length){y:α}:y∈a.drop i.toNat↔y=gt a i\/y∈a.drop (i+1).toNat:=by rw[nN h0 h1,aw,show(i+1).toNat=i.toNat+1 by omega]
theorem qz.add{a b:List Pos}{i k:Int}{out:List Pos}(f:qz a b i k out)(hi:i<a.length)(g:WS a)(h:∀y∈b.drop k.toNat,iw (gt a i) y<=0):qz a b (i+1) k (out ++ [gt a i]):=by
 have h0:=f.i0;have e:∀y,y∈a.drop i.toNat↔y=gt a i\/y∈a.drop (i+1).toNat:=λy=>ag5 h0.1 hi;refine⟨by omega,f.k0,by have:=f.len;simp;omega,?_,?_,λx d y c=>?_⟩
 .rw[jd h0.1 hi,aJ];refine(f.perm.append_right _).trans ?_;rw[aJ];exact List.Perm.append_left _ fF
 .refine bN.2 ⟨f.ws,by simp,λx d y c=>?_⟩;simp at c;subst c;exact f.le x d _ (.inl ((e _).2 (.inl rfl)))
 .rcases List.mem_append.1 d with d|d
  .exact f.le x d y (c.imp (λh=>(e _).2 (.inr h)) id)
  .simp at d;subst d;rcases c with c|c
   .exact abe g h0.1 hi ((e _).2 (.inr c))
   .exact h y c
theorem qz.swap{a b:List Pos}{i k:Int}{out:List Pos}(c:qz a b i k out):qz b a k i out:=
 ⟨c.k0,c.i0,by have:=c.len;omega,c.perm.trans fF,c.ws,λx e y d=>c.le x e y d.symm⟩
theorem qz.Tu{a b:List Pos}{i k:Int}{out:List Pos}(d:qz a b i k out)(hi:i<a.length)(g:WS a)(f:WS b)(h:k<b.length->iw (gt a i) (gt b k)<=0):qz a b (i+1) k (out ++ [gt a i]):=by
 refine d.add hi g λy c=>?_
 by_cases e:k<b.length
 .exact U6 (h e) (abe f d.k0.1 e c)
 .rw[bw (by have:=d.k0;omega)]at c;cases c
theorem qz.aaL{a b:List Pos}{i k:Int}{out:List Pos}(f:qz a b i k out)(c:k<b.length)(e:WS a)(d:WS b)(h:i<a.length->¬iw (gt a i) (gt b k)<=0):qz a b i (k+1) (out ++ [gt b k]):=by refine(f.swap.Tu c d e λhi=>?_).swap;have:=h hi;rw[uX];omega
theorem f109:∀(n:Nat) (l:List Pos),l.length=n->l.length<2 ^ 40->(∀p∈l,Small p)->Wf T 161 [gQ l] [] (Ex gQ λr=>r.Perm l/\WS r):=by
 intro n
 induction n using Nat.strongRecOn with
 | ind n g=>
 intro l w hl hs;refine Yg I7 ?_;simp[I7];(with_reducible refine Xs ?_ ?_<;>intro h<;>(try intro j)<;>(try simp[h])<;>(try omega))
 .refine⟨l,rfl,List.Perm.refl _,?_⟩;unfold WS
  cases l with
  | nil=>simp
  | cons a l=>cases l with
   | nil=>simp
   | cons b l=>simp at h;omega
 .rw[uH (by omega) (by omega) (by omega)];refine fQ ?_;refine Yq (g (l.length / 2) (by omega) _ (by simp;omega) (by simp;omega) (λp d=>hs p (aS d))) λa f=>?_;simp;rw[uH (by omega) (by omega) (by omega)];refine fQ ?_;refine Yq (g (l.length-l.length / 2) (by omega) _ (by simp;omega) (by simp;omega) (λp d=>hs p (bq (aS d)))) λb e=>?_;simp;have v:(a.length:Int)=l.length / 2:=by rw[f.1.length_eq];simp;omega
  have u:(b.length:Int)=l.length-l.length / 2:=by rw[e.1.length_eq];simp;omega
  have q:∀p∈a,Small p:=λp d=>hs p (aS ((f.1.mem_iff).1 d));have o:∀p∈b,Small p:=λp d=>hs p (bq (aS ((e.1.mem_iff).1 d)));refine fZ.j ((0,0,[]):Int×Int×List Pos) (λx=>[(3,gQ a),(4,gQ b),(5,.fM 0 x.2.2.length 5 0 x.2.2.length),(6,.i x.1),(7,.i x.2.1)]) (λx=>[.row 46 x.2.2.length (cl Pos.cells x.2.2)]) (λx=>qz a b x.1 x.2.1 x.2.2) (λx=>a.length+b.length-(x.1+x.2.1).toNat) ?_ (by simp) (by first|rfl|simp) rfl ?_
  .exact qz.init a b
  rintro⟨i,k,out⟩ c;have h0:=c.i0;have h1:=c.k0;have s:=c.len;dsimp only at c h0 h1 s ⊢;simp;(with_reducible repeat' first|refine Xk ?_<;>try simp|refine Xs ?_ ?_<;>intro h<;>(try intro j)<;>(try simp[h])<;>try omega|refine Xg ?_|omega)
  .exact⟨i+1,k,_,by simp,rfl,rfl,by simp,rfl,by omega,c.Tu (by assumption) f.2 e.2 λh=>by omega⟩
  .refine Yt (f50 _ _ (q _ (gq (by omega) (by omega))) (o _ (gq (by omega) (by omega)))) ?_;simp[*];(with_reducible repeat' first|refine Xk ?_<;>try simp|refine Xs ?_ ?_<;>intro h<;>(try intro j)<;>(try simp[h])<;>try omega|refine Xg ?_|omega)
   .exact⟨i+1,k,_,by simp,rfl,rfl,by simp,rfl,by omega,c.Tu (by assumption) f.2 e.2 λ_=>by assumption⟩
   .exact⟨i,k+1,_,by simp,rfl,rfl,by simp,rfl,by omega,c.aaL (by omega) f.2 e.2 λ_=>by assumption⟩
  .exact⟨i,k+1,_,by simp,rfl,rfl,by simp,rfl,by omega,c.aaL (by omega) f.2 e.2 λ_=>by omega⟩
  .refine⟨out,rfl,?_,c.ws⟩;have m:=c.perm;rw[kW (by omega),kW (by omega)]at m;refine m.trans ((List.Perm.append f.1 e.1).trans ?_);have t:(l.drop (↑l.length / 2:Int).toNat).take (l.length-(↑l.length / 2:Int).toNat)=l.drop (↑l.length / 2:Int).toNat:=af (by rw[aR];exact Nat.le_refl _);rw[t,bU]
structure wi(a:List Pos)(i:Int)(out:List Pos):Prop where
 i0:0<=i/\i<=a.length
 len:(out.length:Int)<=i
 mem:∀q,q∈out↔q∈a.take i.toNat
 st:out.Pairwise λx y=>iw x y<0
theorem wi.init(a:List Pos):wi a 0 []:=⟨by omega,by simp,by simp,by simp⟩
theorem abf{a:List Pos}(h:WS a){j:Int}(h0:0<=j)(h1:j<a.length){x:Pos}(b:x∈a.take (j+1).toNat):iw x (gt a j)<=0:=by
 have c:WS (a.take (j+1).toNat):=fE (List.take_sublist _ _) h;rw[jd h0 h1]at b c;rcases List.mem_append.1 b with b|b
 .exact(bN.1 c).2.2 x b _ (by simp)
 .simp at b;subst b;rw[uW];omega
theorem wi.skip{a:List Pos}{i:Int}{out:List Pos}(b:wi a i out)(hi:i<a.length)(h1:i≠0)(h:gt a i=gt a (i-1)):wi a (i+1) out:=by have h0:=b.i0;refine⟨by omega,by have:=b.len;omega,λq=>?_,b.st⟩;rw[b.mem,jd h0.1 hi,List.mem_append,List.mem_singleton];refine⟨.inl,λc=>c.elim id λc=>?_⟩;rw[c,h];have:=jd (l:=a) (n:=i-1) (by omega) (by omega);rw[show i-1+1=i by omega]at this;rw[this];simp
theorem wi.add{a:List Pos}{i:Int}{out:List Pos}(c:wi a i out)(hi:i<a.length)(f:WS a)(h:i=0\/gt a i≠gt a (i-1)):wi a (i+1) (out ++ [gt a i]):=by
 have h0:=c.i0;refine⟨by omega,by have:=c.len;simp;omega,λq=>?_,bN.2 ⟨c.st,by simp,λx b y d=>?_⟩⟩
 .rw[List.mem_append,c.mem,jd h0.1 hi,List.mem_append]
 .simp at d;subst d;have b:=(c.mem x).1 b;rcases h with rfl|h
  .simp at b
  .by_cases g:i=0
   .subst g;simp at b
   have p:=abf f (j:=i-1) (by omega) (by omega) (x:=x) (by rw[show i-1+1=i by omega];exact b)
   have o:=abf f h0.1 hi (x:=gt a (i-1)) (by
    have:=jd (l:=a) (n:=i-1) (by omega) (by omega);rw[show i-1+1=i by omega]at this
    rw[jd h0.1 hi,this];simp)
   have m:iw (gt a (i-1)) (gt a i)≠0:=λe=>h (rj.1 e).symm
   by_cases k:iw x (gt a (i-1))=0
   .rw[rj.1 k];omega
   .exact yY (show iw x (gt a (i-1))<0 by omega) (by omega)
theorem anF{r:List Pos}(h:r.Pairwise λx y=>iw x y<0):kL r:=by intro i h1 a;rw[jb (by omega) (by omega),jb (by omega) (by omega)];exact bG.1 h _ _ _ _ (by omega)
theorem f61(l:List Pos)(hl:l.length<2 ^ 40)(hs:∀p∈l,Small p):Wf T 101 [gQ l] [] (Ex gQ λr=>kL r/\r.length<=l.length/\∀q,q∈r↔q∈l):=by
 refine Yg Lb ?_;simp[Lb];refine Yq (f109 _ l rfl hl hs) λa c=>?_;simp;have f:a.length=l.length:=c.1.length_eq;have d:∀p∈a,Small p:=λp e=>hs p (c.1.mem_iff.1 e);refine fZ.j ((0,[]):Int×List Pos) (λx=>[(3,gQ a),(4,.fM 0 x.2.length 5 0 x.2.length),(5,.i x.1)]) (λx=>[.row 46 x.2.length (cl Pos.cells x.2)]) (λx=>wi a x.1 x.2) (λx=>a.length-x.1.toNat) ?_ (by simp) (by first|rfl|simp) rfl ?_
 .exact wi.init a
 rintro⟨i,out⟩ b;have h0:=b.i0;have h1:=b.len;dsimp only at b h0 h1 ⊢;simp;(with_reducible repeat' first|refine Xk ?_<;>try simp|refine Xs ?_ ?_<;>intro h<;>(try intro g)<;>(try simp[h])<;>try omega|refine Xg ?_|omega)
 .exact⟨1,_,by simp,rfl,by simp,rfl,by omega,by subst h;exact b.add (by assumption) c.2 (.inl rfl)⟩
 .refine Yt (f110 _ _ (d _ (gq (by omega) (by omega))) (d _ (gq (by omega) (by omega)))) ?_;simp;refine jU ?_ ?_<;>intro h
  .exact⟨i+1,_,rfl,rfl,rfl,rfl,by omega,b.skip (by assumption) (by assumption) (by assumption)⟩
  .exact⟨i+1,_,by simp,rfl,by simp,rfl,by omega,b.add (by assumption) c.2 (.inr (by assumption))⟩
 .refine⟨out,rfl,anF b.st,by omega,λq=>?_⟩;rw[b.mem,kW (by omega),c.1.mem_iff]
end Go.Proofs.YtmehofoficaelaaGreatDoor
namespace Go.AL
open Go
def R4(H:U)(d:D)(ks:ny):D×U:=(gd (iB ks) H 40 d,ks.map λp=>if p.2 then uL (iB ks) H H[p.1]? else .dead)
@[simp] theorem auS(H:U)(d:D)(ks:ny):R4 H d ks=(gd (iB ks) H 40 d,ks.map λp=>if p.2 then uL (iB ks) H H[p.1]? else .dead):=rfl
def Eb(own n:Nat)(H:U)(d:D):List Nat:=match own with|0=>[]|1=>Ec n d|3=>((iv H 40 d).filter (n<=·)).take 1|_=>(iv H 40 d).filter (n<=·)
@[simp] theorem awP(n:Nat)(H:U)(d:D):Eb 0 n H d = []:=rfl
@[simp] theorem awQ(n:Nat)(H:U)(d:D):Eb 1 n H d=Ec n d:=rfl
@[simp] theorem awR(n:Nat)(H:U)(d:D):Eb 2 n H d=(iv H 40 d).filter (n<=·):=rfl
@[simp] theorem awS(n:Nat)(H:U)(d:D):Eb 3 n H d=((iv H 40 d).filter (n<=·)).take 1:=rfl
@[simp low] theorem agx{own n:Nat}{H:U}{d:D}(h:¬H.length<=n)(a:¬own=4):leave own n H d=R4 H d (iV n (dedup ((Eb own n H d++((H.take n).map (oG n)).flatten).filter (· < H.length)))):=by unfold leave R4 Eb;rw[if_neg (by omega)];rfl
@[simp] theorem awT(n v g sz len:Nat):Ec n (.fM v g sz 0 len)=if n<=v then [v]else []:=rfl
theorem N9{H:U}{k:Nat}{d:D}(h:closed d=true):iv H k d = []:=by
 cases k with
 | zero=>rfl
 | succ k=>unfold iv;exact if_pos h
theorem SZ{H:U}{k:Nat}{cs:List D}(h:gw cs=true):(cs.map (iv H k)).flatten = []:=by
 induction cs with
 | nil=>rfl
 | cons d r a=>
  simp only[gw,Bool.and_eq_true]at h;simp[N9 h.1,a h.2]
@[simp] theorem axd{H:U}{k:Nat}{d:D}(h:closed d=true):iv H k d = []:=N9 h
@[simp] theorem axb(H:U)(k:Nat)(cs:List D):iv H (k+1) (.agg cs)=(cs.map (iv H k)).flatten:=by
 by_cases h:closed (.agg cs)=true
 .rw[N9 h,SZ (by simpa using h)]
 .rw[iv,if_neg h]
@[simp] theorem axh(H:U)(k:Nat)(cs:List D):iv H (k+1) (.tup cs)=(cs.map (iv H k)).flatten:=by
 by_cases h:closed (.tup cs)=true
 .rw[N9 h,SZ (by simpa using h)]
 .rw[iv,if_neg h]
def Ei(H:U)(k:Nat):Option Ob->List Nat
 | some (.row _ _ cs)=>(cs.map (iv H k)).flatten
 | _=>[]
@[simp] theorem axj(H:U)(k t g:Nat)(cs:List D):Ei H k (some (.row t g cs))=(cs.map (iv H k)).flatten:=rfl
@[simp] theorem axi(H:U)(k:Nat)(kk:KK)(es:List (Value×D)):Ei H k (some (.map kk es)) = []:=rfl
theorem Z8(H:U)(k v:Nat):(match rowsOf H v with|some (_,_,cs)=>(cs.map (iv H k)).flatten|none=>[])=Ei H k H[v]? := by
 unfold rowsOf Ei
 cases h:H[v]? with
 | none=>rfl
 | some o=>cases o<;>rfl
@[simp] theorem axe(H:U)(k v g sz off n:Nat):iv H (k+1) (.fM v g sz off n)=v::Ei H k H[v]? := by rw[iv,if_neg (by simp)];exact congrArg _ (Z8 H k v)
@[simp] theorem axf(H:U)(k v g off:Nat):iv H (k+1) (.ptr v g off)=v::Ei H k H[v]? := by rw[iv,if_neg (by simp)];exact congrArg _ (Z8 H k v)
@[simp] theorem axg{H:U}{k:Nat}{α:Type}{f:α->List D}{sz:Nat}[F:Fl f sz](l:List α):((cl f l).map (iv H k)).flatten = []:=SZ (ue l)
@[simp low] theorem P8{ρ:Nat->Option Nat}{H:U}{k sz:Nat}{t:TypeId}{cs:List D}(h:cs.length=sz):mG ρ H k sz 0 1 (some (t,cs)) = .sl sz [cs.map (gd ρ H k)]:=by subst h;unfold mG;simp[chunks,af]
@[simp] theorem ayi{a b c:List Int}{r q w u:Int}{o:Bool}:D.sl 8 [[dI a,dI b,dI c,.i r,.i q,.i w,.i u,.b o]]=kq [⟨⟨a,b,c,r,q⟩,w,u,o⟩]:=by unfold kq;rfl
