/- 11 -/
import Derived.Test.YtmehofoficaelaaGreatDoorV10
import Derived.Test.YtmehofoficaelaaGreatDoorV08
set_option linter.all false
open List renaming mem_singleton→aE,length_map→cc,Perm→cp,length→List.l
open Bool renaming true→bb,false→b4
open Option renaming some→bs,none→di
open Int renaming toNat→Int.n
namespace Go.AL
def lh(a b:Int):Int:=if a<b then -1 else if a>b then 1 else 0
def kS:List Int->List Int->Int
 | [],[]=>0
 | [],_::_ => -1
 | _::_,[]=>1
 | a::l,b::m=>if a=b then kS l m else lh a b
def nz:List Int->Int
 | []=>0
 | a::l=>if a≠0 then a else nz l
def iH(p q:Pos):Int:=nz [kS p.cs q.cs,kS p.h0 q.h0,kS p.h1 q.h1,lh p.gO q.gO,lh p.side q.side]
def yO{a b:Int}:lh a b=0↔a=b:=by unfold lh;(repeat' split)<;>omega
def ET{a b:Int}:lh a b<0↔a<b:=by unfold lh;(repeat' split)<;>omega
def OD(a b:Int):lh b a = - lh a b:=by unfold lh;(repeat' split)<;>omega
theorem Om:∀ {a b:List Int},kS a b=0↔a=b
 | [],[]=>by simp[kS]
 | [],_::_=>by simp[kS]
 | _::_,[]=>by simp[kS]
 | a::l,b::m=>by
  unfold kS;split
  .rename_i h;subst h;rw[Om];simp
  .rename_i h;rw[yO];simp[h]
theorem Oj:∀(a b:List Int),kS b a = - kS a b
 | [],[]=>rfl
 | [],_::_=>rfl
 | _::_,[]=>rfl
 | a::l,b::m=>by
  unfold kS
  by_cases h:a=b
  .subst h;simp[Oj l m]
  .rw[if_neg h,if_neg (cz h),OD]
theorem Ol:∀ {a b c:List Int},kS a b<0->kS b c<0->kS a c<0
 | [],[],c,h,_=>by simp[kS]at h
 | _::_,[],c,h,_=>by simp[kS]at h
 | a,_::_,[],_,h=>by simp[kS]at h
 | [],_::_,_::_,_,_=>by simp[kS]
 | a::l,b::m,c::k,h1,h2=>by
  unfold kS at *
  by_cases e:a=b
  .subst e;rw[if_pos rfl]at h1
   by_cases d:a=c
   .subst d;rw[if_pos rfl]at h2 ⊢;exact Ol h1 h2
   .rw[if_neg d]at h2 ⊢;exact h2
  .rw[if_neg e,ET]at h1
   by_cases d:b=c
   .subst d;rw[if_neg e,ET];exact h1
   .rw[if_neg d,ET]at h2;rw[if_neg U,ET];omega
theorem Qv:∀ {l:List Int},nz l=0↔∀x∈l,x=0
 | []=>by simp[nz]
 | a::l=>by
  unfold nz;split
  .rename_i h;simp[h]
  .rename_i h;rw[Qv];simp_all
def rO{p q:Pos}:iH p q=0↔p=q:=by unfold iH;rw[Qv];cases p;cases q;simp[Om,yO]
def uJ(p:Pos):iH p p=0:=rO.2 rfl
def vj(p q:Pos):iH q p = - iH p q:=by unfold iH nz;rw[Oj p.cs,Oj p.h0,Oj p.h1,OD p.gO,OD p.side];simp only[nz];(repeat' split)<;>omega
def Br{A B C:Int}{a b c:List Int}(h1:A=0->C=B)(g:B=0->C=A)(f:A<0->B<0->C<0)(h:nz a<0->nz b<0->nz c<0):nz (A::a)<0->nz (B::b)<0->nz (C::c)<0:=by
 unfold nz;intro x y
 by_cases e:A=0
 .have:=h1 e;subst this;rw[if_neg (by simpa using e)]at x
  by_cases d:C=0
  .rw[if_neg (by simpa using d)]at y ⊢;exact h x y
  .rw[if_pos d]at y ⊢;exact y
 .rw[if_pos e]at x
  by_cases d:B=0
  .have:=g d;subst this;rw[if_pos e];exact x
  .rw[if_pos d]at y;have:=f x y;rw[if_pos U];exact this
def zz{p q r:Pos}:iH p q<0->iH q r<0->iH p r<0:=by
 have key:∀a b c:List Int,kS a b=0->kS a c=kS b c:=λa b c h=>by rw[Om.1 h]
 have d:∀a b c:List Int,kS b c=0->kS a c=kS a b:=λa b c h=>by rw[Om.1 h]
 have n1:∀a b c:Int,lh a b=0->lh a c=lh b c:=λa b c h=>by rw[yO.1 h]
 have n2:∀a b c:Int,lh b c=0->lh a c=lh a b:=λa b c h=>by rw[yO.1 h]
 have e:∀a b c:Int,lh a b<0->lh b c<0->lh a c<0:=λa b c=>by simp only[ET];omega
 unfold iH;refine Br (key _ _ _) (d _ _ _) Ol (Br (key _ _ _) (d _ _ _) Ol (Br (key _ _ _) (d _ _ _) Ol (Br (n1 _ _ _) (n2 _ _ _) (e _ _ _) (Br (n1 _ _ _) (n2 _ _ _) (e _ _ _) λh=>?_))));simp[nz]at h
def Zs{a b:List Int}:∀ {i:Nat},a.take i=b.take i->i<=a.l->i<=b.l->kS a b=kS (a.drop i) (b.drop i):=by
 intro i
 induction i generalizing a b with
 | zero=>intro _ _ _;rfl
 | succ i d=>
  intro h h1 c
  cases a with
  | nil=>simp at h1
  | cons x a=>
   cases b with
   | nil=>simp at c
   | cons y b=>
    simp only[List.take_succ_cons,cY]at h;simp only[aI]at h1 c;simp only[List.drop_succ_cons,kS,h.1,if_true];exact d h.2 U U
def SB{a b:List Int}(h:a.l=0\/b.l=0):kS a b=lh a.l b.l:=by
 cases a<;>cases b<;>simp_all [kS,lh]
 all_goals omega
def Vo{p q r:Pos}(h1:iH p q<=0)(c:iH q r<=0):iH p r<=0:=by
 by_cases a:iH p q=0
 .rw[rO.1 a];exact c
 .by_cases b:iH q r=0
  .rw[<-rO.1 b];exact h1
  .exact Int.le_of_lt (zz (U:iH p q<0) (U:iH q r<0))
def WS(l:List Pos):Prop:=l.Pairwise λx y=>iH x y<=0
def Small(p:Pos):Prop:=p.cs.l<2 ^ 40/\p.h0.l<2 ^ 40/\p.h1.l<2 ^ 40
def kT(l:List Pos):Prop:=∀i:Int,1<=i->i<l.l->iH (gt l (i-1)) (gt l i)<0
theorem kT.lt{l:List Pos}(h:kT l){i:Int}(h0:0<=i):∀ {n:Nat},i<n->(n:Int)<l.l->iH (gt l i) (gt l n)<0
 | 0,h1,_=>U
 | n+1,h1,h2=>by
  have:=h (n+1) U U;rw[dq]at this
  by_cases e:i=n
  .subst e;exact this
  .exact zz (h.lt h0 U U) this
def kT.le{l:List Pos}(h:kT l){i j:Int}(h0:0<=i)(h1:i<j)(a:j<l.l):iH (gt l i) (gt l j)<0:=by have:=h.lt h0 (n:=j.n) U U;rwa [cd U]at this
def kT.inj{l:List Pos}(h:kT l){i j:Int}(h0:0<=i)(h1:i<l.l)(d:0<=j)(c:j<l.l)(e:gt l i=gt l j):i=j:=by
 by_cases a:i<j
 .have:=h.le h0 a c;rw[e,uJ]at this;omega
 .by_cases b:j<i
  .have:=h.le d b h1;rw[e,uJ]at this;omega
  .omega
def pO(l:List Pos)(p:Pos):Int:=if p∈l then(l.idxOf p:Int)else -1
def WG{l:List Pos}{p:Pos}(h:p ∉ l):pO l p = -1:=if_neg h
def GK{l:List Pos}{p:Pos}(h:p∈l):0<=pO l p/\pO l p<l.l/\gt l (pO l p)=p:=by unfold pO;rw[if_pos h];have hi:l.idxOf p<l.l:=List.idxOf_lt_length_iff.2 h;refine pb ?_;rw[Bv hi];exact List.getElem_idxOf hi
def afd{l:List Pos}(hs:kT l){i:Int}(h0:0<=i)(h1:i<l.l):pO l (gt l i)=i:=by obtain⟨a,b,c⟩:=GK (gF h0 h1);exact hs.inj a b h0 h1 c
end Go.AL
namespace Go.AL
open Go
def pt{α:Type}(l:List α)(n:Int)(v:α):List α:=l.take n.n++v::l.drop (n.n+1)
section
variable{α:Type}[Inhabited α]{l:List α}{n k:Int}{v:α}
theorem II(h0:0<=n)(h:n<l.l):pt l n v=l.set n.n v:=by rw[pt,cG,if_pos U]
theorem iW(h0:0<=n)(h:n<l.l):(pt l n v).l=l.l:=by rw[II h0 h,aw]
theorem py(h0:0<=n)(h:n<l.l)(a:0<=k):gt (pt l n v) k=if k=n then v else gt l k:=by
 rw[II h0 h];unfold gt;simp only[List.getD_eq_getElem?_getD,bT]
 by_cases e:k=n
 .subst e;rw[if_pos rfl,if_pos rfl,if_pos U];rfl
 .rw[if_neg U,if_neg e]
theorem DN(h0:0<=n)(h:n<l.l):gt (pt l n v) n=v:=by rw[py h0 h h0,if_pos rfl]
theorem W7(h0:0<=n)(h:n<l.l)(a:0<=k)(e:k≠n):gt (pt l n v) k=gt l k:=by rw[py h0 h a,if_neg e]
theorem ZK{x:α}(h:x∈pt l n v):x=v\/x∈l:=by
 unfold pt at h;simp only[aj,av]at h;rcases h with h|h|h
 .exact .inr (aX h)
 .exact .inl h
 .exact .inr (bt h)
end
@[simp] theorem axB{α:Type}(l:List α)(n:Int)(v:α):l.take n.n++v::l.drop (n.n+1)=pt l n v:=(rfl)
def mr(g:gq)(s d c:Int):Int:=
 if s<0\/s>1\/d<0\/d>=g.next.l\/c<0\/c>=g.size then -1 else gt (gt g.next (if s=1 then gt g.jD d else d)) c
structure oU(g:gq):Prop where
 size:1<=g.size/\g.size<=9
 next:g.next.l=8
 row:∀l∈g.next,(l.l:Int)=g.size/\∀x∈l,-1<=x/\x<g.size
 jD:g.jD.l=8
 turns:∀d,0<=d->d<8->0<=gt g.jD d/\gt g.jD d<8/\gt g.jD (gt g.jD d)=d
def oU.to{g:gq}(h:oU g)(s d c:Int) : -1<=mr g s d c/\mr g s d c<g.size:=by
 have:=h.size;unfold mr;split
 .omega
 .rename_i e;have f:=h.next
  simp only[not_or,fO,Int.not_le,gt_iff_lt,ge_iff_le]at e
  have b:0<=(if s=1 then gt g.jD d else d)/\(if s=1 then gt g.jD d else d)<8:=by
   split
   .have:=h.turns d U U;omega
   .omega
  have a:=h.row _ (gF (l:=g.next) b.1 U);exact a.2 _ (gF U U)
structure FY(g:gq)(x:gg):Prop where
 ok:((x.1=1\/x.1=2\/x.1=7)/\0<=x.2/\x.2<8)\/(3<=x.1/\x.1<=6/\x.2=0)\/(x.1=8/\0<=x.2/\x.2<g.kinds.l)\/((x.1=9\/x.1=10)/\0<=x.2/\x.2<g.gO)
def oW(l:List gg)(op:Int):Int:=(l.countP λx=>x.1=op:Nat)
structure xO(g:gq)(l:List gg):Prop where
 len:1<=l.l/\l.l<=8
 steps:∀x∈l,FY g x
 uv:oW l 6<=2
 push:oW l 7<=1
 Mm:oW l 8<=1
structure CW(g:gq)(c:Clause):Prop where
 ok:(c.cond=1/\0<=c.kind/\c.kind<g.kinds.l/\c.n=0)\/(c.cond=2/\0<=c.kind/\c.kind<g.kinds.l/\0<=c.n/\c.n<g.size)\/(c.cond=3/\c.kind=0/\0<=c.n/\c.n<=64)
 out:1<=c.out/\c.out<=3
def kindName(n:Int):ByteArray:=if n=0 then⟨#[97]⟩else⟨#[98,101,101]⟩
structure gR(g:gq):Prop where
 jU:oU g
 kinds:1<=g.kinds.l/\g.kinds.l<=2
 names:∀k:Int,0<=k->k<g.kinds.l->(gt g.kinds k).name=kindName k
 jA:∀k∈g.kinds,k.jA.l<=4/\∀l∈k.jA,xO g l
 gO:0<=g.gO/\g.gO<=2
 clauses:g.clauses.l<=3
 clause:∀c∈g.clauses,CW g c
 blocked:1<=g.blocked/\g.blocked<=3
 vo:1<=g.vo/\g.vo<=3
structure sn(g:gq)(l:List Int):Prop where
 len:l.l=g.kinds.l
 at_:∀k:Int,0<=k->k<l.l->0<=gt l k/\gt l k<=8/\(0<gt l k->(gt g.kinds k).keep=bb)
structure iC(g:gq)(p:Pos):Prop where
 size:(p.cs.l:Int)=g.size
 h0:sn g p.h0
 h1:sn g p.h1
 gO:0<=p.gO/\p.gO<2 ^ g.gO.n
 side:0<=p.side/\p.side<=1
 cs:∀x∈p.cs,0<=x/\x<=2*g.kinds.l
def gN(n:Int):Int:=if 1<=n/\n<=12 then(n-1) / 2 else -1
def kh(n:Int):Int:=if 1<=n/\n<=12 then(n-1) % 2 else -1
def l5(k s:Int):Int:=1+2*k+s
def ua(g:gq)(s d c:Int):Nat->Int->List Int->List Int
 | 0,_,out=>out
 | n+1,x,out=>if 0<=x/\x≠c/\x ∉ out then ua g s d c n (mr g s d x) (out ++ [x])else out
def lK(g:gq)(s d c:Int):List Int:=ua g s d c 10 (mr g s d c) []
theorem Zo{g:gq}(hg:oU g){s d c:Int}:∀(n:Nat) (x:Int) (out:List Int),x<g.size->(∀y∈out,0<=y/\y<g.size)->∀y∈ua g s d c n x out,0<=y/\y<g.size
 | 0,x,out,_,h,y,hy=>h y hy
 | n+1,x,out,hx,h,y,hy=>by
  unfold ua at hy;split at hy
  .rename_i e;refine Zo hg n _ _ (hg.to _ _ _).2 (λz a=>?_) y hy;simp only[aj,aE]at a;rcases a with a|a
   .exact h z a
   .omega
  .exact h y hy
def Sz{g:gq}(hg:oU g){s d c y:Int}(h:y∈lK g s d c):0<=y/\y<g.size:=Zo hg _ _ _ (hg.to _ _ _).2 fZ y h
theorem Ax:∀(n:Nat) (l:List Int),l.Nodup->(∀y∈l,0<=y/\y<n)->l.l<=n
 | 0,[],_,_=>fZ
 | 0,a::l,_,h=>by have:=h a fZ;omega
 | n+1,l,hn,h=>by
  by_cases e:(n:Int)∈l
  .have h1:(l.erase (n:Int)).l<=n:=Ax n _ (hn.erase _) λy b=>by have:=(hn.mem_erase_iff).1 b;have:=h y this.2;omega
   rw[fr e]at h1;omega
  .have:=Ax n l hn λy b=>by have:=h y b;have:y≠n:=λc=>e (c▸b);omega
   omega
structure gD where
 p:Pos
 kind:Int
 cur:Int
 jY:Bool
 deriving DecidableEq,Inhabited
def gD.cells(s:gD):List D:=[dI s.p.cs,dI s.p.h0,dI s.p.h1,.i s.p.gO,.i s.p.side,.i s.kind,.i s.cur,.b s.jY]
structure kA(g:gq)(s:gD):Prop where
 p:iC g s.p
 kind:0<=s.kind/\s.kind<g.kinds.l
 cur:0<=s.cur/\s.cur<g.size
def Pos.hand(p:Pos)(s:Int):List Int:=if s=0 then p.h0 else p.h1
def Pos.mZ(p:Pos)(s:Int)(l:List Int):Pos:=if s=0 then{ p with h0:=l }else{ p with h1:=l }
def qt(s:gD):List Int->List gD
 | []=>[]
 | c::r=>{ s with cur:=c }::if gt s.p.cs c=0 then qt s r else []
def tq(g:gq)(s:gD):List gD:=
 let c:=gt s.p.cs s.cur
 if kh c≠1-s.p.side then []else
  let p:={ s.p with cs:=pt s.p.cs s.cur 0 }
  if (gt g.kinds (gN c)).keep=b4 then [{ s with p:=p,jY:=bb }]else
   let n:=gt (s.p.hand s.p.side) (gN c)+1
   if n<=8 then [{ s with p:=p.mZ s.p.side (pt (s.p.hand s.p.side) (gN c) n),jY:=bb }]else []
def uk(g:gq)(s:gD)(n:Int):List gD:=
 let to:=mr g s.p.side n s.cur
 if gt s.p.cs s.cur=0\/to<0\/gt s.p.cs to≠0 then []else
  [{ s with p:={ s.p with cs:=pt (pt s.p.cs to (gt s.p.cs s.cur)) s.cur 0 } }]
def BJ(r n:Int):Prop:=r / 2 ^ n.n % 2=1
instance(r n:Int):Decidable (BJ r n):=by unfold BJ;infer_instance
def dropRight(r n:Int):Int:=if BJ r n then r-2 ^ n.n else r
def TL{b:Int}(h0:0<=b)(h:b<=4):yW .i64 1 b=2 ^ b.n:=by have:b=0\/b=1\/b=2\/b=3\/b=4:=U;rcases this with rfl|rfl|rfl|rfl|rfl<;>decide
def ZP{r:Int}(h0:0<=r)(h:r<16):∃i:Fin 16,r=(i.val:Int):=⟨⟨r.n,U⟩,gL⟩
def ZQ{r:Int}(h0:0<=r)(h:r<4):∃i:Fin 4,r=(i.val:Int):=⟨⟨r.n,U⟩,gL⟩
def aaJ:∀(i:Fin 16) (k:Fin 4),(bits .and .i64 (mG .i64 (i.val:Int) (k.val:Int)) 1=1↔BJ (i.val:Int) (k.val:Int))/\bits .andNot .i64 (i.val:Int) (yW .i64 1 (k.val:Int))=dropRight (i.val:Int) (k.val:Int):=by decide +kernel
def aaH{r n:Int}(h0:0<=r)(h1:r<16)(b:0<=n)(a:n<4):(bits .and .i64 (mG .i64 r n) 1=1)=BJ r n:=by obtain⟨i,rfl⟩:=ZP h0 h1;obtain⟨k,rfl⟩:=ZQ b a;exact propext (aaJ i k).1
def aaI{r n:Int}(h0:0<=r)(h1:r<16)(b:0<=n)(a:n<4):bits .andNot .i64 r (yW .i64 1 n)=dropRight r n:=by obtain⟨i,rfl⟩:=ZP h0 h1;obtain⟨k,rfl⟩:=ZQ b a;exact(aaJ i k).2
def EX{b:Int}(h0:0<=b)(h:b<=4):(2:Int) ^ b.n<=16:=by have:b=0\/b=1\/b=2\/b=3\/b=4:=U;rcases this with rfl|rfl|rfl|rfl|rfl<;>decide
def jj(g:gq)(s:gD)(x:gg):List gD:=
 let c:=gt s.p.cs s.cur
 if x.1=1 then(let to:=mr g s.p.side x.2 s.cur;if 0<=to then [{ s with cur:=to }]else [])
 else if x.1=2 then qt s (lK g s.p.side x.2 s.cur)
 else if x.1=3 then(if c=0 then [s]else [])
 else if x.1=4 then(if kh c=1-s.p.side then [s]else [])
 else if x.1=5 then(if kh c=s.p.side then [s]else [])
 else if x.1=6 then tq g s
 else if x.1=7 then uk g s x.2
 else if x.1=8 then [{ s with kind:=x.2 }]
 else if x.1=9 then(if BJ s.p.gO x.2 then [s]else [])
 else [{ s with p:={ s.p with gO:=dropRight s.p.gO x.2 } }]
def tj(g:gq):List gg->List gD->List gD
 | [],l=>l
 | x::r,l=>tj g r (l.flatMap λs=>jj g s x)
def lL(p:Pos)(cell:Int):gD:={ p:={ p with cs:=pt p.cs cell 0 },kind:=gN (gt p.cs cell),cur:=cell,jY:=b4 }
structure gY where
 p:Pos
 jY:Bool
 deriving DecidableEq,Inhabited
def gY.cells(o:gY):List D:=[dI o.p.cs,dI o.p.h0,dI o.p.h1,.i o.p.gO,.i o.p.side,.b o.jY]
def oF(side:Int)(s:gD):Option gY:=
 if gt s.p.cs s.cur=0 then bs { p:={ s.p with cs:=pt s.p.cs s.cur (l5 s.kind side),side:=1-side },jY:=s.jY }else di
def uZ(g:gq)(p:Pos)(cell:Int)(l:List gg):List gY:=(tj g l [lL p cell]).filterMap (oF p.side)
def upto(n:Nat):List Int:=(List.range n).map λk:Nat=>(k:Int)
def jJ{n:Nat}{k:Int}:k∈upto n↔0<=k/\k<n:=by
 simp only[upto,az,bp];constructor
 .rintro⟨a,h,rfl⟩;omega
 .intro h;exact⟨k.n,U,U⟩
def p6(g:gq)(p:Pos)(c:Int):List gY:=if kh (gt p.cs c)=p.side then(gt g.kinds (gN (gt p.cs c))).jA.flatMap (uZ g p c)else []
def qu(g:gq)(p:Pos):List gY:=(upto p.cs.l).flatMap (p6 g p)
def kr(p:Pos)(k c:Int):Pos:={ p.mZ p.side (pt (p.hand p.side) k (gt (p.hand p.side) k-1))with cs:=pt p.cs c (l5 k p.side),side:=1-p.side }
def zk(g:gq)(p q:Pos):Prop:=∃k c:Int,0<=k/\k<g.kinds.l/\0<=c/\c<p.cs.l/\gt (p.hand p.side) k≠0/\gt p.cs c=0/\q=kr p k c
def sN(p:Pos)(side kind:Int):Int:=(p.cs.countP λc=>0<=gN c/\kh c=side/\(kind<0\/gN c=kind):Nat)
def ln(p:Pos)(c:Clause):Prop:=
 if c.cond=1 then sN p p.side c.kind=0 else if c.cond=2 then gt p.cs c.n=l5 c.kind (1-p.side)else sN p p.side (-1)<=c.n
def rJ(g:gq)(p q:Pos):Prop:=
 (∀c∈g.clauses,¬ln p c) /\
 if g.oQ=bb/\(∃o∈qu g p,o.jY=bb)then⟨q,bb⟩∈qu g p else(∃o∈qu g p,o.p=q)\/zk g p q
def iC.small{g:gq}(hg:gR g){p:Pos}(h:iC g p):Small p:=by have h1:=h.size;have d:=hg.jU.size;have c:=h.h0.len;have b:=h.h1.len;have a:=hg.kinds;exact mF
theorem iC.hand{g:gq}{p:Pos}(h:iC g p)(s:Int):sn g (p.hand s):=by
 unfold Pos.hand;split
 .exact h.h0
 .exact h.h1
theorem iC.mZ{g:gq}{p:Pos}(h:iC g p)(s:Int){l:List Int}(hl:sn g l):iC g (p.mZ s l):=by
 unfold Pos.mZ;split
 .exact{ h with h0:=hl }
 .exact{ h with h1:=hl }
def iC.CI{g:gq}{p:Pos}(h:iC g p){c v:Int}(e:0<=c)(b:c<g.size)(d:0<=v/\v<=2*g.kinds.l):iC g { p with cs:=pt p.cs c v }:=
 { h with
  size:=by dsimp only;rw[iW e (by rw[h.size];exact b)];exact h.size
  cs:=λx a=>by
   rcases ZK a with rfl|a
   .exact d
   .exact h.cs x a }
def sn.set{g:gq}{l:List Int}(h:sn g l){k v:Int}(b:0<=k)(a:k<l.l)(c:0<=v/\v<=8/\(0<v->(gt g.kinds k).keep=bb)):sn g (pt l k v) where
 len:=by rw[iW b a];exact h.len
 at_ j hj NI:=by
  rw[iW b a]at NI;rw[py b a hj];split
  .rename_i e;subst e;exact c
  .exact h.at_ j hj NI
def yI{n:Int}{g:gq}(h:n<=2*g.kinds.l)(a:1<=g.kinds.l):gN n<g.kinds.l:=by unfold gN;split<;>omega
def Iq{n s:Int}(hs:0<=s)(h:kh n=s):0<=gN n/\1<=n/\n<=12/\n=l5 (gN n) s:=by
 unfold kh at h;unfold gN l5;split at h<;>rename_i e
 .rw[if_pos e];omega
 .omega
def adq{r n k:Int}(h:0<=r)(a:r<2 ^ k.n):0<=dropRight r n/\dropRight r n<2 ^ k.n:=by
 unfold dropRight;split
 .rename_i e;unfold BJ at e;have b:(0:Int)<2 ^ n.n:=Int.pow_pos jh
  have:2 ^ n.n<=r:=by
   by_cases c:r<2 ^ n.n
   .rw[Int.ediv_eq_zero_of_lt h c]at e;simp at e
   .omega
  omega
 .exact⟨h,a⟩
theorem Zr{s t:gD}:∀ {l:List Int},t∈qt s l->∃c∈l,t = { s with cur:=c }
 | [],h=>by simp[qt]at h
 | c::r,h=>by
  unfold qt at h;rcases av.1 h with h|h
  .exact⟨c,fZ,h⟩
  .split at h
   .obtain⟨c',h1,a⟩:=Zr h;exact⟨c',by simp[h1],a⟩
   .cases h
def CR{g:gq}(hg:gR g){s:gD}(hs:kA g s){x:gg}(k:FY g x){t:gD}(h:t∈jj g s x):kA g t:=by
 have d:=hg.jU;have j:s.cur<s.p.cs.l:=by rw[hs.p.size];exact hs.cur.2
 have i:=hs.p.cs _ (gF hs.cur.1 j);unfold jj at h;dsimp only at h;split at h
 .split at h
  .rename_i h0;rw[aE]at h;subst h;exact{ hs with cur:=⟨h0,(d.to _ _ _).2⟩ }
  .cases h
 split at h
 .obtain⟨c,h1,rfl⟩:=Zr h;exact{ hs with cur:=Sz d h1 }
 iterate 3
  split at h
  .split at h
   .rw[aE]at h;subst h;exact hs
   .cases h
 split at h
 .unfold tq at h;dsimp only at h;split at h
  .cases h
  rename_i e;have e:=Decidable.not_not.1 e;have l:=hs.p.side;obtain⟨m1,m2,m3,m4⟩:=Iq U e;have a:gN (gt s.p.cs s.cur)<g.kinds.l:=yI i.2 hg.kinds.1;have f:iC g { s.p with cs:=pt s.p.cs s.cur 0 }:=hs.p.CI hs.cur.1 hs.cur.2 U;split at h
  .rw[aE]at h;subst h;exact{ hs with p:=f }
  rename_i kp;split at h
  .rename_i n;rw[aE]at h;subst h;have b:=hs.p.hand s.p.side;have hl:=b.len;have m:=b.at_ _ m1 (by rw[hl];exact a);exact{ hs with p:=f.mZ _ (b.set m1 (by rw[hl];exact a) (pb (λ_=>by simpa using kp))) }
  .cases h
 split at h
 .unfold uk at h;dsimp only at h;split at h
  .cases h
  rename_i e;simp only[not_or,fO]at e;rw[aE]at h;subst h;have h1:=hs.p.CI (c:=mr g s.p.side x.2 s.cur) (v:=gt s.p.cs s.cur) e.2.1 (d.to _ _ _).2 i;exact{ hs with p:=h1.CI hs.cur.1 hs.cur.2 U }
 split at h
 .rename_i o;rw[aE]at h;subst h;have a:0<=x.2/\x.2<g.kinds.l:=by have:=k.ok;omega
  exact{ hs with kind:=a }
 split at h
 .split at h
  .rw[aE]at h;subst h;exact hs
  .cases h
 .rw[aE]at h;subst h;exact{ hs with p:={ hs.p with gO:=adq hs.p.gO.1 hs.p.gO.2 } }
theorem O2{g:gq}(hg:gR g):∀ {l:List gg} {a:List gD},(∀x∈l,FY g x)->(∀s∈a,kA g s)->∀s∈tj g l a,kA g s
 | [],_,_,h,s,hs=>h s hs
 | x::r,a,hx,h,s,hs=>by refine O2 (a:=a.flatMap λs=>jj g s x) hg (λy c=>hx y (by simp[c])) (λt b=>?_) s hs;obtain⟨u,d,b⟩:=bJ.1 b;exact CR hg (h u d) (hx x fZ) b
theorem aaU{g:gq}:∀ {l:List gg} {a b:List gD},(∀s,s∈a↔s∈b)->∀s,s∈tj g l a↔s∈tj g l b
 | [],_,_,h,s=>h s
 | x::r,a,b,h,s=>aaU (l:=r) (λt=>by simp only[bJ,h]) s
def Ja{g:gq}(hg:gR g){p:Pos}(a:iC g p){c:Int}(h0:0<=c)(h1:c<g.size)(b:kh (gt p.cs c)=p.side):kA g (lL p c):=by have d:=a.cs _ (gF h0 (by rw[a.size];exact h1));exact{ p:=a.CI h0 h1 U,kind:=⟨(Iq a.side.1 b).1,yI d.2 hg.kinds.1⟩,cur:=⟨h0,h1⟩ }
def Nb{g:gq}{s:gD}(hs:kA g s){side:Int}(h0:0<=side)(h1:side<=1){o:gY}(h:oF side s=bs o):iC g o.p:=by
 unfold oF at h;split at h
 .cases h;have:=hs.kind;exact{ hs.p.CI hs.cur.1 hs.cur.2 (v:=l5 s.kind side) (by unfold l5;omega)with side:=by dsimp only;omega }
 .cases h
def OM{g:gq}(hg:gR g){p:Pos}(a:iC g p){o:gY}(h:o∈qu g p):iC g o.p:=by
 obtain⟨c,b,h⟩:=bJ.1 h;rw[jJ,a.size]at b;unfold p6 at h;split at h
 .rename_i e;obtain⟨l,hl,h⟩:=bJ.1 h;obtain⟨s,hs,h⟩:=cU.1 h;have d:=Ja hg a b.1 b.2 e;have i:=hg.jA _ (gF (l:=g.kinds) d.kind.1 d.kind.2);exact Nb (O2 hg (i.2 l hl).steps (λt f=>by rw[aE]at f;subst f;exact d) s hs) a.side.1 a.side.2 h
 .cases h
def Gu{g:gq}{p:Pos}(a:iC g p){q:Pos}(h:zk g p q):iC g q:=by
 obtain⟨k,c,h1,o,i,n,m,l,rfl⟩:=h;have b:=a.hand p.side;have hl:=b.len;have f:=b.at_ k h1 U;have hs:=a.side;have j:=a.size;have d:=(a.mZ p.side (b.set h1 (v:=gt (p.hand p.side) k-1) U (pb (λ_=>f.2.2 U))));have e:(p.mZ p.side (pt (p.hand p.side) k (gt (p.hand p.side) k-1))).cs=p.cs:=by unfold Pos.mZ;split<;>rfl
 have:=d.CI (c:=c) (v:=l5 k p.side) i U (by unfold l5;omega);rw[e]at this;exact{ this with side:=by dsimp only[kr];omega }
def S1{g:gq}(hg:gR g){p:Pos}(a:iC g p){q:Pos}(h:rJ g p q):iC g q:=by
 obtain⟨_,h⟩:=h;split at h
 .exact OM hg a h
 .rcases h with⟨o,h,rfl⟩|h
  .exact OM hg a h
  .exact Gu a h
end Go.AL
namespace Go.Proofs.YtmehofoficaelaaGreatDoor
open Go Go.AL Classical
set_option maxRecDepth 10000
def f95(n a b:Int):Wf T 253 [.i n,.i a,.i b] [] (Is (.b (decide (a<=n/\n<=b)))):=by refine Yg L9 ?_;simp[L9];exact mI
def f94(a b:Int):Wf T 202 [.i a,.i b] [] (Is (.i (lh a b))):=by
 refine Yg L8 ?_;simp[L8];(with_reducible repeat' first|refine Xk ?_<;>try simp|refine Xs ?_ ?_<;>intro h<;>(try intro c)<;>(try simp[h])<;>try omega|refine Xg ?_|omega)
 all_goals (simp only[lh];(repeat' split)<;>omega)
def f92{k s:Int}(c:0<=k)(a:k<6)(hs:0<=s)(b:s<=1):Wf T 216 [.i k,.i s] [] (Is (.i (1+2*k+s))):=by refine Yg L6 ?_;simp[L6];exact mI
def f156{k s:Int}(b:0<=k)(c:k<6)(hs:0<=s)(a:s<=1):Wf T 206 [.i k,.i s] [] (Is (.i (1+2*k+s))):=by refine Yg KF ?_;simp[KF];refine gy.c rfl rfl (f95 _ _ _) (by simp[gK]) fZ ?_;simp[(U:k<=5),b];refine gy.c rfl rfl (f95 _ _ _) (by simp[gK]) fZ ?_;simp[hs,a];omega
def f25(l:List Int)(n:Int)(hl:l.l<2 ^ 40):Wf T 40 [dI l,.i n] [] (Is (.b (decide (n∈l)))):=by
 refine Yg Ln ?_;simp[Ln];refine gx.i (α:=Int) [0,1,5] rfl (λi=>[(0,dI l),(1,.i n),(5,.i i)]) (λ_=>[]) (λi=>0<=i/\i<=l.l/\n ∉ l.take i.n) (λi=>l.l-i.n) 0 fZ fZ rfl ?_;rintro i ⟨h0,h1,a⟩;simp;(with_reducible repeat' first|refine Xk ?_<;>try simp|refine Xs ?_ ?_<;>intro h<;>(try intro b)<;>(try simp[h])<;>try omega|refine Xg ?_|omega)
 .have:=gF h0 ‹_›;simp_all
 .skip;rw[jt h0 ‹_›];simp_all;exactλe=>h e.symm
 .simpa[lC (by omega:(l.l:Int)<=i)]using a
def f93(a b:List Int)(g:a.l<2 ^ 40)(f:b.l<2 ^ 40):Wf T 201 [dI a,dI b] [] (Is (.i (kS a b))):=by
 refine Yg L7 ?_;simp[L7];refine gx.j (0:Int) (λi=>[(0,dI a),(1,dI b),(5,.i i)]) (λ_=>_) (λi=>0<=i/\i<=a.l/\i<=b.l/\a.take i.n=b.take i.n) (λi=>a.l-i.n) ?_ fZ xJ rfl ?_
 .simp
 rintro i ⟨h0,h1,d,c⟩;have e:=Zs c U U;simp;(with_reducible repeat' first|refine Xk ?_<;>try simp|refine Xs ?_ ?_<;>intro h<;>(try intro j)<;>(try simp[h])<;>try omega|refine Xg ?_|omega)
 .skip;rw[jt h0 U,jt h0 U,c];simp_all
 .refine Yt (f94 _ _) ?_;simp;rw[e,oe h0 ‹_›,oe h0 ‹_›,kS,if_neg jZ]
 all_goals
  refine Yc (f94 _ _) ?_;simp;rw[e,SB (by simp only[aU];omega)];simp only[aU,lh];(repeat' split)<;>omega
def f50(p q:Pos)(b:Small p)(a:Small q):Wf T 137 [dP p,dP q] [] (Is (.i (iH p q))):=by
 refine Yg LI ?_;simp[LI];refine Yt (f93 _ _ b.1 a.1) ?_;simp;refine Yt (f93 _ _ b.2.1 a.2.1) ?_;simp;refine Yt (f93 _ _ b.2.2 a.2.2) ?_;simp;refine Yt (f94 _ _) ?_;simp;refine Yt (f94 _ _) ?_;simp;(refine gx.un ?_;(repeat' first|(refine kU.u ?_;simp;done)|(refine kU.u ?_;simp)|((with_reducible first|refine X2.d ?_ ?_|refine X2.a ?_ ?_|refine X2.o ?_ ?_|refine X2.b ?_ ?_)<;>intro h<;>(try simp[h]))|fail))
 all_goals simp_all [iH,nz]
def f51(n:Int):Wf T 203 [.i n] [] (Is (.agg [.i (gN n),.i (kh n)])):=by
 refine Yg LK ?_;simp[LK];refine Yc (f95 _ _ _) ?_;simp;(with_reducible repeat' first|refine Xk ?_<;>try simp|refine Xs ?_ ?_<;>intro h<;>(try intro a)<;>(try simp[h])<;>try omega|refine Xg ?_|omega)
 .rw[u4 U U U,jM U];simp[gN,kh];omega
 .simp[gN,kh];omega
def f84(n:Int):Wf T 163 [.i n] [] (Is (.tup [.i (gN n),.i (kh n)])):=by
 refine Yg LZ ?_;simp[LZ];(with_reducible repeat' first|refine Xk ?_<;>try simp|refine Xs ?_ ?_<;>intro h<;>(try intro a)<;>(try simp[h])<;>try omega|refine Xg ?_|omega)
 .simp[gN,kh];omega
 .simp[gN,kh];omega
 .rw[u4 U U U,jM U];simp[gN,kh];omega
def f251(g:gq)(hg:oU g)(s d c:Int):Wf T 295 [g.jU,.i s,.i d,.i c] [] (Is (.i (mr g s d c))):=by
 have e:=hg.next
 have b:=hg.jD;refine Yg Lp ?_;simp[Lp];(with_reducible repeat' first|refine Xk ?_<;>try simp|refine Xs ?_ ?_<;>intro h<;>(try intro f)<;>(try simp[h])<;>try omega|refine Xg ?_|omega)
 all_goals first
  | (simp only[mr];rw[if_pos U])
  | skip
 .rename_i h;have:=hg.turns d U U;have a:=hg.row (gt g.next (gt g.jD d)) (gF U U);refine gh ?_;simp only[mr];rw[if_neg U];simp
 .rename_i h;have a:=hg.row (gt g.next d) (gF U U);refine gh ?_;simp only[mr];rw[if_neg U];simp[h]
def f240(g:gq)(hg:oU g)(s d c:Int):Wf T 322 [g.jU,.i s,.i d,.i c] [] (Is (.i (mr g s d c))):=by
 have e:=hg.next
 have b:=hg.jD;refine Yg Li ?_;simp[Li];(with_reducible repeat' first|refine Xk ?_<;>try simp|refine Xs ?_ ?_<;>intro h<;>(try intro f)<;>(try simp[h])<;>try omega|refine Xg ?_|omega)
 all_goals first
  | (simp only[mr];rw[if_pos U])
  | skip
 .rename_i h;have:=hg.turns d U U;have a:=hg.row (gt g.next (gt g.jD d)) (gF U U);refine gh ?_;simp only[mr];rw[if_neg U];simp
 .rename_i h;have a:=hg.row (gt g.next d) (gF U U);refine gh ?_;simp only[mr];rw[if_neg U];simp[h]
def f110(p q:Pos)(b:Small p)(a:Small q):Wf T 162 [dP p,dP q] [] (Is (.b (decide (p=q)))):=by refine Yg JK ?_;simp[JK];refine Yc (f50 p q b a) ?_;simp;rw[rO]
set_option maxHeartbeats 1000000
def f64(l:List Pos)(hl:l.l<2 ^ 40)(hs:∀p∈l,Small p):Wf T 83 [gP l] [] (Is (.b (decide (kT l)))):=by
 refine Yg LR ?_;simp[LR];refine gx.j (1:Int) (λi=>[(0,gP l),(3,.i i)]) (λ_=>_) (λi=>1<=i/\(i<=l.l\/i=1)/\∀k:Int,1<=k->k<i->iH (gt l (k-1)) (gt l k)<0) (λi=>l.l-i.n) ?_ fZ xJ rfl ?_
 .simp;omega
 rintro i ⟨h0,h1,c⟩;simp;refine kj ?_ ?_<;>intro h
 .skip;refine Yt (f50 (gt l (i-1)) (gt l i) (hs _ (gF U U)) (hs _ (gF U U))) ?_;simp;refine kj ?_ ?_<;>intro h
  .intro b;have:=b i h0 ‹_›;omega
  .grind
 .intro k a d;exact c k a U
def f27(l:List Pos)(p:Pos)(hl:l.l<2 ^ 40)(hs:∀p∈l,Small p)(m:Small p)(g:kT l):Wf T 86 [gP l,dP p] [] (Is (.i (pO l p))):=by
 refine Yg Lx ?_;simp[Lx];refine gx.j ((0,(l.l:Int)):Int×Int) (λx=>[(0,gP l),(3,.ptr 0 0 0),(5,.i x.1),(6,.i x.2)]) (λ_=>[.row 46 0 p.cells]) (λx=>0<=x.1/\x.1<=x.2/\x.2<=l.l/\∀k:Int,0<=k->k<l.l->gt l k=p->x.1<=k/\k<x.2) (λx=>(x.2-x.1).n) ?_ fZ rfl rfl ?_
 .simp;omega
 rintro⟨a,b⟩ ⟨h0,h1,q,f⟩;simp at h0 h1 q f;simp;refine kj ?_ ?_<;>intro h
 .rw[u4 U U U];refine gh ?_;refine Yt (f50 p (gt l ((a+b) / 2)) m (hs _ (gF U U))) ?_;simp;(with_reducible repeat' first|refine Xk ?_<;>try simp|refine Xs ?_ ?_<;>intro h<;>(try intro s)<;>(try simp[h])<;>try omega|refine Xg ?_|omega)
  .rw[rO]at h;rw[h,afd g U U]
  .have r:∀k:Int,(a+b) / 2<=k->k<l.l->gt l k≠p:=λk d c e=>by
    by_cases j:k=(a+b) / 2
    .subst j;rw[e,uJ]at h;omega
    .have:=zz h (g.le U (U:(a+b) / 2<k) c);rw[e,uJ]at this;omega
   intro k d c e;have:=f k d c e
   by_cases i:(a+b) / 2<=k
   .grind
   .omega
  .have o:iH (gt l ((a+b) / 2)) p<0:=by rw[vj];omega
   have r:∀k:Int,0<=k->k<=(a+b) / 2->gt l k≠p:=λk d c e=>by
    by_cases j:k=(a+b) / 2
    .grind
    .have:=zz (g.le d (U:k<(a+b) / 2) U) o;rw[e,uJ]at this;omega
   intro k d c e;have:=f k d c e
   by_cases i:k<=(a+b) / 2
   .grind
   .omega
 .rw[WG];intro n;obtain⟨k,d,c,e⟩:=yM.1 n;have:=f k d c e;omega
def f111(g:gq)(l:List Int)(hg:gR g)(hl:sn g l):Wf T 138 [dG g,dI l] [] (Is (.b bb)):=by
 have d:=hg.kinds;have c:=hl.len;refine Yg JL ?_;simp[JL];(with_reducible repeat' first|refine Xk ?_<;>try simp|refine Xs ?_ ?_<;>intro h<;>(try intro a)<;>(try simp[h])<;>try omega|refine Xg ?_|omega);refine gx.j (0:Int) (λi=>[(1,dI l),(2,.ptr 0 0 0),(5,.i i)]) (λi=>[.row 43 0 g.cells]) (λi=>0<=i/\i<=l.l) (λi=>l.l-i.n) ?_ fZ xJ rfl ?_
 .simp
 rintro i ⟨h0,h1⟩;simp;(with_reducible refine Xs ?_ ?_<;>intro h<;>(try intro a)<;>(try simp[h])<;>(try omega))
 .have b:=hl.at_ i h0 ‹_›;(with_reducible repeat' first|refine Xk ?_<;>try simp|refine Xs ?_ ?_<;>intro h<;>(try intro a)<;>(try simp[h])<;>try omega|refine Xg ?_|omega);have:=b.2.2
  all_goals simp_all
  all_goals omega
def f65(g:gq)(p:Pos)(hg:gR g)(a:iC g p):Wf T 84 [dG g,dP p] [] (Is (.b bb)):=by
 have e:=hg.kinds;have c:=hg.gO;have h1:=a.size;have l:=a.gO;have k:=a.side;have f:=hg.jU.size;have b:=TL c.1 U;refine Yg LU ?_;simp[LU,h1];refine Yt (f111 g _ hg a.h0) ?_;simp[h1];refine Yt (f111 g _ hg a.h1) ?_;simp[h1];(with_reducible repeat' first|refine Xk ?_<;>try simp[b]|refine Xs ?_ ?_<;>intro h<;>(try intro d)<;>(try simp[h,b])<;>try omega|refine Xg ?_|omega);refine gx.j (0:Int) (λi=>[(2,.ptr 0 0 0),(3,.ptr 1 0 0),(5,.i i)]) (λi=>[.row 43 0 g.cells,.row 46 0 p.cells]) (λi=>0<=i/\i<=p.cs.l) (λi=>p.cs.l-i.n) ?_ fZ xJ rfl ?_
 .simp
 rintro i ⟨h0,j⟩;simp;(with_reducible refine Xs ?_ ?_<;>intro h<;>(try intro d)<;>(try simp[h])<;>(try omega));have b:=a.cs _ (gF h0 ‹_›);exact mI
end Go.Proofs.YtmehofoficaelaaGreatDoor
namespace Go.AL
open Go
def Ex{α:Type}(g:α->D)(Q:α->Prop):D->gd->Prop:=λd H=>∃r,d=g r/\H = []/\Q r
@[simp] theorem aoP{α:Type}(g:α->D)(Q:α->Prop)(d:D)(H:gd):Ex g Q d H = ∃r,d=g r/\H = []/\Q r:=(rfl)
section
variable{T:iF}{f:FuncId}{args nM:List D}{dst:Option Nat}{s:St}{K:St->Prop}{fn:jq}
theorem gy.q{α:Type}{g:α->D}{Q:α->Prop}(i:T.fn f=bs fn)(e:fn.full=b4)(h:Wf T f args [] (Ex g Q))
  (a:gK args=bb) (b:∀r,closed (g r)=bb) (k:∀r,Q r->K { s with env:=put s.env dst (g r) }):gy T f args dst s K .mk:=by
 refine gy.is i e (K0:=Ex g Q) ?_ ?_
 .have l:args.map (gw (λ_=>di) s.H 40)=args:=by
   conv=>rhs;rw[<-aY args]
   exact au λd j=>p7 (lP a d j)
  rw[l];exact h
 .rintro d Hn ⟨r,rfl,rfl,c⟩;obtain⟨k1,k2⟩:=Gk (H:=s.H) (b r);refine⟨{ s with env:=put s.env dst (g r) },?_,k r c⟩;unfold after;rw[if_pos a,k1,k2];simp
theorem alR{d:D}(a:flat d=bb)(_:closed d=bb):oR d=true:=(Qw (H:=[]) a).1
theorem gy.rq{α:Type}{g:α->D}{Q:α->Prop}(i:T.fn f=bs fn)(e:fn.full=b4)(h:Wf T f nM [] (Ex g Q))
  (hs:args.map (gw (λ_=>di) s.H 40)=nM) (b:∀r,flat (g r)=bb) (a:∀r,closed (g r)=bb) (k:∀r,Q r->K { s with env:=put s.env dst (g r) }):gy T f args dst s K .mk:=by
 refine gy.is i e (K0:=Ex g Q) (by rw[hs];exact h) ?_;rintro d Hn ⟨r,rfl,rfl,c⟩;obtain⟨k1,k2⟩:=Gk (H:=s.H) (a r);refine⟨{ s with env:=put s.env dst (g r) },?_,k r c⟩;unfold after;rw[alR (b r) (a r),k1,k2];simp
end
section
variable{T:iF}{f:FuncId}{args:List D}{dst:Option Nat}{s:St}{K:St->Prop}{fn:jq}
theorem gy.n{d:D}{Hn:gd}(e:T.fn f=bs fn)(c:fn.full=b4)(h:Wf T f args [] λd' H'=>d'=d/\H'=Hn)
  (a:gK args=bb) (b:(mL d&&Hn.all nN)=bb) (k:K { s with env:=put s.env dst (kE s.H.l d),H:=s.H++Hn }):gy T f args dst s K .mk:=by
 refine gy.is e c (K0:=λd' H'=>d'=d/\H'=Hn) ?_ ?_
 .have i:args.map (gw (λ_=>di) s.H 40)=args:=by
   conv=>rhs;rw[<-aY args]
   exact au λd g=>p7 (lP a d g)
  rw[i];exact h
 .rintro d' j ⟨rfl,rfl⟩;refine⟨_,?_,k⟩;unfold after;rw[if_pos a,if_pos b]
theorem wT.n{R:List Fp}{Q:Rc->St->Prop}{d:D}{ob:Ob}(e:T.fn f=bs fn)(c:fn.full=b4)(h:Wf T f args [] λd' H'=>d'=d/\H' = [ob])
  (a:gK args=bb) (b:(mL d&&nN ob)=bb) (k:Q ⟨R,[(s.H.l,di)]⟩ { s with env:=put s.env dst (kE s.H.l d),H:=s.H ++ [ob] }):pK T f args R dst s Q .mk:=by
 have i:args.map (gw (λ_=>di) s.H 40)=args:=by
  conv=>rhs;rw[<-aY args]
  exact au λd g=>p7 (lP a d g)
 exact .inl (.inr ⟨fn,d,ob,e,c,by rw[i];exact h,by rw[if_pos a];exact b,k⟩)
theorem wT.c{R:List Fp}{Q:Rc->St->Prop}{x:D}(c:T.fn f=bs fn)(b:fn.full=b4)(h:Wf T f args [] λd H'=>d=x/\H' = [])
  (e:gK args=bb) (a:closed x=bb) (k:Q ⟨R,[]⟩ { s with env:=put s.env dst x }):pK T f args R dst s Q .mk:=.inl (.inl (iZ.c c b h e a k))
theorem pK.z{nM:List D}{R:List Fp}{Q:Rc->St->Prop}{d:D}(v:Nat)(g:T.fn f=bs fn)(e:fn.full=b4)(h:Wf T f nM [] (Is d))(hs:args.map (gw (λ_=>di) s.H 40)=nM)
  (a:(args.map (iB s.H 40)).flatten = [v]) (b:(rowsOf s.H v).isSome=bb) (i:gK nM=bb) (c:closed d=bb) (k:Q ⟨R,[(v,di)]⟩ { s with env:=put s.env dst d,H:=s.H.set v .dead }):pK T f args R dst s Q .mk:=
 .inr (.inl ⟨fn,d,v,g,e,by rw[a];simp,by rw[a];simp,b,by rw[hs];exact i,by rw[hs];exact h,c,k⟩)
theorem pK.r{R:List Fp}{Q:Rc->St->Prop}{d:D}(v:Nat)(ob:Ob)(e:T.fn f=bs fn)(c:v∈(args.map (iB s.H 40)).flatten)(b:s.H[v]? = bs ob)
  (a:Ar (v+1) d=bb) (h:∀H:gd,H[v]? = bs ob->∃F,Wf T f args H λd' Hn=>d'=d/\Hn=H++F) (k:Q ⟨R,[]⟩ { s with env:=put s.env dst d }):pK T f args R dst s Q .mk:=.inr (.inr ⟨fn,d,v,ob,e,c,b,a,h,k⟩)
@[simp] theorem aw5(ds:List D):mL (.agg ds)=ds.all (yQ closed):=rfl
@[simp] theorem aw7(ds:List D):mL (.tup ds)=ds.all (yQ closed):=rfl
@[simp] theorem aw6(v g sz off n:Nat):mL (.gf v g sz off n)=true:=rfl
@[simp] theorem awV(p:D->Bool)(v g sz off n:Nat):yQ p (.gf v g sz off n)=true:=rfl
@[simp] theorem awU(l:List Int):yQ closed (dI l)=true:=by show closed (dI l)=bb;simp
@[simp] theorem awW(v:Value):yQ closed (.val v)=true:=by show closed (.val v)=bb;simp
@[simp] theorem asP(t g:Nat)(cs:List D):nN (.row t g cs)=gK cs:=rfl
@[simp] theorem avH(n:Nat)(ds:List D):kE n (.agg ds) = .agg (ds.map (yH n)):=rfl
@[simp] theorem avJ(n:Nat)(ds:List D):kE n (.tup ds) = .tup (ds.map (yH n)):=rfl
@[simp] theorem avI(n v g sz off k:Nat):kE n (.gf v g sz off k) = .gf (v+n) g sz off k:=rfl
@[simp] theorem avL(n v g sz off k:Nat):yH n (.gf v g sz off k) = .gf (v+n) g sz off k:=rfl
@[simp] theorem avK(n:Nat)(l:List Int):yH n (dI l)=dI l:=by unfold dI;rfl
@[simp] theorem avM(n:Nat)(v:Value):yH n (.val v) = .val v:=rfl
end
instance:Fl gD.cells 8:=⟨λ_=>rfl,λs=>by simp[gD.cells,gK]⟩
instance:Fl gY.cells 6:=⟨λ_=>rfl,λs=>by simp[gY.cells,gK]⟩
@[simp] theorem asF(l:List gD)(a b c:List Int)(r q k u:Int)(t:Bool):cl gD.cells l ++ [dI a,dI b,dI c,.i r,.i q,.i k,.i u,.b t]=cl gD.cells (l ++ [⟨⟨a,b,c,r,q⟩,k,u,t⟩]):=by rw[<-qc];rfl
@[simp] theorem asB(l:List gY)(a b c:List Int)(r q:Int)(t:Bool):cl gY.cells l ++ [dI a,dI b,dI c,.i r,.i q,.b t]=cl gY.cells (l ++ [⟨⟨a,b,c,r,q⟩,t⟩]):=by rw[<-qc];rfl
@[simp] theorem aza(s:gD):gD.mk s.p s.kind s.cur s.jY=s:=rfl
@[simp] theorem axn(s:gY):gY.mk s.p s.jY=s:=rfl
attribute [simp] gD.cells gY.cells
def Yq{T:iF}{f:FuncId}{args:List D}{dst:Option Nat}{s:St}{K:St->Prop}{fn:jq}{α:Type}{g:α->D}{Q:α->Prop}(h:Wf T f args [] (Ex g Q))(k:∀r,Q r->K { s with env:=put s.env dst (g r) })
  (c:T.fn f=bs fn:=by exact rfl) (b:fn.full=false:=by exact rfl) (d:gK args=true:=by simp) (a:∀r,closed (g r)=true:=by intro;simp):gy T f args dst s K .mk:=gy.q c b h d a k
def Yn{T:iF}{f:FuncId}{args:List D}{dst:Option Nat}{s:St}{K:St->Prop}{fn:jq}{d:D}{Hn:gd}(h:Wf T f args [] λd' H'=>d'=d/\H'=Hn)(k:K { s with env:=put s.env dst (kE s.H.l d),H:=s.H++Hn })
  (c:T.fn f=bs fn:=by exact rfl) (b:fn.full=false:=by exact rfl) (e:gK args=true:=by simp) (a:(mL d&&Hn.all nN)=true:=by simp):gy T f args dst s K .mk:=gy.n c b h e a k
end Go.AL
namespace Go.AL
open Go
def kL(l:List gD):D:=.sl 8 (l.map gD.cells)
def od(l:List gY):D:=.sl 6 (l.map gY.cells)
@[simp] theorem ayQ(l:List gD):D.sl 8 (l.map gD.cells)=kL l:=by unfold kL;rfl
@[simp] theorem ayN(l:List gY):D.sl 6 (l.map gY.cells)=od l:=by unfold od;rfl
section
variable{l:List gD}{n:Int}{k:IntKind}{P:D->Prop}{H:gd}
@[simp] theorem as4:closed (kL l)=true:=by unfold kL;exact xZ l
@[simp] theorem avB:mY .slice (kL l) H=bs (.i l.l):=by simp only[kL,Zn,cc]
@[simp] theorem azp(n:Nat):jB n (kL l) = []:=by unfold kL;rfl
@[simp] theorem ash:cellsOf (kL l)=bs [kL l]:=by unfold kL;rfl
@[simp] theorem awD:oA (mC 8 (kL l) (.val (.int k n))) P .mk=((0<=n/\n<l.l)/\P (.gC (gt l n).cells)):=by unfold kL;exact yP
end
section
variable{l:List gY}{n:Int}{k:IntKind}{P:D->Prop}{H:gd}
@[simp] theorem as1:closed (od l)=true:=by unfold od;exact xZ l
@[simp] theorem avy:mY .slice (od l) H=bs (.i l.l):=by simp only[od,Zn,cc]
@[simp] theorem ay2:lu 6 H (od l)=bs (cl gY.cells l,l.l):=by unfold od;exact I7 ..
@[simp] theorem azl(n:Nat):jB n (od l) = []:=by unfold od;rfl
@[simp] theorem awA:oA (mC 6 (od l) (.val (.int k n))) P .mk=((0<=n/\n<l.l)/\P (.gC (gt l n).cells)):=by unfold od;exact yP
end
@[simp] theorem ayL:D.sl 8 []=kL []:=by unfold kL;rfl
@[simp] theorem ayK:D.sl 6 []=od []:=by unfold od;rfl
@[simp] theorem atZ{ρ:Nat->Option Nat}{H:gd}{k:Nat}{t:TypeId}{a b c:List Int}{r q w u:Int}{o:Bool}:mT ρ H (k+1) 8 0 1 (bs (t,[dI a,dI b,dI c,.i r,.i q,.i w,.i u,.b o]))=kL [⟨⟨a,b,c,r,q⟩,w,u,o⟩]:=by have h:=vx (f:=gD.cells) (ρ:=ρ) (H:=H) (k:=k) (t:=t) (l:=[⟨⟨a,b,c,r,q⟩,w,u,o⟩]) (n:=1) rfl;rw[oV]at h;unfold kL;exact h
def x8(S:List Nat):Nat->gd->nJ
 | _,[]=>[]
 | i,_::r=>(i,!S.contains i)::x8 S (i+1) r
@[simp] theorem atH(S:List Nat)(i:Nat):x8 S i [] = []:=rfl
@[simp] theorem atG(S:List Nat)(i:Nat)(o:Ob)(r:gd):x8 S i (o::r)=(i,!decide (i∈S))::x8 S (i+1) r:=by rw[x8,da]
def afk(H:gd)(S:List Nat):mJ H S=x8 S 0 H:=by
 have key:∀(H:gd) (i:Nat),(List.range' i H.l).map (λv=>(v,!(S.contains v)))=x8 S i H:=by
  intro H
  induction H with
  | nil=>intro i;rfl
  | cons o r a=>intro i;rw[aI,cD,List.map_cons,a,x8]
 rw[mJ,cM,key]
def QA(env:Env)(H:gd)(m:List Nat)(r:Bool)(ks:nJ):St:={ env:=env.map λp=>(p.1,gw (iR ks) H 40 p.2),H:=ks.map λp=>if p.2 then u7 (iR ks) H H[p.1]? else .dead,marks:=m,iG:=r }
@[simp] theorem atU(S:List Nat)(env:Env)(H:gd)(m:List Nat)(r:Bool):mj S { env:=env,H:=H,marks:=m,iG:=r }=QA env H m r (x8 S 0 H):=by unfold mj QA;rw[afk];rfl
@[simp] theorem atO(env:Env)(H:gd)(m:List Nat)(r:Bool)(ks:nJ):QA env H m r ks = { env:=env.map λp=>(p.1,gw (iR ks) H 40 p.2),H:=ks.map λp=>if p.2 then u7 (iR ks) H H[p.1]? else .dead,marks:=m,iG:=r }:=rfl
section
variable{T:iF}
def QB(S:List Nat)(T:iF)(b:IR)(K:jb):jb:=λo=>match o with
 | .norm s=>s.marks = []/\XC T b (mj S s) K
 | o=>K o
@[simp ↓] theorem atQ{S:List Nat}{b:IR}{K:jb}{s:St}:QB S T b K (.norm s)=(s.marks = []/\XC T b (mj S s) K):=(rfl)
@[simp ↓] theorem atP{S:List Nat}{b:IR}{K:jb}{id:Nat}{s:St}:QB S T b K (.exit id s)=K (.exit id s):=(rfl)
@[simp ↓] theorem atT{S:List Nat}{b:IR}{K:jb}{s:St}:QB S T b K (.ret s)=K (.ret s):=(rfl)
theorem gx.fz{live:List Nat}{a:IR}{s:St}{K:jb}(S:List Nat)(b:s.marks = [])(h:gx T live a (mj S s) K .mk):gx T live a s K .mk:=Wc.mj S (by rw[b];exact ahx _) h
end
theorem Zp{g:gq}{s d c:Int}:∀(n:Nat) (x:Int) (out:List Int),(ua g s d c n x out).l<=out.l+n
 | 0,x,out=>by simp[ua]
 | n+1,x,out=>by
  unfold ua;split
  .have:=Zp (g:=g) (s:=s) (d:=d) (c:=c) n (mr g s d x) (out ++ [x]);simp at this;omega
  .omega
def SA{g:gq}{s d c:Int}:(lK g s d c).l<=10:=by have:=Zp (g:=g) (s:=s) (d:=d) (c:=c) 10 (mr g s d c) [];simpa[lK]using this
theorem Zq{s:gD}:∀l:List Int,(qt s l).l<=l.l
 | []=>by simp[qt]
 | c::r=>by have:=Zq (s:=s) r;unfold qt;split<;>simp<;>omega
def Fg{g:gq}{s:gD}{x:gg}:(jj g s x).l<=10:=by
 have:=Zq (s:=s) (lK g s.p.side x.2 s.cur);have:=SA (g:=g) (s:=s.p.side) (d:=x.2) (c:=s.cur);unfold jj tq uk;dsimp only
 repeat' split
 all_goals first|omega|(simp only[aI,cW];omega)
end Go.AL
namespace Go.Proofs.YtmehofoficaelaaGreatDoor
open Go Go.AL Classical
set_option maxRecDepth 10000
set_option maxHeartbeats 1000000
structure rK(a b:List Pos)(i k:Int)(out:List Pos):Prop where
 i0:0<=i/\i<=a.l
 k0:0<=k/\k<=b.l
 len:(out.l:Int)=i+k
 perm:out.Perm (a.take i.n++b.take k.n)
 ws:WS out
 le:∀x∈out,∀y,y∈a.drop i.n\/y∈b.drop k.n->iH x y<=0
def rK.init(a b:List Pos):rK a b 0 0 []:=⟨U,U,rfl,fZ,by simp[WS],fZ⟩
def abE{a:List Pos}(h:WS a){i:Int}(h0:0<=i)(h1:i<a.l){y:Pos}(b:y∈a.drop i.n):iH (gt a i) y<=0:=by
 have c:WS (a.drop i.n):=fL (List.drop_sublist _ _) h;rw[oe h0 h1]at b c;rcases av.1 b with rfl|b
 .rw[uJ];omega
 .exact(aT.1 c).1 y b
def ahF{α:Type}[Inhabited α]{a:List α}{i:Int}(h0:0<=i)(h1:i<a.l){y:α}:y∈a.drop i.n↔y=gt a i\/y∈a.drop (i+1).n:=by rw[oe h0 h1,av,(U:(i+1).n=i.n+1)]
def rK.add{a b:List Pos}{i k:Int}{out:List Pos}(f:rK a b i k out)(hi:i<a.l)(g:WS a)(h:∀y∈b.drop k.n,iH (gt a i) y<=0):rK a b (i+1) k (out ++ [gt a i]):=by
 have h0:=f.i0;have e:∀y,y∈a.drop i.n↔y=gt a i\/y∈a.drop (i+1).n:=λy=>ahF h0.1 hi;refine⟨U,f.k0,by have:=f.len;simp;omega,?_,?_,λx d y c=>?_⟩
 .rw[jt h0.1 hi,aL];refine(f.perm.append_right _).trans ?_;rw[aL];exact cp.append_left _ fM
 .refine bN.2 ⟨f.ws,fZ,λx d y c=>?_⟩;simp at c;subst c;exact f.le x d _ (.inl ((e _).2 (.inl rfl)))
 .rcases aj.1 d with d|d
  .exact f.le x d y (c.imp (λh=>(e _).2 (.inr h)) id)
  .simp at d;subst d;rcases c with c|c
   .exact abE g h0.1 hi ((e _).2 (.inr c))
   .exact h y c
def rK.swap{a b:List Pos}{i k:Int}{out:List Pos}(c:rK a b i k out):rK b a k i out:=
 ⟨c.k0,c.i0,by have:=c.len;omega,c.perm.trans fM,c.ws,λx e y d=>c.le x e y d.symm⟩
def rK.TU{a b:List Pos}{i k:Int}{out:List Pos}(d:rK a b i k out)(hi:i<a.l)(g:WS a)(f:WS b)(h:k<b.l->iH (gt a i) (gt b k)<=0):rK a b (i+1) k (out ++ [gt a i]):=by
 refine d.add hi g λy c=>?_
 by_cases e:k<b.l
 .exact Vo (h e) (abE f d.k0.1 e c)
 .rw[bA (by have:=d.k0;omega)]at c;cases c
def rK.abb{a b:List Pos}{i k:Int}{out:List Pos}(f:rK a b i k out)(c:k<b.l)(e:WS a)(d:WS b)(h:i<a.l->¬iH (gt a i) (gt b k)<=0):rK a b i (k+1) (out ++ [gt b k]):=by refine(f.swap.TU c d e λhi=>?_).swap;have:=h hi;rw[vj];omega
def f109:∀(n:Nat) (l:List Pos),l.l=n->l.l<2 ^ 40->(∀p∈l,Small p)->Wf T 161 [gP l] [] (Ex gP λr=>r.Perm l/\WS r):=by
 intro n
 induction n using Nat.strongRecOn with
 | ind n g=>
 intro l w hl hs;refine Yg JI ?_;simp[JI];(with_reducible refine Xs ?_ ?_<;>intro h<;>(try intro j)<;>(try simp[h])<;>(try omega))
 .refine⟨l,rfl,cp.refl _,?_⟩;unfold WS
  cases l with
  | nil=>simp
  | cons a l=>cases l with
   | nil=>simp
   | cons b l=>simp at h;omega
 .rw[u4 U U U];refine gh ?_;refine Yq (g (l.l / 2) U _ gL gL (λp d=>hs p (aX d))) λa f=>?_;simp;rw[u4 U U U];refine gh ?_;refine Yq (g (l.l-l.l / 2) U _ gL gL (λp d=>hs p (bt (aX d)))) λb e=>?_;simp;have v:(a.l:Int)=l.l / 2:=by rw[f.1.length_eq];simp;omega
  have u:(b.l:Int)=l.l-l.l / 2:=by rw[e.1.length_eq];simp;omega
  have q:∀p∈a,Small p:=λp d=>hs p (aX ((f.1.mem_iff).1 d));have o:∀p∈b,Small p:=λp d=>hs p (bt (aX ((e.1.mem_iff).1 d)));refine gx.j ((0,0,[]):Int×Int×List Pos) (λx=>[(3,gP a),(4,gP b),(5,.gf 0 x.2.2.l 5 0 x.2.2.l),(6,.i x.1),(7,.i x.2.1)]) (λx=>[.row 46 x.2.2.l (cl Pos.cells x.2.2)]) (λx=>rK a b x.1 x.2.1 x.2.2) (λx=>a.l+b.l-(x.1+x.2.1).n) ?_ fZ xJ rfl ?_
  .exact rK.init a b
  rintro⟨i,k,out⟩ c;have h0:=c.i0;have h1:=c.k0;have s:=c.len;dsimp only at c h0 h1 s ⊢;simp;(with_reducible repeat' first|refine Xk ?_<;>try simp|refine Xs ?_ ?_<;>intro h<;>(try intro j)<;>(try simp[h])<;>try omega|refine Xg ?_|omega)
  .exact⟨i+1,k,_,fZ,rfl,rfl,fZ,rfl,U,c.TU jZ f.2 e.2 λh=>U⟩
  .refine Yt (f50 _ _ (q _ (gF U U)) (o _ (gF U U))) ?_;simp[*];(with_reducible repeat' first|refine Xk ?_<;>try simp|refine Xs ?_ ?_<;>intro h<;>(try intro j)<;>(try simp[h])<;>try omega|refine Xg ?_|omega)
   .exact⟨i+1,k,_,fZ,rfl,rfl,fZ,rfl,U,c.TU jZ f.2 e.2 λ_=>jZ⟩
   .exact⟨i,k+1,_,fZ,rfl,rfl,fZ,rfl,U,c.abb U f.2 e.2 λ_=>jZ⟩
  .exact⟨i,k+1,_,fZ,rfl,rfl,fZ,rfl,U,c.abb U f.2 e.2 λ_=>U⟩
  .refine⟨out,rfl,?_,c.ws⟩;have m:=c.perm;rw[lC U,lC U]at m;refine m.trans ((cp.append f.1 e.1).trans ?_);have t:(l.drop (↑l.l / 2:Int).n).take (l.l-(↑l.l / 2:Int).n)=l.drop (↑l.l / 2:Int).n:=af (by rw[aU];exact Nat.le_refl _);rw[t,bV]
structure wR(a:List Pos)(i:Int)(out:List Pos):Prop where
 i0:0<=i/\i<=a.l
 len:(out.l:Int)<=i
 mem:∀q,q∈out↔q∈a.take i.n
 st:out.Pairwise λx y=>iH x y<0
def wR.init(a:List Pos):wR a 0 []:=⟨U,fZ,fZ,fZ⟩
def abF{a:List Pos}(h:WS a){j:Int}(h0:0<=j)(h1:j<a.l){x:Pos}(b:x∈a.take (j+1).n):iH x (gt a j)<=0:=by
 have c:WS (a.take (j+1).n):=fL (List.take_sublist _ _) h;rw[jt h0 h1]at b c;rcases aj.1 b with b|b
 .exact(bN.1 c).2.2 x b _ fZ
 .simp at b;subst b;rw[uJ];omega
def wR.skip{a:List Pos}{i:Int}{out:List Pos}(b:wR a i out)(hi:i<a.l)(h1:i≠0)(h:gt a i=gt a (i-1)):wR a (i+1) out:=by have h0:=b.i0;refine⟨U,by have:=b.len;omega,λq=>?_,b.st⟩;rw[b.mem,jt h0.1 hi,aj,aE];refine⟨.inl,λc=>c.elim id λc=>?_⟩;rw[c,h];have:=jt (l:=a) (n:=i-1) U U;rw[(U:i-1+1=i)]at this;rw[this];simp
def wR.add{a:List Pos}{i:Int}{out:List Pos}(c:wR a i out)(hi:i<a.l)(f:WS a)(h:i=0\/gt a i≠gt a (i-1)):wR a (i+1) (out ++ [gt a i]):=by
 have h0:=c.i0;refine⟨U,by have:=c.len;simp;omega,λq=>?_,bN.2 ⟨c.st,fZ,λx b y d=>?_⟩⟩
 .rw[aj,c.mem,jt h0.1 hi,aj]
 .simp at d;subst d;have b:=(c.mem x).1 b;rcases h with rfl|h
  .simp at b
  .by_cases g:i=0
   .subst g;simp at b
   have p:=abF f (j:=i-1) U U (x:=x) (by rw[(U:i-1+1=i)];exact b)
   have o:=abF f h0.1 hi (x:=gt a (i-1)) (by
    have:=jt (l:=a) (n:=i-1) U U;rw[(U:i-1+1=i)]at this
    rw[jt h0.1 hi,this];simp)
   have m:iH (gt a (i-1)) (gt a i)≠0:=λe=>h (rO.1 e).symm
   by_cases k:iH x (gt a (i-1))=0
   .rw[rO.1 k];omega
   .exact zz (U:iH x (gt a (i-1))<0) U
def aoa{r:List Pos}(h:r.Pairwise λx y=>iH x y<0):kT r:=by intro i h1 a;rw[iX U U,iX U U];exact bG.1 h _ _ _ _ U
def f61(l:List Pos)(hl:l.l<2 ^ 40)(hs:∀p∈l,Small p):Wf T 101 [gP l] [] (Ex gP λr=>kT r/\r.l<=l.l/\∀q,q∈r↔q∈l):=by
 refine Yg LQ ?_;simp[LQ];refine Yq (f109 _ l rfl hl hs) λa c=>?_;simp;have f:a.l=l.l:=c.1.length_eq;have d:∀p∈a,Small p:=λp e=>hs p (c.1.mem_iff.1 e);refine gx.j ((0,[]):Int×List Pos) (λx=>[(3,gP a),(4,.gf 0 x.2.l 5 0 x.2.l),(5,.i x.1)]) (λx=>[.row 46 x.2.l (cl Pos.cells x.2)]) (λx=>wR a x.1 x.2) (λx=>a.l-x.1.n) ?_ fZ xJ rfl ?_
 .exact wR.init a
 rintro⟨i,out⟩ b;have h0:=b.i0;have h1:=b.len;dsimp only at b h0 h1 ⊢;simp;(with_reducible repeat' first|refine Xk ?_<;>try simp|refine Xs ?_ ?_<;>intro h<;>(try intro g)<;>(try simp[h])<;>try omega|refine Xg ?_|omega)
 .exact⟨1,_,fZ,rfl,fZ,rfl,U,by subst h;exact b.add jZ c.2 (.inl rfl)⟩
 .refine Yt (f110 _ _ (d _ (gF U U)) (d _ (gF U U))) ?_;simp;refine kj ?_ ?_<;>intro h
  .exact⟨i+1,_,rfl,rfl,rfl,rfl,U,b.skip jZ jZ jZ⟩
  .exact⟨i+1,_,fZ,rfl,fZ,rfl,U,b.add jZ c.2 (.inr jZ)⟩
 .refine⟨out,rfl,aoa b.st,U,λq=>?_⟩;rw[b.mem,lC U,c.1.mem_iff]
end Go.Proofs.YtmehofoficaelaaGreatDoor
namespace Go.AL
open Go
def Sw(H:gd)(d:D)(ks:nJ):D×gd:=(gw (iR ks) H 40 d,ks.map λp=>if p.2 then u7 (iR ks) H H[p.1]? else .dead)
@[simp] theorem avq(H:gd)(d:D)(ks:nJ):Sw H d ks=(gw (iR ks) H 40 d,ks.map λp=>if p.2 then u7 (iR ks) H H[p.1]? else .dead):=rfl
def EV(own n:Nat)(H:gd)(d:D):List Nat:=match own with|0=>[]|1=>EW n d|3=>((iB H 40 d).filter (n<=·)).take 1|_=>(iB H 40 d).filter (n<=·)
@[simp] theorem axo(n:Nat)(H:gd)(d:D):EV 0 n H d = []:=rfl
@[simp] theorem axp(n:Nat)(H:gd)(d:D):EV 1 n H d=EW n d:=rfl
@[simp] theorem axq(n:Nat)(H:gd)(d:D):EV 2 n H d=(iB H 40 d).filter (n<=·):=rfl
@[simp] theorem axr(n:Nat)(H:gd)(d:D):EV 3 n H d=((iB H 40 d).filter (n<=·)).take 1:=rfl
@[simp low] theorem ag8{own n:Nat}{H:gd}{d:D}(h:¬H.l<=n)(a:¬own=4):leave own n H d=Sw H d (jn n (dedup ((EV own n H d++((H.take n).map (o9 n)).flatten).filter (· < H.l)))):=by unfold leave Sw EV;rw[if_neg U];rfl
@[simp] theorem axt(n v g sz len:Nat):EW n (.gf v g sz 0 len)=if n<=v then [v]else []:=rfl
theorem OV{H:gd}{k:Nat}{d:D}(h:closed d=bb):iB H k d = []:=by
 cases k with
 | zero=>rfl
 | succ k=>unfold iB;exact if_pos h
def OW{H:gd}{k:Nat}{cs:List D}(h:gK cs=bb):(cs.map (iB H k)).flatten = []:=by
 induction cs with
 | nil=>rfl
 | cons d r a=>
  simp only[gK,ai]at h;simp[OV h.1,a h.2]
@[simp] theorem axN{H:gd}{k:Nat}{d:D}(h:closed d=bb):iB H k d = []:=OV h
@[simp] theorem axL(H:gd)(k:Nat)(cs:List D):iB H (k+1) (.agg cs)=(cs.map (iB H k)).flatten:=by
 by_cases h:closed (.agg cs)=bb
 .rw[OV h,OW (by simpa using h)]
 .rw[iB,if_neg h]
@[simp] theorem axR(H:gd)(k:Nat)(cs:List D):iB H (k+1) (.tup cs)=(cs.map (iB H k)).flatten:=by
 by_cases h:closed (.tup cs)=bb
 .rw[OV h,OW (by simpa using h)]
 .rw[iB,if_neg h]
def E3(H:gd)(k:Nat):Option Ob->List Nat
 | some (.row _ _ cs)=>(cs.map (iB H k)).flatten
 | _=>[]
@[simp] theorem axT(H:gd)(k t g:Nat)(cs:List D):E3 H k (bs (.row t g cs))=(cs.map (iB H k)).flatten:=rfl
@[simp] theorem axS(H:gd)(k:Nat)(kk:KK)(es:List (Value×D)):E3 H k (bs (.map kk es)) = []:=rfl
theorem aaA(H:gd)(k v:Nat):(match rowsOf H v with|some (_,_,cs)=>(cs.map (iB H k)).flatten|none=>[])=E3 H k H[v]? := by
 unfold rowsOf E3
 cases h:H[v]? with
 | none=>rfl
 | some o=>cases o<;>rfl
@[simp] theorem axO(H:gd)(k v g sz off n:Nat):iB H (k+1) (.gf v g sz off n)=v::E3 H k H[v]? := by rw[iB,if_neg fZ];exact congrArg _ (aaA H k v)
@[simp] theorem axP(H:gd)(k v g off:Nat):iB H (k+1) (.ptr v g off)=v::E3 H k H[v]? := by rw[iB,if_neg fZ];exact congrArg _ (aaA H k v)
@[simp] theorem axQ{H:gd}{k:Nat}{α:Type}{f:α->List D}{sz:Nat}[F:Fl f sz](l:List α):((cl f l).map (iB H k)).flatten = []:=OW (sw l)
@[simp low] theorem QD{ρ:Nat->Option Nat}{H:gd}{k sz:Nat}{t:TypeId}{cs:List D}(h:cs.l=sz):mT ρ H k sz 0 1 (bs (t,cs)) = .sl sz [cs.map (gw ρ H k)]:=by subst h;unfold mT;simp[chunks,af]
@[simp] theorem ayR{a b c:List Int}{r q w u:Int}{o:Bool}:D.sl 8 [[dI a,dI b,dI c,.i r,.i q,.i w,.i u,.b o]]=kL [⟨⟨a,b,c,r,q⟩,w,u,o⟩]:=by unfold kL;rfl
end Go.AL
namespace Go.Proofs.YtmehofoficaelaaGreatDoor
open Go Go.AL Classical
set_option maxRecDepth 10000
set_option maxHeartbeats 1000000
def M9(p:Pos)(a:Small p):Wf T 205 [dP p] [] (λd H=>d = .agg [.gf 0 1 1 0 p.cs.l,.gf 1 1 1 0 p.h0.l,.gf 2 1 1 0 p.h1.l,.i p.gO,.i p.side]/\H = [.row 3 1 (cl f1 p.cs),.row 3 1 (cl f1 p.h0),.row 3 1 (cl f1 p.h1)]):=by
 obtain⟨h1,c,b⟩:=a;refine Wf.xo 2 (fn:=zh) rfl (by simp[zh]) ?_;simp[zh];exact mI
 all_goals trace_state
def f250(a b:gD)(d:Small a.p)(c:Small b.p):Wf T 294 [.agg a.cells,.agg b.cells] [] (Is (.b (decide (a=b)))):=by
 have e:(a=b)↔a.p=b.p/\a.kind=b.kind/\a.cur=b.cur/\a.jY=b.jY:=by cases a;cases b;simp
 have f:decide (a=b)=decide (a.p=b.p/\a.kind=b.kind/\a.cur=b.cur/\a.jY=b.jY):=decide_eq_decide.2 e;rw[f];refine Yg Lo ?_;simp[Lo];(with_reducible repeat' first|refine Xk ?_<;>try simp|refine Xs ?_ ?_<;>intro h<;>(try intro g)<;>(try simp[h])<;>try omega|refine Xg ?_|omega)
 .refine Yc (f50 _ _ d c) ?_;simp;simp_all [rO]
 all_goals (intros;simp_all)
def f252(s:gD)(b:Bool):Wf T 296 [.agg s.cells,.b b] [] (Is (kL (if b then [s]else []))):=by refine Yg Lq ?_;simp[Lq];exact mI
def Ik(a b:gY):Prop:=iH a.p b.p<0\/(iH a.p b.p=0/\a.jY=b4/\b.jY=bb)
def f229(a b:gY)(d:Small a.p)(c:Small b.p):Wf T 285 [.agg a.cells,.agg b.cells] [] (Is (.b (decide (Ik a b)))):=by
 refine Yg Lg ?_;simp[Lg];refine Yc (f50 _ _ d c) ?_;simp;(with_reducible repeat' first|refine Xk ?_<;>try simp|refine Xs ?_ ?_<;>intro h<;>(try intro f)<;>(try simp[h])<;>try omega|refine Xg ?_|omega)
 all_goals by_cases e:iH a.p b.p<0<;>simp[*,Ik]at *
def f263(g:gq)(hg:oU g)(s d c:Int):Wf T 321 [g.jU,.i s,.i d,.i c] [] (Is (dI (lK g s d c))):=by
 have o:=hg.size;refine Yg Lv ?_;simp[Lv];refine Yc (f251 g hg s d c) ?_;simp;refine gx.j ((0,mr g s d c,[]):Nat×Int×List Int) (λx=>[(1,.i s),(2,.i d),(3,.i c),(4,.ptr 0 0 0),(9,.gf 1 x.2.2.l 1 0 x.2.2.l),(10,.i x.2.1)]) (λx=>[.row 39 0 [.i g.size,.sl 1 (g.next.map fI),dI g.jD],.row 3 x.2.2.l (cl f1 x.2.2)]) (λx=>x.1=x.2.2.l/\x.2.1<g.size/\x.2.2.Nodup/\(∀y∈x.2.2,0<=y/\y<g.size)/\lK g s d c=ua g s d c (10-x.1) x.2.1 x.2.2) (λx=>10-x.1) ?_ fZ xJ rfl ?_
 .have:=hg.to s d c;simp[lK];omega
 rintro⟨m,x,out⟩ ⟨h0,h1,f,b,j⟩;dsimp only at h0 h1 f b j ⊢;have n:out.l<=9:=Ax 9 out f (λy a=>by have:=b y a;omega);have e:=j;rw[(U:10-m=(9-m)+1),ua]at e;simp;(with_reducible repeat' first|refine Xk ?_<;>try simp|refine Xs ?_ ?_<;>intro h<;>(try intro p)<;>(try simp[h])<;>try omega|refine Xg ?_|omega)
 .rw[e,if_neg U]
 .refine gy.r rfl rfl (f25 out x U) fZ rfl fZ ?_;simp;refine kj ?_ ?_<;>intro h
  .rw[e,if_neg (by rintro⟨_,_,k⟩;exact k ‹_›)]
  .refine Yc (f251 g hg s d x) ?_;simp;refine⟨out.l+1,_,out ++ [x],fZ,rfl,fZ,rfl,U,fZ,(hg.to _ _ _).2,?_,?_,?_⟩
   .rw[cP];refine⟨f,fZ,λy a z i=>?_⟩;simp at i;subst i;intro l;subst l;exact absurd a ‹_›
   .intro y a;simp at a;rcases a with a|rfl
    .exact b y a
    .omega
   .rw[e,if_pos (pb jZ),h0,(U:9-out.l=10-(out.l+1))]
 .rw[e,if_neg U]
