/- Part 11 of DisputeMatchesReference. -/
import Derived.Test.YtmehofoficaelaaGreatDoorM10
import Derived.Test.YtmehofoficaelaaGreatDoorM08
set_option linter.all false
open List renaming mem_singleton→aE,length_map→cj,Perm→cp,length→List.l
open Bool renaming true→bb,false→b4
open Option renaming some→bs,none→di
open Int renaming toNat→Int.n
namespace Go.AL
def lM(a b:Int):Int:=if a<b then -1 else if a>b then 1 else 0
def lE:List Int->List Int->Int
 | [],[]=>0
 | [],_::_ => -1
 | _::_,[]=>1
 | a::l,b::m=>if a=b then lE l m else lM a b
def oH:List Int->Int
 | []=>0
 | a::l=>if a≠0 then a else oH l
def iQ(p q:Pos):Int:=oH [lE p.cs q.cs,lE p.h0 q.h0,lE p.h1 q.h1,lM p.gX q.gX,lM p.side q.side]
def zR{a b:Int}:lM a b=0↔a=b:=by unfold lM;(repeat' split)<;>omega
def FZ{a b:Int}:lM a b<0↔a<b:=by unfold lM;(repeat' split)<;>omega
def PT(a b:Int):lM b a = - lM a b:=by unfold lM;(repeat' split)<;>omega
theorem PG:∀ {a b:List Int},lE a b=0↔a=b
 | [],[]=>by simp[lE]
 | [],_::_=>by simp[lE]
 | _::_,[]=>by simp[lE]
 | a::l,b::m=>by
  unfold lE;split
  .rename_i h;subst h;rw[PG];simp
  .rename_i h;rw[zR];simp[h]
theorem PE:∀(a b:List Int),lE b a = - lE a b
 | [],[]=>rfl
 | [],_::_=>rfl
 | _::_,[]=>rfl
 | a::l,b::m=>by
  unfold lE
  by_cases h:a=b
  .subst h;simp[PE l m]
  .rw[if_neg h,if_neg (cH h),PT]
theorem PF:∀ {a b c:List Int},lE a b<0->lE b c<0->lE a c<0
 | [],[],c,h,_=>by simp[lE]at h
 | _::_,[],c,h,_=>by simp[lE]at h
 | a,_::_,[],_,h=>by simp[lE]at h
 | [],_::_,_::_,_,_=>by simp[lE]
 | a::l,b::m,c::k,h1,h2=>by
  unfold lE at *
  by_cases e:a=b
  .subst e;rw[if_pos rfl]at h1
   by_cases d:a=c
   .subst d;rw[if_pos rfl]at h2 ⊢;exact PF h1 h2
   .rw[if_neg d]at h2 ⊢;exact h2
  .rw[if_neg e,FZ]at h1
   by_cases d:b=c
   .subst d;rw[if_neg e,FZ];exact h1
   .rw[if_neg d,FZ]at h2;rw[if_neg U,FZ];omega
theorem RP:∀ {l:List Int},oH l=0↔∀x∈l,x=0
 | []=>by simp[oH]
 | a::l=>by
  unfold oH;split
  .rename_i h;simp[h]
  .rename_i h;rw[RP];simp_all
def s9{p q:Pos}:iQ p q=0↔p=q:=by unfold iQ;rw[RP];cases p;cases q;simp[PG,zR]
def w5(p:Pos):iQ p p=0:=s9.2 rfl
def w6(p q:Pos):iQ q p = - iQ p q:=by unfold iQ oH;rw[PE p.cs,PE p.h0,PE p.h1,PT p.gX,PT p.side];simp only[oH];(repeat' split)<;>omega
def Cz{A B C:Int}{a b c:List Int}(h1:A=0->C=B)(g:B=0->C=A)(f:A<0->B<0->C<0)(h:oH a<0->oH b<0->oH c<0):oH (A::a)<0->oH (B::b)<0->oH (C::c)<0:=by
 unfold oH;intro x y
 by_cases e:A=0
 .have:=h1 e;subst this;rw[if_neg (by simpa using e)]at x
  by_cases d:C=0
  .rw[if_neg (by simpa using d)]at y ⊢;exact h x y
  .rw[if_pos d]at y ⊢;exact y
 .rw[if_pos e]at x
  by_cases d:B=0
  .have:=g d;subst this;rw[if_pos e];exact x
  .rw[if_pos d]at y;have:=f x y;rw[if_pos U];exact this
def AF{p q r:Pos}:iQ p q<0->iQ q r<0->iQ p r<0:=by
 have key:∀a b c:List Int,lE a b=0->lE a c=lE b c:=λa b c h=>by rw[PG.1 h]
 have d:∀a b c:List Int,lE b c=0->lE a c=lE a b:=λa b c h=>by rw[PG.1 h]
 have n1:∀a b c:Int,lM a b=0->lM a c=lM b c:=λa b c h=>by rw[zR.1 h]
 have n2:∀a b c:Int,lM b c=0->lM a c=lM a b:=λa b c h=>by rw[zR.1 h]
 have e:∀a b c:Int,lM a b<0->lM b c<0->lM a c<0:=λa b c=>by simp only[FZ];omega
 unfold iQ;refine Cz (key _ _ _) (d _ _ _) PF (Cz (key _ _ _) (d _ _ _) PF (Cz (key _ _ _) (d _ _ _) PF (Cz (n1 _ _ _) (n2 _ _ _) (e _ _ _) (Cz (n1 _ _ _) (n2 _ _ _) (e _ _ _) λh=>?_))));simp[oH]at h
def aaU{a b:List Int}:∀ {i:Nat},a.take i=b.take i->i<=a.l->i<=b.l->lE a b=lE (a.drop i) (b.drop i):=by
 intro i
 induction i generalizing a b with
 | zero=>intro _ _ _;rfl
 | succ i d=>
  intro h h1 c
  cases a with
  | nil=>simp at h1
  | cons x a=>
   cases b with
   | nil=>simp at c
   | cons y b=>
    simp only[List.take_succ_cons,dj]at h;simp only[aL]at h1 c;simp only[List.drop_succ_cons,lE,h.1,if_true];exact d h.2 U U
def TZ{a b:List Int}(h:a.l=0\/b.l=0):lE a b=lM a.l b.l:=by
 cases a<;>cases b<;>simp_all [lE,lM]
 all_goals omega
def WV{p q r:Pos}(h1:iQ p q<=0)(c:iQ q r<=0):iQ p r<=0:=by
 by_cases a:iQ p q=0
 .rw[s9.1 a];exact c
 .by_cases b:iQ q r=0
  .rw[<-s9.1 b];exact h1
  .exact Int.le_of_lt (AF (U:iQ p q<0) (U:iQ q r<0))
def WS(l:List Pos):Prop:=l.Pairwise λx y=>iQ x y<=0
def Small(p:Pos):Prop:=p.cs.l<2 ^ 40/\p.h0.l<2 ^ 40/\p.h1.l<2 ^ 40
def lP(l:List Pos):Prop:=∀i:Int,1<=i->i<l.l->iQ (gt l (i-1)) (gt l i)<0
theorem lP.lt{l:List Pos}(h:lP l){i:Int}(h0:0<=i):∀ {n:Nat},i<n->(n:Int)<l.l->iQ (gt l i) (gt l n)<0
 | 0,h1,_=>U
 | n+1,h1,h2=>by
  have:=h (n+1) U U;rw[ec]at this
  by_cases e:i=n
  .subst e;exact this
  .exact AF (h.lt h0 U U) this
def lP.le{l:List Pos}(h:lP l){i j:Int}(h0:0<=i)(h1:i<j)(a:j<l.l):iQ (gt l i) (gt l j)<0:=by have:=h.lt h0 (n:=j.n) U U;rwa [cA U]at this
def lP.inj{l:List Pos}(h:lP l){i j:Int}(h0:0<=i)(h1:i<l.l)(d:0<=j)(c:j<l.l)(e:gt l i=gt l j):i=j:=by
 by_cases a:i<j
 .have:=h.le h0 a c;rw[e,w5]at this;omega
 .by_cases b:j<i
  .have:=h.le d b h1;rw[e,w5]at this;omega
  .omega
def rj(l:List Pos)(p:Pos):Int:=if p∈l then(l.idxOf p:Int)else -1
def Ym{l:List Pos}{p:Pos}(h:p ∉ l):rj l p = -1:=if_neg h
def H7{l:List Pos}{p:Pos}(h:p∈l):0<=rj l p/\rj l p<l.l/\gt l (rj l p)=p:=by unfold rj;rw[if_pos h];have hi:l.idxOf p<l.l:=List.idxOf_lt_length_iff.2 h;refine sk ?_;rw[CF hi];exact List.getElem_idxOf hi
def agL{l:List Pos}(hs:lP l){i:Int}(h0:0<=i)(h1:i<l.l):rj l (gt l i)=i:=by obtain⟨a,b,c⟩:=H7 (gF h0 h1);exact hs.inj a b h0 h1 c
end Go.AL
namespace Go.AL
open Go
def pt{α:Type}(l:List α)(n:Int)(v:α):List α:=l.take n.n++v::l.drop (n.n+1)
section
variable{α:Type}[Inhabited α]{l:List α}{n k:Int}{v:α}
theorem JA(h0:0<=n)(h:n<l.l):pt l n v=l.set n.n v:=by rw[pt,cM,if_pos U]
theorem jg(h0:0<=n)(h:n<l.l):(pt l n v).l=l.l:=by rw[JA h0 h,az]
theorem qj(h0:0<=n)(h:n<l.l)(a:0<=k):gt (pt l n v) k=if k=n then v else gt l k:=by
 rw[JA h0 h];unfold gt;simp only[List.getD_eq_getElem?_getD,bX]
 by_cases e:k=n
 .subst e;rw[if_pos rfl,if_pos rfl,if_pos U];rfl
 .rw[if_neg U,if_neg e]
theorem ES(h0:0<=n)(h:n<l.l):gt (pt l n v) n=v:=by rw[qj h0 h h0,if_pos rfl]
theorem YQ(h0:0<=n)(h:n<l.l)(a:0<=k)(e:k≠n):gt (pt l n v) k=gt l k:=by rw[qj h0 h a,if_neg e]
theorem abg{x:α}(h:x∈pt l n v):x=v\/x∈l:=by
 unfold pt at h;simp only[aj,ay]at h;rcases h with h|h|h
 .exact .inr (aS h)
 .exact .inl h
 .exact .inr (bC h)
end
@[simp] theorem azf{α:Type}(l:List α)(n:Int)(v:α):l.take n.n++v::l.drop (n.n+1)=pt l n v:=(rfl)
def mX(g:gv)(s d c:Int):Int:=
 if s<0\/s>1\/d<0\/d>=g.next.l\/c<0\/c>=g.size then -1 else gt (gt g.next (if s=1 then gt g.jS d else d)) c
structure pL(g:gv):Prop where
 size:1<=g.size/\g.size<=9
 next:g.next.l=8
 row:∀l∈g.next,(l.l:Int)=g.size/\∀x∈l,-1<=x/\x<g.size
 jS:g.jS.l=8
 turns:∀d,0<=d->d<8->0<=gt g.jS d/\gt g.jS d<8/\gt g.jS (gt g.jS d)=d
def pL.to{g:gv}(h:pL g)(s d c:Int) : -1<=mX g s d c/\mX g s d c<g.size:=by
 have:=h.size;unfold mX;split
 .omega
 .rename_i e;have f:=h.next
  simp only[not_or,fV,Int.not_le,gt_iff_lt,ge_iff_le]at e
  have b:0<=(if s=1 then gt g.jS d else d)/\(if s=1 then gt g.jS d else d)<8:=by
   split
   .have:=h.turns d U U;omega
   .omega
  have a:=h.row _ (gF (l:=g.next) b.1 U);exact a.2 _ (gF U U)
structure G5(g:gv)(x:gj):Prop where
 ok:((x.1=1\/x.1=2\/x.1=7)/\0<=x.2/\x.2<8)\/(3<=x.1/\x.1<=6/\x.2=0)\/(x.1=8/\0<=x.2/\x.2<g.kinds.l)\/((x.1=9\/x.1=10)/\0<=x.2/\x.2<g.gX)
def pO(l:List gj)(op:Int):Int:=(l.countP λx=>x.1=op:Nat)
structure yT(g:gv)(l:List gj):Prop where
 len:1<=l.l/\l.l<=8
 steps:∀x∈l,G5 g x
 vK:pO l 6<=2
 push:pO l 7<=1
 NB:pO l 8<=1
structure D2(g:gv)(c:Clause):Prop where
 ok:(c.cond=1/\0<=c.kind/\c.kind<g.kinds.l/\c.n=0)\/(c.cond=2/\0<=c.kind/\c.kind<g.kinds.l/\0<=c.n/\c.n<g.size)\/(c.cond=3/\c.kind=0/\0<=c.n/\c.n<=64)
 out:1<=c.out/\c.out<=3
def kindName(n:Int):ByteArray:=if n=0 then⟨#[97]⟩else⟨#[98,101,101]⟩
structure gZ(g:gv):Prop where
 ki:pL g
 kinds:1<=g.kinds.l/\g.kinds.l<=2
 names:∀k:Int,0<=k->k<g.kinds.l->(gt g.kinds k).name=kindName k
 jN:∀k∈g.kinds,k.jN.l<=4/\∀l∈k.jN,yT g l
 gX:0<=g.gX/\g.gX<=2
 clauses:g.clauses.l<=3
 clause:∀c∈g.clauses,D2 g c
 blocked:1<=g.blocked/\g.blocked<=3
 w7:1<=g.w7/\g.w7<=3
structure tE(g:gv)(l:List Int):Prop where
 len:l.l=g.kinds.l
 at_:∀k:Int,0<=k->k<l.l->0<=gt l k/\gt l k<=8/\(0<gt l k->(gt g.kinds k).keep=bb)
structure iI(g:gv)(p:Pos):Prop where
 size:(p.cs.l:Int)=g.size
 h0:tE g p.h0
 h1:tE g p.h1
 gX:0<=p.gX/\p.gX<2 ^ g.gX.n
 side:0<=p.side/\p.side<=1
 cs:∀x∈p.cs,0<=x/\x<=2*g.kinds.l
def gV(n:Int):Int:=if 1<=n/\n<=12 then(n-1) / 2 else -1
def kE(n:Int):Int:=if 1<=n/\n<=12 then(n-1) % 2 else -1
def mC(k s:Int):Int:=1+2*k+s
def vq(g:gv)(s d c:Int):Nat->Int->List Int->List Int
 | 0,_,out=>out
 | n+1,x,out=>if 0<=x/\x≠c/\x ∉ out then vq g s d c n (mX g s d x) (out ++ [x])else out
def mb(g:gv)(s d c:Int):List Int:=vq g s d c 10 (mX g s d c) []
theorem aaQ{g:gv}(hg:pL g){s d c:Int}:∀(n:Nat) (x:Int) (out:List Int),x<g.size->(∀y∈out,0<=y/\y<g.size)->∀y∈vq g s d c n x out,0<=y/\y<g.size
 | 0,x,out,_,h,y,hy=>h y hy
 | n+1,x,out,hx,h,y,hy=>by
  unfold vq at hy;split at hy
  .rename_i e;refine aaQ hg n _ _ (hg.to _ _ _).2 (λz a=>?_) y hy;simp only[aj,aE]at a;rcases a with a|a
   .exact h z a
   .omega
  .exact h y hy
def TX{g:gv}(hg:pL g){s d c y:Int}(h:y∈mb g s d c):0<=y/\y<g.size:=aaQ hg _ _ _ (hg.to _ _ _).2 gf y h
theorem zQ:∀(n:Nat) (l:List Int),l.Nodup->(∀y∈l,0<=y/\y<n)->l.l<=n
 | 0,[],_,_=>gf
 | 0,a::l,_,h=>by have:=h a gf;omega
 | n+1,l,hn,h=>by
  by_cases e:(n:Int)∈l
  .have h1:(l.erase (n:Int)).l<=n:=zQ n _ (hn.erase _) λy b=>by have:=(hn.mem_erase_iff).1 b;have:=h y this.2;omega
   rw[fw e]at h1;omega
  .have:=zQ n l hn λy b=>by have:=h y b;have:y≠n:=λc=>e (c▸b);omega
   omega
structure gG where
 p:Pos
 kind:Int
 cur:Int
 kn:Bool
 deriving DecidableEq,Inhabited
def gG.cells(s:gG):List D:=[dI s.p.cs,dI s.p.h0,dI s.p.h1,.i s.p.gX,.i s.p.side,.i s.kind,.i s.cur,.b s.kn]
structure kU(g:gv)(s:gG):Prop where
 p:iI g s.p
 kind:0<=s.kind/\s.kind<g.kinds.l
 cur:0<=s.cur/\s.cur<g.size
def Pos.hand(p:Pos)(s:Int):List Int:=if s=0 then p.h0 else p.h1
def Pos.oe(p:Pos)(s:Int)(l:List Int):Pos:=if s=0 then{ p with h0:=l }else{ p with h1:=l }
def sf(s:gG):List Int->List gG
 | []=>[]
 | c::r=>{ s with cur:=c }::if gt s.p.cs c=0 then sf s r else []
def uN(g:gv)(s:gG):List gG:=
 let c:=gt s.p.cs s.cur
 if kE c≠1-s.p.side then []else
  let p:={ s.p with cs:=pt s.p.cs s.cur 0 }
  if (gt g.kinds (gV c)).keep=b4 then [{ s with p:=p,kn:=bb }]else
   let n:=gt (s.p.hand s.p.side) (gV c)+1
   if n<=8 then [{ s with p:=p.oe s.p.side (pt (s.p.hand s.p.side) (gV c) n),kn:=bb }]else []
def vE(g:gv)(s:gG)(n:Int):List gG:=
 let to:=mX g s.p.side n s.cur
 if gt s.p.cs s.cur=0\/to<0\/gt s.p.cs to≠0 then []else
  [{ s with p:={ s.p with cs:=pt (pt s.p.cs to (gt s.p.cs s.cur)) s.cur 0 } }]
def CT(r n:Int):Prop:=r / 2 ^ n.n % 2=1
instance(r n:Int):Decidable (CT r n):=by unfold CT;infer_instance
def dropRight(r n:Int):Int:=if CT r n then r-2 ^ n.n else r
def U7{b:Int}(h0:0<=b)(h:b<=4):zY .i64 1 b=2 ^ b.n:=by have:b=0\/b=1\/b=2\/b=3\/b=4:=U;rcases this with rfl|rfl|rfl|rfl|rfl<;>decide
def abu{r:Int}(h0:0<=r)(h:r<16):∃i:Fin 16,r=(i.val:Int):=⟨⟨r.n,U⟩,gO⟩
def abv{r:Int}(h0:0<=r)(h:r<4):∃i:Fin 4,r=(i.val:Int):=⟨⟨r.n,U⟩,gO⟩
def aci:∀(i:Fin 16) (k:Fin 4),(bits .and .i64 (nu .i64 (i.val:Int) (k.val:Int)) 1=1↔CT (i.val:Int) (k.val:Int))/\bits .andNot .i64 (i.val:Int) (zY .i64 1 (k.val:Int))=dropRight (i.val:Int) (k.val:Int):=by decide +kernel
def acg{r n:Int}(h0:0<=r)(h1:r<16)(b:0<=n)(a:n<4):(bits .and .i64 (nu .i64 r n) 1=1)=CT r n:=by obtain⟨i,rfl⟩:=abu h0 h1;obtain⟨k,rfl⟩:=abv b a;exact propext (aci i k).1
def ach{r n:Int}(h0:0<=r)(h1:r<16)(b:0<=n)(a:n<4):bits .andNot .i64 r (zY .i64 1 n)=dropRight r n:=by obtain⟨i,rfl⟩:=abu h0 h1;obtain⟨k,rfl⟩:=abv b a;exact(aci i k).2
def F4{b:Int}(h0:0<=b)(h:b<=4):(2:Int) ^ b.n<=16:=by have:b=0\/b=1\/b=2\/b=3\/b=4:=U;rcases this with rfl|rfl|rfl|rfl|rfl<;>decide
def jz(g:gv)(s:gG)(x:gj):List gG:=
 let c:=gt s.p.cs s.cur
 if x.1=1 then(let to:=mX g s.p.side x.2 s.cur;if 0<=to then [{ s with cur:=to }]else [])
 else if x.1=2 then sf s (mb g s.p.side x.2 s.cur)
 else if x.1=3 then(if c=0 then [s]else [])
 else if x.1=4 then(if kE c=1-s.p.side then [s]else [])
 else if x.1=5 then(if kE c=s.p.side then [s]else [])
 else if x.1=6 then uN g s
 else if x.1=7 then vE g s x.2
 else if x.1=8 then [{ s with kind:=x.2 }]
 else if x.1=9 then(if CT s.p.gX x.2 then [s]else [])
 else [{ s with p:={ s.p with gX:=dropRight s.p.gX x.2 } }]
def uL(g:gv):List gj->List gG->List gG
 | [],l=>l
 | x::r,l=>uL g r (l.flatMap λs=>jz g s x)
def mc(p:Pos)(cell:Int):gG:={ p:={ p with cs:=pt p.cs cell 0 },kind:=gV (gt p.cs cell),cur:=cell,kn:=b4 }
structure ij where
 p:Pos
 kn:Bool
 deriving DecidableEq,Inhabited
def ij.cells(o:ij):List D:=[dI o.p.cs,dI o.p.h0,dI o.p.h1,.i o.p.gX,.i o.p.side,.b o.kn]
def pv(side:Int)(s:gG):Option ij:=
 if gt s.p.cs s.cur=0 then bs { p:={ s.p with cs:=pt s.p.cs s.cur (mC s.kind side),side:=1-side },kn:=s.kn }else di
def wH(g:gv)(p:Pos)(cell:Int)(l:List gj):List ij:=(uL g l [mc p cell]).filterMap (pv p.side)
def upto(n:Nat):List Int:=(List.range n).map λk:Nat=>(k:Int)
def jF{n:Nat}{k:Int}:k∈upto n↔0<=k/\k<n:=by
 simp only[upto,au,br];constructor
 .rintro⟨a,h,rfl⟩;omega
 .intro h;exact⟨k.n,U,U⟩
def rF(g:gv)(p:Pos)(c:Int):List ij:=if kE (gt p.cs c)=p.side then(gt g.kinds (gV (gt p.cs c))).jN.flatMap (wH g p c)else []
def sj(g:gv)(p:Pos):List ij:=(upto p.cs.l).flatMap (rF g p)
def kP(p:Pos)(k c:Int):Pos:={ p.oe p.side (pt (p.hand p.side) k (gt (p.hand p.side) k-1))with cs:=pt p.cs c (mC k p.side),side:=1-p.side }
def As(g:gv)(p q:Pos):Prop:=∃k c:Int,0<=k/\k<g.kinds.l/\0<=c/\c<p.cs.l/\gt (p.hand p.side) k≠0/\gt p.cs c=0/\q=kP p k c
def tX(p:Pos)(side kind:Int):Int:=(p.cs.countP λc=>0<=gV c/\kE c=side/\(kind<0\/gV c=kind):Nat)
def lR(p:Pos)(c:Clause):Prop:=
 if c.cond=1 then tX p p.side c.kind=0 else if c.cond=2 then gt p.cs c.n=mC c.kind (1-p.side)else tX p p.side (-1)<=c.n
def s0(g:gv)(p q:Pos):Prop:=
 (∀c∈g.clauses,¬lR p c) /\
 if g.pI=bb/\(∃o∈sj g p,o.kn=bb)then⟨q,bb⟩∈sj g p else(∃o∈sj g p,o.p=q)\/As g p q
def iI.small{g:gv}(hg:gZ g){p:Pos}(h:iI g p):Small p:=by have h1:=h.size;have d:=hg.ki.size;have c:=h.h0.len;have b:=h.h1.len;have a:=hg.kinds;exact mw
theorem iI.hand{g:gv}{p:Pos}(h:iI g p)(s:Int):tE g (p.hand s):=by
 unfold Pos.hand;split
 .exact h.h0
 .exact h.h1
theorem iI.oe{g:gv}{p:Pos}(h:iI g p)(s:Int){l:List Int}(hl:tE g l):iI g (p.oe s l):=by
 unfold Pos.oe;split
 .exact{ h with h0:=hl }
 .exact{ h with h1:=hl }
def iI.DR{g:gv}{p:Pos}(h:iI g p){c v:Int}(e:0<=c)(b:c<g.size)(d:0<=v/\v<=2*g.kinds.l):iI g { p with cs:=pt p.cs c v }:=
 { h with
  size:=by dsimp only;rw[jg e (by rw[h.size];exact b)];exact h.size
  cs:=λx a=>by
   rcases abg a with rfl|a
   .exact d
   .exact h.cs x a }
def tE.set{g:gv}{l:List Int}(h:tE g l){k v:Int}(b:0<=k)(a:k<l.l)(c:0<=v/\v<=8/\(0<v->(gt g.kinds k).keep=bb)):tE g (pt l k v) where
 len:=by rw[jg b a];exact h.len
 at_ j hj zt:=by
  rw[jg b a]at zt;rw[qj b a hj];split
  .rename_i e;subst e;exact c
  .exact h.at_ j hj zt
def zN{n:Int}{g:gv}(h:n<=2*g.kinds.l)(a:1<=g.kinds.l):gV n<g.kinds.l:=by unfold gV;split<;>omega
def Jl{n s:Int}(hs:0<=s)(h:kE n=s):0<=gV n/\1<=n/\n<=12/\n=mC (gV n) s:=by
 unfold kE at h;unfold gV mC;split at h<;>rename_i e
 .rw[if_pos e];omega
 .omega
def aeU{r n k:Int}(h:0<=r)(a:r<2 ^ k.n):0<=dropRight r n/\dropRight r n<2 ^ k.n:=by
 unfold dropRight;split
 .rename_i e;unfold CT at e;have b:(0:Int)<2 ^ n.n:=Int.pow_pos jr
  have:2 ^ n.n<=r:=by
   by_cases c:r<2 ^ n.n
   .rw[Int.ediv_eq_zero_of_lt h c]at e;simp at e
   .omega
  omega
 .exact⟨h,a⟩
theorem aaT{s t:gG}:∀ {l:List Int},t∈sf s l->∃c∈l,t = { s with cur:=c }
 | [],h=>by simp[sf]at h
 | c::r,h=>by
  unfold sf at h;rcases ay.1 h with h|h
  .exact⟨c,gf,h⟩
  .split at h
   .obtain⟨c',h1,a⟩:=aaT h;exact⟨c',by simp[h1],a⟩
   .cases h
def DY{g:gv}(hg:gZ g){s:gG}(hs:kU g s){x:gj}(k:G5 g x){t:gG}(h:t∈jz g s x):kU g t:=by
 have d:=hg.ki;have j:s.cur<s.p.cs.l:=by rw[hs.p.size];exact hs.cur.2
 have i:=hs.p.cs _ (gF hs.cur.1 j);unfold jz at h;dsimp only at h;split at h
 .split at h
  .rename_i h0;rw[aE]at h;subst h;exact{ hs with cur:=⟨h0,(d.to _ _ _).2⟩ }
  .cases h
 split at h
 .obtain⟨c,h1,rfl⟩:=aaT h;exact{ hs with cur:=TX d h1 }
 iterate 3
  split at h
  .split at h
   .rw[aE]at h;subst h;exact hs
   .cases h
 split at h
 .unfold uN at h;dsimp only at h;split at h
  .cases h
  rename_i e;have e:=Decidable.not_not.1 e;have l:=hs.p.side;obtain⟨m1,m2,m3,m4⟩:=Jl U e;have a:gV (gt s.p.cs s.cur)<g.kinds.l:=zN i.2 hg.kinds.1;have f:iI g { s.p with cs:=pt s.p.cs s.cur 0 }:=hs.p.DR hs.cur.1 hs.cur.2 U;split at h
  .rw[aE]at h;subst h;exact{ hs with p:=f }
  rename_i kp;split at h
  .rename_i n;rw[aE]at h;subst h;have b:=hs.p.hand s.p.side;have hl:=b.len;have m:=b.at_ _ m1 (by rw[hl];exact a);exact{ hs with p:=f.oe _ (b.set m1 (by rw[hl];exact a) (sk (λ_=>by simpa using kp))) }
  .cases h
 split at h
 .unfold vE at h;dsimp only at h;split at h
  .cases h
  rename_i e;simp only[not_or,fV]at e;rw[aE]at h;subst h;have h1:=hs.p.DR (c:=mX g s.p.side x.2 s.cur) (v:=gt s.p.cs s.cur) e.2.1 (d.to _ _ _).2 i;exact{ hs with p:=h1.DR hs.cur.1 hs.cur.2 U }
 split at h
 .rename_i o;rw[aE]at h;subst h;have a:0<=x.2/\x.2<g.kinds.l:=by have:=k.ok;omega
  exact{ hs with kind:=a }
 split at h
 .split at h
  .rw[aE]at h;subst h;exact hs
  .cases h
 .rw[aE]at h;subst h;exact{ hs with p:={ hs.p with gX:=aeU hs.p.gX.1 hs.p.gX.2 } }
theorem Qi{g:gv}(hg:gZ g):∀ {l:List gj} {a:List gG},(∀x∈l,G5 g x)->(∀s∈a,kU g s)->∀s∈uL g l a,kU g s
 | [],_,_,h,s,hs=>h s hs
 | x::r,a,hx,h,s,hs=>by refine Qi (a:=a.flatMap λs=>jz g s x) hg (λy c=>hx y (by simp[c])) (λt b=>?_) s hs;obtain⟨u,d,b⟩:=bN.1 b;exact DY hg (h u d) (hx x gf) b
theorem acv{g:gv}:∀ {l:List gj} {a b:List gG},(∀s,s∈a↔s∈b)->∀s,s∈uL g l a↔s∈uL g l b
 | [],_,_,h,s=>h s
 | x::r,a,b,h,s=>acv (l:=r) (λt=>by simp only[bN,h]) s
def J3{g:gv}(hg:gZ g){p:Pos}(a:iI g p){c:Int}(h0:0<=c)(h1:c<g.size)(b:kE (gt p.cs c)=p.side):kU g (mc p c):=by have d:=a.cs _ (gF h0 (by rw[a.size];exact h1));exact{ p:=a.DR h0 h1 U,kind:=⟨(Jl a.side.1 b).1,zN d.2 hg.kinds.1⟩,cur:=⟨h0,h1⟩ }
def Om{g:gv}{s:gG}(hs:kU g s){side:Int}(h0:0<=side)(h1:side<=1){o:ij}(h:pv side s=bs o):iI g o.p:=by
 unfold pv at h;split at h
 .cases h;have:=hs.kind;exact{ hs.p.DR hs.cur.1 hs.cur.2 (v:=mC s.kind side) (by unfold mC;omega)with side:=by dsimp only;omega }
 .cases h
def P4{g:gv}(hg:gZ g){p:Pos}(a:iI g p){o:ij}(h:o∈sj g p):iI g o.p:=by
 obtain⟨c,b,h⟩:=bN.1 h;rw[jF,a.size]at b;unfold rF at h;split at h
 .rename_i e;obtain⟨l,hl,h⟩:=bN.1 h;obtain⟨s,hs,h⟩:=db.1 h;have d:=J3 hg a b.1 b.2 e;have i:=hg.jN _ (gF (l:=g.kinds) d.kind.1 d.kind.2);exact Om (Qi hg (i.2 l hl).steps (λt f=>by rw[aE]at f;subst f;exact d) s hs) a.side.1 a.side.2 h
 .cases h
def HP{g:gv}{p:Pos}(a:iI g p){q:Pos}(h:As g p q):iI g q:=by
 obtain⟨k,c,h1,o,i,n,m,l,rfl⟩:=h;have b:=a.hand p.side;have hl:=b.len;have f:=b.at_ k h1 U;have hs:=a.side;have j:=a.size;have d:=(a.oe p.side (b.set h1 (v:=gt (p.hand p.side) k-1) U (sk (λ_=>f.2.2 U))));have e:(p.oe p.side (pt (p.hand p.side) k (gt (p.hand p.side) k-1))).cs=p.cs:=by unfold Pos.oe;split<;>rfl
 have:=d.DR (c:=c) (v:=mC k p.side) i U (by unfold mC;omega);rw[e]at this;exact{ this with side:=by dsimp only[kP];omega }
def Un{g:gv}(hg:gZ g){p:Pos}(a:iI g p){q:Pos}(h:s0 g p q):iI g q:=by
 obtain⟨_,h⟩:=h;split at h
 .exact P4 hg a h
 .rcases h with⟨o,h,rfl⟩|h
  .exact P4 hg a h
  .exact HP a h
end Go.AL
namespace Go.Proofs.YtmehofoficaelaaGreatDoor
open Go Go.AL Classical
set_option maxRecDepth 10000
def f95(n a b:Int):Wf T 253 [.i n,.i a,.i b] [] (Is (.b (decide (a<=n/\n<=b)))):=by refine Yg Nl ?_;simp[Nl];exact nb
def f94(a b:Int):Wf T 202 [.i a,.i b] [] (Is (.i (lM a b))):=by
 refine Yg Nk ?_;simp[Nk];(with_reducible repeat' first|refine Xk ?_<;>try simp|refine Xs ?_ ?_<;>intro h<;>(try intro c)<;>(try simp[h])<;>try omega|refine Xg ?_|omega)
 all_goals (simp only[lM];(repeat' split)<;>omega)
def f92{k s:Int}(c:0<=k)(a:k<6)(hs:0<=s)(b:s<=1):Wf T 216 [.i k,.i s] [] (Is (.i (1+2*k+s))):=by refine Yg Ni ?_;simp[Ni];exact nb
def f156{k s:Int}(b:0<=k)(c:k<6)(hs:0<=s)(a:s<=1):Wf T 206 [.i k,.i s] [] (Is (.i (1+2*k+s))):=by refine Yg L3 ?_;simp[L3];refine gE.c rfl rfl (f95 _ _ _) (by simp[gN]) gf ?_;simp[(U:k<=5),b];refine gE.c rfl rfl (f95 _ _ _) (by simp[gN]) gf ?_;simp[hs,a];omega
def f25(l:List Int)(n:Int)(hl:l.l<2 ^ 40):Wf T 40 [dI l,.i n] [] (Is (.b (decide (n∈l)))):=by
 refine Yg ME ?_;simp[ME];refine gx.i (α:=Int) [0,1,5] rfl (λi=>[(0,dI l),(1,.i n),(5,.i i)]) (λ_=>[]) (λi=>0<=i/\i<=l.l/\n ∉ l.take i.n) (λi=>l.l-i.n) 0 gf gf rfl ?_;rintro i ⟨h0,h1,a⟩;simp;(with_reducible repeat' first|refine Xk ?_<;>try simp|refine Xs ?_ ?_<;>intro h<;>(try intro b)<;>(try simp[h])<;>try omega|refine Xg ?_|omega)
 .have:=gF h0 ‹_›;simp_all
 .skip;rw[jI h0 ‹_›];simp_all;exactλe=>h e.symm
 .simpa[lW (by omega:(l.l:Int)<=i)]using a
def f93(a b:List Int)(f:a.l<2 ^ 40)(d:b.l<2 ^ 40):Wf T 201 [dI a,dI b] [] (Is (.i (lE a b))):=by
 refine Yg Nj ?_;simp[Nj];refine gx.j (0:Int) (λi=>[(0,dI a),(1,dI b),(5,.i i)]) (λ_=>_) (λi=>0<=i/\i<=a.l/\i<=b.l/\a.take i.n=b.take i.n) (λi=>a.l-i.n) ?_ gf sw rfl ?_
 .simp
 rintro i ⟨h0,h1,j,c⟩;have e:=aaU c U U;simp;(with_reducible repeat' first|refine Xk ?_<;>try simp|refine Xs ?_ ?_<;>intro h<;>(try intro g)<;>(try simp[h])<;>try omega|refine Xg ?_|omega)
 .skip;rw[jI h0 U,jI h0 U,c];simp_all
 .refine Yt (f94 _ _) ?_;simp;rw[e,o7 h0 ‹_›,o7 h0 ‹_›,lE,if_neg jX]
 all_goals
  refine Yc (f94 _ _) ?_;simp;rw[e,TZ (by simp only[aX];omega)];simp only[aX,lM];(repeat' split)<;>omega
def f50(p q:Pos)(b:Small p)(a:Small q):Wf T 137 [dP p,dP q] [] (Is (.i (iQ p q))):=by
 refine Yg MY ?_;simp[MY];refine Yt (f93 _ _ b.1 a.1) ?_;simp;refine Yt (f93 _ _ b.2.1 a.2.1) ?_;simp;refine Yt (f93 _ _ b.2.2 a.2.2) ?_;simp;refine Yt (f94 _ _) ?_;simp;refine Yt (f94 _ _) ?_;simp;(refine gx.un ?_;(repeat' first|(refine lG.u ?_;simp;done)|(refine lG.u ?_;simp)|((with_reducible first|refine X2.d ?_ ?_|refine X2.a ?_ ?_|refine X2.o ?_ ?_|refine X2.b ?_ ?_)<;>intro h<;>(try simp[h]))|fail))
 all_goals simp_all [iQ,oH]
def f51(n:Int):Wf T 203 [.i n] [] (Is (.agg [.i (gV n),.i (kE n)])):=by
 refine Yg MZ ?_;simp[MZ];refine Yc (f95 _ _ _) ?_;simp;(with_reducible repeat' first|refine Xk ?_<;>try simp|refine Xs ?_ ?_<;>intro h<;>(try intro a)<;>(try simp[h])<;>try omega|refine Xg ?_|omega)
 .rw[wJ U U U,jO U];simp[gV,kE];omega
 .simp[gV,kE];omega
def f84(n:Int):Wf T 163 [.i n] [] (Is (.tup [.i (gV n),.i (kE n)])):=by
 refine Yg Nc ?_;simp[Nc];(with_reducible repeat' first|refine Xk ?_<;>try simp|refine Xs ?_ ?_<;>intro h<;>(try intro a)<;>(try simp[h])<;>try omega|refine Xg ?_|omega)
 .simp[gV,kE];omega
 .simp[gV,kE];omega
 .rw[wJ U U U,jO U];simp[gV,kE];omega
def f251(g:gv)(hg:pL g)(s d c:Int):Wf T 295 [g.ki,.i s,.i d,.i c] [] (Is (.i (mX g s d c))):=by
 have e:=hg.next
 have b:=hg.jS;refine Yg MG ?_;simp[MG];(with_reducible repeat' first|refine Xk ?_<;>try simp|refine Xs ?_ ?_<;>intro h<;>(try intro f)<;>(try simp[h])<;>try omega|refine Xg ?_|omega)
 all_goals first
  | (simp only[mX];rw[if_pos U])
  | skip
 .rename_i h;have:=hg.turns d U U;have a:=hg.row (gt g.next (gt g.jS d)) (gF U U);refine gi ?_;simp only[mX];rw[if_neg U];simp
 .rename_i h;have a:=hg.row (gt g.next d) (gF U U);refine gi ?_;simp only[mX];rw[if_neg U];simp[h]
def f240(g:gv)(hg:pL g)(s d c:Int):Wf T 322 [g.ki,.i s,.i d,.i c] [] (Is (.i (mX g s d c))):=by
 have e:=hg.next
 have b:=hg.jS;refine Yg MA ?_;simp[MA];(with_reducible repeat' first|refine Xk ?_<;>try simp|refine Xs ?_ ?_<;>intro h<;>(try intro f)<;>(try simp[h])<;>try omega|refine Xg ?_|omega)
 all_goals first
  | (simp only[mX];rw[if_pos U])
  | skip
 .rename_i h;have:=hg.turns d U U;have a:=hg.row (gt g.next (gt g.jS d)) (gF U U);refine gi ?_;simp only[mX];rw[if_neg U];simp
 .rename_i h;have a:=hg.row (gt g.next d) (gF U U);refine gi ?_;simp only[mX];rw[if_neg U];simp[h]
def f110(p q:Pos)(b:Small p)(a:Small q):Wf T 162 [dP p,dP q] [] (Is (.b (decide (p=q)))):=by refine Yg KT ?_;simp[KT];refine Yc (f50 p q b a) ?_;simp;rw[s9]
set_option maxHeartbeats 1000000
def f64(l:List Pos)(hl:l.l<2 ^ 40)(hs:∀p∈l,Small p):Wf T 83 [gT l] [] (Is (.b (decide (lP l)))):=by
 refine Yg M6 ?_;simp[M6];refine gx.j (1:Int) (λi=>[(0,gT l),(3,.i i)]) (λ_=>_) (λi=>1<=i/\(i<=l.l\/i=1)/\∀k:Int,1<=k->k<i->iQ (gt l (k-1)) (gt l k)<0) (λi=>l.l-i.n) ?_ gf sw rfl ?_
 .simp;omega
 rintro i ⟨h0,h1,c⟩;simp;refine kz ?_ ?_<;>intro h
 .skip;refine Yt (f50 (gt l (i-1)) (gt l i) (hs _ (gF U U)) (hs _ (gF U U))) ?_;simp;refine kz ?_ ?_<;>intro h
  .intro b;have:=b i h0 ‹_›;omega
  .grind
 .intro k a d;exact c k a U
def f27(l:List Pos)(p:Pos)(hl:l.l<2 ^ 40)(hs:∀p∈l,Small p)(m:Small p)(g:lP l):Wf T 86 [gT l,dP p] [] (Is (.i (rj l p))):=by
 refine Yg MP ?_;simp[MP];refine gx.j ((0,(l.l:Int)):Int×Int) (λx=>[(0,gT l),(3,.ptr 0 0 0),(5,.i x.1),(6,.i x.2)]) (λ_=>[.row 46 0 p.cells]) (λx=>0<=x.1/\x.1<=x.2/\x.2<=l.l/\∀k:Int,0<=k->k<l.l->gt l k=p->x.1<=k/\k<x.2) (λx=>(x.2-x.1).n) ?_ gf rfl rfl ?_
 .simp;omega
 rintro⟨a,b⟩ ⟨h0,h1,q,f⟩;simp at h0 h1 q f;simp;refine kz ?_ ?_<;>intro h
 .rw[wJ U U U];refine gi ?_;refine Yt (f50 p (gt l ((a+b) / 2)) m (hs _ (gF U U))) ?_;simp;(with_reducible repeat' first|refine Xk ?_<;>try simp|refine Xs ?_ ?_<;>intro h<;>(try intro s)<;>(try simp[h])<;>try omega|refine Xg ?_|omega)
  .rw[s9]at h;rw[h,agL g U U]
  .have r:∀k:Int,(a+b) / 2<=k->k<l.l->gt l k≠p:=λk d c e=>by
    by_cases j:k=(a+b) / 2
    .subst j;rw[e,w5]at h;omega
    .have:=AF h (g.le U (U:(a+b) / 2<k) c);rw[e,w5]at this;omega
   intro k d c e;have:=f k d c e
   by_cases i:(a+b) / 2<=k
   .grind
   .omega
  .have o:iQ (gt l ((a+b) / 2)) p<0:=by rw[w6];omega
   have r:∀k:Int,0<=k->k<=(a+b) / 2->gt l k≠p:=λk d c e=>by
    by_cases j:k=(a+b) / 2
    .grind
    .have:=AF (g.le d (U:k<(a+b) / 2) U) o;rw[e,w5]at this;omega
   intro k d c e;have:=f k d c e
   by_cases i:k<=(a+b) / 2
   .grind
   .omega
 .rw[Ym];intro n;obtain⟨k,d,c,e⟩:=xJ.1 n;have:=f k d c e;omega
def f111(g:gv)(l:List Int)(hg:gZ g)(hl:tE g l):Wf T 138 [dG g,dI l] [] (Is (.b bb)):=by
 have d:=hg.kinds;have c:=hl.len;refine Yg KU ?_;simp[KU];(with_reducible repeat' first|refine Xk ?_<;>try simp|refine Xs ?_ ?_<;>intro h<;>(try intro a)<;>(try simp[h])<;>try omega|refine Xg ?_|omega);refine gx.j (0:Int) (λi=>[(1,dI l),(2,.ptr 0 0 0),(5,.i i)]) (λi=>[.row 43 0 g.cells]) (λi=>0<=i/\i<=l.l) (λi=>l.l-i.n) ?_ gf sw rfl ?_
 .simp
 rintro i ⟨h0,h1⟩;simp;(with_reducible refine Xs ?_ ?_<;>intro h<;>(try intro a)<;>(try simp[h])<;>(try omega))
 .have b:=hl.at_ i h0 ‹_›;(with_reducible repeat' first|refine Xk ?_<;>try simp|refine Xs ?_ ?_<;>intro h<;>(try intro a)<;>(try simp[h])<;>try omega|refine Xg ?_|omega);have:=b.2.2
  all_goals simp_all
  all_goals omega
def f65(g:gv)(p:Pos)(hg:gZ g)(a:iI g p):Wf T 84 [dG g,dP p] [] (Is (.b bb)):=by
 have e:=hg.kinds;have c:=hg.gX;have h1:=a.size;have l:=a.gX;have k:=a.side;have f:=hg.ki.size;have b:=U7 c.1 U;refine Yg M7 ?_;simp[M7,h1];refine Yt (f111 g _ hg a.h0) ?_;simp[h1];refine Yt (f111 g _ hg a.h1) ?_;simp[h1];(with_reducible repeat' first|refine Xk ?_<;>try simp[b]|refine Xs ?_ ?_<;>intro h<;>(try intro d)<;>(try simp[h,b])<;>try omega|refine Xg ?_|omega);refine gx.j (0:Int) (λi=>[(2,.ptr 0 0 0),(3,.ptr 1 0 0),(5,.i i)]) (λi=>[.row 43 0 g.cells,.row 46 0 p.cells]) (λi=>0<=i/\i<=p.cs.l) (λi=>p.cs.l-i.n) ?_ gf sw rfl ?_
 .simp
 rintro i ⟨h0,j⟩;simp;(with_reducible refine Xs ?_ ?_<;>intro h<;>(try intro d)<;>(try simp[h])<;>(try omega));have b:=a.cs _ (gF h0 ‹_›);exact nb
end Go.Proofs.YtmehofoficaelaaGreatDoor
namespace Go.AL
open Go
def Ex{α:Type}(g:α->D)(Q:α->Prop):D->gg->Prop:=λd H=>∃r,d=g r/\H = []/\Q r
@[simp] theorem aqv{α:Type}(g:α->D)(Q:α->Prop)(d:D)(H:gg):Ex g Q d H = ∃r,d=g r/\H = []/\Q r:=(rfl)
section
variable{T:iL}{f:FuncId}{args pM:List D}{dst:Option Nat}{s:St}{K:St->Prop}{fn:jK}
theorem gE.q{α:Type}{g:α->D}{Q:α->Prop}(i:T.fn f=bs fn)(e:fn.full=b4)(h:Wf T f args [] (Ex g Q))
  (a:gN args=bb) (b:∀r,closed (g r)=bb) (k:∀r,Q r->K { s with env:=put s.env dst (g r) }):gE T f args dst s K .mk:=by
 refine gE.is i e (K0:=Ex g Q) ?_ ?_
 .have l:args.map (gA (λ_=>di) s.H 40)=args:=by
   conv=>rhs;rw[<-bf args]
   exact aw λd j=>sq (mL a d j)
  rw[l];exact h
 .rintro d Hn ⟨r,rfl,rfl,c⟩;obtain⟨k1,k2⟩:=HB (H:=s.H) (b r);refine⟨{ s with env:=put s.env dst (g r) },?_,k r c⟩;unfold after;rw[if_pos a,k1,k2];simp
theorem anx{d:D}(a:flat d=bb)(_:closed d=bb):p5 d=true:=(RQ (H:=[]) a).1
theorem gE.rq{α:Type}{g:α->D}{Q:α->Prop}(i:T.fn f=bs fn)(e:fn.full=b4)(h:Wf T f pM [] (Ex g Q))
  (hs:args.map (gA (λ_=>di) s.H 40)=pM) (b:∀r,flat (g r)=bb) (a:∀r,closed (g r)=bb) (k:∀r,Q r->K { s with env:=put s.env dst (g r) }):gE T f args dst s K .mk:=by
 refine gE.is i e (K0:=Ex g Q) (by rw[hs];exact h) ?_;rintro d Hn ⟨r,rfl,rfl,c⟩;obtain⟨k1,k2⟩:=HB (H:=s.H) (a r);refine⟨{ s with env:=put s.env dst (g r) },?_,k r c⟩;unfold after;rw[anx (b r) (a r),k1,k2];simp
end
section
variable{T:iL}{f:FuncId}{args:List D}{dst:Option Nat}{s:St}{K:St->Prop}{fn:jK}
theorem gE.n{d:D}{Hn:gg}(e:T.fn f=bs fn)(c:fn.full=b4)(h:Wf T f args [] λd' H'=>d'=d/\H'=Hn)
  (a:gN args=bb) (b:(od d&&Hn.all pq)=bb) (k:K { s with env:=put s.env dst (lz s.H.l d),H:=s.H++Hn }):gE T f args dst s K .mk:=by
 refine gE.is e c (K0:=λd' H'=>d'=d/\H'=Hn) ?_ ?_
 .have i:args.map (gA (λ_=>di) s.H 40)=args:=by
   conv=>rhs;rw[<-bf args]
   exact aw λd g=>sq (mL a d g)
  rw[i];exact h
 .rintro d' j ⟨rfl,rfl⟩;refine⟨_,?_,k⟩;unfold after;rw[if_pos a,if_pos b]
theorem vQ.n{R:List Fp}{Q:Rc->St->Prop}{d:D}{ob:Ob}(e:T.fn f=bs fn)(c:fn.full=b4)(h:Wf T f args [] λd' H'=>d'=d/\H' = [ob])
  (a:gN args=bb) (b:(od d&&pq ob)=bb) (k:Q ⟨R,[(s.H.l,di)]⟩ { s with env:=put s.env dst (lz s.H.l d),H:=s.H ++ [ob] }):vR T f args R dst s Q .mk:=by
 have i:args.map (gA (λ_=>di) s.H 40)=args:=by
  conv=>rhs;rw[<-bf args]
  exact aw λd g=>sq (mL a d g)
 exact .inl (.inr ⟨fn,d,ob,e,c,by rw[i];exact h,by rw[if_pos a];exact b,k⟩)
theorem vQ.c{R:List Fp}{Q:Rc->St->Prop}{x:D}(c:T.fn f=bs fn)(b:fn.full=b4)(h:Wf T f args [] λd H'=>d=x/\H' = [])
  (e:gN args=bb) (a:closed x=bb) (k:Q ⟨R,[]⟩ { s with env:=put s.env dst x }):vR T f args R dst s Q .mk:=.inl (.inl (ji.c c b h e a k))
theorem vR.z{pM:List D}{R:List Fp}{Q:Rc->St->Prop}{d:D}(v:Nat)(g:T.fn f=bs fn)(e:fn.full=b4)(h:Wf T f pM [] (Is d))(hs:args.map (gA (λ_=>di) s.H 40)=pM)
  (a:(args.map (iO s.H 40)).flatten = [v]) (b:(rowsOf s.H v).isSome=bb) (i:gN pM=bb) (c:closed d=bb) (k:Q ⟨R,[(v,di)]⟩ { s with env:=put s.env dst d,H:=s.H.set v .dead }):vR T f args R dst s Q .mk:=
 .inr ⟨fn,d,v,g,e,by rw[a];simp,by rw[a];simp,b,by rw[hs];exact i,by rw[hs];exact h,c,k⟩
@[simp] theorem ayK(ds:List D):od (.agg ds)=ds.all (zT closed):=rfl
@[simp] theorem ayM(ds:List D):od (.tup ds)=ds.all (zT closed):=rfl
@[simp] theorem ayL(v g sz off n:Nat):od (.gh v g sz off n)=true:=rfl
@[simp] theorem ayA(p:D->Bool)(v g sz off n:Nat):zT p (.gh v g sz off n)=true:=rfl
@[simp] theorem ayz(l:List Int):zT closed (dI l)=true:=by show closed (dI l)=bb;simp
@[simp] theorem ayB(v:Value):zT closed (.val v)=true:=by show closed (.val v)=bb;simp
@[simp] theorem auB(t g:Nat)(cs:List D):pq (.row t g cs)=gN cs:=rfl
@[simp] theorem axl(n:Nat)(ds:List D):lz n (.agg ds) = .agg (ds.map (zM n)):=rfl
@[simp] theorem axn(n:Nat)(ds:List D):lz n (.tup ds) = .tup (ds.map (zM n)):=rfl
@[simp] theorem axm(n v g sz off k:Nat):lz n (.gh v g sz off k) = .gh (v+n) g sz off k:=rfl
@[simp] theorem axp(n v g sz off k:Nat):zM n (.gh v g sz off k) = .gh (v+n) g sz off k:=rfl
@[simp] theorem axo(n:Nat)(l:List Int):zM n (dI l)=dI l:=by unfold dI;rfl
@[simp] theorem axq(n:Nat)(v:Value):zM n (.val v) = .val v:=rfl
end
instance:Fl gG.cells 8:=⟨λ_=>rfl,λs=>by simp[gG.cells,gN]⟩
instance:Fl ij.cells 6:=⟨λ_=>rfl,λs=>by simp[ij.cells,gN]⟩
@[simp] theorem aur(l:List gG)(a b c:List Int)(r q k u:Int)(t:Bool):cl gG.cells l ++ [dI a,dI b,dI c,.i r,.i q,.i k,.i u,.b t]=cl gG.cells (l ++ [⟨⟨a,b,c,r,q⟩,k,u,t⟩]):=by rw[<-rK];rfl
@[simp] theorem aun(l:List ij)(a b c:List Int)(r q:Int)(t:Bool):cl ij.cells l ++ [dI a,dI b,dI c,.i r,.i q,.b t]=cl ij.cells (l ++ [⟨⟨a,b,c,r,q⟩,t⟩]):=by rw[<-rK];rfl
@[simp] theorem aAP(s:gG):gG.mk s.p s.kind s.cur s.kn=s:=rfl
@[simp] theorem ay2(s:ij):ij.mk s.p s.kn=s:=rfl
attribute [simp] gG.cells ij.cells
def Yq{T:iL}{f:FuncId}{args:List D}{dst:Option Nat}{s:St}{K:St->Prop}{fn:jK}{α:Type}{g:α->D}{Q:α->Prop}(h:Wf T f args [] (Ex g Q))(k:∀r,Q r->K { s with env:=put s.env dst (g r) })
  (c:T.fn f=bs fn:=by exact rfl) (b:fn.full=false:=by exact rfl) (d:gN args=true:=by simp) (a:∀r,closed (g r)=true:=by intro;simp):gE T f args dst s K .mk:=gE.q c b h d a k
def Yn{T:iL}{f:FuncId}{args:List D}{dst:Option Nat}{s:St}{K:St->Prop}{fn:jK}{d:D}{Hn:gg}(h:Wf T f args [] λd' H'=>d'=d/\H'=Hn)(k:K { s with env:=put s.env dst (lz s.H.l d),H:=s.H++Hn })
  (c:T.fn f=bs fn:=by exact rfl) (b:fn.full=false:=by exact rfl) (e:gN args=true:=by simp) (a:(od d&&Hn.all pq)=true:=by simp):gE T f args dst s K .mk:=gE.n c b h e a k
end Go.AL
namespace Go.AL
open Go
def lr(l:List gG):D:=.sl 8 (l.map gG.cells)
def o6(l:List ij):D:=.sl 6 (l.map ij.cells)
@[simp] theorem aAu(l:List gG):D.sl 8 (l.map gG.cells)=lr l:=by unfold lr;rfl
@[simp] theorem aAr(l:List ij):D.sl 6 (l.map ij.cells)=o6 l:=by unfold o6;rfl
section
variable{l:List gG}{n:Int}{k:IntKind}{P:D->Prop}{H:gg}
@[simp] theorem auP:closed (lr l)=true:=by unfold lr;exact wZ l
@[simp] theorem axf:oa .slice (lr l) H=bs (.i l.l):=by simp only[lr,aaO,cj]
@[simp] theorem aA4(n:Nat):jP n (lr l) = []:=by unfold lr;rfl
@[simp] theorem at2:cellsOf (lr l)=bs [lr l]:=by unfold lr;rfl
@[simp] theorem ayi:oA (ni 8 (lr l) (.val (.int k n))) P .mk=((0<=n/\n<l.l)/\P (.gH (gt l n).cells)):=by unfold lr;exact zS
end
section
variable{l:List ij}{n:Int}{k:IntKind}{P:D->Prop}{H:gg}
@[simp] theorem auM:closed (o6 l)=true:=by unfold o6;exact wZ l
@[simp] theorem axc:oa .slice (o6 l) H=bs (.i l.l):=by simp only[o6,aaO,cj]
@[simp] theorem aAG:lN 6 H (o6 l)=bs (cl ij.cells l,l.l):=by unfold o6;exact Gi ..
@[simp] theorem aA0(n:Nat):jP n (o6 l) = []:=by unfold o6;rfl
@[simp] theorem ayf:oA (ni 6 (o6 l) (.val (.int k n))) P .mk=((0<=n/\n<l.l)/\P (.gH (gt l n).cells)):=by unfold o6;exact zS
end
@[simp] theorem aAp:D.sl 8 []=lr []:=by unfold lr;rfl
@[simp] theorem aAo:D.sl 6 []=o6 []:=by unfold o6;rfl
@[simp] theorem avH{ρ:Nat->Option Nat}{H:gg}{k:Nat}{t:TypeId}{a b c:List Int}{r q w u:Int}{o:Bool}:oj ρ H (k+1) 8 0 1 (bs (t,[dI a,dI b,dI c,.i r,.i q,.i w,.i u,.b o]))=lr [⟨⟨a,b,c,r,q⟩,w,u,o⟩]:=by have h:=xd (f:=gG.cells) (ρ:=ρ) (H:=H) (k:=k) (t:=t) (l:=[⟨⟨a,b,c,r,q⟩,w,u,o⟩]) (n:=1) rfl;rw[pN]at h;unfold lr;exact h
def zd(S:List Nat):Nat->gg->oQ
 | _,[]=>[]
 | i,_::r=>(i,!S.contains i)::zd S (i+1) r
@[simp] theorem avr(S:List Nat)(i:Nat):zd S i [] = []:=rfl
@[simp] theorem avq(S:List Nat)(i:Nat)(o:Ob)(r:gg):zd S i (o::r)=(i,!decide (i∈S))::zd S (i+1) r:=by rw[zd,dq]
def agR(H:gg)(S:List Nat):nz H S=zd S 0 H:=by
 have key:∀(H:gg) (i:Nat),(List.range' i H.l).map (λv=>(v,!(S.contains v)))=zd S i H:=by
  intro H
  induction H with
  | nil=>intro i;rfl
  | cons o r a=>intro i;rw[aL,cS,List.map_cons,a,zd]
 rw[nz,cV,key]
def RV(env:Env)(H:gg)(m:List Nat)(r:Bool)(ks:oQ):St:={ env:=env.map λp=>(p.1,gA (jc ks) H 40 p.2),H:=ks.map λp=>if p.2 then wN (jc ks) H H[p.1]? else .dead,marks:=m,iM:=r }
@[simp] theorem avB(S:List Nat)(env:Env)(H:gg)(m:List Nat)(r:Bool):mQ S { env:=env,H:=H,marks:=m,iM:=r }=RV env H m r (zd S 0 H):=by unfold mQ RV;rw[agR];rfl
@[simp] theorem avx(env:Env)(H:gg)(m:List Nat)(r:Bool)(ks:oQ):RV env H m r ks = { env:=env.map λp=>(p.1,gA (jc ks) H 40 p.2),H:=ks.map λp=>if p.2 then wN (jc ks) H H[p.1]? else .dead,marks:=m,iM:=r }:=rfl
section
variable{T:iL}
def RW(S:List Nat)(T:iL)(b:IR)(K:ju):ju:=λo=>match o with
 | .norm s=>s.marks = []/\XC T b (mQ S s) K
 | o=>K o
@[simp ↓] theorem avz{S:List Nat}{b:IR}{K:ju}{s:St}:RW S T b K (.norm s)=(s.marks = []/\XC T b (mQ S s) K):=(rfl)
@[simp ↓] theorem avy{S:List Nat}{b:IR}{K:ju}{id:Nat}{s:St}:RW S T b K (.exit id s)=K (.exit id s):=(rfl)
@[simp ↓] theorem avA{S:List Nat}{b:IR}{K:ju}{s:St}:RW S T b K (.ret s)=K (.ret s):=(rfl)
theorem gx.fz{live:List Nat}{a:IR}{s:St}{K:ju}(S:List Nat)(b:s.marks = [])(h:gx T live a (mQ S s) K .mk):gx T live a s K .mk:=Wc.mQ S (by rw[b];exact aiV _) h
end
theorem aaR{g:gv}{s d c:Int}:∀(n:Nat) (x:Int) (out:List Int),(vq g s d c n x out).l<=out.l+n
 | 0,x,out=>by simp[vq]
 | n+1,x,out=>by
  unfold vq;split
  .have:=aaR (g:=g) (s:=s) (d:=d) (c:=c) n (mX g s d x) (out ++ [x]);simp at this;omega
  .omega
def TY{g:gv}{s d c:Int}:(mb g s d c).l<=10:=by have:=aaR (g:=g) (s:=s) (d:=d) (c:=c) 10 (mX g s d c) [];simpa[mb]using this
theorem aaS{s:gG}:∀l:List Int,(sf s l).l<=l.l
 | []=>by simp[sf]
 | c::r=>by have:=aaS (s:=s) r;unfold sf;split<;>simp<;>omega
def Gm{g:gv}{s:gG}{x:gj}:(jz g s x).l<=10:=by
 have:=aaS (s:=s) (mb g s.p.side x.2 s.cur);have:=TY (g:=g) (s:=s.p.side) (d:=x.2) (c:=s.cur);unfold jz uN vE;dsimp only
 repeat' split
 all_goals first|omega|(simp only[aL,dh];omega)
end Go.AL
namespace Go.Proofs.YtmehofoficaelaaGreatDoor
open Go Go.AL Classical
set_option maxRecDepth 10000
set_option maxHeartbeats 1000000
structure s6(a b:List Pos)(i k:Int)(out:List Pos):Prop where
 i0:0<=i/\i<=a.l
 k0:0<=k/\k<=b.l
 len:(out.l:Int)=i+k
 perm:out.Perm (a.take i.n++b.take k.n)
 ws:WS out
 le:∀x∈out,∀y,y∈a.drop i.n\/y∈b.drop k.n->iQ x y<=0
def s6.init(a b:List Pos):s6 a b 0 0 []:=⟨U,U,rfl,gf,by simp[WS],gf⟩
def adb{a:List Pos}(h:WS a){i:Int}(h0:0<=i)(h1:i<a.l){y:Pos}(b:y∈a.drop i.n):iQ (gt a i) y<=0:=by
 have c:WS (a.drop i.n):=fQ (List.drop_sublist _ _) h;rw[o7 h0 h1]at b c;rcases ay.1 b with rfl|b
 .rw[w5];omega
 .exact(aW.1 c).1 y b
def ai5{α:Type}[Inhabited α]{a:List α}{i:Int}(h0:0<=i)(h1:i<a.l){y:α}:y∈a.drop i.n↔y=gt a i\/y∈a.drop (i+1).n:=by rw[o7 h0 h1,ay,(U:(i+1).n=i.n+1)]
def s6.add{a b:List Pos}{i k:Int}{out:List Pos}(f:s6 a b i k out)(hi:i<a.l)(g:WS a)(h:∀y∈b.drop k.n,iQ (gt a i) y<=0):s6 a b (i+1) k (out ++ [gt a i]):=by
 have h0:=f.i0;have e:∀y,y∈a.drop i.n↔y=gt a i\/y∈a.drop (i+1).n:=λy=>ai5 h0.1 hi;refine⟨U,f.k0,by have:=f.len;simp;omega,?_,?_,λx d y c=>?_⟩
 .rw[jI h0.1 hi,aN];refine(f.perm.append_right _).trans ?_;rw[aN];exact cp.append_left _ fR
 .refine bR.2 ⟨f.ws,gf,λx d y c=>?_⟩;simp at c;subst c;exact f.le x d _ (.inl ((e _).2 (.inl rfl)))
 .rcases aj.1 d with d|d
  .exact f.le x d y (c.imp (λh=>(e _).2 (.inr h)) id)
  .simp at d;subst d;rcases c with c|c
   .exact adb g h0.1 hi ((e _).2 (.inr c))
   .exact h y c
def s6.swap{a b:List Pos}{i k:Int}{out:List Pos}(c:s6 a b i k out):s6 b a k i out:=
 ⟨c.k0,c.i0,by have:=c.len;omega,c.perm.trans fR,c.ws,λx e y d=>c.le x e y d.symm⟩
def s6.Vf{a b:List Pos}{i k:Int}{out:List Pos}(d:s6 a b i k out)(hi:i<a.l)(g:WS a)(f:WS b)(h:k<b.l->iQ (gt a i) (gt b k)<=0):s6 a b (i+1) k (out ++ [gt a i]):=by
 refine d.add hi g λy c=>?_
 by_cases e:k<b.l
 .exact WV (h e) (adb f d.k0.1 e c)
 .rw[bF (by have:=d.k0;omega)]at c;cases c
def s6.acL{a b:List Pos}{i k:Int}{out:List Pos}(f:s6 a b i k out)(c:k<b.l)(e:WS a)(d:WS b)(h:i<a.l->¬iQ (gt a i) (gt b k)<=0):s6 a b i (k+1) (out ++ [gt b k]):=by refine(f.swap.Vf c d e λhi=>?_).swap;have:=h hi;rw[w6];omega
def f109:∀(n:Nat) (l:List Pos),l.l=n->l.l<2 ^ 40->(∀p∈l,Small p)->Wf T 161 [gT l] [] (Ex gT λr=>r.Perm l/\WS r):=by
 intro n
 induction n using Nat.strongRecOn with
 | ind n g=>
 intro l w hl hs;refine Yg KQ ?_;simp[KQ];(with_reducible refine Xs ?_ ?_<;>intro h<;>(try intro j)<;>(try simp[h])<;>(try omega))
 .refine⟨l,rfl,cp.refl _,?_⟩;unfold WS
  cases l with
  | nil=>simp
  | cons a l=>cases l with
   | nil=>simp
   | cons b l=>simp at h;omega
 .rw[wJ U U U];refine gi ?_;refine Yq (g (l.l / 2) U _ gO gO (λp d=>hs p (aS d))) λa f=>?_;simp;rw[wJ U U U];refine gi ?_;refine Yq (g (l.l-l.l / 2) U _ gO gO (λp d=>hs p (bC (aS d)))) λb e=>?_;simp;have v:(a.l:Int)=l.l / 2:=by rw[f.1.length_eq];simp;omega
  have u:(b.l:Int)=l.l-l.l / 2:=by rw[e.1.length_eq];simp;omega
  have q:∀p∈a,Small p:=λp d=>hs p (aS ((f.1.mem_iff).1 d));have o:∀p∈b,Small p:=λp d=>hs p (bC (aS ((e.1.mem_iff).1 d)));refine gx.j ((0,0,[]):Int×Int×List Pos) (λx=>[(3,gT a),(4,gT b),(5,.gh 0 x.2.2.l 5 0 x.2.2.l),(6,.i x.1),(7,.i x.2.1)]) (λx=>[.row 46 x.2.2.l (cl Pos.cells x.2.2)]) (λx=>s6 a b x.1 x.2.1 x.2.2) (λx=>a.l+b.l-(x.1+x.2.1).n) ?_ gf sw rfl ?_
  .exact s6.init a b
  rintro⟨i,k,out⟩ c;have h0:=c.i0;have h1:=c.k0;have s:=c.len;dsimp only at c h0 h1 s ⊢;simp;(with_reducible repeat' first|refine Xk ?_<;>try simp|refine Xs ?_ ?_<;>intro h<;>(try intro j)<;>(try simp[h])<;>try omega|refine Xg ?_|omega)
  .exact⟨i+1,k,_,gf,rfl,rfl,gf,rfl,U,c.Vf jX f.2 e.2 λh=>U⟩
  .refine Yt (f50 _ _ (q _ (gF U U)) (o _ (gF U U))) ?_;simp[*];(with_reducible repeat' first|refine Xk ?_<;>try simp|refine Xs ?_ ?_<;>intro h<;>(try intro j)<;>(try simp[h])<;>try omega|refine Xg ?_|omega)
   .exact⟨i+1,k,_,gf,rfl,rfl,gf,rfl,U,c.Vf jX f.2 e.2 λ_=>jX⟩
   .exact⟨i,k+1,_,gf,rfl,rfl,gf,rfl,U,c.acL U f.2 e.2 λ_=>jX⟩
  .exact⟨i,k+1,_,gf,rfl,rfl,gf,rfl,U,c.acL U f.2 e.2 λ_=>U⟩
  .refine⟨out,rfl,?_,c.ws⟩;have m:=c.perm;rw[lW U,lW U]at m;refine m.trans ((cp.append f.1 e.1).trans ?_);have t:(l.drop (↑l.l / 2:Int).n).take (l.l-(↑l.l / 2:Int).n)=l.drop (↑l.l / 2:Int).n:=af (by rw[aX];exact Nat.le_refl _);rw[t,bZ]
structure x5(a:List Pos)(i:Int)(out:List Pos):Prop where
 i0:0<=i/\i<=a.l
 len:(out.l:Int)<=i
 mem:∀q,q∈out↔q∈a.take i.n
 st:out.Pairwise λx y=>iQ x y<0
def x5.init(a:List Pos):x5 a 0 []:=⟨U,gf,gf,gf⟩
def ade{a:List Pos}(h:WS a){j:Int}(h0:0<=j)(h1:j<a.l){x:Pos}(b:x∈a.take (j+1).n):iQ x (gt a j)<=0:=by
 have c:WS (a.take (j+1).n):=fQ (List.take_sublist _ _) h;rw[jI h0 h1]at b c;rcases aj.1 b with b|b
 .exact(bR.1 c).2.2 x b _ gf
 .simp at b;subst b;rw[w5];omega
def x5.skip{a:List Pos}{i:Int}{out:List Pos}(b:x5 a i out)(hi:i<a.l)(h1:i≠0)(h:gt a i=gt a (i-1)):x5 a (i+1) out:=by have h0:=b.i0;refine⟨U,by have:=b.len;omega,λq=>?_,b.st⟩;rw[b.mem,jI h0.1 hi,aj,aE];refine⟨.inl,λc=>c.elim id λc=>?_⟩;rw[c,h];have:=jI (l:=a) (n:=i-1) U U;rw[(U:i-1+1=i)]at this;rw[this];simp
def x5.add{a:List Pos}{i:Int}{out:List Pos}(c:x5 a i out)(hi:i<a.l)(f:WS a)(h:i=0\/gt a i≠gt a (i-1)):x5 a (i+1) (out ++ [gt a i]):=by
 have h0:=c.i0;refine⟨U,by have:=c.len;simp;omega,λq=>?_,bR.2 ⟨c.st,gf,λx b y d=>?_⟩⟩
 .rw[aj,c.mem,jI h0.1 hi,aj]
 .simp at d;subst d;have b:=(c.mem x).1 b;rcases h with rfl|h
  .simp at b
  .by_cases g:i=0
   .subst g;simp at b
   have p:=ade f (j:=i-1) U U (x:=x) (by rw[(U:i-1+1=i)];exact b)
   have o:=ade f h0.1 hi (x:=gt a (i-1)) (by
    have:=jI (l:=a) (n:=i-1) U U;rw[(U:i-1+1=i)]at this
    rw[jI h0.1 hi,this];simp)
   have m:iQ (gt a (i-1)) (gt a i)≠0:=λe=>h (s9.1 e).symm
   by_cases k:iQ x (gt a (i-1))=0
   .rw[s9.1 k];omega
   .exact AF (U:iQ x (gt a (i-1))<0) U
def apV{r:List Pos}(h:r.Pairwise λx y=>iQ x y<0):lP r:=by intro i h1 a;rw[iV U U,iV U U];exact bz.1 h _ _ _ _ U
def f61(l:List Pos)(hl:l.l<2 ^ 40)(hs:∀p∈l,Small p):Wf T 101 [gT l] [] (Ex gT λr=>lP r/\r.l<=l.l/\∀q,q∈r↔q∈l):=by
 refine Yg M5 ?_;simp[M5];refine Yq (f109 _ l rfl hl hs) λa c=>?_;simp;have f:a.l=l.l:=c.1.length_eq;have d:∀p∈a,Small p:=λp e=>hs p (c.1.mem_iff.1 e);refine gx.j ((0,[]):Int×List Pos) (λx=>[(3,gT a),(4,.gh 0 x.2.l 5 0 x.2.l),(5,.i x.1)]) (λx=>[.row 46 x.2.l (cl Pos.cells x.2)]) (λx=>x5 a x.1 x.2) (λx=>a.l-x.1.n) ?_ gf sw rfl ?_
 .exact x5.init a
 rintro⟨i,out⟩ b;have h0:=b.i0;have h1:=b.len;dsimp only at b h0 h1 ⊢;simp;(with_reducible repeat' first|refine Xk ?_<;>try simp|refine Xs ?_ ?_<;>intro h<;>(try intro g)<;>(try simp[h])<;>try omega|refine Xg ?_|omega)
 .exact⟨1,_,gf,rfl,gf,rfl,U,by subst h;exact b.add jX c.2 (.inl rfl)⟩
 .refine Yt (f110 _ _ (d _ (gF U U)) (d _ (gF U U))) ?_;simp;refine kz ?_ ?_<;>intro h
  .exact⟨i+1,_,rfl,rfl,rfl,rfl,U,b.skip jX jX jX⟩
  .exact⟨i+1,_,gf,rfl,gf,rfl,U,b.add jX c.2 (.inr jX)⟩
 .refine⟨out,rfl,apV b.st,U,λq=>?_⟩;rw[b.mem,lW U,c.1.mem_iff]
end Go.Proofs.YtmehofoficaelaaGreatDoor
namespace Go.AL
open Go
def TU(H:gg)(d:D)(ks:oQ):D×gg:=(gA (jc ks) H 40 d,ks.map λp=>if p.2 then wN (jc ks) H H[p.1]? else .dead)
@[simp] theorem aw4(H:gg)(d:D)(ks:oQ):TU H d ks=(gA (jc ks) H 40 d,ks.map λp=>if p.2 then wN (jc ks) H H[p.1]? else .dead):=rfl
def F1(own n:Nat)(H:gg)(d:D):List Nat:=match own with|0=>[]|1=>F3 n d|3=>((iO H 40 d).filter (n<=·)).take 1|_=>(iO H 40 d).filter (n<=·)
@[simp] theorem ay3(n:Nat)(H:gg)(d:D):F1 0 n H d = []:=rfl
@[simp] theorem ay4(n:Nat)(H:gg)(d:D):F1 1 n H d=F3 n d:=rfl
@[simp] theorem ay5(n:Nat)(H:gg)(d:D):F1 2 n H d=(iO H 40 d).filter (n<=·):=rfl
@[simp] theorem ay6(n:Nat)(H:gg)(d:D):F1 3 n H d=((iO H 40 d).filter (n<=·)).take 1:=rfl
@[simp low] theorem aiz{own n:Nat}{H:gg}{d:D}(h:¬H.l<=n)(a:¬own=4):leave own n H d=TU H d (jC n (dedup ((F1 own n H d++((H.take n).map (pZ n)).flatten).filter (· < H.l)))):=by unfold leave TU F1;rw[if_neg U];rfl
@[simp] theorem ay7(n v g sz len:Nat):F3 n (.gh v g sz 0 len)=if n<=v then [v]else []:=rfl
theorem Qb{H:gg}{k:Nat}{d:D}(h:closed d=bb):iO H k d = []:=by
 cases k with
 | zero=>rfl
 | succ k=>unfold iO;exact if_pos h
def UK{H:gg}{k:Nat}{cs:List D}(h:gN cs=bb):(cs.map (iO H k)).flatten = []:=by
 induction cs with
 | nil=>rfl
 | cons d r a=>
  simp only[gN,ai]at h;simp[Qb h.1,a h.2]
@[simp] theorem azr{H:gg}{k:Nat}{d:D}(h:closed d=bb):iO H k d = []:=Qb h
@[simp] theorem azp(H:gg)(k:Nat)(cs:List D):iO H (k+1) (.agg cs)=(cs.map (iO H k)).flatten:=by
 by_cases h:closed (.agg cs)=bb
 .rw[Qb h,UK (by simpa using h)]
 .rw[iO,if_neg h]
@[simp] theorem azv(H:gg)(k:Nat)(cs:List D):iO H (k+1) (.tup cs)=(cs.map (iO H k)).flatten:=by
 by_cases h:closed (.tup cs)=bb
 .rw[Qb h,UK (by simpa using h)]
 .rw[iO,if_neg h]
def F9(H:gg)(k:Nat):Option Ob->List Nat
 | some (.row _ _ cs)=>(cs.map (iO H k)).flatten
 | _=>[]
@[simp] theorem azx(H:gg)(k t g:Nat)(cs:List D):F9 H k (bs (.row t g cs))=(cs.map (iO H k)).flatten:=rfl
@[simp] theorem azw(H:gg)(k:Nat)(kk:KK)(es:List (Value×D)):F9 H k (bs (.map kk es)) = []:=rfl
theorem ab9(H:gg)(k v:Nat):(match rowsOf H v with|some (_,_,cs)=>(cs.map (iO H k)).flatten|none=>[])=F9 H k H[v]? := by
 unfold rowsOf F9
 cases h:H[v]? with
 | none=>rfl
 | some o=>cases o<;>rfl
@[simp] theorem azs(H:gg)(k v g sz off n:Nat):iO H (k+1) (.gh v g sz off n)=v::F9 H k H[v]? := by rw[iO,if_neg gf];exact congrArg _ (ab9 H k v)
@[simp] theorem azt(H:gg)(k v g off:Nat):iO H (k+1) (.ptr v g off)=v::F9 H k H[v]? := by rw[iO,if_neg gf];exact congrArg _ (ab9 H k v)
@[simp] theorem azu{H:gg}{k:Nat}{α:Type}{f:α->List D}{sz:Nat}[F:Fl f sz](l:List α):((cl f l).map (iO H k)).flatten = []:=UK (vW l)
@[simp low] theorem RY{ρ:Nat->Option Nat}{H:gg}{k sz:Nat}{t:TypeId}{cs:List D}(h:cs.l=sz):oj ρ H k sz 0 1 (bs (t,cs)) = .sl sz [cs.map (gA ρ H k)]:=by subst h;unfold oj;simp[chunks,af]
@[simp] theorem aAv{a b c:List Int}{r q w u:Int}{o:Bool}:D.sl 8 [[dI a,dI b,dI c,.i r,.i q,.i w,.i u,.b o]]=lr [⟨⟨a,b,c,r,q⟩,w,u,o⟩]:=by unfold lr;rfl
end Go.AL
namespace Go.Proofs.YtmehofoficaelaaGreatDoor
open Go Go.AL Classical
set_option maxRecDepth 10000
set_option maxHeartbeats 1000000
def Oj(p:Pos)(a:Small p):Wf T 205 [dP p] [] (λd H=>d = .agg [.gh 0 1 1 0 p.cs.l,.gh 1 1 1 0 p.h0.l,.gh 2 1 1 0 p.h1.l,.i p.gX,.i p.side]/\H = [.row 3 1 (cl f1 p.cs),.row 3 1 (cl f1 p.h0),.row 3 1 (cl f1 p.h1)]):=by
 obtain⟨h1,c,b⟩:=a;refine Wf.xo 2 (fn:=Ap) rfl (by simp[Ap]) ?_;simp[Ap];exact nb
 all_goals trace_state
def f250(a b:gG)(d:Small a.p)(c:Small b.p):Wf T 294 [.agg a.cells,.agg b.cells] [] (Is (.b (decide (a=b)))):=by
 have e:(a=b)↔a.p=b.p/\a.kind=b.kind/\a.cur=b.cur/\a.kn=b.kn:=by cases a;cases b;simp
 have f:decide (a=b)=decide (a.p=b.p/\a.kind=b.kind/\a.cur=b.cur/\a.kn=b.kn):=decide_eq_decide.2 e;rw[f];refine Yg MF ?_;simp[MF];(with_reducible repeat' first|refine Xk ?_<;>try simp|refine Xs ?_ ?_<;>intro h<;>(try intro g)<;>(try simp[h])<;>try omega|refine Xg ?_|omega)
 .refine Yc (f50 _ _ d c) ?_;simp;simp_all [s9]
 all_goals (intros;simp_all)
def f252(s:gG)(b:Bool):Wf T 296 [.agg s.cells,.b b] [] (Is (lr (if b then [s]else []))):=by refine Yg MH ?_;simp[MH];exact nb
def Jh(a b:ij):Prop:=iQ a.p b.p<0\/(iQ a.p b.p=0/\a.kn=b4/\b.kn=bb)
def f229(a b:ij)(d:Small a.p)(c:Small b.p):Wf T 285 [.agg a.cells,.agg b.cells] [] (Is (.b (decide (Jh a b)))):=by
 refine Yg My ?_;simp[My];refine Yc (f50 _ _ d c) ?_;simp;(with_reducible repeat' first|refine Xk ?_<;>try simp|refine Xs ?_ ?_<;>intro h<;>(try intro f)<;>(try simp[h])<;>try omega|refine Xg ?_|omega)
 all_goals by_cases e:iQ a.p b.p<0<;>simp[*,Jh]at *
def f263(g:gv)(hg:pL g)(s d c:Int):Wf T 321 [g.ki,.i s,.i d,.i c] [] (Is (dI (mb g s d c))):=by
 have o:=hg.size;refine Yg MN ?_;simp[MN];refine Yc (f251 g hg s d c) ?_;simp;refine gx.j ((0,mX g s d c,[]):Nat×Int×List Int) (λx=>[(1,.i s),(2,.i d),(3,.i c),(4,.ptr 0 0 0),(9,.gh 1 x.2.2.l 1 0 x.2.2.l),(10,.i x.2.1)]) (λx=>[.row 39 0 [.i g.size,.sl 1 (g.next.map fI),dI g.jS],.row 3 x.2.2.l (cl f1 x.2.2)]) (λx=>x.1=x.2.2.l/\x.2.1<g.size/\x.2.2.Nodup/\(∀y∈x.2.2,0<=y/\y<g.size)/\mb g s d c=vq g s d c (10-x.1) x.2.1 x.2.2) (λx=>10-x.1) ?_ gf sw rfl ?_
 .have:=hg.to s d c;simp[mb];omega
 rintro⟨m,x,out⟩ ⟨h0,h1,f,b,j⟩;dsimp only at h0 h1 f b j ⊢;have n:out.l<=9:=zQ 9 out f (λy a=>by have:=b y a;omega);have e:=j;rw[(U:10-m=(9-m)+1),vq]at e;simp;(with_reducible repeat' first|refine Xk ?_<;>try simp|refine Xs ?_ ?_<;>intro h<;>(try intro p)<;>(try simp[h])<;>try omega|refine Xg ?_|omega)
 .rw[e,if_neg U]
 .refine gE.r rfl rfl (f25 out x U) gf rfl gf ?_;simp;refine kz ?_ ?_<;>intro h
  .rw[e,if_neg (by rintro⟨_,_,k⟩;exact k ‹_›)]
  .refine Yc (f251 g hg s d x) ?_;simp;refine⟨out.l+1,_,out ++ [x],gf,rfl,gf,rfl,U,gf,(hg.to _ _ _).2,?_,?_,?_⟩
   .rw[cZ];refine⟨f,gf,λy a z i=>?_⟩;simp at i;subst i;intro l;subst l;exact absurd a ‹_›
   .intro y a;simp at a;rcases a with a|rfl
    .exact b y a
    .omega
   .rw[e,if_pos (sk jX),h0,(U:9-out.l=10-(out.l+1))]
 .rw[e,if_neg U]
