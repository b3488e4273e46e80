/- Part 10 of the proof of skewer.skewerlaw15.TableSlices. -/
import Derived.Test.YtnaefnajkaohgaaGreatDoorC09
import Derived.Test.YtnaefnajkaohgaaGreatDoorC07
set_option linter.all false
namespace Go.AL
def numberC(a b:Int):Int:=if a<b then -1 else if a>b then 1 else 0
def listC:List Int→List Int→Int
 | [],[]=>0
 | [],_::_ => -1
 | _::_,[]=>1
 | a::l,b::m=>if a=b then listC l m else numberC a b
def firstNZ:List Int→Int
 | []=>0
 | a::l=>if a≠0 then a else firstNZ l
def cmpP(p q:Pos):Int:=firstNZ [listC p.cs q.cs,listC p.h0 q.h0,listC p.h1 q.h1,numberC p.rights q.rights,numberC p.side q.side]
theorem numberC_zero{a b:Int}:numberC a b=0↔a=b:=by
 unfold numberC;(repeat' split)<;>omega
theorem numberC_neg{a b:Int}:numberC a b<0↔a<b:=by
 unfold numberC;(repeat' split)<;>omega
theorem numberC_swap(a b:Int):numberC b a = - numberC a b:=by
 unfold numberC;(repeat' split)<;>omega
theorem listC_zero:∀ {a b:List Int},listC a b=0↔a=b
 | [],[]=>by simp[listC]
 | [],_::_=>by simp[listC]
 | _::_,[]=>by simp[listC]
 | a::l,b::m=>by
  unfold listC
  split
  ·rename_i h;subst h;rw[listC_zero];simp
  ·rename_i h;rw[numberC_zero];simp[h]
theorem listC_swap:∀ (a b:List Int),listC b a = - listC a b
 | [],[]=>rfl
 | [],_::_=>rfl
 | _::_,[]=>rfl
 | a::l,b::m=>by
  unfold listC
  by_cases h:a=b
  ·subst h;simp[listC_swap l m]
  ·rw[if_neg h,if_neg (Ne.symm h),numberC_swap]
theorem listC_trans:∀ {a b c:List Int},listC a b<0→listC b c<0→listC a c<0
 | [],[],c,h,_=>by simp[listC]at h
 | _::_,[],c,h,_=>by simp[listC]at h
 | a,_::_,[],_,h=>by simp[listC]at h
 | [],_::_,_::_,_,_=>by simp[listC]
 | a::l,b::m,c::k,h1,h2=>by
  unfold listC at *
  by_cases e1:a=b
  ·subst e1
   rw[if_pos rfl]at h1
   by_cases e2:a=c
   ·subst e2
    rw[if_pos rfl]at h2 ⊢
    exact listC_trans h1 h2
   ·rw[if_neg e2]at h2 ⊢;exact h2
  ·rw[if_neg e1,numberC_neg]at h1
   by_cases e2:b=c
   ·subst e2;rw[if_neg e1,numberC_neg];exact h1
   ·rw[if_neg e2,numberC_neg]at h2
    rw[if_neg (by omega),numberC_neg];omega
theorem firstNZ_zero:∀ {l:List Int},firstNZ l=0↔∀ x∈l,x=0
 | []=>by simp[firstNZ]
 | a::l=>by
  unfold firstNZ
  split
  ·rename_i h;simp[h]
  ·rename_i h;rw[firstNZ_zero];simp_all
theorem cmpP_zero{p q:Pos}:cmpP p q=0↔p=q:=by
 unfold cmpP
 rw[firstNZ_zero]
 cases p;cases q
 simp[listC_zero,numberC_zero]
theorem cmpP_refl(p:Pos):cmpP p p=0:=cmpP_zero.2 rfl
theorem cmpP_swap(p q:Pos):cmpP q p = - cmpP p q:=by
 unfold cmpP firstNZ
 rw[listC_swap p.cs,listC_swap p.h0,listC_swap p.h1,numberC_swap p.rights,numberC_swap p.side]
 simp only[firstNZ]
 (repeat' split)<;>omega
theorem firstNZ_trans{A B C:Int}{a b c:List Int}(h1:A=0→C=B)(h2:B=0→C=A)(h3:A<0→B<0→C<0)(h:firstNZ a<0→firstNZ b<0→firstNZ c<0):firstNZ (A::a)<0→firstNZ (B::b)<0→firstNZ (C::c)<0:=by
 unfold firstNZ
 intro x y
 by_cases hA:A=0
 ·have:=h1 hA
  subst this
  rw[if_neg (by simpa using hA)]at x
  by_cases hB:C=0
  ·rw[if_neg (by simpa using hB)]at y ⊢
   exact h x y
  ·rw[if_pos hB]at y ⊢;exact y
 ·rw[if_pos hA]at x
  by_cases hB:B=0
  ·have:=h2 hB
   subst this
   rw[if_pos hA];exact x
  ·rw[if_pos hB]at y
   have:=h3 x y
   rw[if_pos (by omega)];exact this
theorem cmpP_trans{p q r:Pos}:cmpP p q<0→cmpP q r<0→cmpP p r<0:=by
 have key:∀ a b c:List Int,listC a b=0→listC a c=listC b c:=fun a b c h=>by rw[listC_zero.1 h]
 have key2:∀ a b c:List Int,listC b c=0→listC a c=listC a b:=fun a b c h=>by rw[listC_zero.1 h]
 have n1:∀ a b c:Int,numberC a b=0→numberC a c=numberC b c:=fun a b c h=>by rw[numberC_zero.1 h]
 have n2:∀ a b c:Int,numberC b c=0→numberC a c=numberC a b:=fun a b c h=>by rw[numberC_zero.1 h]
 have nt:∀ a b c:Int,numberC a b<0→numberC b c<0→numberC a c<0:=fun a b c=>by simp only[numberC_neg];omega
 unfold cmpP
 refine firstNZ_trans (key _ _ _) (key2 _ _ _) listC_trans (firstNZ_trans (key _ _ _) (key2 _ _ _) listC_trans (firstNZ_trans (key _ _ _) (key2 _ _ _) listC_trans (firstNZ_trans (n1 _ _ _) (n2 _ _ _) (nt _ _ _) (firstNZ_trans (n1 _ _ _) (n2 _ _ _) (nt _ _ _) fun h=>?_))))
 simp[firstNZ]at h
theorem listC_take{a b:List Int}:∀ {i:Nat},a.take i=b.take i→i≤a.length→i≤b.length→listC a b=listC (a.drop i) (b.drop i):=by
 intro i
 induction i generalizing a b with
 | zero=>intro _ _ _;rfl
 | succ i ih=>
  intro h h1 h2
  cases a with
  | nil=>simp at h1
  | cons x a=>
   cases b with
   | nil=>simp at h2
   | cons y b=>
    simp only[List.take_succ_cons,List.cons.injEq]at h
    simp only[List.length_cons]at h1 h2
    simp only[List.drop_succ_cons,listC,h.1,if_true]
    exact ih h.2 (by omega) (by omega)
theorem listC_end{a b:List Int}(h:a.length=0∨b.length=0):listC a b=numberC a.length b.length:=by
 cases a<;>cases b<;>simp_all [listC,numberC]
 all_goals omega
theorem cmpP_le_trans{p q r:Pos}(h1:cmpP p q≤0)(h2:cmpP q r≤0):cmpP p r≤0:=by
 by_cases a:cmpP p q=0
 ·rw[cmpP_zero.1 a];exact h2
 ·by_cases b:cmpP q r=0
  ·rw[← cmpP_zero.1 b];exact h1
  ·exact Int.le_of_lt (cmpP_trans (show cmpP p q<0 by omega) (show cmpP q r<0 by omega))
def WS(l:List Pos):Prop:=l.Pairwise fun x y=>cmpP x y≤0
def Small(p:Pos):Prop:=p.cs.length<2 ^ 40∧p.h0.length<2 ^ 40∧p.h1.length<2 ^ 40
def Sorted(l:List Pos):Prop:=∀ i:Int,1≤i→i<l.length→cmpP (gt l (i-1)) (gt l i)<0
theorem Sorted.lt{l:List Pos}(h:Sorted l){i:Int}(h0:0≤i):∀ {n:Nat},i<n→(n:Int)<l.length→cmpP (gt l i) (gt l n)<0
 | 0,h1,_=>by omega
 | n+1,h1,h2=>by
  have:=h (n+1) (by omega) (by omega)
  rw[Int.add_sub_cancel]at this
  by_cases e:i=n
  ·subst e;exact this
  ·exact cmpP_trans (h.lt h0 (by omega) (by omega)) this
theorem Sorted.le{l:List Pos}(h:Sorted l){i j:Int}(h0:0≤i)(h1:i<j)(h2:j<l.length):cmpP (gt l i) (gt l j)<0:=by
 have:=h.lt h0 (n:=j.toNat) (by omega) (by omega)
 rwa [Int.toNat_of_nonneg (by omega)]at this
theorem Sorted.inj{l:List Pos}(h:Sorted l){i j:Int}(h0:0≤i)(h1:i<l.length)(h2:0≤j)(h3:j<l.length)(e:gt l i=gt l j):i=j:=by
 by_cases a:i<j
 ·have:=h.le h0 a h3;rw[e,cmpP_refl]at this;omega
 ·by_cases b:j<i
  ·have:=h.le h2 b h1;rw[e,cmpP_refl]at this;omega
  ·omega
def findP(l:List Pos)(p:Pos):Int:=if p∈l then(l.idxOf p:Int)else -1
theorem findP_no{l:List Pos}{p:Pos}(h:p ∉ l):findP l p = -1:=if_neg h
theorem findP_gt{l:List Pos}{p:Pos}(h:p∈l):0≤findP l p∧findP l p<l.length∧gt l (findP l p)=p:=by
 unfold findP
 rw[if_pos h]
 have hi:l.idxOf p<l.length:=List.idxOf_lt_length_iff.2 h
 refine⟨by omega,by omega,?_⟩
 rw[gt_nat hi]
 exact List.getElem_idxOf hi
theorem findP_eq{l:List Pos}(hs:Sorted l){i:Int}(h0:0≤i)(h1:i<l.length):findP l (gt l i)=i:=by
 obtain⟨a,b,c⟩:=findP_gt (gt_mem h0 h1)
 exact hs.inj a b h0 h1 c
end Go.AL
namespace Go.AL
open Go
def pt{α:Type}(l:List α)(n:Int)(v:α):List α:=l.take n.toNat++v::l.drop (n.toNat+1)
section
variable{α:Type}[Inhabited α]{l:List α}{n k:Int}{v:α}
theorem pt_set(h0:0≤n)(h:n<l.length):pt l n v=l.set n.toNat v:=by
 rw[pt,List.set_eq_take_append_cons_drop,if_pos (by omega)]
theorem pt_len(h0:0≤n)(h:n<l.length):(pt l n v).length=l.length:=by
 rw[pt_set h0 h,List.length_set]
theorem gt_pt(h0:0≤n)(h:n<l.length)(hk:0≤k):gt (pt l n v) k=if k=n then v else gt l k:=by
 rw[pt_set h0 h]
 unfold gt
 simp only[List.getD_eq_getElem?_getD,List.getElem?_set]
 by_cases e:k=n
 ·subst e;rw[if_pos rfl,if_pos rfl,if_pos (by omega)];rfl
 ·rw[if_neg (by omega),if_neg e]
theorem gt_pt_eq(h0:0≤n)(h:n<l.length):gt (pt l n v) n=v:=by rw[gt_pt h0 h h0,if_pos rfl]
theorem gt_pt_ne(h0:0≤n)(h:n<l.length)(hk:0≤k)(e:k≠n):gt (pt l n v) k=gt l k:=by rw[gt_pt h0 h hk,if_neg e]
theorem mem_pt{x:α}(h:x∈pt l n v):x=v∨x∈l:=by
 unfold pt at h
 simp only[List.mem_append,List.mem_cons]at h
 rcases h with h|h|h
 ·exact .inr (List.mem_of_mem_take h)
 ·exact .inl h
 ·exact .inr (List.mem_of_mem_drop h)
end
@[simp] theorem pt_fold{α:Type}(l:List α)(n:Int)(v:α):l.take n.toNat++v::l.drop (n.toNat+1)=pt l n v:=(rfl)
def toB(g:Game)(s d c:Int):Int:=
 if s<0∨s>1∨d<0∨d≥g.next.length∨c<0∨c≥g.size then -1 else gt (gt g.next (if s=1 then gt g.turn d else d)) c
structure BoardOK(g:Game):Prop where
 size:1≤g.size∧g.size≤9
 next:g.next.length=8
 row:∀ l∈g.next,(l.length:Int)=g.size∧∀ x∈l,-1≤x∧x<g.size
 turn:g.turn.length=8
 turns:∀ d,0≤d→d<8→0≤gt g.turn d∧gt g.turn d<8∧gt g.turn (gt g.turn d)=d
theorem BoardOK.to{g:Game}(h:BoardOK g)(s d c:Int) : -1≤toB g s d c∧toB g s d c<g.size:=by
 have:=h.size
 unfold toB
 split
 ·omega
 ·rename_i e
  have hn:=h.next
  simp only[not_or,Int.not_lt,Int.not_le,gt_iff_lt,ge_iff_le]at e
  have hd:0≤(if s=1 then gt g.turn d else d)∧(if s=1 then gt g.turn d else d)<8:=by
   split
   ·have:=h.turns d (by omega) (by omega);omega
   ·omega
  have hr:=h.row _ (gt_mem (l:=g.next) hd.1 (by omega))
  exact hr.2 _ (gt_mem (by omega) (by omega))
structure StepOK(g:Game)(x:Stp):Prop where
 ok:((x.1=1∨x.1=2∨x.1=7)∧0≤x.2∧x.2<8)∨(3≤x.1∧x.1≤6∧x.2=0)∨(x.1=8∧0≤x.2∧x.2<g.kinds.length)∨((x.1=9∨x.1=10)∧0≤x.2∧x.2<g.rights)
def cntOp(l:List Stp)(op:Int):Int:=(l.countP fun x=>x.1=op:Nat)
structure ProgOK(g:Game)(l:List Stp):Prop where
 len:1≤l.length∧l.length≤8
 steps:∀ x∈l,StepOK g x
 takes:cntOp l 6≤2
 push:cntOp l 7≤1
 become:cntOp l 8≤1
structure ClauseOK(g:Game)(c:Clause):Prop where
 ok:(c.cond=1∧0≤c.kind∧c.kind<g.kinds.length∧c.n=0)∨(c.cond=2∧0≤c.kind∧c.kind<g.kinds.length∧0≤c.n∧c.n<g.size)∨(c.cond=3∧c.kind=0∧0≤c.n∧c.n≤64)
 out:1≤c.out∧c.out≤3
def kindName(n:Int):ByteArray:=if n=0 then⟨#[97]⟩else⟨#[98,101,101]⟩
structure GameOK(g:Game):Prop where
 board:BoardOK g
 kinds:1≤g.kinds.length∧g.kinds.length≤2
 names:∀ k:Int,0≤k→k<g.kinds.length→(gt g.kinds k).name=kindName k
 progs:∀ k∈g.kinds,k.progs.length≤4∧∀ l∈k.progs,ProgOK g l
 rights:0≤g.rights∧g.rights≤2
 clauses:g.clauses.length≤3
 clause:∀ c∈g.clauses,ClauseOK g c
 blocked:1≤g.blocked∧g.blocked≤3
 endless:1≤g.endless∧g.endless≤3
structure HandOK(g:Game)(l:List Int):Prop where
 len:l.length=g.kinds.length
 at_:∀ k:Int,0≤k→k<l.length→0≤gt l k∧gt l k≤8∧(0<gt l k→(gt g.kinds k).keep=true)
structure PosOK(g:Game)(p:Pos):Prop where
 size:(p.cs.length:Int)=g.size
 h0:HandOK g p.h0
 h1:HandOK g p.h1
 rights:0≤p.rights∧p.rights<2 ^ g.rights.toNat
 side:0≤p.side∧p.side≤1
 cs:∀ x∈p.cs,0≤x∧x≤2*g.kinds.length
def manK(n:Int):Int:=if 1≤n∧n≤12 then(n-1) / 2 else -1
def manS(n:Int):Int:=if 1≤n∧n≤12 then(n-1) % 2 else -1
def codeM(k s:Int):Int:=1+2*k+s
def lineF(g:Game)(s d c:Int):Nat→Int→List Int→List Int
 | 0,_,out=>out
 | n+1,x,out=>if 0≤x∧x≠c∧x ∉ out then lineF g s d c n (toB g s d x) (out ++ [x])else out
def lineB(g:Game)(s d c:Int):List Int:=lineF g s d c 10 (toB g s d c) []
theorem lineF_in{g:Game}(hg:BoardOK g){s d c:Int}:∀ (n:Nat) (x:Int) (out:List Int),x<g.size→(∀ y∈out,0≤y∧y<g.size)→∀ y∈lineF g s d c n x out,0≤y∧y<g.size
 | 0,x,out,_,h,y,hy=>h y hy
 | n+1,x,out,hx,h,y,hy=>by
  unfold lineF at hy
  split at hy
  ·rename_i e
   refine lineF_in hg n _ _ (hg.to _ _ _).2 (fun z hz=>?_) y hy
   simp only[List.mem_append,List.mem_singleton]at hz
   rcases hz with hz|hz
   ·exact h z hz
   ·omega
  ·exact h y hy
theorem lineB_in{g:Game}(hg:BoardOK g){s d c y:Int}(h:y∈lineB g s d c):0≤y∧y<g.size:=lineF_in hg _ _ _ (hg.to _ _ _).2 (by simp) y h
theorem nodup_le:∀ (n:Nat) (l:List Int),l.Nodup→(∀ y∈l,0≤y∧y<n)→l.length≤n
 | 0,[],_,_=>by simp
 | 0,a::l,_,h=>by have:=h a (by simp);omega
 | n+1,l,hn,h=>by
  by_cases e:(n:Int)∈l
  ·have h1:(l.erase (n:Int)).length≤n:=nodup_le n _ (hn.erase _) fun y hy=>by
    have:=(hn.mem_erase_iff).1 hy
    have:=h y this.2
    omega
   rw[List.length_erase_of_mem e]at h1
   omega
  ·have:=nodup_le n l hn fun y hy=>by
    have:=h y hy
    have:y≠n:=fun e2=>e (e2▸hy)
    omega
   omega
structure Sta where
 p:Pos
 kind:Int
 cur:Int
 took:Bool
 deriving DecidableEq,Inhabited
def Sta.cells(s:Sta):List D:=[dI s.p.cs,dI s.p.h0,dI s.p.h1,.i s.p.rights,.i s.p.side,.i s.kind,.i s.cur,.b s.took]
structure StaOK(g:Game)(s:Sta):Prop where
 p:PosOK g s.p
 kind:0≤s.kind∧s.kind<g.kinds.length
 cur:0≤s.cur∧s.cur<g.size
def Pos.hand(p:Pos)(s:Int):List Int:=if s=0 then p.h0 else p.h1
def Pos.putHand(p:Pos)(s:Int)(l:List Int):Pos:=if s=0 then{ p with h0:=l }else{ p with h1:=l }
def lineSt(s:Sta):List Int→List Sta
 | []=>[]
 | c::r=>{ s with cur:=c }::if gt s.p.cs c=0 then lineSt s r else []
def takeS(g:Game)(s:Sta):List Sta:=
 let c:=gt s.p.cs s.cur
 if manS c≠1-s.p.side then []else
  let p:={ s.p with cs:=pt s.p.cs s.cur 0 }
  if (gt g.kinds (manK c)).keep=false then [{ s with p:=p,took:=true }]else
   let n:=gt (s.p.hand s.p.side) (manK c)+1
   if n≤8 then [{ s with p:=p.putHand s.p.side (pt (s.p.hand s.p.side) (manK c) n),took:=true }]else []
def pushS(g:Game)(s:Sta)(n:Int):List Sta:=
 let to:=toB g s.p.side n s.cur
 if gt s.p.cs s.cur=0∨to<0∨gt s.p.cs to≠0 then []else
  [{ s with p:={ s.p with cs:=pt (pt s.p.cs to (gt s.p.cs s.cur)) s.cur 0 } }]
def hasRight(r n:Int):Prop:=r / 2 ^ n.toNat % 2=1
instance(r n:Int):Decidable (hasRight r n):=by unfold hasRight;infer_instance
def dropRight(r n:Int):Int:=if hasRight r n then r-2 ^ n.toNat else r
theorem shl_small{b:Int}(h0:0≤b)(h:b≤4):shlK .i64 1 b=2 ^ b.toNat:=by
 have:b=0∨b=1∨b=2∨b=3∨b=4:=by omega
 rcases this with rfl|rfl|rfl|rfl|rfl<;>decide
theorem nat16{r:Int}(h0:0≤r)(h:r<16):∃ i:Fin 16,r=(i.val:Int):=⟨⟨r.toNat,by omega⟩,by simp;omega⟩
theorem nat4{r:Int}(h0:0≤r)(h:r<4):∃ i:Fin 4,r=(i.val:Int):=⟨⟨r.toNat,by omega⟩,by simp;omega⟩
theorem right_tab:∀ (i:Fin 16) (k:Fin 4),(bits .and .i64 (shrK .i64 (i.val:Int) (k.val:Int)) 1=1↔hasRight (i.val:Int) (k.val:Int))∧bits .andNot .i64 (i.val:Int) (shlK .i64 1 (k.val:Int))=dropRight (i.val:Int) (k.val:Int):=by decide +kernel
theorem right_and{r n:Int}(h0:0≤r)(h1:r<16)(h2:0≤n)(h3:n<4):(bits .and .i64 (shrK .i64 r n) 1=1)=hasRight r n:=by
 obtain⟨i,rfl⟩:=nat16 h0 h1
 obtain⟨k,rfl⟩:=nat4 h2 h3
 exact propext (right_tab i k).1
theorem right_drop{r n:Int}(h0:0≤r)(h1:r<16)(h2:0≤n)(h3:n<4):bits .andNot .i64 r (shlK .i64 1 n)=dropRight r n:=by
 obtain⟨i,rfl⟩:=nat16 h0 h1
 obtain⟨k,rfl⟩:=nat4 h2 h3
 exact(right_tab i k).2
theorem pow_small{b:Int}(h0:0≤b)(h:b≤4):(2:Int) ^ b.toNat≤16:=by
 have:b=0∨b=1∨b=2∨b=3∨b=4:=by omega
 rcases this with rfl|rfl|rfl|rfl|rfl<;>decide
def stepL(g:Game)(s:Sta)(x:Stp):List Sta:=
 let c:=gt s.p.cs s.cur
 if x.1=1 then(let to:=toB g s.p.side x.2 s.cur;if 0≤to then [{ s with cur:=to }]else [])
 else if x.1=2 then lineSt s (lineB g s.p.side x.2 s.cur)
 else if x.1=3 then(if c=0 then [s]else [])
 else if x.1=4 then(if manS c=1-s.p.side then [s]else [])
 else if x.1=5 then(if manS c=s.p.side then [s]else [])
 else if x.1=6 then takeS g s
 else if x.1=7 then pushS g s x.2
 else if x.1=8 then [{ s with kind:=x.2 }]
 else if x.1=9 then(if hasRight s.p.rights x.2 then [s]else [])
 else [{ s with p:={ s.p with rights:=dropRight s.p.rights x.2 } }]
def runL(g:Game):List Stp→List Sta→List Sta
 | [],l=>l
 | x::r,l=>runL g r (l.flatMap fun s=>stepL g s x)
def startS(p:Pos)(cell:Int):Sta:={ p:={ p with cs:=pt p.cs cell 0 },kind:=manK (gt p.cs cell),cur:=cell,took:=false }
structure Outc where
 p:Pos
 took:Bool
 deriving DecidableEq,Inhabited
def Outc.cells(o:Outc):List D:=[dI o.p.cs,dI o.p.h0,dI o.p.h1,.i o.p.rights,.i o.p.side,.b o.took]
def finS(side:Int)(s:Sta):Option Outc:=
 if gt s.p.cs s.cur=0 then some { p:={ s.p with cs:=pt s.p.cs s.cur (codeM s.kind side),side:=1-side },took:=s.took }else none
def outs1(g:Game)(p:Pos)(cell:Int)(l:List Stp):List Outc:=(runL g l [startS p cell]).filterMap (finS p.side)
def upto(n:Nat):List Int:=(List.range n).map fun k:Nat=>(k:Int)
theorem mem_upto{n:Nat}{k:Int}:k∈upto n↔0≤k∧k<n:=by
 simp only[upto,List.mem_map,List.mem_range]
 constructor
 ·rintro⟨a,h,rfl⟩;omega
 ·intro h;exact⟨k.toNat,by omega,by omega⟩
def outsAt(g:Game)(p:Pos)(c:Int):List Outc:=if manS (gt p.cs c)=p.side then(gt g.kinds (manK (gt p.cs c))).progs.flatMap (outs1 g p c)else []
def outsL(g:Game)(p:Pos):List Outc:=(upto p.cs.length).flatMap (outsAt g p)
def drop1(p:Pos)(k c:Int):Pos:={ p.putHand p.side (pt (p.hand p.side) k (gt (p.hand p.side) k-1))with cs:=pt p.cs c (codeM k p.side),side:=1-p.side }
def IsDrop(g:Game)(p q:Pos):Prop:=∃ k c:Int,0≤k∧k<g.kinds.length∧0≤c∧c<p.cs.length∧gt (p.hand p.side) k≠0∧gt p.cs c=0∧q=drop1 p k c
def menC(p:Pos)(side kind:Int):Int:=(p.cs.countP fun c=>0≤manK c∧manS c=side∧(kind<0∨manK c=kind):Nat)
def condL(p:Pos)(c:Clause):Prop:=
 if c.cond=1 then menC p p.side c.kind=0 else if c.cond=2 then gt p.cs c.n=codeM c.kind (1-p.side)else menC p p.side (-1)≤c.n
def IsMove(g:Game)(p q:Pos):Prop:=
 (∀ c∈g.clauses,¬ condL p c) ∧
 if g.must=true∧(∃ o∈outsL g p,o.took=true)then⟨q,true⟩∈outsL g p else(∃ o∈outsL g p,o.p=q)∨IsDrop g p q
theorem PosOK.small{g:Game}(hg:GameOK g){p:Pos}(h:PosOK g p):Small p:=by
 have h1:=h.size;have h2:=hg.board.size;have h3:=h.h0.len;have h4:=h.h1.len;have h5:=hg.kinds
 exact⟨by omega,by omega,by omega⟩
theorem PosOK.hand{g:Game}{p:Pos}(h:PosOK g p)(s:Int):HandOK g (p.hand s):=by
 unfold Pos.hand;split
 ·exact h.h0
 ·exact h.h1
theorem PosOK.putHand{g:Game}{p:Pos}(h:PosOK g p)(s:Int){l:List Int}(hl:HandOK g l):PosOK g (p.putHand s l):=by
 unfold Pos.putHand;split
 ·exact{ h with h0:=hl }
 ·exact{ h with h1:=hl }
theorem PosOK.setC{g:Game}{p:Pos}(h:PosOK g p){c v:Int}(hc:0≤c)(hc2:c<g.size)(hv:0≤v∧v≤2*g.kinds.length):PosOK g { p with cs:=pt p.cs c v }:=
 { h with
  size:=by dsimp only;rw[pt_len hc (by rw[h.size];exact hc2)];exact h.size
  cs:=fun x hx=>by
   rcases mem_pt hx with rfl|hx
   ·exact hv
   ·exact h.cs x hx }
theorem HandOK.set{g:Game}{l:List Int}(h:HandOK g l){k v:Int}(hk:0≤k)(hk2:k<l.length)(hv:0≤v∧v≤8∧(0<v→(gt g.kinds k).keep=true)):HandOK g (pt l k v) where
 len:=by rw[pt_len hk hk2];exact h.len
 at_ j hj hj2:=by
  rw[pt_len hk hk2]at hj2
  rw[gt_pt hk hk2 hj]
  split
  ·rename_i e;subst e;exact hv
  ·exact h.at_ j hj hj2
theorem manK_le{n:Int}{g:Game}(h:n≤2*g.kinds.length)(hk:1≤g.kinds.length):manK n<g.kinds.length:=by
 unfold manK;split<;>omega
theorem manS_side{n s:Int}(hs:0≤s)(h:manS n=s):0≤manK n∧1≤n∧n≤12∧n=codeM (manK n) s:=by
 unfold manS at h;unfold manK codeM
 split at h<;>rename_i e
 ·rw[if_pos e];omega
 ·omega
theorem dropRight_le{r n k:Int}(h:0≤r)(h2:r<2 ^ k.toNat):0≤dropRight r n∧dropRight r n<2 ^ k.toNat:=by
 unfold dropRight
 split
 ·rename_i e
  unfold hasRight at e
  have hp:(0:Int)<2 ^ n.toNat:=Int.pow_pos (by decide)
  have:2 ^ n.toNat≤r:=by
   by_cases c:r<2 ^ n.toNat
   ·rw[Int.ediv_eq_zero_of_lt h c]at e;simp at e
   ·omega
  omega
 ·exact⟨h,h2⟩
theorem lineSt_mem{s t:Sta}:∀ {l:List Int},t∈lineSt s l→∃ c∈l,t = { s with cur:=c }
 | [],h=>by simp[lineSt]at h
 | c::r,h=>by
  unfold lineSt at h
  rcases List.mem_cons.1 h with h|h
  ·exact⟨c,by simp,h⟩
  ·split at h
   ·obtain⟨c',h1,h2⟩:=lineSt_mem h;exact⟨c',by simp[h1],h2⟩
   ·cases h
theorem stepL_ok{g:Game}(hg:GameOK g){s:Sta}(hs:StaOK g s){x:Stp}(hx:StepOK g x){t:Sta}(h:t∈stepL g s x):StaOK g t:=by
 have hb:=hg.board
 have hcur:s.cur<s.p.cs.length:=by rw[hs.p.size];exact hs.cur.2
 have hc:=hs.p.cs _ (gt_mem hs.cur.1 hcur)
 unfold stepL at h
 dsimp only at h
 split at h
 ·split at h
  ·rename_i h0
   rw[List.mem_singleton]at h;subst h
   exact{ hs with cur:=⟨h0,(hb.to _ _ _).2⟩ }
  ·cases h
 split at h
 ·obtain⟨c,h1,rfl⟩:=lineSt_mem h
  exact{ hs with cur:=lineB_in hb h1 }
 iterate 3
  split at h
  ·split at h
   ·rw[List.mem_singleton]at h;subst h;exact hs
   ·cases h
 split at h
 ·unfold takeS at h
  dsimp only at h
  split at h
  ·cases h
  rename_i e
  have e:=Decidable.not_not.1 e
  have hsd:=hs.p.side
  obtain⟨m1,m2,m3,m4⟩:=manS_side (by omega) e
  have hk:manK (gt s.p.cs s.cur)<g.kinds.length:=manK_le hc.2 hg.kinds.1
  have hp:PosOK g { s.p with cs:=pt s.p.cs s.cur 0 }:=hs.p.setC hs.cur.1 hs.cur.2 (by omega)
  split at h
  ·rw[List.mem_singleton]at h;subst h
   exact{ hs with p:=hp }
  rename_i kp
  split at h
  ·rename_i h8
   rw[List.mem_singleton]at h;subst h
   have hh:=hs.p.hand s.p.side
   have hl:=hh.len
   have ha:=hh.at_ _ m1 (by rw[hl];exact hk)
   exact{ hs with p:=hp.putHand _ (hh.set m1 (by rw[hl];exact hk) ⟨by omega,by omega,fun _=>by simpa using kp⟩) }
  ·cases h
 split at h
 ·unfold pushS at h
  dsimp only at h
  split at h
  ·cases h
  rename_i e
  simp only[not_or,Int.not_lt]at e
  rw[List.mem_singleton]at h;subst h
  have h1:=hs.p.setC (c:=toB g s.p.side x.2 s.cur) (v:=gt s.p.cs s.cur) e.2.1 (hb.to _ _ _).2 hc
  exact{ hs with p:=h1.setC hs.cur.1 hs.cur.2 (by omega) }
 split at h
 ·rename_i e8
  rw[List.mem_singleton]at h;subst h
  have hk:0≤x.2∧x.2<g.kinds.length:=by have:=hx.ok;omega
  exact{ hs with kind:=hk }
 split at h
 ·split at h
  ·rw[List.mem_singleton]at h;subst h;exact hs
  ·cases h
 ·rw[List.mem_singleton]at h;subst h
  exact{ hs with p:={ hs.p with rights:=dropRight_le hs.p.rights.1 hs.p.rights.2 } }
theorem runL_ok{g:Game}(hg:GameOK g):∀ {l:List Stp} {a:List Sta},(∀ x∈l,StepOK g x)→(∀ s∈a,StaOK g s)→∀ s∈runL g l a,StaOK g s
 | [],_,_,h,s,hs=>h s hs
 | x::r,a,hx,h,s,hs=>by
  refine runL_ok (a:=a.flatMap fun s=>stepL g s x) hg (fun y hy=>hx y (by simp[hy])) (fun t ht=>?_) s hs
  obtain⟨u,hu,ht⟩:=List.mem_flatMap.1 ht
  exact stepL_ok hg (h u hu) (hx x (by simp)) ht
theorem runL_congr{g:Game}:∀ {l:List Stp} {a b:List Sta},(∀ s,s∈a↔s∈b)→∀ s,s∈runL g l a↔s∈runL g l b
 | [],_,_,h,s=>h s
 | x::r,a,b,h,s=>runL_congr (l:=r) (fun t=>by simp only[List.mem_flatMap,h]) s
theorem startS_ok{g:Game}(hg:GameOK g){p:Pos}(hp:PosOK g p){c:Int}(h0:0≤c)(h1:c<g.size)(hm:manS (gt p.cs c)=p.side):StaOK g (startS p c):=by
 have hc:=hp.cs _ (gt_mem h0 (by rw[hp.size];exact h1))
 exact{ p:=hp.setC h0 h1 (by omega),kind:=⟨(manS_side hp.side.1 hm).1,manK_le hc.2 hg.kinds.1⟩,cur:=⟨h0,h1⟩ }
theorem finS_ok{g:Game}{s:Sta}(hs:StaOK g s){side:Int}(h0:0≤side)(h1:side≤1){o:Outc}(h:finS side s=some o):PosOK g o.p:=by
 unfold finS at h
 split at h
 ·cases h
  have:=hs.kind
  exact{ hs.p.setC hs.cur.1 hs.cur.2 (v:=codeM s.kind side) (by unfold codeM;omega)with side:=by dsimp only;omega }
 ·cases h
theorem outsL_ok{g:Game}(hg:GameOK g){p:Pos}(hp:PosOK g p){o:Outc}(h:o∈outsL g p):PosOK g o.p:=by
 obtain⟨c,hc,h⟩:=List.mem_flatMap.1 h
 rw[mem_upto,hp.size]at hc
 unfold outsAt at h
 split at h
 ·rename_i e
  obtain⟨l,hl,h⟩:=List.mem_flatMap.1 h
  obtain⟨s,hs,h⟩:=List.mem_filterMap.1 h
  have hst:=startS_ok hg hp hc.1 hc.2 e
  have hk:=hg.progs _ (gt_mem (l:=g.kinds) hst.kind.1 hst.kind.2)
  exact finS_ok (runL_ok hg (hk.2 l hl).steps (fun t ht=>by rw[List.mem_singleton]at ht;subst ht;exact hst) s hs) hp.side.1 hp.side.2 h
 ·cases h
theorem drop_ok{g:Game}{p:Pos}(hp:PosOK g p){q:Pos}(h:IsDrop g p q):PosOK g q:=by
 obtain⟨k,c,h1,h2,h3,h4,h5,h6,rfl⟩:=h
 have hh:=hp.hand p.side
 have hl:=hh.len
 have ha:=hh.at_ k h1 (by omega)
 have hs:=hp.side
 have hz:=hp.size
 have hp2:=(hp.putHand p.side (hh.set h1 (v:=gt (p.hand p.side) k-1) (by omega) ⟨by omega,by omega,fun _=>ha.2.2 (by omega)⟩))
 have e:(p.putHand p.side (pt (p.hand p.side) k (gt (p.hand p.side) k-1))).cs=p.cs:=by unfold Pos.putHand;split<;>rfl
 have:=hp2.setC (c:=c) (v:=codeM k p.side) h3 (by omega) (by unfold codeM;omega)
 rw[e]at this
 exact{ this with side:=by dsimp only[drop1];omega }
theorem move_ok{g:Game}(hg:GameOK g){p:Pos}(hp:PosOK g p){q:Pos}(h:IsMove g p q):PosOK g q:=by
 obtain⟨_,h⟩:=h
 split at h
 ·exact outsL_ok hg hp h
 ·rcases h with⟨o,h,rfl⟩|h
  ·exact outsL_ok hg hp h
  ·exact drop_ok hp h
end Go.AL
namespace Go.Proofs.YtnaefnajkaohgaaGreatDoor
open Go Go.AL Classical
set_option maxRecDepth 10000
theorem f95(n a b:Int):Wf T 95 [.i n,.i a,.i b] [] (Is (.b (decide (a≤n∧n≤b)))):=by
 refine Yg F95 ?_
 simp[F95]
 (with_reducible repeat' first|refine Xk ?_<;>try simp|refine Xs ?_ ?_<;>intro h<;>(try intro h')<;>(try simp[h])<;>(try omega)|refine Xg ?_|omega)
theorem f94(a b:Int):Wf T 94 [.i a,.i b] [] (Is (.i (numberC a b))):=by
 refine Yg F94 ?_
 simp[F94]
 (with_reducible repeat' first|refine Xk ?_<;>try simp|refine Xs ?_ ?_<;>intro h<;>(try intro h')<;>(try simp[h])<;>(try omega)|refine Xg ?_|omega)
 all_goals (simp only[numberC];(repeat' split)<;>omega)
theorem f92{k s:Int}(hk:0≤k)(hk2:k<6)(hs:0≤s)(hs2:s≤1):Wf T 92 [.i k,.i s] [] (Is (.i (1+2*k+s))):=by
 refine Yg F92 ?_
 simp[F92]
 (with_reducible repeat' first|refine Xk ?_<;>try simp|refine Xs ?_ ?_<;>intro h<;>(try intro h')<;>(try simp[h])<;>(try omega)|refine Xg ?_|omega)
theorem f156{k s:Int}(hk:0≤k)(hk2:k<6)(hs:0≤s)(hs2:s≤1):Wf T 156 [.i k,.i s] [] (Is (.i (1+2*k+s))):=by
 refine Yg F156 ?_
 simp[F156]
 refine XCall.c rfl rfl (f95 _ _ _) (by simp[closedL]) (by simp) ?_
 simp[show k≤5 by omega,hk]
 refine XCall.c rfl rfl (f95 _ _ _) (by simp[closedL]) (by simp) ?_
 simp[hs,hs2]
 omega
theorem f25(l:List Int)(n:Int)(hl:l.length<2 ^ 40):Wf T 25 [dI l,.i n] [] (Is (.b (decide (n∈l)))):=by
 refine Yg F25 ?_
 simp[F25]
 refine XLoop.i (α:=Int) [0,1,5] rfl (fun i=>[(0,dI l),(1,.i n),(5,.i i)]) (fun _=>[]) (fun i=>0≤i∧i≤l.length∧n ∉ l.take i.toNat) (fun i=>l.length-i.toNat) 0 (by simp) (by simp) rfl ?_
 rintro i ⟨h0,h1,h2⟩
 simp
 (with_reducible repeat' first|refine Xk ?_<;>try simp|refine Xs ?_ ?_<;>intro h<;>(try intro h')<;>(try simp[h])<;>(try omega)|refine Xg ?_|omega)
 ·have:=gt_mem h0 ‹_›
  simp_all
 ·skip
  rw[take_gt h0 ‹_›]
  simp_all
  exact fun e=>h e.symm
 ·simpa[take_all (by omega:(l.length:Int)≤i)]using h2
theorem f93(a b:List Int)(ha:a.length<2 ^ 40)(hb:b.length<2 ^ 40):Wf T 93 [dI a,dI b] [] (Is (.i (listC a b))):=by
 refine Yg F93 ?_
 simp[F93]
 refine XLoop.j (0:Int) (fun i=>[(0,dI a),(1,dI b),(5,.i i)]) (fun _=>_) (fun i=>0≤i∧i≤a.length∧i≤b.length∧a.take i.toNat=b.take i.toNat) (fun i=>a.length-i.toNat) ?_ (by simp) (by first|rfl|simp) rfl ?_
 ·simp
 rintro i ⟨h0,h1,h1',h2⟩
 have e:=listC_take h2 (by omega) (by omega)
 simp
 (with_reducible repeat' first|refine Xk ?_<;>try simp|refine Xs ?_ ?_<;>intro h<;>(try intro h')<;>(try simp[h])<;>(try omega)|refine Xg ?_|omega)
 ·skip
  rw[take_gt h0 (by omega),take_gt h0 (by omega),h2]
  simp_all
 ·refine Yt (f94 _ _) ?_
  simp
  rw[e,drop_gt h0 ‹_›,drop_gt h0 ‹_›,listC,if_neg (by assumption)]
 all_goals
  refine Yc (f94 _ _) ?_
  simp
  rw[e,listC_end (by simp only[List.length_drop];omega)]
  simp only[List.length_drop,numberC]
  (repeat' split)<;>omega
theorem f50(p q:Pos)(hp:Small p)(hq:Small q):Wf T 50 [dP p,dP q] [] (Is (.i (cmpP p q))):=by
 refine Yg F50 ?_
 simp[F50]
 refine Yt (f93 _ _ hp.1 hq.1) ?_
 simp
 refine Yt (f93 _ _ hp.2.1 hq.2.1) ?_
 simp
 refine Yt (f93 _ _ hp.2.2 hq.2.2) ?_
 simp
 refine Yt (f94 _ _) ?_
 simp
 refine Yt (f94 _ _) ?_
 simp
 (refine XLoop.un ?_;(repeat' first|(refine XLoopN.u ?_;simp;done)|(refine XLoopN.u ?_;simp)|((with_reducible first|refine X2.d ?_ ?_|refine X2.a ?_ ?_|refine X2.o ?_ ?_|refine X2.b ?_ ?_)<;>intro h<;>(try simp[h]))|fail))
 all_goals simp_all [cmpP,firstNZ]
theorem f51(n:Int):Wf T 51 [.i n] [] (Is (.agg [.i (manK n),.i (manS n)])):=by
 refine Yg F51 ?_
 simp[F51]
 refine Yc (f95 _ _ _) ?_
 simp
 (with_reducible repeat' first|refine Xk ?_<;>try simp|refine Xs ?_ ?_<;>intro h<;>(try intro h')<;>(try simp[h])<;>(try omega)|refine Xg ?_|omega)
 ·rw[quoI_eq (by omega) (by omega) (by omega),remI_eq (by omega)]
  simp[manK,manS];omega
 ·simp[manK,manS];omega
theorem f84(n:Int):Wf T 84 [.i n] [] (Is (.tup [.i (manK n),.i (manS n)])):=by
 refine Yg F84 ?_
 simp[F84]
 (with_reducible repeat' first|refine Xk ?_<;>try simp|refine Xs ?_ ?_<;>intro h<;>(try intro h')<;>(try simp[h])<;>(try omega)|refine Xg ?_|omega)
 ·simp[manK,manS];omega
 ·simp[manK,manS];omega
 ·rw[quoI_eq (by omega) (by omega) (by omega),remI_eq (by omega)]
  simp[manK,manS];omega
theorem f251(g:Game)(hg:BoardOK g)(s d c:Int):Wf T 251 [g.board,.i s,.i d,.i c] [] (Is (.i (toB g s d c))):=by
 have hn:=hg.next
 have ht:=hg.turn
 refine Yg F251 ?_
 simp[F251]
 (with_reducible repeat' first|refine Xk ?_<;>try simp|refine Xs ?_ ?_<;>intro h<;>(try intro h')<;>(try simp[h])<;>(try omega)|refine Xg ?_|omega)
 all_goals first
  | (simp only[toB];rw[if_pos (by omega)])
  | skip
 ·rename_i h
  have:=hg.turns d (by omega) (by omega)
  have hr:=hg.row (gt g.next (gt g.turn d)) (gt_mem (by omega) (by omega))
  (with_reducible repeat' first|refine Xk ?_<;>try simp|refine Xs ?_ ?_<;>intro h<;>(try intro h')<;>(try simp[h])<;>(try omega)|refine Xg ?_|omega)
  simp only[toB];rw[if_neg (by omega)];simp
 ·rename_i h
  have hr:=hg.row (gt g.next d) (gt_mem (by omega) (by omega))
  (with_reducible repeat' first|refine Xk ?_<;>try simp|refine Xs ?_ ?_<;>intro h<;>(try intro h')<;>(try simp[h])<;>(try omega)|refine Xg ?_|omega)
  simp only[toB];rw[if_neg (by omega)];simp[h]
theorem f240(g:Game)(hg:BoardOK g)(s d c:Int):Wf T 240 [g.board,.i s,.i d,.i c] [] (Is (.i (toB g s d c))):=by
 have hn:=hg.next
 have ht:=hg.turn
 refine Yg F240 ?_
 simp[F240]
 (with_reducible repeat' first|refine Xk ?_<;>try simp|refine Xs ?_ ?_<;>intro h<;>(try intro h')<;>(try simp[h])<;>(try omega)|refine Xg ?_|omega)
 all_goals first
  | (simp only[toB];rw[if_pos (by omega)])
  | skip
 ·rename_i h
  have:=hg.turns d (by omega) (by omega)
  have hr:=hg.row (gt g.next (gt g.turn d)) (gt_mem (by omega) (by omega))
  (with_reducible repeat' first|refine Xk ?_<;>try simp|refine Xs ?_ ?_<;>intro h<;>(try intro h')<;>(try simp[h])<;>(try omega)|refine Xg ?_|omega)
  simp only[toB];rw[if_neg (by omega)];simp
 ·rename_i h
  have hr:=hg.row (gt g.next d) (gt_mem (by omega) (by omega))
  (with_reducible repeat' first|refine Xk ?_<;>try simp|refine Xs ?_ ?_<;>intro h<;>(try intro h')<;>(try simp[h])<;>(try omega)|refine Xg ?_|omega)
  simp only[toB];rw[if_neg (by omega)];simp[h]
theorem f110(p q:Pos)(hp:Small p)(hq:Small q):Wf T 110 [dP p,dP q] [] (Is (.b (decide (p=q)))):=by
 refine Yg F110 ?_
 simp[F110]
 refine Yc (f50 p q hp hq) ?_
 simp
 rw[cmpP_zero]
end Go.Proofs.YtnaefnajkaohgaaGreatDoor
