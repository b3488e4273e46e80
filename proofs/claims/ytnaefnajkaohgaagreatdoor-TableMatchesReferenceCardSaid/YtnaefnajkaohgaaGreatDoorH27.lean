/- 27 -/
import Derived.Test.YtnaefnajkaohgaaGreatDoorH26
set_option linter.all false
namespace Go.Proofs.YtnaefnajkaohgaaGreatDoor
open Go Go.AL Classical
set_option maxRecDepth 10000
set_option maxHeartbeats 8000000
def VL(g:eH)(hg:fe g)(l:List Pos)(hc:jo g l)(h0:0<l.length)(m:List Int)(n:Int)(hn:n<1):Wf T 42 [dG g,.agg [dI m],e7 l,.i n] [] (Is (.tup [.eG,.i 0,.i 150])):=by
 have h9:=hc.len
 refine Yg yS ?_
 simp[yS]
 refine fg.inl oR rfl rfl (by simp[oR]) rfl ?_
 simp[oR]
 refine Yc (f52 g hg l hc h0) ?_
 simp
 (with_reducible repeat' first|refine Xk ?_<;>try simp|refine Xs ?_ ?_<;>intro h<;>(try intro h')<;>(try simp[h])<;>try omega|refine Xg ?_|omega)
@[simp] theorem ajT(t:TypeId)(l:List Pos)(n:Nat):po t (e7 l) n=some (.ptr n 0 0,.new (.row t 0 [e7 l])):=by unfold po;rw[Uk]
@[simp] theorem ajS(t:TypeId)(l:List eO)(n:Nat):po t (fh l) n=some (.ptr n 0 0,.new (.row t 0 [fh l])):=by unfold po;rw[Uj]
def mU(part:List Int)(k:Int):Int:=if k=0 then -1 else gt part (k-1)
@[simp] theorem yi(part:List Int):mU part 0 = -1:=rfl
theorem Ag{part:List Int}{k:Int}(h:0≤k):mU part (k+1)=gt part k:=by
 unfold mU;rw[if_neg (by omega),Int.add_sub_cancel]
def rm(n:Nat)(part:List Int):Prop:=∀ k:Int,0≤k→k<part.length→mU part k<gt part k∧gt part k<n
def O7(g:eH)(hg:fe g)(l:List Pos)(hc:jo g l)(h0:0<l.length)(v:List eO)(hv:v.length=l.length)(part:List Int)(zL:part.length<2 ^ 40)(n:Int)(KT:n<1∨¬ rm l.length part):Wf T 45 [dG g,e7 l,fh v,dI part,.i n] [] (Is (.tup [.eG,.i 0,.i 150])):=by
 have h9:=hc.len
 refine Yg yT ?_
 simp[yT]
 refine fg.inl oR rfl rfl (by simp[oR]) rfl ?_
 simp[oR]
 refine Yc (f52 g hg l hc h0) ?_
 simp
 (with_reducible repeat' first|refine Xk ?_<;>try simp|refine Xs ?_ ?_<;>intro h<;>(try intro h')<;>(try simp[h])<;>try omega|refine Xg ?_|omega)
 all_goals
  refine eN.e (0:Int) (fun y=>[(1,e7 l),(2,fh v),(3,dI part),(4,.i n),(13,.ptr 1 0 0),(15,.i (mU part y)),(34,dI part),(35,.i part.length),(36,.i y)]) (fun y=>[.row 41 0 g.cells,.row 148 0 [.eF 2 0 2 0 l.length,.eF 3 0 1 0 l.length,.i g.size,.sl 1 (g.next.map fI),dI g.gU,.sl 3 (g.kinds.map Kind.cells),.i g.ff,.b g.lg,dN 4 Clause.cells g.clauses,.i g.blocked,.i g.n9,e7 l,.sl 1 ((eS g l).map fN)],.row 58 0 (cl fS (List.replicate l.length (0,0))),.row 4 0 (cl fB (List.replicate l.length false))]) (fun y=>0≤y∧y≤part.length∧∀ k:Int,0≤k→k<y→mU part k<gt part k∧gt part k<l.length) (fun y=>(part.length-y).toNat) ?_ ?_
  ·simp
   intro k k0 k1;omega
  rintro y ⟨y0,y1,y2⟩
  by_cases hy:y<part.length
  ·simp[hy]
   (with_reducible repeat' first|refine Xk ?_<;>try simp|refine Xs ?_ ?_<;>intro h<;>(try intro h')<;>(try simp[h])<;>try omega|refine Xg ?_|omega)
   rename_i h1 h2
   refine LJ.i (y+1) (by first|rfl|simp[Ag y0]) (by first|rfl|simp[Ag y0]) rfl rfl ?_
   refine eY (fun k k0 k1=>?_)
   by_cases e:k=y
   ·subst e;exact oO
   ·exact y2 k k0 (by omega)
  ·have eM:rm l.length part:=fun k k0 k1=>y2 k k0 (by omega)
   have hn:n<1:=KT.resolve_right fun h=>h eM
   simp[hy,hn]
