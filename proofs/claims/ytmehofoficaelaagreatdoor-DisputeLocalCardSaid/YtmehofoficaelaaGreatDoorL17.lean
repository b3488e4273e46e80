/- Part 17 of DisputeLocal. -/
import Derived.Test.YtmehofoficaelaaGreatDoorL16
set_option linter.all false
namespace Go.Proofs.YtmehofoficaelaaGreatDoor
open Go Go.AL Classical
set_option maxRecDepth 10000
set_option maxHeartbeats 1000000
def f69(o s:Int)(hs:0≤s∧s≤1):Wf T 131 [.i o,.i s] [] (Is (.i (if o=1 then s else if o=3 then 1-s else -1))):=by
 refine Yg F0 ?_
 simp[F0]
 (with_reducible repeat' first|refine Xk ?_<;>try simp|refine Xs ?_ ?_<;>intro h<;>(try intro h')<;>(try simp[h])<;>try omega|refine Xg ?_|omega)
 all_goals simp[*]
def f68(g:eY)(hg:gh g)(l:List Pos)(hl:oz g l)(side:Int)(iE:0≤side∧side≤1):Wf T 130 [dG g,gA l,.sl 1 ((fw g l).map fI),.i side] [] (Ey (fun r:List Bool=>.sl 1 (r.map fB)) fun r=>r.length=l.length):=by
 have hlen:=hl.len
 have vN:(fw g l).length=l.length:=by simp[fw]
 have xN:=fun(i:Int) (a:0≤i) (b:i<l.length)=>o5 hl a b
 have qB:∀ i:Int,0≤i→i<l.length→(gt (fw g l) i).length≤4000000000:=fun i a b=>by
  rw[(xN i a b).1,List.length_map]
  exact wi hg (hl.ok _ (ft a b))
 refine Yg FZ ?_
 simp[FZ]
 (with_reducible repeat' first|refine Xk ?_<;>try simp|refine Xs ?_ ?_<;>intro h<;>(try intro h')<;>(try simp[h])<;>try omega|refine Xg ?_|omega)
 refine fh.e ((List.replicate l.length false,true):List Bool×Bool) (fun y=>[(1,gA l),(2,.sl 1 ((fw g l).map fI)),(3,.i side),(4,.ptr 0 0 0),(9,.eX 1 0 1 0 l.length),(10,.b y.2)]) (fun y=>[.row 43 0 g.cells,.row 4 0 (cl fB y.1)]) (fun y=>y.1.length=l.length) (fun y=>2*q8 y.1+(if y.2 then 1 else 0)) ?_ ?_
 ·simp
 rintro⟨o0,ch⟩ h0
 dsimp only at h0 ⊢
 cases ch
 ·simp[h0]
  exact Ey.i o0 rfl rfl h0
 simp
 refine fh.e ((0,o0,false):Int×List Bool×Bool) (fun y=>[(1,gA l),(2,.sl 1 ((fw g l).map fI)),(3,.i side),(4,.ptr 0 0 0),(9,.eX 1 0 1 0 l.length),(10,.b y.2.2),(11,.i y.1)]) (fun y=>[.row 43 0 g.cells,.row 4 0 (cl fB y.2.1)]) (fun y=>0≤y.1∧y.1≤l.length∧y.2.1.length=l.length∧q8 y.2.1≤q8 o0∧(y.2.2=true→q8 y.2.1<q8 o0)) (fun y=>l.length-y.1.toNat) ?_ ?_
 ·simpa using h0
 rintro⟨i,w,ch⟩ ⟨i0,i1,i2,i3,i4⟩
 dsimp only at i0 i1 i2 i3 i4 ⊢
 by_cases hi:i<l.length
 ·have hp:=hl.ok _ (ft i0 hi)
  simp[hi]
  (with_reducible repeat' first|refine Xk ?_<;>try simp|refine Xs ?_ ?_<;>intro h<;>(try intro h')<;>(try simp[h])<;>try omega|refine Xg ?_|omega)
  ·refine LJ.e (i+1,w,ch) ?_
   dsimp only
   exact fQ ⟨i2,i3,i4⟩
  ·refine Yt (f112 g hg _ hp) ?_
   simp
   have qz:=h
   refine fh.e ((0,false,true):Int×Bool×Bool) (fun y=>[(1,gA l),(2,.sl 1 ((fw g l).map fI)),(3,.i side),(4,.ptr 0 0 0),(9,.eX 1 0 1 0 l.length),(10,.b ch),(11,.i i),(12,.ptr 2 0 0),(13,.b y.2.1),(14,.b y.2.2),(15,.i y.1)]) (fun y=>[.row 43 0 g.cells,.row 4 0 (cl fB w),.row 193 0 [.i (stat g (gt l i)).1,.b (stat g (gt l i)).2]]) (fun y=>0≤y.1∧y.1≤(gt (fw g l) i).length) (fun y=>(gt (fw g l) i).length-y.1.toNat) ?_ ?_
   ·simp
   rintro⟨k,sm,al⟩ ⟨k0,k1⟩
   dsimp only at k0 k1 ⊢
   by_cases hk:k<(gt (fw g l) i).length
   ·have hx:=(xN i i0 hi).2 _ (ft k0 hk)
    have hb:=qB i i0 hi
    generalize YO:gt (gt (fw g l) i) k=x at *
    cases sm<;>cases al<;>simp[hi,hk,YO]<;>(with_reducible repeat' first|refine Xk ?_<;>try simp|refine Xs ?_ ?_<;>intro h<;>(try intro h')<;>(try simp[h])<;>try omega|refine Xg ?_|omega)
    ·refine LJ.e (k+1,gt w x,false) ?_
     dsimp only;omega
    ·refine LJ.e (k+1,gt w x,gt w x) ?_
     dsimp only;omega
    ·refine LJ.e (k+1,true,false) ?_
     dsimp only;omega
    ·refine LJ.e (k+1,true,gt w x) ?_
     dsimp only;omega
   ·have iP:∀ v,(pt w i v).length=w.length:=fun v=>il i0 (by omega)
    have qD:∀ v,gt (pt w i v) i=v:=fun v=>zp i0 (by omega)
    have fin:∀ b:Bool,0≤i+1∧i+1≤l.length∧(pt w i b).length=l.length∧q8 (pt w i b)≤q8 o0∧((ch||b)=true→q8 (pt w i b)<q8 o0):=fun b=>by
     have h1:=Wy i0 (by omega) qz b
     refine⟨by omega,by omega,by rw[iP];exact i2,by omega,fun h2=>?_⟩
     cases b
     ·simp at h2 h1;have:=i4 h2;omega
     ·simp at h1;omega
    cases ch
    ·simp[hi,hk]
     have fin:∀ b:Bool,_:=fin
     (with_reducible repeat' first|refine Xk ?_<;>try simp[iP,qD]|refine Xs ?_ ?_<;>intro h<;>(try intro h')<;>(try simp[h,iP,qD])<;>try omega|refine Xg ?_|omega)
     ·refine Yt (f69 (stat g (gt l i)).1 _ hp.side) ?_
      simp[iP,qD]
      (with_reducible repeat' first|refine Xk ?_<;>try simp[iP,qD]|refine Xs ?_ ?_<;>intro h<;>(try intro h')<;>(try simp[h,iP,qD])<;>try omega|refine Xg ?_|omega)
      refine LJ.e (i+1,pt w i (!decide ((if (stat g (gt l i)).1=1 then(gt l i).side else if (stat g (gt l i)).1=3 then 1-(gt l i).side else -1)=1-side)),false || !decide ((if (stat g (gt l i)).1=1 then(gt l i).side else if (stat g (gt l i)).1=3 then 1-(gt l i).side else -1)=1-side)) ?_
      exact ot (fin _)
     ·refine LJ.e (i+1,pt w i sm,false||sm) ?_
      exact ot (fin _)
     ·refine LJ.e (i+1,pt w i al,false||al) ?_
      exact ot (fin _)
    ·simp[hi,hk]
     have fin:∀ b:Bool,_:=fin
     (with_reducible repeat' first|refine Xk ?_<;>try simp[iP,qD]|refine Xs ?_ ?_<;>intro h<;>(try intro h')<;>(try simp[h,iP,qD])<;>try omega|refine Xg ?_|omega)
     ·refine Yt (f69 (stat g (gt l i)).1 _ hp.side) ?_
      simp[iP,qD]
      (with_reducible repeat' first|refine Xk ?_<;>try simp[iP,qD]|refine Xs ?_ ?_<;>intro h<;>(try intro h')<;>(try simp[h,iP,qD])<;>try omega|refine Xg ?_|omega)
      refine LJ.e (i+1,pt w i (!decide ((if (stat g (gt l i)).1=1 then(gt l i).side else if (stat g (gt l i)).1=3 then 1-(gt l i).side else -1)=1-side)),true || !decide ((if (stat g (gt l i)).1=1 then(gt l i).side else if (stat g (gt l i)).1=3 then 1-(gt l i).side else -1)=1-side)) ?_
      exact ot (fin _)
     ·refine LJ.e (i+1,pt w i sm,true||sm) ?_
      exact ot (fin _)
     ·refine LJ.e (i+1,pt w i al,true||al) ?_
      exact ot (fin _)
 ·simp[hi]
  refine LJ.e (w,ch) ?_
  dsimp only
  refine⟨?_,i2⟩
  cases ch
  ·simp;omega
  ·have:=i4 rfl
   simp;omega
def f39(g:eY)(hg:gh g)(l:List Pos)(hl:oz g l)(v:List fe)(hv:v.length=l.length):Wf T 72 [dG g,gA l,.sl 1 ((fw g l).map fI),gS v] [] (Ey dI fun _=>True):=by
 have hlen:=hl.len
 refine Yg FL ?_
 simp[FL]
 refine fh.e ((0,[]):Int×List Int) (fun y=>[(1,gA l),(2,.sl 1 ((fw g l).map fI)),(3,gS v),(4,.ptr 0 0 0),(9,.eX 1 y.2.length 1 0 y.2.length),(10,.i y.1)]) (fun y=>[.row 43 0 g.cells,.row 3 y.2.length (cl f1 y.2)]) (fun y=>0≤y.1∧y.1≤v.length∧y.2.length=y.1.toNat) (fun y=>v.length-y.1.toNat) ?_ ?_
 ·simp
 rintro⟨i,w⟩ ⟨i0,i1,i2⟩
 dsimp only at i0 i1 i2 ⊢
 simp
 (with_reducible repeat' first|refine Xk ?_<;>try simp|refine Xs ?_ ?_<;>intro h<;>(try intro h')<;>(try simp[h])<;>try omega|refine Xg ?_|omega)
 ·refine LJ.e (i+1,w ++ [(gt v i).1]) ?_
  exact fQ (by simp;omega)
 ·exact Ey.i w rfl rfl trivial
 ·have c:=f68 g hg l hl 0 (by omega)
  simp only[dG,eY.cells]at c
  rw[h]at c
  refine fG.q rfl rfl c (by simp) (fun r=>by simp[zh]) ?_
  intro r hr
  simp
  refine fh.e ((0,w):Int×List Int) (fun y=>[(1,gA l),(3,gS v),(9,.eX 1 w.length 1 0 w.length),(11,.i 1),(12,.sl 1 (r.map fB)),(13,.i y.1)]) (fun y=>[.row 43 0 g.cells,.row 3 w.length (cl f1 y.2)]) (fun y=>0≤y.1∧y.1≤l.length∧y.2.length=w.length) (fun y=>l.length-y.1.toNat) ?_ ?_
  ·simp
  rintro⟨j,u⟩ ⟨j0,j1,j2⟩
  dsimp only at j0 j1 j2 ⊢
  by_cases hj:j<l.length
  ·have iP:∀ x:Int,(pt u j x).length=u.length:=fun x=>il j0 (by omega)
   have xS:∀ x y:Int,pt (pt u j x) j y=pt u j y:=fun x y=>SC j0 (by omega)
   have hp:=hl.ok _ (ft j0 hj)
   simp[hj]
   (with_reducible repeat' first|refine Xk ?_<;>try simp|refine Xs ?_ ?_<;>intro h<;>(try intro h')<;>(try simp[h])<;>try omega|refine Xg ?_|omega)
   refine Yt (f69 (gt v j).1 _ hp.side) ?_
   simp[iP,xS]
   (with_reducible repeat' first|refine Xk ?_<;>try simp[iP,xS]|refine Xs ?_ ?_<;>intro h<;>(try intro h')<;>(try simp[h,iP,xS])<;>try omega|refine Xg ?_|omega)
   all_goals first
    | (refine LJ.i (j+1,u) rfl rfl rfl rfl (fQ (by first|exact j2|(dsimp only;rw[iP];exact j2)));done)
    | (refine LJ.i (j+1,pt u j 2) rfl rfl rfl rfl (fQ (by first|exact j2|(dsimp only;rw[iP];exact j2)));done)
    | (refine LJ.i (j+1,pt u j 1) rfl rfl rfl rfl (fQ (by first|exact j2|(dsimp only;rw[iP];exact j2)));done)
    | (refine LJ.i (j+1,pt u j 3) rfl rfl rfl rfl (fQ (by first|exact j2|(dsimp only;rw[iP];exact j2)));done)
  ·simp[hj]
   exact Ey.i u (by simp[j2]) rfl trivial
 ·have c:=f68 g hg l hl 1 (by omega)
  simp only[dG,eY.cells]at c
  refine fG.q rfl rfl c (by simp) (fun r=>by simp[zh]) ?_
  intro r hr
  simp
  refine fh.e ((0,w):Int×List Int) (fun y=>[(1,gA l),(3,gS v),(9,.eX 1 w.length 1 0 w.length),(11,.i 0),(12,.sl 1 (r.map fB)),(13,.i y.1)]) (fun y=>[.row 43 0 g.cells,.row 3 w.length (cl f1 y.2)]) (fun y=>0≤y.1∧y.1≤l.length∧y.2.length=w.length) (fun y=>l.length-y.1.toNat) ?_ ?_
  ·simp
  rintro⟨j,u⟩ ⟨j0,j1,j2⟩
  dsimp only at j0 j1 j2 ⊢
  by_cases hj:j<l.length
  ·have iP:∀ x:Int,(pt u j x).length=u.length:=fun x=>il j0 (by omega)
   have xS:∀ x y:Int,pt (pt u j x) j y=pt u j y:=fun x y=>SC j0 (by omega)
   have hp:=hl.ok _ (ft j0 hj)
   simp[hj]
   (with_reducible repeat' first|refine Xk ?_<;>try simp|refine Xs ?_ ?_<;>intro h<;>(try intro h')<;>(try simp[h])<;>try omega|refine Xg ?_|omega)
   refine Yt (f69 (gt v j).1 _ hp.side) ?_
   simp[iP,xS]
   (with_reducible repeat' first|refine Xk ?_<;>try simp[iP,xS]|refine Xs ?_ ?_<;>intro h<;>(try intro h')<;>(try simp[h,iP,xS])<;>try omega|refine Xg ?_|omega)
   all_goals first
    | (refine LJ.i (j+1,u) rfl rfl rfl rfl (fQ (by first|exact j2|(dsimp only;rw[iP];exact j2)));done)
    | (refine LJ.i (j+1,pt u j 2) rfl rfl rfl rfl (fQ (by first|exact j2|(dsimp only;rw[iP];exact j2)));done)
    | (refine LJ.i (j+1,pt u j 1) rfl rfl rfl rfl (fQ (by first|exact j2|(dsimp only;rw[iP];exact j2)));done)
    | (refine LJ.i (j+1,pt u j 3) rfl rfl rfl rfl (fQ (by first|exact j2|(dsimp only;rw[iP];exact j2)));done)
  ·simp[hj]
   exact Ey.i u (by simp[j2]) rfl trivial
end Go.Proofs.YtmehofoficaelaaGreatDoor
namespace Go.AL
open Go
section
variable{P:D→Prop}{a b:Int}{k:IntKind}{t:Tag P}
@[simp low] theorem aok:oA (jl .rem k a b) P t=(b≠0∧P (.val (.int k (fq a b)))):=by
 cases t
 simp only[jl]
 by_cases h:b=0<;>simp[h,fq]
def jq(k:IntKind)(a b:Int):Int:=k.wrap (a.tdiv b)
@[simp low] theorem aoi:oA (jl .quo k a b) P t=(b≠0∧P (.val (.int k (jq k a b)))):=by
 cases t
 simp only[jl]
 by_cases h:b=0<;>simp[h,jq]
end
@[simp] theorem alP{ρ:Nat→Option Nat}{H:U}{k:Nat}{t:TypeId}{a b:Int}:lQ ρ H (k+1) 1 0 2 (some (t,[.i a,.i b]))=dI [a,b]:=by
 have h:=sY (f:=f1) (ρ:=ρ) (H:=H) (k:=k) (t:=t) (l:=[a,b]) (n:=2) rfl
 rw[nI]at h
 simp only[List.map_cons,List.map_nil,zl,aU,dA,aA,cL,bO]at h
 rw[h];unfold dI;simp only[List.map_cons,List.map_nil,zl]
end Go.AL
namespace Go.AL
open Go
@[irreducible] def fU(n:Int):List D:=[.val (.int .u8 n)]
@[simp] theorem zn(n:Int):fU n = [.val (.int .u8 n)]:=by unfold fU;rfl
instance:Fl fU 1:=⟨fun _=>by simp,fun _=>by simp[fE]⟩
def dU(l:List Int):D:=.sl 1 (l.map fU)
def w8(l:List Int):dU l = .sl 1 (l.map fU):=rfl
@[simp] theorem ak2(l:List Int):closed (dU l)=true:=by unfold dU;exact zh l
@[simp] theorem ane(l:List Int)(H:U):oj .slice (dU l) H=some (.i l.length):=by simp[dU]
@[simp] theorem aoc{l:List Int}{n:Int}{k:IntKind}{P:D→Prop}:oA (mz 1 (dU l) (.val (.int k n))) P .mk=((0≤n∧n<l.length)∧P (.fj [.val (.int .u8 (gt l n))])):=by unfold dU;rw[uK,zn]
@[simp] theorem aqS(n:Nat)(l:List Int):iH n (dU l) = []:=rfl
@[simp] theorem akj(l:List Int):cellsOf (dU l)=some [dU l]:=rfl
@[simp] theorem aoM(l:List Int):one (dU l)=true:=rfl
structure sJ(JP kinds fH:Int)(l:List fe):Prop where
 steps:∀ x∈l,((x.1=1∨x.1=2∨x.1=7)∧0≤x.2∧x.2<JP)∨(3≤x.1∧x.1≤6∧x.2=0)∨(x.1=8∧0≤x.2∧x.2<kinds)∨((x.1=9∨x.1=10)∧0≤x.2∧x.2<fH)
 len:l.length≤8
 qU:nb l 6≤2
 push:nb l 7≤1
 Gl:nb l 8≤1
@[simp] theorem ajm(a b:Int):jl .add .u8 a b=some (.val (.int .u8 (IntKind.u8.wrap (a+b)))):=rfl
@[simp] theorem ajx(a b:Int):jl .sub .u8 a b=some (.val (.int .u8 (IntKind.u8.wrap (a-b)))):=rfl
theorem TW(n:Int):0≤IntKind.u8.wrap n∧IntKind.u8.wrap n<256:=by
 simp only[IntKind.wrap,IntKind.bits,IntKind.signed]
 simp
 omega
def C2(a b:Int):0≤jq .u8 a b∧jq .u8 a b<256:=TW _
def Vn{ρ:Nat→Option Nat}{H:U}{k n:Nat}{t:TypeId}{cs:List D}(l:List Int)(h:cs=l.map fun n=>D.val (.int .u8 n))(hn:n=l.length):lQ ρ H (k+1) 1 0 n (some (t,cs))=dU l:=by
 subst hn
 have e:cs=cl fU l:=by
  rw[h,nI]
  clear h
  induction l with
  | nil=>rfl
  | cons a r ih=>simp[← ih]
 rw[e,sY rfl]
 rfl
def aas{sz:Nat}{es:List (List D)}{k:IntKind}{n:Int}{P:D→Prop}:oA (mz sz (.sl sz es) (.val (.int k n))) P .mk=((0≤n∧n<es.length)∧P (.fj (es.getD n.toNat []))):=by
 simp only[mz,true_and,yh,wj]
def oA.i{α:Type}{x:Option α}{P:α→Prop}{t:Tag P}{a:α}(h1:x=some a)(h2:P a):oA x P t:=⟨a,h1,h2⟩
end Go.AL
namespace Go.Proofs.YtmehofoficaelaaGreatDoor
open Go Go.AL Classical
set_option maxRecDepth 10000
set_option maxHeartbeats 4000000
def f192(l:List Int)(k:Int)(hk:0≤k):Wf T 278 [dU l,.i k] [] (Is (.i (if k<l.length then IntKind.i64.wrap (gt l k)else 0))):=by
 refine Yg E4 ?_
 simp[E4]
 (with_reducible repeat' first|refine Xk ?_<;>try simp|refine Xs ?_ ?_<;>intro h<;>(try intro h')<;>(try simp[h])<;>try omega|refine Xg ?_|omega)
 all_goals simp[*]
def uG(d o b k r:Int):List (List fe):=[[(1,d),(3,0)],[(1,d),(4,0),(6,0)],[(2,d)],[(2,d),(4,0),(6,0)],[(1,d),(4,0),(6,0),(1,d)],[(1,d),(1,o)],[(1,d),(7,d)],[(1,d),(3,0),(8,k)],[(9,r),(1,d),(1,d),(10,r)],[(1,d),(5,0),(1,d),(3,0)],[(10,r),(1,d)],[(1,d),(4,0),(6,0),(1,b)],[(1,d),(4,0),(6,0),(1,o),(4,0),(6,0)],[(2,d),(5,0),(1,d)],[(1,d),(4,0),(6,0),(8,k)],[(1,d),(7,d),(1,o)]]
def ZX(d o b k r:Int)(hd:0≤d∧d<8)(ho:0≤o∧o<8)(hb:0≤b∧b<8)(hk:0≤k∧k<6)(hr:0≤r∧r<4):∀ p∈uG d o b k r,sJ 8 6 4 p:=by
 have hp:∀ p:List fe,(∀ x∈p,((x.1=1∨x.1=2∨x.1=7)∧0≤x.2∧x.2<8)∨(3≤x.1∧x.1≤6∧x.2=0)∨(x.1=8∧0≤x.2∧x.2<6)∨((x.1=9∨x.1=10)∧0≤x.2∧x.2<4))→p.length≤8∧nb p 6≤2∧nb p 7≤1∧nb p 8≤1→sJ 8 6 4 p:=fun p a b=>⟨a,b.1,b.2.1,b.2.2.1,b.2.2.2⟩
 intro p h
 unfold uG at h
 simp only[av,cZ,or_false]at h
 rcases h with rfl|rfl|rfl|rfl|rfl|rfl|rfl|rfl|rfl|rfl|rfl|rfl|rfl|rfl|rfl|rfl
 all_goals
  refine hp _ ?_ ?_
  ·simp;omega
  ·simp[nb]
def ZV(d o b k r m:Int)(h0:0≤m)(h1:m<16):([[D.sl 2 [[D.i 1,D.i d],[D.i 3,D.i 0]]],[D.sl 2 [[D.i 1,D.i d],[D.i 4,D.i 0],[D.i 6,D.i 0]]],[D.sl 2 [[D.i 2,D.i d]]],[D.sl 2 [[D.i 2,D.i d],[D.i 4,D.i 0],[D.i 6,D.i 0]]],[D.sl 2 [[D.i 1,D.i d],[D.i 4,D.i 0],[D.i 6,D.i 0],[D.i 1,D.i d]]],[D.sl 2 [[D.i 1,D.i d],[D.i 1,D.i o]]],[D.sl 2 [[D.i 1,D.i d],[D.i 7,D.i d]]],[D.sl 2 [[D.i 1,D.i d],[D.i 3,D.i 0],[D.i 8,D.i k]]],[D.sl 2 [[D.i 9,D.i r],[D.i 1,D.i d],[D.i 1,D.i d],[D.i 10,D.i r]]],[D.sl 2 [[D.i 1,D.i d],[D.i 5,D.i 0],[D.i 1,D.i d],[D.i 3,D.i 0]]],[D.sl 2 [[D.i 10,D.i r],[D.i 1,D.i d]]],[D.sl 2 [[D.i 1,D.i d],[D.i 4,D.i 0],[D.i 6,D.i 0],[D.i 1,D.i b]]],[D.sl 2 [[D.i 1,D.i d],[D.i 4,D.i 0],[D.i 6,D.i 0],[D.i 1,D.i o],[D.i 4,D.i 0],[D.i 6,D.i 0]]],[D.sl 2 [[D.i 2,D.i d],[D.i 5,D.i 0],[D.i 1,D.i d]]],[D.sl 2 [[D.i 1,D.i d],[D.i 4,D.i 0],[D.i 6,D.i 0],[D.i 8,D.i k]]],[D.sl 2 [[D.i 1,D.i d],[D.i 7,D.i d],[D.i 1,D.i o]]]].getD m.toNat [])[0]? = some (gS (gt (uG d o b k r) m)):=by
 rcases(show m=0∨m=1∨m=2∨m=3∨m=4∨m=5∨m=6∨m=7∨m=8∨m=9∨m=10∨m=11∨m=12∨m=13∨m=14∨m=15 by omega)with rfl|rfl|rfl|rfl|rfl|rfl|rfl|rfl|rfl|rfl|rfl|rfl|rfl|rfl|rfl|rfl
 all_goals simp[uG,gt,gS]
def f152(l:List Int)(hl:l.length=5)(h:∀ n∈l,0≤n∧n<256):Wf T 228 [dU l] [] (Ey gS (sJ 8 6 4)):=by
 have e:∀ k:Int,0≤k→k<5→(if k<l.length then IntKind.i64.wrap (gt l k)else 0)=gt l k:=fun k a b=>by
  rw[if_pos (by omega)]
  have:=h _ (ft (l:=l) a (by omega))
  exact oO jG
 have hr:∀ k:Int,0≤k→k<5→0≤gt l k:=fun k a b=>(h _ (ft (l:=l) a (by omega))).1
 refine Yz AN (iu 121 [0,1,2,3,4,5,6,7,8,9,10,11,12,13,14,15,16,17,18,19,20,21,22,23,24,25,26,27,28] AN.body) ?_
 simp[AN,iu,jJ,mj,mn,mG,ln]
 refine Yc (f192 l 1 (by omega)) ?_
 simp[e 1 (by omega) (by omega)]
 refine Yc (f192 l 2 (by omega)) ?_
 simp[e 2 (by omega) (by omega)]
 refine Yc (f192 l 3 (by omega)) ?_
 simp[e 3 (by omega) (by omega)]
 refine Yc (f192 l 4 (by omega)) ?_
 simp[e 4 (by omega) (by omega),lQ,chunks]
 have r1:=jT (a:=gt l 1) (b:=8) (hr 1 (by omega) (by omega))
 have r2:=jT (a:=gt l 2) (b:=8) (hr 2 (by omega) (by omega))
 have r3:=jT (a:=gt l 3) (b:=6) (hr 3 (by omega) (by omega))
 have r4:=jT (a:=gt l 4) (b:=4) (hr 4 (by omega) (by omega))
 have r0:=jT (a:=gt l 0) (b:=16) (hr 0 (by omega) (by omega))
 have r5:=jT (a:=fq (gt l 1) 8+4) (b:=8) (by omega)
 have Ck:IntKind.i64.wrap (gt l 0)=gt l 0:=by
  have:=e 0 (by omega) (by omega)
  rwa [if_pos (by omega)]at this
 (with_reducible repeat' first|refine Xk ?_<;>try simp|refine Xs ?_ ?_<;>intro h<;>(try intro h')<;>(try simp[h])<;>try omega|refine Xg ?_|omega)
 refine Yc (f192 l 0 (by omega)) ?_
 simp[hl,Ck,aas,lQ,chunks]
 (with_reducible repeat' first|refine Xk ?_<;>try simp|refine Xs ?_ ?_<;>intro h<;>(try intro h')<;>(try simp[h])<;>try omega|refine Xg ?_|omega)
 have X4:=ZX (fq (gt l 1) 8) (fq (gt l 2) 8) (fq (fq (gt l 1) 8+4) 8) (fq (gt l 3) 6) (fq (gt l 4) 4) (by omega) (by omega) (by omega) (by omega) (by omega)
 have hlen:(uG (fq (gt l 1) 8) (fq (gt l 2) 8) (fq (fq (gt l 1) 8+4) 8) (fq (gt l 3) 6) (fq (gt l 4) 4)).length=16:=rfl
 have hg:∀ m:Int,0≤m→m<16→gt (uG (fq (gt l 1) 8) (fq (gt l 2) 8) (fq (fq (gt l 1) 8+4) 8) (fq (gt l 3) 6) (fq (gt l 4) 4)) m∈uG (fq (gt l 1) 8) (fq (gt l 2) 8) (fq (fq (gt l 1) 8+4) 8) (fq (gt l 3) 6) (fq (gt l 4) 4):=fun m a b=>ft a (by omega)
 refine oA.i (a:=gS (gt (uG (fq (gt l 1) 8) (fq (gt l 2) 8) (fq (fq (gt l 1) 8+4) 8) (fq (gt l 3) 6) (fq (gt l 4) 4)) (fq (gt l 0) 16))) ?_ ?_
 ·exact ZV _ _ _ _ _ _ (by omega) (by omega)
 ·simp
  exact Ey.i (gt (uG (fq (gt l 1) 8) (fq (gt l 2) 8) (fq (fq (gt l 1) 8+4) 8) (fq (gt l 3) 6) (fq (gt l 4) 4)) (fq (gt l 0) 16)) rfl rfl (X4 _ (hg _ (by omega) (by omega)))
set_option maxHeartbeats 1000000
def Bk(l:List fe)(x:fe)(op:Int):nb (l ++ [x]) op=nb l op+(if x.1=op then 1 else 0):=by
 unfold nb
 rw[cy]
 simp[cj]
 split<;>rfl
def pT(JP kinds fH:Int)(x:fe):Prop:=((x.1=1∨x.1=2∨x.1=7)∧0≤x.2∧x.2<JP)∨(3≤x.1∧x.1≤6∧x.2=0)∨(x.1=8∧0≤x.2∧x.2<kinds)∨((x.1=9∨x.1=10)∧0≤x.2∧x.2<fH)
structure wJ(p:List fe)(kinds fH:Int)(i:Int)(out:List fe):Prop where
 i0:0≤i∧i≤p.length
 steps:∀ x∈out,pT 8 kinds fH x
 JG:∀ op,nb out op≤nb (p.take i.toNat) op
 len:out.length≤i.toNat
def wJ.add{p:List fe}{kinds fH i:Int}{out:List fe}(h:wJ p kinds fH i out)(hi:i<p.length){x:fe}(hx:pT 8 kinds fH x)(he:x.1=(gt p i).1):wJ p kinds fH (i+1) (out ++ [x]):=by
 have h0:=h.i0
 refine⟨by omega,fun y hy=>?_,fun op=>?_,by have:=h.len;simp;omega⟩
 ·rcases List.mem_append.1 hy with hy|hy
  ·exact h.steps y hy
  ·rw[List.mem_singleton]at hy;subst hy;exact hx
 ·rw[iD h0.1 hi,Bk,Bk,he]
  have:=h.JG op
  omega
def wJ.skip{p:List fe}{kinds fH i:Int}{out:List fe}(h:wJ p kinds fH i out)(hi:i<p.length):wJ p kinds fH (i+1) out:=by
 have h0:=h.i0
 refine⟨by omega,h.steps,fun op=>?_,by have:=h.len;omega⟩
 rw[iD h0.1 hi,Bk]
 have:=h.JG op
 split<;>omega
def f151(p:List fe)(kinds fH:Int)(hp:sJ 8 6 4 p)(hk:1≤kinds∧kinds≤6)(hr:0≤fH∧fH≤4):Wf T 227 [gS p,.i 8,.i kinds,.i fH] [] (Ey gS fun r=>sJ 8 kinds fH r∧1≤r.length):=by
 have hl:=hp.len
 refine Yg EL ?_
 simp[EL]
 refine fh.e ((0,[]):Int×List fe) (fun y=>[(0,gS p),(1,.i 8),(2,.i kinds),(3,.i fH),(9,.eX 0 y.2.length 2 0 y.2.length),(10,.i y.1)]) (fun y=>[.row 173 y.2.length (cl fS y.2)]) (fun y=>wJ p kinds fH y.1 y.2) (fun y=>p.length-y.1.toNat) ?_ ?_
 ·exact⟨by simp,by simp,by simp,by simp⟩
 rintro⟨i,out⟩ hI
 have h0:=hI.i0
 have h5:=hI.len
 dsimp only at hI h0 h5 ⊢
 by_cases hi:i<p.length
 ·have hx:=hp.steps _ (ft h0.1 hi)
  have xw:=fun(x:fe)=>hI.add hi (x:=x)
  have tc:∀ b:Int,0<b→0≤(gt p i).2→0≤fq (gt p i).2 b∧fq (gt p i).2 b<b:=fun b h1 h2=>by
   rw[jT h2];exact⟨bW _ (by omega),bS _ h1⟩
  simp[hi]
  (with_reducible repeat' first|refine Xk ?_<;>try simp|refine Xs ?_ ?_<;>intro h<;>(try intro h')<;>(try simp[h])<;>try omega|refine Xg ?_|omega)
  ·refine LJ.e (i+1,out ++ [(1,fq (gt p i).2 8)]) ?_
   have h8:=tc 8 (by omega)
   have ko:=tc kinds (by omega)
   exact ot (xw _ (by unfold pT;dsimp only;omega) (by dsimp only;omega))
  ·refine LJ.e (i+1,out ++ [(2,fq (gt p i).2 8)]) ?_
   have h8:=tc 8 (by omega)
   have ko:=tc kinds (by omega)
   exact ot (xw _ (by unfold pT;dsimp only;omega) (by dsimp only;omega))
  ·refine LJ.e (i+1,out ++ [(7,fq (gt p i).2 8)]) ?_
   have h8:=tc 8 (by omega)
   have ko:=tc kinds (by omega)
   exact ot (xw _ (by unfold pT;dsimp only;omega) (by dsimp only;omega))
  ·refine LJ.e (i+1,out ++ [(8,fq (gt p i).2 kinds)]) ?_
   have h8:=tc 8 (by omega)
   have ko:=tc kinds (by omega)
   exact ot (xw _ (by unfold pT;dsimp only;omega) (by dsimp only;omega))
  ·refine LJ.i (i+1,out) (by first|rfl|simp[*]) (by first|rfl|simp[*]) rfl rfl ?_
   exact ot (hI.skip hi)
  ·have Ll:=tc fH (by omega)
   refine LJ.e (i+1,out ++ [((gt p i).1,fq (gt p i).2 fH)]) ?_
   exact ot (xw _ (by unfold pT;dsimp only;omega) (by dsimp only))
  ·refine LJ.i (i+1,out) (by first|rfl|simp[*]) (by first|rfl|simp[*]) rfl rfl ?_
   exact ot (hI.skip hi)
  ·have Ll:=tc fH (by omega)
   refine LJ.e (i+1,out ++ [((gt p i).1,fq (gt p i).2 fH)]) ?_
   exact ot (xw _ (by unfold pT;dsimp only;omega) (by dsimp only))
  ·refine LJ.e (i+1,out ++ [gt p i]) ?_
   exact ot (xw _ (by unfold pT;omega) rfl)
 ·simp[hi]
  have hc:=hI.JG
  rw[ky (by omega)]at hc
  (with_reducible repeat' first|refine Xk ?_<;>try simp|refine Xs ?_ ?_<;>intro h<;>(try intro h')<;>(try simp[h])<;>try omega|refine Xg ?_|omega)
  ·refine Ey.i [(3,0)] (by simp[gS]) rfl ⟨⟨by simp,by simp,by simp[nb],by simp[nb],by simp[nb]⟩,by simp⟩
  ·refine Ey.i out rfl rfl ⟨⟨hI.steps,by omega,eS (hc 6) hp.qU,eS (hc 7) hp.push,eS (hc 8) hp.Gl⟩,?_⟩
   exact ay.2 (by simpa using h)
def f105(n kinds fH:Int)(hn:0≤n∧n<256)(hk:1≤kinds∧kinds≤6)(hr:0≤fH∧fH≤4):Wf T 160 [.val (.int .u8 n),.i 8,.i kinds,.i fH] [] (Ey gS fun r=>sJ 8 kinds fH r∧1≤r.length):=by
 refine Yz AH (jJ 21 [0] AH.body) ?_
 simp[AH,iu,jJ,mj,mn,mG,ln]
 have hU:∀ ρ H,lQ ρ H 39 1 0 5 (some (5,[.val (.int .u8 n),.val (.int .u8 (jq .u8 n 16)),.val (.int .u8 (IntKind.u8.wrap (jq .u8 n 16+fq n 5))),.val (.int .u8 (jq .u8 n 3)),.val (.int .u8 n)]))=dU [n,jq .u8 n 16,IntKind.u8.wrap (jq .u8 n 16+fq n 5),jq .u8 n 3,n]:=fun ρ H=>Vn _ rfl rfl
 rw[hU]
 have h16:=C2 n 16
 have h3:=C2 n 3
 have hw:=TW (jq .u8 n 16+fq n 5)
 have hb:∀ m∈[n,jq .u8 n 16,IntKind.u8.wrap (jq .u8 n 16+fq n 5),jq .u8 n 3,n],0≤m∧m<256:=fun m hm=>by
  simp only[av,cZ,or_false]at hm
  omega
 refine Yq (f152 _ rfl hb) fun p hp=>?_
 simp
 refine Yq (f151 p kinds fH hp hk hr) fun q hq=>?_
 simp
 exact Ey.i q rfl rfl hq
def ya(n:Int)(nx:List (List Int))(tn:List Int):eY:={ (default:eY)with size:=n,next:=nx,iT:=tn }
def bD(n:Int)(nx:List (List Int))(tn:List Int):D:=.agg [.i n,.sl 1 (nx.map fI),dI tn]
def f150(n:Int)(nx:List (List Int))(tn:List Int)(hb:mY (ya n nx tn))(c:Int)(hc:0≤c∧c<n):Wf T 226 [bD n nx tn,.i c] [] (Ey (fun x:List (List Int)=>.tup [bD n x tn,.i 0]) fun x=>mY (ya n x tn)):=by
 have hn:1≤n∧n≤9:=hb.size
 have hx:nx.length=8:=hb.next
 have ht:tn.length=8:=hb.iT
 have gH:∀ l∈nx,(l.length:Int)=n∧∀ x∈l,-1≤x∧x<n:=hb.row
 refine Yz AM (jJ 63 [1008] AM.body) ?_
 simp[AM,iu,jJ,mj,mn,mG,ln,bD]
 (with_reducible repeat' first|refine Xk ?_<;>try simp|refine Xs ?_ ?_<;>intro h<;>(try intro h')<;>(try simp[h])<;>try omega|refine Xg ?_|omega)
 refine fh.e ((0,0,[]):Int×Nat×List (List Int)) (fun y=>[(1,.i c),(2,.ptr 0 0 0),(4,.ptr 1 0 0),(6,.ptr 3 0 0),(7,.i y.1)]) (fun y=>.row 39 0 [.i n,.sl 1 (nx.map fI),dI tn] :: .row 39 0 [.i 0,.eU,.eU] :: .row 3 1 (cl f1 tn) :: .row 39 0 [.i n,(if y.1=0 then .eU else .eX 4 y.2.1 1 0 y.2.2.length),.eX 2 1 1 0 tn.length]::(if y.1=0 then []else [.row 37 y.2.1 (cl fI y.2.2)])) (fun y=>0≤y.1∧y.1≤8∧y.2.2.length=y.1.toNat∧∀ l∈y.2.2,(l.length:Int)=n∧∀ x∈l,-1≤x∧x<n) (fun y=>8-y.1.toNat) ?_ ?_
 ·simp
 rintro⟨i,gn,out⟩ ⟨i0,i1,i2,i3⟩
 dsimp only at i0 i1 i2 i3 ⊢
 by_cases hi:i<nx.length
 ·have QW:=gH _ (ft (l:=nx) i0 hi)
  by_cases hz:i=0
  ·have mf:out = []:=aB.1 (by omega)
   subst hz;subst mf
   simp[hx]
   refine fh.e ((0,[]):Int×List Int) (fun y=>[(1,.i c),(2,.ptr 0 0 0),(4,.ptr 1 0 0),(6,.ptr 3 0 0),(7,.i 0),(8,.eX 4 y.2.length 1 0 y.2.length),(9,.i y.1)]) (fun y=>[.row 39 0 [.i n,.sl 1 (nx.map fI),dI tn],.row 39 0 [.i 0,.eU,.eU],.row 3 1 (cl f1 tn),.row 39 0 [.i n,.eU,.eX 2 1 1 0 tn.length],.row 3 y.2.length (cl f1 y.2)]) (fun y=>0≤y.1∧y.1≤n∧y.2.length=y.1.toNat∧∀ x∈y.2,-1≤x∧x<n) (fun y=>n.toNat-y.1.toNat) ?_ ?_
   ·simp;omega
   rintro⟨j,row⟩ ⟨j0,j1,j2,j3⟩
   dsimp only at j0 j1 j2 j3 ⊢
   by_cases hj:j<n
   ·have hv:=QW.2 _ (ft (l:=gt nx 0) j0 (by omega))
    simp[hx,hj]
    (with_reducible repeat' first|refine Xk ?_<;>try simp|refine Xs ?_ ?_<;>intro h<;>(try intro h')<;>(try simp[h])<;>try omega|refine Xg ?_|omega)
    ·refine LJ.i (j+1,row ++ [-1]) (by first|rfl|simp[*]) (by first|rfl|simp[*]) rfl rfl ?_
     dsimp only
     refine⟨by omega,by omega,by omega,by simp;omega,fun x hx=>?_⟩
     rcases List.mem_append.1 hx with hx|hx
     ·exact j3 x hx
     ·rw[List.mem_singleton]at hx;omega
    ·refine LJ.i (j+1,row ++ [-1]) (by first|rfl|simp[*]) (by first|rfl|simp[*]) rfl rfl ?_
     dsimp only
     refine⟨by omega,by omega,by omega,by simp;omega,fun x hx=>?_⟩
     rcases List.mem_append.1 hx with hx|hx
     ·exact j3 x hx
     ·rw[List.mem_singleton]at hx;omega
    ·refine LJ.e (j+1,row ++ [gt (gt nx 0) j]) ?_
     dsimp only
     refine⟨by omega,by omega,by omega,by simp;omega,fun x hx=>?_⟩
     rcases List.mem_append.1 hx with hx|hx
     ·exact j3 x hx
     ·rw[List.mem_singleton]at hx;omega
   ·simp[hx,hj]
    (with_reducible repeat' first|refine Xk ?_<;>try simp|refine Xs ?_ ?_<;>intro h<;>(try intro h')<;>(try simp[h])<;>try omega|refine Xg ?_|omega)
    refine LJ.i (1,0,[row]) (by first|rfl|simp[jg]) (by first|rfl|simp[jg]) rfl rfl ?_
    dsimp only
    refine⟨by omega,by omega,by omega,by simp,fun x hx=>?_⟩
    have uv:(row.length:Int)=n∧∀ x∈row,-1≤x∧x<n:=⟨by omega,j3⟩
    rw[List.mem_singleton]at hx
    rw[hx];exact uv
  ·simp[hi,hz]
   refine fh.e ((0,[]):Int×List Int) (fun y=>[(1,.i c),(2,.ptr 0 0 0),(4,.ptr 1 0 0),(6,.ptr 3 0 0),(7,.i i),(8,.eX 5 y.2.length 1 0 y.2.length),(9,.i y.1)]) (fun y=>[.row 39 0 [.i n,.sl 1 (nx.map fI),dI tn],.row 39 0 [.i 0,.eU,.eU],.row 3 1 (cl f1 tn),.row 39 0 [.i n,.eX 4 gn 1 0 out.length,.eX 2 1 1 0 tn.length],.row 37 gn (cl fI out),.row 3 y.2.length (cl f1 y.2)]) (fun y=>0≤y.1∧y.1≤n∧y.2.length=y.1.toNat∧∀ x∈y.2,-1≤x∧x<n) (fun y=>n.toNat-y.1.toNat) ?_ ?_
   ·simp;omega
   rintro⟨j,row⟩ ⟨j0,j1,j2,j3⟩
   dsimp only at j0 j1 j2 j3 ⊢
   by_cases hj:j<n
   ·have hv:=QW.2 _ (ft (l:=gt nx i) j0 (by omega))
    simp[hi,hj,hz]
    (with_reducible repeat' first|refine Xk ?_<;>try simp[hz]|refine Xs ?_ ?_<;>intro h<;>(try intro h')<;>(try simp[h,hz])<;>try omega|refine Xg ?_|omega)
    ·refine LJ.i (j+1,row ++ [-1]) (by first|rfl|simp[*]) (by first|rfl|simp[*]) rfl rfl ?_
     dsimp only
     refine⟨by omega,by omega,by omega,by simp;omega,fun x hx=>?_⟩
     rcases List.mem_append.1 hx with hx|hx
     ·exact j3 x hx
     ·rw[List.mem_singleton]at hx;omega
    ·refine LJ.i (j+1,row ++ [-1]) (by first|rfl|simp[*]) (by first|rfl|simp[*]) rfl rfl ?_
     dsimp only
     refine⟨by omega,by omega,by omega,by simp;omega,fun x hx=>?_⟩
     rcases List.mem_append.1 hx with hx|hx
     ·exact j3 x hx
     ·rw[List.mem_singleton]at hx;omega
    ·refine LJ.e (j+1,row ++ [gt (gt nx i) j]) ?_
     dsimp only
     refine⟨by omega,by omega,by omega,by simp;omega,fun x hx=>?_⟩
     rcases List.mem_append.1 hx with hx|hx
     ·exact j3 x hx
     ·rw[List.mem_singleton]at hx;omega
   ·simp[hj,hz]
    (with_reducible repeat' first|refine Xk ?_<;>try simp[hz]|refine Xs ?_ ?_<;>intro h<;>(try intro h')<;>(try simp[h,hz])<;>try omega|refine Xg ?_|omega)
    refine LJ.i (i+1,gn+1,out ++ [row]) (by first|rfl|simp[show ¬ (i+1=0)by omega]) (by first|rfl|simp[show ¬ (i+1=0)by omega]) rfl rfl ?_
    dsimp only
    refine⟨by omega,by omega,by omega,by simp;omega,fun x hx=>?_⟩
    have uv:(row.length:Int)=n∧∀ x∈row,-1≤x∧x<n:=⟨by omega,j3⟩
    rcases List.mem_append.1 hx with hx|hx
    ·exact i3 x hx
    ·rw[List.mem_singleton]at hx;rw[hx];exact uv
 ·simp[hi,show ¬ i=0 by omega]
  exact Ey.i out (by simp) rfl ⟨hb.size,by show out.length=8;omega,i3,hb.iT,hb.turns⟩
