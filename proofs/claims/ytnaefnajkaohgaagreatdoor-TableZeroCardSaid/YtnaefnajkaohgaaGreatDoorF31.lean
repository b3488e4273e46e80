/- Part 31 of the proof of skewer.skewerlaw15.TableZero. -/
import Derived.Test.YtnaefnajkaohgaaGreatDoorF19
import Derived.Test.YtnaefnajkaohgaaGreatDoorF16
set_option linter.all false
namespace Go.Proofs.YtnaefnajkaohgaaGreatDoor
open Go Go.AL Classical
set_option maxRecDepth 10000
set_option maxHeartbeats 40000000
@[irreducible] def fT(x:Int×Int×Int):List D:=[.val (.int .u8 x.1),.val (.int .u8 x.2.1),.val (.int .u8 x.2.2)]
@[simp] theorem aeE(x:Int×Int×Int):fT x = [.val (.int .u8 x.1),.val (.int .u8 x.2.1),.val (.int .u8 x.2.2)]:=by unfold fT;rfl
instance:Fl fT 3:=⟨fun _=>by simp,fun _=>by simp[eT,closed]⟩
structure Raw where
 w:Int
 h:Int
 c:Int
 k0:List Int
 k1:List Int
 cl:List (Int×Int×Int)
 f0:Int
 f1:Int
 f2:Int
 f3:Int
 f4:Int
 f5:Int
def Raw.cells(r:Raw):List D:=[.val (.int .u8 r.w),.val (.int .u8 r.h),.val (.int .u8 r.c),dU r.k0,dU r.k1,.sl 3 (r.cl.map fT),.val (.int .u8 r.f0),.val (.int .u8 r.f1),.val (.int .u8 r.f2),.val (.int .u8 r.f3),.val (.int .u8 r.f4),.val (.int .u8 r.f5)]
def jo(n:Int):Prop:=0≤n∧n<256
structure Jh(r:Raw):Prop where
 w:jo r.w
 h:jo r.h
 c:jo r.c
 k0:∀ n∈r.k0,jo n
 k1:∀ n∈r.k1,jo n
 cl:∀ x∈r.cl,jo x.1∧jo x.2.1∧jo x.2.2
 f0:jo r.f0
 f1:jo r.f1
 f2:jo r.f2
 f3:jo r.f3
 f4:jo r.f4
 f5:jo r.f5
theorem Es{α:Type}{sz:Nat}{f:α→List D}{l:List α}(h:l≠[]):D.sl sz (l.map f)=dN sz f l:=by
 cases l with
 | nil=>exact absurd rfl h
 | cons a r=>rfl
attribute [local simp] Raw.cells
@[simp] theorem adN(l:List Kind)(n:ByteArray)(p:List (List eG))(k:Bool):cl Kind.cells l ++ [.val (.string n),dN 1 fP p,.b k]=cl Kind.cells (l ++ [⟨n,p,k⟩]):=by rw[← mV];rfl
@[simp] theorem adK(l:List Clause)(a b c d:Int):cl Clause.cells l ++ [.i a,.i b,.i c,.i d]=cl Clause.cells (l ++ [⟨a,b,c,d⟩]):=by rw[← mV];rfl
structure mR(kinds size:Int)(c:Clause):Prop where
 ok:(c.cond=1∧0≤c.kind∧c.kind<kinds∧c.n=0)∨(c.cond=2∧0≤c.kind∧c.kind<kinds∧0≤c.n∧c.n<size)∨(c.cond=3∧c.kind=0∧0≤c.n∧c.n≤64)
 out:1≤c.out∧c.out≤3
structure w6(N R i:Int)(ks:List Kind):Prop where
 len:ks.length=i.toNat
 names:∀ k:Int,0≤k→k<i→(gt ks k).name=kindName k
 fW:∀ k∈ks,k.fW.length≤4∧∀ l∈k.fW,pQ 8 N R l∧1≤l.length
theorem w6.add{N R i:Int}{ks:List Kind}(h:w6 N R i ks)(i0:0≤i){nm:ByteArray}(hn:nm=kindName i){ps:List (List eG)}{kp:Bool}(h1:ps.length≤4)(h2:∀ l∈ps,pQ 8 N R l∧1≤l.length):w6 N R (i+1) (ks ++ [⟨nm,ps,kp⟩]):=by
 have hl:=h.len
 refine⟨by simp;omega,fun k k0 k1=>?_,fun k hk=>?_⟩
 ·by_cases e:k=i
  ·have:gt (ks ++ [(⟨nm,ps,kp⟩:Kind)]) k=⟨nm,ps,kp⟩:=by
    subst e
    simp[gt,← hl]
   rw[this,hn,e]
  ·have:gt (ks ++ [(⟨nm,ps,kp⟩:Kind)]) k=gt ks k:=by
    have:k.toNat<ks.length:=by omega
    simp[gt,ag this]
   rw[this]
   exact h.names k k0 (by omega)
 ·rcases List.mem_append.1 hk with hk|hk
  ·exact h.fW k hk
  ·rw[List.mem_singleton.1 hk];exact⟨h1,h2⟩
theorem FN{size:Int}{next:List (List Int)}{gy:List Int}{ks:List Kind}{R:Int}{M:Bool}{cs:List Clause}{B E i:Int}(nZ:kN (uu size next gy))(hi:1≤i∧i≤2)(hK:w6 i R i ks)(hR:0≤R∧R≤2)(hc:∀ c∈cs,mR i size c)(hl:cs.length≤3)(hB:1≤B∧B≤3)(hE:1≤E∧E≤3):eU ⟨size,next,gy,ks,R,M,cs,B,E⟩:=by
 have hlen:=hK.len
 have vI:(ks.length:Int)=i:=by omega
 refine⟨⟨nZ.size,nZ.next,nZ.row,nZ.gy,nZ.turns⟩,by dsimp only;omega,fun k k0 k1=>hK.names k k0 (by dsimp only at k1;omega),fun k hk=>⟨(hK.fW k hk).1,fun l hl=>?_⟩,hR,hl,fun c h=>?_,hB,hE⟩
 ·obtain⟨p,p1⟩:=(hK.fW k hk).2 l hl
  exact⟨⟨p1,p.len⟩,fun x hx=>⟨by
   have:=p.steps x hx
   dsimp only
   rw[vI]
   exact this⟩,p.oY,p.push,p.Ce⟩
 ·have h1:=(hc c h).ok
  have h2:=(hc c h).out
  exact⟨by dsimp only;rw[vI];exact h1,h2⟩
theorem f57(r:Raw)(hr:Jh r):Wf T 57 [.agg r.cells] [] (Ey dG eU):=by
 have h0:=jk (a:=r.f0) (b:=3) hr.f0.1
 have w0:IntKind.i64.wrap r.f0=r.f0:=mQ ⟨by have:=hr.f0.1;omega,by have:=hr.f0.2;omega⟩
 refine Yz wV (iw 86 [1085] wV.body) ?_
 simp[wV,gj,iw,ky,kA,kK,jy,Raw.cells,w0]
 refine Yv (f104 r.w r.h r.c hr.w hr.h hr.c) fun bd nZ=>?_
 simp
 obtain⟨size,next,gy⟩:=bd
 simp[bD]at nZ ⊢
 (with_reducible repeat' first|refine Xk ?_<;>try simp|refine Xs ?_ ?_<;>intro h<;>(try intro h')<;>(try simp[h])<;>(try omega)|refine Xg ?_|omega)
 all_goals
  obtain⟨N,FX,hN,FY⟩:∃ N:Int,(N=if 0<r.k1.length then 2 else 1)∧(1≤N∧N≤2)∧(N=2→0<r.k1.length):=⟨_,rfl,by split<;>omega,by split<;>omega⟩
  simp only[if_pos,if_neg,h,if_false,if_true,not_false_eq_true]at FX
  obtain⟨M,hM⟩:∃ M:Bool,decide (eM r.f1 4=3)=M:=⟨_,rfl⟩
  have vR:0≤eM r.f0 3∧eM r.f0 3≤2:=by have:=hr.f0.1;unfold jo at *;omega
  obtain⟨R,KF⟩:∃ R,eM r.f0 3=R:=⟨_,rfl⟩
  rw[KF]at vR
  refine eE.k ((0,0,[]):Int×Nat×List Kind) (fun y=>[(1,.ptr 0 0 0),(2,.ptr 1 0 0),(3,.ptr 2 0 0),(4,.i N),(5,.i y.1)]) (fun y=>.row 27 0 r.cells :: .row 41 0 [.i 0,.emp,.emp,.emp,.i 0,.b false,.emp,.i 0,.i 0] :: .row 41 0 [.i size,.sl 1 (next.map fI),dI gy,(if y.1=0 then .emp else .et 3 y.2.1 3 0 y.2.2.length),.i R,.b M,.emp,.i 3,.i 2]::(if y.1=0 then []else [.row 87 y.2.1 (cl Kind.cells y.2.2)])) (fun y=>0≤y.1∧y.1≤N∧w6 N R y.1 y.2.2) (fun y=>(N-y.1).toNat) ?_ (by simp[FX]) (by simp[Raw.cells,hM,KF,w0]) rfl rfl rfl ?_
  ·exact⟨by omega,by show(0:Int)≤N;omega,rfl,fun k h1 h2=>by exfalso;dsimp only at h2;omega,by simp⟩
  clear FX h
  rintro⟨i,gn,ks⟩ ⟨i0,i1,iK⟩
  dsimp only at i0 i1 iK ⊢
  have i2:=iK.len
  by_cases hi:i<N
  ·by_cases hz:i=0
   ·have kb:ks = []:=aA.1 (by omega)
    subst hz;subst kb
    simp[hi,Raw.cells]
    (with_reducible repeat' first|refine Xk ?_<;>try simp[hi]|refine Xs ?_ ?_<;>intro h<;>(try intro h')<;>(try simp[h,hi])<;>(try omega)|refine Xg ?_|omega)
    generalize decide (bits BinOp.and IntKind.u8 (sV IntKind.u8 r.f2 0) 1=1)=kp
    refine eE.e ((0,0,[]):Int×Nat×List (List eG)) (fun y=>[(1,.ptr 0 0 0),(2,.ptr 1 0 0),(3,.ptr 2 0 0),(4,.i N),(5,.i 0),(6,.ptr 4 0 0),(7,.i y.1)]) (fun y=>.row 27 0 r.cells :: .row 41 0 [.i 0,.emp,.emp,.emp,.i 0,.b false,.emp,.i 0,.i 0] :: .row 41 0 [.i size,.sl 1 (next.map fI),dI gy,.emp,.i R,.b M,.emp,.i 3,.i 2] :: .row 9 0 [.val (.string ⟨#[97]⟩),.val (.string ⟨#[98,101,101]⟩)] :: .row 87 0 [.val (.string ⟨#[97]⟩),(if y.1=0 then .emp else .et 5 y.2.1 1 0 y.2.2.length),.b kp]::(if y.1=0 then []else [.row 84 y.2.1 (cl fP y.2.2)])) (fun y=>0≤y.1∧y.1≤4∧y.1≤r.k0.length∧y.2.2.length=y.1.toNat∧∀ l∈y.2.2,pQ 8 N R l∧1≤l.length) (fun y=>(4-y.1).toNat) ?_ ?_
    ·simp
    rintro⟨j,gm,ps⟩ ⟨j0,j1,j2,j3,j4⟩
    dsimp only at j0 j1 j2 j3 j4 ⊢
    have qh:next.length=8:=nZ.next
    by_cases hj:j<r.k0.length∧j<4
    ·have lW:=hr.k0 _ (eI j0 hj.1)
     by_cases hz:j=0
     ·have kb:ps = []:=aA.1 (by omega)
      subst hz;subst kb
      simp[show 0<r.k0.length by omega,Raw.cells,qh]
      refine Yv (f105 (gt r.k0 0) N R lW (by omega) (by omega)) fun p hp=>?_
      simp
      (with_reducible repeat' first|refine Xk ?_<;>try simp|refine Xs ?_ ?_<;>intro h<;>(try intro h')<;>(try simp[h])<;>(try omega)|refine Xg ?_|omega)
      refine LJ.i (1,0,[p]) (by first|rfl|simp[gV]) (by first|rfl|simp[gV]) rfl rfl ?_
      exact⟨by dsimp only;omega,by dsimp only;omega,by dsimp only;omega,by dsimp only;omega,rfl,fun l hl=>by rw[List.mem_singleton.1 hl];exact hp⟩
     ·rw[if_neg hz,if_neg hz]
      simp[hj.1,hj.2,Raw.cells,qh,hz]
      refine⟨j0,?_⟩
      refine Yv (f105 (gt r.k0 j) N R lW (by omega) (by omega)) fun p hp=>?_
      simp
      (with_reducible repeat' first|refine Xk ?_<;>try simp[hz]|refine Xs ?_ ?_<;>intro h<;>(try intro h')<;>(try simp[h,hz])<;>(try omega)|refine Xg ?_|omega)
      (with_reducible repeat' first|refine Xk ?_<;>try simp[hz]|refine Xs ?_ ?_<;>intro h<;>(try intro h')<;>(try simp[h,hz])<;>(try omega)|refine Xg ?_|omega)
      refine LJ.i (j+1,gm+1,ps ++ [p]) (by first|rfl|simp[show ¬ (j+1=0)by omega]) (by first|rfl|simp[show ¬ (j+1=0)by omega]) rfl rfl ?_
      refine⟨by dsimp only;omega,by dsimp only;omega,by dsimp only;omega,by dsimp only;omega,by simp;omega,fun l hl=>?_⟩
      rcases List.mem_append.1 hl with hl|hl
      ·exact j4 l hl
      ·rw[List.mem_singleton.1 hl];exact hp
    ·have e:¬ j<(r.k0.length:Int)∨¬ j<4:=by omega
     by_cases hz:j=0
     ·have kb:ps = []:=aA.1 (by omega)
      subst hz;subst kb
      have e:r.k0 = []:=aA.1 (by omega)
      simp[e,Raw.cells]
      (with_reducible repeat' first|refine Xk ?_<;>try simp|refine Xs ?_ ?_<;>intro h<;>(try intro h')<;>(try simp[h])<;>(try omega)|refine Xg ?_|omega)
      refine LJ.i (1,0,[⟨⟨#[97]⟩,[],kp⟩]) (by first|rfl|simp[gV,e,dN]) (by first|rfl|simp[gV,e,dN]) rfl rfl ?_
      exact⟨by dsimp only;omega,by dsimp only;omega,by dsimp only;omega,iK.add (by omega) rfl (by simp) (by simp)⟩
     ·rw[if_neg hz,if_neg hz]
      have hd:D.sl 1 (ps.map fP)=dN 1 fP ps:=Es (by intro h;simp[h]at j3;omega)
      by_cases hq:j<r.k0.length
      ·have:¬ j<4:=by omega
       simp[Raw.cells,hz,hq,this]
       refine LJ.i (1,0,[⟨⟨#[97]⟩,ps,kp⟩]) (by first|rfl|simp[gV,hd]) (by first|rfl|simp[gV,hd]) rfl rfl ?_
       exact⟨by dsimp only;omega,by dsimp only;omega,by dsimp only;omega,iK.add (by omega) rfl (by omega) j4⟩
      ·simp[Raw.cells,hz,hq]
       refine LJ.i (1,0,[⟨⟨#[97]⟩,ps,kp⟩]) (by first|rfl|simp[gV,hd]) (by first|rfl|simp[gV,hd]) rfl rfl ?_
       exact⟨by dsimp only;omega,by dsimp only;omega,by dsimp only;omega,iK.add (by omega) rfl (by omega) j4⟩
   ·have iJ:i=1:=by omega
    subst iJ
    have Qy:N=2:=by omega
    subst Qy
    rw[if_neg hz,if_neg hz]
    simp[Raw.cells]
    (with_reducible repeat' first|refine Xk ?_<;>try simp|refine Xs ?_ ?_<;>intro h<;>(try intro h')<;>(try simp[h])<;>(try omega)|refine Xg ?_|omega)
    clear hz
    simp at i2
    generalize decide (bits BinOp.and IntKind.u8 (sV IntKind.u8 r.f2 1) 1=1)=kp
    refine eE.e ((0,0,[]):Int×Nat×List (List eG)) (fun y=>[(1,.ptr 0 0 0),(2,.ptr 1 0 0),(3,.ptr 2 0 0),(4,(.i 2)),(5,.i 1),(6,.ptr 5 0 0),(7,.i y.1)]) (fun y=>.row 27 0 r.cells :: .row 41 0 [.i 0,.emp,.emp,.emp,.i 0,.b false,.emp,.i 0,.i 0] :: .row 41 0 [.i size,.sl 1 (next.map fI),dI gy,.et 3 gn 3 0 ks.length,.i R,.b M,.emp,.i 3,.i 2] :: .row 87 gn (cl Kind.cells ks) :: .row 9 0 [.val (.string ⟨#[97]⟩),.val (.string ⟨#[98,101,101]⟩)] :: .row 87 0 [.val (.string ⟨#[98,101,101]⟩),(if y.1=0 then .emp else .et 6 y.2.1 1 0 y.2.2.length),.b kp]::(if y.1=0 then []else [.row 84 y.2.1 (cl fP y.2.2)])) (fun y=>0≤y.1∧y.1≤4∧y.1≤r.k1.length∧y.2.2.length=y.1.toNat∧∀ l∈y.2.2,pQ 8 2 R l∧1≤l.length) (fun y=>(4-y.1).toNat) ?_ ?_
    ·simp
    rintro⟨j,gm,ps⟩ ⟨j0,j1,j2,j3,j4⟩
    dsimp only at j0 j1 j2 j3 j4 ⊢
    have qh:next.length=8:=nZ.next
    by_cases hj:j<r.k1.length∧j<4
    ·have lW:=hr.k1 _ (eI j0 hj.1)
     by_cases hz:j=0
     ·have kb:ps = []:=aA.1 (by omega)
      subst hz;subst kb
      simp[show 0<r.k1.length by omega,Raw.cells,qh]
      refine Yv (f105 (gt r.k1 0) 2 R lW (by omega) (by omega)) fun p hp=>?_
      simp
      (with_reducible repeat' first|refine Xk ?_<;>try simp|refine Xs ?_ ?_<;>intro h<;>(try intro h')<;>(try simp[h])<;>(try omega)|refine Xg ?_|omega)
      refine LJ.i (1,0,[p]) (by first|rfl|simp[gV]) (by first|rfl|simp[gV]) rfl rfl ?_
      exact⟨by dsimp only;omega,by dsimp only;omega,by dsimp only;omega,by dsimp only;omega,rfl,fun l hl=>by rw[List.mem_singleton.1 hl];exact hp⟩
     ·rw[if_neg hz,if_neg hz]
      simp[hj.1,hj.2,Raw.cells,qh,hz]
      refine⟨j0,?_⟩
      refine Yv (f105 (gt r.k1 j) 2 R lW (by omega) (by omega)) fun p hp=>?_
      simp
      (with_reducible repeat' first|refine Xk ?_<;>try simp[hz]|refine Xs ?_ ?_<;>intro h<;>(try intro h')<;>(try simp[h,hz])<;>(try omega)|refine Xg ?_|omega)
      (with_reducible repeat' first|refine Xk ?_<;>try simp[hz]|refine Xs ?_ ?_<;>intro h<;>(try intro h')<;>(try simp[h,hz])<;>(try omega)|refine Xg ?_|omega)
      refine LJ.i (j+1,gm+1,ps ++ [p]) (by first|rfl|simp[show ¬ (j+1=0)by omega]) (by first|rfl|simp[show ¬ (j+1=0)by omega]) rfl rfl ?_
      refine⟨by dsimp only;omega,by dsimp only;omega,by dsimp only;omega,by dsimp only;omega,by simp;omega,fun l hl=>?_⟩
      rcases List.mem_append.1 hl with hl|hl
      ·exact j4 l hl
      ·rw[List.mem_singleton.1 hl];exact hp
    ·have e:¬ j<(r.k1.length:Int)∨¬ j<4:=by omega
     by_cases hz:j=0
     ·have kb:ps = []:=aA.1 (by omega)
      subst hz;subst kb
      have e:r.k1 = []:=aA.1 (by omega)
      exact absurd e (by intro e;have:=FY rfl;simp[e]at this)
     ·rw[if_neg hz,if_neg hz]
      have hd:D.sl 1 (ps.map fP)=dN 1 fP ps:=Es (by intro h;simp[h]at j3;omega)
      by_cases hq:j<r.k1.length
      ·have:¬ j<4:=by omega
       simp[Raw.cells,hz,hq,this]
       (with_reducible repeat' first|refine Xk ?_<;>try simp|refine Xs ?_ ?_<;>intro h<;>(try intro h')<;>(try simp[h])<;>(try omega)|refine Xg ?_|omega)
       refine LJ.i (1+1,gn+1,ks ++ [⟨⟨#[98,101,101]⟩,ps,kp⟩]) (by first|rfl|simp[hd]) (by first|rfl|simp[hd]) rfl rfl ?_
       exact⟨by dsimp only;omega,by dsimp only;omega,by dsimp only;omega,iK.add (by omega) rfl (by omega) j4⟩
      ·simp[Raw.cells,hz,hq]
       (with_reducible repeat' first|refine Xk ?_<;>try simp|refine Xs ?_ ?_<;>intro h<;>(try intro h')<;>(try simp[h])<;>(try omega)|refine Xg ?_|omega)
       refine LJ.i (1+1,gn+1,ks ++ [⟨⟨#[98,101,101]⟩,ps,kp⟩]) (by first|rfl|simp[hd]) (by first|rfl|simp[hd]) rfl rfl ?_
       exact⟨by dsimp only;omega,by dsimp only;omega,by dsimp only;omega,iK.add (by omega) rfl (by omega) j4⟩
  ·have Rf:i=N:=by omega
   have hz:¬ i=0:=by omega
   rw[if_neg hz,if_neg hz]
   have KW:=hr.f3;have hf4:=hr.f4
   have q3:=zf r.f3 4
   have q4:=zf r.f4 4
   have e3:=jk (a:=gS .u8 r.f3 4) (b:=3) q3.1
   have e4:=jk (a:=gS .u8 r.f4 4) (b:=3) q4.1
   have w3:IntKind.i64.wrap (gS .u8 r.f3 4)=gS .u8 r.f3 4:=mQ ⟨by omega,by omega⟩
   have w4:IntKind.i64.wrap (gS .u8 r.f4 4)=gS .u8 r.f4 4:=mQ ⟨by omega,by omega⟩
   simp[Raw.cells,hi,w3,w4]
   subst Rf
   have iN:1≤i∧i≤2:=hN
   clear e3 e4
   have e3:0≤eM (gS .u8 r.f3 4) 3∧eM (gS .u8 r.f3 4) 3≤2:=by have:=jk (a:=gS .u8 r.f3 4) (b:=3) q3.1;omega
   have e4:0≤eM (gS .u8 r.f4 4) 3∧eM (gS .u8 r.f4 4) 3≤2:=by have:=jk (a:=gS .u8 r.f4 4) (b:=3) q4.1;omega
   (with_reducible repeat' first|refine Xk ?_<;>try simp[w3,w4]|refine Xs ?_ ?_<;>intro h<;>(try intro h')<;>(try simp[h,w3,w4])<;>(try omega)|refine Xg ?_|omega)
   all_goals
    obtain⟨B,hB,FV⟩:∃ B:Int,(B=if eM r.f3 4=3 then 1+eM (gS .u8 r.f3 4) 3 else 3)∧1≤B∧B≤3:=⟨_,rfl,by split<;>omega⟩
    obtain⟨E,hE,xQ⟩:∃ E:Int,(E=if eM r.f4 4=3 then 1+eM (gS .u8 r.f4 4) 3 else 2)∧1≤E∧E≤3:=⟨_,rfl,by split<;>omega⟩
    generalize eM r.f3 4=T3 at *
    generalize eM r.f4 4=T4 at *
    simp only[*,if_true,if_false]at hB hE
    refine eE.e ((0,0,[]):Int×Nat×List Clause) (fun y=>[(1,.ptr 0 0 0),(2,.ptr 1 0 0),(3,.ptr 2 0 0),(4,.i i),(8,.i y.1)]) (fun y=>.row 27 0 r.cells :: .row 41 0 [.i 0,.emp,.emp,.emp,.i 0,.b false,.emp,.i 0,.i 0] :: .row 41 0 [.i size,.sl 1 (next.map fI),dI gy,.et 3 gn 3 0 ks.length,.i R,.b M,(if y.1=0 then .emp else .et 4 y.2.1 4 0 y.2.2.length),.i B,.i E] :: .row 87 gn (cl Kind.cells ks)::(if y.1=0 then []else [.row 158 y.2.1 (cl Clause.cells y.2.2)])) (fun y=>0≤y.1∧y.1≤3∧y.1≤r.cl.length∧y.2.2.length=y.1.toNat∧∀ c∈y.2.2,mR i size c) (fun y=>(3-y.1).toNat) ?_ ?_
    ·simp
    clear hB hE
    rintro⟨j,gc,cs⟩ ⟨j0,j1,j2,j3,j4⟩
    dsimp only at j0 j1 j2 j3 j4 ⊢
    by_cases hj:j<r.cl.length∧j<3
    ·have lW:=hr.cl _ (eI j0 hj.1)
     obtain⟨⟨ba,bb,bc⟩,hx⟩:∃ x,gt r.cl j=x:=⟨_,rfl⟩
     rw[hx]at lW
     obtain⟨⟨a0,a1⟩,⟨b0,b1⟩,⟨c0,c1⟩⟩:=lW
     dsimp only at a0 a1 b0 b1 c0 c1
     have wa:IntKind.i64.wrap ba=ba:=mQ ⟨by omega,by omega⟩
     have wb:IntKind.i64.wrap bb=bb:=mQ ⟨by omega,by omega⟩
     have wc:IntKind.i64.wrap bc=bc:=mQ ⟨by omega,by omega⟩
     have qa:=zf ba 4
     have wq:IntKind.i64.wrap (gS .u8 ba 4)=gS .u8 ba 4:=mQ ⟨by omega,by omega⟩
     have ra:0≤eM ba 3∧eM ba 3≤2:=by have:=jk (a:=ba) (b:=3) a0;omega
     have rq:0≤eM (gS .u8 ba 4) 3∧eM (gS .u8 ba 4) 3≤2:=by have:=jk (a:=gS .u8 ba 4) (b:=3) qa.1;omega
     have rb:0≤eM bb i∧eM bb i<i:=by
      have:=jk (a:=bb) (b:=i) b0
      have h1:=bY bb (show i≠0 by omega)
      have h2:=bS bb (show 0<i by omega)
      omega
     have fL:1≤size∧size≤9:=nZ.size
     have rc:0≤eM bc size∧eM bc size<size:=by
      have:=jk (a:=bc) (b:=size) c0
      have h1:=bY bc (show size≠0 by omega)
      have h2:=bS bc (show 0<size by omega)
      omega
     have r3:0≤eM bc 3∧eM bc 3≤2:=by have:=jk (a:=bc) (b:=3) c0;omega
     have oP:size≠0:=by omega
     by_cases tT:j=0
     ·have kb:cs = []:=aA.1 (by omega)
      subst tT;subst kb
      simp[show 0<r.cl.length by omega,hx,wa,wb,wc,wq,hz,oP]
      (with_reducible repeat' first|refine Xk ?_<;>try simp[show 0<r.cl.length by omega,hx,wa,wb,wc,wq,hz,oP]|refine Xs ?_ ?_<;>intro h<;>(try intro h')<;>(try simp[h,show 0<r.cl.length by omega,hx,wa,wb,wc,wq,hz,oP])<;>(try omega)|refine Xg ?_|omega)
      ·have ok:mR i size ⟨3,0,eM bc 3,1+eM (gS .u8 ba 4) 3⟩:=⟨.inr (.inr ⟨rfl,rfl,r3.1,by dsimp only;omega⟩),by dsimp only;omega⟩
       refine LJ.i (1,0,[⟨3,0,eM bc 3,1+eM (gS .u8 ba 4) 3⟩]) (by first|rfl|simp[gV]) (by first|rfl|simp[gV]) rfl rfl ?_
       exact⟨by dsimp only;omega,by dsimp only;omega,by dsimp only;omega,by dsimp only;omega,rfl,fun c hc=>by rw[List.mem_singleton.1 hc];exact ok⟩
      ·have ok:mR i size ⟨2,eM bb i,eM bc size,1+eM (gS .u8 ba 4) 3⟩:=⟨.inr (.inl ⟨rfl,rb.1,rb.2,rc.1,rc.2⟩),by dsimp only;omega⟩
       refine LJ.i (1,0,[⟨2,eM bb i,eM bc size,1+eM (gS .u8 ba 4) 3⟩]) (by first|rfl|simp[gV]) (by first|rfl|simp[gV]) rfl rfl ?_
       exact⟨by dsimp only;omega,by dsimp only;omega,by dsimp only;omega,by dsimp only;omega,rfl,fun c hc=>by rw[List.mem_singleton.1 hc];exact ok⟩
      ·have ok:mR i size ⟨1+eM ba 3,eM bb i,0,1+eM (gS .u8 ba 4) 3⟩:=⟨.inl ⟨by dsimp only;omega,rb.1,rb.2,rfl⟩,by dsimp only;omega⟩
       refine LJ.i (1,0,[⟨1+eM ba 3,eM bb i,0,1+eM (gS .u8 ba 4) 3⟩]) (by first|rfl|simp[gV]) (by first|rfl|simp[gV]) rfl rfl ?_
       exact⟨by dsimp only;omega,by dsimp only;omega,by dsimp only;omega,by dsimp only;omega,rfl,fun c hc=>by rw[List.mem_singleton.1 hc];exact ok⟩
     ·rw[if_neg tT,if_neg tT]
      have nf:∀ a b c d,cl Clause.cells cs ++ [.val (.int .i64 a),.i b,.i c,.val (.int .i64 d)]=cl Clause.cells (cs ++ [⟨a,b,c,d⟩]):=fun a b c d=>by rw[← mV];rfl
      simp[hj.1,hj.2,hx,wa,wb,wc,wq,hz,oP]
      (with_reducible repeat' first|refine Xk ?_<;>try simp[hx,wa,wb,wc,wq,hz,oP]|refine Xs ?_ ?_<;>intro h<;>(try intro h')<;>(try simp[h,hx,wa,wb,wc,wq,hz,oP])<;>(try omega)|refine Xg ?_|omega)
      ·have ok:mR i size ⟨3,0,eM bc 3,1+eM (gS .u8 ba 4) 3⟩:=⟨.inr (.inr ⟨rfl,rfl,r3.1,by dsimp only;omega⟩),by dsimp only;omega⟩
       refine LJ.i (j+1,gc+1,cs ++ [⟨3,0,eM bc 3,1+eM (gS .u8 ba 4) 3⟩]) (by first|rfl|simp[show ¬ (j+1=0)by omega,nf]) (by first|rfl|simp[show ¬ (j+1=0)by omega,nf]) rfl rfl ?_
       exact⟨by dsimp only;omega,by dsimp only;omega,by dsimp only;omega,by dsimp only;omega,by simp;omega,fun c hc=>(List.mem_append.1 hc).elim (j4 c) fun hc=>by rw[List.mem_singleton.1 hc];exact ok⟩
      ·have ok:mR i size ⟨2,eM bb i,eM bc size,1+eM (gS .u8 ba 4) 3⟩:=⟨.inr (.inl ⟨rfl,rb.1,rb.2,rc.1,rc.2⟩),by dsimp only;omega⟩
       refine LJ.i (j+1,gc+1,cs ++ [⟨2,eM bb i,eM bc size,1+eM (gS .u8 ba 4) 3⟩]) (by first|rfl|simp[show ¬ (j+1=0)by omega,nf]) (by first|rfl|simp[show ¬ (j+1=0)by omega,nf]) rfl rfl ?_
       exact⟨by dsimp only;omega,by dsimp only;omega,by dsimp only;omega,by dsimp only;omega,by simp;omega,fun c hc=>(List.mem_append.1 hc).elim (j4 c) fun hc=>by rw[List.mem_singleton.1 hc];exact ok⟩
      ·have ok:mR i size ⟨1+eM ba 3,eM bb i,0,1+eM (gS .u8 ba 4) 3⟩:=⟨.inl ⟨by dsimp only;omega,rb.1,rb.2,rfl⟩,by dsimp only;omega⟩
       refine LJ.i (j+1,gc+1,cs ++ [⟨1+eM ba 3,eM bb i,0,1+eM (gS .u8 ba 4) 3⟩]) (by first|rfl|simp[show ¬ (j+1=0)by omega,nf]) (by first|rfl|simp[show ¬ (j+1=0)by omega,nf]) rfl rfl ?_
       exact⟨by dsimp only;omega,by dsimp only;omega,by dsimp only;omega,by dsimp only;omega,by simp;omega,fun c hc=>(List.mem_append.1 hc).elim (j4 c) fun hc=>by rw[List.mem_singleton.1 hc];exact ok⟩
    ·by_cases tT:j=0
     ·have kb:cs = []:=aA.1 (by omega)
      subst tT;subst kb
      simp[show ¬ 0<r.cl.length by omega]
      (with_reducible repeat' first|refine Xk ?_<;>try simp|refine Xs ?_ ?_<;>intro h<;>(try intro h')<;>(try simp[h])<;>(try omega)|refine Xg ?_|omega)
      exact Ey.i ⟨size,next,gy,ks,R,M,[],B,E⟩ (by simp[dN]) rfl (FN nZ iN iK vR (by simp) (by simp) FV xQ)
     ·rw[if_neg tT,if_neg tT]
      have hd:D.sl 4 (cs.map Clause.cells)=dN 4 Clause.cells cs:=Es (by intro h;simp[h]at j3;omega)
      by_cases hq:j<r.cl.length
      ·have:¬ j<3:=by omega
       simp[hq,this]
       exact Ey.i ⟨size,next,gy,ks,R,M,cs,B,E⟩ (by simp[hd]) rfl (FN nZ iN iK vR j4 (by omega) FV xQ)
      ·simp[hq]
       exact Ey.i ⟨size,next,gy,ks,R,M,cs,B,E⟩ (by simp[hd]) rfl (FN nZ iN iK vR j4 (by omega) FV xQ)
end Go.Proofs.YtnaefnajkaohgaaGreatDoor
namespace Go.Proofs.YtnaefnajkaohgaaGreatDoor
open Go Go.AL Classical
set_option maxRecDepth 10000
set_option maxHeartbeats 4000000
attribute [local simp] Raw.cells
structure my where
 r:Raw
 l:List Int
 D4:List Int
def my.cells(x:my):List D:=x.r.cells++(cl fU x.l ++ [dU x.D4])
attribute [local simp] my.cells
theorem JN(x:my):closed (.agg x.cells)=true:=by
 simp[JL,eT]
structure zU(x:my):Prop where
 r:Jh x.r
 len:x.l.length=18
 l:∀ n∈x.l,0≤n∧n<256
 D4:∀ n∈x.D4,0≤n∧n<256
theorem f32(x:my)(hx:zU x):Wf T 32 [.agg x.cells] [] (Ey (fun y:ew×Pos=>.tup [dG y.1,dP y.2]) fun y=>eU y.1∧fj y.1 y.2):=by
 obtain⟨r,l,p⟩:=x
 have hl:l.length=18:=hx.len
 refine Yz wR (gj 32 [1005] wR.body) ?_
 simp[wR,gj,iw,ky,kA,kK,jy,my.cells]
 refine eS.q rfl rfl (f57 r hx.r) (by simp) (fun _=>by simp) ?_
 intro g hg
 simp
 (with_reducible repeat' first|refine Xk ?_<;>try simp|refine Xs ?_ ?_<;>intro h<;>(try intro h')<;>(try simp[h])<;>(try omega)|refine Xg ?_|omega)
 refine eE.e ((0,0,[]):Int×Nat×List Int) (fun y=>[(1,.ptr 0 0 0),(2,.ptr 1 0 0),(3,.ptr 2 0 0),(4,.ptr 3 0 0),(5,.et 4 y.2.1 1 0 y.2.2.length),(6,.i y.1)]) (fun y=>[.row 32 0 (my.cells ⟨r,l,p⟩),.row 41 0 [.i 0,.emp,.emp,.emp,.i 0,.b false,.emp,.i 0,.i 0],.row 44 0 [.emp,.emp,.emp,.i 0,.i 0],.row 41 0 g.cells,.row 3 y.2.1 (cl f1 y.2.2)]) (fun y=>0≤y.1∧y.1≤6∧y.1≤p.length∧y.2.2.length=y.1.toNat∧∀ n∈y.2.2,0≤n∧n<256) (fun y=>(6-y.1).toNat) ?_ ?_
 ·simp
 rintro⟨i,gn,ns⟩ ⟨i0,i1,i2,i3,i4⟩
 dsimp only at i0 i1 i2 i3 i4 ⊢
 have afg:l.length+12=30:=by omega
 by_cases hi:i<p.length∧i<6
 ·have hb:=hx.D4 _ (eI i0 hi.1)
  dsimp only at hb
  have hw:IntKind.i64.wrap (gt p i)=gt p i:=mQ ⟨by omega,by omega⟩
  simp[my.cells,hi.1,hi.2,hl,hw]
  (with_reducible repeat' first|refine Xk ?_<;>try simp[hw]|refine Xs ?_ ?_<;>intro h<;>(try intro h')<;>(try simp[h,hw])<;>(try omega)|refine Xg ?_|omega)
  refine LJ.e (i+1,gn+1,ns ++ [gt p i]) ?_
  refine⟨by dsimp only;omega,by dsimp only;omega,by dsimp only;omega,by dsimp only;omega,by simp;omega,fun n hn=>?_⟩
  rcases List.mem_append.1 hn with hn|hn
  ·exact i4 n hn
  ·rw[List.mem_singleton.1 hn];exact hb
 ·by_cases hq:i<p.length
  ·have:¬ i<6:=by omega
   simp[my.cells,hq,this,hl]
   refine Yv (f59 g hg l hl hx.l) fun q hq=>?_
   simp
   refine Yv (f58 g hg q hq ns (by omega) i4) fun qs Dm=>?_
   simp
   obtain⟨⟨RP,vO⟩,Gy⟩:=Dm
   (with_reducible repeat' first|refine Xk ?_<;>try simp|refine Xs ?_ ?_<;>intro h<;>(try intro h')<;>(try simp[h])<;>(try omega)|refine Xg ?_|omega)
   exact Ey.i (g,gt qs (qs.length-1)) rfl rfl ⟨hg,Gy _ (eI (by omega) (by omega))⟩
  ·simp[my.cells,hq,hl]
   refine Yv (f59 g hg l hl hx.l) fun q hq=>?_
   simp
   refine Yv (f58 g hg q hq ns (by omega) i4) fun qs Dm=>?_
   simp
   obtain⟨⟨RP,vO⟩,Gy⟩:=Dm
   (with_reducible repeat' first|refine Xk ?_<;>try simp|refine Xs ?_ ?_<;>intro h<;>(try intro h')<;>(try simp[h])<;>(try omega)|refine Xg ?_|omega)
   exact Ey.i (g,gt qs (qs.length-1)) rfl rfl ⟨hg,Gy _ (eI (by omega) (by omega))⟩
theorem f12(x:my)(hx:zU x):Wf T 12 [.agg x.cells,.i 80] [] (Ey (fun y:ew×Pos×Bool×List Pos=>.agg (y.1.cells++(y.2.1.cells ++ [if y.2.2.1 then fe y.2.2.2 else .emp,.b y.2.2.1]))) fun y=>eU y.1∧fj y.1 y.2.1∧(y.2.2.1=true→zV y.1 y.2.2.2)):=by
 have hl:x.l.length=18:=hx.len
 refine Yg Ac ?_
 simp[Ac,hl]
 refine eS.q rfl rfl (f32 x hx) (by simpa using JN x) (fun _=>by simp) ?_
 rintro⟨g,p⟩ ⟨hg,hp⟩
 dsimp only at hg hp
 simp
 refine eS.q rfl rfl (f33 g hg p hp) (by simp) (fun y=>by obtain⟨b,l⟩:=y;cases b<;>simp) ?_
 intro y hy
 simp
 obtain⟨b,l⟩:=y
 cases b
 ·simp
  exact Ey.i (g,p,false,l) rfl rfl ⟨hg,hp,fun h=>by cases h⟩
 ·simp
  exact Ey.i (g,p,true,l) rfl rfl ⟨hg,hp,hy⟩
