/- 28 -/
import Derived.Test.YtnaefnajkaohgaaGreatDoorH17
set_option linter.all false
namespace Go.Proofs.YtnaefnajkaohgaaGreatDoor
open Go Go.AL Classical
set_option maxRecDepth 10000
set_option maxHeartbeats 40000000
@[irreducible] def fT(x:Int×Int×Int):List D:=[.val (.int .u8 x.1),.val (.int .u8 x.2.1),.val (.int .u8 x.2.2)]
@[simp] theorem alo(x:Int×Int×Int):fT x = [.val (.int .u8 x.1),.val (.int .u8 x.2.1),.val (.int .u8 x.2.2)]:=by unfold fT;rfl
instance:Fl fT 3:=⟨fun _=>by simp,fun _=>by simp[fu,closed]⟩
structure Raw where
 w:Int
 h:Int
 c:Int
 k0:List Int
 k1:List Int
 cl:List (Int×Int×Int)
 f0:Int
 f1:Int
 f2:Int
 f3:Int
 f4:Int
 f5:Int
def Raw.cells(r:Raw):List D:=[.val (.int .u8 r.w),.val (.int .u8 r.h),.val (.int .u8 r.c),dU r.k0,dU r.k1,.sl 3 (r.cl.map fT),.val (.int .u8 r.f0),.val (.int .u8 r.f1),.val (.int .u8 r.f2),.val (.int .u8 r.f3),.val (.int .u8 r.f4),.val (.int .u8 r.f5)]
def k8(n:Int):Prop:=0≤n∧n<256
structure NS(r:Raw):Prop where
 w:k8 r.w
 h:k8 r.h
 c:k8 r.c
 k0:∀ n∈r.k0,k8 n
 k1:∀ n∈r.k1,k8 n
 cl:∀ x∈r.cl,k8 x.1∧k8 x.2.1∧k8 x.2.2
 f0:k8 r.f0
 f1:k8 r.f1
 f2:k8 r.f2
 f3:k8 r.f3
 f4:k8 r.f4
 f5:k8 r.f5
def Ji{α:Type}{sz:Nat}{f:α→List D}{l:List α}(h:l≠[]):D.sl sz (l.map f)=dN sz f l:=by
 cases l with
 | nil=>exact absurd rfl h
 | cons a r=>rfl
attribute [local simp] Raw.cells
@[simp] theorem akv(l:List Kind)(n:ByteArray)(p:List (List eO))(k:Bool):cl Kind.cells l ++ [.val (.string n),dN 1 fP p,.b k]=cl Kind.cells (l ++ [⟨n,p,k⟩]):=by rw[← pR];rfl
@[simp] theorem aks(l:List Clause)(a b c d:Int):cl Clause.cells l ++ [.i a,.i b,.i c,.i d]=cl Clause.cells (l ++ [⟨a,b,c,d⟩]):=by rw[← pR];rfl
structure pO(kinds size:Int)(c:Clause):Prop where
 ok:(c.cond=1∧0≤c.kind∧c.kind<kinds∧c.n=0)∨(c.cond=2∧0≤c.kind∧c.kind<kinds∧0≤c.n∧c.n<size)∨(c.cond=3∧c.kind=0∧0≤c.n∧c.n≤64)
 out:1≤c.out∧c.out≤3
structure A4(N R i:Int)(ks:List Kind):Prop where
 len:ks.length=i.toNat
 names:∀ k:Int,0≤k→k<i→(gt ks k).name=kindName k
 gT:∀ k∈ks,k.gT.length≤4∧∀ l∈k.gT,s5 8 N R l∧1≤l.length
def A4.add{N R i:Int}{ks:List Kind}(h:A4 N R i ks)(i0:0≤i){nm:ByteArray}(hn:nm=kindName i){ps:List (List eO)}{kp:Bool}(h1:ps.length≤4)(h2:∀ l∈ps,s5 8 N R l∧1≤l.length):A4 N R (i+1) (ks ++ [⟨nm,ps,kp⟩]):=by
 have hl:=h.len
 refine⟨by simp;omega,fun k k0 k1=>?_,fun k hk=>?_⟩
 ·by_cases e:k=i
  ·have:gt (ks ++ [(⟨nm,ps,kp⟩:Kind)]) k=⟨nm,ps,kp⟩:=by
    subst e
    simp[gt,← hl]
   rw[this,hn,e]
  ·have:gt (ks ++ [(⟨nm,ps,kp⟩:Kind)]) k=gt ks k:=by
    have:k.toNat<ks.length:=by omega
    simp[gt,ag this]
   rw[this]
   exact h.names k k0 (by omega)
 ·rcases List.mem_append.1 hk with hk|hk
  ·exact h.gT k hk
  ·rw[List.mem_singleton.1 hk];exact⟨h1,h2⟩
def Kw{size:Int}{next:List (List Int)}{gU:List Int}{ks:List Kind}{R:Int}{M:Bool}{cs:List Clause}{B E i:Int}(qN:mX (x8 size next gU))(hi:1≤i∧i≤2)(hK:A4 i R i ks)(hR:0≤R∧R≤2)(hc:∀ c∈cs,pO i size c)(hl:cs.length≤3)(hB:1≤B∧B≤3)(hE:1≤E∧E≤3):fe ⟨size,next,gU,ks,R,M,cs,B,E⟩:=by
 have hlen:=hK.len
 have zH:(ks.length:Int)=i:=by omega
 refine⟨⟨qN.size,qN.next,qN.row,qN.gU,qN.turns⟩,by dsimp only;omega,fun k k0 k1=>hK.names k k0 (by dsimp only at k1;omega),fun k hk=>⟨(hK.gT k hk).1,fun l hl=>?_⟩,hR,hl,fun c h=>?_,hB,hE⟩
 ·obtain⟨p,p1⟩:=(hK.gT k hk).2 l hl
  exact⟨⟨p1,p.len⟩,fun x hx=>⟨by
   have:=p.steps x hx
   dsimp only
   rw[zH]
   exact this⟩,p.rX,p.push,p.Gv⟩
 ·have h1:=(hc c h).ok
  have h2:=(hc c h).out
  exact⟨by dsimp only;rw[zH];exact h1,h2⟩
def f57(r:Raw)(hr:NS r):Wf T 57 [.agg r.cells] [] (Ey dG fe):=by
 have h0:=kC (a:=r.f0) (b:=3) hr.f0.1
 have w0:IntKind.i64.wrap r.f0=r.f0:=pf ⟨by have:=hr.f0.1;omega,by have:=hr.f0.2;omega⟩
 refine Yz AX (jg 86 [1085] AX.body) ?_
 simp[AX,gL,jg,lD,lH,lS,ku,Raw.cells,w0]
 refine Yv (f104 r.w r.h r.c hr.w hr.h hr.c) fun bd qN=>?_
 simp
 obtain⟨size,next,gU⟩:=bd
 simp[bD]at qN ⊢
 (with_reducible repeat' first|refine Xk ?_<;>try simp|refine Xs ?_ ?_<;>intro h<;>(try intro h')<;>(try simp[h])<;>try omega|refine Xg ?_|omega)
 all_goals
  obtain⟨N,KH,hN,KJ⟩:∃ N:Int,(N=if 0<r.k1.length then 2 else 1)∧(1≤N∧N≤2)∧(N=2→0<r.k1.length):=⟨_,rfl,by split<;>omega,by split<;>omega⟩
  simp only[if_pos,if_neg,h,if_false,if_true,not_false_eq_true]at KH
  obtain⟨M,hM⟩:∃ M:Bool,decide (eZ r.f1 4=3)=M:=⟨_,rfl⟩
  have zT:0≤eZ r.f0 3∧eZ r.f0 3≤2:=by have:=hr.f0.1;unfold k8 at *;omega
  obtain⟨R,PE⟩:∃ R,eZ r.f0 3=R:=⟨_,rfl⟩
  rw[PE]at zT
  refine eN.k ((0,0,[]):Int×Nat×List Kind) (fun y=>[(1,.ptr 0 0 0),(2,.ptr 1 0 0),(3,.ptr 2 0 0),(4,.i N),(5,.i y.1)]) (fun y=>.row 27 0 r.cells :: .row 41 0 [.i 0,.eG,.eG,.eG,.i 0,.b false,.eG,.i 0,.i 0] :: .row 41 0 [.i size,.sl 1 (next.map fI),dI gU,(if y.1=0 then .eG else .eF 3 y.2.1 3 0 y.2.2.length),.i R,.b M,.eG,.i 3,.i 2]::(if y.1=0 then []else [.row 87 y.2.1 (cl Kind.cells y.2.2)])) (fun y=>0≤y.1∧y.1≤N∧A4 N R y.1 y.2.2) (fun y=>(N-y.1).toNat) ?_ (by simp[KH]) (by simp[Raw.cells,hM,PE,w0]) rfl rfl rfl ?_
  ·exact⟨by omega,by show(0:Int)≤N;omega,rfl,fun k h1 h2=>by exfalso;dsimp only at h2;omega,by simp⟩
  clear KH h
  rintro⟨i,gn,ks⟩ ⟨i0,i1,iK⟩
  dsimp only at i0 i1 iK ⊢
  have i2:=iK.len
  by_cases hi:i<N
  ·by_cases hz:i=0
   ·have lX:ks = []:=aB.1 (by omega)
    subst hz;subst lX
    simp[hi,Raw.cells]
    (with_reducible repeat' first|refine Xk ?_<;>try simp[hi]|refine Xs ?_ ?_<;>intro h<;>(try intro h')<;>(try simp[h,hi])<;>try omega|refine Xg ?_|omega)
    generalize decide (bits BinOp.and IntKind.u8 (tV IntKind.u8 r.f2 0) 1=1)=kp
    refine eN.e ((0,0,[]):Int×Nat×List (List eO)) (fun y=>[(1,.ptr 0 0 0),(2,.ptr 1 0 0),(3,.ptr 2 0 0),(4,.i N),(5,.i 0),(6,.ptr 4 0 0),(7,.i y.1)]) (fun y=>.row 27 0 r.cells :: .row 41 0 [.i 0,.eG,.eG,.eG,.i 0,.b false,.eG,.i 0,.i 0] :: .row 41 0 [.i size,.sl 1 (next.map fI),dI gU,.eG,.i R,.b M,.eG,.i 3,.i 2] :: .row 9 0 [.val (.string ⟨#[97]⟩),.val (.string ⟨#[98,101,101]⟩)] :: .row 87 0 [.val (.string ⟨#[97]⟩),(if y.1=0 then .eG else .eF 5 y.2.1 1 0 y.2.2.length),.b kp]::(if y.1=0 then []else [.row 84 y.2.1 (cl fP y.2.2)])) (fun y=>0≤y.1∧y.1≤4∧y.1≤r.k0.length∧y.2.2.length=y.1.toNat∧∀ l∈y.2.2,s5 8 N R l∧1≤l.length) (fun y=>(4-y.1).toNat) ?_ ?_
    ·simp
    rintro⟨j,gm,ps⟩ ⟨j0,j1,j2,j3,j4⟩
    dsimp only at j0 j1 j2 j3 j4 ⊢
    have rL:next.length=8:=qN.next
    by_cases hj:j<r.k0.length∧j<4
    ·have oE:=hr.k0 _ (eQ j0 hj.1)
     by_cases hz:j=0
     ·have lX:ps = []:=aB.1 (by omega)
      subst hz;subst lX
      simp[show 0<r.k0.length by omega,Raw.cells,rL]
      refine Yv (f105 (gt r.k0 0) N R oE) fun p hp=>?_
      simp
      (with_reducible repeat' first|refine Xk ?_<;>try simp|refine Xs ?_ ?_<;>intro h<;>(try intro h')<;>(try simp[h])<;>try omega|refine Xg ?_|omega)
      refine LJ.i (1,0,[p]) (by first|rfl|simp[ix]) (by first|rfl|simp[ix]) rfl rfl ?_
      exact qx ⟨rfl,fun l hl=>by rw[List.mem_singleton.1 hl];exact hp⟩
     ·rw[if_neg hz,if_neg hz]
      simp[hj.1,hj.2,Raw.cells,rL,hz]
      refine⟨j0,?_⟩
      refine Yv (f105 (gt r.k0 j) N R oE) fun p hp=>?_
      simp
      (with_reducible repeat' first|refine Xk ?_<;>try simp[hz]|refine Xs ?_ ?_<;>intro h<;>(try intro h')<;>(try simp[h,hz])<;>try omega|refine Xg ?_|omega)
      (with_reducible repeat' first|refine Xk ?_<;>try simp[hz]|refine Xs ?_ ?_<;>intro h<;>(try intro h')<;>(try simp[h,hz])<;>try omega|refine Xg ?_|omega)
      refine LJ.i (j+1,gm+1,ps ++ [p]) (by first|rfl|simp[show ¬ (j+1=0)by omega]) (by first|rfl|simp[show ¬ (j+1=0)by omega]) rfl rfl ?_
      refine⟨by dsimp only;omega,by dsimp only;omega,by dsimp only;omega,by dsimp only;omega,by simp;omega,fun l hl=>?_⟩
      rcases List.mem_append.1 hl with hl|hl
      ·exact j4 l hl
      ·rw[List.mem_singleton.1 hl];exact hp
    ·have e:¬ j<(r.k0.length:Int)∨¬ j<4:=by omega
     by_cases hz:j=0
     ·have lX:ps = []:=aB.1 (by omega)
      subst hz;subst lX
      have e:r.k0 = []:=aB.1 (by omega)
      simp[e,Raw.cells]
      (with_reducible repeat' first|refine Xk ?_<;>try simp|refine Xs ?_ ?_<;>intro h<;>(try intro h')<;>(try simp[h])<;>try omega|refine Xg ?_|omega)
      refine LJ.i (1,0,[⟨⟨#[97]⟩,[],kp⟩]) (by first|rfl|simp[ix,e,dN]) (by first|rfl|simp[ix,e,dN]) rfl rfl ?_
      exact eY (iK.add (by omega) rfl (by simp) (by simp))
     ·rw[if_neg hz,if_neg hz]
      have hd:D.sl 1 (ps.map fP)=dN 1 fP ps:=Ji (by intro h;simp[h]at j3;omega)
      by_cases hq:j<r.k0.length
      ·have:¬ j<4:=by omega
       simp[Raw.cells,hz,hq,this]
       refine LJ.i (1,0,[⟨⟨#[97]⟩,ps,kp⟩]) (by first|rfl|simp[ix,hd]) (by first|rfl|simp[ix,hd]) rfl rfl ?_
       exact eY (iK.add (by omega) rfl (by omega) j4)
      ·simp[Raw.cells,hz,hq]
       refine LJ.i (1,0,[⟨⟨#[97]⟩,ps,kp⟩]) (by first|rfl|simp[ix,hd]) (by first|rfl|simp[ix,hd]) rfl rfl ?_
       exact eY (iK.add (by omega) rfl (by omega) j4)
   ·have iZ:i=1:=by omega
    subst iZ
    have WN:N=2:=by omega
    subst WN
    rw[if_neg hz,if_neg hz]
    simp[Raw.cells]
    (with_reducible repeat' first|refine Xk ?_<;>try simp|refine Xs ?_ ?_<;>intro h<;>(try intro h')<;>(try simp[h])<;>try omega|refine Xg ?_|omega)
    clear hz
    simp at i2
    generalize decide (bits BinOp.and IntKind.u8 (tV IntKind.u8 r.f2 1) 1=1)=kp
    refine eN.e ((0,0,[]):Int×Nat×List (List eO)) (fun y=>[(1,.ptr 0 0 0),(2,.ptr 1 0 0),(3,.ptr 2 0 0),(4,(.i 2)),(5,.i 1),(6,.ptr 5 0 0),(7,.i y.1)]) (fun y=>.row 27 0 r.cells :: .row 41 0 [.i 0,.eG,.eG,.eG,.i 0,.b false,.eG,.i 0,.i 0] :: .row 41 0 [.i size,.sl 1 (next.map fI),dI gU,.eF 3 gn 3 0 ks.length,.i R,.b M,.eG,.i 3,.i 2] :: .row 87 gn (cl Kind.cells ks) :: .row 9 0 [.val (.string ⟨#[97]⟩),.val (.string ⟨#[98,101,101]⟩)] :: .row 87 0 [.val (.string ⟨#[98,101,101]⟩),(if y.1=0 then .eG else .eF 6 y.2.1 1 0 y.2.2.length),.b kp]::(if y.1=0 then []else [.row 84 y.2.1 (cl fP y.2.2)])) (fun y=>0≤y.1∧y.1≤4∧y.1≤r.k1.length∧y.2.2.length=y.1.toNat∧∀ l∈y.2.2,s5 8 2 R l∧1≤l.length) (fun y=>(4-y.1).toNat) ?_ ?_
    ·simp
    rintro⟨j,gm,ps⟩ ⟨j0,j1,j2,j3,j4⟩
    dsimp only at j0 j1 j2 j3 j4 ⊢
    have rL:next.length=8:=qN.next
    by_cases hj:j<r.k1.length∧j<4
    ·have oE:=hr.k1 _ (eQ j0 hj.1)
     by_cases hz:j=0
     ·have lX:ps = []:=aB.1 (by omega)
      subst hz;subst lX
      simp[show 0<r.k1.length by omega,Raw.cells,rL]
      refine Yv (f105 (gt r.k1 0) 2 R oE) fun p hp=>?_
      simp
      (with_reducible repeat' first|refine Xk ?_<;>try simp|refine Xs ?_ ?_<;>intro h<;>(try intro h')<;>(try simp[h])<;>try omega|refine Xg ?_|omega)
      refine LJ.i (1,0,[p]) (by first|rfl|simp[ix]) (by first|rfl|simp[ix]) rfl rfl ?_
      exact qx ⟨rfl,fun l hl=>by rw[List.mem_singleton.1 hl];exact hp⟩
     ·rw[if_neg hz,if_neg hz]
      simp[hj.1,hj.2,Raw.cells,rL,hz]
      refine⟨j0,?_⟩
      refine Yv (f105 (gt r.k1 j) 2 R oE) fun p hp=>?_
      simp
      (with_reducible repeat' first|refine Xk ?_<;>try simp[hz]|refine Xs ?_ ?_<;>intro h<;>(try intro h')<;>(try simp[h,hz])<;>try omega|refine Xg ?_|omega)
      (with_reducible repeat' first|refine Xk ?_<;>try simp[hz]|refine Xs ?_ ?_<;>intro h<;>(try intro h')<;>(try simp[h,hz])<;>try omega|refine Xg ?_|omega)
      refine LJ.i (j+1,gm+1,ps ++ [p]) (by first|rfl|simp[show ¬ (j+1=0)by omega]) (by first|rfl|simp[show ¬ (j+1=0)by omega]) rfl rfl ?_
      refine⟨by dsimp only;omega,by dsimp only;omega,by dsimp only;omega,by dsimp only;omega,by simp;omega,fun l hl=>?_⟩
      rcases List.mem_append.1 hl with hl|hl
      ·exact j4 l hl
      ·rw[List.mem_singleton.1 hl];exact hp
    ·have e:¬ j<(r.k1.length:Int)∨¬ j<4:=by omega
     by_cases hz:j=0
     ·have lX:ps = []:=aB.1 (by omega)
      subst hz;subst lX
      have e:r.k1 = []:=aB.1 (by omega)
      exact absurd e (by intro e;have:=KJ rfl;simp[e]at this)
     ·rw[if_neg hz,if_neg hz]
      have hd:D.sl 1 (ps.map fP)=dN 1 fP ps:=Ji (by intro h;simp[h]at j3;omega)
      by_cases hq:j<r.k1.length
      ·have:¬ j<4:=by omega
       simp[Raw.cells,hz,hq,this]
       (with_reducible repeat' first|refine Xk ?_<;>try simp|refine Xs ?_ ?_<;>intro h<;>(try intro h')<;>(try simp[h])<;>try omega|refine Xg ?_|omega)
       refine LJ.i (1+1,gn+1,ks ++ [⟨⟨#[98,101,101]⟩,ps,kp⟩]) (by first|rfl|simp[hd]) (by first|rfl|simp[hd]) rfl rfl ?_
       exact eY (iK.add (by omega) rfl (by omega) j4)
      ·simp[Raw.cells,hz,hq]
       (with_reducible repeat' first|refine Xk ?_<;>try simp|refine Xs ?_ ?_<;>intro h<;>(try intro h')<;>(try simp[h])<;>try omega|refine Xg ?_|omega)
       refine LJ.i (1+1,gn+1,ks ++ [⟨⟨#[98,101,101]⟩,ps,kp⟩]) (by first|rfl|simp[hd]) (by first|rfl|simp[hd]) rfl rfl ?_
       exact eY (iK.add (by omega) rfl (by omega) j4)
  ·have Xz:i=N:=by omega
   have hz:¬ i=0:=by omega
   rw[if_neg hz,if_neg hz]
   have PX:=hr.f3;have hf4:=hr.f4
   have q3:=C5 r.f3 4
   have q4:=C5 r.f4 4
   have e3:=kC (a:=iV .u8 r.f3 4) (b:=3) q3.1
   have e4:=kC (a:=iV .u8 r.f4 4) (b:=3) q4.1
   have w3:IntKind.i64.wrap (iV .u8 r.f3 4)=iV .u8 r.f3 4:=pf oO
   have w4:IntKind.i64.wrap (iV .u8 r.f4 4)=iV .u8 r.f4 4:=pf oO
   simp[Raw.cells,hi,w3,w4]
   subst Xz
   have iN:1≤i∧i≤2:=hN
   clear e3 e4
   have e3:0≤eZ (iV .u8 r.f3 4) 3∧eZ (iV .u8 r.f3 4) 3≤2:=by have:=kC (a:=iV .u8 r.f3 4) (b:=3) q3.1;omega
   have e4:0≤eZ (iV .u8 r.f4 4) 3∧eZ (iV .u8 r.f4 4) 3≤2:=by have:=kC (a:=iV .u8 r.f4 4) (b:=3) q4.1;omega
   (with_reducible repeat' first|refine Xk ?_<;>try simp[w3,w4]|refine Xs ?_ ?_<;>intro h<;>(try intro h')<;>(try simp[h,w3,w4])<;>try omega|refine Xg ?_|omega)
   all_goals
    obtain⟨B,hB,KF⟩:∃ B:Int,(B=if eZ r.f3 4=3 then 1+eZ (iV .u8 r.f3 4) 3 else 3)∧1≤B∧B≤3:=⟨_,rfl,by split<;>omega⟩
    obtain⟨E,hE,BO⟩:∃ E:Int,(E=if eZ r.f4 4=3 then 1+eZ (iV .u8 r.f4 4) 3 else 2)∧1≤E∧E≤3:=⟨_,rfl,by split<;>omega⟩
    generalize eZ r.f3 4=T3 at *
    generalize eZ r.f4 4=T4 at *
    simp only[*,if_true,if_false]at hB hE
    refine eN.e ((0,0,[]):Int×Nat×List Clause) (fun y=>[(1,.ptr 0 0 0),(2,.ptr 1 0 0),(3,.ptr 2 0 0),(4,.i i),(8,.i y.1)]) (fun y=>.row 27 0 r.cells :: .row 41 0 [.i 0,.eG,.eG,.eG,.i 0,.b false,.eG,.i 0,.i 0] :: .row 41 0 [.i size,.sl 1 (next.map fI),dI gU,.eF 3 gn 3 0 ks.length,.i R,.b M,(if y.1=0 then .eG else .eF 4 y.2.1 4 0 y.2.2.length),.i B,.i E] :: .row 87 gn (cl Kind.cells ks)::(if y.1=0 then []else [.row 158 y.2.1 (cl Clause.cells y.2.2)])) (fun y=>0≤y.1∧y.1≤3∧y.1≤r.cl.length∧y.2.2.length=y.1.toNat∧∀ c∈y.2.2,pO i size c) (fun y=>(3-y.1).toNat) ?_ ?_
    ·simp
    clear hB hE
    rintro⟨j,gc,cs⟩ ⟨j0,j1,j2,j3,j4⟩
    dsimp only at j0 j1 j2 j3 j4 ⊢
    by_cases hj:j<r.cl.length∧j<3
    ·have oE:=hr.cl _ (eQ j0 hj.1)
     obtain⟨⟨ba,bb,bc⟩,hx⟩:∃ x,gt r.cl j=x:=⟨_,rfl⟩
     rw[hx]at oE
     obtain⟨⟨a0,a1⟩,⟨b0,b1⟩,⟨c0,c1⟩⟩:=oE
     dsimp only at a0 a1 b0 b1 c0 c1
     have wa:IntKind.i64.wrap ba=ba:=pf oO
     have wb:IntKind.i64.wrap bb=bb:=pf oO
     have wc:IntKind.i64.wrap bc=bc:=pf oO
     have qa:=C5 ba 4
     have wq:IntKind.i64.wrap (iV .u8 ba 4)=iV .u8 ba 4:=pf oO
     have ra:0≤eZ ba 3∧eZ ba 3≤2:=by have:=kC (a:=ba) (b:=3) a0;omega
     have rq:0≤eZ (iV .u8 ba 4) 3∧eZ (iV .u8 ba 4) 3≤2:=by have:=kC (a:=iV .u8 ba 4) (b:=3) qa.1;omega
     have rb:0≤eZ bb i∧eZ bb i<i:=by
      have:=kC (a:=bb) (b:=i) b0
      have h1:=bW bb (show i≠0 by omega)
      have h2:=bU bb (show 0<i by omega)
      omega
     have gH:1≤size∧size≤9:=qN.size
     have rc:0≤eZ bc size∧eZ bc size<size:=by
      have:=kC (a:=bc) (b:=size) c0
      have h1:=bW bc (show size≠0 by omega)
      have h2:=bU bc (show 0<size by omega)
      omega
     have r3:0≤eZ bc 3∧eZ bc 3≤2:=by have:=kC (a:=bc) (b:=3) c0;omega
     have rM:size≠0:=by omega
     by_cases xJ:j=0
     ·have lX:cs = []:=aB.1 (by omega)
      subst xJ;subst lX
      simp[show 0<r.cl.length by omega,hx,wa,wb,wc,wq,hz,rM]
      (with_reducible repeat' first|refine Xk ?_<;>try simp[show 0<r.cl.length by omega,hx,wa,wb,wc,wq,hz,rM]|refine Xs ?_ ?_<;>intro h<;>(try intro h')<;>(try simp[h,show 0<r.cl.length by omega,hx,wa,wb,wc,wq,hz,rM])<;>try omega|refine Xg ?_|omega)
      ·have ok:pO i size ⟨3,0,eZ bc 3,1+eZ (iV .u8 ba 4) 3⟩:=⟨.inr (.inr ⟨rfl,rfl,r3.1,by dsimp only;omega⟩),by dsimp only;omega⟩
       refine LJ.i (1,0,[⟨3,0,eZ bc 3,1+eZ (iV .u8 ba 4) 3⟩]) (by first|rfl|simp[ix]) (by first|rfl|simp[ix]) rfl rfl ?_
       exact qx ⟨rfl,fun c hc=>by rw[List.mem_singleton.1 hc];exact ok⟩
      ·have ok:pO i size ⟨2,eZ bb i,eZ bc size,1+eZ (iV .u8 ba 4) 3⟩:=⟨.inr (.inl ⟨rfl,rb.1,rb.2,rc.1,rc.2⟩),by dsimp only;omega⟩
       refine LJ.i (1,0,[⟨2,eZ bb i,eZ bc size,1+eZ (iV .u8 ba 4) 3⟩]) (by first|rfl|simp[ix]) (by first|rfl|simp[ix]) rfl rfl ?_
       exact qx ⟨rfl,fun c hc=>by rw[List.mem_singleton.1 hc];exact ok⟩
      ·have ok:pO i size ⟨1+eZ ba 3,eZ bb i,0,1+eZ (iV .u8 ba 4) 3⟩:=⟨.inl (nj ⟨rb.1,rb.2,rfl⟩),by dsimp only;omega⟩
       refine LJ.i (1,0,[⟨1+eZ ba 3,eZ bb i,0,1+eZ (iV .u8 ba 4) 3⟩]) (by first|rfl|simp[ix]) (by first|rfl|simp[ix]) rfl rfl ?_
       exact qx ⟨rfl,fun c hc=>by rw[List.mem_singleton.1 hc];exact ok⟩
     ·rw[if_neg xJ,if_neg xJ]
      have pV:∀ a b c d,cl Clause.cells cs ++ [.val (.int .i64 a),.i b,.i c,.val (.int .i64 d)]=cl Clause.cells (cs ++ [⟨a,b,c,d⟩]):=fun a b c d=>by rw[← pR];rfl
      simp[hj.1,hj.2,hx,wa,wb,wc,wq,hz,rM]
      (with_reducible repeat' first|refine Xk ?_<;>try simp[hx,wa,wb,wc,wq,hz,rM]|refine Xs ?_ ?_<;>intro h<;>(try intro h')<;>(try simp[h,hx,wa,wb,wc,wq,hz,rM])<;>try omega|refine Xg ?_|omega)
      ·have ok:pO i size ⟨3,0,eZ bc 3,1+eZ (iV .u8 ba 4) 3⟩:=⟨.inr (.inr ⟨rfl,rfl,r3.1,by dsimp only;omega⟩),by dsimp only;omega⟩
       refine LJ.i (j+1,gc+1,cs ++ [⟨3,0,eZ bc 3,1+eZ (iV .u8 ba 4) 3⟩]) (by first|rfl|simp[show ¬ (j+1=0)by omega,pV]) (by first|rfl|simp[show ¬ (j+1=0)by omega,pV]) rfl rfl ?_
       exact⟨by dsimp only;omega,by dsimp only;omega,by dsimp only;omega,by dsimp only;omega,by simp;omega,fun c hc=>(List.mem_append.1 hc).elim (j4 c) fun hc=>by rw[List.mem_singleton.1 hc];exact ok⟩
      ·have ok:pO i size ⟨2,eZ bb i,eZ bc size,1+eZ (iV .u8 ba 4) 3⟩:=⟨.inr (.inl ⟨rfl,rb.1,rb.2,rc.1,rc.2⟩),by dsimp only;omega⟩
       refine LJ.i (j+1,gc+1,cs ++ [⟨2,eZ bb i,eZ bc size,1+eZ (iV .u8 ba 4) 3⟩]) (by first|rfl|simp[show ¬ (j+1=0)by omega,pV]) (by first|rfl|simp[show ¬ (j+1=0)by omega,pV]) rfl rfl ?_
       exact⟨by dsimp only;omega,by dsimp only;omega,by dsimp only;omega,by dsimp only;omega,by simp;omega,fun c hc=>(List.mem_append.1 hc).elim (j4 c) fun hc=>by rw[List.mem_singleton.1 hc];exact ok⟩
      ·have ok:pO i size ⟨1+eZ ba 3,eZ bb i,0,1+eZ (iV .u8 ba 4) 3⟩:=⟨.inl (nj ⟨rb.1,rb.2,rfl⟩),by dsimp only;omega⟩
       refine LJ.i (j+1,gc+1,cs ++ [⟨1+eZ ba 3,eZ bb i,0,1+eZ (iV .u8 ba 4) 3⟩]) (by first|rfl|simp[show ¬ (j+1=0)by omega,pV]) (by first|rfl|simp[show ¬ (j+1=0)by omega,pV]) rfl rfl ?_
       exact⟨by dsimp only;omega,by dsimp only;omega,by dsimp only;omega,by dsimp only;omega,by simp;omega,fun c hc=>(List.mem_append.1 hc).elim (j4 c) fun hc=>by rw[List.mem_singleton.1 hc];exact ok⟩
    ·by_cases xJ:j=0
     ·have lX:cs = []:=aB.1 (by omega)
      subst xJ;subst lX
      simp[show ¬ 0<r.cl.length by omega]
      (with_reducible repeat' first|refine Xk ?_<;>try simp|refine Xs ?_ ?_<;>intro h<;>(try intro h')<;>(try simp[h])<;>try omega|refine Xg ?_|omega)
      exact Ey.i ⟨size,next,gU,ks,R,M,[],B,E⟩ (by simp[dN]) rfl (Kw qN iN iK zT (by simp) (by simp) KF BO)
     ·rw[if_neg xJ,if_neg xJ]
      have hd:D.sl 4 (cs.map Clause.cells)=dN 4 Clause.cells cs:=Ji (by intro h;simp[h]at j3;omega)
      by_cases hq:j<r.cl.length
      ·have:¬ j<3:=by omega
       simp[hq,this]
       exact Ey.i ⟨size,next,gU,ks,R,M,cs,B,E⟩ (by simp[hd]) rfl (Kw qN iN iK zT j4 (by omega) KF BO)
      ·simp[hq]
       exact Ey.i ⟨size,next,gU,ks,R,M,cs,B,E⟩ (by simp[hd]) rfl (Kw qN iN iK zT j4 (by omega) KF BO)
end Go.Proofs.YtnaefnajkaohgaaGreatDoor
namespace Go.Proofs.YtnaefnajkaohgaaGreatDoor
open Go Go.AL Classical
set_option maxRecDepth 10000
set_option maxHeartbeats 4000000
attribute [local simp] Raw.cells
structure ph where
 r:Raw
 l:List Int
 IS:List Int
def ph.cells(x:ph):List D:=x.r.cells++(cl fU x.l ++ [dU x.IS])
attribute [local simp] ph.cells
def Ow(x:ph):closed (.agg x.cells)=true:=by
 simp[Ou,fu]
structure DL(x:ph):Prop where
 r:NS x.r
 len:x.l.length=18
 l:∀ n∈x.l,0≤n∧n<256
 IS:∀ n∈x.IS,0≤n∧n<256
def f32(x:ph)(hx:DL x):Wf T 32 [.agg x.cells] [] (Ey (fun y:eH×Pos=>.tup [dG y.1,dP y.2]) fun y=>fe y.1∧fO y.1 y.2):=by
 obtain⟨r,l,p⟩:=x
 have hl:l.length=18:=hx.len
 refine Yz AT (gL 32 [1005] AT.body) ?_
 simp[AT,gL,jg,lD,lH,lS,ku,ph.cells]
 refine fg.q rfl rfl (f57 r hx.r) (by simp) (fun _=>by simp) ?_
 intro g hg
 simp
 (with_reducible repeat' first|refine Xk ?_<;>try simp|refine Xs ?_ ?_<;>intro h<;>(try intro h')<;>(try simp[h])<;>try omega|refine Xg ?_|omega)
 refine eN.e ((0,0,[]):Int×Nat×List Int) (fun y=>[(1,.ptr 0 0 0),(2,.ptr 1 0 0),(3,.ptr 2 0 0),(4,.ptr 3 0 0),(5,.eF 4 y.2.1 1 0 y.2.2.length),(6,.i y.1)]) (fun y=>[.row 32 0 (ph.cells ⟨r,l,p⟩),.row 41 0 [.i 0,.eG,.eG,.eG,.i 0,.b false,.eG,.i 0,.i 0],.row 44 0 [.eG,.eG,.eG,.i 0,.i 0],.row 41 0 g.cells,.row 3 y.2.1 (cl f1 y.2.2)]) (fun y=>0≤y.1∧y.1≤6∧y.1≤p.length∧y.2.2.length=y.1.toNat∧∀ n∈y.2.2,0≤n∧n<256) (fun y=>(6-y.1).toNat) ?_ ?_
 ·simp
 rintro⟨i,gn,ns⟩ ⟨i0,i1,i2,i3,i4⟩
 dsimp only at i0 i1 i2 i3 i4 ⊢
 have al5:l.length+12=30:=by omega
 by_cases hi:i<p.length∧i<6
 ·have hb:=hx.IS _ (eQ i0 hi.1)
  dsimp only at hb
  have hw:IntKind.i64.wrap (gt p i)=gt p i:=pf oO
  simp[ph.cells,hi.1,hi.2,hl,hw]
  (with_reducible repeat' first|refine Xk ?_<;>try simp[hw]|refine Xs ?_ ?_<;>intro h<;>(try intro h')<;>(try simp[h,hw])<;>try omega|refine Xg ?_|omega)
  refine LJ.e (i+1,gn+1,ns ++ [gt p i]) ?_
  refine⟨by dsimp only;omega,by dsimp only;omega,by dsimp only;omega,by dsimp only;omega,by simp;omega,fun n hn=>?_⟩
  rcases List.mem_append.1 hn with hn|hn
  ·exact i4 n hn
  ·rw[List.mem_singleton.1 hn];exact hb
 ·by_cases hq:i<p.length
  ·have:¬ i<6:=by omega
   simp[ph.cells,hq,this,hl]
   refine Yv (f59 g hg l hl hx.l) fun q hq=>?_
   simp
   refine Yv (f58 g hg q hq ns (by omega) i4) fun qs HZ=>?_
   simp
   obtain⟨⟨Yw,zP⟩,Lv⟩:=HZ
   (with_reducible repeat' first|refine Xk ?_<;>try simp|refine Xs ?_ ?_<;>intro h<;>(try intro h')<;>(try simp[h])<;>try omega|refine Xg ?_|omega)
   exact Ey.i (g,gt qs (qs.length-1)) rfl rfl ⟨hg,Lv _ (eQ (by omega) (by omega))⟩
  ·simp[ph.cells,hq,hl]
   refine Yv (f59 g hg l hl hx.l) fun q hq=>?_
   simp
   refine Yv (f58 g hg q hq ns (by omega) i4) fun qs HZ=>?_
   simp
   obtain⟨⟨Yw,zP⟩,Lv⟩:=HZ
   (with_reducible repeat' first|refine Xk ?_<;>try simp|refine Xs ?_ ?_<;>intro h<;>(try intro h')<;>(try simp[h])<;>try omega|refine Xg ?_|omega)
   exact Ey.i (g,gt qs (qs.length-1)) rfl rfl ⟨hg,Lv _ (eQ (by omega) (by omega))⟩
def f12(x:ph)(hx:DL x):Wf T 12 [.agg x.cells,.i 80] [] (Ey (fun y:eH×Pos×Bool×List Pos=>.agg (y.1.cells++(y.2.1.cells ++ [if y.2.2.1 then e7 y.2.2.2 else .eG,.b y.2.2.1]))) fun y=>fe y.1∧fO y.1 y.2.1∧(y.2.2.1=true→DM y.1 y.2.2.2)):=by
 have hl:x.l.length=18:=hx.len
 refine Yg D0 ?_
 simp[D0,hl]
 refine fg.q rfl rfl (f32 x hx) (by simpa using Ow x) (fun _=>by simp) ?_
 rintro⟨g,p⟩ ⟨hg,hp⟩
 dsimp only at hg hp
 simp
 refine fg.q rfl rfl (f33 g hg p hp) (by simp) (fun y=>by obtain⟨b,l⟩:=y;cases b<;>simp) ?_
 intro y hy
 simp
 obtain⟨b,l⟩:=y
 cases b
 ·simp
  exact Ey.i (g,p,false,l) rfl rfl ⟨hg,hp,fun h=>by cases h⟩
 ·simp
  exact Ey.i (g,p,true,l) rfl rfl ⟨hg,hp,hy⟩
