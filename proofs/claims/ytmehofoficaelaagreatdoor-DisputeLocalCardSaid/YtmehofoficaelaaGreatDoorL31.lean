/- Part 31 of DisputeLocal. -/
import Derived.Test.YtmehofoficaelaaGreatDoorL19
set_option linter.all false
namespace Go.Proofs.YtmehofoficaelaaGreatDoor
open Go Go.AL Classical
set_option maxRecDepth 10000
set_option maxHeartbeats 40000000
@[irreducible] def fT(x:Int×Int×Int):List D:=[.val (.int .u8 x.1),.val (.int .u8 x.2.1),.val (.int .u8 x.2.2)]
@[simp] theorem als(x:Int×Int×Int):fT x = [.val (.int .u8 x.1),.val (.int .u8 x.2.1),.val (.int .u8 x.2.2)]:=by unfold fT;rfl
instance:Fl fT 3:=⟨fun _=>by simp,fun _=>by simp[fE,closed]⟩
structure Raw where
 w:Int
 h:Int
 c:Int
 k0:List Int
 k1:List Int
 cl:List (Int×Int×Int)
 f0:Int
 f1:Int
 f2:Int
 f3:Int
 f4:Int
 f5:Int
def Raw.cells(r:Raw):List D:=[.val (.int .u8 r.w),.val (.int .u8 r.h),.val (.int .u8 r.c),dU r.k0,dU r.k1,.sl 3 (r.cl.map fT),.val (.int .u8 r.f0),.val (.int .u8 r.f1),.val (.int .u8 r.f2),.val (.int .u8 r.f3),.val (.int .u8 r.f4),.val (.int .u8 r.f5)]
def lk(n:Int):Prop:=0≤n∧n<256
structure Oj(r:Raw):Prop where
 w:lk r.w
 h:lk r.h
 c:lk r.c
 k0:∀ n∈r.k0,lk n
 k1:∀ n∈r.k1,lk n
 cl:∀ x∈r.cl,lk x.1∧lk x.2.1∧lk x.2.2
 f0:lk r.f0
 f1:lk r.f1
 f2:lk r.f2
 f3:lk r.f3
 f4:lk r.f4
 f5:lk r.f5
def MZ{α:Type}{sz:Nat}{f:α→List D}{l:List α}(h:l≠[]):D.sl sz (l.map f)=dN sz f l:=by
 cases l with
 | nil=>exact absurd rfl h
 | cons a r=>rfl
attribute [local simp] Raw.cells
@[simp] theorem akA(l:List Kind)(n:ByteArray)(p:List (List fe))(k:Bool):cl Kind.cells l ++ [.val (.string n),dN 1 fP p,.b k]=cl Kind.cells (l ++ [⟨n,p,k⟩]):=by rw[← oR];rfl
@[simp] theorem akx(l:List Clause)(a b c d:Int):cl Clause.cells l ++ [.i a,.i b,.i c,.i d]=cl Clause.cells (l ++ [⟨a,b,c,d⟩]):=by rw[← oR];rfl
structure pC(kinds size:Int)(c:Clause):Prop where
 ok:(c.cond=1∧0≤c.kind∧c.kind<kinds∧c.n=0)∨(c.cond=2∧0≤c.kind∧c.kind<kinds∧0≤c.n∧c.n<size)∨(c.cond=3∧c.kind=0∧0≤c.n∧c.n≤64)
 out:1≤c.out∧c.out≤3
structure A1(N R i:Int)(ks:List Kind):Prop where
 len:ks.length=i.toNat
 names:∀ k:Int,0≤k→k<i→(gt ks k).name=kindName k
 iG:∀ k∈ks,k.iG.length≤4∧∀ l∈k.iG,sJ 8 N R l∧1≤l.length
def A1.add{N R i:Int}{ks:List Kind}(h:A1 N R i ks)(i0:0≤i){nm:ByteArray}(hn:nm=kindName i){ps:List (List fe)}{kp:Bool}(h1:ps.length≤4)(h2:∀ l∈ps,sJ 8 N R l∧1≤l.length):A1 N R (i+1) (ks ++ [⟨nm,ps,kp⟩]):=by
 have hl:=h.len
 refine⟨by simp;omega,fun k k0 k1=>?_,fun k hk=>?_⟩
 ·by_cases e:k=i
  ·have:gt (ks ++ [(⟨nm,ps,kp⟩:Kind)]) k=⟨nm,ps,kp⟩:=by
    subst e
    simp[gt,← hl]
   rw[this,hn,e]
  ·have:gt (ks ++ [(⟨nm,ps,kp⟩:Kind)]) k=gt ks k:=by
    have:k.toNat<ks.length:=by omega
    simp[gt,ag this]
   rw[this]
   exact h.names k k0 (by omega)
 ·rcases List.mem_append.1 hk with hk|hk
  ·exact h.iG k hk
  ·rw[List.mem_singleton.1 hk];exact⟨h1,h2⟩
def Ke{size:Int}{next:List (List Int)}{iT:List Int}{ks:List Kind}{R:Int}{M:Bool}{cs:List Clause}{B E i:Int}(qy:mY (ya size next iT))(hi:1≤i∧i≤2)(hK:A1 i R i ks)(hR:0≤R∧R≤2)(hc:∀ c∈cs,pC i size c)(hl:cs.length≤3)(hB:1≤B∧B≤3)(hE:1≤E∧E≤3):gh ⟨size,next,iT,ks,R,M,cs,B,E⟩:=by
 have hlen:=hK.len
 have xK:(ks.length:Int)=i:=by omega
 refine⟨⟨qy.size,qy.next,qy.row,qy.iT,qy.turns⟩,by dsimp only;omega,fun k k0 k1=>hK.names k k0 (by dsimp only at k1;omega),fun k hk=>⟨(hK.iG k hk).1,fun l hl=>?_⟩,hR,hl,fun c h=>?_,hB,hE⟩
 ·obtain⟨p,p1⟩:=(hK.iG k hk).2 l hl
  exact⟨⟨p1,p.len⟩,fun x hx=>⟨by
   have:=p.steps x hx
   dsimp only
   rw[xK]
   exact this⟩,p.qU,p.push,p.Gl⟩
 ·have h1:=(hc c h).ok
  have h2:=(hc c h).out
  exact⟨by dsimp only;rw[xK];exact h1,h2⟩
def f57(r:Raw)(hr:Oj r):Wf T 98 [.agg r.cells] [] (Ey dG gh):=by
 have h0:=jT (a:=r.f0) (b:=3) hr.f0.1
 have w0:IntKind.i64.wrap r.f0=r.f0:=oO ⟨by have:=hr.f0.1;omega,by have:=hr.f0.2;omega⟩
 refine Yz AW (jJ 86 [1085] AW.body) ?_
 simp[AW,iu,jJ,mj,mn,mG,ln,Raw.cells,w0]
 refine Yv (f104 r.w r.h r.c hr.w hr.h hr.c) fun bd qy=>?_
 simp
 obtain⟨size,next,iT⟩:=bd
 simp[bD]at qy ⊢
 (with_reducible repeat' first|refine Xk ?_<;>try simp|refine Xs ?_ ?_<;>intro h<;>(try intro h')<;>(try simp[h])<;>try omega|refine Xg ?_|omega)
 all_goals
  obtain⟨N,Kt,hN,Ku⟩:∃ N:Int,(N=if 0<r.k1.length then 2 else 1)∧(1≤N∧N≤2)∧(N=2→0<r.k1.length):=⟨_,rfl,by split<;>omega,by split<;>omega⟩
  simp only[if_pos,if_neg,h,if_false,if_true,not_false_eq_true]at Kt
  obtain⟨M,hM⟩:∃ M:Bool,decide (fq r.f1 4=3)=M:=⟨_,rfl⟩
  have lX:0≤fq r.f0 3∧fq r.f0 3≤2:=by have:=hr.f0.1;unfold lk at *;omega
  obtain⟨R,P'⟩:∃ R,fq r.f0 3=R:=⟨_,rfl⟩
  rw[P']at lX
  refine fh.k ((0,0,[]):Int×Nat×List Kind) (fun y=>[(1,.ptr 0 0 0),(2,.ptr 1 0 0),(3,.ptr 2 0 0),(4,.i N),(5,.i y.1)]) (fun y=>.row 27 0 r.cells :: .row 43 0 [.i 0,.eU,.eU,.eU,.i 0,.b false,.eU,.i 0,.i 0] :: .row 43 0 [.i size,.sl 1 (next.map fI),dI iT,(if y.1=0 then .eU else .eX 3 y.2.1 3 0 y.2.2.length),.i R,.b M,.eU,.i 3,.i 2]::(if y.1=0 then []else [.row 140 y.2.1 (cl Kind.cells y.2.2)])) (fun y=>0≤y.1∧y.1≤N∧A1 N R y.1 y.2.2) (fun y=>(N-y.1).toNat) ?_ (by simp[Kt]) (by simp[Raw.cells,hM,P',w0]) rfl rfl rfl ?_
  ·exact⟨by omega,by show(0:Int)≤N;omega,rfl,fun k h1 h2=>by exfalso;dsimp only at h2;omega,by simp⟩
  clear Kt h
  rintro⟨i,gn,ks⟩ ⟨i0,i1,iK⟩
  dsimp only at i0 i1 iK ⊢
  have i2:=iK.len
  by_cases hi:i<N
  ·by_cases hz:i=0
   ·have mf:ks = []:=aB.1 (by omega)
    subst hz;subst mf
    simp[hi,Raw.cells]
    (with_reducible repeat' first|refine Xk ?_<;>try simp[hi]|refine Xs ?_ ?_<;>intro h<;>(try intro h')<;>(try simp[h,hi])<;>try omega|refine Xg ?_|omega)
    generalize decide (bits BinOp.and IntKind.u8 (mA IntKind.u8 r.f2 0) 1=1)=kp
    refine fh.e ((0,0,[]):Int×Nat×List (List fe)) (fun y=>[(1,.ptr 0 0 0),(2,.ptr 1 0 0),(3,.ptr 2 0 0),(4,.i N),(5,.i 0),(6,.ptr 4 0 0),(7,.i y.1)]) (fun y=>.row 27 0 r.cells :: .row 43 0 [.i 0,.eU,.eU,.eU,.i 0,.b false,.eU,.i 0,.i 0] :: .row 43 0 [.i size,.sl 1 (next.map fI),dI iT,.eU,.i R,.b M,.eU,.i 3,.i 2] :: .row 9 0 [.val (.string ⟨#[97]⟩),.val (.string ⟨#[98,101,101]⟩)] :: .row 140 0 [.val (.string ⟨#[97]⟩),(if y.1=0 then .eU else .eX 5 y.2.1 1 0 y.2.2.length),.b kp]::(if y.1=0 then []else [.row 175 y.2.1 (cl fP y.2.2)])) (fun y=>0≤y.1∧y.1≤4∧y.1≤r.k0.length∧y.2.2.length=y.1.toNat∧∀ l∈y.2.2,sJ 8 N R l∧1≤l.length) (fun y=>(4-y.1).toNat) ?_ ?_
    ·simp
    rintro⟨j,gm,ps⟩ ⟨j0,j1,j2,j3,j4⟩
    dsimp only at j0 j1 j2 j3 j4 ⊢
    have oV:next.length=8:=qy.next
    by_cases hj:j<r.k0.length∧j<4
    ·have nN:=hr.k0 _ (ft j0 hj.1)
     by_cases hz:j=0
     ·have mf:ps = []:=aB.1 (by omega)
      subst hz;subst mf
      simp[show 0<r.k0.length by omega,Raw.cells,oV]
      refine Yv (f105 (gt r.k0 0) N R nN (by omega) (by omega)) fun p hp=>?_
      simp
      (with_reducible repeat' first|refine Xk ?_<;>try simp|refine Xs ?_ ?_<;>intro h<;>(try intro h')<;>(try simp[h])<;>try omega|refine Xg ?_|omega)
      refine LJ.i (1,0,[p]) (by first|rfl|simp[jg]) (by first|rfl|simp[jg]) rfl rfl ?_
      exact wm ⟨rfl,fun l hl=>by rw[List.mem_singleton.1 hl];exact hp⟩
     ·rw[if_neg hz,if_neg hz]
      simp[hj.1,hj.2,Raw.cells,oV,hz]
      refine⟨j0,?_⟩
      refine Yv (f105 (gt r.k0 j) N R nN (by omega) (by omega)) fun p hp=>?_
      simp
      (with_reducible repeat' first|refine Xk ?_<;>try simp[hz]|refine Xs ?_ ?_<;>intro h<;>(try intro h')<;>(try simp[h,hz])<;>try omega|refine Xg ?_|omega)
      (with_reducible repeat' first|refine Xk ?_<;>try simp[hz]|refine Xs ?_ ?_<;>intro h<;>(try intro h')<;>(try simp[h,hz])<;>try omega|refine Xg ?_|omega)
      refine LJ.i (j+1,gm+1,ps ++ [p]) (by first|rfl|simp[show ¬ (j+1=0)by omega]) (by first|rfl|simp[show ¬ (j+1=0)by omega]) rfl rfl ?_
      refine⟨by dsimp only;omega,by dsimp only;omega,by dsimp only;omega,by dsimp only;omega,by simp;omega,fun l hl=>?_⟩
      rcases List.mem_append.1 hl with hl|hl
      ·exact j4 l hl
      ·rw[List.mem_singleton.1 hl];exact hp
    ·have e:¬ j<(r.k0.length:Int)∨¬ j<4:=by omega
     by_cases hz:j=0
     ·have mf:ps = []:=aB.1 (by omega)
      subst hz;subst mf
      have e:r.k0 = []:=aB.1 (by omega)
      simp[e,Raw.cells]
      (with_reducible repeat' first|refine Xk ?_<;>try simp|refine Xs ?_ ?_<;>intro h<;>(try intro h')<;>(try simp[h])<;>try omega|refine Xg ?_|omega)
      refine LJ.i (1,0,[⟨⟨#[97]⟩,[],kp⟩]) (by first|rfl|simp[jg,e,dN]) (by first|rfl|simp[jg,e,dN]) rfl rfl ?_
      exact fQ (iK.add (by omega) rfl (by simp) (by simp))
     ·rw[if_neg hz,if_neg hz]
      have hd:D.sl 1 (ps.map fP)=dN 1 fP ps:=MZ (by intro h;simp[h]at j3;omega)
      by_cases hq:j<r.k0.length
      ·have:¬ j<4:=by omega
       simp[Raw.cells,hz,hq,this]
       refine LJ.i (1,0,[⟨⟨#[97]⟩,ps,kp⟩]) (by first|rfl|simp[jg,hd]) (by first|rfl|simp[jg,hd]) rfl rfl ?_
       exact fQ (iK.add (by omega) rfl (by omega) j4)
      ·simp[Raw.cells,hz,hq]
       refine LJ.i (1,0,[⟨⟨#[97]⟩,ps,kp⟩]) (by first|rfl|simp[jg,hd]) (by first|rfl|simp[jg,hd]) rfl rfl ?_
       exact fQ (iK.add (by omega) rfl (by omega) j4)
   ·have jP:i=1:=by omega
    subst jP
    have Xc:N=2:=by omega
    subst Xc
    rw[if_neg hz,if_neg hz]
    simp[Raw.cells]
    (with_reducible repeat' first|refine Xk ?_<;>try simp|refine Xs ?_ ?_<;>intro h<;>(try intro h')<;>(try simp[h])<;>try omega|refine Xg ?_|omega)
    clear hz
    simp at i2
    generalize decide (bits BinOp.and IntKind.u8 (mA IntKind.u8 r.f2 1) 1=1)=kp
    refine fh.e ((0,0,[]):Int×Nat×List (List fe)) (fun y=>[(1,.ptr 0 0 0),(2,.ptr 1 0 0),(3,.ptr 2 0 0),(4,(.i 2)),(5,.i 1),(6,.ptr 5 0 0),(7,.i y.1)]) (fun y=>.row 27 0 r.cells :: .row 43 0 [.i 0,.eU,.eU,.eU,.i 0,.b false,.eU,.i 0,.i 0] :: .row 43 0 [.i size,.sl 1 (next.map fI),dI iT,.eX 3 gn 3 0 ks.length,.i R,.b M,.eU,.i 3,.i 2] :: .row 140 gn (cl Kind.cells ks) :: .row 9 0 [.val (.string ⟨#[97]⟩),.val (.string ⟨#[98,101,101]⟩)] :: .row 140 0 [.val (.string ⟨#[98,101,101]⟩),(if y.1=0 then .eU else .eX 6 y.2.1 1 0 y.2.2.length),.b kp]::(if y.1=0 then []else [.row 175 y.2.1 (cl fP y.2.2)])) (fun y=>0≤y.1∧y.1≤4∧y.1≤r.k1.length∧y.2.2.length=y.1.toNat∧∀ l∈y.2.2,sJ 8 2 R l∧1≤l.length) (fun y=>(4-y.1).toNat) ?_ ?_
    ·simp
    rintro⟨j,gm,ps⟩ ⟨j0,j1,j2,j3,j4⟩
    dsimp only at j0 j1 j2 j3 j4 ⊢
    have oV:next.length=8:=qy.next
    by_cases hj:j<r.k1.length∧j<4
    ·have nN:=hr.k1 _ (ft j0 hj.1)
     by_cases hz:j=0
     ·have mf:ps = []:=aB.1 (by omega)
      subst hz;subst mf
      simp[show 0<r.k1.length by omega,Raw.cells,oV]
      refine Yv (f105 (gt r.k1 0) 2 R nN (by omega) (by omega)) fun p hp=>?_
      simp
      (with_reducible repeat' first|refine Xk ?_<;>try simp|refine Xs ?_ ?_<;>intro h<;>(try intro h')<;>(try simp[h])<;>try omega|refine Xg ?_|omega)
      refine LJ.i (1,0,[p]) (by first|rfl|simp[jg]) (by first|rfl|simp[jg]) rfl rfl ?_
      exact wm ⟨rfl,fun l hl=>by rw[List.mem_singleton.1 hl];exact hp⟩
     ·rw[if_neg hz,if_neg hz]
      simp[hj.1,hj.2,Raw.cells,oV,hz]
      refine⟨j0,?_⟩
      refine Yv (f105 (gt r.k1 j) 2 R nN (by omega) (by omega)) fun p hp=>?_
      simp
      (with_reducible repeat' first|refine Xk ?_<;>try simp[hz]|refine Xs ?_ ?_<;>intro h<;>(try intro h')<;>(try simp[h,hz])<;>try omega|refine Xg ?_|omega)
      (with_reducible repeat' first|refine Xk ?_<;>try simp[hz]|refine Xs ?_ ?_<;>intro h<;>(try intro h')<;>(try simp[h,hz])<;>try omega|refine Xg ?_|omega)
      refine LJ.i (j+1,gm+1,ps ++ [p]) (by first|rfl|simp[show ¬ (j+1=0)by omega]) (by first|rfl|simp[show ¬ (j+1=0)by omega]) rfl rfl ?_
      refine⟨by dsimp only;omega,by dsimp only;omega,by dsimp only;omega,by dsimp only;omega,by simp;omega,fun l hl=>?_⟩
      rcases List.mem_append.1 hl with hl|hl
      ·exact j4 l hl
      ·rw[List.mem_singleton.1 hl];exact hp
    ·have e:¬ j<(r.k1.length:Int)∨¬ j<4:=by omega
     by_cases hz:j=0
     ·have mf:ps = []:=aB.1 (by omega)
      subst hz;subst mf
      have e:r.k1 = []:=aB.1 (by omega)
      exact absurd e (by intro e;have:=Ku rfl;simp[e]at this)
     ·rw[if_neg hz,if_neg hz]
      have hd:D.sl 1 (ps.map fP)=dN 1 fP ps:=MZ (by intro h;simp[h]at j3;omega)
      by_cases hq:j<r.k1.length
      ·have:¬ j<4:=by omega
       simp[Raw.cells,hz,hq,this]
       (with_reducible repeat' first|refine Xk ?_<;>try simp|refine Xs ?_ ?_<;>intro h<;>(try intro h')<;>(try simp[h])<;>try omega|refine Xg ?_|omega)
       refine LJ.i (1+1,gn+1,ks ++ [⟨⟨#[98,101,101]⟩,ps,kp⟩]) (by first|rfl|simp[hd]) (by first|rfl|simp[hd]) rfl rfl ?_
       exact fQ (iK.add (by omega) rfl (by omega) j4)
      ·simp[Raw.cells,hz,hq]
       (with_reducible repeat' first|refine Xk ?_<;>try simp|refine Xs ?_ ?_<;>intro h<;>(try intro h')<;>(try simp[h])<;>try omega|refine Xg ?_|omega)
       refine LJ.i (1+1,gn+1,ks ++ [⟨⟨#[98,101,101]⟩,ps,kp⟩]) (by first|rfl|simp[hd]) (by first|rfl|simp[hd]) rfl rfl ?_
       exact fQ (iK.add (by omega) rfl (by omega) j4)
  ·have XU:i=N:=by omega
   have hz:¬ i=0:=by omega
   rw[if_neg hz,if_neg hz]
   have Qt:=hr.f3;have hf4:=hr.f4
   have q3:=C2 r.f3 4
   have q4:=C2 r.f4 4
   have e3:=jT (a:=jq .u8 r.f3 4) (b:=3) q3.1
   have e4:=jT (a:=jq .u8 r.f4 4) (b:=3) q4.1
   have w3:IntKind.i64.wrap (jq .u8 r.f3 4)=jq .u8 r.f3 4:=oO jG
   have w4:IntKind.i64.wrap (jq .u8 r.f4 4)=jq .u8 r.f4 4:=oO jG
   simp[Raw.cells,hi,w3,w4]
   subst XU
   have iN:1≤i∧i≤2:=hN
   clear e3 e4
   have e3:0≤fq (jq .u8 r.f3 4) 3∧fq (jq .u8 r.f3 4) 3≤2:=by have:=jT (a:=jq .u8 r.f3 4) (b:=3) q3.1;omega
   have e4:0≤fq (jq .u8 r.f4 4) 3∧fq (jq .u8 r.f4 4) 3≤2:=by have:=jT (a:=jq .u8 r.f4 4) (b:=3) q4.1;omega
   (with_reducible repeat' first|refine Xk ?_<;>try simp[w3,w4]|refine Xs ?_ ?_<;>intro h<;>(try intro h')<;>(try simp[h,w3,w4])<;>try omega|refine Xg ?_|omega)
   all_goals
    obtain⟨B,hB,Kq⟩:∃ B:Int,(B=if fq r.f3 4=3 then 1+fq (jq .u8 r.f3 4) 3 else 3)∧1≤B∧B≤3:=⟨_,rfl,by split<;>omega⟩
    obtain⟨E,hE,BJ⟩:∃ E:Int,(E=if fq r.f4 4=3 then 1+fq (jq .u8 r.f4 4) 3 else 2)∧1≤E∧E≤3:=⟨_,rfl,by split<;>omega⟩
    generalize fq r.f3 4=T3 at *
    generalize fq r.f4 4=T4 at *
    simp only[*,if_true,if_false]at hB hE
    refine fh.e ((0,0,[]):Int×Nat×List Clause) (fun y=>[(1,.ptr 0 0 0),(2,.ptr 1 0 0),(3,.ptr 2 0 0),(4,.i i),(8,.i y.1)]) (fun y=>.row 27 0 r.cells :: .row 43 0 [.i 0,.eU,.eU,.eU,.i 0,.b false,.eU,.i 0,.i 0] :: .row 43 0 [.i size,.sl 1 (next.map fI),dI iT,.eX 3 gn 3 0 ks.length,.i R,.b M,(if y.1=0 then .eU else .eX 4 y.2.1 4 0 y.2.2.length),.i B,.i E] :: .row 140 gn (cl Kind.cells ks)::(if y.1=0 then []else [.row 253 y.2.1 (cl Clause.cells y.2.2)])) (fun y=>0≤y.1∧y.1≤3∧y.1≤r.cl.length∧y.2.2.length=y.1.toNat∧∀ c∈y.2.2,pC i size c) (fun y=>(3-y.1).toNat) ?_ ?_
    ·simp
    clear hB hE
    rintro⟨j,gc,cs⟩ ⟨j0,j1,j2,j3,j4⟩
    dsimp only at j0 j1 j2 j3 j4 ⊢
    by_cases hj:j<r.cl.length∧j<3
    ·have nN:=hr.cl _ (ft j0 hj.1)
     obtain⟨⟨ba,bb,bc⟩,hx⟩:∃ x,gt r.cl j=x:=⟨_,rfl⟩
     rw[hx]at nN
     obtain⟨⟨a0,a1⟩,⟨b0,b1⟩,⟨c0,c1⟩⟩:=nN
     dsimp only at a0 a1 b0 b1 c0 c1
     have wa:IntKind.i64.wrap ba=ba:=oO jG
     have wb:IntKind.i64.wrap bb=bb:=oO jG
     have wc:IntKind.i64.wrap bc=bc:=oO jG
     have qa:=C2 ba 4
     have wq:IntKind.i64.wrap (jq .u8 ba 4)=jq .u8 ba 4:=oO jG
     have ra:0≤fq ba 3∧fq ba 3≤2:=by have:=jT (a:=ba) (b:=3) a0;omega
     have rq:0≤fq (jq .u8 ba 4) 3∧fq (jq .u8 ba 4) 3≤2:=by have:=jT (a:=jq .u8 ba 4) (b:=3) qa.1;omega
     have rb:0≤fq bb i∧fq bb i<i:=by
      have:=jT (a:=bb) (b:=i) b0
      have h1:=bW bb (show i≠0 by omega)
      have h2:=bS bb (show 0<i by omega)
      omega
     have gV:1≤size∧size≤9:=qy.size
     have rc:0≤fq bc size∧fq bc size<size:=by
      have:=jT (a:=bc) (b:=size) c0
      have h1:=bW bc (show size≠0 by omega)
      have h2:=bS bc (show 0<size by omega)
      omega
     have r3:0≤fq bc 3∧fq bc 3≤2:=by have:=jT (a:=bc) (b:=3) c0;omega
     have rm:size≠0:=by omega
     by_cases xJ:j=0
     ·have mf:cs = []:=aB.1 (by omega)
      subst xJ;subst mf
      simp[show 0<r.cl.length by omega,hx,wa,wb,wc,wq,hz,rm]
      (with_reducible repeat' first|refine Xk ?_<;>try simp[show 0<r.cl.length by omega,hx,wa,wb,wc,wq,hz,rm]|refine Xs ?_ ?_<;>intro h<;>(try intro h')<;>(try simp[h,show 0<r.cl.length by omega,hx,wa,wb,wc,wq,hz,rm])<;>try omega|refine Xg ?_|omega)
      ·have ok:pC i size ⟨3,0,fq bc 3,1+fq (jq .u8 ba 4) 3⟩:=⟨.inr (.inr ⟨rfl,rfl,r3.1,by dsimp only;omega⟩),by dsimp only;omega⟩
       refine LJ.i (1,0,[⟨3,0,fq bc 3,1+fq (jq .u8 ba 4) 3⟩]) (by first|rfl|simp[jg]) (by first|rfl|simp[jg]) rfl rfl ?_
       exact wm ⟨rfl,fun c hc=>by rw[List.mem_singleton.1 hc];exact ok⟩
      ·have ok:pC i size ⟨2,fq bb i,fq bc size,1+fq (jq .u8 ba 4) 3⟩:=⟨.inr (.inl ⟨rfl,rb.1,rb.2,rc.1,rc.2⟩),by dsimp only;omega⟩
       refine LJ.i (1,0,[⟨2,fq bb i,fq bc size,1+fq (jq .u8 ba 4) 3⟩]) (by first|rfl|simp[jg]) (by first|rfl|simp[jg]) rfl rfl ?_
       exact wm ⟨rfl,fun c hc=>by rw[List.mem_singleton.1 hc];exact ok⟩
      ·have ok:pC i size ⟨1+fq ba 3,fq bb i,0,1+fq (jq .u8 ba 4) 3⟩:=⟨.inl (ot ⟨rb.1,rb.2,rfl⟩),by dsimp only;omega⟩
       refine LJ.i (1,0,[⟨1+fq ba 3,fq bb i,0,1+fq (jq .u8 ba 4) 3⟩]) (by first|rfl|simp[jg]) (by first|rfl|simp[jg]) rfl rfl ?_
       exact wm ⟨rfl,fun c hc=>by rw[List.mem_singleton.1 hc];exact ok⟩
     ·rw[if_neg xJ,if_neg xJ]
      have pL:∀ a b c d,cl Clause.cells cs ++ [.val (.int .i64 a),.i b,.i c,.val (.int .i64 d)]=cl Clause.cells (cs ++ [⟨a,b,c,d⟩]):=fun a b c d=>by rw[← oR];rfl
      simp[hj.1,hj.2,hx,wa,wb,wc,wq,hz,rm]
      (with_reducible repeat' first|refine Xk ?_<;>try simp[hx,wa,wb,wc,wq,hz,rm]|refine Xs ?_ ?_<;>intro h<;>(try intro h')<;>(try simp[h,hx,wa,wb,wc,wq,hz,rm])<;>try omega|refine Xg ?_|omega)
      ·have ok:pC i size ⟨3,0,fq bc 3,1+fq (jq .u8 ba 4) 3⟩:=⟨.inr (.inr ⟨rfl,rfl,r3.1,by dsimp only;omega⟩),by dsimp only;omega⟩
       refine LJ.i (j+1,gc+1,cs ++ [⟨3,0,fq bc 3,1+fq (jq .u8 ba 4) 3⟩]) (by first|rfl|simp[show ¬ (j+1=0)by omega,pL]) (by first|rfl|simp[show ¬ (j+1=0)by omega,pL]) rfl rfl ?_
       exact⟨by dsimp only;omega,by dsimp only;omega,by dsimp only;omega,by dsimp only;omega,by simp;omega,fun c hc=>(List.mem_append.1 hc).elim (j4 c) fun hc=>by rw[List.mem_singleton.1 hc];exact ok⟩
      ·have ok:pC i size ⟨2,fq bb i,fq bc size,1+fq (jq .u8 ba 4) 3⟩:=⟨.inr (.inl ⟨rfl,rb.1,rb.2,rc.1,rc.2⟩),by dsimp only;omega⟩
       refine LJ.i (j+1,gc+1,cs ++ [⟨2,fq bb i,fq bc size,1+fq (jq .u8 ba 4) 3⟩]) (by first|rfl|simp[show ¬ (j+1=0)by omega,pL]) (by first|rfl|simp[show ¬ (j+1=0)by omega,pL]) rfl rfl ?_
       exact⟨by dsimp only;omega,by dsimp only;omega,by dsimp only;omega,by dsimp only;omega,by simp;omega,fun c hc=>(List.mem_append.1 hc).elim (j4 c) fun hc=>by rw[List.mem_singleton.1 hc];exact ok⟩
      ·have ok:pC i size ⟨1+fq ba 3,fq bb i,0,1+fq (jq .u8 ba 4) 3⟩:=⟨.inl (ot ⟨rb.1,rb.2,rfl⟩),by dsimp only;omega⟩
       refine LJ.i (j+1,gc+1,cs ++ [⟨1+fq ba 3,fq bb i,0,1+fq (jq .u8 ba 4) 3⟩]) (by first|rfl|simp[show ¬ (j+1=0)by omega,pL]) (by first|rfl|simp[show ¬ (j+1=0)by omega,pL]) rfl rfl ?_
       exact⟨by dsimp only;omega,by dsimp only;omega,by dsimp only;omega,by dsimp only;omega,by simp;omega,fun c hc=>(List.mem_append.1 hc).elim (j4 c) fun hc=>by rw[List.mem_singleton.1 hc];exact ok⟩
    ·by_cases xJ:j=0
     ·have mf:cs = []:=aB.1 (by omega)
      subst xJ;subst mf
      simp[show ¬ 0<r.cl.length by omega]
      (with_reducible repeat' first|refine Xk ?_<;>try simp|refine Xs ?_ ?_<;>intro h<;>(try intro h')<;>(try simp[h])<;>try omega|refine Xg ?_|omega)
      exact Ey.i ⟨size,next,iT,ks,R,M,[],B,E⟩ (by simp[dN]) rfl (Ke qy iN iK lX (by simp) (by simp) Kq BJ)
     ·rw[if_neg xJ,if_neg xJ]
      have hd:D.sl 4 (cs.map Clause.cells)=dN 4 Clause.cells cs:=MZ (by intro h;simp[h]at j3;omega)
      by_cases hq:j<r.cl.length
      ·have:¬ j<3:=by omega
       simp[hq,this]
       exact Ey.i ⟨size,next,iT,ks,R,M,cs,B,E⟩ (by simp[hd]) rfl (Ke qy iN iK lX j4 (by omega) Kq BJ)
      ·simp[hq]
       exact Ey.i ⟨size,next,iT,ks,R,M,cs,B,E⟩ (by simp[hd]) rfl (Ke qy iN iK lX j4 (by omega) Kq BJ)
end Go.Proofs.YtmehofoficaelaaGreatDoor
namespace Go.Proofs.YtmehofoficaelaaGreatDoor
open Go Go.AL Classical
set_option maxRecDepth 10000
set_option maxHeartbeats 4000000
attribute [local simp] Raw.cells
structure oP where
 r:Raw
 l:List Int
 Iz:List Int
def oP.cells(x:oP):List D:=x.r.cells++(cl fU x.l ++ [dU x.Iz])
attribute [local simp] oP.cells
def OV(x:oP):closed (.agg x.cells)=true:=by
 simp[OT,fE]
structure DF(x:oP):Prop where
 r:Oj x.r
 len:x.l.length=18
 l:∀ n∈x.l,0≤n∧n<256
 Iz:∀ n∈x.Iz,0≤n∧n<256
def f32(x:oP)(hx:DF x):Wf T 50 [.agg x.cells] [] (Ey (fun y:eY×Pos=>.tup [dG y.1,dP y.2]) fun y=>gh y.1∧gG y.1 y.2):=by
 obtain⟨r,l,p⟩:=x
 have hl:l.length=18:=hx.len
 refine Yz AS (iu 32 [1005] AS.body) ?_
 simp[AS,iu,jJ,mj,mn,mG,ln,oP.cells]
 refine fG.q rfl rfl (f57 r hx.r) (by simp) (fun _=>by simp) ?_
 intro g hg
 simp
 (with_reducible repeat' first|refine Xk ?_<;>try simp|refine Xs ?_ ?_<;>intro h<;>(try intro h')<;>(try simp[h])<;>try omega|refine Xg ?_|omega)
 refine fh.e ((0,0,[]):Int×Nat×List Int) (fun y=>[(1,.ptr 0 0 0),(2,.ptr 1 0 0),(3,.ptr 2 0 0),(4,.ptr 3 0 0),(5,.eX 4 y.2.1 1 0 y.2.2.length),(6,.i y.1)]) (fun y=>[.row 32 0 (oP.cells ⟨r,l,p⟩),.row 43 0 [.i 0,.eU,.eU,.eU,.i 0,.b false,.eU,.i 0,.i 0],.row 46 0 [.eU,.eU,.eU,.i 0,.i 0],.row 43 0 g.cells,.row 3 y.2.1 (cl f1 y.2.2)]) (fun y=>0≤y.1∧y.1≤6∧y.1≤p.length∧y.2.2.length=y.1.toNat∧∀ n∈y.2.2,0≤n∧n<256) (fun y=>(6-y.1).toNat) ?_ ?_
 ·simp
 rintro⟨i,gn,ns⟩ ⟨i0,i1,i2,i3,i4⟩
 dsimp only at i0 i1 i2 i3 i4 ⊢
 have al4:l.length+12=30:=by omega
 by_cases hi:i<p.length∧i<6
 ·have hb:=hx.Iz _ (ft i0 hi.1)
  dsimp only at hb
  have hw:IntKind.i64.wrap (gt p i)=gt p i:=oO jG
  simp[oP.cells,hi.1,hi.2,hl,hw]
  (with_reducible repeat' first|refine Xk ?_<;>try simp[hw]|refine Xs ?_ ?_<;>intro h<;>(try intro h')<;>(try simp[h,hw])<;>try omega|refine Xg ?_|omega)
  refine LJ.e (i+1,gn+1,ns ++ [gt p i]) ?_
  refine⟨by dsimp only;omega,by dsimp only;omega,by dsimp only;omega,by dsimp only;omega,by simp;omega,fun n hn=>?_⟩
  rcases List.mem_append.1 hn with hn|hn
  ·exact i4 n hn
  ·rw[List.mem_singleton.1 hn];exact hb
 ·by_cases hq:i<p.length
  ·have:¬ i<6:=by omega
   simp[oP.cells,hq,this,hl]
   refine Yv (f59 g hg l hl hx.l) fun q hq=>?_
   simp
   refine Yv (f58 g hg q hq ns (by omega) i4) fun qs HI=>?_
   simp
   obtain⟨⟨zP,r9⟩,Lj⟩:=HI
   (with_reducible repeat' first|refine Xk ?_<;>try simp|refine Xs ?_ ?_<;>intro h<;>(try intro h')<;>(try simp[h])<;>try omega|refine Xg ?_|omega)
   exact Ey.i (g,gt qs (qs.length-1)) rfl rfl ⟨hg,Lj _ (ft (by omega) (by omega))⟩
  ·simp[oP.cells,hq,hl]
   refine Yv (f59 g hg l hl hx.l) fun q hq=>?_
   simp
   refine Yv (f58 g hg q hq ns (by omega) i4) fun qs HI=>?_
   simp
   obtain⟨⟨zP,r9⟩,Lj⟩:=HI
   (with_reducible repeat' first|refine Xk ?_<;>try simp|refine Xs ?_ ?_<;>intro h<;>(try intro h')<;>(try simp[h])<;>try omega|refine Xg ?_|omega)
   exact Ey.i (g,gt qs (qs.length-1)) rfl rfl ⟨hg,Lj _ (ft (by omega) (by omega))⟩
