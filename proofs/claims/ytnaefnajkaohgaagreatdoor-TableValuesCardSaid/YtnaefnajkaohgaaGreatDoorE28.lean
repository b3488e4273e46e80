/- Part 28 of the proof of skewer.skewerlaw15.TableValues. -/
import Derived.Test.YtnaefnajkaohgaaGreatDoorE17
import Derived.Test.YtnaefnajkaohgaaGreatDoorE14
set_option linter.all false
namespace Go.Proofs.YtnaefnajkaohgaaGreatDoor
open Go Go.AL Classical
set_option maxRecDepth 10000
set_option maxHeartbeats 40000000
@[irreducible] def fT(x:Int×Int×Int):List D:=[.val (.int .u8 x.1),.val (.int .u8 x.2.1),.val (.int .u8 x.2.2)]
@[simp] theorem ai1(x:Int×Int×Int):fT x = [.val (.int .u8 x.1),.val (.int .u8 x.2.1),.val (.int .u8 x.2.2)]:=by unfold fT;rfl
instance:Fl fT 3:=⟨fun _=>by simp,fun _=>by simp[fy,closed]⟩
structure Raw where
 w:Int
 h:Int
 c:Int
 k0:List Int
 k1:List Int
 cl:List (Int×Int×Int)
 f0:Int
 f1:Int
 f2:Int
 f3:Int
 f4:Int
 f5:Int
def Raw.cells(r:Raw):List D:=[.val (.int .u8 r.w),.val (.int .u8 r.h),.val (.int .u8 r.c),dU r.k0,dU r.k1,.sl 3 (r.cl.map fT),.val (.int .u8 r.f0),.val (.int .u8 r.f1),.val (.int .u8 r.f2),.val (.int .u8 r.f3),.val (.int .u8 r.f4),.val (.int .u8 r.f5)]
def jZ(n:Int):Prop:=0≤n∧n<256
structure L6(r:Raw):Prop where
 w:jZ r.w
 h:jZ r.h
 c:jZ r.c
 k0:∀ n∈r.k0,jZ n
 k1:∀ n∈r.k1,jZ n
 cl:∀ x∈r.cl,jZ x.1∧jZ x.2.1∧jZ x.2.2
 f0:jZ r.f0
 f1:jZ r.f1
 f2:jZ r.f2
 f3:jZ r.f3
 f4:jZ r.f4
 f5:jZ r.f5
theorem KY{α:Type}{sz:Nat}{f:α→List D}{l:List α}(h:l≠[]):D.sl sz (l.map f)=dN sz f l:=by
 cases l with
 | nil=>exact absurd rfl h
 | cons a r=>rfl
attribute [local simp] Raw.cells
@[simp] theorem ah6(l:List Kind)(n:ByteArray)(p:List (List eY))(k:Bool):cl Kind.cells l ++ [.val (.string n),dN 1 fP p,.b k]=cl Kind.cells (l ++ [⟨n,p,k⟩]):=by rw[← oZ];rfl
@[simp] theorem ah4(l:List Clause)(a b c d:Int):cl Clause.cells l ++ [.i a,.i b,.i c,.i d]=cl Clause.cells (l ++ [⟨a,b,c,d⟩]):=by rw[← oZ];rfl
structure oB(kinds size:Int)(c:Clause):Prop where
 ok:(c.cond=1∧0≤c.kind∧c.kind<kinds∧c.n=0)∨(c.cond=2∧0≤c.kind∧c.kind<kinds∧0≤c.n∧c.n<size)∨(c.cond=3∧c.kind=0∧0≤c.n∧c.n≤64)
 out:1≤c.out∧c.out≤3
structure zm(N R i:Int)(ks:List Kind):Prop where
 len:ks.length=i.toNat
 names:∀ k:Int,0≤k→k<i→(gt ks k).name=kindName k
 gD:∀ k∈ks,k.gD.length≤4∧∀ l∈k.gD,rl 8 N R l∧1≤l.length
theorem zm.add{N R i:Int}{ks:List Kind}(h:zm N R i ks)(i0:0≤i){nm:ByteArray}(hn:nm=kindName i){ps:List (List eY)}{kp:Bool}(h1:ps.length≤4)(h2:∀ l∈ps,rl 8 N R l∧1≤l.length):zm N R (i+1) (ks ++ [⟨nm,ps,kp⟩]):=by
 have hl:=h.len
 refine⟨by simp;omega,fun k k0 k1=>?_,fun k hk=>?_⟩
 ·by_cases e:k=i
  ·have:gt (ks ++ [(⟨nm,ps,kp⟩:Kind)]) k=⟨nm,ps,kp⟩:=by
    subst e
    simp[gt,← hl]
   rw[this,hn,e]
  ·have:gt (ks ++ [(⟨nm,ps,kp⟩:Kind)]) k=gt ks k:=by
    have:k.toNat<ks.length:=by omega
    simp[gt,ag this]
   rw[this]
   exact h.names k k0 (by omega)
 ·rcases List.mem_append.1 hk with hk|hk
  ·exact h.gD k hk
  ·rw[List.mem_singleton.1 hk];exact⟨h1,h2⟩
theorem IG{size:Int}{next:List (List Int)}{gV:List Int}{ks:List Kind}{R:Int}{M:Bool}{cs:List Clause}{B E i:Int}(oF:l7 (wC size next gV))(hi:1≤i∧i≤2)(hK:zm i R i ks)(hR:0≤R∧R≤2)(hc:∀ c∈cs,oB i size c)(hl:cs.length≤3)(hB:1≤B∧B≤3)(hE:1≤E∧E≤3):fr ⟨size,next,gV,ks,R,M,cs,B,E⟩:=by
 have hlen:=hK.len
 have xY:(ks.length:Int)=i:=by omega
 refine⟨⟨oF.size,oF.next,oF.row,oF.gV,oF.turns⟩,by dsimp only;omega,fun k k0 k1=>hK.names k k0 (by dsimp only at k1;omega),fun k hk=>⟨(hK.gD k hk).1,fun l hl=>?_⟩,hR,hl,fun c h=>?_,hB,hE⟩
 ·obtain⟨p,p1⟩:=(hK.gD k hk).2 l hl
  exact⟨⟨p1,p.len⟩,fun x hx=>⟨by
   have:=p.steps x hx
   dsimp only
   rw[xY]
   exact this⟩,p.qu,p.push,p.zA⟩
 ·have h1:=(hc c h).ok
  have h2:=(hc c h).out
  exact⟨by dsimp only;rw[xY];exact h1,h2⟩
theorem f57(r:Raw)(hr:L6 r):Wf T 57 [.agg r.cells] [] (Ey dG fr):=by
 have h0:=jV (a:=r.f0) (b:=3) hr.f0.1
 have w0:IntKind.i64.wrap r.f0=r.f0:=oT ⟨by have:=hr.f0.1;omega,by have:=hr.f0.2;omega⟩
 refine Yz zg (jc 86 [1085] zg.body) ?_
 simp[zg,gY,jc,lW,lX,me,ky,Raw.cells,w0]
 refine Yv (f104 r.w r.h r.c hr.w hr.h hr.c) fun bd oF=>?_
 simp
 obtain⟨size,next,gV⟩:=bd
 simp[bD]at oF ⊢
 (with_reducible repeat' first|refine Xk ?_<;>try simp|refine Xs ?_ ?_<;>intro h<;>(try intro h')<;>(try simp[h])<;>(try omega)|refine Xg ?_|omega)
 all_goals
  obtain⟨N,IN,hN,IP⟩:∃ N:Int,(N=if 0<r.k1.length then 2 else 1)∧(1≤N∧N≤2)∧(N=2→0<r.k1.length):=⟨_,rfl,by split<;>omega,by split<;>omega⟩
  simp only[if_pos,if_neg,h,if_false,if_true,not_false_eq_true]at IN
  obtain⟨M,hM⟩:∃ M:Bool,decide (fi r.f1 4=3)=M:=⟨_,rfl⟩
  have ya:0≤fi r.f0 3∧fi r.f0 3≤2:=by have:=hr.f0.1;unfold jZ at *;omega
  obtain⟨R,NL⟩:∃ R,fi r.f0 3=R:=⟨_,rfl⟩
  rw[NL]at ya
  refine fe.k ((0,0,[]):Int×Nat×List Kind) (fun y=>[(1,.ptr 0 0 0),(2,.ptr 1 0 0),(3,.ptr 2 0 0),(4,.i N),(5,.i y.1)]) (fun y=>.row 27 0 r.cells :: .row 41 0 [.i 0,.emp,.emp,.emp,.i 0,.b false,.emp,.i 0,.i 0] :: .row 41 0 [.i size,.sl 1 (next.map fI),dI gV,(if y.1=0 then .emp else .eT 3 y.2.1 3 0 y.2.2.length),.i R,.b M,.emp,.i 3,.i 2]::(if y.1=0 then []else [.row 87 y.2.1 (cl Kind.cells y.2.2)])) (fun y=>0≤y.1∧y.1≤N∧zm N R y.1 y.2.2) (fun y=>(N-y.1).toNat) ?_ (by simp[IN]) (by simp[Raw.cells,hM,NL,w0]) rfl rfl rfl ?_
  ·exact⟨by omega,by show(0:Int)≤N;omega,rfl,fun k h1 h2=>by exfalso;dsimp only at h2;omega,by simp⟩
  clear IN h
  rintro⟨i,gn,ks⟩ ⟨i0,i1,iK⟩
  dsimp only at i0 i1 iK ⊢
  have i2:=iK.len
  by_cases hi:i<N
  ·by_cases hz:i=0
   ·have ln:ks = []:=aC.1 (by omega)
    subst hz;subst ln
    simp[hi,Raw.cells]
    (with_reducible repeat' first|refine Xk ?_<;>try simp[hi]|refine Xs ?_ ?_<;>intro h<;>(try intro h')<;>(try simp[h,hi])<;>(try omega)|refine Xg ?_|omega)
    generalize decide (bits BinOp.and IntKind.u8 (yJ IntKind.u8 r.f2 0) 1=1)=kp
    refine fe.e ((0,0,[]):Int×Nat×List (List eY)) (fun y=>[(1,.ptr 0 0 0),(2,.ptr 1 0 0),(3,.ptr 2 0 0),(4,.i N),(5,.i 0),(6,.ptr 4 0 0),(7,.i y.1)]) (fun y=>.row 27 0 r.cells :: .row 41 0 [.i 0,.emp,.emp,.emp,.i 0,.b false,.emp,.i 0,.i 0] :: .row 41 0 [.i size,.sl 1 (next.map fI),dI gV,.emp,.i R,.b M,.emp,.i 3,.i 2] :: .row 9 0 [.val (.string ⟨#[97]⟩),.val (.string ⟨#[98,101,101]⟩)] :: .row 87 0 [.val (.string ⟨#[97]⟩),(if y.1=0 then .emp else .eT 5 y.2.1 1 0 y.2.2.length),.b kp]::(if y.1=0 then []else [.row 84 y.2.1 (cl fP y.2.2)])) (fun y=>0≤y.1∧y.1≤4∧y.1≤r.k0.length∧y.2.2.length=y.1.toNat∧∀ l∈y.2.2,rl 8 N R l∧1≤l.length) (fun y=>(4-y.1).toNat) ?_ ?_
    ·simp
    rintro⟨j,gm,ps⟩ ⟨j0,j1,j2,j3,j4⟩
    dsimp only at j0 j1 j2 j3 j4 ⊢
    have kA:next.length=8:=oF.next
    by_cases hj:j<r.k0.length∧j<4
    ·have nv:=hr.k0 _ (ff j0 hj.1)
     by_cases hz:j=0
     ·have ln:ps = []:=aC.1 (by omega)
      subst hz;subst ln
      simp[show 0<r.k0.length by omega,Raw.cells,kA]
      refine Yv (f105 (gt r.k0 0) N R nv (by omega) (by omega)) fun p hp=>?_
      simp
      (with_reducible repeat' first|refine Xk ?_<;>try simp|refine Xs ?_ ?_<;>intro h<;>(try intro h')<;>(try simp[h])<;>(try omega)|refine Xg ?_|omega)
      refine LJ.i (1,0,[p]) (by first|rfl|simp[gL]) (by first|rfl|simp[gL]) rfl rfl ?_
      exact⟨by dsimp only;omega,by dsimp only;omega,by dsimp only;omega,by dsimp only;omega,rfl,fun l hl=>by rw[List.mem_singleton.1 hl];exact hp⟩
     ·rw[if_neg hz,if_neg hz]
      simp[hj.1,hj.2,Raw.cells,kA,hz]
      refine⟨j0,?_⟩
      refine Yv (f105 (gt r.k0 j) N R nv (by omega) (by omega)) fun p hp=>?_
      simp
      (with_reducible repeat' first|refine Xk ?_<;>try simp[hz]|refine Xs ?_ ?_<;>intro h<;>(try intro h')<;>(try simp[h,hz])<;>(try omega)|refine Xg ?_|omega)
      (with_reducible repeat' first|refine Xk ?_<;>try simp[hz]|refine Xs ?_ ?_<;>intro h<;>(try intro h')<;>(try simp[h,hz])<;>(try omega)|refine Xg ?_|omega)
      refine LJ.i (j+1,gm+1,ps ++ [p]) (by first|rfl|simp[show ¬ (j+1=0)by omega]) (by first|rfl|simp[show ¬ (j+1=0)by omega]) rfl rfl ?_
      refine⟨by dsimp only;omega,by dsimp only;omega,by dsimp only;omega,by dsimp only;omega,by simp;omega,fun l hl=>?_⟩
      rcases List.mem_append.1 hl with hl|hl
      ·exact j4 l hl
      ·rw[List.mem_singleton.1 hl];exact hp
    ·have e:¬ j<(r.k0.length:Int)∨¬ j<4:=by omega
     by_cases hz:j=0
     ·have ln:ps = []:=aC.1 (by omega)
      subst hz;subst ln
      have e:r.k0 = []:=aC.1 (by omega)
      simp[e,Raw.cells]
      (with_reducible repeat' first|refine Xk ?_<;>try simp|refine Xs ?_ ?_<;>intro h<;>(try intro h')<;>(try simp[h])<;>(try omega)|refine Xg ?_|omega)
      refine LJ.i (1,0,[⟨⟨#[97]⟩,[],kp⟩]) (by first|rfl|simp[gL,e,dN]) (by first|rfl|simp[gL,e,dN]) rfl rfl ?_
      exact⟨by dsimp only;omega,by dsimp only;omega,by dsimp only;omega,iK.add (by omega) rfl (by simp) (by simp)⟩
     ·rw[if_neg hz,if_neg hz]
      have hd:D.sl 1 (ps.map fP)=dN 1 fP ps:=KY (by intro h;simp[h]at j3;omega)
      by_cases hq:j<r.k0.length
      ·have:¬ j<4:=by omega
       simp[Raw.cells,hz,hq,this]
       refine LJ.i (1,0,[⟨⟨#[97]⟩,ps,kp⟩]) (by first|rfl|simp[gL,hd]) (by first|rfl|simp[gL,hd]) rfl rfl ?_
       exact⟨by dsimp only;omega,by dsimp only;omega,by dsimp only;omega,iK.add (by omega) rfl (by omega) j4⟩
      ·simp[Raw.cells,hz,hq]
       refine LJ.i (1,0,[⟨⟨#[97]⟩,ps,kp⟩]) (by first|rfl|simp[gL,hd]) (by first|rfl|simp[gL,hd]) rfl rfl ?_
       exact⟨by dsimp only;omega,by dsimp only;omega,by dsimp only;omega,iK.add (by omega) rfl (by omega) j4⟩
   ·have ka:i=1:=by omega
    subst ka
    have UB:N=2:=by omega
    subst UB
    rw[if_neg hz,if_neg hz]
    simp[Raw.cells]
    (with_reducible repeat' first|refine Xk ?_<;>try simp|refine Xs ?_ ?_<;>intro h<;>(try intro h')<;>(try simp[h])<;>(try omega)|refine Xg ?_|omega)
    clear hz
    simp at i2
    generalize decide (bits BinOp.and IntKind.u8 (yJ IntKind.u8 r.f2 1) 1=1)=kp
    refine fe.e ((0,0,[]):Int×Nat×List (List eY)) (fun y=>[(1,.ptr 0 0 0),(2,.ptr 1 0 0),(3,.ptr 2 0 0),(4,(.i 2)),(5,.i 1),(6,.ptr 5 0 0),(7,.i y.1)]) (fun y=>.row 27 0 r.cells :: .row 41 0 [.i 0,.emp,.emp,.emp,.i 0,.b false,.emp,.i 0,.i 0] :: .row 41 0 [.i size,.sl 1 (next.map fI),dI gV,.eT 3 gn 3 0 ks.length,.i R,.b M,.emp,.i 3,.i 2] :: .row 87 gn (cl Kind.cells ks) :: .row 9 0 [.val (.string ⟨#[97]⟩),.val (.string ⟨#[98,101,101]⟩)] :: .row 87 0 [.val (.string ⟨#[98,101,101]⟩),(if y.1=0 then .emp else .eT 6 y.2.1 1 0 y.2.2.length),.b kp]::(if y.1=0 then []else [.row 84 y.2.1 (cl fP y.2.2)])) (fun y=>0≤y.1∧y.1≤4∧y.1≤r.k1.length∧y.2.2.length=y.1.toNat∧∀ l∈y.2.2,rl 8 2 R l∧1≤l.length) (fun y=>(4-y.1).toNat) ?_ ?_
    ·simp
    rintro⟨j,gm,ps⟩ ⟨j0,j1,j2,j3,j4⟩
    dsimp only at j0 j1 j2 j3 j4 ⊢
    have kA:next.length=8:=oF.next
    by_cases hj:j<r.k1.length∧j<4
    ·have nv:=hr.k1 _ (ff j0 hj.1)
     by_cases hz:j=0
     ·have ln:ps = []:=aC.1 (by omega)
      subst hz;subst ln
      simp[show 0<r.k1.length by omega,Raw.cells,kA]
      refine Yv (f105 (gt r.k1 0) 2 R nv (by omega) (by omega)) fun p hp=>?_
      simp
      (with_reducible repeat' first|refine Xk ?_<;>try simp|refine Xs ?_ ?_<;>intro h<;>(try intro h')<;>(try simp[h])<;>(try omega)|refine Xg ?_|omega)
      refine LJ.i (1,0,[p]) (by first|rfl|simp[gL]) (by first|rfl|simp[gL]) rfl rfl ?_
      exact⟨by dsimp only;omega,by dsimp only;omega,by dsimp only;omega,by dsimp only;omega,rfl,fun l hl=>by rw[List.mem_singleton.1 hl];exact hp⟩
     ·rw[if_neg hz,if_neg hz]
      simp[hj.1,hj.2,Raw.cells,kA,hz]
      refine⟨j0,?_⟩
      refine Yv (f105 (gt r.k1 j) 2 R nv (by omega) (by omega)) fun p hp=>?_
      simp
      (with_reducible repeat' first|refine Xk ?_<;>try simp[hz]|refine Xs ?_ ?_<;>intro h<;>(try intro h')<;>(try simp[h,hz])<;>(try omega)|refine Xg ?_|omega)
      (with_reducible repeat' first|refine Xk ?_<;>try simp[hz]|refine Xs ?_ ?_<;>intro h<;>(try intro h')<;>(try simp[h,hz])<;>(try omega)|refine Xg ?_|omega)
      refine LJ.i (j+1,gm+1,ps ++ [p]) (by first|rfl|simp[show ¬ (j+1=0)by omega]) (by first|rfl|simp[show ¬ (j+1=0)by omega]) rfl rfl ?_
      refine⟨by dsimp only;omega,by dsimp only;omega,by dsimp only;omega,by dsimp only;omega,by simp;omega,fun l hl=>?_⟩
      rcases List.mem_append.1 hl with hl|hl
      ·exact j4 l hl
      ·rw[List.mem_singleton.1 hl];exact hp
    ·have e:¬ j<(r.k1.length:Int)∨¬ j<4:=by omega
     by_cases hz:j=0
     ·have ln:ps = []:=aC.1 (by omega)
      subst hz;subst ln
      have e:r.k1 = []:=aC.1 (by omega)
      exact absurd e (by intro e;have:=IP rfl;simp[e]at this)
     ·rw[if_neg hz,if_neg hz]
      have hd:D.sl 1 (ps.map fP)=dN 1 fP ps:=KY (by intro h;simp[h]at j3;omega)
      by_cases hq:j<r.k1.length
      ·have:¬ j<4:=by omega
       simp[Raw.cells,hz,hq,this]
       (with_reducible repeat' first|refine Xk ?_<;>try simp|refine Xs ?_ ?_<;>intro h<;>(try intro h')<;>(try simp[h])<;>(try omega)|refine Xg ?_|omega)
       refine LJ.i (1+1,gn+1,ks ++ [⟨⟨#[98,101,101]⟩,ps,kp⟩]) (by first|rfl|simp[hd]) (by first|rfl|simp[hd]) rfl rfl ?_
       exact⟨by dsimp only;omega,by dsimp only;omega,by dsimp only;omega,iK.add (by omega) rfl (by omega) j4⟩
      ·simp[Raw.cells,hz,hq]
       (with_reducible repeat' first|refine Xk ?_<;>try simp|refine Xs ?_ ?_<;>intro h<;>(try intro h')<;>(try simp[h])<;>(try omega)|refine Xg ?_|omega)
       refine LJ.i (1+1,gn+1,ks ++ [⟨⟨#[98,101,101]⟩,ps,kp⟩]) (by first|rfl|simp[hd]) (by first|rfl|simp[hd]) rfl rfl ?_
       exact⟨by dsimp only;omega,by dsimp only;omega,by dsimp only;omega,iK.add (by omega) rfl (by omega) j4⟩
  ·have Vn:i=N:=by omega
   have hz:¬ i=0:=by omega
   rw[if_neg hz,if_neg hz]
   have N8:=hr.f3;have hf4:=hr.f4
   have q3:=Bw r.f3 4
   have q4:=Bw r.f4 4
   have e3:=jV (a:=iB .u8 r.f3 4) (b:=3) q3.1
   have e4:=jV (a:=iB .u8 r.f4 4) (b:=3) q4.1
   have w3:IntKind.i64.wrap (iB .u8 r.f3 4)=iB .u8 r.f3 4:=oT ⟨by omega,by omega⟩
   have w4:IntKind.i64.wrap (iB .u8 r.f4 4)=iB .u8 r.f4 4:=oT ⟨by omega,by omega⟩
   simp[Raw.cells,hi,w3,w4]
   subst Vn
   have iN:1≤i∧i≤2:=hN
   clear e3 e4
   have e3:0≤fi (iB .u8 r.f3 4) 3∧fi (iB .u8 r.f3 4) 3≤2:=by have:=jV (a:=iB .u8 r.f3 4) (b:=3) q3.1;omega
   have e4:0≤fi (iB .u8 r.f4 4) 3∧fi (iB .u8 r.f4 4) 3≤2:=by have:=jV (a:=iB .u8 r.f4 4) (b:=3) q4.1;omega
   (with_reducible repeat' first|refine Xk ?_<;>try simp[w3,w4]|refine Xs ?_ ?_<;>intro h<;>(try intro h')<;>(try simp[h,w3,w4])<;>(try omega)|refine Xg ?_|omega)
   all_goals
    obtain⟨B,hB,IM⟩:∃ B:Int,(B=if fi r.f3 4=3 then 1+fi (iB .u8 r.f3 4) 3 else 3)∧1≤B∧B≤3:=⟨_,rfl,by split<;>omega⟩
    obtain⟨E,hE,Ah⟩:∃ E:Int,(E=if fi r.f4 4=3 then 1+fi (iB .u8 r.f4 4) 3 else 2)∧1≤E∧E≤3:=⟨_,rfl,by split<;>omega⟩
    generalize fi r.f3 4=T3 at *
    generalize fi r.f4 4=T4 at *
    simp only[*,if_true,if_false]at hB hE
    refine fe.e ((0,0,[]):Int×Nat×List Clause) (fun y=>[(1,.ptr 0 0 0),(2,.ptr 1 0 0),(3,.ptr 2 0 0),(4,.i i),(8,.i y.1)]) (fun y=>.row 27 0 r.cells :: .row 41 0 [.i 0,.emp,.emp,.emp,.i 0,.b false,.emp,.i 0,.i 0] :: .row 41 0 [.i size,.sl 1 (next.map fI),dI gV,.eT 3 gn 3 0 ks.length,.i R,.b M,(if y.1=0 then .emp else .eT 4 y.2.1 4 0 y.2.2.length),.i B,.i E] :: .row 87 gn (cl Kind.cells ks)::(if y.1=0 then []else [.row 158 y.2.1 (cl Clause.cells y.2.2)])) (fun y=>0≤y.1∧y.1≤3∧y.1≤r.cl.length∧y.2.2.length=y.1.toNat∧∀ c∈y.2.2,oB i size c) (fun y=>(3-y.1).toNat) ?_ ?_
    ·simp
    clear hB hE
    rintro⟨j,gc,cs⟩ ⟨j0,j1,j2,j3,j4⟩
    dsimp only at j0 j1 j2 j3 j4 ⊢
    by_cases hj:j<r.cl.length∧j<3
    ·have nv:=hr.cl _ (ff j0 hj.1)
     obtain⟨⟨ba,bb,bc⟩,hx⟩:∃ x,gt r.cl j=x:=⟨_,rfl⟩
     rw[hx]at nv
     obtain⟨⟨a0,a1⟩,⟨b0,b1⟩,⟨c0,c1⟩⟩:=nv
     dsimp only at a0 a1 b0 b1 c0 c1
     have wa:IntKind.i64.wrap ba=ba:=oT ⟨by omega,by omega⟩
     have wb:IntKind.i64.wrap bb=bb:=oT ⟨by omega,by omega⟩
     have wc:IntKind.i64.wrap bc=bc:=oT ⟨by omega,by omega⟩
     have qa:=Bw ba 4
     have wq:IntKind.i64.wrap (iB .u8 ba 4)=iB .u8 ba 4:=oT ⟨by omega,by omega⟩
     have ra:0≤fi ba 3∧fi ba 3≤2:=by have:=jV (a:=ba) (b:=3) a0;omega
     have rq:0≤fi (iB .u8 ba 4) 3∧fi (iB .u8 ba 4) 3≤2:=by have:=jV (a:=iB .u8 ba 4) (b:=3) qa.1;omega
     have rb:0≤fi bb i∧fi bb i<i:=by
      have:=jV (a:=bb) (b:=i) b0
      have h1:=cz bb (show i≠0 by omega)
      have h2:=cg bb (show 0<i by omega)
      omega
     have gy:1≤size∧size≤9:=oF.size
     have rc:0≤fi bc size∧fi bc size<size:=by
      have:=jV (a:=bc) (b:=size) c0
      have h1:=cz bc (show size≠0 by omega)
      have h2:=cg bc (show 0<size by omega)
      omega
     have r3:0≤fi bc 3∧fi bc 3≤2:=by have:=jV (a:=bc) (b:=3) c0;omega
     have qg:size≠0:=by omega
     by_cases vX:j=0
     ·have ln:cs = []:=aC.1 (by omega)
      subst vX;subst ln
      simp[show 0<r.cl.length by omega,hx,wa,wb,wc,wq,hz,qg]
      (with_reducible repeat' first|refine Xk ?_<;>try simp[show 0<r.cl.length by omega,hx,wa,wb,wc,wq,hz,qg]|refine Xs ?_ ?_<;>intro h<;>(try intro h')<;>(try simp[h,show 0<r.cl.length by omega,hx,wa,wb,wc,wq,hz,qg])<;>(try omega)|refine Xg ?_|omega)
      ·have ok:oB i size ⟨3,0,fi bc 3,1+fi (iB .u8 ba 4) 3⟩:=⟨.inr (.inr ⟨rfl,rfl,r3.1,by dsimp only;omega⟩),by dsimp only;omega⟩
       refine LJ.i (1,0,[⟨3,0,fi bc 3,1+fi (iB .u8 ba 4) 3⟩]) (by first|rfl|simp[gL]) (by first|rfl|simp[gL]) rfl rfl ?_
       exact⟨by dsimp only;omega,by dsimp only;omega,by dsimp only;omega,by dsimp only;omega,rfl,fun c hc=>by rw[List.mem_singleton.1 hc];exact ok⟩
      ·have ok:oB i size ⟨2,fi bb i,fi bc size,1+fi (iB .u8 ba 4) 3⟩:=⟨.inr (.inl ⟨rfl,rb.1,rb.2,rc.1,rc.2⟩),by dsimp only;omega⟩
       refine LJ.i (1,0,[⟨2,fi bb i,fi bc size,1+fi (iB .u8 ba 4) 3⟩]) (by first|rfl|simp[gL]) (by first|rfl|simp[gL]) rfl rfl ?_
       exact⟨by dsimp only;omega,by dsimp only;omega,by dsimp only;omega,by dsimp only;omega,rfl,fun c hc=>by rw[List.mem_singleton.1 hc];exact ok⟩
      ·have ok:oB i size ⟨1+fi ba 3,fi bb i,0,1+fi (iB .u8 ba 4) 3⟩:=⟨.inl ⟨by dsimp only;omega,rb.1,rb.2,rfl⟩,by dsimp only;omega⟩
       refine LJ.i (1,0,[⟨1+fi ba 3,fi bb i,0,1+fi (iB .u8 ba 4) 3⟩]) (by first|rfl|simp[gL]) (by first|rfl|simp[gL]) rfl rfl ?_
       exact⟨by dsimp only;omega,by dsimp only;omega,by dsimp only;omega,by dsimp only;omega,rfl,fun c hc=>by rw[List.mem_singleton.1 hc];exact ok⟩
     ·rw[if_neg vX,if_neg vX]
      have qk:∀ a b c d,cl Clause.cells cs ++ [.val (.int .i64 a),.i b,.i c,.val (.int .i64 d)]=cl Clause.cells (cs ++ [⟨a,b,c,d⟩]):=fun a b c d=>by rw[← oZ];rfl
      simp[hj.1,hj.2,hx,wa,wb,wc,wq,hz,qg]
      (with_reducible repeat' first|refine Xk ?_<;>try simp[hx,wa,wb,wc,wq,hz,qg]|refine Xs ?_ ?_<;>intro h<;>(try intro h')<;>(try simp[h,hx,wa,wb,wc,wq,hz,qg])<;>(try omega)|refine Xg ?_|omega)
      ·have ok:oB i size ⟨3,0,fi bc 3,1+fi (iB .u8 ba 4) 3⟩:=⟨.inr (.inr ⟨rfl,rfl,r3.1,by dsimp only;omega⟩),by dsimp only;omega⟩
       refine LJ.i (j+1,gc+1,cs ++ [⟨3,0,fi bc 3,1+fi (iB .u8 ba 4) 3⟩]) (by first|rfl|simp[show ¬ (j+1=0)by omega,qk]) (by first|rfl|simp[show ¬ (j+1=0)by omega,qk]) rfl rfl ?_
       exact⟨by dsimp only;omega,by dsimp only;omega,by dsimp only;omega,by dsimp only;omega,by simp;omega,fun c hc=>(List.mem_append.1 hc).elim (j4 c) fun hc=>by rw[List.mem_singleton.1 hc];exact ok⟩
      ·have ok:oB i size ⟨2,fi bb i,fi bc size,1+fi (iB .u8 ba 4) 3⟩:=⟨.inr (.inl ⟨rfl,rb.1,rb.2,rc.1,rc.2⟩),by dsimp only;omega⟩
       refine LJ.i (j+1,gc+1,cs ++ [⟨2,fi bb i,fi bc size,1+fi (iB .u8 ba 4) 3⟩]) (by first|rfl|simp[show ¬ (j+1=0)by omega,qk]) (by first|rfl|simp[show ¬ (j+1=0)by omega,qk]) rfl rfl ?_
       exact⟨by dsimp only;omega,by dsimp only;omega,by dsimp only;omega,by dsimp only;omega,by simp;omega,fun c hc=>(List.mem_append.1 hc).elim (j4 c) fun hc=>by rw[List.mem_singleton.1 hc];exact ok⟩
      ·have ok:oB i size ⟨1+fi ba 3,fi bb i,0,1+fi (iB .u8 ba 4) 3⟩:=⟨.inl ⟨by dsimp only;omega,rb.1,rb.2,rfl⟩,by dsimp only;omega⟩
       refine LJ.i (j+1,gc+1,cs ++ [⟨1+fi ba 3,fi bb i,0,1+fi (iB .u8 ba 4) 3⟩]) (by first|rfl|simp[show ¬ (j+1=0)by omega,qk]) (by first|rfl|simp[show ¬ (j+1=0)by omega,qk]) rfl rfl ?_
       exact⟨by dsimp only;omega,by dsimp only;omega,by dsimp only;omega,by dsimp only;omega,by simp;omega,fun c hc=>(List.mem_append.1 hc).elim (j4 c) fun hc=>by rw[List.mem_singleton.1 hc];exact ok⟩
    ·by_cases vX:j=0
     ·have ln:cs = []:=aC.1 (by omega)
      subst vX;subst ln
      simp[show ¬ 0<r.cl.length by omega]
      (with_reducible repeat' first|refine Xk ?_<;>try simp|refine Xs ?_ ?_<;>intro h<;>(try intro h')<;>(try simp[h])<;>(try omega)|refine Xg ?_|omega)
      exact Ey.i ⟨size,next,gV,ks,R,M,[],B,E⟩ (by simp[dN]) rfl (IG oF iN iK ya (by simp) (by simp) IM Ah)
     ·rw[if_neg vX,if_neg vX]
      have hd:D.sl 4 (cs.map Clause.cells)=dN 4 Clause.cells cs:=KY (by intro h;simp[h]at j3;omega)
      by_cases hq:j<r.cl.length
      ·have:¬ j<3:=by omega
       simp[hq,this]
       exact Ey.i ⟨size,next,gV,ks,R,M,cs,B,E⟩ (by simp[hd]) rfl (IG oF iN iK ya j4 (by omega) IM Ah)
      ·simp[hq]
       exact Ey.i ⟨size,next,gV,ks,R,M,cs,B,E⟩ (by simp[hd]) rfl (IG oF iN iK ya j4 (by omega) IM Ah)
end Go.Proofs.YtnaefnajkaohgaaGreatDoor
namespace Go.Proofs.YtnaefnajkaohgaaGreatDoor
open Go Go.AL Classical
set_option maxRecDepth 10000
set_option maxHeartbeats 4000000
attribute [local simp] Raw.cells
structure n3 where
 r:Raw
 l:List Int
 GM:List Int
def n3.cells(x:n3):List D:=x.r.cells++(cl fU x.l ++ [dU x.GM])
attribute [local simp] n3.cells
theorem MG(x:n3):closed (.agg x.cells)=true:=by
 simp[ME,fy]
structure Cb(x:n3):Prop where
 r:L6 x.r
 len:x.l.length=18
 l:∀ n∈x.l,0≤n∧n<256
 GM:∀ n∈x.GM,0≤n∧n<256
theorem f32(x:n3)(hx:Cb x):Wf T 32 [.agg x.cells] [] (Ey (fun y:eU×Pos=>.tup [dG y.1,dP y.2]) fun y=>fr y.1∧fR y.1 y.2):=by
 obtain⟨r,l,p⟩:=x
 have hl:l.length=18:=hx.len
 refine Yz zd (gY 32 [1005] zd.body) ?_
 simp[zd,gY,jc,lW,lX,me,ky,n3.cells]
 refine fw.q rfl rfl (f57 r hx.r) (by simp) (fun _=>by simp) ?_
 intro g hg
 simp
 (with_reducible repeat' first|refine Xk ?_<;>try simp|refine Xs ?_ ?_<;>intro h<;>(try intro h')<;>(try simp[h])<;>(try omega)|refine Xg ?_|omega)
 refine fe.e ((0,0,[]):Int×Nat×List Int) (fun y=>[(1,.ptr 0 0 0),(2,.ptr 1 0 0),(3,.ptr 2 0 0),(4,.ptr 3 0 0),(5,.eT 4 y.2.1 1 0 y.2.2.length),(6,.i y.1)]) (fun y=>[.row 32 0 (n3.cells ⟨r,l,p⟩),.row 41 0 [.i 0,.emp,.emp,.emp,.i 0,.b false,.emp,.i 0,.i 0],.row 44 0 [.emp,.emp,.emp,.i 0,.i 0],.row 41 0 g.cells,.row 3 y.2.1 (cl f1 y.2.2)]) (fun y=>0≤y.1∧y.1≤6∧y.1≤p.length∧y.2.2.length=y.1.toNat∧∀ n∈y.2.2,0≤n∧n<256) (fun y=>(6-y.1).toNat) ?_ ?_
 ·simp
 rintro⟨i,gn,ns⟩ ⟨i0,i1,i2,i3,i4⟩
 dsimp only at i0 i1 i2 i3 i4 ⊢
 have ajF:l.length+12=30:=by omega
 by_cases hi:i<p.length∧i<6
 ·have hb:=hx.GM _ (ff i0 hi.1)
  dsimp only at hb
  have hw:IntKind.i64.wrap (gt p i)=gt p i:=oT ⟨by omega,by omega⟩
  simp[n3.cells,hi.1,hi.2,hl,hw]
  (with_reducible repeat' first|refine Xk ?_<;>try simp[hw]|refine Xs ?_ ?_<;>intro h<;>(try intro h')<;>(try simp[h,hw])<;>(try omega)|refine Xg ?_|omega)
  refine LJ.e (i+1,gn+1,ns ++ [gt p i]) ?_
  refine⟨by dsimp only;omega,by dsimp only;omega,by dsimp only;omega,by dsimp only;omega,by simp;omega,fun n hn=>?_⟩
  rcases List.mem_append.1 hn with hn|hn
  ·exact i4 n hn
  ·rw[List.mem_singleton.1 hn];exact hb
 ·by_cases hq:i<p.length
  ·have:¬ i<6:=by omega
   simp[n3.cells,hq,this,hl]
   refine Yv (f59 g hg l hl hx.l) fun q hq=>?_
   simp
   refine Yv (f58 g hg q hq ns (by omega) i4) fun qs FT=>?_
   simp
   obtain⟨⟨V0,x7⟩,Jw⟩:=FT
   (with_reducible repeat' first|refine Xk ?_<;>try simp|refine Xs ?_ ?_<;>intro h<;>(try intro h')<;>(try simp[h])<;>(try omega)|refine Xg ?_|omega)
   exact Ey.i (g,gt qs (qs.length-1)) rfl rfl ⟨hg,Jw _ (ff (by omega) (by omega))⟩
  ·simp[n3.cells,hq,hl]
   refine Yv (f59 g hg l hl hx.l) fun q hq=>?_
   simp
   refine Yv (f58 g hg q hq ns (by omega) i4) fun qs FT=>?_
   simp
   obtain⟨⟨V0,x7⟩,Jw⟩:=FT
   (with_reducible repeat' first|refine Xk ?_<;>try simp|refine Xs ?_ ?_<;>intro h<;>(try intro h')<;>(try simp[h])<;>(try omega)|refine Xg ?_|omega)
   exact Ey.i (g,gt qs (qs.length-1)) rfl rfl ⟨hg,Jw _ (ff (by omega) (by omega))⟩
theorem f12(x:n3)(hx:Cb x):Wf T 12 [.agg x.cells,.i 80] [] (Ey (fun y:eU×Pos×Bool×List Pos=>.agg (y.1.cells++(y.2.1.cells ++ [if y.2.2.1 then gb y.2.2.2 else .emp,.b y.2.2.1]))) fun y=>fr y.1∧fR y.1 y.2.1∧(y.2.2.1=true→Cc y.1 y.2.2.2)):=by
 have hl:x.l.length=18:=hx.len
 refine Yg Cr ?_
 simp[Cr,hl]
 refine fw.q rfl rfl (f32 x hx) (by simpa using MG x) (fun _=>by simp) ?_
 rintro⟨g,p⟩ ⟨hg,hp⟩
 dsimp only at hg hp
 simp
 refine fw.q rfl rfl (f33 g hg p hp) (by simp) (fun y=>by obtain⟨b,l⟩:=y;cases b<;>simp) ?_
 intro y hy
 simp
 obtain⟨b,l⟩:=y
 cases b
 ·simp
  exact Ey.i (g,p,false,l) rfl rfl ⟨hg,hp,fun h=>by cases h⟩
 ·simp
  exact Ey.i (g,p,true,l) rfl rfl ⟨hg,hp,hy⟩
