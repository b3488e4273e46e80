/- Part 26 of DisputeReferee. -/
import Derived.Test.YtmehofoficaelaaGreatDoorR16
set_option linter.all false
namespace Go.Proofs.YtmehofoficaelaaGreatDoor
open Go Go.AL Classical
set_option maxRecDepth 10000
set_option maxHeartbeats 40000000
@[irreducible] def fT(x:Int×Int×Int):List D:=[.val (.int .u8 x.1),.val (.int .u8 x.2.1),.val (.int .u8 x.2.2)]
@[simp] theorem aqt(x:Int×Int×Int):fT x = [.val (.int .u8 x.1),.val (.int .u8 x.2.1),.val (.int .u8 x.2.2)]:=by unfold fT;rfl
instance:Fl fT 3:=⟨λ_=>by simp,λ_=>by simp[gh,closed]⟩
structure Raw where
 w:Int
 h:Int
 c:Int
 k0:List Int
 k1:List Int
 cl:List (Int×Int×Int)
 f0:Int
 f1:Int
 f2:Int
 f3:Int
 f4:Int
 f5:Int
def Raw.cells(r:Raw):List D:=[.val (.int .u8 r.w),.val (.int .u8 r.h),.val (.int .u8 r.c),dU r.k0,dU r.k1,.sl 3 (r.cl.map fT),.val (.int .u8 r.f0),.val (.int .u8 r.f1),.val (.int .u8 r.f2),.val (.int .u8 r.f3),.val (.int .u8 r.f4),.val (.int .u8 r.f5)]
def lR(n:Int):Prop:=0<=n/\n<256
structure Ss(r:Raw):Prop where
 w:lR r.w
 h:lR r.h
 c:lR r.c
 k0:∀n∈r.k0,lR n
 k1:∀n∈r.k1,lR n
 cl:∀x∈r.cl,lR x.1/\lR x.2.1/\lR x.2.2
 f0:lR r.f0
 f1:lR r.f1
 f2:lR r.f2
 f3:lR r.f3
 f4:lR r.f4
 f5:lR r.f5
theorem Rq{α:Type}{sz:Nat}{f:α->List D}{l:List α}(h:l≠[]):D.sl sz (l.map f)=dN sz f l:=by
 cases l with
 | nil=>exact absurd rfl h
 | cons a r=>rfl
attribute [local simp] Raw.cells
@[simp] theorem apz(l:List Kind)(n:ByteArray)(p:List (List fE))(k:Bool):cl Kind.cells l ++ [.val (.string n),dN 1 fP p,.b k]=cl Kind.cells (l ++ [⟨n,p,k⟩]):=by rw[<-ph];rfl
@[simp] theorem apw(l:List Clause)(a b c d:Int):cl Clause.cells l ++ [.i a,.i b,.i c,.i d]=cl Clause.cells (l ++ [⟨a,b,c,d⟩]):=by rw[<-ph];rfl
structure q'(kinds size:Int)(c:Clause):Prop where
 ok:(c.cond=1/\0<=c.kind/\c.kind<kinds/\c.n=0)\/(c.cond=2/\0<=c.kind/\c.kind<kinds/\0<=c.n/\c.n<size)\/(c.cond=3/\c.kind=0/\0<=c.n/\c.n<=64)
 out:1<=c.out/\c.out<=3
structure D1(N R i:Int)(ks:List Kind):Prop where
 len:ks.length=i.toNat
 names:∀k:Int,0<=k->k<i->(gt ks k).name=kindName k
 iS:∀k∈ks,k.iS.length<=4/\∀l∈k.iS,vm 8 N R l/\1<=l.length
theorem D1.add{N R i:Int}{ks:List Kind}(h:D1 N R i ks)(i0:0<=i){a:ByteArray}(c:a=kindName i){ps:List (List fE)}{kp:Bool}(h1:ps.length<=4)(d:∀l∈ps,vm 8 N R l/\1<=l.length):D1 N R (i+1) (ks ++ [⟨a,ps,kp⟩]):=by
 have hl:=h.len;refine⟨by simp;omega,λk k0 k1=>?_,λk b=>?_⟩
 .by_cases e:k=i
  .have:gt (ks ++ [(⟨a,ps,kp⟩:Kind)]) k=⟨a,ps,kp⟩:=by subst e;simp[gt,<-hl]
   rw[this,c,e]
  .have:gt (ks ++ [(⟨a,ps,kp⟩:Kind)]) k=gt ks k:=by
    have:k.toNat<ks.length:=by omega
    simp[gt,ah this]
   rw[this];exact h.names k k0 (by omega)
 .rcases List.mem_append.1 b with b|b
  .exact h.iS k b
  .grind
theorem Oq{size:Int}{next:List (List Int)}{iX:List Int}{ks:List Kind}{R:Int}{M:Bool}{cs:List Clause}{B E i:Int}(a:nM (A2 size next iX))(hi:1<=i/\i<=2)(b:D1 i R i ks)(n:0<=R/\R<=2)(f:∀c∈cs,q' i size c)(hl:cs.length<=3)(q:1<=B/\B<=3)(o:1<=E/\E<=3):gF ⟨size,next,iX,ks,R,M,cs,B,E⟩:=by
 have d:=b.len;have g:(ks.length:Int)=i:=by omega
 refine⟨⟨a.size,a.next,a.row,a.iX,a.turns⟩,by dsimp only;omega,λk k0 k1=>b.names k k0 (by dsimp only at k1;omega),λk e=>⟨(b.iS k e).1,λl hl=>?_⟩,n,hl,λc h=>?_,q,o⟩
 .obtain⟨p,j⟩:=(b.iS k e).2 l hl
  exact⟨⟨j,p.len⟩,λx m=>⟨by
   have:=p.steps x m;dsimp only;rw[g]
   exact this⟩,p.th,p.push,p.Ka⟩
 .have h1:=(f c h).ok;have r:=(f c h).out;exact⟨by dsimp only;rw[g];exact h1,r⟩
theorem f57(r:Raw)(o:Ss r):Wf T 98 [.agg r.cells] [] (Ey dG gF):=by
 have h0:=jd (a:=r.f0) (b:=3) o.f0.1;have w0:IntKind.i64.wrap r.f0=r.f0:=mO ⟨by have:=o.f0.1;omega,by have:=o.f0.2;omega⟩;refine Yz DV (jN 86 [1085] DV.body) ?_;simp[DV,iB,jN,mw,mz,mH,lq,Raw.cells,w0];refine Yv (f104 r.w r.h r.c o.w o.h o.c) λbd A=>?_;simp;obtain⟨size,next,iX⟩:=bd;simp[bD]at A ⊢;refine jF ?_ ?_<;>intro h
 all_goals
  obtain⟨N,OM,hN,UR⟩:∃N:Int,(N=if 0<r.k1.length then 2 else 1)/\(1<=N/\N<=2)/\(N=2->0<r.k1.length):=⟨_,rfl,by split<;>omega,by split<;>omega⟩;simp only[if_pos,if_neg,h,if_false,if_true,not_false_eq_true]at OM;obtain⟨M,hM⟩:∃M:Bool,decide (fX r.f1 4=3)=M:=⟨_,rfl⟩;have Q:0<=fX r.f0 3/\fX r.f0 3<=2:=by have:=o.f0.1;unfold lR at *;omega
  obtain⟨R,UI⟩:∃R,fX r.f0 3=R:=⟨_,rfl⟩;rw[UI]at Q;refine fO.k ((0,0,[]):Int×Nat×List Kind) (λy=>[(1,.ptr 0 0 0),(2,.ptr 1 0 0),(3,.ptr 2 0 0),(4,.i N),(5,.i y.1)]) (λy=>.row 27 0 r.cells :: .row 43 0 [.i 0,.fJ,.fJ,.fJ,.i 0,.b false,.fJ,.i 0,.i 0] :: .row 43 0 [.i size,.sl 1 (next.map fI),dI iX,(if y.1=0 then .fJ else .fy 3 y.2.1 3 0 y.2.2.length),.i R,.b M,.fJ,.i 3,.i 2]::(if y.1=0 then []else [.row 140 y.2.1 (cl Kind.cells y.2.2)])) (λy=>0<=y.1/\y.1<=N/\D1 N R y.1 y.2.2) (λy=>(N-y.1).toNat) ?_ (by simp[OM]) (by simp[Raw.cells,hM,UI,w0]) rfl rfl rfl ?_
  .exact⟨by omega,by show(0:Int)<=N;omega,rfl,λk h1 Y=>by exfalso;dsimp only at Y;omega,by simp⟩
  clear OM h;rintro⟨i,L,ks⟩ ⟨i0,i1,u⟩;dsimp only at i0 i1 u ⊢;have i2:=u.len
  by_cases hi:i<N
  .by_cases f:i=0
   .have s:ks = []:=az.1 (by omega);subst f;subst s;simp[hi,Raw.cells];refine jw hi ?_;generalize decide (bits BinOp.and IntKind.u8 (l4 IntKind.u8 r.f2 0) 1=1)=kp;refine fO.e ((0,0,[]):Int×Nat×List (List fE)) (λy=>[(1,.ptr 0 0 0),(2,.ptr 1 0 0),(3,.ptr 2 0 0),(4,.i N),(5,.i 0),(6,.ptr 4 0 0),(7,.i y.1)]) (λy=>.row 27 0 r.cells :: .row 43 0 [.i 0,.fJ,.fJ,.fJ,.i 0,.b false,.fJ,.i 0,.i 0] :: .row 43 0 [.i size,.sl 1 (next.map fI),dI iX,.fJ,.i R,.b M,.fJ,.i 3,.i 2] :: .row 9 0 [.val (.string ⟨#[97]⟩),.val (.string ⟨#[98,101,101]⟩)] :: .row 140 0 [.val (.string ⟨#[97]⟩),(if y.1=0 then .fJ else .fy 5 y.2.1 1 0 y.2.2.length),.b kp]::(if y.1=0 then []else [.row 175 y.2.1 (cl fP y.2.2)])) (λy=>0<=y.1/\y.1<=4/\y.1<=r.k0.length/\y.2.2.length=y.1.toNat/\∀l∈y.2.2,vm 8 N R l/\1<=l.length) (λy=>(4-y.1).toNat) ?_ ?_
    .simp
    rintro⟨j,gm,ps⟩ ⟨j0,j1,j2,j3,j4⟩;dsimp only at j0 j1 j2 j3 j4 ⊢;have O:next.length=8:=A.next
    by_cases t:j<r.k0.length/\j<4
    .have w:=o.k0 _ (fZ j0 t.1)
     by_cases f:j=0
     .have s:ps = []:=az.1 (by omega);subst f;subst s;simp[show 0<r.k0.length by omega,Raw.cells,O];refine Yv (f105 (gt r.k0 0) N R w (by omega) (by omega)) λp P=>?_;simp;refine fD ?_;refine LJ.i (1,0,[p]) (by first|rfl|simp[iQ]) (by first|rfl|simp[iQ]) rfl rfl ?_;exact zb ⟨rfl,λl hl=>by rw[List.mem_singleton.1 hl];exact P⟩
     .rw[if_neg f,if_neg f];simp[t.1,t.2,Raw.cells,O,f];refine⟨j0,?_⟩;refine Yv (f105 (gt r.k0 j) N R w (by omega) (by omega)) λp P=>?_;simp;refine jw f ?_;refine jw f ?_;refine LJ.i (j+1,gm+1,ps ++ [p]) (by first|rfl|simp[show¬(j+1=0)by omega]) (by first|rfl|simp[show¬(j+1=0)by omega]) rfl rfl ?_;refine⟨by dsimp only;omega,by dsimp only;omega,by dsimp only;omega,by dsimp only;omega,by simp;omega,λl hl=>?_⟩;rcases List.mem_append.1 hl with hl|hl
      .exact j4 l hl
      .grind
    .have e:¬j<(r.k0.length:Int)\/¬j<4:=by omega
     by_cases f:j=0
     .have s:ps = []:=az.1 (by omega);subst f;subst s;have e:r.k0 = []:=az.1 (by omega);simp[e,Raw.cells];refine fD ?_;refine LJ.i (1,0,[⟨⟨#[97]⟩,[],kp⟩]) (by first|rfl|simp[iQ,e,dN]) (by first|rfl|simp[iQ,e,dN]) rfl rfl ?_;exact gx (u.add (by omega) rfl (by simp) (by simp))
     .rw[if_neg f,if_neg f];have q:D.sl 1 (ps.map fP)=dN 1 fP ps:=Rq (by intro h;simp[h]at j3;omega)
      by_cases z:j<r.k0.length
      .have:¬j<4:=by omega
       simp[Raw.cells,f,z,this];refine LJ.i (1,0,[⟨⟨#[97]⟩,ps,kp⟩]) (by first|rfl|simp[iQ,q]) (by first|rfl|simp[iQ,q]) rfl rfl ?_;exact gx (u.add (by omega) rfl (by omega) j4)
      .simp[Raw.cells,f,z];refine LJ.i (1,0,[⟨⟨#[97]⟩,ps,kp⟩]) (by first|rfl|simp[iQ,q]) (by first|rfl|simp[iQ,q]) rfl rfl ?_;exact gx (u.add (by omega) rfl (by omega) j4)
   .have jB:i=1:=by omega
    subst jB;have X:N=2:=by omega
    subst X;rw[if_neg f,if_neg f];simp[Raw.cells];refine fD ?_;clear f;simp at i2;generalize decide (bits BinOp.and IntKind.u8 (l4 IntKind.u8 r.f2 1) 1=1)=kp;refine fO.e ((0,0,[]):Int×Nat×List (List fE)) (λy=>[(1,.ptr 0 0 0),(2,.ptr 1 0 0),(3,.ptr 2 0 0),(4,(.i 2)),(5,.i 1),(6,.ptr 5 0 0),(7,.i y.1)]) (λy=>.row 27 0 r.cells :: .row 43 0 [.i 0,.fJ,.fJ,.fJ,.i 0,.b false,.fJ,.i 0,.i 0] :: .row 43 0 [.i size,.sl 1 (next.map fI),dI iX,.fy 3 L 3 0 ks.length,.i R,.b M,.fJ,.i 3,.i 2] :: .row 140 L (cl Kind.cells ks) :: .row 9 0 [.val (.string ⟨#[97]⟩),.val (.string ⟨#[98,101,101]⟩)] :: .row 140 0 [.val (.string ⟨#[98,101,101]⟩),(if y.1=0 then .fJ else .fy 6 y.2.1 1 0 y.2.2.length),.b kp]::(if y.1=0 then []else [.row 175 y.2.1 (cl fP y.2.2)])) (λy=>0<=y.1/\y.1<=4/\y.1<=r.k1.length/\y.2.2.length=y.1.toNat/\∀l∈y.2.2,vm 8 2 R l/\1<=l.length) (λy=>(4-y.1).toNat) ?_ ?_
    .simp
    rintro⟨j,gm,ps⟩ ⟨j0,j1,j2,j3,j4⟩;dsimp only at j0 j1 j2 j3 j4 ⊢;have O:next.length=8:=A.next
    by_cases t:j<r.k1.length/\j<4
    .have w:=o.k1 _ (fZ j0 t.1)
     by_cases f:j=0
     .have s:ps = []:=az.1 (by omega);subst f;subst s;simp[show 0<r.k1.length by omega,Raw.cells,O];refine Yv (f105 (gt r.k1 0) 2 R w (by omega) (by omega)) λp P=>?_;simp;refine fD ?_;refine LJ.i (1,0,[p]) (by first|rfl|simp[iQ]) (by first|rfl|simp[iQ]) rfl rfl ?_;exact zb ⟨rfl,λl hl=>by rw[List.mem_singleton.1 hl];exact P⟩
     .rw[if_neg f,if_neg f];simp[t.1,t.2,Raw.cells,O,f];refine⟨j0,?_⟩;refine Yv (f105 (gt r.k1 j) 2 R w (by omega) (by omega)) λp P=>?_;simp;refine jw f ?_;refine jw f ?_;refine LJ.i (j+1,gm+1,ps ++ [p]) (by first|rfl|simp[show¬(j+1=0)by omega]) (by first|rfl|simp[show¬(j+1=0)by omega]) rfl rfl ?_;refine⟨by dsimp only;omega,by dsimp only;omega,by dsimp only;omega,by dsimp only;omega,by simp;omega,λl hl=>?_⟩;rcases List.mem_append.1 hl with hl|hl
      .exact j4 l hl
      .grind
    .have e:¬j<(r.k1.length:Int)\/¬j<4:=by omega
     by_cases f:j=0
     .grind
     .rw[if_neg f,if_neg f];have q:D.sl 1 (ps.map fP)=dN 1 fP ps:=Rq (by intro h;simp[h]at j3;omega)
      by_cases z:j<r.k1.length
      .have:¬j<4:=by omega
       simp[Raw.cells,f,z,this];refine fD ?_;refine LJ.i (1+1,L+1,ks ++ [⟨⟨#[98,101,101]⟩,ps,kp⟩]) (by first|rfl|simp[q]) (by first|rfl|simp[q]) rfl rfl ?_;exact gx (u.add (by omega) rfl (by omega) j4)
      .simp[Raw.cells,f,z];refine fD ?_;refine LJ.i (1+1,L+1,ks ++ [⟨⟨#[98,101,101]⟩,ps,kp⟩]) (by first|rfl|simp[q]) (by first|rfl|simp[q]) rfl rfl ?_;exact gx (u.add (by omega) rfl (by omega) j4)
  .have W:i=N:=by omega
   have f:¬i=0:=by omega
   rw[if_neg f,if_neg f];have e0:=o.f3;have e':=o.f4;have q3:=Gr r.f3 4;have q4:=Gr r.f4 4;have e3:=jd (a:=jE .u8 r.f3 4) (b:=3) q3.1;have e4:=jd (a:=jE .u8 r.f4 4) (b:=3) q4.1;have U:IntKind.i64.wrap (jE .u8 r.f3 4)=jE .u8 r.f3 4:=mO ic;have S:IntKind.i64.wrap (jE .u8 r.f4 4)=jE .u8 r.f4 4:=mO ic;simp[Raw.cells,hi,U,S];subst W;have V:1<=i/\i<=2:=hN;clear e3 e4;have e3:0<=fX (jE .u8 r.f3 4) 3/\fX (jE .u8 r.f3 4) 3<=2:=by have:=jd (a:=jE .u8 r.f3 4) (b:=3) q3.1;omega
   have e4:0<=fX (jE .u8 r.f4 4) 3/\fX (jE .u8 r.f4 4) 3<=2:=by have:=jd (a:=jE .u8 r.f4 4) (b:=3) q4.1;omega
   (with_reducible repeat' first|refine Xk ?_<;>try simp[U,S]|refine Xs ?_ ?_<;>intro h<;>(try intro h')<;>(try simp[h,U,S])<;>try omega|refine Xg ?_|omega)
   all_goals
    obtain⟨B,hB,OH⟩:∃B:Int,(B=if fX r.f3 4=3 then 1+fX (jE .u8 r.f3 4) 3 else 3)/\1<=B/\B<=3:=⟨_,rfl,by split<;>omega⟩;obtain⟨E,hE,EU⟩:∃E:Int,(E=if fX r.f4 4=3 then 1+fX (jE .u8 r.f4 4) 3 else 2)/\1<=E/\E<=3:=⟨_,rfl,by split<;>omega⟩;generalize fX r.f3 4=T3 at *;generalize fX r.f4 4=T4 at *;simp only[*,if_true,if_false]at hB hE;refine fO.e ((0,0,[]):Int×Nat×List Clause) (λy=>[(1,.ptr 0 0 0),(2,.ptr 1 0 0),(3,.ptr 2 0 0),(4,.i i),(8,.i y.1)]) (λy=>.row 27 0 r.cells :: .row 43 0 [.i 0,.fJ,.fJ,.fJ,.i 0,.b false,.fJ,.i 0,.i 0] :: .row 43 0 [.i size,.sl 1 (next.map fI),dI iX,.fy 3 L 3 0 ks.length,.i R,.b M,(if y.1=0 then .fJ else .fy 4 y.2.1 4 0 y.2.2.length),.i B,.i E] :: .row 140 L (cl Kind.cells ks)::(if y.1=0 then []else [.row 253 y.2.1 (cl Clause.cells y.2.2)])) (λy=>0<=y.1/\y.1<=3/\y.1<=r.cl.length/\y.2.2.length=y.1.toNat/\∀c∈y.2.2,q' i size c) (λy=>(3-y.1).toNat) ?_ ?_
    .simp
    clear hB hE;rintro⟨j,Z,cs⟩ ⟨j0,j1,j2,j3,j4⟩;dsimp only at j0 j1 j2 j3 j4 ⊢
    by_cases t:j<r.cl.length/\j<3
    .have w:=o.cl _ (fZ j0 t.1);obtain⟨⟨g,n,bc⟩,C⟩:∃x,gt r.cl j=x:=⟨_,rfl⟩;rw[C]at w;obtain⟨⟨a0,a1⟩,⟨b0,b1⟩,⟨c0,c1⟩⟩:=w;dsimp only at a0 a1 b0 b1 c0 c1;have I:IntKind.i64.wrap g=g:=mO ic;have H:IntKind.i64.wrap n=n:=mO ic;have wc:IntKind.i64.wrap bc=bc:=mO ic;have qa:=Gr g 4;have G:IntKind.i64.wrap (jE .u8 g 4)=jE .u8 g 4:=mO ic;have ra:0<=fX g 3/\fX g 3<=2:=by have:=jd (a:=g) (b:=3) a0;omega
     have rq:0<=fX (jE .u8 g 4) 3/\fX (jE .u8 g 4) 3<=2:=by have:=jd (a:=jE .u8 g 4) (b:=3) qa.1;omega
     have v:0<=fX n i/\fX n i<i:=by have:=jd (a:=n) (b:=i) b0;have h1:=bJ n (show i≠0 by omega);have Y:=bB n (show 0<i by omega);omega
     have ij:1<=size/\size<=9:=A.size
     have rc:0<=fX bc size/\fX bc size<size:=by have:=jd (a:=bc) (b:=size) c0;have h1:=bJ bc (show size≠0 by omega);have Y:=bB bc (show 0<size by omega);omega
     have r3:0<=fX bc 3/\fX bc 3<=2:=by have:=jd (a:=bc) (b:=3) c0;omega
     have J:size≠0:=by omega
     by_cases F:j=0
     .have s:cs = []:=az.1 (by omega);subst F;subst s;simp[show 0<r.cl.length by omega,C,I,H,wc,G,f,J];(with_reducible repeat' first|refine Xk ?_<;>try simp[show 0<r.cl.length by omega,C,I,H,wc,G,f,J]|refine Xs ?_ ?_<;>intro h<;>(try intro h')<;>(try simp[h,show 0<r.cl.length by omega,C,I,H,wc,G,f,J])<;>try omega|refine Xg ?_|omega)
      .have ok:q' i size ⟨3,0,fX bc 3,1+fX (jE .u8 g 4) 3⟩:=⟨.inr (.inr ⟨rfl,rfl,r3.1,by dsimp only;omega⟩),by dsimp only;omega⟩;refine LJ.i (1,0,[⟨3,0,fX bc 3,1+fX (jE .u8 g 4) 3⟩]) (by first|rfl|simp[iQ]) (by first|rfl|simp[iQ]) rfl rfl ?_;exact zb ⟨rfl,λc m=>by rw[List.mem_singleton.1 m];exact ok⟩
      .have ok:q' i size ⟨2,fX n i,fX bc size,1+fX (jE .u8 g 4) 3⟩:=⟨.inr (.inl ⟨rfl,v.1,v.2,rc.1,rc.2⟩),by dsimp only;omega⟩;refine LJ.i (1,0,[⟨2,fX n i,fX bc size,1+fX (jE .u8 g 4) 3⟩]) (by first|rfl|simp[iQ]) (by first|rfl|simp[iQ]) rfl rfl ?_;exact zb ⟨rfl,λc m=>by rw[List.mem_singleton.1 m];exact ok⟩
      .have ok:q' i size ⟨1+fX g 3,fX n i,0,1+fX (jE .u8 g 4) 3⟩:=⟨.inl (pb ⟨v.1,v.2,rfl⟩),by dsimp only;omega⟩;refine LJ.i (1,0,[⟨1+fX g 3,fX n i,0,1+fX (jE .u8 g 4) 3⟩]) (by first|rfl|simp[iQ]) (by first|rfl|simp[iQ]) rfl rfl ?_;exact zb ⟨rfl,λc m=>by rw[List.mem_singleton.1 m];exact ok⟩
     .rw[if_neg F,if_neg F];have K:∀a b c d,cl Clause.cells cs ++ [.val (.int .i64 a),.i b,.i c,.val (.int .i64 d)]=cl Clause.cells (cs ++ [⟨a,b,c,d⟩]):=λa b c d=>by rw[<-ph];rfl
      simp[t.1,t.2,C,I,H,wc,G,f,J];(with_reducible repeat' first|refine Xk ?_<;>try simp[C,I,H,wc,G,f,J]|refine Xs ?_ ?_<;>intro h<;>(try intro h')<;>(try simp[h,C,I,H,wc,G,f,J])<;>try omega|refine Xg ?_|omega)
      .have ok:q' i size ⟨3,0,fX bc 3,1+fX (jE .u8 g 4) 3⟩:=⟨.inr (.inr ⟨rfl,rfl,r3.1,by dsimp only;omega⟩),by dsimp only;omega⟩;refine LJ.i (j+1,Z+1,cs ++ [⟨3,0,fX bc 3,1+fX (jE .u8 g 4) 3⟩]) (by first|rfl|simp[show¬(j+1=0)by omega,K]) (by first|rfl|simp[show¬(j+1=0)by omega,K]) rfl rfl ?_;exact⟨by dsimp only;omega,by dsimp only;omega,by dsimp only;omega,by dsimp only;omega,by simp;omega,λc m=>(List.mem_append.1 m).elim (j4 c) λm=>by rw[List.mem_singleton.1 m];exact ok⟩
      .have ok:q' i size ⟨2,fX n i,fX bc size,1+fX (jE .u8 g 4) 3⟩:=⟨.inr (.inl ⟨rfl,v.1,v.2,rc.1,rc.2⟩),by dsimp only;omega⟩;refine LJ.i (j+1,Z+1,cs ++ [⟨2,fX n i,fX bc size,1+fX (jE .u8 g 4) 3⟩]) (by first|rfl|simp[show¬(j+1=0)by omega,K]) (by first|rfl|simp[show¬(j+1=0)by omega,K]) rfl rfl ?_;exact⟨by dsimp only;omega,by dsimp only;omega,by dsimp only;omega,by dsimp only;omega,by simp;omega,λc m=>(List.mem_append.1 m).elim (j4 c) λm=>by rw[List.mem_singleton.1 m];exact ok⟩
      .have ok:q' i size ⟨1+fX g 3,fX n i,0,1+fX (jE .u8 g 4) 3⟩:=⟨.inl (pb ⟨v.1,v.2,rfl⟩),by dsimp only;omega⟩;refine LJ.i (j+1,Z+1,cs ++ [⟨1+fX g 3,fX n i,0,1+fX (jE .u8 g 4) 3⟩]) (by first|rfl|simp[show¬(j+1=0)by omega,K]) (by first|rfl|simp[show¬(j+1=0)by omega,K]) rfl rfl ?_;exact⟨by dsimp only;omega,by dsimp only;omega,by dsimp only;omega,by dsimp only;omega,by simp;omega,λc m=>(List.mem_append.1 m).elim (j4 c) λm=>by rw[List.mem_singleton.1 m];exact ok⟩
    .by_cases F:j=0
     .have s:cs = []:=az.1 (by omega);subst F;subst s;simp[show¬ 0<r.cl.length by omega];refine fD ?_;exact Ey.i ⟨size,next,iX,ks,R,M,[],B,E⟩ (by simp[dN]) rfl (Oq A V u Q (by simp) (by simp) OH EU)
     .rw[if_neg F,if_neg F];have q:D.sl 4 (cs.map Clause.cells)=dN 4 Clause.cells cs:=Rq (by intro h;simp[h]at j3;omega)
      by_cases z:j<r.cl.length
      .have:¬j<3:=by omega
       simp[z,this];exact Ey.i ⟨size,next,iX,ks,R,M,cs,B,E⟩ (by simp[q]) rfl (Oq A V u Q j4 (by omega) OH EU)
      .simp[z];exact Ey.i ⟨size,next,iX,ks,R,M,cs,B,E⟩ (by simp[q]) rfl (Oq A V u Q j4 (by omega) OH EU)
end Go.Proofs.YtmehofoficaelaaGreatDoor
namespace Go.Proofs.YtmehofoficaelaaGreatDoor
open Go Go.AL Classical
set_option maxRecDepth 10000
set_option maxHeartbeats 4000000
attribute [local simp] Raw.cells
structure pH where
 r:Raw
 l:List Int
 Ms:List Int
def pH.cells(x:pH):List D:=x.r.cells++(cl fU x.l ++ [dU x.Ms])
attribute [local simp] pH.cells
theorem Te(x:pH):closed (.agg x.cells)=true:=by simp[Ks,gh]
structure Hf(x:pH):Prop where
 r:Ss x.r
 len:x.l.length=18
 l:∀n∈x.l,0<=n/\n<256
 Ms:∀n∈x.Ms,0<=n/\n<256
theorem f32(x:pH)(c:Hf x):Wf T 50 [.agg x.cells] [] (Ey (λy:fH×Pos=>.tup [dG y.1,dP y.2]) λy=>gF y.1/\gT y.1 y.2):=by
 obtain⟨r,l,p⟩:=x;have hl:l.length=18:=c.len;refine Yz DR (iB 32 [1005] DR.body) ?_;simp[DR,iB,jN,mw,mz,mH,lq,pH.cells];refine fY.q rfl rfl (f57 r c.r) (by simp) (λ_=>by simp) ?_;intro g hg;simp;refine fD ?_;refine fO.e ((0,0,[]):Int×Nat×List Int) (λy=>[(1,.ptr 0 0 0),(2,.ptr 1 0 0),(3,.ptr 2 0 0),(4,.ptr 3 0 0),(5,.fy 4 y.2.1 1 0 y.2.2.length),(6,.i y.1)]) (λy=>[.row 32 0 (pH.cells ⟨r,l,p⟩),.row 43 0 [.i 0,.fJ,.fJ,.fJ,.i 0,.b false,.fJ,.i 0,.i 0],.row 46 0 [.fJ,.fJ,.fJ,.i 0,.i 0],.row 43 0 g.cells,.row 3 y.2.1 (cl f1 y.2.2)]) (λy=>0<=y.1/\y.1<=6/\y.1<=p.length/\y.2.2.length=y.1.toNat/\∀n∈y.2.2,0<=n/\n<256) (λy=>(6-y.1).toNat) ?_ ?_
 .simp
 rintro⟨i,u,f⟩ ⟨i0,t,s,o,e⟩;dsimp only at i0 t s o e ⊢;have v:l.length+12=30:=by omega
 by_cases hi:i<p.length/\i<6
 .have m:=c.Ms _ (fZ i0 hi.1);dsimp only at m;have k:IntKind.i64.wrap (gt p i)=gt p i:=mO ic;simp[pH.cells,hi.1,hi.2,hl,k];refine jw k ?_;refine LJ.e (i+1,u+1,f ++ [gt p i]) ?_;refine⟨by dsimp only;omega,by dsimp only;omega,by dsimp only;omega,by dsimp only;omega,by simp;omega,λn d=>?_⟩;rcases List.mem_append.1 d with d|d
  .exact e n d
  .rw[List.mem_singleton.1 d];exact m
 .by_cases a:i<p.length
  .have:¬i<6:=by omega
   simp[pH.cells,a,this,hl];refine Yv (f59 g hg l hl c.l) λq a=>?_;simp;refine Yv (f58 g hg q a f (by omega) e) λb h=>?_;simp;obtain⟨⟨w,z⟩,j⟩:=h;refine fD ?_;exact Ey.i (g,gt b (b.length-1)) rfl rfl ⟨hg,j _ (fZ (by omega) (by omega))⟩
  .simp[pH.cells,a,hl];refine Yv (f59 g hg l hl c.l) λq a=>?_;simp;refine Yv (f58 g hg q a f (by omega) e) λb h=>?_;simp;obtain⟨⟨w,z⟩,j⟩:=h;refine fD ?_;exact Ey.i (g,gt b (b.length-1)) rfl rfl ⟨hg,j _ (fZ (by omega) (by omega))⟩
