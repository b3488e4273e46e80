/- 26 -/
import Derived.Test.YtmehofoficaelaaGreatDoorP16
set_option linter.all false
open List renaming mem_singleton→aE,length→List.l
open Go.IntKind renaming i64→bf,u8→cc
open Int renaming toNat→Int.n
namespace Go.Proofs.YtmehofoficaelaaGreatDoor
open Go Go.AL Classical
set_option maxRecDepth 10000
set_option maxHeartbeats 40000000
@[irreducible] def fT(x:Int×Int×Int):List D:=[.val (.int .u8 x.1),.val (.int .u8 x.2.1),.val (.int .u8 x.2.2)]
@[simp] theorem ay3(x:Int×Int×Int):fT x = [.val (.int .u8 x.1),.val (.int .u8 x.2.1),.val (.int .u8 x.2.2)]:=by unfold fT;rfl
instance:Fl fT 3:=⟨λ_=>gP,λ_=>by simp[iB,closed]⟩
structure Raw where
 w:Int
 h:Int
 c:Int
 k0:List Int
 k1:List Int
 cl:List (Int×Int×Int)
 f0:Int
 f1:Int
 f2:Int
 f3:Int
 f4:Int
 f5:Int
def Raw.cells(r:Raw):List D:=[.val (.int .u8 r.w),.val (.int .u8 r.h),.val (.int .u8 r.c),dU r.k0,dU r.k1,.sl 3 (r.cl.map fT),.val (.int .u8 r.f0),.val (.int .u8 r.f1),.val (.int .u8 r.f2),.val (.int .u8 r.f3),.val (.int .u8 r.f4),.val (.int .u8 r.f5)]
def nO(n:Int):Prop:=0<=n/\n<256
structure YY(r:Raw):Prop where
 w:nO r.w
 h:nO r.h
 c:nO r.c
 k0:∀n∈r.k0,nO n
 k1:∀n∈r.k1,nO n
 cl:∀x∈r.cl,nO x.1/\nO x.2.1/\nO x.2.2
 f0:nO r.f0
 f1:nO r.f1
 f2:nO r.f2
 f3:nO r.f3
 f4:nO r.f4
 f5:nO r.f5
def Xq{α:Type}{sz:Nat}{f:α->List D}{l:List α}(h:l≠[]):D.sl sz (l.map f)=dN sz f l:=by
 cases l with
 | nil=>exact absurd rfl h
 | cons a r=>rfl
attribute [local simp] Raw.cells
@[simp] theorem ax6(l:List Kind)(n:ByteArray)(p:List (List gT))(k:Bool):cl Kind.cells l ++ [.val (.string n),dN 1 fP p,.b k]=cl Kind.cells (l ++ [⟨n,p,k⟩]):=by rw[<-tE];rfl
@[simp] theorem ax4(l:List Clause)(a b c d:Int):cl Clause.cells l ++ [.i a,.i b,.i c,.i d]=cl Clause.cells (l ++ [⟨a,b,c,d⟩]):=by rw[<-tE];rfl
structure tZ(kinds size:Int)(c:Clause):Prop where
 ok:(c.cond=1/\0<=c.kind/\c.kind<kinds/\c.n=0)\/(c.cond=2/\0<=c.kind/\c.kind<kinds/\0<=c.n/\c.n<size)\/(c.cond=3/\c.kind=0/\0<=c.n/\c.n<=64)
 out:1<=c.out/\c.out<=3
structure IN(N R i:Int)(ks:List Kind):Prop where
 len:ks.l=i.n
 names:∀k:Int,0<=k->k<i->(gt ks k).name=kindName k
 jv:∀k∈ks,k.jv.l<=4/\∀l∈k.jv,yL 8 N R l/\1<=l.l
def IN.add{N R i:Int}{ks:List Kind}(h:IN N R i ks)(i0:0<=i){a:ByteArray}(c:a=kindName i){ps:List (List gT)}{kp:Bool}(h1:ps.l<=4)(d:∀l∈ps,yL 8 N R l/\1<=l.l):IN N R (i+1) (ks ++ [⟨a,ps,kp⟩]):=by
 have hl:=h.len;refine⟨iz,λk k0 k1=>?_,λk b=>?_⟩
 .by_cases e:k=i
  .have:gt (ks ++ [(⟨a,ps,kp⟩:Kind)]) k=⟨a,ps,kp⟩:=by subst e;simp[gt,<-hl]
   rw[this,c,e]
  .have:gt (ks ++ [(⟨a,ps,kp⟩:Kind)]) k=gt ks k:=by have:k.n<ks.l:=U;simp[gt,ah this]
   rw[this];exact h.names k k0 U
 .rcases ai.1 b with b|b
  .exact h.jv k b
  .grind
def Ue{size:Int}{next:List (List Int)}{jC:List Int}{ks:List Kind}{R:Int}{M:Bool}{cs:List Clause}{B E i:Int}(a:qp (EC size next jC))(hi:1<=i/\i<=2)(b:IN i R i ks)(n:0<=R/\R<=2)(f:∀c∈cs,tZ i size c)(hl:cs.l<=3)(q:1<=B/\B<=3)(o:1<=E/\E<=3):iE ⟨size,next,jC,ks,R,M,cs,B,E⟩:=by
 have d:=b.len;have g:(ks.l:Int)=i:=U;refine⟨⟨a.size,a.next,a.row,a.jC,a.turns⟩,iv,λk k0 k1=>b.names k k0 (by dsimp only at k1;omega),λk e=>⟨(b.jv k e).1,λl hl=>?_⟩,n,hl,λc h=>?_,q,o⟩
 .obtain⟨p,j⟩:=(b.jv k e).2 l hl
  exact⟨⟨j,p.len⟩,λx m=>⟨by
   have:=p.steps x m;dsimp only;rw[g]
   exact this⟩,p.wQ,p.push,p.I2⟩
 .have h1:=(f c h).ok;have r:=(f c h).out;exact⟨by dsimp only;rw[g];exact h1,r⟩
def f57(r:Raw)(o:YY r):Wf T 98 [.agg r.cells] [] (Ey dG iE):=by
 have h0:=kK (a:=r.f0) (b:=3) o.f0.1;have w0:bf.wrap r.f0=r.f0:=qo ⟨by have:=o.f0.1;omega,by have:=o.f0.2;omega⟩;refine Yz IG (lV 86 [1085] IG.body) ?_;simp[IG,jY,lV,po,py,pY,nQ,Raw.cells,w0];refine Yv (f104 r.w r.h r.c o.w o.h o.c) λbd A=>?_;simp;obtain⟨size,next,jC⟩:=bd;simp[bD]at A ⊢;refine ma ?_ ?_<;>intro h
 all_goals
  obtain⟨N,UB,hN,e2⟩:∃N:Int,(N=if 0<r.k1.l then 2 else 1)/\(1<=N/\N<=2)/\(N=2->0<r.k1.l):=⟨_,rfl,by split<;>omega,by split<;>omega⟩;simp only[if_pos,if_neg,h,if_false,if_true,not_false_eq_true]at UB;obtain⟨M,hM⟩:∃M:Bool,decide (iu r.f1 4=3)=M:=⟨_,rfl⟩;have Q:0<=iu r.f0 3/\iu r.f0 3<=2:=by have:=o.f0.1;unfold nO at *;omega
  obtain⟨R,QB⟩:∃R,iu r.f0 3=R:=⟨_,rfl⟩;rw[QB]at Q;refine gZ.k ((0,0,[]):Int×Nat×List Kind) (λy=>[(1,.ptr 0 0 0),(2,.ptr 1 0 0),(3,.ptr 2 0 0),(4,.i N),(5,.i y.1)]) (λy=>.row 27 0 r.cells :: .row 43 0 [.i 0,.gV,.gV,.gV,.i 0,.b false,.gV,.i 0,.i 0] :: .row 43 0 [.i size,.sl 1 (next.map fI),dI jC,(if y.1=0 then .gV else .gR 3 y.2.1 3 0 y.2.2.l),.i R,.b M,.gV,.i 3,.i 2]::(if y.1=0 then []else [.row 140 y.2.1 (cl Kind.cells y.2.2)])) (λy=>0<=y.1/\y.1<=N/\IN N R y.1 y.2.2) (λy=>(N-y.1).n) ?_ (by simp[UB]) (by simp[Raw.cells,hM,QB,w0]) rfl rfl rfl ?_
  .exact⟨U,by show(0:Int)<=N;omega,rfl,λk h1 Z=>by exfalso;dsimp only at Z;omega,gP⟩
  clear UB h;rintro⟨i,L,ks⟩ ⟨i0,i1,u⟩;dsimp only at i0 i1 u ⊢;have i2:=u.len
  by_cases hi:i<N
  .by_cases f:i=0
   .have s:ks = []:=aA.1 U;subst f;subst s;simp[hi,Raw.cells];refine jM hi ?_;generalize decide (bits BinOp.and cc (nV cc r.f2 0) 1=1)=kp;refine gZ.e ((0,0,[]):Int×Nat×List (List gT)) (λy=>[(1,.ptr 0 0 0),(2,.ptr 1 0 0),(3,.ptr 2 0 0),(4,.i N),(5,.i 0),(6,.ptr 4 0 0),(7,.i y.1)]) (λy=>.row 27 0 r.cells :: .row 43 0 [.i 0,.gV,.gV,.gV,.i 0,.b false,.gV,.i 0,.i 0] :: .row 43 0 [.i size,.sl 1 (next.map fI),dI jC,.gV,.i R,.b M,.gV,.i 3,.i 2] :: .row 9 0 [.val (.string ⟨#[97]⟩),.val (.string ⟨#[98,101,101]⟩)] :: .row 140 0 [.val (.string ⟨#[97]⟩),(if y.1=0 then .gV else .gR 5 y.2.1 1 0 y.2.2.l),.b kp]::(if y.1=0 then []else [.row 175 y.2.1 (cl fP y.2.2)])) (λy=>0<=y.1/\y.1<=4/\y.1<=r.k0.l/\y.2.2.l=y.1.n/\∀l∈y.2.2,yL 8 N R l/\1<=l.l) (λy=>(4-y.1).n) ?_ ?_
    .simp
    rintro⟨j,gm,ps⟩ ⟨j0,j1,j2,j3,j4⟩;dsimp only at j0 j1 j2 j3 j4 ⊢;have O:next.l=8:=A.next
    by_cases t:j<r.k0.l/\j<4
    .have w:=o.k0 _ (ij j0 t.1)
     by_cases f:j=0
     .have s:ps = []:=aA.1 U;subst f;subst s;simp[(U:0<r.k0.l),Raw.cells,O];refine Yv (f105 (gt r.k0 0) N R w U U) λp P=>?_;simp;refine gU ?_;refine LJ.i (1,0,[p]) (by first|rfl|simp[jw]) (by first|rfl|simp[jw]) rfl rfl ?_;exact Hy ⟨rfl,λl hl=>by rw[aE.1 hl];exact P⟩
     .rw[if_neg f,if_neg f];simp[t.1,t.2,Raw.cells,O,f];refine⟨j0,?_⟩;refine Yv (f105 (gt r.k0 j) N R w U U) λp P=>?_;simp;refine jM f ?_;refine jM f ?_;refine LJ.i (j+1,gm+1,ps ++ [p]) (by first|rfl|simp[(U:¬(j+1=0))]) (by first|rfl|simp[(U:¬(j+1=0))]) rfl rfl ?_;refine⟨iv,iv,iv,iv,iz,λl hl=>?_⟩;rcases ai.1 hl with hl|hl
      .exact j4 l hl
      .grind
    .have e:¬j<(r.k0.l:Int)\/¬j<4:=by omega
     by_cases f:j=0
     .have s:ps = []:=aA.1 U;subst f;subst s;have e:r.k0 = []:=aA.1 U;simp[e,Raw.cells];refine gU ?_;refine LJ.i (1,0,[⟨⟨#[97]⟩,[],kp⟩]) (by first|rfl|simp[jw,e,dN]) (by first|rfl|simp[jw,e,dN]) rfl rfl ?_;exact iQ (u.add U rfl gP gP)
     .rw[if_neg f,if_neg f];have q:D.sl 1 (ps.map fP)=dN 1 fP ps:=Xq (by intro h;simp[h]at j3;omega)
      by_cases z:j<r.k0.l
      .have:¬j<4:=by omega
       simp[Raw.cells,f,z,this];refine LJ.i (1,0,[⟨⟨#[97]⟩,ps,kp⟩]) (by first|rfl|simp[jw,q]) (by first|rfl|simp[jw,q]) rfl rfl ?_;exact iQ (u.add U rfl U j4)
      .simp[Raw.cells,f,z];refine LJ.i (1,0,[⟨⟨#[97]⟩,ps,kp⟩]) (by first|rfl|simp[jw,q]) (by first|rfl|simp[jw,q]) rfl rfl ?_;exact iQ (u.add U rfl U j4)
   .have mw:i=1:=by omega
    subst mw;have Y:N=2:=U;subst Y;rw[if_neg f,if_neg f];simp[Raw.cells];refine gU ?_;clear f;simp at i2;generalize decide (bits BinOp.and cc (nV cc r.f2 1) 1=1)=kp;refine gZ.e ((0,0,[]):Int×Nat×List (List gT)) (λy=>[(1,.ptr 0 0 0),(2,.ptr 1 0 0),(3,.ptr 2 0 0),(4,(.i 2)),(5,.i 1),(6,.ptr 5 0 0),(7,.i y.1)]) (λy=>.row 27 0 r.cells :: .row 43 0 [.i 0,.gV,.gV,.gV,.i 0,.b false,.gV,.i 0,.i 0] :: .row 43 0 [.i size,.sl 1 (next.map fI),dI jC,.gR 3 L 3 0 ks.l,.i R,.b M,.gV,.i 3,.i 2] :: .row 140 L (cl Kind.cells ks) :: .row 9 0 [.val (.string ⟨#[97]⟩),.val (.string ⟨#[98,101,101]⟩)] :: .row 140 0 [.val (.string ⟨#[98,101,101]⟩),(if y.1=0 then .gV else .gR 6 y.2.1 1 0 y.2.2.l),.b kp]::(if y.1=0 then []else [.row 175 y.2.1 (cl fP y.2.2)])) (λy=>0<=y.1/\y.1<=4/\y.1<=r.k1.l/\y.2.2.l=y.1.n/\∀l∈y.2.2,yL 8 2 R l/\1<=l.l) (λy=>(4-y.1).n) ?_ ?_
    .simp
    rintro⟨j,gm,ps⟩ ⟨j0,j1,j2,j3,j4⟩;dsimp only at j0 j1 j2 j3 j4 ⊢;have O:next.l=8:=A.next
    by_cases t:j<r.k1.l/\j<4
    .have w:=o.k1 _ (ij j0 t.1)
     by_cases f:j=0
     .have s:ps = []:=aA.1 U;subst f;subst s;simp[(U:0<r.k1.l),Raw.cells,O];refine Yv (f105 (gt r.k1 0) 2 R w U U) λp P=>?_;simp;refine gU ?_;refine LJ.i (1,0,[p]) (by first|rfl|simp[jw]) (by first|rfl|simp[jw]) rfl rfl ?_;exact Hy ⟨rfl,λl hl=>by rw[aE.1 hl];exact P⟩
     .rw[if_neg f,if_neg f];simp[t.1,t.2,Raw.cells,O,f];refine⟨j0,?_⟩;refine Yv (f105 (gt r.k1 j) 2 R w U U) λp P=>?_;simp;refine jM f ?_;refine jM f ?_;refine LJ.i (j+1,gm+1,ps ++ [p]) (by first|rfl|simp[(U:¬(j+1=0))]) (by first|rfl|simp[(U:¬(j+1=0))]) rfl rfl ?_;refine⟨iv,iv,iv,iv,iz,λl hl=>?_⟩;rcases ai.1 hl with hl|hl
      .exact j4 l hl
      .grind
    .have e:¬j<(r.k1.l:Int)\/¬j<4:=by omega
     by_cases f:j=0
     .grind
     .rw[if_neg f,if_neg f];have q:D.sl 1 (ps.map fP)=dN 1 fP ps:=Xq (by intro h;simp[h]at j3;omega)
      by_cases z:j<r.k1.l
      .have:¬j<4:=by omega
       simp[Raw.cells,f,z,this];refine gU ?_;refine LJ.i (1+1,L+1,ks ++ [⟨⟨#[98,101,101]⟩,ps,kp⟩]) (by first|rfl|simp[q]) (by first|rfl|simp[q]) rfl rfl ?_;exact iQ (u.add U rfl U j4)
      .simp[Raw.cells,f,z];refine gU ?_;refine LJ.i (1+1,L+1,ks ++ [⟨⟨#[98,101,101]⟩,ps,kp⟩]) (by first|rfl|simp[q]) (by first|rfl|simp[q]) rfl rfl ?_;exact iQ (u.add U rfl U j4)
  .have X:i=N:=by omega
   have f:¬i=0:=U;rw[if_neg f,if_neg f];have e1:=o.f3;have e0:=o.f4;have q3:=Lx r.f3 4;have q4:=Lx r.f4 4;have e3:=kK (a:=lh .u8 r.f3 4) (b:=3) q3.1;have e4:=kK (a:=lh .u8 r.f4 4) (b:=3) q4.1;have V:bf.wrap (lh .u8 r.f3 4)=lh .u8 r.f3 4:=qo jc;have S:bf.wrap (lh .u8 r.f4 4)=lh .u8 r.f4 4:=qo jc;simp[Raw.cells,hi,V,S];subst X;have W:1<=i/\i<=2:=hN;clear e3 e4;have e3:0<=iu (lh .u8 r.f3 4) 3/\iu (lh .u8 r.f3 4) 3<=2:=by have:=kK (a:=lh .u8 r.f3 4) (b:=3) q3.1;omega
   have e4:0<=iu (lh .u8 r.f4 4) 3/\iu (lh .u8 r.f4 4) 3<=2:=by have:=kK (a:=lh .u8 r.f4 4) (b:=3) q4.1;omega
   (with_reducible repeat' first|refine Xk ?_<;>try simp[V,S]|refine Xs ?_ ?_<;>intro h<;>(try intro h')<;>(try simp[h,V,S])<;>try omega|refine Xg ?_|omega)
   all_goals
    obtain⟨B,hB,Us⟩:∃B:Int,(B=if iu r.f3 4=3 then 1+iu (lh .u8 r.f3 4) 3 else 3)/\1<=B/\B<=3:=⟨_,rfl,by split<;>omega⟩;obtain⟨E,hE,JQ⟩:∃E:Int,(E=if iu r.f4 4=3 then 1+iu (lh .u8 r.f4 4) 3 else 2)/\1<=E/\E<=3:=⟨_,rfl,by split<;>omega⟩;generalize iu r.f3 4=T3 at *;generalize iu r.f4 4=T4 at *;simp only[*,if_true,if_false]at hB hE;refine gZ.e ((0,0,[]):Int×Nat×List Clause) (λy=>[(1,.ptr 0 0 0),(2,.ptr 1 0 0),(3,.ptr 2 0 0),(4,.i i),(8,.i y.1)]) (λy=>.row 27 0 r.cells :: .row 43 0 [.i 0,.gV,.gV,.gV,.i 0,.b false,.gV,.i 0,.i 0] :: .row 43 0 [.i size,.sl 1 (next.map fI),dI jC,.gR 3 L 3 0 ks.l,.i R,.b M,(if y.1=0 then .gV else .gR 4 y.2.1 4 0 y.2.2.l),.i B,.i E] :: .row 140 L (cl Kind.cells ks)::(if y.1=0 then []else [.row 253 y.2.1 (cl Clause.cells y.2.2)])) (λy=>0<=y.1/\y.1<=3/\y.1<=r.cl.l/\y.2.2.l=y.1.n/\∀c∈y.2.2,tZ i size c) (λy=>(3-y.1).n) ?_ ?_
    .simp
    clear hB hE;rintro⟨j,gc,cs⟩ ⟨j0,j1,j2,j3,j4⟩;dsimp only at j0 j1 j2 j3 j4 ⊢
    by_cases t:j<r.cl.l/\j<3
    .have w:=o.cl _ (ij j0 t.1);obtain⟨⟨g,n,bc⟩,C⟩:∃x,gt r.cl j=x:=⟨_,rfl⟩;rw[C]at w;obtain⟨⟨a0,a1⟩,⟨b0,b1⟩,⟨c0,c1⟩⟩:=w;dsimp only at a0 a1 b0 b1 c0 c1;have I:bf.wrap g=g:=qo jc;have H:bf.wrap n=n:=qo jc;have wc:bf.wrap bc=bc:=qo jc;have qa:=Lx g 4;have G:bf.wrap (lh .u8 g 4)=lh .u8 g 4:=qo jc;have ra:0<=iu g 3/\iu g 3<=2:=by have:=kK (a:=g) (b:=3) a0;omega
     have rq:0<=iu (lh .u8 g 4) 3/\iu (lh .u8 g 4) 3<=2:=by have:=kK (a:=lh .u8 g 4) (b:=3) qa.1;omega
     have v:0<=iu n i/\iu n i<i:=by have:=kK (a:=n) (b:=i) b0;have h1:=bZ n (U:i≠0);have Z:=bR n (U:0<i);omega
     have js:1<=size/\size<=9:=A.size
     have rc:0<=iu bc size/\iu bc size<size:=by have:=kK (a:=bc) (b:=size) c0;have h1:=bZ bc (U:size≠0);have Z:=bR bc (U:0<size);omega
     have r3:0<=iu bc 3/\iu bc 3<=2:=by have:=kK (a:=bc) (b:=3) c0;omega
     have J:size≠0:=U
     by_cases F:j=0
     .have s:cs = []:=aA.1 U;subst F;subst s;simp[(U:0<r.cl.l),C,I,H,wc,G,f,J];(with_reducible repeat' first|refine Xk ?_<;>try simp[(U:0<r.cl.l),C,I,H,wc,G,f,J]|refine Xs ?_ ?_<;>intro h<;>(try intro h')<;>(try simp[h,(U:0<r.cl.l),C,I,H,wc,G,f,J])<;>try omega|refine Xg ?_|omega)
      .have ok:tZ i size ⟨3,0,iu bc 3,1+iu (lh .u8 g 4) 3⟩:=⟨.inr (.inr ⟨rfl,rfl,r3.1,iv⟩),iv⟩;refine LJ.i (1,0,[⟨3,0,iu bc 3,1+iu (lh .u8 g 4) 3⟩]) (by first|rfl|simp[jw]) (by first|rfl|simp[jw]) rfl rfl ?_;exact Hy ⟨rfl,λc m=>by rw[aE.1 m];exact ok⟩
      .have ok:tZ i size ⟨2,iu n i,iu bc size,1+iu (lh .u8 g 4) 3⟩:=⟨.inr (.inl ⟨rfl,v.1,v.2,rc.1,rc.2⟩),iv⟩;refine LJ.i (1,0,[⟨2,iu n i,iu bc size,1+iu (lh .u8 g 4) 3⟩]) (by first|rfl|simp[jw]) (by first|rfl|simp[jw]) rfl rfl ?_;exact Hy ⟨rfl,λc m=>by rw[aE.1 m];exact ok⟩
      .have ok:tZ i size ⟨1+iu g 3,iu n i,0,1+iu (lh .u8 g 4) 3⟩:=⟨.inl (tV ⟨v.1,v.2,rfl⟩),iv⟩;refine LJ.i (1,0,[⟨1+iu g 3,iu n i,0,1+iu (lh .u8 g 4) 3⟩]) (by first|rfl|simp[jw]) (by first|rfl|simp[jw]) rfl rfl ?_;exact Hy ⟨rfl,λc m=>by rw[aE.1 m];exact ok⟩
     .rw[if_neg F,if_neg F];have K:∀a b c d,cl Clause.cells cs ++ [.val (.int .i64 a),.i b,.i c,.val (.int .i64 d)]=cl Clause.cells (cs ++ [⟨a,b,c,d⟩]):=λa b c d=>by rw[<-tE];rfl
      simp[t.1,t.2,C,I,H,wc,G,f,J];(with_reducible repeat' first|refine Xk ?_<;>try simp[C,I,H,wc,G,f,J]|refine Xs ?_ ?_<;>intro h<;>(try intro h')<;>(try simp[h,C,I,H,wc,G,f,J])<;>try omega|refine Xg ?_|omega)
      .have ok:tZ i size ⟨3,0,iu bc 3,1+iu (lh .u8 g 4) 3⟩:=⟨.inr (.inr ⟨rfl,rfl,r3.1,iv⟩),iv⟩;refine LJ.i (j+1,gc+1,cs ++ [⟨3,0,iu bc 3,1+iu (lh .u8 g 4) 3⟩]) (by first|rfl|simp[(U:¬(j+1=0)),K]) (by first|rfl|simp[(U:¬(j+1=0)),K]) rfl rfl ?_;exact⟨iv,iv,iv,iv,iz,λc m=>(ai.1 m).elim (j4 c) λm=>by rw[aE.1 m];exact ok⟩
      .have ok:tZ i size ⟨2,iu n i,iu bc size,1+iu (lh .u8 g 4) 3⟩:=⟨.inr (.inl ⟨rfl,v.1,v.2,rc.1,rc.2⟩),iv⟩;refine LJ.i (j+1,gc+1,cs ++ [⟨2,iu n i,iu bc size,1+iu (lh .u8 g 4) 3⟩]) (by first|rfl|simp[(U:¬(j+1=0)),K]) (by first|rfl|simp[(U:¬(j+1=0)),K]) rfl rfl ?_;exact⟨iv,iv,iv,iv,iz,λc m=>(ai.1 m).elim (j4 c) λm=>by rw[aE.1 m];exact ok⟩
      .have ok:tZ i size ⟨1+iu g 3,iu n i,0,1+iu (lh .u8 g 4) 3⟩:=⟨.inl (tV ⟨v.1,v.2,rfl⟩),iv⟩;refine LJ.i (j+1,gc+1,cs ++ [⟨1+iu g 3,iu n i,0,1+iu (lh .u8 g 4) 3⟩]) (by first|rfl|simp[(U:¬(j+1=0)),K]) (by first|rfl|simp[(U:¬(j+1=0)),K]) rfl rfl ?_;exact⟨iv,iv,iv,iv,iz,λc m=>(ai.1 m).elim (j4 c) λm=>by rw[aE.1 m];exact ok⟩
    .by_cases F:j=0
     .have s:cs = []:=aA.1 U;subst F;subst s;simp[(U:¬ 0<r.cl.l)];refine gU ?_;exact Ey.i ⟨size,next,jC,ks,R,M,[],B,E⟩ (by simp[dN]) rfl (Ue A W u Q gP gP Us JQ)
     .rw[if_neg F,if_neg F];have q:D.sl 4 (cs.map Clause.cells)=dN 4 Clause.cells cs:=Xq (by intro h;simp[h]at j3;omega)
      by_cases z:j<r.cl.l
      .have:¬j<3:=by omega
       simp[z,this];exact Ey.i ⟨size,next,jC,ks,R,M,cs,B,E⟩ (by simp[q]) rfl (Ue A W u Q j4 U Us JQ)
      .simp[z];exact Ey.i ⟨size,next,jC,ks,R,M,cs,B,E⟩ (by simp[q]) rfl (Ue A W u Q j4 U Us JQ)
end Go.Proofs.YtmehofoficaelaaGreatDoor
namespace Go.Proofs.YtmehofoficaelaaGreatDoor
open Go Go.AL Classical
set_option maxRecDepth 10000
set_option maxHeartbeats 4000000
attribute [local simp] Raw.cells
structure sw where
 r:Raw
 l:List Int
 Sa:List Int
def sw.cells(x:sw):List D:=x.r.cells++(cl fU x.l ++ [dU x.Sa])
attribute [local simp] sw.cells
def ZO(x:sw):closed (.agg x.cells)=true:=by simp[ZL,iB]
structure Ik(x:sw):Prop where
 r:YY x.r
 len:x.l.l=18
 l:∀n∈x.l,0<=n/\n<256
 Sa:∀n∈x.Sa,0<=n/\n<256
def f32(x:sw)(c:Ik x):Wf T 50 [.agg x.cells] [] (Ey (λy:gY×Pos=>.tup [dG y.1,dP y.2]) λy=>iE y.1/\ja y.1 y.2):=by
 obtain⟨r,l,p⟩:=x;have hl:l.l=18:=c.len;refine Yz ID (jY 32 [1005] ID.body) ?_;simp[ID,jY,lV,po,py,pY,nQ,sw.cells];refine ik.q rfl rfl (f57 r c.r) gP (λ_=>gP) ?_;intro g hg;simp;refine gU ?_;refine gZ.e ((0,0,[]):Int×Nat×List Int) (λy=>[(1,.ptr 0 0 0),(2,.ptr 1 0 0),(3,.ptr 2 0 0),(4,.ptr 3 0 0),(5,.gR 4 y.2.1 1 0 y.2.2.l),(6,.i y.1)]) (λy=>[.row 32 0 (sw.cells ⟨r,l,p⟩),.row 43 0 [.i 0,.gV,.gV,.gV,.i 0,.b false,.gV,.i 0,.i 0],.row 46 0 [.gV,.gV,.gV,.i 0,.i 0],.row 43 0 g.cells,.row 3 y.2.1 (cl f1 y.2.2)]) (λy=>0<=y.1/\y.1<=6/\y.1<=p.l/\y.2.2.l=y.1.n/\∀n∈y.2.2,0<=n/\n<256) (λy=>(6-y.1).n) ?_ ?_
 .simp
 rintro⟨i,u,f⟩ ⟨i0,t,s,o,e⟩;dsimp only at i0 t s o e ⊢;have v:l.l+12=30:=U
 by_cases hi:i<p.l/\i<6
 .have m:=c.Sa _ (ij i0 hi.1);dsimp only at m;have k:bf.wrap (gt p i)=gt p i:=qo jc;simp[sw.cells,hi.1,hi.2,hl,k];refine jM k ?_;refine LJ.e (i+1,u+1,f ++ [gt p i]) ?_;refine⟨iv,iv,iv,iv,iz,λn d=>?_⟩;rcases ai.1 d with d|d
  .exact e n d
  .rw[aE.1 d];exact m
 .by_cases a:i<p.l
  .have:¬i<6:=by omega
   simp[sw.cells,a,this,hl];refine Yv (f59 g hg l hl c.l) λq a=>?_;simp;refine Yv (f58 g hg q a f U e) λb h=>?_;simp;obtain⟨⟨w,z⟩,j⟩:=h;refine gU ?_;exact Ey.i (g,gt b (b.l-1)) rfl rfl ⟨hg,j _ (ij U U)⟩
  .simp[sw.cells,a,hl];refine Yv (f59 g hg l hl c.l) λq a=>?_;simp;refine Yv (f58 g hg q a f U e) λb h=>?_;simp;obtain⟨⟨w,z⟩,j⟩:=h;refine gU ?_;exact Ey.i (g,gt b (b.l-1)) rfl rfl ⟨hg,j _ (ij U U)⟩
