/- 26 -/
import Derived.Test.YtmehofoficaelaaGreatDoorV16
set_option linter.all false
open List renaming mem_singleton→aE,length→List.l
open Go.IntKind renaming i64→bb,u8→bs
open Int renaming toNat→Int.n
namespace Go.Proofs.YtmehofoficaelaaGreatDoor
open Go Go.AL Classical
set_option maxRecDepth 10000
set_option maxHeartbeats 40000000
@[irreducible] def fT(x:Int×Int×Int):List D:=[.val (.int .u8 x.1),.val (.int .u8 x.2.1),.val (.int .u8 x.2.2)]
@[simp] theorem atx(x:Int×Int×Int):fT x = [.val (.int .u8 x.1),.val (.int .u8 x.2.1),.val (.int .u8 x.2.2)]:=by unfold fT;rfl
instance:Fl fT 3:=⟨λ_=>fZ,λ_=>by simp[gK,closed]⟩
structure Raw where
 w:Int
 h:Int
 c:Int
 k0:List Int
 k1:List Int
 cl:List (Int×Int×Int)
 f0:Int
 f1:Int
 f2:Int
 f3:Int
 f4:Int
 f5:Int
def Raw.cells(r:Raw):List D:=[.val (.int .u8 r.w),.val (.int .u8 r.h),.val (.int .u8 r.c),dU r.k0,dU r.k1,.sl 3 (r.cl.map fT),.val (.int .u8 r.f0),.val (.int .u8 r.f1),.val (.int .u8 r.f2),.val (.int .u8 r.f3),.val (.int .u8 r.f4),.val (.int .u8 r.f5)]
def mA(n:Int):Prop:=0<=n/\n<256
structure UF(r:Raw):Prop where
 w:mA r.w
 h:mA r.h
 c:mA r.c
 k0:∀n∈r.k0,mA n
 k1:∀n∈r.k1,mA n
 cl:∀x∈r.cl,mA x.1/\mA x.2.1/\mA x.2.2
 f0:mA r.f0
 f1:mA r.f1
 f2:mA r.f2
 f3:mA r.f3
 f4:mA r.f4
 f5:mA r.f5
def TN{α:Type}{sz:Nat}{f:α->List D}{l:List α}(h:l≠[]):D.sl sz (l.map f)=dN sz f l:=by
 cases l with
 | nil=>exact absurd rfl h
 | cons a r=>rfl
attribute [local simp] Raw.cells
@[simp] theorem asA(l:List Kind)(n:ByteArray)(p:List (List gg))(k:Bool):cl Kind.cells l ++ [.val (.string n),dN 1 fP p,.b k]=cl Kind.cells (l ++ [⟨n,p,k⟩]):=by rw[<-qc];rfl
@[simp] theorem asx(l:List Clause)(a b c d:Int):cl Clause.cells l ++ [.i a,.i b,.i c,.i d]=cl Clause.cells (l ++ [⟨a,b,c,d⟩]):=by rw[<-qc];rfl
structure sk(kinds size:Int)(c:Clause):Prop where
 ok:(c.cond=1/\0<=c.kind/\c.kind<kinds/\c.n=0)\/(c.cond=2/\0<=c.kind/\c.kind<kinds/\0<=c.n/\c.n<size)\/(c.cond=3/\c.kind=0/\0<=c.n/\c.n<=64)
 out:1<=c.out/\c.out<=3
structure FV(N R i:Int)(ks:List Kind):Prop where
 len:ks.l=i.n
 names:∀k:Int,0<=k->k<i->(gt ks k).name=kindName k
 jA:∀k∈ks,k.jA.l<=4/\∀l∈k.jA,wP 8 N R l/\1<=l.l
def FV.add{N R i:Int}{ks:List Kind}(h:FV N R i ks)(i0:0<=i){a:ByteArray}(c:a=kindName i){ps:List (List gg)}{kp:Bool}(h1:ps.l<=4)(d:∀l∈ps,wP 8 N R l/\1<=l.l):FV N R (i+1) (ks ++ [⟨a,ps,kp⟩]):=by
 have hl:=h.len;refine⟨gL,λk k0 k1=>?_,λk b=>?_⟩
 .by_cases e:k=i
  .have:gt (ks ++ [(⟨a,ps,kp⟩:Kind)]) k=⟨a,ps,kp⟩:=by subst e;simp[gt,<-hl]
   rw[this,c,e]
  .have:gt (ks ++ [(⟨a,ps,kp⟩:Kind)]) k=gt ks k:=by have:k.n<ks.l:=U;simp[gt,ah this]
   rw[this];exact h.names k k0 U
 .rcases aj.1 b with b|b
  .exact h.jA k b
  .grind
def QE{size:Int}{next:List (List Int)}{jD:List Int}{ks:List Kind}{R:Int}{M:Bool}{cs:List Clause}{B E i:Int}(a:oU (Cj size next jD))(hi:1<=i/\i<=2)(b:FV i R i ks)(n:0<=R/\R<=2)(f:∀c∈cs,sk i size c)(hl:cs.l<=3)(q:1<=B/\B<=3)(o:1<=E/\E<=3):gR ⟨size,next,jD,ks,R,M,cs,B,E⟩:=by
 have d:=b.len;have g:(ks.l:Int)=i:=U;refine⟨⟨a.size,a.next,a.row,a.jD,a.turns⟩,gJ,λk k0 k1=>b.names k k0 (by dsimp only at k1;omega),λk e=>⟨(b.jA k e).1,λl hl=>?_⟩,n,hl,λc h=>?_,q,o⟩
 .obtain⟨p,j⟩:=(b.jA k e).2 l hl
  exact⟨⟨j,p.len⟩,λx m=>⟨by
   have:=p.steps x m;dsimp only;rw[g]
   exact this⟩,p.uv,p.push,p.Mm⟩
 .have h1:=(f c h).ok;have r:=(f c h).out;exact⟨by dsimp only;rw[g];exact h1,r⟩
def f57(r:Raw)(o:UF r):Wf T 98 [.agg r.cells] [] (Ey dG gR):=by
 have h0:=jM (a:=r.f0) (b:=3) o.f0.1;have w0:bb.wrap r.f0=r.f0:=n5 ⟨by have:=o.f0.1;omega,by have:=o.f0.2;omega⟩;refine Yz FO (kK 86 [1085] FO.body) ?_;simp[FO,ji,kK,nq,nA,nR,mm,Raw.cells,w0];refine Yv (f104 r.w r.h r.c o.w o.h o.c) λbd A=>?_;simp;obtain⟨size,next,jD⟩:=bd;simp[bD]at A ⊢;refine kj ?_ ?_<;>intro h
 all_goals
  obtain⟨N,Q3,hN,Xr⟩:∃N:Int,(N=if 0<r.k1.l then 2 else 1)/\(1<=N/\N<=2)/\(N=2->0<r.k1.l):=⟨_,rfl,by split<;>omega,by split<;>omega⟩;simp only[if_pos,if_neg,h,if_false,if_true,not_false_eq_true]at Q3;obtain⟨M,hM⟩:∃M:Bool,decide (gG r.f1 4=3)=M:=⟨_,rfl⟩;have Q:0<=gG r.f0 3/\gG r.f0 3<=2:=by have:=o.f0.1;unfold mA at *;omega
  obtain⟨R,W9⟩:∃R,gG r.f0 3=R:=⟨_,rfl⟩;rw[W9]at Q;refine gx.k ((0,0,[]):Int×Nat×List Kind) (λy=>[(1,.ptr 0 0 0),(2,.ptr 1 0 0),(3,.ptr 2 0 0),(4,.i N),(5,.i y.1)]) (λy=>.row 27 0 r.cells :: .row 43 0 [.i 0,.gi,.gi,.gi,.i 0,.b false,.gi,.i 0,.i 0] :: .row 43 0 [.i size,.sl 1 (next.map fI),dI jD,(if y.1=0 then .gi else .gf 3 y.2.1 3 0 y.2.2.l),.i R,.b M,.gi,.i 3,.i 2]::(if y.1=0 then []else [.row 140 y.2.1 (cl Kind.cells y.2.2)])) (λy=>0<=y.1/\y.1<=N/\FV N R y.1 y.2.2) (λy=>(N-y.1).n) ?_ (by simp[Q3]) (by simp[Raw.cells,hM,W9,w0]) rfl rfl rfl ?_
  .exact⟨U,by show(0:Int)<=N;omega,rfl,λk h1 Z=>by exfalso;dsimp only at Z;omega,fZ⟩
  clear Q3 h;rintro⟨i,L,ks⟩ ⟨i0,i1,u⟩;dsimp only at i0 i1 u ⊢;have i2:=u.len
  by_cases hi:i<N
  .by_cases f:i=0
   .have s:ks = []:=aA.1 U;subst f;subst s;simp[hi,Raw.cells];refine jT hi ?_;generalize decide (bits BinOp.and bs (mG bs r.f2 0) 1=1)=kp;refine gx.e ((0,0,[]):Int×Nat×List (List gg)) (λy=>[(1,.ptr 0 0 0),(2,.ptr 1 0 0),(3,.ptr 2 0 0),(4,.i N),(5,.i 0),(6,.ptr 4 0 0),(7,.i y.1)]) (λy=>.row 27 0 r.cells :: .row 43 0 [.i 0,.gi,.gi,.gi,.i 0,.b false,.gi,.i 0,.i 0] :: .row 43 0 [.i size,.sl 1 (next.map fI),dI jD,.gi,.i R,.b M,.gi,.i 3,.i 2] :: .row 9 0 [.val (.string ⟨#[97]⟩),.val (.string ⟨#[98,101,101]⟩)] :: .row 140 0 [.val (.string ⟨#[97]⟩),(if y.1=0 then .gi else .gf 5 y.2.1 1 0 y.2.2.l),.b kp]::(if y.1=0 then []else [.row 175 y.2.1 (cl fP y.2.2)])) (λy=>0<=y.1/\y.1<=4/\y.1<=r.k0.l/\y.2.2.l=y.1.n/\∀l∈y.2.2,wP 8 N R l/\1<=l.l) (λy=>(4-y.1).n) ?_ ?_
    .simp
    rintro⟨j,gm,ps⟩ ⟨j0,j1,j2,j3,j4⟩;dsimp only at j0 j1 j2 j3 j4 ⊢;have O:next.l=8:=A.next
    by_cases t:j<r.k0.l/\j<4
    .have w:=o.k0 _ (gF j0 t.1)
     by_cases f:j=0
     .have s:ps = []:=aA.1 U;subst f;subst s;simp[(U:0<r.k0.l),Raw.cells,O];refine Yv (f105 (gt r.k0 0) N R w U U) λp P=>?_;simp;refine gh ?_;refine LJ.i (1,0,[p]) (by first|rfl|simp[je]) (by first|rfl|simp[je]) rfl rfl ?_;exact AB ⟨rfl,λl hl=>by rw[aE.1 hl];exact P⟩
     .rw[if_neg f,if_neg f];simp[t.1,t.2,Raw.cells,O,f];refine⟨j0,?_⟩;refine Yv (f105 (gt r.k0 j) N R w U U) λp P=>?_;simp;refine jT f ?_;refine jT f ?_;refine LJ.i (j+1,gm+1,ps ++ [p]) (by first|rfl|simp[(U:¬(j+1=0))]) (by first|rfl|simp[(U:¬(j+1=0))]) rfl rfl ?_;refine⟨gJ,gJ,gJ,gJ,gL,λl hl=>?_⟩;rcases aj.1 hl with hl|hl
      .exact j4 l hl
      .grind
    .have e:¬j<(r.k0.l:Int)\/¬j<4:=by omega
     by_cases f:j=0
     .have s:ps = []:=aA.1 U;subst f;subst s;have e:r.k0 = []:=aA.1 U;simp[e,Raw.cells];refine gh ?_;refine LJ.i (1,0,[⟨⟨#[97]⟩,[],kp⟩]) (by first|rfl|simp[je,e,dN]) (by first|rfl|simp[je,e,dN]) rfl rfl ?_;exact gX (u.add U rfl fZ fZ)
     .rw[if_neg f,if_neg f];have q:D.sl 1 (ps.map fP)=dN 1 fP ps:=TN (by intro h;simp[h]at j3;omega)
      by_cases z:j<r.k0.l
      .have:¬j<4:=by omega
       simp[Raw.cells,f,z,this];refine LJ.i (1,0,[⟨⟨#[97]⟩,ps,kp⟩]) (by first|rfl|simp[je,q]) (by first|rfl|simp[je,q]) rfl rfl ?_;exact gX (u.add U rfl U j4)
      .simp[Raw.cells,f,z];refine LJ.i (1,0,[⟨⟨#[97]⟩,ps,kp⟩]) (by first|rfl|simp[je,q]) (by first|rfl|simp[je,q]) rfl rfl ?_;exact gX (u.add U rfl U j4)
   .have kI:i=1:=by omega
    subst kI;have Y:N=2:=U;subst Y;rw[if_neg f,if_neg f];simp[Raw.cells];refine gh ?_;clear f;simp at i2;generalize decide (bits BinOp.and bs (mG bs r.f2 1) 1=1)=kp;refine gx.e ((0,0,[]):Int×Nat×List (List gg)) (λy=>[(1,.ptr 0 0 0),(2,.ptr 1 0 0),(3,.ptr 2 0 0),(4,(.i 2)),(5,.i 1),(6,.ptr 5 0 0),(7,.i y.1)]) (λy=>.row 27 0 r.cells :: .row 43 0 [.i 0,.gi,.gi,.gi,.i 0,.b false,.gi,.i 0,.i 0] :: .row 43 0 [.i size,.sl 1 (next.map fI),dI jD,.gf 3 L 3 0 ks.l,.i R,.b M,.gi,.i 3,.i 2] :: .row 140 L (cl Kind.cells ks) :: .row 9 0 [.val (.string ⟨#[97]⟩),.val (.string ⟨#[98,101,101]⟩)] :: .row 140 0 [.val (.string ⟨#[98,101,101]⟩),(if y.1=0 then .gi else .gf 6 y.2.1 1 0 y.2.2.l),.b kp]::(if y.1=0 then []else [.row 175 y.2.1 (cl fP y.2.2)])) (λy=>0<=y.1/\y.1<=4/\y.1<=r.k1.l/\y.2.2.l=y.1.n/\∀l∈y.2.2,wP 8 2 R l/\1<=l.l) (λy=>(4-y.1).n) ?_ ?_
    .simp
    rintro⟨j,gm,ps⟩ ⟨j0,j1,j2,j3,j4⟩;dsimp only at j0 j1 j2 j3 j4 ⊢;have O:next.l=8:=A.next
    by_cases t:j<r.k1.l/\j<4
    .have w:=o.k1 _ (gF j0 t.1)
     by_cases f:j=0
     .have s:ps = []:=aA.1 U;subst f;subst s;simp[(U:0<r.k1.l),Raw.cells,O];refine Yv (f105 (gt r.k1 0) 2 R w U U) λp P=>?_;simp;refine gh ?_;refine LJ.i (1,0,[p]) (by first|rfl|simp[je]) (by first|rfl|simp[je]) rfl rfl ?_;exact AB ⟨rfl,λl hl=>by rw[aE.1 hl];exact P⟩
     .rw[if_neg f,if_neg f];simp[t.1,t.2,Raw.cells,O,f];refine⟨j0,?_⟩;refine Yv (f105 (gt r.k1 j) 2 R w U U) λp P=>?_;simp;refine jT f ?_;refine jT f ?_;refine LJ.i (j+1,gm+1,ps ++ [p]) (by first|rfl|simp[(U:¬(j+1=0))]) (by first|rfl|simp[(U:¬(j+1=0))]) rfl rfl ?_;refine⟨gJ,gJ,gJ,gJ,gL,λl hl=>?_⟩;rcases aj.1 hl with hl|hl
      .exact j4 l hl
      .grind
    .have e:¬j<(r.k1.l:Int)\/¬j<4:=by omega
     by_cases f:j=0
     .grind
     .rw[if_neg f,if_neg f];have q:D.sl 1 (ps.map fP)=dN 1 fP ps:=TN (by intro h;simp[h]at j3;omega)
      by_cases z:j<r.k1.l
      .have:¬j<4:=by omega
       simp[Raw.cells,f,z,this];refine gh ?_;refine LJ.i (1+1,L+1,ks ++ [⟨⟨#[98,101,101]⟩,ps,kp⟩]) (by first|rfl|simp[q]) (by first|rfl|simp[q]) rfl rfl ?_;exact gX (u.add U rfl U j4)
      .simp[Raw.cells,f,z];refine gh ?_;refine LJ.i (1+1,L+1,ks ++ [⟨⟨#[98,101,101]⟩,ps,kp⟩]) (by first|rfl|simp[q]) (by first|rfl|simp[q]) rfl rfl ?_;exact gX (u.add U rfl U j4)
  .have X:i=N:=by omega
   have f:¬i=0:=U;rw[if_neg f,if_neg f];have e0:=o.f3;have e':=o.f4;have q3:=IM r.f3 4;have q4:=IM r.f4 4;have e3:=jM (a:=ki .u8 r.f3 4) (b:=3) q3.1;have e4:=jM (a:=ki .u8 r.f4 4) (b:=3) q4.1;have V:bb.wrap (ki .u8 r.f3 4)=ki .u8 r.f3 4:=n5 iM;have S:bb.wrap (ki .u8 r.f4 4)=ki .u8 r.f4 4:=n5 iM;simp[Raw.cells,hi,V,S];subst X;have W:1<=i/\i<=2:=hN;clear e3 e4;have e3:0<=gG (ki .u8 r.f3 4) 3/\gG (ki .u8 r.f3 4) 3<=2:=by have:=jM (a:=ki .u8 r.f3 4) (b:=3) q3.1;omega
   have e4:0<=gG (ki .u8 r.f4 4) 3/\gG (ki .u8 r.f4 4) 3<=2:=by have:=jM (a:=ki .u8 r.f4 4) (b:=3) q4.1;omega
   (with_reducible repeat' first|refine Xk ?_<;>try simp[V,S]|refine Xs ?_ ?_<;>intro h<;>(try intro h')<;>(try simp[h,V,S])<;>try omega|refine Xg ?_|omega)
   all_goals
    obtain⟨B,hB,QU⟩:∃B:Int,(B=if gG r.f3 4=3 then 1+gG (ki .u8 r.f3 4) 3 else 3)/\1<=B/\B<=3:=⟨_,rfl,by split<;>omega⟩;obtain⟨E,hE,G1⟩:∃E:Int,(E=if gG r.f4 4=3 then 1+gG (ki .u8 r.f4 4) 3 else 2)/\1<=E/\E<=3:=⟨_,rfl,by split<;>omega⟩;generalize gG r.f3 4=T3 at *;generalize gG r.f4 4=T4 at *;simp only[*,if_true,if_false]at hB hE;refine gx.e ((0,0,[]):Int×Nat×List Clause) (λy=>[(1,.ptr 0 0 0),(2,.ptr 1 0 0),(3,.ptr 2 0 0),(4,.i i),(8,.i y.1)]) (λy=>.row 27 0 r.cells :: .row 43 0 [.i 0,.gi,.gi,.gi,.i 0,.b false,.gi,.i 0,.i 0] :: .row 43 0 [.i size,.sl 1 (next.map fI),dI jD,.gf 3 L 3 0 ks.l,.i R,.b M,(if y.1=0 then .gi else .gf 4 y.2.1 4 0 y.2.2.l),.i B,.i E] :: .row 140 L (cl Kind.cells ks)::(if y.1=0 then []else [.row 253 y.2.1 (cl Clause.cells y.2.2)])) (λy=>0<=y.1/\y.1<=3/\y.1<=r.cl.l/\y.2.2.l=y.1.n/\∀c∈y.2.2,sk i size c) (λy=>(3-y.1).n) ?_ ?_
    .simp
    clear hB hE;rintro⟨j,gc,cs⟩ ⟨j0,j1,j2,j3,j4⟩;dsimp only at j0 j1 j2 j3 j4 ⊢
    by_cases t:j<r.cl.l/\j<3
    .have w:=o.cl _ (gF j0 t.1);obtain⟨⟨g,n,bc⟩,C⟩:∃x,gt r.cl j=x:=⟨_,rfl⟩;rw[C]at w;obtain⟨⟨a0,a1⟩,⟨b0,b1⟩,⟨c0,c1⟩⟩:=w;dsimp only at a0 a1 b0 b1 c0 c1;have I:bb.wrap g=g:=n5 iM;have H:bb.wrap n=n:=n5 iM;have wc:bb.wrap bc=bc:=n5 iM;have qa:=IM g 4;have G:bb.wrap (ki .u8 g 4)=ki .u8 g 4:=n5 iM;have ra:0<=gG g 3/\gG g 3<=2:=by have:=jM (a:=g) (b:=3) a0;omega
     have rq:0<=gG (ki .u8 g 4) 3/\gG (ki .u8 g 4) 3<=2:=by have:=jM (a:=ki .u8 g 4) (b:=3) qa.1;omega
     have v:0<=gG n i/\gG n i<i:=by have:=jM (a:=n) (b:=i) b0;have h1:=bY n (U:i≠0);have Z:=bO n (U:0<i);omega
     have iL:1<=size/\size<=9:=A.size
     have rc:0<=gG bc size/\gG bc size<size:=by have:=jM (a:=bc) (b:=size) c0;have h1:=bY bc (U:size≠0);have Z:=bO bc (U:0<size);omega
     have r3:0<=gG bc 3/\gG bc 3<=2:=by have:=jM (a:=bc) (b:=3) c0;omega
     have J:size≠0:=U
     by_cases F:j=0
     .have s:cs = []:=aA.1 U;subst F;subst s;simp[(U:0<r.cl.l),C,I,H,wc,G,f,J];(with_reducible repeat' first|refine Xk ?_<;>try simp[(U:0<r.cl.l),C,I,H,wc,G,f,J]|refine Xs ?_ ?_<;>intro h<;>(try intro h')<;>(try simp[h,(U:0<r.cl.l),C,I,H,wc,G,f,J])<;>try omega|refine Xg ?_|omega)
      .have ok:sk i size ⟨3,0,gG bc 3,1+gG (ki .u8 g 4) 3⟩:=⟨.inr (.inr ⟨rfl,rfl,r3.1,gJ⟩),gJ⟩;refine LJ.i (1,0,[⟨3,0,gG bc 3,1+gG (ki .u8 g 4) 3⟩]) (by first|rfl|simp[je]) (by first|rfl|simp[je]) rfl rfl ?_;exact AB ⟨rfl,λc m=>by rw[aE.1 m];exact ok⟩
      .have ok:sk i size ⟨2,gG n i,gG bc size,1+gG (ki .u8 g 4) 3⟩:=⟨.inr (.inl ⟨rfl,v.1,v.2,rc.1,rc.2⟩),gJ⟩;refine LJ.i (1,0,[⟨2,gG n i,gG bc size,1+gG (ki .u8 g 4) 3⟩]) (by first|rfl|simp[je]) (by first|rfl|simp[je]) rfl rfl ?_;exact AB ⟨rfl,λc m=>by rw[aE.1 m];exact ok⟩
      .have ok:sk i size ⟨1+gG g 3,gG n i,0,1+gG (ki .u8 g 4) 3⟩:=⟨.inl (pG ⟨v.1,v.2,rfl⟩),gJ⟩;refine LJ.i (1,0,[⟨1+gG g 3,gG n i,0,1+gG (ki .u8 g 4) 3⟩]) (by first|rfl|simp[je]) (by first|rfl|simp[je]) rfl rfl ?_;exact AB ⟨rfl,λc m=>by rw[aE.1 m];exact ok⟩
     .rw[if_neg F,if_neg F];have K:∀a b c d,cl Clause.cells cs ++ [.val (.int .i64 a),.i b,.i c,.val (.int .i64 d)]=cl Clause.cells (cs ++ [⟨a,b,c,d⟩]):=λa b c d=>by rw[<-qc];rfl
      simp[t.1,t.2,C,I,H,wc,G,f,J];(with_reducible repeat' first|refine Xk ?_<;>try simp[C,I,H,wc,G,f,J]|refine Xs ?_ ?_<;>intro h<;>(try intro h')<;>(try simp[h,C,I,H,wc,G,f,J])<;>try omega|refine Xg ?_|omega)
      .have ok:sk i size ⟨3,0,gG bc 3,1+gG (ki .u8 g 4) 3⟩:=⟨.inr (.inr ⟨rfl,rfl,r3.1,gJ⟩),gJ⟩;refine LJ.i (j+1,gc+1,cs ++ [⟨3,0,gG bc 3,1+gG (ki .u8 g 4) 3⟩]) (by first|rfl|simp[(U:¬(j+1=0)),K]) (by first|rfl|simp[(U:¬(j+1=0)),K]) rfl rfl ?_;exact⟨gJ,gJ,gJ,gJ,gL,λc m=>(aj.1 m).elim (j4 c) λm=>by rw[aE.1 m];exact ok⟩
      .have ok:sk i size ⟨2,gG n i,gG bc size,1+gG (ki .u8 g 4) 3⟩:=⟨.inr (.inl ⟨rfl,v.1,v.2,rc.1,rc.2⟩),gJ⟩;refine LJ.i (j+1,gc+1,cs ++ [⟨2,gG n i,gG bc size,1+gG (ki .u8 g 4) 3⟩]) (by first|rfl|simp[(U:¬(j+1=0)),K]) (by first|rfl|simp[(U:¬(j+1=0)),K]) rfl rfl ?_;exact⟨gJ,gJ,gJ,gJ,gL,λc m=>(aj.1 m).elim (j4 c) λm=>by rw[aE.1 m];exact ok⟩
      .have ok:sk i size ⟨1+gG g 3,gG n i,0,1+gG (ki .u8 g 4) 3⟩:=⟨.inl (pG ⟨v.1,v.2,rfl⟩),gJ⟩;refine LJ.i (j+1,gc+1,cs ++ [⟨1+gG g 3,gG n i,0,1+gG (ki .u8 g 4) 3⟩]) (by first|rfl|simp[(U:¬(j+1=0)),K]) (by first|rfl|simp[(U:¬(j+1=0)),K]) rfl rfl ?_;exact⟨gJ,gJ,gJ,gJ,gL,λc m=>(aj.1 m).elim (j4 c) λm=>by rw[aE.1 m];exact ok⟩
    .by_cases F:j=0
     .have s:cs = []:=aA.1 U;subst F;subst s;simp[(U:¬ 0<r.cl.l)];refine gh ?_;exact Ey.i ⟨size,next,jD,ks,R,M,[],B,E⟩ (by simp[dN]) rfl (QE A W u Q fZ fZ QU G1)
     .rw[if_neg F,if_neg F];have q:D.sl 4 (cs.map Clause.cells)=dN 4 Clause.cells cs:=TN (by intro h;simp[h]at j3;omega)
      by_cases z:j<r.cl.l
      .have:¬j<3:=by omega
       simp[z,this];exact Ey.i ⟨size,next,jD,ks,R,M,cs,B,E⟩ (by simp[q]) rfl (QE A W u Q j4 U QU G1)
      .simp[z];exact Ey.i ⟨size,next,jD,ks,R,M,cs,B,E⟩ (by simp[q]) rfl (QE A W u Q j4 U QU G1)
end Go.Proofs.YtmehofoficaelaaGreatDoor
namespace Go.Proofs.YtmehofoficaelaaGreatDoor
open Go Go.AL Classical
set_option maxRecDepth 10000
set_option maxHeartbeats 4000000
attribute [local simp] Raw.cells
structure qx where
 r:Raw
 l:List Int
 ON:List Int
def qx.cells(x:qx):List D:=x.r.cells++(cl fU x.l ++ [dU x.ON])
attribute [local simp] qx.cells
def Vl(x:qx):closed (.agg x.cells)=true:=by simp[MI,gK]
structure Jr(x:qx):Prop where
 r:UF x.r
 len:x.l.l=18
 l:∀n∈x.l,0<=n/\n<256
 ON:∀n∈x.ON,0<=n/\n<256
def f32(x:qx)(c:Jr x):Wf T 50 [.agg x.cells] [] (Ey (λy:gq×Pos=>.tup [dG y.1,dP y.2]) λy=>gR y.1/\iC y.1 y.2):=by
 obtain⟨r,l,p⟩:=x;have hl:l.l=18:=c.len;refine Yz FJ (ji 32 [1005] FJ.body) ?_;simp[FJ,ji,kK,nq,nA,nR,mm,qx.cells];refine gy.q rfl rfl (f57 r c.r) fZ (λ_=>fZ) ?_;intro g hg;simp;refine gh ?_;refine gx.e ((0,0,[]):Int×Nat×List Int) (λy=>[(1,.ptr 0 0 0),(2,.ptr 1 0 0),(3,.ptr 2 0 0),(4,.ptr 3 0 0),(5,.gf 4 y.2.1 1 0 y.2.2.l),(6,.i y.1)]) (λy=>[.row 32 0 (qx.cells ⟨r,l,p⟩),.row 43 0 [.i 0,.gi,.gi,.gi,.i 0,.b false,.gi,.i 0,.i 0],.row 46 0 [.gi,.gi,.gi,.i 0,.i 0],.row 43 0 g.cells,.row 3 y.2.1 (cl f1 y.2.2)]) (λy=>0<=y.1/\y.1<=6/\y.1<=p.l/\y.2.2.l=y.1.n/\∀n∈y.2.2,0<=n/\n<256) (λy=>(6-y.1).n) ?_ ?_
 .simp
 rintro⟨i,u,f⟩ ⟨i0,t,s,o,e⟩;dsimp only at i0 t s o e ⊢;have v:l.l+12=30:=U
 by_cases hi:i<p.l/\i<6
 .have m:=c.ON _ (gF i0 hi.1);dsimp only at m;have k:bb.wrap (gt p i)=gt p i:=n5 iM;simp[qx.cells,hi.1,hi.2,hl,k];refine jT k ?_;refine LJ.e (i+1,u+1,f ++ [gt p i]) ?_;refine⟨gJ,gJ,gJ,gJ,gL,λn d=>?_⟩;rcases aj.1 d with d|d
  .exact e n d
  .rw[aE.1 d];exact m
 .by_cases a:i<p.l
  .have:¬i<6:=by omega
   simp[qx.cells,a,this,hl];refine Yv (f59 g hg l hl c.l) λq a=>?_;simp;refine Yv (f58 g hg q a f U e) λb h=>?_;simp;obtain⟨⟨w,z⟩,j⟩:=h;refine gh ?_;exact Ey.i (g,gt b (b.l-1)) rfl rfl ⟨hg,j _ (gF U U)⟩
  .simp[qx.cells,a,hl];refine Yv (f59 g hg l hl c.l) λq a=>?_;simp;refine Yv (f58 g hg q a f U e) λb h=>?_;simp;obtain⟨⟨w,z⟩,j⟩:=h;refine gh ?_;exact Ey.i (g,gt b (b.l-1)) rfl rfl ⟨hg,j _ (gF U U)⟩
