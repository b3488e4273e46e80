/- Part 26 of DisputeWorkers. -/
import Derived.Test.YtmehofoficaelaaGreatDoorW16
set_option linter.all false
namespace Go.Proofs.YtmehofoficaelaaGreatDoor
open Go Go.AL Classical
set_option maxRecDepth 10000
set_option maxHeartbeats 40000000
@[irreducible] def fT(x:Int×Int×Int):List D:=[.val (.int .u8 x.1),.val (.int .u8 x.2.1),.val (.int .u8 x.2.2)]
@[simp] theorem atG(x:Int×Int×Int):fT x = [.val (.int .u8 x.1),.val (.int .u8 x.2.1),.val (.int .u8 x.2.2)]:=by unfold fT;rfl
instance:Fl fT 3:=⟨λ_=>by simp,λ_=>by simp[gF,closed]⟩
structure Raw where
 w:Int
 h:Int
 c:Int
 k0:List Int
 k1:List Int
 cl:List (Int×Int×Int)
 f0:Int
 f1:Int
 f2:Int
 f3:Int
 f4:Int
 f5:Int
def Raw.cells(r:Raw):List D:=[.val (.int .u8 r.w),.val (.int .u8 r.h),.val (.int .u8 r.c),dU r.k0,dU r.k1,.sl 3 (r.cl.map fT),.val (.int .u8 r.f0),.val (.int .u8 r.f1),.val (.int .u8 r.f2),.val (.int .u8 r.f3),.val (.int .u8 r.f4),.val (.int .u8 r.f5)]
def mn(n:Int):Prop:=0<=n/\n<256
structure UI(r:Raw):Prop where
 w:mn r.w
 h:mn r.h
 c:mn r.c
 k0:∀n∈r.k0,mn n
 k1:∀n∈r.k1,mn n
 cl:∀x∈r.cl,mn x.1/\mn x.2.1/\mn x.2.2
 f0:mn r.f0
 f1:mn r.f1
 f2:mn r.f2
 f3:mn r.f3
 f4:mn r.f4
 f5:mn r.f5
theorem TK{α:Type}{sz:Nat}{f:α->List D}{l:List α}(h:l≠[]):D.sl sz (l.map f)=dN sz f l:=by
 cases l with
 | nil=>exact absurd rfl h
 | cons a r=>rfl
attribute [local simp] Raw.cells
@[simp] theorem asK(l:List Kind)(n:ByteArray)(p:List (List fZ))(k:Bool):cl Kind.cells l ++ [.val (.string n),dN 1 fP p,.b k]=cl Kind.cells (l ++ [⟨n,p,k⟩]):=by rw[<-q'];rfl
@[simp] theorem asH(l:List Clause)(a b c d:Int):cl Clause.cells l ++ [.i a,.i b,.i c,.i d]=cl Clause.cells (l ++ [⟨a,b,c,d⟩]):=by rw[<-q'];rfl
structure sk(kinds size:Int)(c:Clause):Prop where
 ok:(c.cond=1/\0<=c.kind/\c.kind<kinds/\c.n=0)\/(c.cond=2/\0<=c.kind/\c.kind<kinds/\0<=c.n/\c.n<size)\/(c.cond=3/\c.kind=0/\0<=c.n/\c.n<=64)
 out:1<=c.out/\c.out<=3
structure FG(N R i:Int)(ks:List Kind):Prop where
 len:ks.length=i.toNat
 names:∀k:Int,0<=k->k<i->(gt ks k).name=kindName k
 jt:∀k∈ks,k.jt.length<=4/\∀l∈k.jt,wJ 8 N R l/\1<=l.length
theorem FG.add{N R i:Int}{ks:List Kind}(h:FG N R i ks)(i0:0<=i){a:ByteArray}(c:a=kindName i){ps:List (List fZ)}{kp:Bool}(h1:ps.length<=4)(d:∀l∈ps,wJ 8 N R l/\1<=l.length):FG N R (i+1) (ks ++ [⟨a,ps,kp⟩]):=by
 have hl:=h.len;refine⟨by simp;omega,λk k0 k1=>?_,λk b=>?_⟩
 .by_cases e:k=i
  .have:gt (ks ++ [(⟨a,ps,kp⟩:Kind)]) k=⟨a,ps,kp⟩:=by subst e;simp[gt,<-hl]
   rw[this,c,e]
  .have:gt (ks ++ [(⟨a,ps,kp⟩:Kind)]) k=gt ks k:=by
    have:k.toNat<ks.length:=by omega
    simp[gt,ah this]
   rw[this];exact h.names k k0 (by omega)
 .rcases List.mem_append.1 b with b|b
  .exact h.jt k b
  .grind
theorem QA{size:Int}{next:List (List Int)}{jy:List Int}{ks:List Kind}{R:Int}{M:Bool}{cs:List Clause}{B E i:Int}(a:oM (Cg size next jy))(hi:1<=i/\i<=2)(b:FG i R i ks)(n:0<=R/\R<=2)(f:∀c∈cs,sk i size c)(hl:cs.length<=3)(q:1<=B/\B<=3)(o:1<=E/\E<=3):gV ⟨size,next,jy,ks,R,M,cs,B,E⟩:=by
 have d:=b.len;have g:(ks.length:Int)=i:=by omega
 refine⟨⟨a.size,a.next,a.row,a.jy,a.turns⟩,by dsimp only;omega,λk k0 k1=>b.names k k0 (by dsimp only at k1;omega),λk e=>⟨(b.jt k e).1,λl hl=>?_⟩,n,hl,λc h=>?_,q,o⟩
 .obtain⟨p,j⟩:=(b.jt k e).2 l hl
  exact⟨⟨j,p.len⟩,λx m=>⟨by
   have:=p.steps x m;dsimp only;rw[g]
   exact this⟩,p.uz,p.push,p.Ms⟩
 .have h1:=(f c h).ok;have r:=(f c h).out;exact⟨by dsimp only;rw[g];exact h1,r⟩
theorem f57(r:Raw)(o:UI r):Wf T 98 [.agg r.cells] [] (Ey dG gV):=by
 have h0:=jH (a:=r.f0) (b:=3) o.f0.1;have w0:IntKind.i64.wrap r.f0=r.f0:=o9 ⟨by have:=o.f0.1;omega,by have:=o.f0.2;omega⟩;refine Yz FA (kD 86 [1085] FA.body) ?_;simp[FA,iZ,kD,np,nz,nP,ma,Raw.cells,w0];refine Yv (f104 r.w r.h r.c o.w o.h o.c) λbd A=>?_;simp;obtain⟨size,next,jy⟩:=bd;simp[bD]at A ⊢;refine j' ?_ ?_<;>intro h
 all_goals
  obtain⟨N,Q1,hN,Xj⟩:∃N:Int,(N=if 0<r.k1.length then 2 else 1)/\(1<=N/\N<=2)/\(N=2->0<r.k1.length):=⟨_,rfl,by split<;>omega,by split<;>omega⟩;simp only[if_pos,if_neg,h,if_false,if_true,not_false_eq_true]at Q1;obtain⟨M,hM⟩:∃M:Bool,decide (gA r.f1 4=3)=M:=⟨_,rfl⟩;have Q:0<=gA r.f0 3/\gA r.f0 3<=2:=by have:=o.f0.1;unfold mn at *;omega
  obtain⟨R,Nt⟩:∃R,gA r.f0 3=R:=⟨_,rfl⟩;rw[Nt]at Q;refine gj.k ((0,0,[]):Int×Nat×List Kind) (λy=>[(1,.ptr 0 0 0),(2,.ptr 1 0 0),(3,.ptr 2 0 0),(4,.i N),(5,.i y.1)]) (λy=>.row 27 0 r.cells :: .row 43 0 [.i 0,.gg,.gg,.gg,.i 0,.b false,.gg,.i 0,.i 0] :: .row 43 0 [.i size,.sl 1 (next.map fI),dI jy,(if y.1=0 then .gg else .fY 3 y.2.1 3 0 y.2.2.length),.i R,.b M,.gg,.i 3,.i 2]::(if y.1=0 then []else [.row 140 y.2.1 (cl Kind.cells y.2.2)])) (λy=>0<=y.1/\y.1<=N/\FG N R y.1 y.2.2) (λy=>(N-y.1).toNat) ?_ (by simp[Q1]) (by simp[Raw.cells,hM,Nt,w0]) rfl rfl rfl ?_
  .exact⟨by omega,by show(0:Int)<=N;omega,rfl,λk h1 Y=>by exfalso;dsimp only at Y;omega,by simp⟩
  clear Q1 h;rintro⟨i,L,ks⟩ ⟨i0,i1,u⟩;dsimp only at i0 i1 u ⊢;have i2:=u.len
  by_cases hi:i<N
  .by_cases f:i=0
   .have s:ks = []:=ay.1 (by omega);subst f;subst s;simp[hi,Raw.cells];refine jP hi ?_;generalize decide (bits BinOp.and IntKind.u8 (my IntKind.u8 r.f2 0) 1=1)=kp;refine gj.e ((0,0,[]):Int×Nat×List (List fZ)) (λy=>[(1,.ptr 0 0 0),(2,.ptr 1 0 0),(3,.ptr 2 0 0),(4,.i N),(5,.i 0),(6,.ptr 4 0 0),(7,.i y.1)]) (λy=>.row 27 0 r.cells :: .row 43 0 [.i 0,.gg,.gg,.gg,.i 0,.b false,.gg,.i 0,.i 0] :: .row 43 0 [.i size,.sl 1 (next.map fI),dI jy,.gg,.i R,.b M,.gg,.i 3,.i 2] :: .row 9 0 [.val (.string ⟨#[97]⟩),.val (.string ⟨#[98,101,101]⟩)] :: .row 140 0 [.val (.string ⟨#[97]⟩),(if y.1=0 then .gg else .fY 5 y.2.1 1 0 y.2.2.length),.b kp]::(if y.1=0 then []else [.row 175 y.2.1 (cl fP y.2.2)])) (λy=>0<=y.1/\y.1<=4/\y.1<=r.k0.length/\y.2.2.length=y.1.toNat/\∀l∈y.2.2,wJ 8 N R l/\1<=l.length) (λy=>(4-y.1).toNat) ?_ ?_
    .simp
    rintro⟨j,gm,ps⟩ ⟨j0,j1,j2,j3,j4⟩;dsimp only at j0 j1 j2 j3 j4 ⊢;have O:next.length=8:=A.next
    by_cases t:j<r.k0.length/\j<4
    .have w:=o.k0 _ (gy j0 t.1)
     by_cases f:j=0
     .have s:ps = []:=ay.1 (by omega);subst f;subst s;simp[show 0<r.k0.length by omega,Raw.cells,O];refine Yv (f105 (gt r.k0 0) N R w (by omega) (by omega)) λp P=>?_;simp;refine gd ?_;refine LJ.i (1,0,[p]) (by first|rfl|simp[iQ]) (by first|rfl|simp[iQ]) rfl rfl ?_;exact Ay ⟨rfl,λl hl=>by rw[List.mem_singleton.1 hl];exact P⟩
     .rw[if_neg f,if_neg f];simp[t.1,t.2,Raw.cells,O,f];refine⟨j0,?_⟩;refine Yv (f105 (gt r.k0 j) N R w (by omega) (by omega)) λp P=>?_;simp;refine jP f ?_;refine jP f ?_;refine LJ.i (j+1,gm+1,ps ++ [p]) (by first|rfl|simp[show¬(j+1=0)by omega]) (by first|rfl|simp[show¬(j+1=0)by omega]) rfl rfl ?_;refine⟨by dsimp only;omega,by dsimp only;omega,by dsimp only;omega,by dsimp only;omega,by simp;omega,λl hl=>?_⟩;rcases List.mem_append.1 hl with hl|hl
      .exact j4 l hl
      .grind
    .have e:¬j<(r.k0.length:Int)\/¬j<4:=by omega
     by_cases f:j=0
     .have s:ps = []:=ay.1 (by omega);subst f;subst s;have e:r.k0 = []:=ay.1 (by omega);simp[e,Raw.cells];refine gd ?_;refine LJ.i (1,0,[⟨⟨#[97]⟩,[],kp⟩]) (by first|rfl|simp[iQ,e,dN]) (by first|rfl|simp[iQ,e,dN]) rfl rfl ?_;exact gO (u.add (by omega) rfl (by simp) (by simp))
     .rw[if_neg f,if_neg f];have q:D.sl 1 (ps.map fP)=dN 1 fP ps:=TK (by intro h;simp[h]at j3;omega)
      by_cases z:j<r.k0.length
      .have:¬j<4:=by omega
       simp[Raw.cells,f,z,this];refine LJ.i (1,0,[⟨⟨#[97]⟩,ps,kp⟩]) (by first|rfl|simp[iQ,q]) (by first|rfl|simp[iQ,q]) rfl rfl ?_;exact gO (u.add (by omega) rfl (by omega) j4)
      .simp[Raw.cells,f,z];refine LJ.i (1,0,[⟨⟨#[97]⟩,ps,kp⟩]) (by first|rfl|simp[iQ,q]) (by first|rfl|simp[iQ,q]) rfl rfl ?_;exact gO (u.add (by omega) rfl (by omega) j4)
   .have kb:i=1:=by omega
    subst kb;have X:N=2:=by omega
    subst X;rw[if_neg f,if_neg f];simp[Raw.cells];refine gd ?_;clear f;simp at i2;generalize decide (bits BinOp.and IntKind.u8 (my IntKind.u8 r.f2 1) 1=1)=kp;refine gj.e ((0,0,[]):Int×Nat×List (List fZ)) (λy=>[(1,.ptr 0 0 0),(2,.ptr 1 0 0),(3,.ptr 2 0 0),(4,(.i 2)),(5,.i 1),(6,.ptr 5 0 0),(7,.i y.1)]) (λy=>.row 27 0 r.cells :: .row 43 0 [.i 0,.gg,.gg,.gg,.i 0,.b false,.gg,.i 0,.i 0] :: .row 43 0 [.i size,.sl 1 (next.map fI),dI jy,.fY 3 L 3 0 ks.length,.i R,.b M,.gg,.i 3,.i 2] :: .row 140 L (cl Kind.cells ks) :: .row 9 0 [.val (.string ⟨#[97]⟩),.val (.string ⟨#[98,101,101]⟩)] :: .row 140 0 [.val (.string ⟨#[98,101,101]⟩),(if y.1=0 then .gg else .fY 6 y.2.1 1 0 y.2.2.length),.b kp]::(if y.1=0 then []else [.row 175 y.2.1 (cl fP y.2.2)])) (λy=>0<=y.1/\y.1<=4/\y.1<=r.k1.length/\y.2.2.length=y.1.toNat/\∀l∈y.2.2,wJ 8 2 R l/\1<=l.length) (λy=>(4-y.1).toNat) ?_ ?_
    .simp
    rintro⟨j,gm,ps⟩ ⟨j0,j1,j2,j3,j4⟩;dsimp only at j0 j1 j2 j3 j4 ⊢;have O:next.length=8:=A.next
    by_cases t:j<r.k1.length/\j<4
    .have w:=o.k1 _ (gy j0 t.1)
     by_cases f:j=0
     .have s:ps = []:=ay.1 (by omega);subst f;subst s;simp[show 0<r.k1.length by omega,Raw.cells,O];refine Yv (f105 (gt r.k1 0) 2 R w (by omega) (by omega)) λp P=>?_;simp;refine gd ?_;refine LJ.i (1,0,[p]) (by first|rfl|simp[iQ]) (by first|rfl|simp[iQ]) rfl rfl ?_;exact Ay ⟨rfl,λl hl=>by rw[List.mem_singleton.1 hl];exact P⟩
     .rw[if_neg f,if_neg f];simp[t.1,t.2,Raw.cells,O,f];refine⟨j0,?_⟩;refine Yv (f105 (gt r.k1 j) 2 R w (by omega) (by omega)) λp P=>?_;simp;refine jP f ?_;refine jP f ?_;refine LJ.i (j+1,gm+1,ps ++ [p]) (by first|rfl|simp[show¬(j+1=0)by omega]) (by first|rfl|simp[show¬(j+1=0)by omega]) rfl rfl ?_;refine⟨by dsimp only;omega,by dsimp only;omega,by dsimp only;omega,by dsimp only;omega,by simp;omega,λl hl=>?_⟩;rcases List.mem_append.1 hl with hl|hl
      .exact j4 l hl
      .grind
    .have e:¬j<(r.k1.length:Int)\/¬j<4:=by omega
     by_cases f:j=0
     .grind
     .rw[if_neg f,if_neg f];have q:D.sl 1 (ps.map fP)=dN 1 fP ps:=TK (by intro h;simp[h]at j3;omega)
      by_cases z:j<r.k1.length
      .have:¬j<4:=by omega
       simp[Raw.cells,f,z,this];refine gd ?_;refine LJ.i (1+1,L+1,ks ++ [⟨⟨#[98,101,101]⟩,ps,kp⟩]) (by first|rfl|simp[q]) (by first|rfl|simp[q]) rfl rfl ?_;exact gO (u.add (by omega) rfl (by omega) j4)
      .simp[Raw.cells,f,z];refine gd ?_;refine LJ.i (1+1,L+1,ks ++ [⟨⟨#[98,101,101]⟩,ps,kp⟩]) (by first|rfl|simp[q]) (by first|rfl|simp[q]) rfl rfl ?_;exact gO (u.add (by omega) rfl (by omega) j4)
  .have W:i=N:=by omega
   have f:¬i=0:=by omega
   rw[if_neg f,if_neg f];have e0:=o.f3;have e':=o.f4;have q3:=IC r.f3 4;have q4:=IC r.f4 4;have e3:=jH (a:=jZ .u8 r.f3 4) (b:=3) q3.1;have e4:=jH (a:=jZ .u8 r.f4 4) (b:=3) q4.1;have U:IntKind.i64.wrap (jZ .u8 r.f3 4)=jZ .u8 r.f3 4:=o9 iy;have S:IntKind.i64.wrap (jZ .u8 r.f4 4)=jZ .u8 r.f4 4:=o9 iy;simp[Raw.cells,hi,U,S];subst W;have V:1<=i/\i<=2:=hN;clear e3 e4;have e3:0<=gA (jZ .u8 r.f3 4) 3/\gA (jZ .u8 r.f3 4) 3<=2:=by have:=jH (a:=jZ .u8 r.f3 4) (b:=3) q3.1;omega
   have e4:0<=gA (jZ .u8 r.f4 4) 3/\gA (jZ .u8 r.f4 4) 3<=2:=by have:=jH (a:=jZ .u8 r.f4 4) (b:=3) q4.1;omega
   (with_reducible repeat' first|refine Xk ?_<;>try simp[U,S]|refine Xs ?_ ?_<;>intro h<;>(try intro h')<;>(try simp[h,U,S])<;>try omega|refine Xg ?_|omega)
   all_goals
    obtain⟨B,hB,QS⟩:∃B:Int,(B=if gA r.f3 4=3 then 1+gA (jZ .u8 r.f3 4) 3 else 3)/\1<=B/\B<=3:=⟨_,rfl,by split<;>omega⟩;obtain⟨E,hE,GM⟩:∃E:Int,(E=if gA r.f4 4=3 then 1+gA (jZ .u8 r.f4 4) 3 else 2)/\1<=E/\E<=3:=⟨_,rfl,by split<;>omega⟩;generalize gA r.f3 4=T3 at *;generalize gA r.f4 4=T4 at *;simp only[*,if_true,if_false]at hB hE;refine gj.e ((0,0,[]):Int×Nat×List Clause) (λy=>[(1,.ptr 0 0 0),(2,.ptr 1 0 0),(3,.ptr 2 0 0),(4,.i i),(8,.i y.1)]) (λy=>.row 27 0 r.cells :: .row 43 0 [.i 0,.gg,.gg,.gg,.i 0,.b false,.gg,.i 0,.i 0] :: .row 43 0 [.i size,.sl 1 (next.map fI),dI jy,.fY 3 L 3 0 ks.length,.i R,.b M,(if y.1=0 then .gg else .fY 4 y.2.1 4 0 y.2.2.length),.i B,.i E] :: .row 140 L (cl Kind.cells ks)::(if y.1=0 then []else [.row 253 y.2.1 (cl Clause.cells y.2.2)])) (λy=>0<=y.1/\y.1<=3/\y.1<=r.cl.length/\y.2.2.length=y.1.toNat/\∀c∈y.2.2,sk i size c) (λy=>(3-y.1).toNat) ?_ ?_
    .simp
    clear hB hE;rintro⟨j,Z,cs⟩ ⟨j0,j1,j2,j3,j4⟩;dsimp only at j0 j1 j2 j3 j4 ⊢
    by_cases t:j<r.cl.length/\j<3
    .have w:=o.cl _ (gy j0 t.1);obtain⟨⟨g,n,bc⟩,C⟩:∃x,gt r.cl j=x:=⟨_,rfl⟩;rw[C]at w;obtain⟨⟨a0,a1⟩,⟨b0,b1⟩,⟨c0,c1⟩⟩:=w;dsimp only at a0 a1 b0 b1 c0 c1;have I:IntKind.i64.wrap g=g:=o9 iy;have H:IntKind.i64.wrap n=n:=o9 iy;have wc:IntKind.i64.wrap bc=bc:=o9 iy;have qa:=IC g 4;have G:IntKind.i64.wrap (jZ .u8 g 4)=jZ .u8 g 4:=o9 iy;have ra:0<=gA g 3/\gA g 3<=2:=by have:=jH (a:=g) (b:=3) a0;omega
     have rq:0<=gA (jZ .u8 g 4) 3/\gA (jZ .u8 g 4) 3<=2:=by have:=jH (a:=jZ .u8 g 4) (b:=3) qa.1;omega
     have v:0<=gA n i/\gA n i<i:=by have:=jH (a:=n) (b:=i) b0;have h1:=bL n (show i≠0 by omega);have Y:=bE n (show 0<i by omega);omega
     have iA:1<=size/\size<=9:=A.size
     have rc:0<=gA bc size/\gA bc size<size:=by have:=jH (a:=bc) (b:=size) c0;have h1:=bL bc (show size≠0 by omega);have Y:=bE bc (show 0<size by omega);omega
     have r3:0<=gA bc 3/\gA bc 3<=2:=by have:=jH (a:=bc) (b:=3) c0;omega
     have J:size≠0:=by omega
     by_cases F:j=0
     .have s:cs = []:=ay.1 (by omega);subst F;subst s;simp[show 0<r.cl.length by omega,C,I,H,wc,G,f,J];(with_reducible repeat' first|refine Xk ?_<;>try simp[show 0<r.cl.length by omega,C,I,H,wc,G,f,J]|refine Xs ?_ ?_<;>intro h<;>(try intro h')<;>(try simp[h,show 0<r.cl.length by omega,C,I,H,wc,G,f,J])<;>try omega|refine Xg ?_|omega)
      .have ok:sk i size ⟨3,0,gA bc 3,1+gA (jZ .u8 g 4) 3⟩:=⟨.inr (.inr ⟨rfl,rfl,r3.1,by dsimp only;omega⟩),by dsimp only;omega⟩;refine LJ.i (1,0,[⟨3,0,gA bc 3,1+gA (jZ .u8 g 4) 3⟩]) (by first|rfl|simp[iQ]) (by first|rfl|simp[iQ]) rfl rfl ?_;exact Ay ⟨rfl,λc m=>by rw[List.mem_singleton.1 m];exact ok⟩
      .have ok:sk i size ⟨2,gA n i,gA bc size,1+gA (jZ .u8 g 4) 3⟩:=⟨.inr (.inl ⟨rfl,v.1,v.2,rc.1,rc.2⟩),by dsimp only;omega⟩;refine LJ.i (1,0,[⟨2,gA n i,gA bc size,1+gA (jZ .u8 g 4) 3⟩]) (by first|rfl|simp[iQ]) (by first|rfl|simp[iQ]) rfl rfl ?_;exact Ay ⟨rfl,λc m=>by rw[List.mem_singleton.1 m];exact ok⟩
      .have ok:sk i size ⟨1+gA g 3,gA n i,0,1+gA (jZ .u8 g 4) 3⟩:=⟨.inl (pE ⟨v.1,v.2,rfl⟩),by dsimp only;omega⟩;refine LJ.i (1,0,[⟨1+gA g 3,gA n i,0,1+gA (jZ .u8 g 4) 3⟩]) (by first|rfl|simp[iQ]) (by first|rfl|simp[iQ]) rfl rfl ?_;exact Ay ⟨rfl,λc m=>by rw[List.mem_singleton.1 m];exact ok⟩
     .rw[if_neg F,if_neg F];have K:∀a b c d,cl Clause.cells cs ++ [.val (.int .i64 a),.i b,.i c,.val (.int .i64 d)]=cl Clause.cells (cs ++ [⟨a,b,c,d⟩]):=λa b c d=>by rw[<-q'];rfl
      simp[t.1,t.2,C,I,H,wc,G,f,J];(with_reducible repeat' first|refine Xk ?_<;>try simp[C,I,H,wc,G,f,J]|refine Xs ?_ ?_<;>intro h<;>(try intro h')<;>(try simp[h,C,I,H,wc,G,f,J])<;>try omega|refine Xg ?_|omega)
      .have ok:sk i size ⟨3,0,gA bc 3,1+gA (jZ .u8 g 4) 3⟩:=⟨.inr (.inr ⟨rfl,rfl,r3.1,by dsimp only;omega⟩),by dsimp only;omega⟩;refine LJ.i (j+1,Z+1,cs ++ [⟨3,0,gA bc 3,1+gA (jZ .u8 g 4) 3⟩]) (by first|rfl|simp[show¬(j+1=0)by omega,K]) (by first|rfl|simp[show¬(j+1=0)by omega,K]) rfl rfl ?_;exact⟨by dsimp only;omega,by dsimp only;omega,by dsimp only;omega,by dsimp only;omega,by simp;omega,λc m=>(List.mem_append.1 m).elim (j4 c) λm=>by rw[List.mem_singleton.1 m];exact ok⟩
      .have ok:sk i size ⟨2,gA n i,gA bc size,1+gA (jZ .u8 g 4) 3⟩:=⟨.inr (.inl ⟨rfl,v.1,v.2,rc.1,rc.2⟩),by dsimp only;omega⟩;refine LJ.i (j+1,Z+1,cs ++ [⟨2,gA n i,gA bc size,1+gA (jZ .u8 g 4) 3⟩]) (by first|rfl|simp[show¬(j+1=0)by omega,K]) (by first|rfl|simp[show¬(j+1=0)by omega,K]) rfl rfl ?_;exact⟨by dsimp only;omega,by dsimp only;omega,by dsimp only;omega,by dsimp only;omega,by simp;omega,λc m=>(List.mem_append.1 m).elim (j4 c) λm=>by rw[List.mem_singleton.1 m];exact ok⟩
      .have ok:sk i size ⟨1+gA g 3,gA n i,0,1+gA (jZ .u8 g 4) 3⟩:=⟨.inl (pE ⟨v.1,v.2,rfl⟩),by dsimp only;omega⟩;refine LJ.i (j+1,Z+1,cs ++ [⟨1+gA g 3,gA n i,0,1+gA (jZ .u8 g 4) 3⟩]) (by first|rfl|simp[show¬(j+1=0)by omega,K]) (by first|rfl|simp[show¬(j+1=0)by omega,K]) rfl rfl ?_;exact⟨by dsimp only;omega,by dsimp only;omega,by dsimp only;omega,by dsimp only;omega,by simp;omega,λc m=>(List.mem_append.1 m).elim (j4 c) λm=>by rw[List.mem_singleton.1 m];exact ok⟩
    .by_cases F:j=0
     .have s:cs = []:=ay.1 (by omega);subst F;subst s;simp[show¬ 0<r.cl.length by omega];refine gd ?_;exact Ey.i ⟨size,next,jy,ks,R,M,[],B,E⟩ (by simp[dN]) rfl (QA A V u Q (by simp) (by simp) QS GM)
     .rw[if_neg F,if_neg F];have q:D.sl 4 (cs.map Clause.cells)=dN 4 Clause.cells cs:=TK (by intro h;simp[h]at j3;omega)
      by_cases z:j<r.cl.length
      .have:¬j<3:=by omega
       simp[z,this];exact Ey.i ⟨size,next,jy,ks,R,M,cs,B,E⟩ (by simp[q]) rfl (QA A V u Q j4 (by omega) QS GM)
      .simp[z];exact Ey.i ⟨size,next,jy,ks,R,M,cs,B,E⟩ (by simp[q]) rfl (QA A V u Q j4 (by omega) QS GM)
end Go.Proofs.YtmehofoficaelaaGreatDoor
namespace Go.Proofs.YtmehofoficaelaaGreatDoor
open Go Go.AL Classical
set_option maxRecDepth 10000
set_option maxHeartbeats 4000000
attribute [local simp] Raw.cells
structure qv where
 r:Raw
 l:List Int
 OI:List Int
def qv.cells(x:qv):List D:=x.r.cells++(cl fU x.l ++ [dU x.OI])
attribute [local simp] qv.cells
theorem Vl(x:qv):closed (.agg x.cells)=true:=by simp[MK,gF]
structure Jh(x:qv):Prop where
 r:UI x.r
 len:x.l.length=18
 l:∀n∈x.l,0<=n/\n<256
 OI:∀n∈x.OI,0<=n/\n<256
theorem f32(x:qv)(c:Jh x):Wf T 50 [.agg x.cells] [] (Ey (λy:gi×Pos=>.tup [dG y.1,dP y.2]) λy=>gV y.1/\iw y.1 y.2):=by
 obtain⟨r,l,p⟩:=x;have hl:l.length=18:=c.len;refine Yz Fw (iZ 32 [1005] Fw.body) ?_;simp[Fw,iZ,kD,np,nz,nP,ma,qv.cells];refine gx.q rfl rfl (f57 r c.r) (by simp) (λ_=>by simp) ?_;intro g hg;simp;refine gd ?_;refine gj.e ((0,0,[]):Int×Nat×List Int) (λy=>[(1,.ptr 0 0 0),(2,.ptr 1 0 0),(3,.ptr 2 0 0),(4,.ptr 3 0 0),(5,.fY 4 y.2.1 1 0 y.2.2.length),(6,.i y.1)]) (λy=>[.row 32 0 (qv.cells ⟨r,l,p⟩),.row 43 0 [.i 0,.gg,.gg,.gg,.i 0,.b false,.gg,.i 0,.i 0],.row 46 0 [.gg,.gg,.gg,.i 0,.i 0],.row 43 0 g.cells,.row 3 y.2.1 (cl f1 y.2.2)]) (λy=>0<=y.1/\y.1<=6/\y.1<=p.length/\y.2.2.length=y.1.toNat/\∀n∈y.2.2,0<=n/\n<256) (λy=>(6-y.1).toNat) ?_ ?_
 .simp
 rintro⟨i,u,f⟩ ⟨i0,t,s,o,e⟩;dsimp only at i0 t s o e ⊢;have v:l.length+12=30:=by omega
 by_cases hi:i<p.length/\i<6
 .have m:=c.OI _ (gy i0 hi.1);dsimp only at m;have k:IntKind.i64.wrap (gt p i)=gt p i:=o9 iy;simp[qv.cells,hi.1,hi.2,hl,k];refine jP k ?_;refine LJ.e (i+1,u+1,f ++ [gt p i]) ?_;refine⟨by dsimp only;omega,by dsimp only;omega,by dsimp only;omega,by dsimp only;omega,by simp;omega,λn d=>?_⟩;rcases List.mem_append.1 d with d|d
  .exact e n d
  .rw[List.mem_singleton.1 d];exact m
 .by_cases a:i<p.length
  .have:¬i<6:=by omega
   simp[qv.cells,a,this,hl];refine Yv (f59 g hg l hl c.l) λq a=>?_;simp;refine Yv (f58 g hg q a f (by omega) e) λb h=>?_;simp;obtain⟨⟨w,z⟩,j⟩:=h;refine gd ?_;exact Ey.i (g,gt b (b.length-1)) rfl rfl ⟨hg,j _ (gy (by omega) (by omega))⟩
  .simp[qv.cells,a,hl];refine Yv (f59 g hg l hl c.l) λq a=>?_;simp;refine Yv (f58 g hg q a f (by omega) e) λb h=>?_;simp;obtain⟨⟨w,z⟩,j⟩:=h;refine gd ?_;exact Ey.i (g,gt b (b.length-1)) rfl rfl ⟨hg,j _ (gy (by omega) (by omega))⟩
