/- Part 45 of TableHurry. -/
import Derived.Test.YtnaefnajkaohgaaGreatDoorG44
import Derived.Test.YtnaefnajkaohgaaGreatDoorG42
import Derived.Test.YtnaefnajkaohgaaGreatDoorG40
import Derived.Test.YtnaefnajkaohgaaGreatDoorG43
import Derived.Test.YtnaefnajkaohgaaGreatDoorG33
set_option linter.all false
namespace Go.Proofs.YtnaefnajkaohgaaGreatDoor
open Go Go.AL Classical
set_option maxRecDepth 10000
set_option maxHeartbeats 16000000
theorem P9(g:ey)(hg:eW g)(l:List Pos)(hc:kF g l)(h0:0<l.length)(m:List Int)(hm:xj g m)(v:List eI)(gw:v.length=l.length)(hV:∀ k:Int,0≤k→k<l.length→lI (mX g l (eQ g l)) v k):Wf T 40 [dG g,.agg [dI m],fh l,ft v] [] (Is (.tup [dI (zR g l m v),.i 0])):=by
 have hlen:=hc.len
 have RS:=hm.ok
 have Lx:(eQ g l).length=l.length:=by simp[eQ]
 have ff:=fun i i0 i1=>(lT hc (i:=i) i0 i1).2
 have gC:∀ k:Int,0≤k→k<l.length→(gt (eQ g l) k).length≤4000000000:=fun k k0 k1=>by
  rw[(lT hc k0 k1).1,List.length_map]
  have:=s6 hg (hc.ok _ (eH k0 k1));omega
 have hb:∀ k:Int,0≤k→k<l.length→0≤(gt v k).2∧(gt v k).2≤4000:=fun k k0 k1=>by have:=MG (A:=mX g l (eQ g l)) ff hV k0 k1;omega
 have oc:∀ k:Int,0≤k→k<v.length→0≤(gt v k).2∧(gt v k).2≤4000:=fun k k0 k1=>hb k k0 (by omega)
 refine Yg BK ?_
 simp[BK]
 refine eU.inl xf rfl rfl (by simp[xf]) rfl ?_
 simp[xf]
 refine Yc (f52 g hg l hc h0) ?_
 simp
 (with_reducible repeat' first|refine Xk ?_<;>try simp|refine Xs ?_ ?_<;>intro h<;>(try intro h')<;>(try simp[h])<;>(try omega)|refine Xg ?_|omega)
 refine eF.e ((0,List.replicate l.length 0):Int×List Int) (fun y=>[(5,.ptr 1 0 0),(6,.ptr 2 0 0),(7,.ptr 3 0 0),(10,.ptr 4 0 0),(12,.ptr 8 0 0),(13,.eu 9 0 1 0 l.length),(42,.i l.length),(43,.i y.1)]) (fun y=>[.row 41 0 g.cells,.row 50 0 [dI m],.row 45 0 [fh l],.row 52 0 [ft v],.row 148 0 [.eu 5 0 2 0 l.length,.eu 6 0 1 0 l.length,.i g.size,.sl 1 (g.next.map fI),dI g.gE,.sl 3 (g.kinds.map Kind.cells),.i g.eR,.b g.k6,dN 4 Clause.cells g.clauses,.i g.blocked,.i g.qf,fh l,.sl 1 ((eQ g l).map fN)],.row 58 0 (cl fS (List.replicate l.length (0,0))),.row 4 0 (cl fB (List.replicate l.length false)),.row 3 0 (cl f1 (List.replicate l.length 0)),.row 33 0 [.eu 7 0 1 0 l.length],.row 3 0 (cl f1 y.2)]) (fun y=>0≤y.1∧y.1≤l.length∧y.2.length=l.length∧∀ k:Int,0≤k→k<y.1→gt y.2 k=k) (fun y=>(l.length-y.1).toNat) ?_ ?_
 ·exact⟨by simp,by simp,by simp,fun k k0 k1=>by dsimp only at k1;omega⟩
 rintro⟨i,od⟩ ⟨i0,i1,i2,i3⟩
 dsimp only at i0 i1 i2 i3 ⊢
 by_cases hi:i<l.length
 ·have gL:=ga (v:=i) i0 (by omega:i<od.length)
  simp[hi]
  (with_reducible repeat' first|refine Xk ?_<;>try simp|refine Xs ?_ ?_<;>intro h<;>(try intro h')<;>(try simp[h])<;>(try omega)|refine Xg ?_|omega)
  refine LJ.e (i+1,pt od i i) ?_
  refine⟨by dsimp only;omega,by dsimp only;omega,by dsimp only;omega,by dsimp only;omega,fun k k0 k1=>?_⟩
  dsimp only at k1 ⊢
  rw[n4 i0 (by omega) k0]
  split
  ·rename_i e;exact e.symm
  ·exact i3 k k0 (by omega)
 have rm:i=l.length:=by omega
 subst rm
 have GJ:∀ x∈od,0≤x∧x<v.length:=fun x hx=>by
  obtain⟨k,k0,k1,e⟩:=oB.1 hx
  rw[i3 k k0 (by omega)]at e
  omega
 have ix:∀ k:Int,0≤k→k<l.length→k∈od:=fun k k0 k1=>oB.2 ⟨k,k0,by omega,i3 k k0 k1⟩
 simp
 (try refine eU.s (by simp;rfl) ?_)
 refine eU.kC rfl rfl (f71 oc (by omega) i2 GJ) ?_
 rintro _ H' ⟨rfl,nv,hs,rfl⟩
 have R4:=hs.zA GJ
 have Q1:∀ k:Int,0≤k→k<l.length→k∈nv:=fun k k0 k1=>(hs.2 k).2 (ix k k0 k1)
 have LD:nv.length=l.length:=hs.1.trans i2
 clear GJ ix i3 hs i2 i0 i1 hi
 simp
 (with_reducible repeat' first|refine Xk ?_<;>try simp|refine Xs ?_ ?_<;>intro h<;>(try intro h')<;>(try simp[h])<;>(try omega)|refine Xg ?_|omega)
 (try refine eF.s (by simp;rfl) ?_)
 refine eF.e ((true,List.replicate l.length 0):Bool×List Int) (fun y=>[(7,.ptr 3 0 0),(10,.ptr 4 0 0),(12,.ptr 8 0 0),(13,.eu 9 0 1 0 l.length),(15,.ptr 10 0 0),(16,.b y.1)]) (fun y=>[.row 41 0 g.cells,.row 50 0 [dI m],.row 45 0 [fh l],.row 52 0 [ft v],.row 148 0 [.eu 5 0 2 0 l.length,.eu 6 0 1 0 l.length,.i g.size,.sl 1 (g.next.map fI),dI g.gE,.sl 3 (g.kinds.map Kind.cells),.i g.eR,.b g.k6,dN 4 Clause.cells g.clauses,.i g.blocked,.i g.qf,fh l,.sl 1 ((eQ g l).map fN)],.row 58 0 (cl fS (List.replicate l.length (0,0))),.row 4 0 (cl fB (List.replicate l.length false)),.row 3 0 (cl f1 y.2),.row 33 0 [.eu 7 0 1 0 l.length],.row 3 0 (cl f1 nv),.row 138 0 [.fn (.func 73) [] [.ptr 1 0 0,.ptr 2 0 0,.ptr 8 0 0]]]) (fun y=>ZI g l m v y.2∧(y.1=false→∀ i:Int,0≤i→i<l.length→Act v i→kO g l m v y.2 i=gt y.2 i)) (fun y=>2*pS v y.2 l.length+(if y.1 then 1 else 0)) ?_ ?_
 ·exact⟨ZI.start hc hV,fun h=>by cases h⟩
 rintro⟨ch,out⟩ ⟨hZ,hE⟩
 dsimp only at hZ hE ⊢
 cases ch
 ·have hF:=hZ.done hc hV (hE rfl)
  have pG:=hZ.len
  have e:=aaC hF
  simp
  (with_reducible repeat' first|refine Xk ?_<;>try simp|refine Xs ?_ ?_<;>intro h<;>(try intro h')<;>(try simp[h])<;>(try omega)|refine Xg ?_|omega)
  simp[pG]
  rw[← e]
 ·simp
  refine eF.e ((0,false,out):Int×Bool×List Int) (fun y=>[(7,.ptr 3 0 0),(10,.ptr 4 0 0),(12,.ptr 8 0 0),(13,.eu 9 0 1 0 l.length),(15,.ptr 10 0 0),(16,.b y.2.1),(56,.eu 9 0 1 0 l.length),(57,.i l.length),(58,.i y.1)]) (fun y=>[.row 41 0 g.cells,.row 50 0 [dI m],.row 45 0 [fh l],.row 52 0 [ft v],.row 148 0 [.eu 5 0 2 0 l.length,.eu 6 0 1 0 l.length,.i g.size,.sl 1 (g.next.map fI),dI g.gE,.sl 3 (g.kinds.map Kind.cells),.i g.eR,.b g.k6,dN 4 Clause.cells g.clauses,.i g.blocked,.i g.qf,fh l,.sl 1 ((eQ g l).map fN)],.row 58 0 (cl fS (List.replicate l.length (0,0))),.row 4 0 (cl fB (List.replicate l.length false)),.row 3 0 (cl f1 y.2.2),.row 33 0 [.eu 7 0 1 0 l.length],.row 3 0 (cl f1 nv),.row 138 0 [.fn (.func 73) [] [.ptr 1 0 0,.ptr 2 0 0,.ptr 8 0 0]]]) (fun y=>0≤y.1∧y.1≤l.length∧ZI g l m v y.2.2∧(y.2.1=false→y.2.2=out∧∀ j:Int,0≤j→j<y.1→Act v (gt nv j)→kO g l m v out (gt nv j)=gt out (gt nv j))∧(y.2.1=true→pS v y.2.2 l.length<pS v out l.length)) (fun y=>(l.length-y.1).toNat) ?_ ?_
  ·exact⟨by simp,by simp,hZ,fun _=>⟨rfl,fun j j0 j1=>by dsimp only at j1;omega⟩,fun h=>by cases h⟩
  rintro⟨k,b,w⟩ ⟨k0,k1,hW,hn,hy⟩
  dsimp only at k0 k1 hW hn hy ⊢
  have uB:=hW.len
  by_cases hk:k<l.length
  ·obtain⟨x0,x1⟩:=R4 _ (eH k0 (by omega:k<nv.length))
   have OU:=f75 hg RS hc.ok uB hlen (fun q q0 q1=>by have:=hW.lo q q0 q1;have:=hb q q0 q1;omega) v gw (gt (eQ g l) (gt nv k)) (ff _ x0 (by omega)) (gC _ x0 (by omega)) (gt nv k) ⟨x0,by omega⟩
   have Lu:¬ Act v (gt nv k)→b=false→w=out∧∀ j:Int,0≤j→j<k+1→Act v (gt nv j)→kO g l m v out (gt nv j)=gt out (gt nv j):=fun h1 h2=>⟨(hn h2).1,fun j j0 j1 ha=>by
    by_cases e:j=k
    ·exact absurd (e▸ha) h1
    ·exact(hn h2).2 j j0 (by omega) ha⟩
   generalize hx:gt nv k=x at *
   simp[hk,hx]
   (with_reducible repeat' first|refine Xk ?_<;>try simp|refine Xs ?_ ?_<;>intro h<;>(try intro h')<;>(try simp[h])<;>(try omega)|refine Xg ?_|omega)
   ·refine LJ.e (k+1,b,w) ?_
    exact⟨by dsimp only;omega,by dsimp only;omega,by dsimp only;omega,hW,Lu (fun ha=>ha.1 ‹_›),hy⟩
   ·refine LJ.e (k+1,b,w) ?_
    exact⟨by dsimp only;omega,by dsimp only;omega,by dsimp only;omega,hW,Lu (fun ha=>ha.2 ‹_›),hy⟩
   have ha:Act v x:=⟨‹_›,‹_›⟩
   have o5:=hW.step hc hV x0 (by omega) ha
   have oS:=zb hc hV hW x0 (by omega) ha
   have Dw:=hW.pre x x0 (by omega) ha
   simp[vE]
   refine gq.r rfl rfl OU (by simp;exact⟨by rw[← EG (Om hV x0 (by omega) ha),ZT],by rw[q9 uB.symm];rfl⟩) (by simp[flat]) (by simp) ?_
   simp
   (with_reducible repeat' first|refine Xk ?_<;>try simp|refine Xs ?_ ?_<;>intro h<;>(try intro h')<;>(try simp[h])<;>(try omega)|refine Xg ?_|omega)
   ·refine LJ.e (k+1,b,w) ?_
    refine⟨by dsimp only;omega,by dsimp only;omega,by dsimp only;omega,hW,fun h2=>⟨(hn h2).1,fun j j0 j1 hj=>?_⟩,hy⟩
    by_cases e:j=k
    ·rw[e,hx,← (hn h2).1];assumption
    ·exact(hn h2).2 j j0 (by dsimp only at j1;omega) hj
   ·refine LJ.e (k+1,true,pt w x (kO g l m v w x)) ?_
    have fJ:gt w x<kO g l m v w x:=by
     have:kO g l m v w x≠gt w x := ‹_›
     omega
    have hs:=EO (v:=v) x0 (by rw[uB];omega) fJ oS.2 l.length
    refine⟨by dsimp only;omega,by dsimp only;omega,by dsimp only;omega,o5,(fun h2=>by cases h2),fun _=>?_⟩
    dsimp only
    by_cases e:b=true
    ·have:=hy e;have:=hs.2 (by omega);omega
    ·have:=(hn (by simpa using e)).1;subst this;exact hs.2 (by omega)
  ·simp[hk]
   have RD:k=l.length:=by omega
   subst RD
   cases b
   ·obtain⟨rfl,h2⟩:=hn rfl
    refine LJ.e (false,w) ?_
    refine⟨by dsimp only;simp,hW,fun _ i i0 i1 ha=>?_⟩
    obtain⟨j,j0,j1,e⟩:=oB.1 (Q1 i i0 i1)
    have:=h2 j j0 (by omega) (by rw[e];exact ha)
    rwa [e]at this
   ·have:=hy rfl
    refine LJ.e (true,w) ?_
    exact⟨by dsimp only;simp;omega,hW,fun h2=>by cases h2⟩
set_option maxRecDepth 10000
set_option maxHeartbeats 16000000
theorem P2(g:ey)(hg:eW g)(l:List Pos)(hc:kF g l)(h0:0<l.length)(m:List Int)(hm:xj g m)(v:List eI)(gw:v.length=l.length)(hV:∀ k:Int,0≤k→k<l.length→lI (mX g l (eQ g l)) v k):Wf T 15 [dG g,.agg [dI m],fh l,ft v] [] (Is (.agg [dI (zR g l m v),.i 0])):=by
 refine Yg AK ?_
 simp[AK]
 refine Yc (P9 g hg l hc h0 m hm v gw hV) ?_
 simp
end Go.Proofs.YtnaefnajkaohgaaGreatDoor
namespace Go.Proofs.YtnaefnajkaohgaaGreatDoor
open Go Go.AL Classical
set_option maxRecDepth 10000
set_option maxHeartbeats 16000000
attribute [local simp] Ul
theorem f7(x:mD)(hx:z8 x)(a0 a1 a2 a3 a4 a5:Int)(ha:∀ n∈[a0,a1,a2,a3,a4,a5],0≤n∧n<256):Wf T 7 [.agg x.cells,dW [a0,a1,a2,a3,a4,a5]] [] (Is (.b true)):=by
 have qv:x.cells.length=31:=by simp[mD.cells,Raw.cells,hx.len]
 have SF:eV x.cells=true:=by have:=J3 x;simpa using this
 have OT:=f12 x hx
 generalize x.cells=xs at *
 have wi:xs.take 31=xs:=aG (by omega)
 refine Yg F7 ?_
 simp[F7,dW,qv,wi]
 refine Yc (f11) ?_
 simp
 (with_reducible repeat' first|refine Xk ?_<;>try simp[qv,wi]|refine Xs ?_ ?_<;>intro h<;>(try intro h')<;>(try simp[h,qv,wi])<;>(try omega)|refine Xg ?_|omega)
 simp[qv,wi]
 refine eU.q rfl rfl OT (by simp[SF]) (fun y=>by obtain⟨g,p,b,l⟩:=y;cases b<;>simp[eV]) ?_
 rintro⟨g,p,b,l⟩ ⟨hg,hp,fj⟩
 cases b
 ·simp
 dsimp only at hg hp fj
 have x8:=fj rfl
 have hc:=x8.c2
 have h0:=x8.len.1
 have h80:=x8.len.2
 have JN:=P0 g hg a0 a1 a2 a3 a4 a5 ha
 simp only[dW,List.map]at JN
 simp
 (with_reducible repeat' first|refine Xk ?_<;>try simp|refine Xs ?_ ?_<;>intro h<;>(try intro h')<;>(try simp[h])<;>(try omega)|refine Xg ?_|omega)
 refine Yv (JN) fun m hm=>?_
 simp
 (with_reducible repeat' first|refine Xk ?_<;>try simp|refine Xs ?_ ?_<;>intro h<;>(try intro h')<;>(try simp[h])<;>(try omega)|refine Xg ?_|omega)
 refine Yv (P1 g hg l hc h0) fun v hv=>?_
 obtain⟨v,f⟩:=v
 obtain⟨gw,hV⟩:=hv
 dsimp only at gw hV
 simp
 (with_reducible repeat' first|refine Xk ?_<;>try simp|refine Xs ?_ ?_<;>intro h<;>(try intro h')<;>(try simp[h])<;>(try omega)|refine Xg ?_|omega)
 refine Yc (P2 g hg l hc h0 m hm v gw hV) ?_
 simp
 have hz:=aaD (m:=m) hc hV
 generalize zR g l m v=z at *
 have pG:z.length=v.length:=hz.len.trans gw.symm
 (with_reducible repeat' first|refine Xk ?_<;>try simp[pG]|refine Xs ?_ ?_<;>intro h<;>(try intro h')<;>(try simp[h,pG])<;>(try omega)|refine Xg ?_|omega)
 have ff:=fun i i0 i1=>(lT hc (i:=i) i0 i1)
 refine eF.e (0:Int) (fun y=>[(5,.b true),(6,.ptr 2 0 0),(7,.ptr 3 0 0),(8,ft v),(9,.ptr 4 0 0),(10,.i y)]) (fun y=>[.row 32 0 xs,.row 25 0 [.val (.int .u8 a0),.val (.int .u8 a1),.val (.int .u8 a2),.val (.int .u8 a3),.val (.int .u8 a4),.val (.int .u8 a5)],.row 47 0 (g.cells++(p.cells ++ [fh l,.b true])),.row 50 0 [dI m],.row 60 0 [dI z,.i 0]]) (fun y=>0≤y∧y≤v.length) (fun y=>(v.length-y).toNat) ?_ ?_
 ·simp
 rintro i ⟨i0,i1⟩
 dsimp only at i0 i1 ⊢
 by_cases hi:i<v.length
 ·have qq:=hc.ok _ (eH i0 (by omega:i<l.length))
  simp[hi]
  (with_reducible repeat' first|refine Xk ?_<;>try simp|refine Xs ?_ ?_<;>intro h<;>(try intro h')<;>(try simp[h])<;>(try omega)|refine Xg ?_|omega)
  ·refine LJ.e (i+1) ?_
   omega
  have oY:=(ff i i0 (by omega)).1
  have Ly:=(ff i i0 (by omega)).2
  have GD:=s6 hg qq
  have rr:∀ q∈fX g (gt l i),q∈l:=fun q hq=>hc.cl _ (eH i0 (by omega)) q (s7.1 hq)
  have Gf:(gt v i).1=1∨(gt v i).1=3→gt z i=o6 v (gt v i).1 (jw m l z i) (gt (eQ g l) i):=fun h1=>(hz.fx i i0 (by omega) ⟨by omega,‹_›⟩).1
  rw[oY]at Gf Ly
  refine Yt (f26 g hg (gt l i) qq) ?_
  simp
  generalize fX g (gt l i)=mv at *
  (with_reducible repeat' first|refine Xk ?_<;>try simp|refine Xs ?_ ?_<;>intro h<;>(try intro h')<;>(try simp[h])<;>(try omega)|refine Xg ?_|omega)
  have hr:∀ k∈mv.map (jB l),0≤jw m l z i k∧jw m l z i k≤4000:=fun k hk=>by
   have h1:=Ly k hk
   have h2:=hz.lo k h1.1 h1.2
   have h3:=MG (A:=mX g l (eQ g l)) (fun i i0 i1=>(ff i i0 i1).2) hV h1.1 h1.2
   unfold jw
   split<;>omega
  refine eF.e (0:Int) (fun y=>[(5,.b true),(6,.ptr 2 0 0),(7,.ptr 3 0 0),(8,ft v),(9,.ptr 4 0 0),(10,.i i),(11,dN 5 Pos.cells mv),(12,.i (im v 1 (jw m l z i) (mv.map (jB l)) y.toNat)),(13,.i (im v 3 (jw m l z i) (mv.map (jB l)) y.toNat)),(14,.i y)]) (fun y=>[.row 32 0 xs,.row 25 0 [.val (.int .u8 a0),.val (.int .u8 a1),.val (.int .u8 a2),.val (.int .u8 a3),.val (.int .u8 a4),.val (.int .u8 a5)],.row 47 0 (g.cells++(p.cells ++ [fh l,.b true])),.row 50 0 [dI m],.row 60 0 [dI z,.i 0]]) (fun y=>0≤y∧y≤mv.length) (fun y=>(mv.length-y).toNat) ?_ ?_
  ·simp
  rintro j ⟨j0,j1⟩
  dsimp only at j0 j1 ⊢
  have k1:=D7 (v:=v) (o:=1) hr (by omega) j.toNat (by simp;omega)
  have k3:=D7 (v:=v) (o:=3) hr (by omega) j.toNat (by simp;omega)
  by_cases hj:j<mv.length
  ·have hq:=rr _ (eH j0 hj)
   have LM:=vF hq
   have Rw:gt (mv.map (jB l)) j=jB l (gt mv j):=by
    rw[lP j0 (by simpa using hj),lP j0 hj,List.getElem_map]
   have jU:=HM (v:=v) (o:=1) (r:=jw m l z i) (x:=mv.map (jB l)) j0
   have sS:=HM (v:=v) (o:=3) (r:=jw m l z i) (x:=mv.map (jB l)) j0
   rw[Rw]at jU sS
   have LF:=hc.ok _ hq
   have LG:=LF
   rw[← LM.2.2]at LG
   simp[hj]
   (with_reducible repeat' first|refine Xk ?_<;>try simp|refine Xs ?_ ?_<;>intro h<;>(try intro h')<;>(try simp[h])<;>(try omega)|refine Xg ?_|omega)
   refine Yt (f27 l (gt mv j) (by omega) (fun q hq=>(hc.ok q hq).small hg) (LF.small hg) hc.rO) ?_
   simp
   generalize jB l (gt mv j)=q at *
   obtain⟨q0,q1,q2⟩:=LM
   clear q2
   (with_reducible repeat' first|refine Xk ?_<;>try simp|refine Xs ?_ ?_<;>intro h<;>(try intro h')<;>(try simp[h])<;>(try omega)|refine Xg ?_|omega)
   refine Yt (f28 hg hm.ok LG) ?_
   simp
   (with_reducible repeat' first|refine Xk ?_<;>try simp|refine Xs ?_ ?_<;>intro h<;>(try intro h')<;>(try simp[h])<;>(try omega)|refine Xg ?_|omega)
   refine Yt (f28 hg hm.ok qq) ?_
   simp
   (with_reducible repeat' first|refine Xk ?_<;>try simp|refine Xs ?_ ?_<;>intro h<;>(try intro h')<;>(try simp[h])<;>(try omega)|refine Xg ?_|omega)
   all_goals
    refine LJ.i (j+1) (by first|rfl|simp[jU,sS,jw, *]) (by first|rfl|simp[jU,sS,jw, *]) rfl rfl ?_
    omega
  ·have ui:j=mv.length:=by omega
   subst ui
   simp
   simp at k1 k3
   have e1:(gt v i).1=1→gt z i=im v 1 (jw m l z i) (mv.map (jB l)) mv.length+1:=fun e=>by
    rw[Gf (.inl e),e];unfold o6;rw[List.length_map]
   have e3:(gt v i).1=3→gt z i=im v 3 (jw m l z i) (mv.map (jB l)) mv.length+1:=fun e=>by
    rw[Gf (.inr e),e];unfold o6;rw[List.length_map]
   (with_reducible repeat' first|refine Xk ?_<;>try simp|refine Xs ?_ ?_<;>intro h<;>(try intro h')<;>(try simp[h])<;>(try omega)|refine Xg ?_|omega)
   all_goals
    refine LJ.e (i+1) ?_
    omega
 ·simp[hi]
  (with_reducible repeat' first|refine Xk ?_<;>try simp|refine Xs ?_ ?_<;>intro h<;>(try intro h')<;>(try simp[h])<;>(try omega)|refine Xg ?_|omega)
