/- Part 19 of the proof of skewer.skewerlaw15.TableAgain. -/
import Derived.Test.YtnaefnajkaohgaaGreatDoorD18
import Derived.Test.YtnaefnajkaohgaaGreatDoorD12
import Derived.Test.YtnaefnajkaohgaaGreatDoorD17
set_option linter.all false
namespace Go.Proofs.YtnaefnajkaohgaaGreatDoor
open Go Go.AL Classical
set_option maxRecDepth 10000
set_option maxHeartbeats 4000000
theorem f259(g:eO)(s d c:Int):Wf T 259 [g.gV,.i s,.i d,.i c] [] (Is (.fn (.func 265) [] [.eZ [.i g.size,.sl 1 (g.next.map fI),dI g.gN],.eZ [.i s],.eZ [.i d],.eZ [.i c]])):=by
 refine Yg CP ?_
 simp[CP]
theorem f266(l:List Int)(n:Int)(hl:l.length<2 ^ 40):Wf T 266 [dI l,.i n] [] (Ey (fun r:Int=>.i r) fun r=>0≤r↔n∈l):=by
 refine Yg wy ?_
 simp[wy]
 refine eW.e (0:Int) (fun y=>[(0,dI l),(1,.i n),(7,.i l.length),(8,.i y)]) (fun y=>[]) (fun y=>0≤y∧y≤l.length∧n ∉ l.take y.toNat) (fun y=>(l.length-y).toNat) ?_ ?_
 ·simp
 rintro i ⟨i0,i1,i2⟩
 by_cases hi:i<l.length
 ·simp[hi]
  (with_reducible repeat' first|refine Xk ?_<;>try simp|refine Xs ?_ ?_<;>intro h<;>(try intro h')<;>(try simp[h])<;>(try omega)|refine Xg ?_|omega)
  ·exact Ey.i i rfl rfl ⟨fun _=>by have:=eY i0 hi;simp_all,fun _=>i0⟩
  ·refine LJ.e (i+1) ?_
   refine⟨by omega,by omega,by omega,?_⟩
   rw[gx i0 hi]
   simp[i2]
   omega
 ·simp[hi]
  rw[jg (by omega)]at i2
  exact Ey.i (-1) rfl rfl ⟨fun h=>by omega,fun h=>absurd h i2⟩
theorem f260(l:List Int)(n:Int)(hl:l.length<2 ^ 40):Wf T 260 [dI l,.i n] [] (Is (.b (decide (n∈l)))):=by
 refine Yg wx ?_
 simp[wx]
 refine Yq (f266 l n hl) fun r hr=>?_
 simp
 simp[hr]
theorem SA(n:Int):Wf T 266 [.emp,.i n] [] (Is (.i (-1))):=by
 refine Yg wy ?_
 simp[wy]
 refine eW.un ?_
 refine iR.u ?_
 simp
theorem Sz(n:Int):Wf T 260 [.emp,.i n] [] (Is (.b false)):=by
 refine Yg wx ?_
 simp[wx]
 refine Yc (SA n) ?_
 simp
theorem f265(g:eO)(hg:lE g)(s d c:Int):Wf T 265 [.gO 4,.eZ [.i g.size,.sl 1 (g.next.map fI),dI g.gN],.eZ [.i s],.eZ [.i d],.eZ [.i c]]
  [.row 37 0 [.i g.size,.sl 1 (g.next.map fI),dI g.gN],.row 3 0 [.i c],.row 33 0 [.emp],.jL,.fZ 15488 [(7,.ptr 1 0 0),(9,.ptr 2 0 0)] .ready]
  (fun _ H'=>∃ st,(st = .ready∨st = .tt 0)∧H' = [.row 37 0 [.i g.size,.sl 1 (g.next.map fI),dI g.gN],.row 3 0 [.i c],.row 33 0 [if jn g s d c = []then .emp else .eN 5 ((jn g s d c).length-1) 1 0 (jn g s d c).length],.jL,.fZ 15488 [(7,.ptr 1 0 0),(9,.ptr 2 0 0)] st]++(if jn g s d c = []then []else [.row 3 ((jn g s d c).length-1) (cl f1 (jn g s d c))])):=by
 have hb:=hg.size
 refine Yg CR ?_
 simp[CR]
 refine Yr (f240 g hg s d c) ?_
 simp
 refine eW.e ((0,jo g s d c,[]):Nat×Int×List Int) (fun x=>[(0,.gO 4),(1,.eZ [.i g.size,.sl 1 (g.next.map fI),dI g.gN]),(2,.eZ [.i s]),(3,.eZ [.i d]),(6,.i x.2.1)]) (fun x=>[.row 37 0 [.i g.size,.sl 1 (g.next.map fI),dI g.gN],.row 3 0 [.i c],.row 33 0 [if x.2.2 = []then .emp else .eN 5 (x.2.2.length-1) 1 0 x.2.2.length],.jL,.fZ 15488 [(7,.ptr 1 0 0),(9,.ptr 2 0 0)] .ready]++(if x.2.2 = []then []else [.row 3 (x.2.2.length-1) (cl f1 x.2.2)])) (fun x=>x.1=x.2.2.length∧x.2.1<g.size∧x.2.2.Nodup∧(∀ y∈x.2.2,0≤y∧y<g.size)∧jn g s d c=pg g s d c (10-x.1) x.2.1 x.2.2) (fun x=>10-x.1) ?_ ?_
 ·have:=hg.to s d c
  simp[jn];omega
 rintro⟨m,x,out⟩ ⟨h0,h1,h2,h3,h4⟩
 dsimp only at h0 h1 h2 h3 h4 ⊢
 have hm:out.length≤9:=uf 9 out h2 (fun y hy=>by have:=h3 y hy;omega)
 have e:=h4
 rw[show 10-m=(9-m)+1 by omega,pg]at e
 have kx:=hg.to s d x
 by_cases ho:out = []
 ·subst ho
  by_cases hx:0≤x
  ·simp[hx]
   refine n5.r (rf:=15488) (env0:=[(7,.ptr 1 0 0),(9,.ptr 2 0 0)]) (Rd:=qN) (by simp) rfl rfl qN.a qN.b (mh rfl) (mh rfl) ?_
   simp[qN]
   by_cases hc:x=c
   ·have e3:jn g s d c = []:=by rw[e,if_neg (fun h=>h.2.1 hc)]
    simp[hc,e3]
   ·have e2:jn g s d c=pg g s d c (9-m) (jo g s d x) [x]:=by rw[e,if_pos ⟨hx,hc,by simp⟩];rfl
    simp[hc]
    refine Yc (Sz x) ?_
    simp
    (with_reducible repeat' first|refine Xk ?_<;>try simp|refine Xs ?_ ?_<;>intro h<;>(try intro h')<;>(try simp[h])<;>(try omega)|refine Xg ?_|omega)
    refine Yr (f240 g hg s d x) ?_
    simp
    refine LJ.i (m+1,jo g s d x,[x]) (by first|rfl|simp[gW]) (by first|rfl|simp[gW]) rfl rfl ?_
    dsimp only
    refine⟨by simp at h0;omega,by simp at h0;simp;omega,kx.2,by simp,by simp;omega,?_⟩
    rw[e2];congr 1;omega
  ·have e3:jn g s d c = []:=by rw[e,if_neg (fun h=>hx h.1)]
   simp[hx,e3]
 ·simp only[if_neg ho,cF,aY]
  by_cases hx:0≤x
  ·simp[hx]
   refine n5.r (rf:=15488) (env0:=[(7,.ptr 1 0 0),(9,.ptr 2 0 0)]) (Rd:=qN) (by simp) rfl rfl qN.a qN.b (mh rfl) (mh rfl) ?_
   simp[qN]
   by_cases hc:x=c
   ·have e3:jn g s d c=out:=by rw[e,if_neg (fun h=>h.2.1 hc)]
    simp[hc,e3,ho]
   ·simp[hc]
    refine Yr (f260 out x (by omega)) ?_
    simp
    refine X2.z hc ?_
    simp
    by_cases fw:x∈out
    ·have e3:jn g s d c=out:=by rw[e,if_neg (fun h=>h.2.2 fw)]
     simp[fw,e3,ho]
    ·have e2:jn g s d c=pg g s d c (9-m) (jo g s d x) (out ++ [x]):=by rw[e,if_pos ⟨hx,hc,fw⟩]
     have hl:0<out.length:=aA.2 ho
     simp[fw]
     (with_reducible repeat' first|refine Xk ?_<;>try simp|refine Xs ?_ ?_<;>intro h<;>(try intro h')<;>(try simp[h])<;>(try omega)|refine Xg ?_|omega)
     refine Yr (f240 g hg s d x) ?_
     simp
     refine LJ.i (m+1,jo g s d x,out ++ [x]) (by first|rfl|simp[show out.length-1+1=out.length by omega]) (by first|rfl|simp[show out.length-1+1=out.length by omega]) rfl rfl ?_
     dsimp only
     refine⟨by omega,by simp;omega,kx.2,?_,fun y hy=>?_,?_⟩
     ·rw[a7];exact⟨h2,by simp,fun a ha b hb=>by rw[List.mem_singleton.1 hb];rintro rfl;exact fw ha⟩
     ·rcases List.mem_append.1 hy with hy|hy
      ·exact h3 y hy
      ·rw[List.mem_singleton.1 hy];omega
     ·rw[e2];congr 1;omega
  ·have e3:jn g s d c=out:=by rw[e,if_neg (fun h=>hx h.1)]
   simp[hx,e3,ho]
theorem f242(g:eO)(hg:lE g)(s d c:Int):Wf T 242 [g.gV,.i s,.i d,.i c] [] (Is (dN 1 f1 (jn g s d c))):=by
 refine Yg CF ?_
 simp[CF]
 refine Yc (f259 g s d c) ?_
 simp
 refine p6.r (f:=265) (first:=[]) (cap:=[.eZ [.i g.size,.sl 1 (g.next.map fI),dI g.gN],.eZ [.i s],.eZ [.i d],.eZ [.i c]]) rfl rfl rfl rfl ?_
 simp
 refine Wf.mono (f265 g hg s d c) ?_
 rintro _ H' ⟨st,eX,rfl⟩
 refine⟨[(7,.ptr 1 0 0),(9,.ptr 2 0 0)],st,by simp,?_⟩
 by_cases h:jn g s d c = []
 ·rcases eX with rfl|rfl
  ·simp[h]
   rfl
  ·simp[h]
   rfl
 ·have e:dI (jn g s d c)=dN 1 f1 (jn g s d c):=by
   revert h
   cases jn g s d c with
   | nil=>intro h;exact absurd rfl h
   | cons a r=>intro _;rfl
  rcases eX with rfl|rfl
  ·simp[h,e]
  ·simp[h,e]
@[simp] theorem agX(l:List Int):closed (dN 1 f1 l)=true:=uQ (fun a=>by simp[fm]) l
theorem Hk{l:List eV}(h:l≠[]):iH l=lW l:=by
 cases l with
 | nil=>exact absurd rfl h
 | cons a r=>rfl
theorem f200(g:eO)(hg:fi g)(s:eV)(hs:ix g s)(n:Int):Wf T 200 [.agg s.cells,dG g,.i n] [] (Is (lW (gw g s (2,n)))):=by
 have gj:=hs.p.size
 have oh:=hg.gV.size
 have e:gw g s (2,n)=mS s (jn g s.p.side n s.cur):=by simp[gw]
 have fw:∀ y∈jn g s.p.side n s.cur,0≤y∧y<g.size:=fun y hy=>Jl hg.gV hy
 have hlen:(jn g s.p.side n s.cur).length≤10:=Jm
 rw[e]
 refine Yg Cp ?_
 simp[Cp,eV.cells]
 refine Yc (f242 g hg.gV s.p.side n s.cur) ?_
 simp
 generalize jn g s.p.side n s.cur=l at *
 refine eW.e ((0,[]):Int×List eV) (fun y=>[(3,.ptr 0 0 0),(7,if y.1=0 then .emp else .eN 2 (y.2.length-1) 8 0 y.2.length),(19,dN 1 f1 l),(20,.i l.length),(21,.i y.1)]) (fun y=>.row 171 0 s.cells :: .row 41 0 g.cells::(if y.1=0 then []else [.row 171 (y.2.length-1) (cl eV.cells y.2)])) (fun y=>0≤y.1∧y.1≤l.length∧y.2.length=y.1.toNat∧mS s l=y.2++mS s (l.drop y.1.toNat)) (fun y=>(l.length-y.1).toNat) ?_ ?_
 ·simp
 rintro⟨i,st⟩ ⟨i0,i1,i2,i3⟩
 dsimp only at i0 i1 i2 i3 ⊢
 by_cases hi:i<l.length
 ·have hc:=fw _ (eY i0 hi)
  rw[lk i0 hi,mS]at i3
  by_cases hz:i=0
  ·have:st = []:=aC.1 (by omega)
   subst hz;subst this
   simp[hi,eV.cells]
   (with_reducible repeat' first|refine Xk ?_<;>try simp|refine Xs ?_ ?_<;>intro h<;>(try intro h')<;>(try simp[h])<;>(try omega)|refine Xg ?_|omega)
   ·refine LJ.i (1,[{ s with cur:=gt l 0 }]) (by first|rfl|simp[gW,eV.cells]) (by first|rfl|simp[gW,eV.cells]) rfl rfl ?_
    refine⟨by dsimp only;omega,by dsimp only;omega,by dsimp only;omega,rfl,?_⟩
    rw[i3,if_pos h];rfl
   ·rw[i3,if_neg h];rfl
  ·have hl:0<st.length:=by omega
   rw[if_neg hz,if_neg hz]
   simp[hi,eV.cells]
   (with_reducible repeat' first|refine Xk ?_<;>try simp|refine Xs ?_ ?_<;>intro h<;>(try intro h')<;>(try simp[h])<;>(try omega)|refine Xg ?_|omega)
   ·refine LJ.i (i+1,st ++ [{ s with cur:=gt l i }]) (by first|rfl|simp[show ¬ (i+1=0)by omega,show st.length-1+1=st.length by omega,eV.cells]) (by first|rfl|simp[show ¬ (i+1=0)by omega,show st.length-1+1=st.length by omega,eV.cells]) rfl rfl ?_
    refine⟨by dsimp only;omega,by dsimp only;omega,by dsimp only;omega,by simp;omega,?_⟩
    rw[i3,if_pos h,show(i+1).toNat=i.toNat+1 by omega];simp
   ·rw[i3,if_neg h,← Hk (by simp)]
    simp[iH,eV.cells]
 ·rw[bZ (by omega),mS,aw]at i3
  by_cases hz:i=0
  ·have:st = []:=aC.1 (by omega)
   subst hz;subst this
   simp[show ¬ 0<l.length by omega,eV.cells]
   rw[i3];rfl
  ·rw[if_neg hz,if_neg hz]
   simp[hi,eV.cells]
   rw[i3,Hk (by intro h;rw[h]at i2;simp at i2;omega)]
set_option maxRecDepth 10000
set_option maxHeartbeats 4000000
theorem f164(g:eO)(hg:fi g)(s:eV)(hs:ix g s)(x:eT)(hx:uJ g x):Wf T 164 [dG g,.agg s.cells,.agg [.i x.1,.i x.2]] [] (Is (lW (gw g s x))):=by
 obtain⟨k,n⟩:=x
 have kj:=hx.ok
 dsimp only at kj ⊢
 rcases(show k=1∨k=2∨k=3∨k=4∨k=5∨k=6∨k=7∨k=8∨k=9∨k=10 by omega)with rfl|rfl|rfl|rfl|rfl|rfl|rfl|rfl|rfl|rfl
 all_goals
  refine Yg B6 ?_
  simp[B6,eV.cells]
 ·refine gR.c rfl rfl (f199 g hg s hs n) (by simp) (by simp) ?_
  simp
 ·refine gR.c rfl rfl (f200 g hg s hs n) (by simp) (by simp) ?_
  simp
 ·refine gR.c rfl rfl (f201 g hg s hs n) (by simp) (by simp) ?_
  simp
 ·refine gR.c rfl rfl (f202 g hg s hs n) (by simp) (by simp) ?_
  simp
 ·refine gR.c rfl rfl (f203 g hg s hs n) (by simp) (by simp) ?_
  simp
 ·refine gR.c rfl rfl (f204 g hg s hs n) (by simp) (by simp) ?_
  simp
 ·refine gR.c rfl rfl (f205 g hg s hs n) (by simp) (by simp) ?_
  simp
 ·refine gR.c rfl rfl (f206 g s n) (by simp) (by simp) ?_
  simp
 ·refine gR.c rfl rfl (f207 g hg s hs n (by omega)) (by simp) (by simp) ?_
  simp
 ·refine gR.c rfl rfl (f208 g hg s hs n (by omega)) (by simp) (by simp) ?_
  simp
set_option maxRecDepth 10000
set_option maxHeartbeats 4000000
@[simp] theorem afl(t sz bytes:Nat)(z:List D)(m:Int)(vn:Nat):DA t sz bytes z .emp (.val (.int .i64 m)) vn=if 0<m∧np (m*bytes) 140737488355328∧np m 9223372036854775807 then some (.eN vn 0 sz 0 m.toNat,.new (.row t 0 (List.replicate m.toNat z).flatten))else none:=rfl
theorem f191(n:Int)(hn:0<n∧n<1000):Wf T 191 [.emp,.i n] [] (fun d H=>d = .eN 0 0 1 0 0∧H = [.row 3 0 (cl f1 (List.replicate n.toNat 0))]):=by
 refine Yg Cj ?_
 simp[Cj]
 (with_reducible repeat' first|refine Xk ?_<;>try simp|refine Xs ?_ ?_<;>intro h<;>(try intro h')<;>(try simp[h])<;>(try omega)|refine Xg ?_|omega)
@[irreducible] def fl(l:List (List Int)):List Int:=l.flatten
theorem tA(l:List (List Int)):fl l=l.flatten:=by unfold fl;rfl
@[simp] theorem ahJ:fl [] = []:=by simp[tA]
theorem MV{l:List (List Int)}{i:Int}(h0:0≤i)(h:i<l.length):fl (l.take (i+1).toNat)=fl (l.take i.toNat)++gt l i:=by
 rw[gx h0 h];simp[tA]
theorem MT(l:List (List Int))(n:Nat):(fl (l.take n)).length≤(fl l).length:=by
 simp only[tA]
 conv=>rhs;rw[← bM n l]
 simp only[List.flatten_append,ay]
 omega
theorem f148(l:List (List Int))(hl:l.length≤10)(hn:0<(fl l).length∧(fl l).length<1000):Wf T 148 [.sl 1 (l.map fI)] [] (fun d H=>d = .eN 0 l.length 1 0 (fl l).length∧H = [.row 3 l.length (cl f1 (fl l))]):=by
 have fY:0<l.length:=by
  cases l with
  | nil=>simp at hn
  | cons a r=>simp
 refine Yg B0 ?_
 simp[B0]
 refine eW.e (0:Int) (fun i=>[(0,.sl 1 (l.map fI)),(3,.i (fl (l.take i.toNat)).length),(9,.sl 1 (l.map fI)),(10,.i l.length),(11,.i i)]) (fun i=>[]) (fun i=>0≤i∧i≤l.length) (fun i=>(l.length-i).toNat) ?_ ?_
 ·simp
 rintro i ⟨i0,i1⟩
 by_cases hi:i<l.length
 ·have h1:=MV i0 hi
  have h2:=MT l (i+1).toNat
  rw[h1,ay]at h2
  simp[hi]
  (with_reducible repeat' first|refine Xk ?_<;>try simp|refine Xs ?_ ?_<;>intro h<;>(try intro h')<;>(try simp[h])<;>(try omega)|refine Xg ?_|omega)
  refine LJ.i (i+1) (by first|rfl|simp[h1]) (by first|rfl|simp[h1]) rfl rfl ?_
  exact⟨by omega,by omega,by omega⟩
 ·have e1:(l.take i.toNat)=l:=jg (by omega)
  simp[hi,e1]
  refine Yn (f191 (fl l).length (by omega)) ?_
  simp
  refine eW.e (0:Int) (fun j=>[(6,.eN 0 j.toNat 1 0 (fl (l.take j.toNat)).length),(25,.sl 1 (l.map fI)),(26,.i l.length),(27,.i j)]) (fun j=>[.row 3 j.toNat (if j=0 then cl f1 (List.replicate (fl l).length 0)else cl f1 (fl (l.take j.toNat)))]) (fun j=>0≤j∧j≤l.length) (fun j=>(l.length-j).toNat) ?_ ?_
  ·simp
  rintro j ⟨j0,j1⟩
  by_cases hj:j<l.length
  ·have h1:=MV j0 hj
   have h2:=MT l (j+1).toNat
   rw[h1,ay]at h2
   by_cases hz:j=0
   ·subst hz
    simp at h1 h2
    simp[hj]
    (with_reducible repeat' first|refine Xk ?_<;>try simp|refine Xs ?_ ?_<;>intro h<;>(try intro h')<;>(try simp[h])<;>(try omega)|refine Xg ?_|omega)
    refine LJ.i (1) (by first|rfl|simp[h1]) (by first|rfl|simp[h1]) rfl rfl ?_
    exact⟨by omega,by omega,by omega⟩
   ·rw[if_neg hz]
    simp[hj]
    (with_reducible repeat' first|refine Xk ?_<;>try simp|refine Xs ?_ ?_<;>intro h<;>(try intro h')<;>(try simp[h])<;>(try omega)|refine Xg ?_|omega)
    have e2:(j+1).toNat=j.toNat+1:=by omega
    rw[e2]at h1
    refine LJ.i (j+1) (by first|rfl|simp[h1,e2,show ¬ (j+1=0)by omega]) (by first|rfl|simp[h1,e2,show ¬ (j+1=0)by omega]) rfl rfl ?_
    exact⟨by omega,by omega,by omega⟩
  ·have e1:(l.take j.toNat)=l:=jg (by omega)
   have l7:j.toNat=l.length:=by omega
   rw[if_neg (by omega)]
   simp[hj,e1,l7]
@[irreducible] def ly(p:Pos):List Int:=fl [p.cs,p.h0,p.h1,[p.fg,p.side]]
theorem vG(p:Pos):ly p=fl [p.cs,p.h0,p.h1,[p.fg,p.side]]:=by unfold ly;rfl
def lC(p:Pos):ByteArray:=((ly p).map fun n=>IntKind.u8.wrap n).foldl (fun r n=>r.push (UInt8.ofNat n.toNat)) ByteArray.empty
@[simp] theorem agK(l:List Int)(n:Int):cl fU l ++ [.val (.int .u8 n)]=cl fU (l ++ [n]):=by rw[← oI,Hz]
@[simp] theorem Rj:∀ l:List Int,bytesOf (cl fU l)=some l
 | []=>by simp[bytesOf]
 | a::r=>by rw[mH,Hz,dC,bytesOf,Rj r]
theorem f101(p:Pos)(h:0<p.cs.length)(hl:(ly p).length<1000):Wf T 101 [dP p] [] (Is (.val (.string (lC p)))):=by
 have hk:0<(ly p).length:=by simp[vG,tA];omega
 have hc:=f148 [p.cs,p.h0,p.h1,[p.fg,p.side]] (by simp) (by rw[← vG];exact⟨hk,hl⟩)
 rw[← vG]at hc
 refine Yg Bw ?_
 simp[Bw]
 refine fr.nr rfl rfl hc (by simp[lI,chunks];unfold dI;simp only[List.map_cons,List.map_nil,qV]) (by simp) (by simp) ?_
 simp
 refine eW.e (0:Int) (fun y=>[(3,if y=0 then .emp else .eN 4 (y.toNat-1) 1 0 y.toNat),(20,.eN 3 4 1 0 (ly p).length),(21,.i (ly p).length),(22,.i y)]) (fun y=>[.row 44 0 p.cells,.row 3 0 [.i p.fg,.i p.side],.row 33 0 [dI p.cs,dI p.h0,dI p.h1,.eN 1 0 1 0 2],.row 3 4 (cl f1 (ly p))]++(if y=0 then []else [.row 5 (y.toNat-1) (cl fU (((ly p).take y.toNat).map fun n=>IntKind.u8.wrap n))])) (fun y=>0≤y∧y≤(ly p).length) (fun y=>((ly p).length-y).toNat) ?_ ?_
 ·simp
 rintro i ⟨i0,i1⟩
 by_cases hi:i<(ly p).length
 ·have hT:(List.take (i.toNat+1) (ly p)).map (fun n=>IntKind.u8.wrap n)=(List.take i.toNat (ly p)).map (fun n=>IntKind.u8.wrap n) ++ [IntKind.u8.wrap (gt (ly p) i)]:=by
   rw[← show(i+1).toNat=i.toNat+1 by omega,gx i0 hi];simp
  have e1:(i+1).toNat=i.toNat+1:=by omega
  by_cases hz:i=0
  ·rw[if_pos hz,if_pos hz]
   have ez:i.toNat=0:=by omega
   rw[ez]at hT e1
   simp at hT
   simp[hi]
   (with_reducible repeat' first|refine Xk ?_<;>try simp|refine Xs ?_ ?_<;>intro h<;>(try intro h')<;>(try simp[h])<;>(try omega)|refine Xg ?_|omega)
   refine LJ.i (i+1) (by first|rfl|simp[show ¬ (i+1=0)by omega,e1,hT,gW]) (by first|rfl|simp[show ¬ (i+1=0)by omega,e1,hT,gW]) rfl rfl ?_
   exact⟨by omega,by omega,by omega⟩
  ·rw[if_neg hz,if_neg hz]
   simp[hi]
   (with_reducible repeat' first|refine Xk ?_<;>try simp|refine Xs ?_ ?_<;>intro h<;>(try intro h')<;>(try simp[h])<;>(try omega)|refine Xg ?_|omega)
   have e2:i.toNat-1+1=i.toNat:=by omega
   simp at hT
   refine LJ.i (i+1) (by first|rfl|simp[show ¬ (i+1=0)by omega,e1,hT,e2,dh]) (by first|rfl|simp[show ¬ (i+1=0)by omega,e1,hT,e2,dh]) rfl rfl ?_
   exact⟨by omega,by omega,by omega⟩
 ·rw[if_neg (by omega),if_neg (by omega)]
  have e3:i.toNat=(ly p).length:=by omega
  simp[hi,wI,e3]
  rfl
set_option maxRecDepth 100000
set_option maxHeartbeats 4000000
def zd(n:Int):ByteArray:=⟨#[UInt8.ofNat (48+n.toNat)]⟩
theorem f209(n:Int)(hn:0≤n∧n≤9):Wf T 209 [.i n] [] (Is (.val (.string (zd n)))):=by
 rcases(show n=0∨n=1∨n=2∨n=3∨n=4∨n=5∨n=6∨n=7∨n=8∨n=9 by omega)with rfl|rfl|rfl|rfl|rfl|rfl|rfl|rfl|rfl|rfl
 all_goals exact nY (k:=100) (by kernel_rfl)
def te(b:Bool):ByteArray:=if b then⟨#[116,114,117,101]⟩else⟨#[102,97,108,115,101]⟩
theorem f210(b:Bool):Wf T 210 [.b b] [] (Is (.val (.string (te b)))):=by
 cases b
 ·exact nY (k:=100) (by kernel_rfl)
 ·exact nY (k:=100) (by kernel_rfl)
@[simp] theorem amp(a b:ByteArray):ya .add a b=if np ((a.size+b.size:Nat):Int) 9223372036854775807 then some (.val (.string (a++b)))else none:=rfl
theorem foldl_push(l:List Int):∀ r:ByteArray,(l.foldl (fun r n=>r.push (UInt8.ofNat n.toNat)) r).data.toList=r.data.toList++l.map fun n=>UInt8.ofNat n.toNat:=by
 induction l with
 | nil=>intro r;simp
 | cons a l ih=>intro r;rw[cw,ih];simp[ByteArray.push]
theorem Oq(p:Pos):(lC p).data.toList=(ly p).map fun n=>UInt8.ofNat (IntKind.u8.wrap n).toNat:=by
 unfold lC
 rw[foldl_push]
 simp[ByteArray.empty,ByteArray.emptyWithCapacity]
 rfl
@[simp] theorem aiQ(p:Pos):(lC p).size=(ly p).length:=by
 show(lC p).data.size=_
 rw[← cH,Oq,List.length_map]
@[simp] theorem al2(a:Array UInt8):ByteArray.size ⟨a⟩=a.size:=rfl
@[simp] theorem ahn(n:Int):(zd n).size=1:=rfl
@[simp] theorem Q'(b:Bool):(te b).size≤5:=by cases b<;>decide
def lN(s:eV):ByteArray:=zd s.kind++⟨#[32]⟩++zd s.cur++⟨#[32]⟩++te s.ig++⟨#[32]⟩++lC s.p
theorem f165(s:eV)(h1:0≤s.kind∧s.kind≤9)(h2:0≤s.cur∧s.cur≤9)(h:0<s.p.cs.length)(hl:(ly s.p).length<1000):Wf T 165 [.agg s.cells] [] (Is (.val (.string (lN s)))):=by
 have hb:=Q' s.ig
 refine Yg B7 ?_
 simp[B7,eV.cells]
 refine Yt (f209 s.kind h1) ?_
 simp
 (with_reducible repeat' first|refine Xk ?_<;>try simp|refine Xs ?_ ?_<;>intro h<;>(try intro h')<;>(try simp[h])<;>(try omega)|refine Xg ?_|omega)
 refine Yt (f209 s.cur h2) ?_
 simp
 (with_reducible repeat' first|refine Xk ?_<;>try simp|refine Xs ?_ ?_<;>intro h<;>(try intro h')<;>(try simp[h])<;>(try omega)|refine Xg ?_|omega)
 refine Yt (f210 s.ig) ?_
 simp
 (with_reducible repeat' first|refine Xk ?_<;>try simp|refine Xs ?_ ?_<;>intro h<;>(try intro h')<;>(try simp[h])<;>(try omega)|refine Xg ?_|omega)
 refine Yt (f101 s.p h hl) ?_
 simp
 (with_reducible repeat' first|refine Xk ?_<;>try simp|refine Xs ?_ ?_<;>intro h<;>(try intro h')<;>(try simp[h])<;>(try omega)|refine Xg ?_|omega)
 rfl
theorem ofNat_inj{m n:Nat}(hm:m<256)(hn:n<256)(h:UInt8.ofNat m=UInt8.ofNat n):m=n:=by
 have:=congrArg UInt8.toNat h
 simp only[UInt8.toNat_ofNat']at this
 omega
theorem QI{n:Int}(h:0≤n∧n<256):IntKind.u8.wrap n=n:=by
 simp only[IntKind.wrap,IntKind.bits,IntKind.signed]
 simp
 omega
theorem O1:∀ {a b:List Int},(∀ n∈a,0≤n∧n<256)→(∀ n∈b,0≤n∧n<256)→(a.map fun n=>UInt8.ofNat (IntKind.u8.wrap n).toNat)=(b.map fun n=>UInt8.ofNat (IntKind.u8.wrap n).toNat)→a=b
 | [],[],_,_,_=>rfl
 | [],_::_,_,_,h=>by simp at h
 | _::_,[],_,_,h=>by simp at h
 | x::a,y::b,ha,hb,h=>by
  simp only[List.map_cons,cm]at h
  have hx:=ha x (by simp)
  have hy:=hb y (by simp)
  rw[QI hx,QI hy]at h
  have e:=ofNat_inj (by omega) (by omega) h.1
  rw[O1 (fun n hn=>ha n (by simp[hn])) (fun n hn=>hb n (by simp[hn])) h.2,show x=y by omega]
theorem Jh{g:eO}(hg:fi g){p:Pos}(hp:fF g p):∀ n∈ly p,0≤n∧n<256:=by
 have hk:=hg.kinds
 have hr:=hg.fg
 have h5:=xO hr.1 (by omega)
 have hh:∀ {l:List Int},n4 g l→∀ n∈l,0≤n∧n<256:=fun{l} h n hn=>by
  obtain⟨i,h0,h1,rfl⟩:=rv.1 hn
  have:=h.at_ i h0 h1
  omega
 intro n hn
 rw[vG,tA]at hn
 simp only[aQ,cG,List.mem_append,au,cQ,or_false]at hn
 have IV:=hp.fg
 have tS:=hp.side
 rcases hn with hn|hn|hn|rfl|rfl
 ·have:=hp.cs n hn;omega
 ·exact hh hp.h0 n hn
 ·exact hh hp.h1 n hn
 ·omega
 ·omega
theorem V7{g:eO}{p q:Pos}(hp:fF g p)(hq:fF g q)(h:ly p=ly q):p=q:=by
 rw[vG,vG,tA,tA]at h
 simp only[aQ,cG,aw]at h
 have a1:=hp.size;have a2:=hq.size
 have b1:=hp.h0.len;have b2:=hq.h0.len
 have c1:=hp.h1.len;have c2:=hq.h1.len
 obtain⟨e1,h⟩:=eB h (by omega)
 obtain⟨e2,h⟩:=eB h (by omega)
 obtain⟨e3,h⟩:=eB h (by omega)
 simp only[cm,and_true]at h
 cases p;cases q
 simp_all
theorem Oo{g:eO}(hg:fi g){p q:Pos}(hp:fF g p)(hq:fF g q)(h:lC p=lC q):p=q:=by
 have h2:=congrArg (fun b:ByteArray=>b.data.toList) h
 simp only[Oq]at h2
 exact V7 hp hq (O1 (Jh hg hp) (Jh hg hq) h2)
theorem V8(s:eV):(lN s).data.toList=UInt8.ofNat (48+s.kind.toNat)::32::UInt8.ofNat (48+s.cur.toNat)::32::((te s.ig).data.toList++32::(lC s.p).data.toList):=by
 unfold lN zd
 simp
theorem Ou{g:eO}(hg:fi g){s t:eV}(hs:ix g s)(ht:ix g t)(h:lN s=lN t):s=t:=by
 have h2:=congrArg (fun b:ByteArray=>b.data.toList) h
 simp only[V8,cm,true_and]at h2
 obtain⟨e1,e2,h3⟩:=h2
 have hk:=hg.kinds
 have hb:=hg.gV.size
 have k1:=hs.kind;have k2:=ht.kind
 have u1:=hs.cur;have u2:=ht.cur
 have f1:=ofNat_inj (by omega) (by omega) e1
 have f2:=ofNat_inj (by omega) (by omega) e2
 obtain⟨p,k,c,b⟩:=s
 obtain⟨p',k',c',b'⟩:=t
 dsimp only at *
 have qY:b=b'∧lC p=lC p':=by
  cases b<;>cases b'
  ·simp[te]at h3
   exact⟨rfl,by cases hx:lC p;cases hy:lC p';simp_all [eo]⟩
  ·simp[te]at h3
  ·simp[te]at h3
  ·simp[te]at h3
   exact⟨rfl,by cases hx:lC p;cases hy:lC p';simp_all [eo]⟩
 have ep:p=p':=Oo hg hs.p ht.p qY.2
 rw[qY.1,ep,show k=k' by omega,show c=c' by omega]
theorem Fs(a b:ByteArray):ox (.string a) (.string b)=decide (a=b):=by
 obtain⟨a⟩:=a
 obtain⟨b⟩:=b
 show(a == b)=_
 rw[Bool.eq_iff_iff,beq_iff_eq,decide_eq_true_iff,ByteArray.mk.injEq]
theorem Jx{g:eO}(hg:fi g){t:eV}(ht:ix g t):∀ {l:List eV},(∀ s∈l,ix g s)→ny (l.map fun s=>((.string (lN s):Value),D.b true)) (.string (lN t))=if t∈l then some (.b true)else none
 | [],_=>by simp[ny]
 | a::l,h=>by
  rw[List.map_cons,ny,Fs,Jx hg ht fun s hs=>h s (by simp[hs])]
  by_cases e:t=a
  ·subst e;simp
  ·have:¬ lN t=lN a:=fun k=>e (Ou hg ht (h a (by simp)) k)
   simp[this,e]
theorem JA{g:eO}(hg:fi g){t:eV}(ht:ix g t):∀ {l:List eV},(∀ s∈l,ix g s)→t ∉ l→kl (l.map fun s=>((.string (lN s):Value),D.b true)) (.string (lN t)) (.b true)=(l ++ [t]).map fun s=>((.string (lN s):Value),D.b true)
 | [],_,_=>by simp[kl]
 | a::l,h,hn=>by
  simp only[au,not_or]at hn
  have:¬ lN t=lN a:=fun k=>hn.1 (Ou hg ht (h a (by simp)) k)
  rw[List.map_cons,kl,Fs,JA hg ht (fun s hs=>h s (by simp[hs])) hn.2]
  simp[this]
set_option maxRecDepth 10000
set_option maxHeartbeats 8000000
theorem fr.inl{T:gb}{f:FuncId}{args:List D}{dst:Option Nat}{s:St}{K:St→Prop}(fn:eQ)(hf:T.fn f=some fn)(hp:fn.full=true)(hl:args.length≤fn.ntmps)(hz:pk fn.body=true)
  (h:XC T fn.body { env:=pj args,H:=s.H } (tz fn.results fn.own s.H.length fun d H'=>K { s with env:=put s.env dst d,H:=H' })):fr T f args dst s K .mk:=.inr ⟨fn,hf,hp,Wf.x hf hl h hz⟩
abbrev sk(g:eO)(p:Pos)(st:eV)(outs:D):U:=[.row 41 0 g.cells,.row 44 0 p.cells,.row 164 0 [outs],.row 41 0 g.cells,.row 44 0 p.cells,.dead,.dead,.dead,.row 171 0 st.cells,.dead]
theorem Sq(g:eO)(hg:fi g)(p:Pos)(hp:fF g p)(st t:eV)(ht:ix g t):Wf T 122 [.agg t.cells,.agg [.i 0,.i 0],.ptr 1 0 0,.ptr 2 0 0] (sk g p st .emp ++ [.row 171 0 t.cells])
  (fun _ H'=>match ln p.side t with
   | none=>H'=sk g p st .emp ++ [.row 171 0 t.cells]
   | some o=>H'=sk g p st (.eN 11 0 6 0 1) ++ [.row 171 0 t.cells,.row 113 0 (cl fq.cells [o])]):=by
 have gj:=ht.p.size
 have kz:=ht.cur
 have jl:=ht.p.small hg
 have oh:=hg.gV.size
 have hk:=hg.kinds
 have l0:=ht.p.h0.len
 have l1:=ht.p.h1.len
 have gA:=hp.side
 have UY:=ht.p.side
 refine Yz oE (gH 37 [13,14,15] oE.body) ?_
 simp[oE,gH,iJ,kU,kX,lr,jN,sk,eV.cells]
 by_cases h0:gt t.p.cs t.cur=0
 ·simp[h0]
  (with_reducible repeat' first|refine Xk ?_<;>try simp|refine Xs ?_ ?_<;>intro h<;>(try intro h')<;>(try simp[h])<;>(try omega)|refine Xg ?_|omega)
  refine Yn (f91 t jl (by omega)) ?_
  simp
  (with_reducible repeat' first|refine Xk ?_<;>try simp|refine Xs ?_ ?_<;>intro h<;>(try intro h')<;>(try simp[h])<;>(try omega)|refine Xg ?_|omega)
  refine Yt (f92 (k:=t.kind) (s:=p.side) ht.kind.1 (by have:=ht.kind;omega) gA.1 gA.2) ?_
  simp
  (with_reducible repeat' first|refine Xk ?_<;>try simp|refine Xs ?_ ?_<;>intro h<;>(try intro h')<;>(try simp[h])<;>(try omega)|refine Xg ?_|omega)
  have q0:=gC (l:=t.p.cs) (n:=t.cur) (v:=1+2*t.kind+p.side) kz.1 (by omega)
  simp[ln,h0,iG,gW,q0]
 ·simp[h0,ln]
  (with_reducible repeat' first|refine Xk ?_<;>try simp|refine Xs ?_ ?_<;>intro h<;>(try intro h')<;>(try simp[h])<;>(try omega)|refine Xg ?_|omega)
theorem Sr(g:eO)(hg:fi g)(p:Pos)(hp:fF g p)(st t:eV)(ht:ix g t)(outs:List fq)(ho:outs.length<2 ^ 39)(NK:0<outs.length):Wf T 122 [.agg t.cells,.agg [.i 0,.i 0],.ptr 1 0 0,.ptr 2 0 0] (sk g p st (.eN 10 (outs.length-1) 6 0 outs.length) ++ [.row 113 (outs.length-1) (cl fq.cells outs),.row 171 0 t.cells])
  (fun _ H'=>match ln p.side t with
   | none=>H'=sk g p st (.eN 10 (outs.length-1) 6 0 outs.length) ++ [.row 113 (outs.length-1) (cl fq.cells outs),.row 171 0 t.cells]
   | some o=>H'=sk g p st (.eN 10 (outs ++ [o]).length.pred 6 0 (outs ++ [o]).length) ++ [.row 113 (outs ++ [o]).length.pred (cl fq.cells (outs ++ [o])),.row 171 0 t.cells]):=by
 have gj:=ht.p.size
 have kz:=ht.cur
 have jl:=ht.p.small hg
 have oh:=hg.gV.size
 have hk:=hg.kinds
 have l0:=ht.p.h0.len
 have l1:=ht.p.h1.len
 have gA:=hp.side
 have UY:=ht.p.side
 refine Yz oE (gH 37 [14,15,16] oE.body) ?_
 simp[oE,gH,iJ,kU,kX,lr,jN,sk,eV.cells]
 by_cases h0:gt t.p.cs t.cur=0
 ·simp[h0]
  (with_reducible repeat' first|refine Xk ?_<;>try simp|refine Xs ?_ ?_<;>intro h<;>(try intro h')<;>(try simp[h])<;>(try omega)|refine Xg ?_|omega)
  refine Yn (f91 t jl (by omega)) ?_
  simp
  (with_reducible repeat' first|refine Xk ?_<;>try simp|refine Xs ?_ ?_<;>intro h<;>(try intro h')<;>(try simp[h])<;>(try omega)|refine Xg ?_|omega)
  refine Yt (f92 (k:=t.kind) (s:=p.side) ht.kind.1 (by have:=ht.kind;omega) gA.1 gA.2) ?_
  simp
  (with_reducible repeat' first|refine Xk ?_<;>try simp|refine Xs ?_ ?_<;>intro h<;>(try intro h')<;>(try simp[h])<;>(try omega)|refine Xg ?_|omega)
  have q0:=gC (l:=t.p.cs) (n:=t.cur) (v:=1+2*t.kind+p.side) kz.1 (by omega)
  simp[ln,h0,iG,q0]
  (with_reducible repeat' first|refine Xk ?_<;>try simp[show outs.length-1+1=outs.length by omega]|refine Xs ?_ ?_<;>intro h<;>(try intro h')<;>(try simp[h,show outs.length-1+1=outs.length by omega])<;>(try omega)|refine Xg ?_|omega)
 ·simp[h0,ln]
  (with_reducible repeat' first|refine Xk ?_<;>try simp|refine Xs ?_ ?_<;>intro h<;>(try intro h')<;>(try simp[h])<;>(try omega)|refine Xg ?_|omega)
