/- Part 46 of the proof of skewer.skewerlaw15.TableSlices. -/
import Derived.Test.YtnaefnajkaohgaaGreatDoorC43
import Derived.Test.YtnaefnajkaohgaaGreatDoorC44
import Derived.Test.YtnaefnajkaohgaaGreatDoorC32
import Derived.Test.YtnaefnajkaohgaaGreatDoorC45
set_option linter.all false
namespace Go.Proofs.YtnaefnajkaohgaaGreatDoor
open Go Go.AL Classical
set_option maxRecDepth 10000
set_option maxHeartbeats 16000000
theorem XCall.s{T:Tab}{f:FuncId}{args:List D}{dst:Option Nat}{s s':St}{K:St→Prop}(hs:s=s')(h:XCall T f args dst s' K .mk):XCall T f args dst s K .mk:=by subst hs;exact h
theorem f82(l:List Stp)(h:0<l.length)(h2:l.length<2 ^ 40):Wf T 82 [dProg l] [] (fun d H=>d = .osl 0 1 2 0 l.length∧H = [.row 58 1 (cl fS l)]):=by
 refine Yg F82 ?_
 simp[F82]
 refine oA.i (a:=.b false) (by cases l with|nil=>exact absurd h (by simp)|cons a r=>rfl) ?_
 simp
 (with_reducible repeat' first|refine Xk ?_<;>try simp|refine Xs ?_ ?_<;>intro h<;>(try intro h')<;>(try simp[h])<;>(try omega)|refine Xg ?_|omega)
theorem f45g(g:Game)(hg:GameOK g)(l:List Pos)(hc:Closed2 g l)(h0:0<l.length)(v:List Stp)(hv:v.length=l.length)(part:List Int)(hp:PartOK l.length part)(n:Int)(o:FOK g l (nextI g l) part n) :
  Wf T 45 [dG g,dPs l,dProg v,dI part,.i n] [] (Is (.tup [dProg (fillR g l (nextI g l) part n v (rep l.length)).2.1,.i (fillR g l (nextI g l) part n v (rep l.length)).1,.i 0])):=by
 have h9:=hc.len
 have hn:=o.bu
 have hpl:=o.pl
 refine Yg F45 ?_
 simp[F45]
 refine XCall.inl F70 rfl rfl (by simp[F70]) rfl ?_
 simp[F70]
 refine Yc (f52 g hg l hc h0) ?_
 simp
 (with_reducible repeat' first|refine Xk ?_<;>try simp|refine Xs ?_ ?_<;>intro h<;>(try intro h')<;>(try simp[h])<;>(try omega)|refine Xg ?_|omega)
 refine XLoop.s (by simp;rfl) ?_
 refine XLoop.e (0:Int) (fun y=>[(1,dPs l),(2,dProg v),(3,dI part),(4,.i n),(13,.ptr 1 0 0),(15,.i (prevP part y)),(34,dI part),(35,.i part.length),(36,.i y)]) (fun y=>[.row 41 0 g.cells,.row 148 0 [.osl 2 0 2 0 l.length,.osl 3 0 1 0 l.length,.i g.size,.sl 1 (g.next.map fI),dI g.turn,.sl 3 (g.kinds.map Kind.cells),.i g.rights,.b g.must,dN 4 Clause.cells g.clauses,.i g.blocked,.i g.endless,dPs l,.sl 1 ((nextI g l).map fN)],.row 58 0 (cl fS (List.replicate l.length (0,0))),.row 4 0 (cl fB (List.replicate l.length false))]) (fun y=>0≤y∧y≤part.length) (fun y=>(part.length-y).toNat) ?_ ?_
 ·simp
 rintro y ⟨y0,y1⟩
 by_cases hy:y<part.length
 ·have hpy:=hp y y0 hy
  simp[hy]
  (with_reducible repeat' first|refine Xk ?_<;>try simp|refine Xs ?_ ?_<;>intro h<;>(try intro h')<;>(try simp[h])<;>(try omega)|refine Xg ?_|omega)
  refine LJ.i (y+1) (by first|rfl|simp[prevP_s y0]) (by first|rfl|simp[prevP_s y0]) rfl rfl ?_
  omega
 ·simp[hy]
  (with_reducible repeat' first|refine Xk ?_<;>try simp|refine Xs ?_ ?_<;>intro h<;>(try intro h')<;>(try simp[h])<;>(try omega)|refine Xg ?_|omega)
  refine Yn (f82 v (by omega) (by omega)) ?_
  simp
  refine XCall.s (by simp[hv];rfl) ?_
  refine XCall.isF rfl rfl (f78 false (List.replicate l.length (0,0)) o [] v (rep l.length) hv (rep_len _)) ?_
  rintro d H' ⟨rfl,rfl⟩
  have hfo:=(fillR_out o n hv (rep_len _)).1.1
  generalize fillR g l (nextI g l) part n v (rep l.length)=r at *
  simp[H5,tbl,hfo]
theorem f20g(g:Game)(hg:GameOK g)(l:List Pos)(hc:Closed2 g l)(h0:0<l.length)(v:List Stp)(hv:v.length=l.length)(part:List Int)(hp:PartOK l.length part)(n:Int)(o:FOK g l (nextI g l) part n) :
  Wf T 20 [dG g,dPs l,dProg v,dI part,.i n] [] (Is (.agg [dProg (fillR g l (nextI g l) part n v (rep l.length)).2.1,.i (fillR g l (nextI g l) part n v (rep l.length)).1,.i 0])):=by
 refine Yg F20 ?_
 simp[F20]
 refine Yc (f45g g hg l hc h0 v hv part hp n o) ?_
 simp
theorem cut_part{m:List Int}{l:List Pos}{p:List Int}(hp:p∈cutL m l):PartOK l.length p:=fun k k0 k1=>by
 obtain⟨n,hn,rfl⟩:=List.mem_map.1 hp
 have h1:=(mem_filt.1 (gt_mem k0 k1)).1
 refine⟨?_,h1.2⟩
 by_cases e:k=0
 ·subst e;rw[prevP_0];omega
 ·unfold prevP
  rw[if_neg e]
  have hs:=filt_srt m l n
  have:=(List.pairwise_iff_getElem.1 hs) (k-1).toNat k.toNat (by omega) (by omega) (by omega)
  rwa [← gt_eq (by omega) (by omega),← gt_eq k0 k1]at this
theorem f5(x:Big)(hx:BigOK x)(a0 a1 a2 a3 a4 a5:Int)(ha:∀ n∈[a0,a1,a2,a3,a4,a5],0≤n∧n<256):Wf T 5 [.agg x.cells,dW [a0,a1,a2,a3,a4,a5]] [] (Is (.b true)):=by
 have hxl:x.cells.length=31:=by simp[Big.cells,Raw.cells,hx.len]
 have hxc:closedL x.cells=true:=by have:=closed_big x;simpa using this
 have c12:=f12 x hx
 generalize x.cells=xs at *
 have htk:xs.take 31=xs:=List.take_of_length_le (by omega)
 refine Yz F5 (insB 11 [4] F5.body) ?_
 simp[F5,insB,insC,befK,froK,hasK,headIs,dW,hxl,htk]
 refine Yc (f11) ?_
 simp
 (with_reducible repeat' first|refine Xk ?_<;>try simp[hxl,htk]|refine Xs ?_ ?_<;>intro h<;>(try intro h')<;>(try simp[h,hxl,htk])<;>(try omega)|refine Xg ?_|omega)
 simp[hxl,htk]
 refine XCall.q rfl rfl c12 (by simp[hxc]) (fun y=>by obtain⟨g,p,b,l⟩:=y;cases b<;>simp[closedL]) ?_
 rintro⟨g,p,b,l⟩ ⟨hg,hp,hcl⟩
 cases b
 ·simp
 dsimp only at hg hp hcl
 have hc1:=hcl rfl
 have hc:=hc1.c2
 have h0:=hc1.len.1
 have h80:=hc1.len.2
 have c13:=f13m g hg a0 a1 a2 a3 a4 a5 ha
 simp only[dW,List.map]at c13
 simp
 refine Yq (c13) fun m hm=>?_
 simp
 refine Yt (f23 hg hm.ok hc.ok hc.len) ?_
 simp
 (with_reducible repeat' first|refine Xk ?_<;>try simp|refine Xs ?_ ?_<;>intro h<;>(try intro h')<;>(try simp[h])<;>(try omega)|refine Xg ?_|omega)
 refine XLoop.s (by simp;rfl) ?_
 generalize hws : [D.val (.int .u8 a0),D.val (.int .u8 a1),D.val (.int .u8 a2),D.val (.int .u8 a3),D.val (.int .u8 a4),D.val (.int .u8 a5)]=ws
 have hw:∀ k:Int,0≤k→k<6→∃ n,(0≤n∧n<256)∧ws[k.toNat]? = some (.val (.int .u8 n)):=fun k k0 k1=>by
  subst hws
  rcases(show k=0∨k=1∨k=2∨k=3∨k=4∨k=5 by omega)with rfl|rfl|rfl|rfl|rfl|rfl
  ·exact⟨a0,ha a0 (by simp),rfl⟩
  ·exact⟨a1,ha a1 (by simp),rfl⟩
  ·exact⟨a2,ha a2 (by simp),rfl⟩
  ·exact⟨a3,ha a3 (by simp),rfl⟩
  ·exact⟨a4,ha a4 (by simp),rfl⟩
  ·exact⟨a5,ha a5 (by simp),rfl⟩
 refine XLoop.e ((0,List.replicate l.length (0,0)):Int×List Stp) (fun y=>[(3,.ptr 1 0 0),(5,.b true),(6,.ptr 2 0 0),(7,.ptr 3 0 0),(8,.sl 1 ((cutL m l).map fI)),(9,.osl 4 0 2 0 l.length),(10,.i y.1)]) (fun y=>[.row 32 0 xs,.row 25 0 ws,.row 47 0 (g.cells++(p.cells ++ [dPs l,.b true])),.row 50 0 [dI m],.row 58 0 (cl fS y.2)]) (fun y=>0≤y.1∧y.1≤l.length∧y.2.length=l.length) (fun y=>(l.length-y.1).toNat) ?_ ?_
 ·simp
 rintro⟨i,v⟩ ⟨i0,i1,i2⟩
 dsimp only at i0 i1 i2 ⊢
 by_cases hi:i<l.length
 ·have hr:=remI_eq (a:=i) (b:=6) i0
  obtain⟨n,hn,hwn⟩:=hw (remI i 6) (by omega) (by omega)
  have hw8:=wrap8 hn
  have r3:=remI_eq (a:=n) (b:=3) hn.1
  have q8:=quoI_eq (a:=n) (b:=8) hn.1 (by omega) (by omega)
  simp[hi,hwn,hw8]
  (with_reducible repeat' first|refine Xk ?_<;>try simp[hwn,hw8]|refine Xs ?_ ?_<;>intro h<;>(try intro h')<;>(try simp[h,hwn,hw8])<;>(try omega)|refine Xg ?_|omega)
  refine LJ.i (i+1,pt v i (1+remI n 3,quoI n 8)) (by first|rfl|simp[clS_put]) (by first|rfl|simp[clS_put]) rfl rfl ?_
  exact⟨by omega,by omega,by omega,by rw[pt_len i0 (by omega)];exact i2⟩
 ·have hie:i=l.length:=by omega
  subst hie
  simp
  have hwc:closedL ws=true:=by subst hws;simp[closedL]
  have hsx:∀ (ρ:Nat→Option Nat) (H:Heap) (k:Nat),xs.map (shed ρ H k)=xs:=fun ρ H k=>map_shed_closed hxc
  have hsw:∀ (ρ:Nat→Option Nat) (H:Heap) (k:Nat),ws.map (shed ρ H k)=ws:=fun ρ H k=>map_shed_closed hwc
  have hfx:∀ (q:Nat→Bool) (n:Nat),(List.map ((List.filter q) ∘ topRef n) xs).flatten = []:=fun q n=>flatten_nil fun a h=>by
   show List.filter q (topRef n a) = []
   rw[topRef_cl n (closedL_of hxc a h)];rfl
  have hfw:∀ (q:Nat→Bool) (n:Nat),(List.map ((List.filter q) ∘ topRef n) ws).flatten = []:=fun q n=>flatten_nil fun a h=>by
   show List.filter q (topRef n a) = []
   rw[topRef_cl n (closedL_of hwc a h)];rfl
  refine XLoop.s (by simp[i2,hsx,hsw];rfl) ?_
  have hfm:=fills_made hg hm hc (bu:=7) (by omega) i2
  have hcl:=cutL_len m l
  have hq:∀ p∈cutL m l,p.length≤l.length:=fun p hp=>(cutL_in hp).2.1
  have hok:∀ p∈cutL m l,PartOK l.length p∧FOK g l (nextI g l) p 7:=fun p hp=>⟨cut_part hp,fok hg hc (by omega) hp⟩
  have hmi:=(mkR_len hg hc (bu:=7) (by omega) (cutL m l) (fun p hp=>hp) (List.replicate l.length (2,0)) (List.replicate l.length false) 0 (by simp) (by simp))
  have h18:=f18m g hg l hc h0 m hm.ok 7 (by omega)
  unfold mkT at hfm h18
  generalize mkR g l (nextI g l) 7 (cutL m l) (List.replicate l.length (2,0)) (List.replicate l.length false) 0=R at *
  generalize cutL m l=cut at *
  refine XLoop.e ((0,v):Int×List Stp) (fun y=>[(5,.b true),(6,.ptr 2 0 0),(7,.ptr 3 0 0),(8,.sl 1 (cut.map fI)),(9,dProg y.2),(11,.i y.1)]) (fun y=>[.row 32 0 xs,.row 25 0 ws,.row 47 0 (g.cells++(p.cells ++ [dPs l,.b true])),.row 50 0 [dI m],.dead]) (fun y=>0≤y.1∧y.1≤cut.length∧y.2.length=l.length∧fillsV g l 7 (cut.drop y.1.toNat) y.2=R.2.1) (fun y=>(cut.length-y.1).toNat) ?_ ?_
  ·exact⟨by simp,by simp,i2,hfm⟩
  clear i2 hfm
  rintro⟨i,v⟩ ⟨i0,i1,i2,i3⟩
  dsimp only at i0 i1 i2 i3 ⊢
  by_cases hi:i<cut.length
  ·have hmem:=gt_mem i0 hi
   obtain⟨o1,o2⟩:=hok _ hmem
   have hpq:=hq _ hmem
   obtain⟨⟨f1,f2⟩,f3⟩:=fillR_out o2 7 i2 (rep_len _)
   have c20:=f20g g hg l hc h0 v i2 (gt cut i) o1 7 o2
   rw[drop_gt i0 hi,fillsV]at i3
   simp[hi]
   (with_reducible repeat' first|refine Xk ?_<;>try simp|refine Xs ?_ ?_<;>intro h<;>(try intro h')<;>(try simp[h])<;>(try omega)|refine Xg ?_|omega)
   refine Yt (c20) ?_
   simp
   generalize fillR g l (nextI g l) (gt cut i) 7 v (rep l.length)=r at *
   (with_reducible repeat' first|refine Xk ?_<;>try simp|refine Xs ?_ ?_<;>intro h<;>(try intro h')<;>(try simp[h])<;>(try omega)|refine Xg ?_|omega)
   refine XLoop.s (by simp;rfl) ?_
   refine XLoop.e (0:Int) (fun z=>[(5,.b true),(6,.ptr 2 0 0),(7,.ptr 3 0 0),(8,.sl 1 (cut.map fI)),(9,dProg v),(11,.i i),(12,.ptr 5 0 0),(13,.i z)]) (fun z=>[.row 32 0 xs,.row 25 0 ws,.row 47 0 (g.cells++(p.cells ++ [dPs l,.b true])),.row 50 0 [dI m],.dead,.row 64 0 [dProg r.2.1,.i r.1,.i 0]]) (fun z=>0≤z∧z≤l.length) (fun z=>(l.length-z).toNat) ?_ ?_
   ·simp
   rintro z ⟨z0,z1⟩
   dsimp only at z0 z1 ⊢
   by_cases hz:z<l.length
   ·have c25:=f25 (gt cut i) z (by omega)
    by_cases hmz:z∈gt cut i
    ·simp[hmz]at c25
     simp[hz,i2,f1]
     (with_reducible repeat' first|refine Xk ?_<;>try simp[i2,f1]|refine Xs ?_ ?_<;>intro h<;>(try intro h')<;>(try simp[h,i2,f1])<;>(try omega)|refine Xg ?_|omega)
     ·refine LJ.e (z+1) ?_
      omega
     ·refine Yt (c25) ?_
      simp
      (with_reducible repeat' first|refine Xk ?_<;>try simp|refine Xs ?_ ?_<;>intro h<;>(try intro h')<;>(try simp[h])<;>(try omega)|refine Xg ?_|omega)
      refine LJ.e (z+1) ?_
      omega
    ·have e:=(f3 z z0 hz hmz).1
     simp[hz,i2,f1,e]
     (with_reducible repeat' first|refine Xk ?_<;>try simp|refine Xs ?_ ?_<;>intro h<;>(try intro h')<;>(try simp[h])<;>(try omega)|refine Xg ?_|omega)
     refine LJ.e (z+1) ?_
     omega
   ·simp[hz,i2,hsx,hsw,hfx,hfw]
    (with_reducible repeat' first|refine Xk ?_<;>try simp[hsx,hsw,hfx,hfw]|refine Xs ?_ ?_<;>intro h<;>(try intro h')<;>(try simp[h,hsx,hsw,hfx,hfw])<;>(try omega)|refine Xg ?_|omega)
    refine LJ.i (i+1,r.2.1) (by first|rfl|simp[hsx,hsw,hfx,hfw]) (by first|rfl|simp[hsx,hsw,hfx,hfw]) rfl rfl ?_
    dsimp only
    exact⟨by omega,by omega,by omega,f1,by rw[show(i+1).toNat=i.toNat+1 by omega];exact i3⟩
  ·have hie:i=cut.length:=by omega
   subst hie
   rw[List.drop_of_length_le (by simp),fillsV]at i3
   subst i3
   have c24:=f24s R.2.1 (by omega)
   simp
   refine XCall.s (by simp[hsx,hsw,hfx,hfw];rfl) ?_
   refine Yc (h18) ?_
   simp
   (with_reducible repeat' first|refine Xk ?_<;>try simp|refine Xs ?_ ?_<;>intro h<;>(try intro h')<;>(try simp[h])<;>(try omega)|refine Xg ?_|omega)
   refine Yc (c24) ?_
   simp
end Go.Proofs.YtnaefnajkaohgaaGreatDoor
