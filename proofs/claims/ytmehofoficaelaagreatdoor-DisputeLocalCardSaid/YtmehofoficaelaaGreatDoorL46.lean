/- Part 46 of DisputeLocal. -/
import Derived.Test.YtmehofoficaelaaGreatDoorL45
set_option linter.all false
namespace Go.Proofs.YtmehofoficaelaaGreatDoor
open Go Go.AL Classical
set_option maxRecDepth 10000
set_option maxHeartbeats 16000000
def Pw(g:eY)(hg:gh g)(l:List Pos)(hc:oz g l)(h0:0<l.length)(v:List fe)(hv:v.length=l.length)(hb:∀ k:Int,0≤k→k<v.length→0≤(gt v k).2∧(gt v k).2≤4000)(i:Int)(i0:0≤i)(i1:i<l.length) :
  Wf T 37 [dG g,gA l,gS v,.i i] [] (Is (.agg [.b (decide (jM (lz g l (fw g l)) v i)),.i 0])):=by
 refine Yg DM ?_
 simp[DM]
 refine Yc (VM g hg l hc h0 v hv hb i i0 i1) ?_
 simp
def VJ:Wf T 24 [] [] (Is (.b true)):=by
 refine Ev.mono ZB fun r hr=>?_
 obtain⟨x,hx,hr⟩:=hr
 rw[List.mem_singleton]at hx
 subst hx
 exact⟨_,_,hr,rfl,rfl⟩
@[irreducible] def fC(d:{ d:D // closed d=true }):List D:=[d.1]
theorem J4(d:{ d:D // closed d=true }):fC d = [d.1]:=by unfold fC;rfl
instance:Fl fC 1:=⟨fun _=>by rw[J4];rfl,fun d=>by rw[J4];simp[fE,d.2]⟩
theorem Pv:∀ {xs:List D},fE xs=true→∃ L,xs=cl fC L
 | [],_=>⟨[],by simp⟩
 | d::r,h=>by
  simp only[fE,ah]at h
  obtain⟨L,e⟩:=Pv h.2
  subst e
  exact⟨⟨d,h.1⟩::L,by rw[na,J4];rfl⟩
def VI(x:oP)(hx:DF x)(a0 a1 a2:Int)(Xj:0≤a0∧a0<256)(uc:0≤a1∧a1<256)(zB:0≤a2∧a2<256):Wf T 8 [.agg x.cells,.agg [.val (.int .u8 a0),.val (.int .u8 a1),.val (.int .u8 a2)]] [] (Is (.b true)):=by
 have qj:x.cells.length=31:=by simp[oP.cells,Raw.cells,hx.len]
 have YM:fE x.cells=true:=by have:=OV x;simpa using this
 have UA:=We x hx
 generalize x.cells=xs at *
 obtain⟨L,rfl⟩:=Pv YM
 rw[sS,cI]at qj
 have vV:L.take 31=L:=ai (by omega)
 refine Yg DI ?_
 simp[DI,qj,vV]
 refine Yc (VJ) ?_
 simp
 (with_reducible repeat' first|refine Xk ?_<;>try simp[qj,vV]|refine Xs ?_ ?_<;>intro h<;>(try intro h')<;>(try simp[h,qj,vV])<;>try omega|refine Xg ?_|omega)
 simp[qj,vV]
 refine fG.q rfl rfl UA (by simp) (fun y=>by obtain⟨g,p,b,l⟩:=y;cases b<;>simp[fE]) ?_
 rintro⟨g,p,b,l⟩ ⟨hg,hp,gj⟩
 cases b
 ·simp
 dsimp only at hg hp gj
 have xy:=gj rfl
 have hc:=xy.c2
 have h0:=xy.len.1
 have h80:=xy.len.2
 have fM:=fun i i0 i1=>(o5 hc (i:=i) i0 i1).2
 simp
 refine Yq (Wh g hg l hc h0) fun y hy=>?_
 obtain⟨V,W⟩:=y
 obtain⟨ub,BL⟩:=hy
 dsimp only at ub BL
 have Qf:∀ k:Int,0≤k→k<V.length→0≤(gt V k).2∧(gt V k).2≤4000:=fun k k0 k1=>by
  have:=Z1 (A:=lz g l (fw g l)) (v:=V) (n:=l.length) fM BL (i:=k) k0 (by omega)
  omega
 have r8:fq a0 V.length=a0 % V.length:=jT Xj.1
 have zP:fq a1 3=a1 % 3:=jT uc.1
 have r9:fq a2 9=a2 % 9:=jT zB.1
 have HA:=bW a0 (b:=V.length) (by omega)
 have K1:=bS a0 (b:=V.length) (by omega)
 have Ck:IntKind.i64.wrap a0=a0:=oO jG
 have vW:IntKind.i64.wrap a1=a1:=oO jG
 have nh:IntKind.i64.wrap a2=a2:=oO jG
 simp[Ck,vW,nh,r8,zP,r9]
 (with_reducible repeat' first|refine Xk ?_<;>try simp[Ck,vW,nh,r8,zP,r9]|refine Xs ?_ ?_<;>intro h<;>(try intro h')<;>(try simp[h,Ck,vW,nh,r8,zP,r9])<;>try omega|refine Xg ?_|omega)
 have Xi:¬ V = []:=fun e=>by rw[e]at ub;simp at ub;omega
 have ho:1≤1+a1 % 3∧1+a1 % 3≤3:=by omega
 have hm:0≤a2 % 9∧a2 % 9≤8:=by omega
 with_reducible refine⟨Xi,by omega,by omega,HA,K1,by omega,?_⟩
 refine fh.st (by simp[zP,r9];rfl) ?_
 rw[JE]
 generalize 1+a1 % 3=o at *
 generalize a2 % 9=m at *
 generalize a0 % (V.length:Int)=k at *
 have zz:(pt V k (o,m)).length=l.length:=by rw[il HA K1];exact ub
 have Kv:∀ j:Int,0≤j→gt (pt V k (o,m)) j=if j=k then(o,m)else gt V j:=fun j j0=>qv HA K1 j0
 obtain⟨O,hO⟩:∃ O,pt V k (o,m)=O:=⟨_,rfl⟩
 rw[hO]at zz Kv ⊢
 have Qd:∀ j:Int,0≤j→j<O.length→0≤(gt O j).2∧(gt O j).2≤4000:=fun j j0 j1=>by
  rw[Kv j j0]
  by_cases e:j=k
  ·rw[if_pos e];dsimp only;omega
  ·rw[if_neg e];exact Qf j j0 (by omega)
 have lD:(∀ j:Int,0≤j→j<l.length→jM (lz g l (fw g l)) O j)↔gt O k=gt V k:=by
  constructor
  ·intro h
   exact Z2 (A:=lz g l (fw g l)) (S:=fun j=>0≤j∧j<l.length) (fun i hi k hk=>fM i hi.1 hi.2 k hk) (fun i hi=>h i hi.1 hi.2) (fun i hi=>BL i hi.1 hi.2) k ⟨HA,by omega⟩
  ·intro h j j0 j1
   have e:O=V:=by
    refine ct (by omega) fun q q0 q1=>?_
    have h2:gt O (q:Int)=gt V (q:Int):=by
     by_cases e:(q:Int)=k
     ·rw[e];exact h
     ·rw[Kv q (by omega),if_neg e]
    rw[kl (by omega) (by omega),kl (by omega) (by omega)]at h2
    exact h2
   rw[e];exact BL j j0 j1
 have xK:k<l.length:=by omega
 rw[ub]
 refine fh.e ((0,true):Int×Bool) (fun y=>[(5,.b true),(6,.ptr 2 0 0),(7,gS V),(8,.eX 3 1 2 0 l.length),(9,.i k),(10,.b true),(11,.b y.2),(12,.i y.1)]) (fun y=>[.row 32 0 (cl fC L),.row 75 0 [.val (.int .u8 a0),.val (.int .u8 a1),.val (.int .u8 a2)],.row 49 0 [.i g.size,.sl 1 (g.next.map fI),dI g.iT,.sl 3 (g.kinds.map Kind.cells),.i g.fH,.b g.om,dN 4 Clause.cells g.clauses,.i g.blocked,.i g.vz,dI p.cs,dI p.h0,dI p.h1,.i p.fH,.i p.side,gA l,.b true],.row 86 1 (cl fS O)]) (fun y=>(0≤y.1∧y.1≤l.length)∧(y.2=true↔∀ j:Int,0≤j→j<y.1→jM (lz g l (fw g l)) O j)) (fun y=>(l.length-y.1).toNat) ?_ ?_
 ·exact⟨by simp,by simp;intro j j0 j1;omega⟩
 rintro⟨i,b⟩ ⟨⟨i0,i1⟩,hb⟩
 dsimp only at i0 i1 hb ⊢
 by_cases hi:i<l.length
 ·have c1:=Pw g hg l hc h0 V ub Qf i i0 hi
  have c2:=Pw g hg l hc h0 O zz Qd i i0 hi
  have Qb:=BL i i0 hi
  rw[decide_eq_true Qb]at c1
  obtain⟨d,hd⟩:∃ d,decide (jM (lz g l (fw g l)) O i)=d:=⟨_,rfl⟩
  rw[hd]at c2
  have KB:(b&&d)=true↔∀ j:Int,0≤j→j<i+1→jM (lz g l (fw g l)) O j:=by
   rw[ah,hb,← hd,decide_eq_true_iff]
   constructor
   ·rintro⟨h1,h2⟩ j j0 j1
    by_cases e:j=i
    ·rw[e];exact h2
    ·exact h1 j j0 (by omega)
   ·exact fun h=>⟨fun j j0 j1=>h j j0 (by omega),h i i0 (by omega)⟩
  clear hb hd Qb
  cases b
  ·simp[hi,ub]
   refine Yt (c1) ?_
   simp
   (with_reducible repeat' first|refine Xk ?_<;>try simp|refine Xs ?_ ?_<;>intro h<;>(try intro h')<;>(try simp[h])<;>try omega|refine Xg ?_|omega)
   refine iC.r rfl rfl c2 (by simp[zz]) rfl (by simp) ?_
   simp
   (with_reducible repeat' first|refine Xk ?_<;>try simp|refine Xs ?_ ?_<;>intro h<;>(try intro h')<;>(try simp[h])<;>try omega|refine Xg ?_|omega)
   refine LJ.e (i+1,false) ?_
   exact⟨by omega,jG,by rw[← KB];simp⟩
  ·simp[hi,ub]
   refine Yt (c1) ?_
   simp
   (with_reducible repeat' first|refine Xk ?_<;>try simp|refine Xs ?_ ?_<;>intro h<;>(try intro h')<;>(try simp[h])<;>try omega|refine Xg ?_|omega)
   refine iC.r rfl rfl c2 (by simp[zz]) rfl (by simp) ?_
   simp
   (with_reducible repeat' first|refine Xk ?_<;>try simp|refine Xs ?_ ?_<;>intro h<;>(try intro h')<;>(try simp[h])<;>try omega|refine Xg ?_|omega)
   refine LJ.e (i+1,d) ?_
   exact⟨by omega,jG,by rw[← KB];simp⟩
 ·have jB:i=l.length:=by omega
  subst jB
  rw[lD]at hb
  have cr:=Wl g hg l hc h0 O zz Qd
  simp only[lD]at cr
  simp[ub]
  (with_reducible repeat' first|refine Xk ?_<;>try simp|refine Xs ?_ ?_<;>intro h<;>(try intro h')<;>(try simp[h])<;>try omega|refine Xg ?_|omega)
  refine fG.w (by simp;rfl) ?_
  refine fG.rq rfl rfl cr (by simp[zz]) (fun _=>rfl) (fun _=>by simp) ?_
  rintro n hn
  have Kw:gt O k=gt V k↔((gt O k).1=(gt V k).1∧(gt O k).2=(gt V k).2):=eT
  simp
  cases b
  ·have gE:¬ ((gt O k).1=(gt V k).1∧(gt O k).2=(gt V k).2):=fun h=>absurd (hb.2 (Kw.2 h)) (by simp)
   have n0:¬ n<0:=fun h=>gE (Kw.1 (hn.1 h))
   have hd:(decide ((gt O k).1=(gt V k).1)&&decide ((gt O k).2=(gt V k).2))=false:=by rw[← cD];exact decide_eq_false gE
   (with_reducible repeat' first|refine Xk ?_<;>try simp|refine Xs ?_ ?_<;>intro h<;>(try intro h')<;>(try simp[h])<;>try omega|refine Xg ?_|omega)
   ·simp[n0]
   ·rw[hd]at h;simp at h
  ·have e:=Kw.1 (hb.1 rfl)
   have n0:n<0:=hn.2 (hb.1 rfl)
   have e1:=e.1
   have e2:=e.2
   have hd:(decide ((gt O k).1=(gt V k).1)&&decide ((gt O k).2=(gt V k).2))=true:=by rw[← cD];exact decide_eq_true e
   (with_reducible repeat' first|refine Xk ?_<;>try simp|refine Xs ?_ ?_<;>intro h<;>(try intro h')<;>(try simp[h])<;>try omega|refine Xg ?_|omega)
   ·simp[n0]
   ·rw[hd]at h;simp at h
