/- Part 13 of the proof of skewer.skewerlaw15.TableAgain. -/
import Derived.Test.YtnaefnajkaohgaaGreatDoorD12
set_option linter.all false
namespace Go.Proofs.YtnaefnajkaohgaaGreatDoor
open Go Go.AL Classical
set_option maxRecDepth 10000
set_option maxHeartbeats 1000000
theorem Ws{a b:fq}(h1:¬ As a b)(h2:¬ As b a):a=b:=by
 unfold As at *
 have e:=qc a.p b.p
 have h:gd a.p b.p=0:=by
  by_cases h:gd a.p b.p=0
  ·exact h
  ·exfalso
   by_cases h3:gd a.p b.p<0
   ·exact h1 (.inl h3)
   ·exact h2 (.inl (by omega))
 have h':gd b.p a.p=0:=by omega
 simp[h,h']at h1 h2
 have:=nJ.1 h
 cases a;cases b
 simp_all
 rename_i x y _
 cases x<;>cases y<;>simp_all
structure Dw(l:List fq)(x:fq)(i:Int)(d:Bool)(out:List fq):Prop where
 i0:0≤i∧i≤l.length
 dn:d=true→x∈out
 sub:∀ o∈out,o∈l.take i.toNat∨o=x
 sup:∀ o∈l.take i.toNat,o∈out
 len:out.length≤i.toNat+(if d then 1 else 0)
theorem Dw.step{l:List fq}{x:fq}{i:Int}{d d':Bool}{out:List fq}(h:Dw l x i d out)(hi:i<l.length)(xs:List fq)(hx:∀ o∈xs,o=x)(hd:d'=true→d=true∨x∈xs∨gt l i=x)(hl:xs.length+(if d then 1 else 0)≤(if d' then 1 else 0)):Dw l x (i+1) d' (out++xs ++ [gt l i]):=by
 have h0:=h.i0
 refine⟨by omega,fun e=>?_,fun o ho=>?_,fun o ho=>?_,?_⟩
 ·rcases hd e with e|e|e
  ·have:=h.dn e;simp[this]
  ·simp[e]
  ·simp[e]
 ·rw[gx h0.1 hi]
  simp at ho ⊢
  rcases ho with ho|ho|ho
  ·rcases h.sub o ho with h|h
   ·exact .inl (.inl h)
   ·exact .inr h
  ·exact .inr (hx o ho)
  ·exact .inl (.inr ho)
 ·rw[gx h0.1 hi]at ho
  simp at ho ⊢
  rcases ho with ho|ho
  ·exact .inl (h.sup o ho)
  ·exact .inr (.inr ho)
 ·have:=h.len
  simp
  omega
theorem f195(l:List fq)(x:fq)(hl:l.length<2 ^ 39)(hs:∀ o∈l,Small o.p)(hx:Small x.p):Wf T 195 [lj l,.agg x.cells] [] (Ex lj fun r=>(∀ o,o∈r↔o∈l∨o=x)∧r.length≤l.length+1):=by
 refine Yg Cm ?_
 simp[Cm]
 refine eW.e ((0,false,[]):Int×Bool×List fq) (fun y=>[(0,lj l),(3,.ptr 0 0 0),(5,.eN 1 y.2.2.length 6 0 y.2.2.length),(6,.b y.2.1),(7,.i y.1)]) (fun y=>[.row 113 0 x.cells,.row 113 y.2.2.length (cl fq.cells y.2.2)]) (fun y=>Dw l x y.1 y.2.1 y.2.2) (fun y=>l.length-y.1.toNat) ?_ ?_
 ·exact⟨by simp,by simp,by simp,by simp,by simp⟩
 rintro⟨i,done,out⟩ hI
 have h0:=hI.i0
 have h5:=hI.len
 have h6:(if done=true then 1 else 0)≤1:=by split<;>omega
 dsimp only at hI h0 h5 ⊢
 simp
 (with_reducible repeat' first|refine Xk ?_<;>try simp|refine Xs ?_ ?_<;>intro h<;>(try intro h')<;>(try simp[h])<;>(try omega)|refine Xg ?_|omega)
 ·refine LJ.e (i+1,true,out ++ [gt l i]) ?_
  subst h
  have:=hI.step ‹_› [] (d':=true) (by simp) (by simp) (by simp)
  simp at this
  exact⟨by simp;omega,this⟩
 ·have hd:=h
  refine Yt (f229 _ _ (hs _ (eY h0.1 ‹_›)) hx) ?_
  simp[h]
  (with_reducible repeat' first|refine Xk ?_<;>try simp[hd]|refine Xs ?_ ?_<;>intro h<;>(try intro h')<;>(try simp[h,hd])<;>(try omega)|refine Xg ?_|omega)
  ·subst hd
   have:=hI.step ‹_› [] (d':=false) (by simp) (by simp) (by simp)
   simp at this
   refine LJ.e (i+1,false,out ++ [gt l i]) ?_
   exact⟨by simp;omega,this⟩
  ·refine Yt (f229 _ _ hx (hs _ (eY h0.1 ‹_›))) ?_
   simp[hd]
   (with_reducible repeat' first|refine Xk ?_<;>try simp[hd]|refine Xs ?_ ?_<;>intro h<;>(try intro h')<;>(try simp[h,hd])<;>(try omega)|refine Xg ?_|omega)
   ·subst hd
    have:=hI.step ‹_› [x] (d':=true) (by simp) (by simp) (by simp)
    refine LJ.e (i+1,true,out ++ [x] ++ [gt l i]) ?_
    exact⟨by simp;omega,this⟩
   ·subst hd
    have e:=Ws (a:=gt l i) (b:=x) ‹_› ‹_›
    have:=hI.step ‹_› [] (d':=true) (by simp) (by simp[e]) (by simp)
    simp at this
    refine LJ.e (i+1,true,out ++ [gt l i]) ?_
    exact⟨by simp;omega,this⟩
 ·subst h
  have h3:=hI.sub
  have h4:=hI.sup
  rw[jg (by omega)]at h3 h4
  refine⟨out,rfl,fun o=>⟨h3 o,fun h=>?_⟩,by simp at h5;omega⟩
  rcases h with h|h
  ·exact h4 o h
  ·rw[h];exact hI.dn rfl
 ·subst h
  have h3:=hI.sub
  have h4:=hI.sup
  rw[jg (by omega)]at h3 h4
  refine⟨out ++ [x],by simp[lj],fun o=>?_,by simp at h5;simp;omega⟩
  simp
  constructor
  ·rintro(h|h)
   ·exact h3 o h
   ·exact .inr h
  ·rintro(h|h)
   ·exact .inl (h4 o h)
   ·exact .inr h
theorem Oy{g:eO}:∀ {l:List eT} {now:List eV} {t:eV},t∈gt (now::mg g l now) l.length↔t∈nX g l now
 | [],now,t=>by simp[mg,nX,gt]
 | x::r,now,t=>by
  have e:gt (now::mg g (x::r) now) (x::r).length=gt (lO g x now::mg g r (lO g x now)) r.length:=by
   rw[mg]
   unfold gt
   simp only[aJ,dX,List.getD_cons_succ]
  rw[e,Oy,nX]
  exact P7 (fun s=>FL) t
theorem Ox{g:eO}:∀ {l:List eT} {now:List eV},(gt (now::mg g l now) l.length).length≤10 ^ l.length*now.length
 | [],now=>by simp[mg,gt]
 | x::r,now=>by
  have e:gt (now::mg g (x::r) now) (x::r).length=gt (lO g x now::mg g r (lO g x now)) r.length:=by
   rw[mg]
   unfold gt
   simp only[aJ,dX,List.getD_cons_succ]
  rw[e]
  refine Nat.le_trans Ox ?_
  rw[aJ,dH,eI]
  exact dK _ AE
theorem f154(g:eO)(hg:fi g)(p:Pos)(hp:fF g p)(c i:Int)(hc:0≤c∧c<g.size)(hm:iu (gt p.cs c)=p.side)(hi:0≤i∧i<(gt g.kinds (ff (gt p.cs c))).gu.length) :
  Wf T 154 [dG g,dP p,.i c,.i i] [] (Ex (fun r=>.tup [lj r,.i 0]) fun r=>(∀ o,o∈r↔o∈pT g p c (gt (gt g.kinds (ff (gt p.cs c))).gu i))∧r.length≤10 ^ 8):=by
 have gQ:=hp.cs _ (eY hc.1 (by have:=hp.size;omega))
 have gA:=hp.side
 obtain⟨m1,m2,m3,m4⟩:=vJ gA.1 hm
 have hk:ff (gt p.cs c)<g.kinds.length:=ru gQ.2 hg.kinds.1
 have eX:ix g (iY p c):=x7 hg hp hc.1 hc.2 hm
 have IP:=hg.gu _ (eY (l:=g.kinds) m1 hk)
 have c1:=f194 g hg p hp c i hc hm hi
 generalize k8:gt (gt g.kinds (ff (gt p.cs c))).gu i=prog at *
 have vD:rM g prog:=IP.2 _ (k8▸eY hi.1 hi.2)
 have NM:=vD.len
 have qk:∀ t,t∈gt ([iY p c]::mg g prog [iY p c]) prog.length↔t∈nX g prog [iY p c]:=fun t=>Oy
 have xh:=Ox (g:=g) (l:=prog) (now:=[iY p c])
 have h8:10 ^ prog.length≤10 ^ 8:=cp (by decide) NM.2
 have NV:=Qq (g:=g) (l:=prog) (now:=[iY p c])
 generalize hS : [iY p c]::mg g prog [iY p c]=S at *
 have hSl:S.length=prog.length+1:=by rw[← hS];simp[NV]
 refine Yz yn (gH 70 [5] yn.body) ?_
 simp[yn,gH,iJ,kU,kX,lr,jN]
 refine Yc (c1) ?_
 simp
 (with_reducible repeat' first|refine Xk ?_<;>try simp[uZ]|refine Xs ?_ ?_<;>intro h<;>(try intro h')<;>(try simp[h,uZ])<;>(try omega)|refine Xg ?_|omega)
 rw[show(S.length:Int)-1=prog.length by omega]
 generalize gt S (prog.length:Int)=L at *
 have eR:∀ s∈L,ix g s:=fun s hs=>Gc hg vD.steps (fun t ht=>by rw[List.mem_singleton]at ht;subst ht;exact eX) s ((qk s).1 hs)
 have hL8:L.length≤100000000:=by simp at xh;omega
 simp[uZ]
 (with_reducible repeat' first|refine Xk ?_<;>try simp|refine Xs ?_ ?_<;>intro h<;>(try intro h')<;>(try simp[h])<;>(try omega)|refine Xg ?_|omega)
 refine eW.fz [0,2,3] rfl ?_
 refine eW.e ((0,[]):Int×List fq) (fun y=>[(5,.ptr 1 0 0),(11,lj y.2),(12,iH L),(13,.i y.1)]) (fun y=>[.dead,.row 44 0 p.cells,.dead,.dead]) (fun y=>0≤y.1∧y.1≤L.length∧(∀ o,o∈y.2↔o∈(L.take y.1.toNat).filterMap (ln p.side))∧y.2.length≤y.1.toNat) (fun y=>L.length-y.1.toNat) ?_ ?_
 ·simp
 rintro⟨j,out⟩ ⟨j0,j1,j2,j3⟩
 dsimp only at j0 j1 j2 j3 ⊢
 simp
 (with_reducible repeat' first|refine Xk ?_<;>try simp|refine Xs ?_ ?_<;>intro h<;>(try intro h')<;>(try simp[h])<;>(try omega)|refine Xg ?_|omega)
 ·have hs:=eR _ (eY j0 ‹_›)
  have tS:=hs.p.small hg
  have hz:=hs.p.size
  have TV:=hs.cur
  have Um:=hs.kind
  have jk:=hg.kinds
  generalize Nx:gt L j=s at *
  (with_reducible repeat' first|refine Xk ?_<;>try simp|refine Xs ?_ ?_<;>intro h<;>(try intro h')<;>(try simp[h])<;>(try omega)|refine Xg ?_|omega)
  ·have q:=gC (l:=s.p.cs) (n:=s.cur) (v:=1+2*s.kind+p.side) TV.1 (by omega)
   refine Yn (MD s.p tS) ?_
   simp
   refine Yt (f156 (k:=s.kind) (s:=p.side) Um.1 (by omega) gA.1 gA.2) ?_
   simp[q]
   (with_reducible repeat' first|refine Xk ?_<;>try simp[q]|refine Xs ?_ ?_<;>intro h<;>(try intro h')<;>(try simp[h,q])<;>(try omega)|refine Xg ?_|omega)
   generalize ho:({ p:=⟨pt s.p.cs s.cur (1+2*s.kind+p.side),s.p.h0,s.p.h1,s.p.fg,1-p.side⟩,ig:=s.ig }:fq)=o
   have gi:ln p.side s=some o:=by rw[ln,if_pos ‹_›,← ho];rfl
   have nN:Small o.p:=fF.small hg (Eg hs gA.1 gA.2 gi)
   have jl:∀ o∈out,Small o.p:=fun o ho=>by
    obtain⟨t,ht,h3⟩:=bS.1 ((j2 o).1 ho)
    exact fF.small hg (Eg (eR t (aM ht)) gA.1 gA.2 h3)
   have c2:=f195 out o (by omega) jl nN
   rw[← ho]at c2
   refine fr.q rfl rfl c2 (by simp) (fun _=>by simp) ?_
   intro r hr
   simp
   rw[ho]at hr
   (with_reducible repeat' first|refine Xk ?_<;>try simp|refine Xs ?_ ?_<;>intro h<;>(try intro h')<;>(try simp[h])<;>(try omega)|refine Xg ?_|omega)
   refine LJ.e (j+1,r) ?_
   refine⟨by dsimp only;omega,by dsimp only;omega,by dsimp only;omega,fun x=>?_,by dsimp only;omega⟩
   rw[hr.1,j2,gx j0 ‹_›,Nx]
   simp[gi,eq_comm]
  ·(with_reducible repeat' first|refine Xk ?_<;>try simp|refine Xs ?_ ?_<;>intro h<;>(try intro h')<;>(try simp[h])<;>(try omega)|refine Xg ?_|omega)
   refine LJ.e (j+1,out) ?_
   refine⟨by dsimp only;omega,by dsimp only;omega,by dsimp only;omega,fun x=>?_,by dsimp only;omega⟩
   rw[j2,gx j0 ‹_›,Nx]
   have:ln p.side s=none:=by rw[ln,if_neg ‹_›]
   simp[this]
 ·rw[jg (by omega)]at j2
  refine⟨out,rfl,fun o=>?_,?_⟩
  ·rw[j2,pT]
   simp only[bS,qk]
  ·omega
