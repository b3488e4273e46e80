/- Part 17 of the proof of skewer.skewerlaw15.TableRefuses. -/
import Derived.Test.YtnaefnajkaohgaaGreatDoorA16
set_option linter.all false
namespace Go.Proofs.YtnaefnajkaohgaaGreatDoor
open Go Go.AL Classical
set_option maxRecDepth 10000
set_option maxHeartbeats 1000000
theorem lessO_eq{a b:Outc}(h1:¬ lessO a b)(h2:¬ lessO b a):a=b:=by
 unfold lessO at *
 have e:=cmpP_swap a.p b.p
 have h:cmpP a.p b.p=0:=by
  by_cases h:cmpP a.p b.p=0
  ·exact h
  ·exfalso
   by_cases h3:cmpP a.p b.p<0
   ·exact h1 (.inl h3)
   ·exact h2 (.inl (by omega))
 have h':cmpP b.p a.p=0:=by omega
 simp[h,h']at h1 h2
 have:=cmpP_zero.1 h
 cases a;cases b
 simp_all
 rename_i x y _
 cases x<;>cases y<;>simp_all
structure InsI(l:List Outc)(x:Outc)(i:Int)(d:Bool)(out:List Outc):Prop where
 i0:0≤i∧i≤l.length
 dn:d=true→x∈out
 sub:∀ o∈out,o∈l.take i.toNat∨o=x
 sup:∀ o∈l.take i.toNat,o∈out
 len:out.length≤i.toNat+(if d then 1 else 0)
theorem InsI.step{l:List Outc}{x:Outc}{i:Int}{d d':Bool}{out:List Outc}(h:InsI l x i d out)(hi:i<l.length)(xs:List Outc)(hx:∀ o∈xs,o=x)(hd:d'=true→d=true∨x∈xs∨gt l i=x)(hl:xs.length+(if d then 1 else 0)≤(if d' then 1 else 0)):InsI l x (i+1) d' (out++xs ++ [gt l i]):=by
 have h0:=h.i0
 refine⟨by omega,fun e=>?_,fun o ho=>?_,fun o ho=>?_,?_⟩
 ·rcases hd e with e|e|e
  ·have:=h.dn e;simp[this]
  ·simp[e]
  ·simp[e]
 ·rw[take_gt h0.1 hi]
  simp at ho ⊢
  rcases ho with ho|ho|ho
  ·rcases h.sub o ho with h|h
   ·exact .inl (.inl h)
   ·exact .inr h
  ·exact .inr (hx o ho)
  ·exact .inl (.inr ho)
 ·rw[take_gt h0.1 hi]at ho
  simp at ho ⊢
  rcases ho with ho|ho
  ·exact .inl (h.sup o ho)
  ·exact .inr (.inr ho)
 ·have:=h.len
  simp
  omega
theorem f195(l:List Outc)(x:Outc)(hl:l.length<2 ^ 39)(hs:∀ o∈l,Small o.p)(hx:Small x.p):Wf T 195 [dOut l,.agg x.cells] [] (Ex dOut fun r=>(∀ o,o∈r↔o∈l∨o=x)∧r.length≤l.length+1):=by
 refine Wf.x (fn:=F195) rfl (by simp[F195]) ?_
 simp[F195]
 refine XLoop.e ((0,false,[]):Int×Bool×List Outc) (fun y=>[(0,dOut l),(3,.ptr 0 0 0),(5,.osl 1 y.2.2.length 6 0 y.2.2.length),(6,.b y.2.1),(7,.i y.1)]) (fun y=>[.row 113 0 x.cells,.row 113 y.2.2.length (cl Outc.cells y.2.2)]) (fun y=>InsI l x y.1 y.2.1 y.2.2) (fun y=>l.length-y.1.toNat) ?_ ?_
 ·exact⟨by simp,by simp,by simp,by simp,by simp⟩
 rintro⟨i,done,out⟩ hI
 have h0:=hI.i0
 have h5:=hI.len
 have h6:(if done=true then 1 else 0)≤1:=by split<;>omega
 dsimp only at hI h0 h5 ⊢
 simp
 (with_reducible repeat' first|(first|refine Xy ?_|refine Xz ?_|refine Xu ?_|refine Xv ?_)<;>try simp|(first|refine Xa (fun h h'=>?_) (fun h=>?_)|(first|refine Xd ?_ ?_|refine Xo ?_ ?_|refine Xb ?_ ?_)<;>intro h)<;>(try simp[h])<;>(try (exfalso;omega))|refine Xg ?_|omega)
 ·refine LJ.e (i+1,true,out ++ [gt l i]) ?_
  subst h
  have:=hI.step ‹_› [] (d':=true) (by simp) (by simp) (by simp)
  simp at this
  exact⟨by simp;omega,this⟩
 ·have hd:=h
  refine XTCall.c rfl rfl (f229 _ _ (hs _ (gt_mem h0.1 ‹_›)) hx) (by simp) (by simp) ?_
  simp[h]
  (with_reducible repeat' first|(first|refine Xy ?_|refine Xz ?_|refine Xu ?_|refine Xv ?_)<;>try simp[hd]|(first|refine Xa (fun h h'=>?_) (fun h=>?_)|(first|refine Xd ?_ ?_|refine Xo ?_ ?_|refine Xb ?_ ?_)<;>intro h)<;>(try simp[h,hd])<;>(try (exfalso;omega))|refine Xg ?_|omega)
  ·subst hd
   have:=hI.step ‹_› [] (d':=false) (by simp) (by simp) (by simp)
   simp at this
   refine LJ.e (i+1,false,out ++ [gt l i]) ?_
   exact⟨by simp;omega,this⟩
  ·refine XTCall.c rfl rfl (f229 _ _ hx (hs _ (gt_mem h0.1 ‹_›))) (by simp) (by simp) ?_
   simp[hd]
   (with_reducible repeat' first|(first|refine Xy ?_|refine Xz ?_|refine Xu ?_|refine Xv ?_)<;>try simp[hd]|(first|refine Xa (fun h h'=>?_) (fun h=>?_)|(first|refine Xd ?_ ?_|refine Xo ?_ ?_|refine Xb ?_ ?_)<;>intro h)<;>(try simp[h,hd])<;>(try (exfalso;omega))|refine Xg ?_|omega)
   ·subst hd
    have:=hI.step ‹_› [x] (d':=true) (by simp) (by simp) (by simp)
    refine LJ.e (i+1,true,out ++ [x] ++ [gt l i]) ?_
    exact⟨by simp;omega,this⟩
   ·subst hd
    have e:=lessO_eq (a:=gt l i) (b:=x) ‹_› ‹_›
    have:=hI.step ‹_› [] (d':=true) (by simp) (by simp[e]) (by simp)
    simp at this
    refine LJ.e (i+1,true,out ++ [gt l i]) ?_
    exact⟨by simp;omega,this⟩
 ·subst h
  have h3:=hI.sub
  have h4:=hI.sup
  rw[take_all (by omega)]at h3 h4
  refine⟨out,rfl,fun o=>⟨h3 o,fun h=>?_⟩,by simp at h5;omega⟩
  rcases h with h|h
  ·exact h4 o h
  ·rw[h];exact hI.dn rfl
 ·subst h
  have h3:=hI.sub
  have h4:=hI.sup
  rw[take_all (by omega)]at h3 h4
  refine⟨out ++ [x],by simp[dOut],fun o=>?_,by simp at h5;simp;omega⟩
  simp
  constructor
  ·rintro(h|h)
   ·exact h3 o h
   ·exact .inr h
  ·rintro(h|h)
   ·exact .inl (h4 o h)
   ·exact .inr h
theorem last_mem{g:Game}:∀ {l:List Stp} {now:List Sta} {t:Sta},t∈gt (now::stepsL g l now) l.length↔t∈runL g l now
 | [],now,t=>by simp[stepsL,runL,gt]
 | x::r,now,t=>by
  have e:gt (now::stepsL g (x::r) now) (x::r).length=gt (nextL g x now::stepsL g r (nextL g x now)) r.length:=by
   rw[stepsL]
   unfold gt
   simp only[List.length_cons,Int.toNat_natCast,List.getD_cons_succ]
  rw[e,last_mem,runL]
  exact runL_congr (fun s=>nextL_mem) t
theorem last_len{g:Game}:∀ {l:List Stp} {now:List Sta},(gt (now::stepsL g l now) l.length).length≤10 ^ l.length*now.length
 | [],now=>by simp[stepsL,gt]
 | x::r,now=>by
  have e:gt (now::stepsL g (x::r) now) (x::r).length=gt (nextL g x now::stepsL g r (nextL g x now)) r.length:=by
   rw[stepsL]
   unfold gt
   simp only[List.length_cons,Int.toNat_natCast,List.getD_cons_succ]
  rw[e]
  refine Nat.le_trans last_len ?_
  rw[List.length_cons,Nat.pow_succ,Nat.mul_assoc]
  exact Nat.mul_le_mul_left _ nextL_len
theorem f154(g:Game)(hg:GameOK g)(p:Pos)(hp:PosOK g p)(c i:Int)(hc:0≤c∧c<g.size)(hm:manS (gt p.cs c)=p.side)(hi:0≤i∧i<(gt g.kinds (manK (gt p.cs c))).progs.length) :
  Wf T 154 [dG g,dP p,.i c,.i i] [] (Ex (fun r=>.tup [dOut r,.i 0]) fun r=>(∀ o,o∈r↔o∈outs1 g p c (gt (gt g.kinds (manK (gt p.cs c))).progs i))∧r.length≤10 ^ 8):=by
 have hcs:=hp.cs _ (gt_mem hc.1 (by have:=hp.size;omega))
 have hsd:=hp.side
 obtain⟨m1,m2,m3,m4⟩:=manS_side hsd.1 hm
 have hk:manK (gt p.cs c)<g.kinds.length:=manK_le hcs.2 hg.kinds.1
 have hst:StaOK g (startS p c):=startS_ok hg hp hc.1 hc.2 hm
 have hprog:=hg.progs _ (gt_mem (l:=g.kinds) m1 hk)
 have c1:=f194 g hg p hp c i hc hm hi
 generalize hpr:gt (gt g.kinds (manK (gt p.cs c))).progs i=prog at *
 have hpok:ProgOK g prog:=hprog.2 _ (hpr▸gt_mem hi.1 hi.2)
 have hp8:=hpok.len
 have hlm:∀ t,t∈gt ([startS p c]::stepsL g prog [startS p c]) prog.length↔t∈runL g prog [startS p c]:=fun t=>last_mem
 have hll:=last_len (g:=g) (l:=prog) (now:=[startS p c])
 have h8:10 ^ prog.length≤10 ^ 8:=Nat.pow_le_pow_right (by decide) hp8.2
 have hsl:=stepsL_len (g:=g) (l:=prog) (now:=[startS p c])
 generalize hS : [startS p c]::stepsL g prog [startS p c]=S at *
 have hSl:S.length=prog.length+1:=by rw[← hS];simp[hsl]
 refine Wf.xz (fn:=F154) (F154.own) (insB 70 [5] F154.body) rfl (by simp[F154]) (by simp only[unfz_ins,unfz_insC];exact unfz_no rfl) ?_
 simp[F154,insB,insC,befK,froK,hasK,headIs]
 refine XCall.c rfl rfl (c1) (by simp) (by simp) ?_
 simp
 (with_reducible repeat' first|(first|refine Xy ?_|refine Xz ?_|refine Xu ?_|refine Xv ?_)<;>try simp[fA_def]|(first|refine Xa (fun h h'=>?_) (fun h=>?_)|(first|refine Xd ?_ ?_|refine Xo ?_ ?_|refine Xb ?_ ?_)<;>intro h)<;>(try simp[h,fA_def])<;>(try (exfalso;omega))|refine Xg ?_|omega)
 rw[show(S.length:Int)-1=prog.length by omega]
 generalize gt S (prog.length:Int)=L at *
 have hok:∀ s∈L,StaOK g s:=fun s hs=>runL_ok hg hpok.steps (fun t ht=>by rw[List.mem_singleton]at ht;subst ht;exact hst) s ((hlm s).1 hs)
 have hL8:L.length≤100000000:=by simp at hll;omega
 simp[fA_def]
 (with_reducible repeat' first|(first|refine Xy ?_|refine Xz ?_|refine Xu ?_|refine Xv ?_)<;>try simp|(first|refine Xa (fun h h'=>?_) (fun h=>?_)|(first|refine Xd ?_ ?_|refine Xo ?_ ?_|refine Xb ?_ ?_)<;>intro h)<;>(try simp[h])<;>(try (exfalso;omega))|refine Xg ?_|omega)
 refine XLoop.fz [0,2,3] rfl ?_
 refine XLoop.e ((0,[]):Int×List Outc) (fun y=>[(5,.ptr 1 0 0),(11,dOut y.2),(12,dSt L),(13,.i y.1)]) (fun y=>[.dead,.row 44 0 p.cells,.dead,.dead]) (fun y=>0≤y.1∧y.1≤L.length∧(∀ o,o∈y.2↔o∈(L.take y.1.toNat).filterMap (finS p.side))∧y.2.length≤y.1.toNat) (fun y=>L.length-y.1.toNat) ?_ ?_
 ·simp
 rintro⟨j,out⟩ ⟨j0,j1,j2,j3⟩
 dsimp only at j0 j1 j2 j3 ⊢
 simp
 (with_reducible repeat' first|(first|refine Xy ?_|refine Xz ?_|refine Xu ?_|refine Xv ?_)<;>try simp|(first|refine Xa (fun h h'=>?_) (fun h=>?_)|(first|refine Xd ?_ ?_|refine Xo ?_ ?_|refine Xb ?_ ?_)<;>intro h)<;>(try simp[h])<;>(try (exfalso;omega))|refine Xg ?_|omega)
 ·have hs:=hok _ (gt_mem j0 ‹_›)
  have hss:=hs.p.small hg
  have hz:=hs.p.size
  have hcu:=hs.cur
  have hki:=hs.kind
  have hk2:=hg.kinds
  generalize hgs:gt L j=s at *
  (with_reducible repeat' first|(first|refine Xy ?_|refine Xz ?_|refine Xu ?_|refine Xv ?_)<;>try simp|(first|refine Xa (fun h h'=>?_) (fun h=>?_)|(first|refine Xd ?_ ?_|refine Xo ?_ ?_|refine Xb ?_ ?_)<;>intro h)<;>(try simp[h])<;>(try (exfalso;omega))|refine Xg ?_|omega)
  ·have q:=pt_len (l:=s.p.cs) (n:=s.cur) (v:=1+2*s.kind+p.side) hcu.1 (by omega)
   refine XCall.n rfl rfl (f155a s.p hss) (by simp) (by simp) ?_
   simp
   refine XTCall.c rfl rfl (f156 (k:=s.kind) (s:=p.side) hki.1 (by omega) hsd.1 hsd.2) (by simp) (by simp) ?_
   simp[q]
   (with_reducible repeat' first|(first|refine Xy ?_|refine Xz ?_|refine Xu ?_|refine Xv ?_)<;>try simp[q]|(first|refine Xa (fun h h'=>?_) (fun h=>?_)|(first|refine Xd ?_ ?_|refine Xo ?_ ?_|refine Xb ?_ ?_)<;>intro h)<;>(try simp[h,q])<;>(try (exfalso;omega))|refine Xg ?_|omega)
   generalize ho:({ p:=⟨pt s.p.cs s.cur (1+2*s.kind+p.side),s.p.h0,s.p.h1,s.p.rights,1-p.side⟩,took:=s.took }:Outc)=o
   have ho2:finS p.side s=some o:=by rw[finS,if_pos ‹_›,← ho];rfl
   have hos:Small o.p:=PosOK.small hg (finS_ok hs hsd.1 hsd.2 ho2)
   have hsm:∀ o∈out,Small o.p:=fun o ho=>by
    obtain⟨t,ht,h3⟩:=List.mem_filterMap.1 ((j2 o).1 ho)
    exact PosOK.small hg (finS_ok (hok t (List.mem_of_mem_take ht)) hsd.1 hsd.2 h3)
   have c2:=f195 out o (by omega) hsm hos
   rw[← ho]at c2
   refine XCall.q rfl rfl c2 (by simp) (fun _=>by simp) ?_
   intro r hr
   simp
   rw[ho]at hr
   (with_reducible repeat' first|(first|refine Xy ?_|refine Xz ?_|refine Xu ?_|refine Xv ?_)<;>try simp|(first|refine Xa (fun h h'=>?_) (fun h=>?_)|(first|refine Xd ?_ ?_|refine Xo ?_ ?_|refine Xb ?_ ?_)<;>intro h)<;>(try simp[h])<;>(try (exfalso;omega))|refine Xg ?_|omega)
   refine LJ.e (j+1,r) ?_
   refine⟨by dsimp only;omega,by dsimp only;omega,by dsimp only;omega,fun x=>?_,by dsimp only;omega⟩
   rw[hr.1,j2,take_gt j0 ‹_›,hgs]
   simp[ho2,eq_comm]
  ·(with_reducible repeat' first|(first|refine Xy ?_|refine Xz ?_|refine Xu ?_|refine Xv ?_)<;>try simp|(first|refine Xa (fun h h'=>?_) (fun h=>?_)|(first|refine Xd ?_ ?_|refine Xo ?_ ?_|refine Xb ?_ ?_)<;>intro h)<;>(try simp[h])<;>(try (exfalso;omega))|refine Xg ?_|omega)
   refine LJ.e (j+1,out) ?_
   refine⟨by dsimp only;omega,by dsimp only;omega,by dsimp only;omega,fun x=>?_,by dsimp only;omega⟩
   rw[j2,take_gt j0 ‹_›,hgs]
   have:finS p.side s=none:=by rw[finS,if_neg ‹_›]
   simp[this]
 ·rw[take_all (by omega)]at j2
  refine⟨out,rfl,fun o=>?_,?_⟩
  ·rw[j2,outs1]
   simp only[List.mem_filterMap,hlm]
  ·omega
end Go.Proofs.YtnaefnajkaohgaaGreatDoor
