/- Part 42 of DisputeLocal. -/
import Derived.Test.YtmehofoficaelaaGreatDoorL41
set_option linter.all false
namespace Go.Proofs.YtmehofoficaelaaGreatDoor
open Go Go.AL Classical
set_option maxRecDepth 10000
set_option maxHeartbeats 8000000
def Wm(g:eY)(hg:gh g)(p:Pos)(hp:gG g p):Wf T 51 [dG g,dP p,.i 40] [] (Ey (fun x:Bool×List Pos=>.agg [if x.1 then gA x.2 else .eU,.i (if x.1 then 0 else 2)]) (fun x=>x.1=true→DG g x.2)):=by
 have jR:=hp.small hg
 refine Yz AT (jJ 62 [6,7] (iu 34 [5] AT.body)) ?_
 simp[AT,iu,jJ,mj,mn,mG,ln]
 refine fh.fz [3,4] rfl ?_
 refine fh.e (([p],[p]):List Pos×List Pos) (fun y=>[(2,.i 40),(3,.ptr 0 0 0),(6,.ptr 2 0 0),(7,gA y.1),(8,gA y.2)]) (fun y=>[.row 43 0 g.cells,.row 46 0 p.cells,.row 123 0 [.eU,.i 0],.dead,.dead]) (fun y=>Gj g p y.1 y.2) (fun y=>(81-y.1.length)*2+(if y.2 = []then 0 else 1)) ?_ ?_
 ·refine⟨fun i h1 h2=>by simp at h2;omega,by simpa using hp,by simp,by simp,by simp,by simp,by simp⟩
 rintro⟨all,last⟩ hI
 have ji:=hI.len
 have iZ:=hI.ZR
 dsimp only at hI ji iZ ⊢
 simp
 (with_reducible repeat' first|refine Xk ?_<;>try simp|refine Xs ?_ ?_<;>intro h<;>(try intro h')<;>(try simp[h])<;>try omega|refine Xg ?_|omega)
 ·refine fh.e ((0,0,[]):Int×Nat×List Pos) (fun y=>[(2,.i 40),(3,.ptr 0 0 0),(6,.ptr 2 0 0),(7,gA all),(8,gA last),(9,.eX 5 y.2.1 5 0 y.2.2.length),(10,.i y.1)]) (fun y=>[.row 43 0 g.cells,.row 46 0 p.cells,.row 123 0 [.eU,.i 0],.dead,.dead,.row 46 y.2.1 (cl Pos.cells y.2.2)]) (fun y=>0≤y.1∧y.1≤last.length∧(∀ m,m∈y.2.2↔∃ q∈last.take y.1.toNat,pa g q m)∧y.2.2.length≤y.1.toNat*4000000000) (fun y=>last.length-y.1.toNat) ?_ ?_
  ·simp
  rintro⟨i,gn,nx⟩ ⟨i0,i1,i2,i3⟩
  dsimp only at i0 i1 i2 i3 ⊢
  simp
  (with_reducible repeat' first|refine Xk ?_<;>try simp|refine Xs ?_ ?_<;>intro h<;>(try intro h')<;>(try simp[h])<;>try omega|refine Xg ?_|omega)
  ·have hq:=hI.ok _ (hI.sub _ (ft i0 ‹_›))
   have QH:=wi hg hq
   refine Yt (f60 g hg _ hq) ?_
   simp
   (with_reducible repeat' first|refine Xk ?_<;>try simp|refine Xs ?_ ?_<;>intro h<;>(try intro h')<;>(try simp[h])<;>try omega|refine Xg ?_|omega)
   refine LJ.e (i+1,gn+1,nx++ig g (gt last i)) ?_
   dsimp only
   refine⟨by omega,by omega,by omega,fun m=>?_,?_⟩
   ·rw[List.mem_append,i2,yd,iD i0 ‹_›]
    simp only[List.mem_append,List.mem_singleton]
    constructor
    ·rintro(⟨q,a,b⟩|a)
     ·exact⟨q,.inl a,b⟩
     ·exact⟨_,.inr rfl,a⟩
    ·rintro⟨q,a|rfl,b⟩
     ·exact .inl ⟨q,a,b⟩
     ·exact .inr b
   ·rw[az,show(i+1).toNat=i.toNat+1 by omega,bR]
    omega
  ·rw[ky (by omega)]at i2
   have HE:∀ q∈nx,gG g q:=fun q hq=>by
    obtain⟨r,hr,hm⟩:=(i2 q).1 hq
    exact Mi hg (hI.ok r (hI.sub r hr)) hm
   refine Yc (PD nx (by omega) (fun q hq=>(HE q hq).small hg)) ?_
   simp
   have qf:=IW nx
   have pL:=kc.nodup (yE nx)
   have YA:∀ q,q∈jL nx↔∃ r∈last,pa g r q:=fun q=>by rw[sB,i2]
   have QM:∀ q∈jL nx,Small q:=fun q hq=>(HE q (sB.1 hq)).small hg
   generalize hN:jL nx=N at *
   refine fh.e ((0,0,[]):Int×Nat×List Pos) (fun y=>[(2,.i 40),(3,.ptr 0 0 0),(6,.ptr 2 0 0),(7,gA all),(8,.eX 6 y.2.1 5 0 y.2.2.length),(9,gA N),(11,.i y.1)]) (fun y=>[.row 43 0 g.cells,.row 46 0 p.cells,.row 123 0 [.eU,.i 0],.dead,.dead,.dead,.row 46 y.2.1 (cl Pos.cells y.2.2)]) (fun y=>0≤y.1∧y.1≤N.length∧(∀ m,m∈y.2.2↔m∈N.take y.1.toNat∧m ∉ all)∧y.2.2.Nodup∧y.2.2.length≤y.1.toNat) (fun y=>N.length-y.1.toNat) ?_ ?_
   ·simp
   rintro⟨j,gm,l'⟩ ⟨j0,j1,j2,j3,j4⟩
   dsimp only at j0 j1 j2 j3 j4 ⊢
   simp
   (with_reducible repeat' first|refine Xk ?_<;>try simp|refine Xs ?_ ?_<;>intro h<;>(try intro h')<;>(try simp[h])<;>try omega|refine Xg ?_|omega)
   ·refine Yc (f27 all (gt N j) (by omega) (fun q hq=>(hI.ok q hq).small hg) (QM _ (ft j0 ‹_›)) hI.wF) ?_
    simp
    have hf:od all (gt N j)<0↔gt N j ∉ all:=by
     by_cases hm:gt N j∈all
     ·have:=BD hm
      simp[hm];omega
     ·rw[PM hm];simp[hm]
    (with_reducible repeat' first|refine Xk ?_<;>try simp|refine Xs ?_ ?_<;>intro h<;>(try intro h')<;>(try simp[h])<;>try omega|refine Xg ?_|omega)
    ·refine LJ.e (j+1,gm+1,l' ++ [gt N j]) ?_
     dsimp only
     have qB:gt N j ∉ l':=fun hm=>by
      have:=(j2 _).1 hm
      obtain⟨k,hk,e⟩:=c9.1 this.1
      refine bq.1 pL k j.toNat (by omega) (by omega) (by omega) ?_
      rw[e,kl j0 ‹_›]
     refine⟨by omega,by omega,by omega,fun m=>?_,cT.2 ⟨j3,by simp,fun a ha b hb e=>?_⟩,by simp;omega⟩
     ·rw[List.mem_append,j2,iD j0 ‹_›,List.mem_append,List.mem_singleton]
      constructor
      ·rintro(⟨a,b⟩|rfl)
       ·exact⟨.inl a,b⟩
       ·exact⟨.inr rfl,hf.1 h⟩
      ·rintro⟨a|a,b⟩
       ·exact .inl ⟨a,b⟩
       ·exact .inr a
     ·rw[List.mem_singleton]at hb;subst hb;subst e;exact qB ha
    ·refine LJ.e (j+1,gm,l') ?_
     dsimp only
     refine⟨by omega,by omega,by omega,fun m=>?_,j3,by omega⟩
     rw[j2,iD j0 ‹_›,List.mem_append,List.mem_singleton]
     constructor
     ·rintro⟨a,b⟩
      exact⟨.inl a,b⟩
     ·rintro⟨a|rfl,b⟩
      ·exact⟨a,b⟩
      ·exact absurd (hf.2 b) h
   ·rw[ky (by omega)]at j2
    refine Yc (PD (all++l') (by simp;omega) (fun q hq=>(List.mem_append.1 hq).elim (fun h=>(hI.ok q h).small hg) fun h=>QM q ((j2 q).1 h).1)) ?_
    simp
    have fm:=hI.step hg (next:=N) (last':=l') (all':=jL (all++l')) YA j2 j3 (yE _) (fun q=>by rw[sB,List.mem_append])
    (with_reducible repeat' first|refine Xk ?_<;>try simp|refine Xs ?_ ?_<;>intro h<;>(try intro h')<;>(try simp[h])<;>try omega|refine Xg ?_|omega)
    ·exact Ey.i (false,[]) (by simp) rfl (fun h=>by cases h)
    ·obtain⟨h1,h2,h3⟩:=fm (by omega)
     refine LJ.e (jL (all++l'),l') ?_
     dsimp only
     refine⟨?_,h1⟩
     have xL:last≠[]:=fun e=>by subst e;simp at *
     rw[if_neg xL]
     by_cases e:l' = []
     ·rw[if_pos e];omega
     ·have:=h2 e
      rw[if_neg e];have:=h1.len;omega
 ·refine Ey.i (true,all) (by simp) rfl fun _=>⟨hI.wF,hI.ok,fun q hq=>hI.cl q hq ?_,?_⟩
  ·have:last = []:=aB.1 (by omega)
   rw[this];simp
  ·have:=eD hI.has
   exact⟨this,ji⟩
def We(x:oP)(hx:DF x):Wf T 13 [.agg x.cells,.i 40] [] (Ey (fun y:eY×Pos×Bool×List Pos=>.agg (y.1.cells++(y.2.1.cells ++ [if y.2.2.1 then gA y.2.2.2 else .eU,.b y.2.2.1]))) fun y=>gh y.1∧gG y.1 y.2.1∧(y.2.2.1=true→DG y.1 y.2.2.2)):=by
 have hl:x.l.length=18:=hx.len
 have qj:x.cells.length=31:=by simp[oP.cells,Raw.cells,hx.len]
 have vV:x.cells.take 31=x.cells:=ai (by omega)
 refine Yg D5 ?_
 simp[D5,hl]
 refine⟨by omega,?_⟩
 rw[vV]
 refine fG.q rfl rfl (f32 x hx) (by simpa using OV x) (fun _=>by simp) ?_
 rintro⟨g,p⟩ ⟨hg,hp⟩
 dsimp only at hg hp
 simp
 refine fG.q rfl rfl (Wm g hg p hp) (by simp) (fun y=>by obtain⟨b,l⟩:=y;cases b<;>simp) ?_
 intro y hy
 simp
 obtain⟨b,l⟩:=y
 cases b
 ·simp
  exact Ey.i (g,p,false,l) rfl rfl ⟨hg,hp,fun h=>by cases h⟩
 ·simp
  exact Ey.i (g,p,true,l) rfl rfl ⟨hg,hp,hy⟩
end Go.Proofs.YtmehofoficaelaaGreatDoor
namespace Go.Proofs.YtmehofoficaelaaGreatDoor
open Go Go.AL Classical
set_option maxRecDepth 10000
set_option maxHeartbeats 4000000
section
variable{g:eY}{l:List Pos}
def PT(hg:gh g)(hc:oz g l):tK g l (fw g l) (upto l.length) 1:=
 ⟨hg,hc.ok,hc.len,by simp[fw],fun i i0 i1=>⟨(o5 hc i0 i1).2,by rw[(o5 hc i0 i1).1,List.length_map];have:=wi hg (hc.ok _ (ft i0 i1));omega⟩,fun i hi=>ku.1 hi,
  List.pairwise_map.2 (List.nodup_range.imp fun h e=>h (Int.ofNat.inj e)),by simp[upto];exact hc.len,by omega⟩
def FI.congr{v0 v v':List fe}{b b':List Bool}{n:Int}(hc:oz g l)(h:FI g l (fw g l) (upto l.length) v0 n v b)(hv:v'.length=l.length)(hb:b'.length=l.length)
  (e1:∀ k:Int,0≤k→k<l.length→gt b' k=gt b k) (e2:∀ k:Int,0≤k→k<l.length→gt b k=false→gt v' k=gt v k):FI g l (fw g l) (upto l.length) v0 n v' b':=by
 have fM:=fun(i:Int) (hi:i∈upto l.length)=>(o5 hc (ku.1 hi).1 (ku.1 hi).2).2
 have Bt:=fun(i:Int) (hi:i∈upto l.length) k hk=>e1 k (fM i hi k hk).1 (fM i hi k hk).2
 have xa:=fun(i:Int) (hi:i∈upto l.length) k hk=>e2 k (fM i hi k hk).1 (fM i hi k hk).2
 refine⟨hv,hb,fun k k0 k1 hk=>absurd (ku.2 ⟨k0,k1⟩) hk,fun i hi e=>?_,fun i hi e n0=>?_⟩
 ·have jP:=ku.1 hi
  rw[e1 i jP.1 jP.2]at e
  obtain⟨a,c⟩:=h.dec i hi e
  rw[e2 i jP.1 jP.2 e]
  refine⟨a,?_⟩
  rcases c with c|⟨c1,⟨m,m1,c2,⟨k,hk,c3,c4⟩,c5⟩|⟨m,m1,c2,c3,k,hk,c4⟩⟩
  ·exact .inl c
  ·refine .inr ⟨c1,.inl ⟨m,m1,c2,⟨k,hk,by rw[Bt i hi k hk];exact c3,by rw[xa i hi k hk c3];exact c4⟩,fun q hq a1 a2=>?_⟩⟩
   rw[Bt i hi q hq]at a1
   rw[xa i hi q hq a1]at a2 ⊢
   exact c5 q hq a1 a2
  ·refine .inr ⟨c1,.inr ⟨m,m1,c2,fun q hq=>?_,k,hk,by rw[xa i hi k hk (c3 k hk).1];exact c4⟩⟩
   rw[Bt i hi q hq,xa i hi q hq (c3 q hq).1]
   exact c3 q hq
 ·have jP:=ku.1 hi
  rw[e1 i jP.1 jP.2]at e
  obtain⟨p1,p2,p3⟩:=h.yk i hi e n0
  refine⟨p1,fun k hk a1 a2=>?_,fun gE ha=>?_⟩
  ·rw[Bt i hi k hk]at a1
   rw[xa i hi k hk a1]at a2 ⊢
   exact p2 k hk a1 a2
  ·have oF:∀ k∈gt (fw g l) i,gt b k=false∧(gt v k).1=1:=fun k hk=>by
    obtain⟨a1,a2⟩:=ha k hk
    rw[Bt i hi k hk]at a1
    rw[xa i hi k hk a1]at a2
    exact⟨a1,a2⟩
   obtain⟨k,hk,h1⟩:=p3 gE oF
   exact⟨k,hk,by rw[xa i hi k hk (oF k hk).1];exact h1⟩
structure KI(g:eY)(l:List Pos)(n:Int)(v:List Kn):Prop where
 len:v.length=l.length
 fi:FI g l (fw g l) (upto l.length) [] n (kV v) (kB v)
def Rn(v:List Kn):(kV v).length=v.length:=by simp[kV]
def Rm(v:List Kn):(kB v).length=v.length:=by simp[kB]
def KI.start(hc:oz g l):KI g l 1 (l.map (p7 g)):=by
 have hl:(l.map (p7 g)).length=l.length:=by simp
 have Qz:∀ k:Int,0≤k→k<l.length→gt (l.map (p7 g)) k=p7 g (gt l k):=fun k k0 k1=>by
  rw[kl k0 (by rw[hl];exact k1),kl k0 k1,List.getElem_map]
 have hV:∀ k:Int,0≤k→k<l.length→gt (kV (l.map (p7 g))) k=((stat g (gt l k)).1,0):=fun k k0 k1=>by
  rw[xp k0 (by rw[hl];exact k1),Qz k k0 k1];rfl
 have hB:∀ k:Int,0≤k→k<l.length→gt (kB (l.map (p7 g))) k = !(stat g (gt l k)).2:=fun k k0 k1=>by
  rw[s0 k0 (by rw[hl];exact k1),Qz k k0 k1];rfl
 have fM:=fun(i:Int) (hi:i∈upto l.length)=>(o5 hc (ku.1 hi).1 (ku.1 hi).2).2
 refine⟨hl,by rw[Rn,hl],by rw[Rm,hl],fun k k0 k1 hk=>absurd (ku.2 ⟨k0,k1⟩) hk,fun i hi e=>?_,fun i hi e _=>?_⟩
 ·have jP:=ku.1 hi
  rw[hB i jP.1 jP.2]at e
  rw[hV i jP.1 jP.2]
  exact⟨by simp,.inl ⟨by simpa using e,rfl⟩⟩
 ·have jP:=ku.1 hi
  rw[hB i jP.1 jP.2]at e
  refine⟨by simpa using e,fun k hk _ _=>by rw[hV k (fM i hi k hk).1 (fM i hi k hk).2];simp,fun gE _=>?_⟩
  have jQ:=ay.2 gE
  have hm:=ft (l:=gt (fw g l) i) (n:=0) (by omega) (by omega)
  exact⟨_,hm,by rw[hV _ (fM i hi _ hm).1 (fM i hi _ hm).2];simp⟩
def KI.nn{n:Int}{v:List Kn}(h:KI g l n v){k:Int}(k0:0≤k)(k1:k<l.length)(e:(gt v k).2.2=true):0≤(gt v k).2.1:=by
 have k2:k<v.length:=by rw[h.len];exact k1
 have:=(h.fi.dec k (ku.2 ⟨k0,k1⟩) (by rw[s0 k0 k2,e];rfl)).1.1
 rwa [xp k0 k2]at this
def KI.ne{n:Int}{v:List Kn}(hc:oz g l)(h:KI g l n v)(n0:0<n){k:Int}(k0:0≤k)(k1:k<l.length)(e:(gt v k).2.2=false):gt (fw g l) k≠[]:=fun e0=>by
 have k2:k<v.length:=by rw[h.len];exact k1
 have:=(h.fi.yk k (ku.2 ⟨k0,k1⟩) (by rw[s0 k0 k2,e];rfl) n0).1
 rw[(o5 hc k0 k1).1,List.map_eq_nil_iff]at e0
 unfold stat at this
 simp[e0]at this
theorem KI.step(hg:gh g)(hc:oz g l){n:Int}{v now:List Kn}(h:KI g l n v)(n1:1≤n)(hl:now.length=l.length)
  (hn:∀ k:Int,0≤k→k<l.length→gt now k=if (gt v k).2.2=false then n5 v (gt (fw g l) k) n else gt v k):KI g l (n+1) now:=by
 have o:=PT hg hc
 have hv:=h.fi.vl
 have hb:=h.fi.bl
 have hs:=h.fi.step (v0:=[]) o (fun k k0 k1=>(dp 0:0≤(gt ([]:List fe) k).2)) (by omega:0≤n)
 have rk:∀ k:Int,0≤k→k<l.length→(k∈pG g l (fw g l) (upto l.length) (kV v) (kB v) n↔(gt v k).2.2=false∧(nL g (gt l k) (kV v) (kB v) (gt (fw g l) k) n).2=true):=fun k k0 k1=>by
  have k2:k<v.length:=by rw[h.len];exact k1
  unfold pG Mm
  rw[aP,ah,s0 k0 k2,ku]
  simp only[Bool.not_eq_true']
  exact⟨fun a=>⟨a.2.2,a.2.1⟩,fun a=>⟨⟨k0,k1⟩,a.2,a.1⟩⟩
 have kf:∀ k:Int,0≤k→k<l.length→(gt v k).2.2=false→((nL g (gt l k) (kV v) (kB v) (gt (fw g l) k) n).2=true→n5 v (gt (fw g l) k) n=((nL g (gt l k) (kV v) (kB v) (gt (fw g l) k) n).1.1,(nL g (gt l k) (kV v) (kB v) (gt (fw g l) k) n).1.2,true))∧((nL g (gt l k) (kV v) (kB v) (gt (fw g l) k) n).2=false→n5 v (gt (fw g l) k) n=(0,0,false)):=fun k k0 k1 e=>by
  have jQ:=ay.2 (h.ne hc (by omega) k0 k1 e)
  unfold nL n5
  rw[if_neg (by omega)]
  by_cases mq:x4 (kV v) (kB v) (gt (fw g l) k) n
  ·rw[if_pos mq,if_pos mq];exact⟨fun _=>rfl,fun e=>by cases e⟩
  ·rw[if_neg mq,if_neg mq]
   simp only[decide_eq_true_eq,decide_eq_false_iff_not]
   exact⟨fun a=>by rw[if_pos ⟨a.2.1,a.2.2⟩],fun a=>by rw[if_neg fun b=>a ⟨jQ,b⟩]⟩
 refine⟨hl,hs.congr hc (by rw[Rn,hl]) (by rw[Rm,hl]) (fun k k0 k1=>?_) fun k k0 k1 e=>?_⟩
 ·have k2:k<now.length:=by rw[hl];exact k1
  have k3:k<v.length:=by rw[h.len];exact k1
  rw[s0 k0 k2,Kh o hb k0 k1,hn k k0 k1,s0 k0 k3]
  by_cases e:(gt v k).2.2=false
  ·rw[if_pos e]
   by_cases e2:(nL g (gt l k) (kV v) (kB v) (gt (fw g l) k) n).2=true
   ·rw[(kf k k0 k1 e).1 e2,if_pos ((rk k k0 k1).2 ⟨e,e2⟩)];rfl
   ·rw[(kf k k0 k1 e).2 (by simpa using e2),if_neg fun a=>e2 ((rk k k0 k1).1 a).2,e]
  ·rw[if_neg e,if_neg fun a=>e ((rk k k0 k1).1 a).1]
 ·have k2:k<now.length:=by rw[hl];exact k1
  have k3:k<v.length:=by rw[h.len];exact k1
  rw[Kh o hb k0 k1,s0 k0 k3]at e
  rw[xp k0 k2,P9 o hv hb k0 k1,hn k k0 k1,xp k0 k3]
  by_cases e1:(gt v k).2.2=false
  ·rw[if_pos e1]
   by_cases e2:(nL g (gt l k) (kV v) (kB v) (gt (fw g l) k) n).2=true
   ·rw[(kf k k0 k1 e1).1 e2,if_pos ((rk k k0 k1).2 ⟨e1,e2⟩)];rfl
   ·rw[if_neg fun a=>e2 ((rk k k0 k1).1 a).2,e1]at e;cases e
  ·rw[if_neg e1,if_neg fun a=>e1 ((rk k k0 k1).1 a).1]
def KI.done(hg:gh g)(hc:oz g l){v:List Kn}(h:KI g l (l.length+1) v){out:List fe}(hl:out.length=l.length)
  (ho:∀ k:Int,0≤k→k<l.length→gt out k=if (gt v k).2.2=true then((gt v k).1,(gt v k).2.1)else(2,0)):∀ k:Int,0≤k→k<l.length→jM (lz g l (fw g l)) out k:=by
 have o:=PT hg hc
 have fM:=fun(i:Int) (hi:i∈upto l.length)=>(o5 hc (ku.1 hi).1 (ku.1 hi).2).2
 have hb:=OD (n:=l.length) (N:=fun i=>(gt (kV v) i).2) (K:=fun i=>i∈upto l.length∧gt (kB v) i=false) (fun i hi=>⟨ku.1 hi.1,(h.fi.dec i hi.1 hi.2).1.1⟩) (fun i hi=>by
  rcases(h.fi.dec i hi.1 hi.2).2 with⟨_,c⟩|⟨_,⟨m,m1,c2,⟨k,hk,c3,c4⟩,_⟩|⟨m,m1,c2,c3,k,hk,c4⟩⟩
  ·left;show(gt (kV v) i).2=0;rw[c]
  ·right;exact⟨k,⟨ku.2 (fM i hi.1 k hk),c3⟩,by show(gt (kV v) k).2=(gt (kV v) i).2-1;rw[c2,c4]⟩
  ·right;exact⟨k,⟨ku.2 (fM i hi.1 k hk),(c3 k hk).1⟩,by show(gt (kV v) k).2=(gt (kV v) i).2-1;rw[c2,c4]⟩)
 have hf:=Wz o (by omega) h.fi (fun k k0 k1 e _=>by have:=hb k ⟨ku.2 ⟨k0,k1⟩,e⟩;omega)
 obtain⟨_,f2⟩:=PI o h.fi.vl h.fi.bl
 have he:∀ k:Int,0≤k→k<l.length→gt out k=gt (sX (upto l.length) (kV v) (kB v)).1 k:=fun k k0 k1=>by
  have k2:k<v.length:=by rw[h.len];exact k1
  rw[ho k k0 k1,(f2 k k0 k1).1,s0 k0 k2,xp k0 k2]
  by_cases e:(gt v k).2.2=true
  ·rw[if_pos e,if_neg fun a=>by rw[e]at a;exact absurd a.2 (by simp)]
  ·rw[if_neg e,if_pos ⟨ku.2 ⟨k0,k1⟩,by simpa using e⟩]
 exact fun i i0 i1=>(hf i (ku.2 ⟨i0,i1⟩)).congr (he i i0 i1) fun k hk=>he k (fM i (ku.2 ⟨i0,i1⟩) k hk).1 (fM i (ku.2 ⟨i0,i1⟩) k hk).2
end
end Go.Proofs.YtmehofoficaelaaGreatDoor
namespace Go.Proofs.YtmehofoficaelaaGreatDoor
open Go Go.AL Classical
set_option maxRecDepth 10000
set_option maxHeartbeats 4000000
def WX{α:Type}[Inhabited α]{l:List α}{x:α}{n:Int}(h:n.toNat=l.length):gt (l ++ [x]) n=x:=by
 unfold gt
 rw[List.getD_eq_getElem?_getD,ao (by omega),h,eR]
 rfl
def Wn(g:eY)(hg:gh g)(l:List Pos)(hl:oz g l)(gE:0<l.length):Wf T 71 [dG g,gA l,.sl 1 ((fw g l).map fI)] [] (Ey gS fun r=>r.length=l.length∧∀ k:Int,0≤k→k<l.length→jM (lz g l (fw g l)) r k):=by
 have hlen:=hl.len
 have vN:(fw g l).length=l.length:=by simp[fw]
 refine Yg FK ?_
 simp[FK]
 refine Yn (Ws g hg l hl) ?_
 simp
 have QC:(l.map (p7 g)).length=l.length:=by simp
 have fm:=KI.start hl
 generalize Q8:l.map (p7 g)=v0 at *
 refine fh.e ((1,true,l.length,v0):Int×Bool×Nat×List Kn) (fun y=>[(1,gA l),(2,.sl 1 ((fw g l).map fI)),(7,.eX (if y.2.1 then 1 else 2) y.2.2.1 3 0 l.length),(8,.i y.1)]) (fun y=>.row 43 0 g.cells :: .row 245 l.length (cl fK v0)::(if y.2.1 then []else [.row 245 y.2.2.1 (cl fK y.2.2.2)])) (fun y=>1≤y.1∧y.1≤l.length+1∧KI g l y.1 y.2.2.2∧(y.2.1=true→y.2.2.1=l.length∧y.2.2.2=v0∧y.1=1)) (fun y=>l.length+1-y.1.toNat) ?_ ?_
 ·exact⟨by simp,by simp;omega,fm,fun _=>⟨rfl,rfl,rfl⟩⟩
 rintro⟨n,b,gn,v⟩ ⟨n0,n1,hK,n3⟩
 dsimp only at n0 n1 hK n3 ⊢
 have n2:=hK.len
 have QY:∀ i:Int,0≤i→i<l.length→∀ k∈gt (fw g l) i,0≤k∧k<v.length:=fun i a c k hk=>by
  have:=(o5 hl a c).2 k hk;omega
 have iy:∀ i:Int,0≤i→i<l.length→(gt (fw g l) i).length<2 ^ 40:=fun i a c=>by
  rw[(o5 hl a c).1,List.length_map]
  have:=wi hg (hl.ok _ (ft a c));omega
 have qB:∀ i:Int,0≤i→i<l.length→∀ k∈gt (fw g l) i,(gt v k).2.2=true→0≤(gt v k).2.1:=fun i a c k hk e=>hK.nn ((o5 hl a c).2 k hk).1 ((o5 hl a c).2 k hk).2 e
 have QL:∀ i:Int,0≤i→i<l.length→(gt v i).2.2=false→0<(gt (fw g l) i).length:=fun i a c e=>ay.2 (hK.ne hl (by omega) a c e)
 cases b
 ·simp
  (with_reducible repeat' first|refine Xk ?_<;>try simp|refine Xs ?_ ?_<;>intro h<;>(try intro h')<;>(try simp[h])<;>try omega|refine Xg ?_|omega)
  ·refine fh.e ((0,v):Int×List Kn) (fun y=>[(1,gA l),(2,.sl 1 ((fw g l).map fI)),(7,.eX 2 gn 3 0 l.length),(8,.i n),(9,.eX 3 1 3 0 l.length),(10,.i y.1)]) (fun y=>[.row 43 0 g.cells,.row 245 l.length (cl fK v0),.row 245 gn (cl fK v),.row 245 1 (cl fK y.2)]) (fun y=>0≤y.1∧y.1≤l.length∧y.2.length=l.length∧∀ k:Int,0≤k→k<l.length→gt y.2 k=if k<y.1∧(gt v k).2.2=false then n5 v (gt (fw g l) k) n else gt v k) (fun y=>l.length-y.1.toNat) ?_ ?_
   ·exact⟨by simp,by simp,n2,fun k k0 k1=>by rw[if_neg (by dsimp only;omega)]⟩
   rintro⟨j,now⟩ ⟨j0,j1,j2,j3⟩
   dsimp only at j0 j1 j2 j3 ⊢
   simp
   (with_reducible repeat' first|refine Xk ?_<;>try simp|refine Xs ?_ ?_<;>intro h<;>(try intro h')<;>(try simp[h])<;>try omega|refine Xg ?_|omega)
   ·refine LJ.e (j+1,now) ?_
    refine fQ ⟨j2,fun k k0 k1=>?_⟩
    dsimp only
    rw[j3 k k0 k1]
    by_cases e:k=j
    ·subst e
     rw[if_neg (by omega),if_neg (by simp[*])]
    ·simp only[show k<j+1↔k<j by omega]
   ·refine fG.r rfl rfl (PE v _ n (by omega) (QL j j0 ‹_› ‹_›) (iy j j0 ‹_›) (QY j j0 ‹_›) (qB j j0 ‹_›)) (by simp[n2]) (by simp[flat,rQ]) (by simp) ?_
    simp
    (with_reducible repeat' first|refine Xk ?_<;>try simp|refine Xs ?_ ?_<;>intro h<;>(try intro h')<;>(try simp[h])<;>try omega|refine Xg ?_|omega)
    have r7:=GD (f:=fK) now j (by omega) (n5 v (gt (fw g l) j) n)
    rw[zm]at r7
    refine LJ.i (j+1,pt now j (n5 v (gt (fw g l) j) n)) (by first|rfl|simp[← r7]) (by first|rfl|simp[← r7]) rfl rfl ?_
    have hp:=il (l:=now) (n:=j) (v:=n5 v (gt (fw g l) j) n) j0 (by omega)
    refine wm (fun k k0 k1=>?_)
    dsimp only
    rw[qv j0 (by omega) k0,j3 k k0 k1]
    by_cases e:k=j
    ·subst e
     rw[if_pos rfl,if_pos ⟨by omega,‹_›⟩]
    ·rw[if_neg e]
     simp only[show k<j+1↔k<j by omega]
   ·refine LJ.e (n+1,false,1,now) ?_
    refine fQ ⟨?_,fun h=>by cases h⟩
    refine hK.step hg hl n0 j2 fun k k0 k1=>?_
    rw[j3 k k0 k1]
    simp only[show k<j by omega,true_and]
  ·have Yd:n=l.length+1:=by omega
   subst Yd
   refine fh.e ((0,v,[]):Int×List Kn×List fe) (fun y=>[(1,gA l),(7,.eX 2 gn 3 0 l.length),(11,.eX 3 y.2.2.length 2 0 y.2.2.length),(12,.i y.1)]) (fun y=>[.row 43 0 g.cells,.row 245 l.length (cl fK v0),.row 245 gn (cl fK y.2.1),.row 86 y.2.2.length (cl fS y.2.2)]) (fun y=>0≤y.1∧y.1≤l.length∧y.2.1.length=l.length∧y.2.2.length=y.1.toNat∧(∀ k:Int,0≤k→k<y.1→gt y.2.2 k=if (gt v k).2.2=true then((gt v k).1,(gt v k).2.1)else(2,0))∧(∀ k:Int,y.1≤k→k<l.length→gt y.2.1 k=gt v k)) (fun y=>l.length-y.1.toNat) ?_ ?_
   ·exact⟨by simp,by simp,n2,by simp,fun k k0 k1=>by dsimp only at k1;omega,fun k k0 k1=>rfl⟩
   rintro⟨j,w,out⟩ ⟨j0,j1,j2,j3,j4,j5⟩
   dsimp only at j0 j1 j2 j3 j4 j5 ⊢
   by_cases hj:j<l.length
   ·have r7:=UL (l:=w) (n:=j) (by omega) 2 0
    have iP:∀ v,(pt w j v).length=w.length:=fun v=>il j0 (by omega)
    have qD:∀ v,gt (pt w j v) j=v:=fun v=>zp j0 (by omega)
    have Q':=j5 j (by omega) hj
    have pL:∀ (x:fe),((gt v j).2.2=true→x=((gt v j).1,(gt v j).2.1))→((gt v j).2.2=false→x=(2,0))→∀ k:Int,0≤k→k<j+1→gt (out ++ [x]) k=if (gt v k).2.2=true then((gt v k).1,(gt v k).2.1)else(2,0):=fun x x1 x2 k k0 k1=>by
     by_cases e:k=j
     ·subst e
      rw[WX (by omega)]
      by_cases e2:(gt v k).2.2=true
      ·rw[if_pos e2];exact x1 e2
      ·rw[if_neg e2];exact x2 (by simpa using e2)
     ·rw[WV (by omega) (by omega)];exact j4 k k0 (by omega)
    simp[hj,r7]
    (with_reducible repeat' first|refine Xk ?_<;>try simp[r7,iP,qD]|refine Xs ?_ ?_<;>intro h<;>(try intro h')<;>(try simp[h,r7,iP,qD])<;>try omega|refine Xg ?_|omega)
    ·refine LJ.e (j+1,w,out ++ [((gt w j).1,(gt w j).2.1)]) ?_
     rw[Q']at *
     refine⟨by dsimp only;omega,by dsimp only;omega,by dsimp only;omega,by dsimp only;omega,by simp;omega,pL _ (fun _=>rfl) (fun e=>by simp[*]at e),fun k k0 k1=>j5 k (by dsimp only at k0;omega) k1⟩
    ·refine LJ.e (j+1,pt w j (2,0,false),out ++ [(2,0)]) ?_
     rw[Q']at *
     refine⟨by dsimp only;omega,by dsimp only;omega,by dsimp only;omega,by dsimp only;rw[iP];omega,by simp;omega,pL _ (fun e=>by simp[*]at e) (fun _=>rfl),fun k k0 k1=>?_⟩
     dsimp only at k0 ⊢
     rw[qv j0 (by omega) (by omega),if_neg (by omega)]
     exact j5 k (by omega) k1
   ·simp[hj]
    exact Ey.i out rfl rfl ⟨by omega,hK.done hg hl (by omega) fun k k0 k1=>j4 k k0 (by omega)⟩
 ·obtain⟨rfl,rfl,rfl⟩:=n3 rfl
  simp
  (with_reducible repeat' first|refine Xk ?_<;>try simp|refine Xs ?_ ?_<;>intro h<;>(try intro h')<;>(try simp[h])<;>try omega|refine Xg ?_|omega)
  ·refine fh.e ((0,v):Int×List Kn) (fun y=>[(1,gA l),(2,.sl 1 ((fw g l).map fI)),(7,.eX 1 l.length 3 0 l.length),(8,.i 1),(9,.eX 2 1 3 0 l.length),(10,.i y.1)]) (fun y=>[.row 43 0 g.cells,.row 245 l.length (cl fK v),.row 245 1 (cl fK y.2)]) (fun y=>0≤y.1∧y.1≤l.length∧y.2.length=l.length∧∀ k:Int,0≤k→k<l.length→gt y.2 k=if k<y.1∧(gt v k).2.2=false then n5 v (gt (fw g l) k) 1 else gt v k) (fun y=>l.length-y.1.toNat) ?_ ?_
   ·exact⟨by simp,by simp,n2,fun k k0 k1=>by rw[if_neg (by dsimp only;omega)]⟩
   rintro⟨j,now⟩ ⟨j0,j1,j2,j3⟩
   dsimp only at j0 j1 j2 j3 ⊢
   simp
   (with_reducible repeat' first|refine Xk ?_<;>try simp|refine Xs ?_ ?_<;>intro h<;>(try intro h')<;>(try simp[h])<;>try omega|refine Xg ?_|omega)
   ·refine LJ.e (j+1,now) ?_
    refine fQ ⟨j2,fun k k0 k1=>?_⟩
    dsimp only
    rw[j3 k k0 k1]
    by_cases e:k=j
    ·subst e
     rw[if_neg (by omega),if_neg (by simp[*])]
    ·simp only[show k<j+1↔k<j by omega]
   ·refine fG.r rfl rfl (PE v _ 1 (by omega) (QL j j0 ‹_› ‹_›) (iy j j0 ‹_›) (QY j j0 ‹_›) (qB j j0 ‹_›)) (by simp[n2]) (by simp[flat,rQ]) (by simp) ?_
    simp
    (with_reducible repeat' first|refine Xk ?_<;>try simp|refine Xs ?_ ?_<;>intro h<;>(try intro h')<;>(try simp[h])<;>try omega|refine Xg ?_|omega)
    have r7:=GD (f:=fK) now j (by omega) (n5 v (gt (fw g l) j) 1)
    rw[zm]at r7
    refine LJ.i (j+1,pt now j (n5 v (gt (fw g l) j) 1)) (by first|rfl|simp[← r7]) (by first|rfl|simp[← r7]) rfl rfl ?_
    have hp:=il (l:=now) (n:=j) (v:=n5 v (gt (fw g l) j) 1) j0 (by omega)
    refine wm (fun k k0 k1=>?_)
    dsimp only
    rw[qv j0 (by omega) k0,j3 k k0 k1]
    by_cases e:k=j
    ·subst e
     rw[if_pos rfl,if_pos ⟨by omega,‹_›⟩]
    ·rw[if_neg e]
     simp only[show k<j+1↔k<j by omega]
   ·refine LJ.e (1+1,false,1,now) ?_
    refine fQ ⟨?_,fun h=>by cases h⟩
    refine hK.step hg hl (by omega) j2 fun k k0 k1=>?_
    rw[j3 k k0 k1]
    simp only[show k<j by omega,true_and]
def Wh(g:eY)(hg:gh g)(l:List Pos)(hl:oz g l)(gE:0<l.length):Wf T 25 [dG g,gA l] [] (Ey (fun x:List fe×List Int=>.agg [gS x.1,dI x.2,.i 0]) fun x=>x.1.length=l.length∧∀ k:Int,0≤k→k<l.length→jM (lz g l (fw g l)) x.1 k):=by
 refine Yg EC ?_
 simp[EC]
 refine Yc (f37 g hg l hl) ?_
 simp
 refine Yq (Wn g hg l hl gE) fun v hv=>?_
 simp
 refine Yq (f39 g hg l hl v hv.1) fun f hf=>?_
 simp
 exact Ey.i (v,f) rfl rfl hv
end Go.Proofs.YtmehofoficaelaaGreatDoor
namespace Go.Proofs.YtmehofoficaelaaGreatDoor
open Go Go.AL
def v8:List Int:=[1116352408,1899447441,3049323471,3921009573,961987163,1508970993,2453635748,2870763221,3624381080,310598401,607225278,1426881987,1925078388,2162078206,2614888103,3248222580,3835390401,4022224774,264347078,604807628,770255983,1249150122,1555081692,1996064986,2554220882,2821834349,2952996808,3210313671,3336571891,3584528711,113926993,338241895,666307205,773529912,1294757372,1396182291,1695183700,1986661051,2177026350,2456956037,2730485921,2820302411,3259730800,3345764771,3516065817,3600352804,4094571909,275423344,430227734,506948616,659060556,883997877,958139571,1322822218,1537002063,1747873779,1955562222,2024104815,2227730452,2361852424,2428436474,2756734187,3204031479,3329325298]
def BH:List Int:=[1779033703,3144134277,1013904242,2773480762,1359893119,2600822924,528734635,1541459225]
def tn(n x:Int):Int:=bits .or .u32 (mA .u32 x n) (uR .u32 x (32-n))
def xr(a b:Int):Int:=bits .xor .u32 a b
def ad(a b:Int):Int:=IntKind.u32.wrap (a+b)
def mx(x a b c:Int):Int:=xr (xr (tn a x) (tn b x)) (tn c x)
def wp(w:List Int)(n:Nat)(b:Int):List Int:=pt w (n / 4:Nat) (bits .or .u32 (uR .u32 (gt w (n / 4:Nat)) 8) b)
def Jc(b:List Int):Nat→List Int
 | 0=>List.replicate 64 0
 | n+1=>wp (Jc b n) n (IntKind.u32.wrap (gt b n))
@[irreducible] def w1(b:List Int)(n:Nat):List Int:=Jc b n
def wn(w:List Int)(t:Nat):List Int:=pt w t (ad (ad (ad (gt w (t-16:Nat)) (gt w (t-7:Nat))) (xr (xr (tn 7 (gt w (t-15:Nat))) (tn 18 (gt w (t-15:Nat)))) (mA .u32 (gt w (t-15:Nat)) 3)))
 (xr (xr (tn 17 (gt w (t-2:Nat))) (tn 19 (gt w (t-2:Nat)))) (mA .u32 (gt w (t-2:Nat)) 10)))
def Je(w:List Int):Nat→List Int
 | 0=>w
 | m+1=>wn (Je w m) (m+16)
@[irreducible] def w2(w:List Int)(n:Nat):List Int:=Je w n
@[irreducible] def rE(b:List Int):List Int:=w2 (w1 b 64) 48
def wu(c:List Int)(k w:Int):List Int:=match c with
 | [c0,c1,c2,c3,c4,c5,c6,c7]=>
  let x:=ad (ad (ad (ad c7 (mx c4 6 11 25)) (xr (bits .and .u32 c4 c5) (bits .and .u32 (bits .xor .u32 IntKind.u32.max c4) c6))) k) w
  let y:=ad (mx c0 2 13 22) (xr (xr (bits .and .u32 c0 c1) (bits .and .u32 c0 c2)) (bits .and .u32 c1 c2))
  [ad x y,c0,c1,c2,ad c3 x,c4,c5,c6]
 | _=>[]
def IC(w c:List Int):Nat→List Int
 | 0=>c
 | n+1=>wu (IC w c n) (gt v8 n) (gt w n)
@[irreducible] def pz(w c:List Int)(n:Nat):List Int:=IC w c n
@[irreducible] def qY(s b:List Int):List Int:=List.zipWith ad (pz (rE b) s 64) s
def Gn(b:List Int)(s:List Int):Nat→List Int
 | 0=>s
 | n+1=>qY (Gn b s n) ((b.drop (64*n)).take 64)
@[irreducible] def pY(b s:List Int)(n:Nat):List Int:=Gn b s n
def Iy(n:Nat):Nat:=63-(n+8) % 64
def Ba(n:Int):List Int:=[56,48,40,32,24,16,8,0].map fun s:Int=>IntKind.u8.wrap (mA .u64 n s)
@[irreducible] def pad(b:List Int):List Int:=b++128::(List.replicate (Iy b.length) 0++Ba (8*b.length))
@[irreducible] def yj(s:List Int):List Int:=(upto 32).map fun i=>IntKind.u8.wrap (mA .u32 (gt s (i / 4)) (24-8*(i % 4)))
@[irreducible] def l3(b:List Int):List Int:=yj (pY (pad b) BH ((pad b).length / 64))
def p6(n:Nat):Nat:=2 ^ (Nat.log2 (n-1))
def Aj:Nat→List (List Int)→List Int
 | 0,_=>[]
 | _+1,[]=>l3 []
 | _+1,[x]=>l3 (0::x)
 | k+1,l=>l3 (1::(Aj k (l.take (p6 l.length))++Aj k (l.drop (p6 l.length))))
@[irreducible] def mX(k:Nat)(l:List (List Int)):List Int:=Aj k l
def pc(r:fe):List Int:=IntKind.u8.wrap r.1 :: [24,16,8,0].map fun s:Int=>IntKind.u8.wrap (mA .i64 r.2 s)
