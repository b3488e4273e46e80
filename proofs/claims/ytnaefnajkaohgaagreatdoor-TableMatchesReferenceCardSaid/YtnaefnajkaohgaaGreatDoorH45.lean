/- 45 -/
import Derived.Test.YtnaefnajkaohgaaGreatDoorH44
set_option linter.all false
namespace Go.Proofs.YtnaefnajkaohgaaGreatDoor
open Go Go.AL Classical
set_option maxRecDepth 10000
set_option maxHeartbeats 4000000
section
variable{g:eH}{l:List Pos}
def Pn(hg:fe g)(hc:jo g l):mG g l (eS g l) (upto l.length) 1:=
 ⟨hg,hc.ok,hc.len,by simp[eS],fun i i0 i1=>⟨(mB hc i0 i1).2,by rw[(mB hc i0 i1).1,List.length_map];have:=tN hg (hc.ok _ (eQ i0 i1));omega⟩,fun i hi=>jI.1 hi,
  dm.2 (List.nodup_range.imp fun h e=>h (Int.ofNat.inj e)),by simp[upto];exact hc.len,by omega⟩
def FI.congr{v0 v v':List eO}{b b':List Bool}{n:Int}(hc:jo g l)(h:FI g l (eS g l) (upto l.length) v0 n v b)(hv:v'.length=l.length)(hb:b'.length=l.length)
  (e1:∀ k:Int,0≤k→k<l.length→gt b' k=gt b k) (e2:∀ k:Int,0≤k→k<l.length→gt b k=false→gt v' k=gt v k):FI g l (eS g l) (upto l.length) v0 n v' b':=by
 have ft:=fun(i:Int) (hi:i∈upto l.length)=>(mB hc (jI.1 hi).1 (jI.1 hi).2).2
 have BB:=fun(i:Int) (hi:i∈upto l.length) k hk=>e1 k (ft i hi k hk).1 (ft i hi k hk).2
 have uA:=fun(i:Int) (hi:i∈upto l.length) k hk=>e2 k (ft i hi k hk).1 (ft i hi k hk).2
 refine⟨hv,hb,fun k k0 k1 hk=>absurd (jI.2 ⟨k0,k1⟩) hk,fun i hi e=>?_,fun i hi e n0=>?_⟩
 ·have iZ:=jI.1 hi
  rw[e1 i iZ.1 iZ.2]at e
  obtain⟨a,c⟩:=h.dec i hi e
  rw[e2 i iZ.1 iZ.2 e]
  refine⟨a,?_⟩
  rcases c with c|⟨c1,⟨m,m1,c2,⟨k,hk,c3,c4⟩,c5⟩|⟨m,m1,c2,c3,k,hk,c4⟩⟩
  ·exact .inl c
  ·refine .inr ⟨c1,.inl ⟨m,m1,c2,⟨k,hk,by rw[BB i hi k hk];exact c3,by rw[uA i hi k hk c3];exact c4⟩,fun q hq a1 a2=>?_⟩⟩
   rw[BB i hi q hq]at a1
   rw[uA i hi q hq a1]at a2 ⊢
   exact c5 q hq a1 a2
  ·refine .inr ⟨c1,.inr ⟨m,m1,c2,fun q hq=>?_,k,hk,by rw[uA i hi k hk (c3 k hk).1];exact c4⟩⟩
   rw[BB i hi q hq,uA i hi q hq (c3 q hq).1]
   exact c3 q hq
 ·have iZ:=jI.1 hi
  rw[e1 i iZ.1 iZ.2]at e
  obtain⟨p1,p2,p3⟩:=h.yg i hi e n0
  refine⟨p1,fun k hk a1 a2=>?_,fun gw ha=>?_⟩
  ·rw[BB i hi k hk]at a1
   rw[uA i hi k hk a1]at a2 ⊢
   exact p2 k hk a1 a2
  ·have qn:∀ k∈gt (eS g l) i,gt b k=false∧(gt v k).1=1:=fun k hk=>by
    obtain⟨a1,a2⟩:=ha k hk
    rw[BB i hi k hk]at a1
    rw[uA i hi k hk a1]at a2
    exact⟨a1,a2⟩
   obtain⟨k,hk,h1⟩:=p3 gw qn
   exact⟨k,hk,by rw[uA i hi k hk (qn k hk).1];exact h1⟩
structure KI(g:eH)(l:List Pos)(n:Int)(v:List Kn):Prop where
 len:v.length=l.length
 fi:FI g l (eS g l) (upto l.length) [] n (kV v) (kB v)
def Q0(v:List Kn):(kV v).length=v.length:=by simp[kV]
def QZ(v:List Kn):(kB v).length=v.length:=by simp[kB]
def KI.start(hc:jo g l):KI g l 1 (l.map (qh g)):=by
 have hl:(l.map (qh g)).length=l.length:=by simp
 have P6:∀ k:Int,0≤k→k<l.length→gt (l.map (qh g)) k=qh g (gt l k):=fun k k0 k1=>by
  rw[mw k0 (by rw[hl];exact k1),mw k0 k1,List.getElem_map]
 have hV:∀ k:Int,0≤k→k<l.length→gt (kV (l.map (qh g))) k=((stat g (gt l k)).1,0):=fun k k0 k1=>by
  rw[xu k0 (by rw[hl];exact k1),P6 k k0 k1];rfl
 have hB:∀ k:Int,0≤k→k<l.length→gt (kB (l.map (qh g))) k = !(stat g (gt l k)).2:=fun k k0 k1=>by
  rw[tl k0 (by rw[hl];exact k1),P6 k k0 k1];rfl
 have ft:=fun(i:Int) (hi:i∈upto l.length)=>(mB hc (jI.1 hi).1 (jI.1 hi).2).2
 refine⟨hl,by rw[Q0,hl],by rw[QZ,hl],fun k k0 k1 hk=>absurd (jI.2 ⟨k0,k1⟩) hk,fun i hi e=>?_,fun i hi e _=>?_⟩
 ·have iZ:=jI.1 hi
  rw[hB i iZ.1 iZ.2]at e
  rw[hV i iZ.1 iZ.2]
  exact⟨by simp,.inl ⟨by simpa using e,rfl⟩⟩
 ·have iZ:=jI.1 hi
  rw[hB i iZ.1 iZ.2]at e
  refine⟨by simpa using e,fun k hk _ _=>by rw[hV k (ft i hi k hk).1 (ft i hi k hk).2];simp,fun gw _=>?_⟩
  have jm:=az.2 gw
  have hm:=eQ (l:=gt (eS g l) i) (n:=0) (by omega) (by omega)
  exact⟨_,hm,by rw[hV _ (ft i hi _ hm).1 (ft i hi _ hm).2];simp⟩
def KI.nn{n:Int}{v:List Kn}(h:KI g l n v){k:Int}(k0:0≤k)(k1:k<l.length)(e:(gt v k).2.2=true):0≤(gt v k).2.1:=by
 have k2:k<v.length:=by rw[h.len];exact k1
 have:=(h.fi.dec k (jI.2 ⟨k0,k1⟩) (by rw[tl k0 k2,e];rfl)).1.1
 rwa [xu k0 k2]at this
def KI.ne{n:Int}{v:List Kn}(hc:jo g l)(h:KI g l n v)(n0:0<n){k:Int}(k0:0≤k)(k1:k<l.length)(e:(gt v k).2.2=false):gt (eS g l) k≠[]:=fun e0=>by
 have k2:k<v.length:=by rw[h.len];exact k1
 have:=(h.fi.yg k (jI.2 ⟨k0,k1⟩) (by rw[tl k0 k2,e];rfl) n0).1
 rw[(mB hc k0 k1).1,List.map_eq_nil_iff]at e0
 unfold stat at this
 simp[e0]at this
theorem KI.step(hg:fe g)(hc:jo g l){n:Int}{v now:List Kn}(h:KI g l n v)(n1:1≤n)(hl:now.length=l.length)
  (hn:∀ k:Int,0≤k→k<l.length→gt now k=if (gt v k).2.2=false then n4 v (gt (eS g l) k) n else gt v k):KI g l (n+1) now:=by
 have o:=Pn hg hc
 have hv:=h.fi.vl
 have hb:=h.fi.bl
 have hs:=h.fi.step (v0:=[]) o (fun k k0 k1=>(cQ 0:0≤(gt ([]:List eO) k).2)) (by omega:0≤n)
 have lz:∀ k:Int,0≤k→k<l.length→(k∈oV g l (eS g l) (upto l.length) (kV v) (kB v) n↔(gt v k).2.2=false∧(jc g (gt l k) (kV v) (kB v) (gt (eS g l) k) n).2=true):=fun k k0 k1=>by
  have k2:k<v.length:=by rw[h.len];exact k1
  unfold oV jQ
  rw[aH,ah,tl k0 k2,jI]
  simp only[Bool.not_eq_true']
  exact⟨fun a=>⟨a.2.2,a.2.1⟩,fun a=>⟨⟨k0,k1⟩,a.2,a.1⟩⟩
 have lT:∀ k:Int,0≤k→k<l.length→(gt v k).2.2=false→((jc g (gt l k) (kV v) (kB v) (gt (eS g l) k) n).2=true→n4 v (gt (eS g l) k) n=((jc g (gt l k) (kV v) (kB v) (gt (eS g l) k) n).1.1,(jc g (gt l k) (kV v) (kB v) (gt (eS g l) k) n).1.2,true))∧((jc g (gt l k) (kV v) (kB v) (gt (eS g l) k) n).2=false→n4 v (gt (eS g l) k) n=(0,0,false)):=fun k k0 k1 e=>by
  have jm:=az.2 (h.ne hc (by omega) k0 k1 e)
  unfold jc n4
  rw[if_neg (by omega)]
  by_cases lq:rQ (kV v) (kB v) (gt (eS g l) k) n
  ·rw[if_pos lq,if_pos lq];exact⟨fun _=>rfl,fun e=>by cases e⟩
  ·rw[if_neg lq,if_neg lq]
   simp only[decide_eq_true_eq,decide_eq_false_iff_not]
   exact⟨fun a=>by rw[if_pos ⟨a.2.1,a.2.2⟩],fun a=>by rw[if_neg fun b=>a ⟨jm,b⟩]⟩
 refine⟨hl,hs.congr hc (by rw[Q0,hl]) (by rw[QZ,hl]) (fun k k0 k1=>?_) fun k k0 k1 e=>?_⟩
 ·have k2:k<now.length:=by rw[hl];exact k1
  have k3:k<v.length:=by rw[h.len];exact k1
  rw[tl k0 k2,BL o hb k0 k1,hn k k0 k1,tl k0 k3]
  by_cases e:(gt v k).2.2=false
  ·rw[if_pos e]
   by_cases e2:(jc g (gt l k) (kV v) (kB v) (gt (eS g l) k) n).2=true
   ·rw[(lT k k0 k1 e).1 e2,if_pos ((lz k k0 k1).2 ⟨e,e2⟩)];rfl
   ·rw[(lT k k0 k1 e).2 (by simpa using e2),if_neg fun a=>e2 ((lz k k0 k1).1 a).2,e]
  ·rw[if_neg e,if_neg fun a=>e ((lz k k0 k1).1 a).1]
 ·have k2:k<now.length:=by rw[hl];exact k1
  have k3:k<v.length:=by rw[h.len];exact k1
  rw[BL o hb k0 k1,tl k0 k3]at e
  rw[xu k0 k2,Kz o hv hb k0 k1,hn k k0 k1,xu k0 k3]
  by_cases e1:(gt v k).2.2=false
  ·rw[if_pos e1]
   by_cases e2:(jc g (gt l k) (kV v) (kB v) (gt (eS g l) k) n).2=true
   ·rw[(lT k k0 k1 e1).1 e2,if_pos ((lz k k0 k1).2 ⟨e1,e2⟩)];rfl
   ·rw[if_neg fun a=>e2 ((lz k k0 k1).1 a).2,e1]at e;cases e
  ·rw[if_neg e1,if_neg fun a=>e1 ((lz k k0 k1).1 a).1]
def KI.done(hg:fe g)(hc:jo g l){v:List Kn}(h:KI g l (l.length+1) v){out:List eO}(hl:out.length=l.length)
  (ho:∀ k:Int,0≤k→k<l.length→gt out k=if (gt v k).2.2=true then((gt v k).1,(gt v k).2.1)else(2,0)):∀ k:Int,0≤k→k<l.length→nB (pn g l (eS g l)) out k:=by
 have o:=Pn hg hc
 have ft:=fun(i:Int) (hi:i∈upto l.length)=>(mB hc (jI.1 hi).1 (jI.1 hi).2).2
 have hb:=Oe (n:=l.length) (N:=fun i=>(gt (kV v) i).2) (K:=fun i=>i∈upto l.length∧gt (kB v) i=false) (fun i hi=>⟨jI.1 hi.1,(h.fi.dec i hi.1 hi.2).1.1⟩) (fun i hi=>by
  rcases(h.fi.dec i hi.1 hi.2).2 with⟨_,c⟩|⟨_,⟨m,m1,c2,⟨k,hk,c3,c4⟩,_⟩|⟨m,m1,c2,c3,k,hk,c4⟩⟩
  ·left;show(gt (kV v) i).2=0;rw[c]
  ·right;exact⟨k,⟨jI.2 (ft i hi.1 k hk),c3⟩,by show(gt (kV v) k).2=(gt (kV v) i).2-1;rw[c2,c4]⟩
  ·right;exact⟨k,⟨jI.2 (ft i hi.1 k hk),(c3 k hk).1⟩,by show(gt (kV v) k).2=(gt (kV v) i).2-1;rw[c2,c4]⟩)
 have hf:=VZ o (by omega) h.fi (fun k k0 k1 e _=>by have:=hb k ⟨jI.2 ⟨k0,k1⟩,e⟩;omega)
 obtain⟨_,f2⟩:=Hh o h.fi.vl h.fi.bl
 have he:∀ k:Int,0≤k→k<l.length→gt out k=gt (lG (upto l.length) (kV v) (kB v)).1 k:=fun k k0 k1=>by
  have k2:k<v.length:=by rw[h.len];exact k1
  rw[ho k k0 k1,(f2 k k0 k1).1,tl k0 k2,xu k0 k2]
  by_cases e:(gt v k).2.2=true
  ·rw[if_pos e,if_neg fun a=>by rw[e]at a;exact absurd a.2 (by simp)]
  ·rw[if_neg e,if_pos ⟨jI.2 ⟨k0,k1⟩,by simpa using e⟩]
 exact fun i i0 i1=>(hf i (jI.2 ⟨i0,i1⟩)).congr (he i i0 i1) fun k hk=>he k (ft i (jI.2 ⟨i0,i1⟩) k hk).1 (ft i (jI.2 ⟨i0,i1⟩) k hk).2
end
end Go.Proofs.YtnaefnajkaohgaaGreatDoor
namespace Go.Proofs.YtnaefnajkaohgaaGreatDoor
open Go Go.AL Classical
set_option maxRecDepth 10000
set_option maxHeartbeats 8000000
def CR{b:List Bool}{k:Int}(c:Bool):nb (pt b k c)=pt (nb b) k (!c):=by
 show(pt b k c).map (!·)=pt (b.map (!·)) k (!c)
 unfold pt
 rw[List.map_append,List.map_cons,List.map_take,dJ]
def U6{v:List eO}{b:List Bool}{x:List Int}{n:Int}{g:eH}{p:Pos}(h:0<n):((jc g p v b x n).2=true→zf v b x n=(jc g p v b x n).1)∧((jc g p v b x n).2=false→zf v b x n=(0,0))∧((jc g p v b x n).1.1=1∨(jc g p v b x n).1.1=3):=by
 unfold jc zf
 rw[if_neg (by omega)]
 by_cases lq:rQ v b x n
 ·rw[if_pos lq,if_pos lq]
  exact⟨fun _=>rfl,fun e=>(by cases e),.inl rfl⟩
 ·rw[if_neg lq,if_neg lq]
  simp only[decide_eq_true_eq,decide_eq_false_iff_not]
  refine⟨fun a=>by rw[if_pos ⟨a.2.1,a.2.2⟩],fun a=>?_,.inr trivial⟩
  rw[if_neg fun c=>a ⟨?_,c⟩]
  by_cases e:x.length=0
  ·exfalso
   have h1:(ju v b x x.length).2 = -1:=by rw[e];rfl
   have:=c.2
   omega
  ·omega
section
variable{g:eH}{l:List Pos}{nx:List (List Int)}{part:List Int}
def VT(v:List eO)(b:List Bool)(t n bu:Int)(o:mG g l nx part bu)(n0:0≤n∧n≤4000)(hv:v.length=l.length)(hb:b.length=l.length)(hp:∀ i∈part,gt b i=true→0<n→(stat g (gt l i)).2=false) :
  Wf T 80 [dG g,e7 l,.sl 1 (nx.map fI),dI part,.agg [fh v,.sl 1 ((nb b).map fB),.i t],.i n] [] (fun d H=>d = .agg [.eF 0 1 2 0 l.length,.eF 1 1 1 0 l.length,.i t]∧H = [.row 58 1 (cl fS (rV g l nx part v b n)),.row 4 1 (cl fB (nb (rB g l nx part v b n)))]):=by
 refine Wf.xo 2 (fn:=A0) rfl (by simp[A0]) ?_
 have tw:(nb b).length=l.length:=(tO b).trans hb
 have hlen:=o.len
 have gK:=o.pl
 simp[A0]
 (with_reducible repeat' first|refine Xk ?_<;>try simp[hv,tw]|refine Xs ?_ ?_<;>intro h<;>(try intro h')<;>(try simp[h,hv,tw])<;>try omega|refine Xg ?_|omega)
 rw[hv,tw]
 refine eN.e (((0,v,b):Int×List eO×List Bool)) (fun y=>[(1,e7 l),(2,.sl 1 (nx.map fI)),(3,dI part),(5,.i n),(6,.ptr 0 0 0),(10,.ptr 1 0 0),(12,.ptr 2 0 0),(13,.ptr 5 0 0),(14,.i y.1)]) (fun y=>[.row 41 0 g.cells,.row 152 0 [fh v,.sl 1 ((nb b).map fB),.i t],.row 152 0 [.eG,.eG,.i 0],.row 58 1 (cl fS y.2.1),.row 4 1 (cl fB (nb y.2.2)),.row 152 0 [.eF 3 1 2 0 l.length,.eF 4 1 1 0 l.length,.i t]]) (fun y=>0≤y.1∧y.1≤part.length∧y.2.1=jR v (qg g l nx v b n) ((part.take y.1.toNat).filter (jQ g l nx v b n))∧y.2.2=jR b (fun _=>false) ((part.take y.1.toNat).filter (jQ g l nx v b n))) (fun y=>(part.length-y.1).toNat) ?_ ?_ (by simp) (by simp[cl])
 ·exact⟨by simp,by simp,rfl,rfl⟩
 rintro⟨i,w,c⟩ ⟨i0,i1,i2,i3⟩
 dsimp only at i0 i1 i2 i3 ⊢
 have ft:∀ k∈(part.take i.toNat).filter (jQ g l nx v b n),0≤k∧k<l.length:=fun k hk=>o.prt k (aJ (aH.1 hk).1)
 have oJ:w.length=l.length:=by rw[i2,oy _ _ _ (fun k hk=>by rw[hv];exact ft k hk),hv]
 have fM:c.length=l.length:=by rw[i3,oy _ _ _ (fun k hk=>by rw[hb];exact ft k hk),hb]
 have al9:(nb c).length=l.length:=(tO c).trans fM
 by_cases hi:i<part.length
 ·have hk:=o.prt _ (eQ i0 hi)
  have kz:=eQ i0 hi
  have ln:=zn (b:=b) hk.1 (by omega)
  have Yk:=hp _ kz
  have QQ:=o.IJ _ hk.1 hk.2
  have jm:=o.ps _ (eQ hk.1 hk.2)
  have qt:part.take (i+1).toNat=part.take i.toNat ++ [gt part i]:=gx i0 hi
  have qu:jQ g l nx v b n (gt part i)=true→((part.take (i+1).toNat).filter (jQ g l nx v b n))=((part.take i.toNat).filter (jQ g l nx v b n)) ++ [gt part i]:=fun e=>by
   rw[qt,br];simp[e]
  have pC:jQ g l nx v b n (gt part i)=false→((part.take (i+1).toNat).filter (jQ g l nx v b n))=((part.take i.toNat).filter (jQ g l nx v b n)):=fun e=>by
   rw[qt,br];simp[e]
  have K4:qg g l nx v b n (gt part i)=(jc g (gt l (gt part i)) v b (gt nx (gt part i)) n).1:=rfl
  have eM:jQ g l nx v b n (gt part i)=((jc g (gt l (gt part i)) v b (gt nx (gt part i)) n).2&&gt b (gt part i)):=rfl
  generalize ky:gt part i=k at *
  by_cases uG:gt b k=true
  ·rw[uG,Bool.and_true]at eM
   have hz:=o.RO
   simp[hi,ky,ln,uG]
   (with_reducible repeat' first|refine Xk ?_<;>try simp[ky,ln,uG]|refine Xs ?_ ?_<;>intro h<;>(try intro h')<;>(try simp[h,ky,ln,uG])<;>try omega|refine Xg ?_|omega)
   refine Yt (f112 g o.gm (gt l k) jm) ?_
   simp[nJ]
   (with_reducible repeat' first|refine Xk ?_<;>try simp[nJ]|refine Xs ?_ ?_<;>intro h<;>(try intro h')<;>(try simp[h,nJ])<;>try omega|refine Xg ?_|omega)
   ·exact absurd ‹(stat g (gt l k)).1=0› (by have:=agE o.gm ‹(stat g (gt l k)).2=true›;omega)
   ·have hn:n=0 := ‹_›
    subst hn
    have eX:(stat g (gt l k)).2=true := ‹_›
    have he:jc g (gt l k) v b (gt nx k) 0=(((stat g (gt l k)).1,0),(stat g (gt l k)).2):=by unfold jc;rw[if_pos rfl]
    rw[he]at eM K4
    refine LJ.i (i+1,pt w k ((stat g (gt l k)).1,0),pt c k false) (by first|rfl|simp[CR]) (by first|rfl|simp[CR]) rfl rfl ?_
    refine eY ⟨?_,?_⟩
    ·dsimp only;rw[qu (eM.trans eX),pK,← i2,K4]
    ·dsimp only;rw[qu (eM.trans eX),pK,← i3]
   ·exact absurd ‹(stat g (gt l k)).2=true› (by rw[Yk uG (by omega)];simp)
   ·obtain⟨q1,q2,q3⟩:=U6 (v:=v) (b:=b) (x:=gt nx k) (g:=g) (p:=gt l k) ‹0<n›
    have Ua:=f120 v b t (gt nx k) n n0 (by omega) (fun q hq=>by rw[hv];exact QQ.1 q hq) QQ.2
    refine Yt Ua ?_
    by_cases he:(jc g (gt l k) v b (gt nx k) n).2=true
    ·rw[q1 he]
     rw[← K4]at q3 ⊢
     generalize Cg:qg g l nx v b n k=r at *
     have qR:¬ r.1=0:=by omega
     simp[qR,nJ]
     (with_reducible repeat' first|refine Xk ?_<;>try simp[nJ]|refine Xs ?_ ?_<;>intro h<;>(try intro h')<;>(try simp[h,nJ])<;>try omega|refine Xg ?_|omega)
     refine LJ.i (i+1,pt w k r,pt c k false) (by first|rfl|simp[CR]) (by first|rfl|simp[CR]) rfl rfl ?_
     refine eY ⟨?_,?_⟩
     ·dsimp only;rw[qu (eM.trans he),pK,← i2,Cg]
     ·dsimp only;rw[qu (eM.trans he),pK,← i3]
    ·have oj:(jc g (gt l k) v b (gt nx k) n).2=false:=by simpa using he
     rw[q2 oj]
     simp
     (with_reducible repeat' first|refine Xk ?_<;>try simp|refine Xs ?_ ?_<;>intro h<;>(try intro h')<;>(try simp[h])<;>try omega|refine Xg ?_|omega)
     refine LJ.e (i+1,w,c) ?_
     exact⟨by dsimp only;omega,by dsimp only;omega,by dsimp only;omega,by dsimp only;rw[pC (eM.trans oj)];exact i2,by dsimp only;rw[pC (eM.trans oj)];exact i3⟩
   ·have hn:n=0:=by omega
    subst hn
    have eX:(stat g (gt l k)).2=false := ‹_›
    have he:(jc g (gt l k) v b (gt nx k) 0).2=(stat g (gt l k)).2:=by unfold jc;rw[if_pos rfl]
    refine LJ.e (i+1,w,c) ?_
    exact⟨by dsimp only;omega,by dsimp only;omega,by dsimp only;omega,by dsimp only;rw[pC (eM.trans (he.trans eX))];exact i2,by dsimp only;rw[pC (eM.trans (he.trans eX))];exact i3⟩
  ·have PM:gt b k=false:=by simpa using uG
   rw[PM,Bool.and_false]at eM
   simp[hi,ky,ln,PM]
   (with_reducible repeat' first|refine Xk ?_<;>try simp|refine Xs ?_ ?_<;>intro h<;>(try intro h')<;>(try simp[h])<;>try omega|refine Xg ?_|omega)
   refine LJ.e (i+1,w,c) ?_
   exact⟨by dsimp only;omega,by dsimp only;omega,by dsimp only;omega,by dsimp only;rw[pC eM];exact i2,by dsimp only;rw[pC eM];exact i3⟩
 ·have kT:i=part.length:=by omega
  subst kT
  rw[aC (by omega)]at i2 i3
  simp[hi]
  (with_reducible repeat' first|refine Xk ?_<;>try simp|refine Xs ?_ ?_<;>intro h<;>(try intro h')<;>(try simp[h])<;>try omega|refine Xg ?_|omega)
  exact⟨by rw[i2];rfl,by rw[i3];rfl⟩
end
end Go.Proofs.YtnaefnajkaohgaaGreatDoor
namespace Go.Proofs.YtnaefnajkaohgaaGreatDoor
open Go Go.AL Classical
set_option maxRecDepth 10000
set_option maxHeartbeats 8000000
def fg.nr{T:gy}{f:FuncId}{args nZ:List D}{dst:Option Nat}{s:St}{K:St→Prop}{fn:eI}{d:D}{Hn:U}(hf:T.fn f=some fn)(hp:fn.full=false)(h:Wf T f nZ [] fun d' H'=>d'=d∧H'=Hn)
  (hs:args.map (eP (fun _=>none) s.H 40)=nZ) (hr:(nU d&&Hn.all oi)=true) (uR:(lM d&&Hn.all mO)=true) (k:K { s with env:=put s.env dst (jx s.H.length d),H:=s.H++Hn }):fg T f args dst s K .mk:=by
 refine fg.is hf hp (K0:=fun d' H'=>d'=d∧H'=Hn) (by rw[hs];exact h) ?_
 rintro d' A2 ⟨rfl,rfl⟩
 refine⟨_,?_,k⟩
 unfold after
 rw[hr,uR,ite_self,if_pos rfl]
def V9{a b:List D}(ha:oh a=true)(hb:oh b=true):oh (a++b)=true:=by
 induction a with
 | nil=>exact hb
 | cons x r ih=>
  rw[bx]
  simp only[oh,ah]at ha ⊢
  exact⟨ha.1,ih ha.2⟩
theorem Ko{α:Type}{f:α→List D}(h:∀ x,oh (f x)=true):∀ l:List α,oh (cl f l)=true
 | []=>by rw[nK];rfl
 | a::r=>by rw[mY];exact V9 (h a) (Ko h r)
@[simp] theorem alD(l:List eO):oh (cl fS l)=true:=Ko (fun x=>by rw[uC];rfl) l
@[simp] theorem alB(l:List Bool):oh (cl fB l)=true:=Ko (fun x=>by rw[Kh];rfl) l
theorem eN.K2{T:gy}{live:List Nat}{a:IR}{s:St}{K K':gS}(hK:K=K')(h:eN T live a s K' .mk):eN T live a s K .mk:=by subst hK;exact h
def PI(g:eH)(l:List Pos)(part:List Int)(b:List Bool)(n:Int):Prop:=∀ i∈part,gt b i=true→0<n→(stat g (gt l i)).2=false
def PI.step{g:eH}{l:List Pos}{nx:List (List Int)}{part:List Int}{bu n:Int}{v:List eO}{b:List Bool}(o:mG g l nx part bu)(hb:b.length=l.length)(n0:0≤n)(h:PI g l part b n):PI g l part (rB g l nx part v b n) (n+1):=fun i hi e _=>by
 have hr:=o.prt i hi
 rw[BL o hb hr.1 hr.2]at e
 split at e
 ·cases e
 ·rename_i hn
  by_cases e0:n=0
  ·subst e0
   by_cases hs:(stat g (gt l i)).2=true
   ·refine absurd ?_ hn
    unfold oV jQ
    rw[aH,ah]
    exact⟨hi,by unfold jc;rw[if_pos rfl];exact hs,e⟩
   ·simpa using hs
  ·exact h i hi e (by omega)
def agL{p:Int→Bool}{l:List Int}{i:Int}(i0:0≤i)(hi:i<l.length)(e:p (gt l i)=true):(l.take (i+1).toNat).filter p=(l.take i.toNat).filter p ++ [gt l i]:=by
 rw[gx i0 hi,br];simp[e]
def agK{p:Int→Bool}{l:List Int}{i:Int}(i0:0≤i)(hi:i<l.length)(e:p (gt l i)=false):(l.take (i+1).toNat).filter p=(l.take i.toNat).filter p:=by
 rw[gx i0 hi,br];simp[e]
def f44(g:eH)(hg:fe g)(l:List Pos)(hc:jo g l)(v:List eO)(hv:v.length=l.length)(part:List Int)(bu:Int)(o:mG g l (eS g l) part bu) :
  Wf T 44 [dG g,e7 l,fh v,dI part,.i bu] [] (Is (.agg [fh (kG g l (eS g l) part bu v (rep l.length)).2.1,.i (kG g l (eS g l) part bu v (rep l.length)).1,.i 0])):=by
 have hlen:=o.len
 have gK:=o.pl
 have tu:=o.bu
 refine Yg FH ?_
 simp[FH]
 refine Yc (f37 g hg l hc) ?_
 simp
 (with_reducible repeat' first|refine Xk ?_<;>try simp[hv]|refine Xs ?_ ?_<;>intro h<;>(try intro h')<;>(try simp[h,hv])<;>try omega|refine Xg ?_|omega)
 rw[hv]
 refine eN.e ((0,List.replicate l.length false):Int×List Bool) (fun y=>[(1,e7 l),(3,dI part),(4,.i bu),(5,.ptr 0 0 0),(10,.ptr 1 0 0),(11,.sl 1 ((eS g l).map fI)),(13,.ptr 4 0 0),(14,.i y.1)]) (fun y=>[.row 41 0 g.cells,.row 64 0 [.eG,.i 0,.i 0],.row 58 1 (cl fS v),.row 4 0 (cl fB y.2),.row 152 0 [.eF 2 1 2 0 l.length,.eF 3 0 1 0 l.length,.i 0]]) (fun y=>0≤y.1∧y.1≤l.length∧y.2.length=l.length∧∀ k:Int,0≤k→k<y.1→gt y.2 k=true) (fun y=>(l.length-y.1).toNat) ?_ ?_
 ·exact⟨by simp,by simp,by simp,fun k k0 k1=>by dsimp only at k1;omega⟩
 rintro⟨i,d⟩ ⟨i0,i1,i2,i3⟩
 dsimp only at i0 i1 i2 i3 ⊢
 by_cases hi:i<l.length
 ·have uP:=gN (v:=true) i0 (by omega:i<d.length)
  simp[hi]
  (with_reducible repeat' first|refine Xk ?_<;>try simp|refine Xs ?_ ?_<;>intro h<;>(try intro h')<;>(try simp[h])<;>try omega|refine Xg ?_|omega)
  refine LJ.e (i+1,pt d i true) ?_
  refine qx (fun k k0 k1=>?_)
  dsimp only at k1 ⊢
  rw[pz i0 (by omega) k0]
  split
  ·rfl
  ·exact i3 k k0 (by omega)
 have kT:i=l.length:=by omega
 subst kT
 have hd:d=nb (rep l.length):=Hu (by rw[i2,tO];simp[rep]) fun k k0 k1=>by
  rw[i3 k k0 (by omega),zn k0 (by simp[rep];omega)]
  unfold rep
  rw[zo k0];rfl
 subst hd
 clear i2 i3 i0 i1 hi
 simp
 (with_reducible repeat' first|refine Xk ?_<;>try simp|refine Xs ?_ ?_<;>intro h<;>(try intro h')<;>(try simp[h])<;>try omega|refine Xg ?_|omega)
 (try refine eN.s (by simp;rfl) ?_)
 (try refine eN.K2 (by simp;rfl) ?_)
 refine eN.e (0:Int) (fun y=>[(1,e7 l),(3,dI part),(4,.i bu),(5,.ptr 0 0 0),(10,.ptr 1 0 0),(11,.sl 1 ((eS g l).map fI)),(13,.ptr 4 0 0),(15,.i y)]) (fun y=>[.row 41 0 g.cells,.row 64 0 [.eG,.i 0,.i 0],.row 58 1 (cl fS v),.row 4 0 (cl fB (nb (jR (rep l.length) (fun _=>true) (part.take y.toNat)))),.row 152 0 [.eF 2 1 2 0 l.length,.eF 3 0 1 0 l.length,.i 0]]) (fun y=>0≤y∧y≤part.length) (fun y=>(part.length-y).toNat) ?_ ?_
 ·simp
 rintro i ⟨i0,i1⟩
 dsimp only at i0 i1 ⊢
 have Ls:∀ n:Nat,(jR (rep l.length) (fun _=>true) (part.take n)).length=l.length:=fun n=>by
  rw[oy _ _ _ fun k hk=>by have:=o.prt k (aJ hk);simp[rep];omega];simp[rep]
 by_cases hi:i<part.length
 ·have hk:=o.prt _ (eQ i0 hi)
  have h1:=CR (b:=jR (rep l.length) (fun _=>true) (part.take i.toNat)) (k:=gt part i) true
  have hl:=Ls i.toNat
  have iA:=tO (jR (rep l.length) (fun _=>true) (part.take i.toNat))
  simp[hi]
  (with_reducible repeat' first|refine Xk ?_<;>try simp|refine Xs ?_ ?_<;>intro h<;>(try intro h')<;>(try simp[h])<;>try omega|refine Xg ?_|omega)
  refine LJ.i (i+1) (by first|rfl|simp[gx i0 hi,pK,h1]) (by first|rfl|simp[gx i0 hi,pK,h1]) rfl rfl ?_
  omega
 have kT:i=part.length:=by omega
 subst kT
 have pS:=Ls part.length
 have lX:=(Mh o (show(rep l.length).length=l.length by simp[rep])).2
 rw[aC (Nat.le_refl _)]at pS
 unfold kG
 dsimp only
 generalize WJ:jR (rep l.length) (fun _=>true) part=b0 at *
 generalize hR:nu g l (eS g l) part bu 4001 0 v b0 0=R
 clear Ls hi i0 i1
 simp[WJ]
 (with_reducible repeat' first|refine Xk ?_<;>try simp|refine Xs ?_ ?_<;>intro h<;>(try intro h')<;>(try simp[h])<;>try omega|refine Xg ?_|omega)
 (try refine eN.s (by simp;rfl) ?_)
 (try refine eN.K2 (by simp;rfl) ?_)
 refine eN.e ((0,true,v,b0,0,4001):Int×Bool×List eO×List Bool×Int×Nat) (fun y=>[(1,e7 l),(3,dI part),(4,.i bu),(5,.ptr 0 0 0),(10,.ptr 1 0 0),(11,.sl 1 ((eS g l).map fI)),(13,.ptr 4 0 0),(16,.i y.1)]) (fun y=>(if y.2.1 then [.row 41 0 g.cells,.row 64 0 [.eG,.i 0,.i 0],.row 58 1 (cl fS v),.row 4 0 (cl fB (nb b0)),.row 152 0 [.eF 2 1 2 0 l.length,.eF 3 0 1 0 l.length,.i 0]]else [.row 41 0 g.cells,.row 64 0 [.eG,.i 0,.i 0],.row 58 1 (cl fS v),.row 4 0 (cl fB (nb b0)),.row 152 0 [.eF 5 1 2 0 l.length,.eF 6 1 1 0 l.length,.i y.2.2.2.2.1],.row 58 1 (cl fS y.2.2.1),.row 4 1 (cl fB (nb y.2.2.2.1))])) (fun y=>0≤y.1∧y.1+y.2.2.2.2.2=4001∧1≤y.2.2.2.2.2∧y.2.2.1.length=l.length∧y.2.2.2.1.length=l.length∧PI g l part y.2.2.2.1 y.1∧nu g l (eS g l) part bu y.2.2.2.2.2 y.1 y.2.2.1 y.2.2.2.1 y.2.2.2.2.1=R∧(0≤y.2.2.2.2.1∧y.2.2.2.2.1≤y.1*4000)∧(y.2.1=true→y.2.2.1=v∧y.2.2.2.1=b0∧y.2.2.2.2.1=0∧y.1=0)) (fun y=>y.2.2.2.2.2) ?_ ?_
 ·exact⟨by simp,by simp,by simp,hv,pS,fun i hi _ h=>by dsimp only at h;omega,hR,by simp,fun _=>⟨rfl,rfl,rfl,rfl⟩⟩
 rintro⟨n,fb,V,B,t,f⟩ ⟨n0,nf,f1,hV,hB,hP,hR,ht,PY⟩
 dsimp only at n0 nf f1 hV hB hP hR ht PY ⊢
 obtain⟨f,rfl⟩:∃ k,f=k+1:=⟨f-1,by omega⟩
 have P':=xZ B part bu part.length
 have Ue:=f79 B part bu (fun i hi=>by rw[hB];exact o.prt i hi) gK (by omega) tu
 have Oc:=VT V B (t+(lr B part bu part.length).1) n bu o (by omega) hV hB hP
 have PG:=hP.step (v:=V) o hB n0
 have zw:=IU o hV hB (n:=n)
 have KG:=IT o (v:=V) hB (n:=n)
 have JO:=f81 (rV g l (eS g l) part V B n) (rB g l (eS g l) part V B n) (t+(lr B part bu part.length).1) n n0 (by omega) (by omega)
 rw[nu,hV]at hR
 rw[zw]at JO
 have Qh:=(tO B).trans hB
 have XY:=(tO (rB g l (eS g l) part V B n)).trans KG
 generalize lr B part bu part.length=q at *
 generalize rV g l (eS g l) part V B n=V2 at *
 generalize rB g l (eS g l) part V B n=B2 at *
 obtain⟨s,hs⟩:∃ s,s=t+q.1:=⟨_,rfl⟩
 rw[← hs]at Oc JO hR
 cases fb
 case' true=>
  obtain⟨h1,h2,h3,h4⟩:=PY rfl
  replace h1:=h1.symm
  replace h2:=h2.symm
  subst h1 h2 h3 h4
  rw[Int.zero_add]at hs
 all_goals
  simp
  (with_reducible repeat' first|refine Xk ?_<;>try simp|refine Xs ?_ ?_<;>intro h<;>(try intro h')<;>(try simp[h])<;>try omega|refine Xg ?_|omega)
  refine gQ.r rfl rfl Ue (by simp;rw[py Qh.symm]) (by simp[flat]) (by simp) ?_
  simp[← hs]
  (with_reducible repeat' first|refine Xk ?_<;>try simp[← hs]|refine Xs ?_ ?_<;>intro h<;>(try intro h')<;>(try simp[h,← hs])<;>try omega|refine Xg ?_|omega)
  refine fg.nr rfl rfl Oc (by simp;exact⟨by rw[py hV.symm,MY],by rw[py Qh.symm]⟩) (by simp;rfl) (by simp) ?_
  simp
  (with_reducible repeat' first|refine Xk ?_<;>try simp|refine Xs ?_ ?_<;>intro h<;>(try intro h')<;>(try simp[h])<;>try omega|refine Xg ?_|omega)
  refine fg.r rfl rfl JO (by simp;exact⟨by rw[py zw.symm,MY],by rw[py XY.symm]⟩) (by simp[flat]) (by simp) ?_
  simp
  (with_reducible repeat' first|refine Xk ?_<;>try simp|refine Xs ?_ ?_<;>intro h<;>(try intro h')<;>(try simp[h])<;>try omega|refine Xg ?_|omega)
 case' neg.refine_2.true.refine_1=>
  rw[if_pos ⟨‹_›,by omega⟩]at hR
  refine LJ.e (0+1,false,V2,B2,s,f) ?_
  exact⟨by dsimp only;omega,by dsimp only;omega,by dsimp only;omega,by dsimp only;omega,zw,KG,PG,hR,by dsimp only;omega,fun h=>by cases h⟩
 case' neg.refine_2.false.refine_1.refine_2=>
  rw[if_pos ⟨‹_›,by omega⟩]at hR
  refine LJ.e (n+1,false,V2,B2,s,f) ?_
  exact⟨by dsimp only;omega,by dsimp only;omega,by dsimp only;omega,by dsimp only;omega,zw,KG,PG,hR,by dsimp only;omega,fun h=>by cases h⟩
 all_goals
  rw[if_neg (by omega)]at hR
  subst hR
  have vU:=fun n:Nat=>oy (fun _=>((2,0):eO)) ((part.take n).filter fun i=>gt B2 i) V2 (fun k hk=>by rw[zw];exact o.prt k (aJ (aH.1 hk).1))
  refine eN.s (by simp;rfl) ?_
  refine eN.K2 (by simp;rfl) ?_
  refine eN.e ((0,V2):Int×List eO) (fun y=>[(3,dI part),(10,.ptr 1 0 0),(13,.ptr 4 0 0),(17,.i y.1)]) (fun y=>[.row 41 0 g.cells,.row 64 0 [.eG,.i 0,.i 0],.row 58 1 (cl fS v),.row 4 0 (cl fB (nb b0)),.row 152 0 [.eF 5 1 2 0 l.length,.eF 6 1 1 0 l.length,.i s],.row 58 1 (cl fS y.2),.row 4 1 (cl fB (nb B2))]) (fun y=>0≤y.1∧y.1≤part.length∧y.2=jR V2 (fun _=>(2,0)) ((part.take y.1.toNat).filter fun i=>gt B2 i)) (fun y=>(part.length-y.1).toNat) ?_ ?_
  ·exact⟨by simp,by simp,rfl⟩
  rintro⟨i,w⟩ ⟨i0,i1,i2⟩
  dsimp only at i0 i1 i2 ⊢
  have oJ:w.length=l.length:=by rw[i2,vU,zw]
  by_cases hi:i<part.length
  ·have hk:=o.prt _ (eQ i0 hi)
   have ln:=zn (b:=B2) hk.1 (by omega)
   have qu:=agL (p:=fun i=>gt B2 i) i0 hi
   have pC:=agK (p:=fun i=>gt B2 i) i0 hi
   simp[hi,ln]
   (with_reducible repeat' first|refine Xk ?_<;>try simp[ln,nJ]|refine Xs ?_ ?_<;>intro h<;>(try intro h')<;>(try simp[h,ln,nJ])<;>try omega|refine Xg ?_|omega)
   ·refine LJ.e (i+1,pt w (gt part i) (2,0)) ?_
    refine eY ?_
    dsimp only
    rw[qu ‹_›,pK,← i2]
   ·refine LJ.e (i+1,w) ?_
    refine eY ?_
    dsimp only
    rw[pC ‹_›]
    exact i2
  ·have kT:i=part.length:=by omega
   subst kT
   rw[aC (by omega)]at i2
   simp[hi]
   (with_reducible repeat' first|refine Xk ?_<;>try simp|refine Xs ?_ ?_<;>intro h<;>(try intro h')<;>(try simp[h])<;>try omega|refine Xg ?_|omega)
   rw[py oJ.symm,MY,i2]
   rfl
end Go.Proofs.YtnaefnajkaohgaaGreatDoor
namespace Go.Proofs.YtnaefnajkaohgaaGreatDoor
open Go Go.AL Classical
set_option maxRecDepth 10000
set_option maxHeartbeats 16000000
section
variable{g:eH}{m:List Int}{l:List Pos}{out:List Int}
def f41(hg:fe g)(hm:kD g m)(hl:∀ p∈l,fO g p)(ho:out.length=l.length)(i q:Int)(hi:0≤i∧i<l.length)(hq:0≤q∧q<l.length):Wf T 41 [.agg [dI m],e7 l,dI out,.i i,.i q] [] (Is (.i (lu m l out i q))):=by
 refine Yg FF ?_
 simp[FF]
 (with_reducible repeat' first|refine Xk ?_<;>try simp|refine Xs ?_ ?_<;>intro h<;>(try intro h')<;>(try simp[h])<;>try omega|refine Xg ?_|omega)
 refine Yt (f28 hg hm (hl _ (eQ hq.1 hq.2))) ?_
 simp
 (with_reducible repeat' first|refine Xk ?_<;>try simp|refine Xs ?_ ?_<;>intro h<;>(try intro h')<;>(try simp[h])<;>try omega|refine Xg ?_|omega)
 refine Yt (f28 hg hm (hl _ (eQ hi.1 hi.2))) ?_
 simp
 unfold lu
 (with_reducible repeat' first|refine Xk ?_<;>try simp|refine Xs ?_ ?_<;>intro h<;>(try intro h')<;>(try simp[h])<;>try omega|refine Xg ?_|omega)
end
section
variable{g:eH}{l:List Pos}{m:List Int}{v:List eO}
structure KZ(g:eH)(l:List Pos)(m:List Int)(v:List eO)(n:Int)(w:List Int):Prop where
 len:w.length=l.length
 eq:∀ i:Int,0≤i→i<l.length→gt w i=if Act v i then(if gt (zR g l m v) i<n then gt (zR g l m v) i else -1)else 0
def KZ.tS{n:Int}{w:List Int}(hz:ZF g l m v (zR g l m v))(h:KZ g l m v n w)(n1:1≤n){i q:Int}(q0:0≤q)(q1:q<l.length):lu m l w i q=if lu m l (zR g l m v) i q<n then lu m l (zR g l m v) i q else -1:=by
 unfold lu
 by_cases hl:gM m (gt l q)<gM m (gt l i)
 ·rw[if_pos hl,if_pos hl,if_pos (by omega)]
 ·rw[if_neg hl,if_neg hl,h.eq q q0 q1]
  by_cases ha:Act v q
  ·rw[if_pos ha]
  ·rw[if_neg ha,hz.na q q0 q1 ha,if_pos (by omega)]
structure KP(v:List eO)(r:Int→Int)(n:Int)(x:List Int)(least most:Int)(all:Bool):Prop where
 l1:0≤least∧least≤n
 l2:∀ q∈x,(gt v q).1=3→r q<n→least≤r q
 l3:least=n∨∃ q∈x,(gt v q).1=3∧r q=least
 m1 : -1≤most∧most<n
 m2:∀ q∈x,r q<n→r q≤most
 m3:most = -1∨∃ q∈x,r q=most
 a1:all=true↔∀ q∈x,r q<n
def KP.nil{r:Int→Int}{n:Int}(n1:1≤n):KP v r n [] n (-1) true:=⟨by omega,fun q hq=>(by cases hq),.inl rfl,by omega,fun q hq=>(by cases hq),.inl rfl,by simp⟩
def KP.add{r:Int→Int}{n:Int}{x:List Int}{le mo:Int}{al:Bool}(h:KP v r n x le mo al){q:Int}(q0:0≤r q) :
  KP v r n (x ++ [q]) (if r q<n∧(gt v q).1=3 then min le (r q)else le) (if r q<n then max mo (r q)else mo) (al&&decide (r q<n)):=by
 have h1:=h.l1
 have h2:=h.m1
 refine⟨?_,fun k hk e e2=>?_,?_,?_,fun k hk e=>?_,?_,?_⟩
 ·split<;>omega
 ·rcases List.mem_append.1 hk with hk|hk
  ·have:=h.l2 k hk e e2
   split<;>omega
  ·rw[List.mem_singleton.1 hk]at e e2 ⊢
   rw[if_pos ⟨e2,e⟩];omega
 ·split
  ·rename_i hc
   by_cases e:r q≤le
   ·exact .inr ⟨q,by simp,hc.2,by omega⟩
   ·rcases h.l3 with h3|⟨k,hk,h3,h4⟩
    ·omega
    ·exact .inr ⟨k,by simp[hk],h3,by omega⟩
  ·rcases h.l3 with h3|⟨k,hk,h3,h4⟩
   ·exact .inl h3
   ·exact .inr ⟨k,by simp[hk],h3,h4⟩
 ·split<;>omega
 ·rcases List.mem_append.1 hk with hk|hk
  ·have:=h.m2 k hk e
   split<;>omega
  ·rw[List.mem_singleton.1 hk]at e ⊢
   rw[if_pos e];omega
 ·split
  ·by_cases e:mo≤r q
   ·exact .inr ⟨q,by simp,by omega⟩
   ·rcases h.m3 with h3|⟨k,hk,h3⟩
    ·omega
    ·exact .inr ⟨k,by simp[hk],by omega⟩
  ·rcases h.m3 with h3|⟨k,hk,h3⟩
   ·exact .inl h3
   ·exact .inr ⟨k,by simp[hk],h3⟩
 ·rw[ah,h.a1,decide_eq_true_eq]
  constructor
  ·rintro⟨a,b⟩ k hk
   rcases List.mem_append.1 hk with hk|hk
   ·exact a k hk
   ·rw[List.mem_singleton.1 hk];exact b
  ·exact fun a=>⟨fun k hk=>a k (by simp[hk]),a q (by simp)⟩
def KP.win{r:Int→Int}{n:Int}{x:List Int}{le mo:Int}{al:Bool}(h:KP v r n x le mo al)(hr:∀ k∈x,0≤r k){o:Int}(ho:o≠3)(hz:n≤pJ v o r x)(h1:1≤pJ v o r x):le=n-1↔pJ v o r x=n:=by
 have kc:∀ j:Nat,j<x.length→0≤r (gt x (j:Int)):=fun j hj=>hr _ (eQ (by omega) (by omega))
 obtain⟨a,b,c⟩:=Aa (v:=v) ho kc x.length (Nat.le_refl _)
 unfold pJ at *
 have hb:∀ q∈x,(gt v q).1=3→jD v o r x x.length≤r q:=fun q hq e=>by
  obtain⟨j,hj,rfl⟩:=x7.1 hq
  exact(b j hj e).2
 constructor
 ·intro e
  rcases h.l3 with h3|⟨q,hq,h3,h4⟩
  ·omega
  ·have:=hb q hq h3;omega
 ·intro e
  rcases c with c|⟨j,hj,c1,c2⟩
  ·omega
  ·have hm:=eQ (l:=x) (n:=(j:Int)) (by omega) (by omega)
   have h5:=h.l2 _ hm c1 (by omega)
   rcases h.l3 with h3|⟨q,hq,h3,h4⟩
   ·omega
   ·have:=hb q hq h3;omega
def KP.aan{r:Int→Int}{n:Int}{x:List Int}{le mo:Int}{al:Bool}(h:KP v r n x le mo al)(hx:x≠[])(hr:∀ k∈x,0≤r k)(hz:n≤pJ v 3 r x)(n1:1≤n):(al=true∧mo=n-1)↔pJ v 3 r x=n:=by
 obtain⟨a,b,c⟩:=z' (v:=v) (o:=3) (r:=r) (x:=x) rfl x.length
 unfold pJ at *
 have hb:∀ q∈x,r q≤jD v 3 r x x.length:=fun q hq=>by
  obtain⟨j,hj,rfl⟩:=x7.1 hq
  exact b j hj
 constructor
 ·rintro⟨e1,e2⟩
  have e1:=h.a1.1 e1
  rcases c with c|⟨j,hj,c⟩
  ·omega
  ·have hm:=eQ (l:=x) (n:=(j:Int)) (by omega) (by omega)
   have:=e1 _ hm
   omega
 ·intro e
  refine⟨h.a1.2 fun q hq=>by have:=hb q hq;omega,?_⟩
  rcases c with c|⟨j,hj,c⟩
  ·have jm:=az.2 hx
   have hm:=eQ (l:=x) (n:=0) (by omega) (by omega)
   have:=hb _ hm;have:=hr _ hm
   omega
  ·have hm:=eQ (l:=x) (n:=(j:Int)) (by omega) (by omega)
   have:=h.m2 _ hm (by omega)
   have:=h.m1
   omega
end
end Go.Proofs.YtnaefnajkaohgaaGreatDoor
namespace Go.Proofs.YtnaefnajkaohgaaGreatDoor
open Go Go.AL Classical
set_option maxRecDepth 10000
set_option maxHeartbeats 16000000
def f16(g:eH)(hg:fe g)(l:List Pos)(hc:jo g l)(m:List Int)(hm:yZ g m)(v:List eO)(gV:v.length=l.length)(hV:∀ k:Int,0≤k→k<l.length→nB (pn g l (eS g l)) v k):Wf T 16 [dG g,.agg [dI m],e7 l,fh v] [] (Is (.agg [dI (zR g l m v),.i 0])):=by
 have hlen:=hc.len
 have Lj:=hm.ok
 have tw:(eS g l).length=l.length:=by simp[eS]
 have ft:=fun i i0 i1=>(mB hc (i:=i) i0 i1).2
 have hb:∀ k:Int,0≤k→k<l.length→0≤(gt v k).2∧(gt v k).2<l.length:=fun k k0 k1=>Rp (A:=pn g l (eS g l)) ft hV k0 k1
 have hz:=TA (m:=m) hc hV
 have ie:∀ k:Int,0≤k→k<l.length→(gt (eS g l) k).length≤4000000000:=fun k k0 k1=>by
  rw[(mB hc k0 k1).1,List.length_map]
  have:=tN hg (hc.ok _ (eQ k0 k1));omega
 refine Yz AN (gL 13 [3] (gL 167 [1014] AN.body)) ?_
 simp[AN,gL,jg,lD,lH,lS,ku]
 refine Yc (f37 g hg l hc) ?_
 simp
 (with_reducible repeat' first|refine Xk ?_<;>try simp[gV]|refine Xs ?_ ?_<;>intro h<;>(try intro h')<;>(try simp[h,gV])<;>try omega|refine Xg ?_|omega)
 refine eN.e ((0,List.replicate l.length 0):Int×List Int) (fun y=>[(2,e7 l),(3,fh v),(5,.ptr 1 0 0),(8,.ptr 2 0 0),(9,.sl 1 ((eS g l).map fI)),(11,.eF 3 0 1 0 l.length),(12,.i y.1)]) (fun y=>[.row 41 0 g.cells,.row 50 0 [dI m],.row 60 0 [.eG,.i 0],.row 3 0 (cl f1 y.2)]) (fun y=>0≤y.1∧y.1≤l.length∧y.2.length=l.length∧∀ k:Int,0≤k→k<l.length→gt y.2 k=if k<y.1∧Act v k then -1 else 0) (fun y=>(l.length-y.1).toNat) ?_ ?_
 ·exact⟨by simp,by simp,by simp,fun k k0 k1=>by rw[if_neg (fun h=>by have:=h.1;dsimp only at this;omega)];exact zo k0 k1⟩
 rintro⟨i,w⟩ ⟨i0,i1,i2,i3⟩
 dsimp only at i0 i1 i2 i3 ⊢
 by_cases hi:i<l.length
 ·have hbi:=hb i i0 hi
  have uP:=gN (v:=(-1:Int)) i0 (by omega:i<w.length)
  have pC:¬ Act v i→∀ k:Int,0≤k→k<l.length→gt w k=if k<i+1∧Act v k then -1 else 0:=fun h k k0 k1=>by
   rw[i3 k k0 k1]
   by_cases e:k=i
   ·subst e
    rw[if_neg (fun a=>h a.2),if_neg (fun a=>h a.2)]
   ·simp only[show k<i+1↔k<i by omega]
  have qu:Act v i→∀ k:Int,0≤k→k<l.length→gt (pt w i (-1)) k=if k<i+1∧Act v k then -1 else 0:=fun h k k0 k1=>by
   rw[pz i0 (by omega) k0]
   by_cases e:k=i
   ·subst e
    rw[if_pos rfl,if_pos ⟨by omega,h⟩]
   ·rw[if_neg e,i3 k k0 k1]
    simp only[show k<i+1↔k<i by omega]
  simp[hi]
  (with_reducible repeat' first|refine Xk ?_<;>try simp|refine Xs ?_ ?_<;>intro h<;>(try intro h')<;>(try simp[h])<;>try omega|refine Xg ?_|omega)
  ·refine LJ.e (i+1,w) ?_
   exact eY ⟨i2,pC fun ha=>ha.1 ‹_›⟩
  ·refine LJ.e (i+1,pt w i (-1)) ?_
   exact qx (qu ⟨‹_›,by omega⟩)
  ·refine LJ.e (i+1,w) ?_
   exact eY ⟨i2,pC fun ha=>ha.2 (by omega)⟩
 have kT:i=l.length:=by omega
 subst kT
 have hK:KZ g l m v 1 w:=⟨i2,fun k k0 k1=>by
  rw[i3 k k0 k1]
  by_cases ha:Act v k
  ·have:=(hz.fx k k0 k1 ha).2
   rw[if_pos ⟨k1,ha⟩,if_pos ha,if_neg (by omega)]
  ·rw[if_neg (fun a=>ha a.2),if_neg ha]⟩
 clear i3 i0 i1 hi
 simp[i2]
 (with_reducible repeat' first|refine Xk ?_<;>try simp|refine Xs ?_ ?_<;>intro h<;>(try intro h')<;>(try simp[h])<;>try omega|refine Xg ?_|omega)
 refine eN.s (by simp[i2];rfl) ?_
 (try refine eN.K2 (by simp[i2];rfl) ?_)
 clear i2
 refine eN.e ((1,w):Int×List Int) (fun y=>[(2,e7 l),(3,fh v),(5,.ptr 1 0 0),(8,.ptr 2 0 0),(9,.sl 1 ((eS g l).map fI)),(11,dI y.2),(13,.i y.1)]) (fun y=>[.row 41 0 g.cells,.row 50 0 [dI m],.row 60 0 [.eG,.i 0],.dead]) (fun y=>1≤y.1∧y.1≤l.length+1∧KZ g l m v y.1 y.2) (fun y=>(l.length+1-y.1).toNat) ?_ ?_
 ·exact⟨by simp,by simp;omega,hK⟩
 clear hK
 rintro⟨n,w⟩ ⟨n0,n1,hK⟩
 dsimp only at n0 n1 hK ⊢
 have oJ:=hK.len
 by_cases hn:n≤l.length
 ·simp[hn,oJ]
  (with_reducible repeat' first|refine Xk ?_<;>try simp[oJ]|refine Xs ?_ ?_<;>intro h<;>(try intro h')<;>(try simp[h,oJ])<;>try omega|refine Xg ?_|omega)
  refine eN.e ((0,w):Int×List Int) (fun y=>[(2,e7 l),(3,fh v),(5,.ptr 1 0 0),(8,.ptr 2 0 0),(9,.sl 1 ((eS g l).map fI)),(11,dI w),(13,.i n),(14,.eF 4 1 1 0 l.length),(15,.i y.1)]) (fun y=>[.row 41 0 g.cells,.row 50 0 [dI m],.row 60 0 [.eG,.i 0],.dead,.row 3 1 (cl f1 y.2)]) (fun y=>0≤y.1∧y.1≤l.length∧y.2.length=l.length∧∀ k:Int,0≤k→k<l.length→gt y.2 k=if k<y.1 then(if Act v k then(if gt (zR g l m v) k<n+1 then gt (zR g l m v) k else -1)else 0)else gt w k) (fun y=>(l.length-y.1).toNat) ?_ ?_
  ·exact⟨by simp,by simp,oJ,fun k k0 k1=>by rw[if_neg (by dsimp only;omega)]⟩
  rintro⟨i,now⟩ ⟨i0,i1,i2,i3⟩
  dsimp only at i0 i1 i2 i3 ⊢
  by_cases hi:i<l.length
  ·have BZ:=hK.eq i i0 hi
   have Cq:=hz.lo i i0 hi
   have LM:=hz.fx i i0 hi
   have gw:=NT hV i0 hi
   have hx:=ft i i0 hi
   have hr:∀ q∈gt (eS g l) i,0≤lu m l (zR g l m v) i q∧lu m l (zR g l m v) i q≤4000:=fun q hq=>by
    have h1:=hz.lo q (hx q hq).1 (hx q hq).2
    have h2:=hb q (hx q hq).1 (hx q hq).2
    unfold lu
    split<;>omega
   have Cl:Act v i→(gt v i).1=1∨(gt v i).1=3:=fun ha=>by
    rcases hV i i0 hi with⟨_,e⟩|⟨_,⟨q,q1,e,_⟩|⟨q,q1,e,_⟩|⟨e,_⟩⟩
    ·exact absurd (by rw[e]) ha.2
    ·exact .inl (by rw[e])
    ·exact .inr (by rw[e])
    ·exact absurd (by rw[e]) ha.1
   have tC:(Act v i→gt (zR g l m v) i≠n)→∀ k:Int,0≤k→k<l.length→gt now k=if k<i+1 then(if Act v k then(if gt (zR g l m v) k<n+1 then gt (zR g l m v) k else -1)else 0)else gt w k:=fun h k k0 k1=>by
    rw[i3 k k0 k1]
    by_cases e:k=i
    ·subst e
     rw[if_neg (by omega),if_pos (by omega),BZ]
     by_cases ha:Act v k
     ·have:=h ha
      rw[if_pos ha,if_pos ha]
      by_cases e2:gt (zR g l m v) k<n
      ·rw[if_pos e2,if_pos (by omega)]
      ·rw[if_neg e2,if_neg (by omega)]
     ·rw[if_neg ha,if_neg ha]
    ·simp only[show k<i+1↔k<i by omega]
   have mA:Act v i→gt (zR g l m v) i=n→∀ k:Int,0≤k→k<l.length→gt (pt now i n) k=if k<i+1 then(if Act v k then(if gt (zR g l m v) k<n+1 then gt (zR g l m v) k else -1)else 0)else gt w k:=fun ha h k k0 k1=>by
    rw[pz i0 (by omega) k0]
    by_cases e:k=i
    ·subst e
     rw[if_pos rfl,if_pos (by omega),if_pos ha,if_pos (by omega),h]
    ·rw[if_neg e,i3 k k0 k1]
     simp only[show k<i+1↔k<i by omega]
   have gK:=gN (v:=n) i0 (by omega:i<now.length)
   have amb:=ie i i0 hi
   have sD:=fun q hq=>hK.tS hz n0 (i:=i) (hx q hq).1 (hx q hq).2
   unfold mC at LM
   simp[hi]
   (with_reducible repeat' first|refine Xk ?_<;>try simp|refine Xs ?_ ?_<;>intro h<;>(try intro h')<;>(try simp[h])<;>try omega|refine Xg ?_|omega)
   refine eN.e ((0,n,-1,true):Int×Int×Int×Bool) (fun y=>[(2,e7 l),(3,fh v),(5,.ptr 1 0 0),(8,.ptr 2 0 0),(9,.sl 1 ((eS g l).map fI)),(11,dI w),(13,.i n),(14,.eF 4 1 1 0 l.length),(15,.i i),(16,.i y.2.1),(17,.i y.2.2.1),(18,.b y.2.2.2),(19,.i y.1)]) (fun y=>[.row 41 0 g.cells,.row 50 0 [dI m],.row 60 0 [.eG,.i 0],.dead,.row 3 1 (cl f1 now)]) (fun y=>0≤y.1∧y.1≤(gt (eS g l) i).length∧KP v (lu m l (zR g l m v) i) n ((gt (eS g l) i).take y.1.toNat) y.2.1 y.2.2.1 y.2.2.2) (fun y=>((gt (eS g l) i).length-y.1).toNat) ?_ ?_
   ·exact⟨by simp,by simp,KP.nil n0⟩
   rintro⟨k,le,mo,al⟩ ⟨k0,k1,hP⟩
   dsimp only at k0 k1 hP ⊢
   by_cases hk:k<(gt (eS g l) i).length
   ·have hq:=eQ k0 hk
    have Yx:=hx _ hq
    have Oa:=f41 hg Lj hc.ok oJ i (gt (gt (eS g l) i) k) ⟨i0,hi⟩ Yx
    have xV:=hr _ hq
    have ql:=hP.add (q:=gt (gt (eS g l) i) k) xV.1
    rw[← gx k0 hk]at ql
    rw[sD _ hq]at Oa
    have sA:=hP.m1
    simp[hk]
    (with_reducible repeat' first|refine Xk ?_<;>try simp|refine Xs ?_ ?_<;>intro h<;>(try intro h')<;>(try simp[h])<;>try omega|refine Xg ?_|omega)
    refine Yt (Oa) ?_
    simp
    generalize lu m l (zR g l m v) i (gt (gt (eS g l) i) k)=rq at *
    by_cases pE:rq<n
    ·rw[if_pos pE]at ql
     by_cases h3:(gt v (gt (gt (eS g l) i) k)).1=3
     ·rw[if_pos ⟨pE,h3⟩]at ql
      cases al
      case' false=>rw[Bool.false_and]at ql
      case' true=>rw[Bool.true_and,decide_eq_true pE]at ql
      all_goals
       simp[pE,xV.1,h3,hk]
       (with_reducible repeat' first|refine Xk ?_<;>try simp[pE,xV.1,h3,hk]|refine Xs ?_ ?_<;>intro h<;>(try intro h')<;>(try simp[h,pE,xV.1,h3,hk])<;>try omega|refine Xg ?_|omega)
      ·refine LJ.e (k+1,min le rq,max mo rq,true) ?_
       exact eY ql
      ·refine LJ.e (k+1,min le rq,max mo rq,false) ?_
       exact eY ql
     ·rw[if_neg (fun h=>h3 h.2)]at ql
      cases al
      case' false=>rw[Bool.false_and]at ql
      case' true=>rw[Bool.true_and,decide_eq_true pE]at ql
      all_goals
       simp[pE,xV.1,h3,hk]
       (with_reducible repeat' first|refine Xk ?_<;>try simp[pE,xV.1,h3,hk]|refine Xs ?_ ?_<;>intro h<;>(try intro h')<;>(try simp[h,pE,xV.1,h3,hk])<;>try omega|refine Xg ?_|omega)
      ·refine LJ.e (k+1,le,max mo rq,true) ?_
       exact eY ql
      ·refine LJ.e (k+1,le,max mo rq,false) ?_
       exact eY ql
    ·rw[if_neg pE,if_neg (fun h=>pE h.1),decide_eq_false pE,Bool.and_false]at ql
     have B8:max mo (-1)=mo:=by omega
     cases al
     all_goals
      simp[pE,B8]
      (with_reducible repeat' first|refine Xk ?_<;>try simp[pE,B8]|refine Xs ?_ ?_<;>intro h<;>(try intro h')<;>(try simp[h,pE,B8])<;>try omega|refine Xg ?_|omega)
      refine LJ.i (k+1,le,mo,false) (by first|rfl|simp[B8]) (by first|rfl|simp[B8]) rfl rfl ?_
      exact eY ql
   ·have Lb:k=(gt (eS g l) i).length:=by omega
    subst Lb
    rw[aC (by omega)]at hP
    have H9:gt w i<0→Act v i∧n≤gt (zR g l m v) i:=fun h=>by
     rw[BZ]at h
     by_cases ha:Act v i
     ·rw[if_pos ha]at h
      refine⟨ha,?_⟩
      split at h<;>omega
     ·rw[if_neg ha]at h;omega
    have XH:¬ gt w i<0→Act v i→gt (zR g l m v) i≠n:=fun h ha e=>h (by rw[BZ,if_pos ha,if_neg (by omega)];omega)
    have QO:gt w i<0→(gt v i).1=1→(le=n-1↔gt (zR g l m v) i=n):=fun h e1=>by
     obtain⟨ha,h2⟩:=H9 h
     obtain⟨e3,h4⟩:=LM ha
     rw[e3]at h2 h4 ⊢
     exact hP.win (fun q hq=>(hr q hq).1) (by omega) h2 h4
    have Lh:gt w i<0→(gt v i).1=3→((al=true∧mo=n-1)↔gt (zR g l m v) i=n):=fun h e1=>by
     obtain⟨ha,h2⟩:=H9 h
     obtain⟨e3,h4⟩:=LM ha
     rw[e1]at e3
     rw[e3]at h2 ⊢
     exact hP.aan (gw ha) (fun q hq=>(hr q hq).1) h2 n0
    simp
    (with_reducible repeat' first|refine Xk ?_<;>try simp|refine Xs ?_ ?_<;>intro h<;>(try intro h')<;>(try simp[h])<;>try omega|refine Xg ?_|omega)
    ·have hu:gt w i<0 := ‹_›
     refine LJ.e (i+1,pt now i n) ?_
     exact qx (mA (H9 hu).1 ((QO hu ‹_›).1 ‹_›))
    ·have hu:gt w i<0 := ‹_›
     have h1:(gt v i).1=1 := ‹_›
     refine LJ.e (i+1,now) ?_
     exact eY ⟨i2,tC fun _ e=>absurd ((QO hu h1).2 e) ‹_›⟩
    ·have hu:gt w i<0 := ‹_›
     refine LJ.e (i+1,pt now i n) ?_
     exact qx (mA (H9 hu).1 ((Lh hu ‹_›).1 ⟨‹_›,‹_›⟩))
    ·have hu:gt w i<0 := ‹_›
     have h1:(gt v i).1=3 := ‹_›
     refine LJ.e (i+1,now) ?_
     exact eY ⟨i2,tC fun _ e=>absurd ((Lh hu h1).2 e).2 ‹_›⟩
    ·have hu:gt w i<0 := ‹_›
     have h1:(gt v i).1=3 := ‹_›
     have h2:al=false := ‹_›
     refine LJ.e (i+1,now) ?_
     exact eY ⟨i2,tC fun _ e=>by have:=((Lh hu h1).2 e).1;rw[h2]at this;cases this⟩
    ·refine LJ.e (i+1,now) ?_
     exact eY ⟨i2,tC fun ha=>((Cl ha).elim (fun h=>absurd h ‹_›) fun h=>absurd h ‹_›)⟩
    ·refine LJ.e (i+1,now) ?_
     exact eY ⟨i2,tC (XH ‹_›)⟩
  ·have kT:i=l.length:=by omega
   subst kT
   simp[hi,i2]
   (with_reducible repeat' first|refine Xk ?_<;>try simp[i2]|refine Xs ?_ ?_<;>intro h<;>(try intro h')<;>(try simp[h,i2])<;>try omega|refine Xg ?_|omega)
   refine LJ.e (n+1,now) ?_
   refine eY ⟨i2,fun k k0 k1=>?_⟩
   rw[i3 k k0 k1,if_pos k1]
 ·have gw:n=l.length+1:=by omega
  have e:w=zR g l m v:=BF (oJ.trans hz.len.symm) fun k k0 k1=>by
   rw[oJ]at k1
   rw[hK.eq k k0 k1]
   by_cases ha:Act v k
   ·have:=hz.lo k k0 k1
    have:=hb k k0 k1
    rw[if_pos ha,if_pos (by omega)]
   ·rw[if_neg ha,hz.na k k0 k1 ha]
  simp[hn]
  (with_reducible repeat' first|refine Xk ?_<;>try simp|refine Xs ?_ ?_<;>intro h<;>(try intro h')<;>(try simp[h])<;>try omega|refine Xg ?_|omega)
  rw[e]
