/- Part 39 of the proof of skewer.skewerlaw15.TableAgain. -/
import Derived.Test.YtnaefnajkaohgaaGreatDoorD38
import Derived.Test.YtnaefnajkaohgaaGreatDoorD27
import Derived.Test.YtnaefnajkaohgaaGreatDoorD22
set_option linter.all false
namespace Go.Proofs.YtnaefnajkaohgaaGreatDoor
open Go Go.AL Classical
set_option maxRecDepth 10000
set_option maxHeartbeats 8000000
def mm(i:Int):List Int→List (List Int)→List (List Int)
 | [],bs=>bs
 | k::r,bs=>mm i r (pt bs k (gt bs k ++ [i]))
def kr(nx:List (List Int)):Nat→List (List Int)
 | 0=>List.replicate nx.length []
 | n+1=>mm n (gt nx (n:Int)) (kr nx n)
theorem LL(i k:Int):∀ (r:List Int) (bs:List (List Int)),mm i (r ++ [k]) bs=pt (mm i r bs) k (gt (mm i r bs) k ++ [i])
 | [],_=>rfl
 | _::r,_=>LL i k r _
theorem GU(i:Int):∀ (r:List Int) (bs:List (List Int)),(∀ k∈r,0≤k∧k<bs.length)→(mm i r bs).length=bs.length
 | [],_,_=>rfl
 | k::r,bs,h=>by
  have h1:=h k (by simp)
  have h2:=gC (v:=gt bs k ++ [i]) h1.1 h1.2
  rw[mm,GU i r _ fun j hj=>by rw[h2];exact h j (by simp[hj]),h2]
theorem GR(i:Int):∀ (r:List Int) (bs:List (List Int)),(∀ k∈r,0≤k∧k<bs.length)→∀ j:Int,0≤j→(gt (mm i r bs) j).length≤(gt bs j).length+r.length
 | [],_,_,_,_=>by simp[mm]
 | k::r,bs,h,j,hj=>by
  have h1:=h k (by simp)
  have h2:=gC (v:=gt bs k ++ [i]) h1.1 h1.2
  have h3:=GR i r (pt bs k (gt bs k ++ [i])) (fun j hj=>by rw[h2];exact h j (by simp[hj])) j hj
  rw[lA h1.1 h1.2 hj]at h3
  rw[mm]
  by_cases e:j=k
  ·rw[if_pos e]at h3
   subst e
   simp at h3 ⊢
   omega
  ·rw[if_neg e]at h3
   simp
   omega
section
variable{nx:List (List Int)}
theorem rR(hk:∀ x∈nx,∀ k∈x,0≤k∧k<nx.length):∀ n:Nat,n≤nx.length→(kr nx n).length=nx.length
 | 0,_=>by simp[kr]
 | n+1,h=>by
  have:=rR hk n (by omega)
  rw[kr,GU,this]
  rw[this]
  exact hk _ (eY (by omega) (by omega))
theorem GQ(hk:∀ x∈nx,∀ k∈x,0≤k∧k<nx.length)(hx:∀ x∈nx,x.length≤4000000000):∀ n:Nat,n≤nx.length→∀ j:Int,0≤j→(gt (kr nx n) j).length≤n*4000000000
 | 0,_,j,hj=>by
  have:∀ a∈kr nx 0,a = []:=fun a ha=>c9 ha
  by_cases h:j<(kr nx 0).length
  ·rw[this _ (eY hj h)];simp
  ·unfold gt
   rw[List.getD_eq_getElem?_getD,aG (by omega)]
   show([]:List Int).length≤_
   simp
 | n+1,h,j,hj=>by
  have h1:=GQ hk hx n (by omega) j hj
  have h2:=eY (l:=nx) (n:=(n:Int)) (by omega) (by omega)
  have h3:=GR n (gt nx (n:Int)) (kr nx n) (by rw[rR hk n (by omega)];exact hk _ h2) j hj
  have h4:=hx _ h2
  rw[kr]
  omega
end
theorem MR{α:Type}(f:List Int→α):∀ bs:List (List Int),(bs.map fun b=>[f b]).flatten=bs.map f
 | []=>rfl
 | b::r=>by simp[MR f r]
theorem sT{bs:List (List Int)}{H:U}(h:BI bs H):1≤H.length:=by
 obtain⟨_,_,b0,_⟩:=h
 exact(ae.1 b0).1
theorem yZ(nx:List (List Int)):closed (.sl 1 (nx.map fN))=true:=by
 simp
theorem RG(x:List Int):closed (dN 1 f1 x)=true:=by
 simp
theorem QN{bs:List (List Int)}{H:U}(h:BI bs H){n:Nat}(hn:n=bs.length):leave 0 0 H (.eN 0 0 1 0 n)=(.sl 1 (bs.map fN),[]):=by
 obtain⟨cells,f,b0,bl,bc,bf,bi⟩:=h
 have hl:0<H.length:=(ae.1 b0).1
 subst hn
 unfold leave
 rw[if_neg (by omega)]
 simp only[de,List.map_nil,cG,aw,cK]
 have kR:∀ v,fM (gh 0 (dedup [])) v=none:=fun v=>by simp[gh,dedup,fM]
 refine ef ?_ (by simp[gh,dedup,mF])
 show eS (fM (gh 0 (dedup []))) H 40 (.eN 0 0 1 0 bs.length)=_
 generalize fM (gh 0 (dedup []))=ρ at *
 rw[AL.Gl,kR,Qb]
 have hr:AL.rowAt H 0 0=some (33,cells):=by simp[rowAt,b0]
 rw[hr]
 unfold lI
 dsimp only
 rw[if_pos (by omega),cc,dM]
 have hm:cells.map (eS ρ H 39)=cl fN bs:=by
  rw[lF]
  have:bs.map fN=bs.map fun b=>[dN 1 f1 b]:=aj fun b _=>oc b
  rw[this,MR]
  refine bK fun j=>?_
  rw[ar,ar]
  by_cases hj:j<bs.length
  ·rw[bc j hj,List.getElem?_eq_getElem hj]
   have hd:bs.getD j []=bs[j]:=by rw[List.getD_eq_getElem?_getD,List.getElem?_eq_getElem hj];rfl
   have hf:=bf j hj
   rw[hd]at hf ⊢
   generalize bs[j]=b at *
   by_cases hb:b = []
   ·subst hb;rfl
   ·rw[if_neg hb]
    have hf:=(hf hb).2
    simp only[aX,AL.Gl,kR,Qb]
    rw[show AL.rowAt H (f j) (b.length-1)=some (3,cl f1 b)by simp[rowAt,hf],qW rfl]
    cases b with
    | nil=>exact absurd rfl hb
    | cons a r=>rfl
  ·rw[aG (by omega),aG (by omega)]
   rfl
 rw[hm,lF,DN (f:=fN) (sz:=1) (Fl.len (f:=fN))]
attribute [-simp] Hi LM OI LN
theorem f55(nx:List (List Int))(hk:∀ x∈nx,∀ k∈x,0≤k∧k<nx.length)(h9:nx.length≤4000)(hx:∀ x∈nx,x.length≤4000000000):Wf T 55 [.sl 1 (nx.map fN)] [] (Is (.sl 1 ((kr nx nx.length).map fN))):=by
 refine Yg C7 ?_
 simp[C7]
 (with_reducible repeat' first|refine Xk ?_<;>try simp|refine Xs ?_ ?_<;>intro h<;>(try intro h')<;>(try simp[h])<;>(try omega)|refine Xg ?_|omega)
 refine eW.e ((0,[.row 33 0 (List.replicate nx.length .emp)]):Int×U) (fun y=>[(3,.eN 0 0 1 0 nx.length),(11,.sl 1 (nx.map fN)),(12,.i nx.length),(13,.i y.1)]) (fun y=>y.2) (fun y=>0≤y.1∧y.1≤nx.length∧BI (kr nx y.1.toNat) y.2) (fun y=>(nx.length-y.1).toNat) ?_ ?_
 ·simp[kr,BI.start]
 rintro⟨i,H⟩ ⟨i0,i1,i2⟩
 dsimp only at i0 i1 i2 ⊢
 by_cases hi:i<nx.length
 ·simp[hi,oc]
  (with_reducible repeat' first|refine Xk ?_<;>try simp|refine Xs ?_ ?_<;>intro h<;>(try intro h')<;>(try simp[h])<;>(try omega)|refine Xg ?_|omega)
  refine eW.e ((0,H):Int×U) (fun y=>[(3,.eN 0 0 1 0 nx.length),(4,.i i),(11,.sl 1 (nx.map fN)),(12,.i nx.length),(13,.i i),(18,dN 1 f1 (gt nx i)),(19,.i (gt nx i).length),(20,.i y.1)]) (fun y=>y.2) (fun y=>0≤y.1∧y.1≤(gt nx i).length∧BI (mm i ((gt nx i).take y.1.toNat) (kr nx i.toNat)) y.2) (fun y=>((gt nx i).length-y.1).toNat) ?_ ?_
  ·simp[mm,i2]
  rintro⟨j,H1⟩ ⟨j0,j1,j2⟩
  dsimp only at j0 j1 j2 ⊢
  have qq:=hx _ (eY i0 hi)
  by_cases hj:j<(gt nx i).length
  ·obtain⟨cells,f,b0,bl,bc,bf,bi⟩:=j2
   have ER:=(ae.1 b0).1
   have fw:=hk _ (eY i0 hi) _ (eY j0 hj)
   simp[hj]
   generalize jc:gt (gt nx i) j=k at *
   generalize oh:mm i ((gt nx i).take j.toNat) (kr nx i.toNat)=bs at *
   have oO:bs.length=nx.length:=by
    rw[← oh,GU,rR hk _ (by omega)]
    rw[rR hk _ (by omega)]
    exact fun k h=>hk _ (eY i0 hi) k (aM h)
   have hgl:(gt bs k).length≤17000000000000:=by
    have h1:=GR i ((gt nx i).take j.toNat) (kr nx i.toNat) (by rw[rR hk _ (by omega)];exact fun k h=>hk _ (eY i0 hi) k (aM h)) k fw.1
    have h2:=GQ hk hx i.toNat (by omega) k fw.1
    have h3:=hx _ (eY i0 hi)
    rw[oh,aT]at h1
    omega
   have kP:mm i ((gt nx i).take (j+1).toNat) (kr nx i.toNat)=bs.set k.toNat (gt bs k ++ [i]):=by
    rw[show(j+1).toNat=j.toNat+1 by omega,List.take_add_one,List.getElem?_eq_getElem (by omega),Option.toList_some,LL,oh,← nL j0 hj,jc,AM fw.1 (by omega)]
   have q5:=bc k.toNat (by omega)
   have zG:bs.getD k.toNat []=gt bs k:=rfl
   rw[zG]at q5
   have q0:∀ G,(H1++G)[0]? = some (.row 33 0 cells):=fun G=>by rw[ag ER,b0]
   have q1:∀ G (h:0<(H1++G).length),(H1++G)[0]'h = .row 33 0 cells:=fun G h=>by
    have:=q0 G
    rw[List.getElem?_eq_getElem h]at this
    exact cJ this
   have EW:∀ {n:Nat},0<n→∀ {j:Int},nU n [(3,.eN 0 0 1 0 nx.length),(4,.i i),(11,.sl 1 (nx.map fN)),(12,.i nx.length),(13,.i i),(18,dN 1 f1 (gt nx i)),(19,.i (gt nx i).length),(20,.i j)]:=fun hn=>
    xL hn (nz rfl (nz (yZ nx) (nz rfl (nz rfl (nz (RG _) (nz rfl (nz rfl xK)))))))
   by_cases hb:gt bs k = []
   ·rw[if_pos hb]at q5
    simp[b0,fw]
    simp[q5]
    (with_reducible repeat' first|refine Xk ?_<;>try simp[b0]|refine Xs ?_ ?_<;>intro h<;>(try intro h')<;>(try simp[h,b0])<;>(try omega)|refine Xg ?_|omega)
    simp[q0,q1,bl,oO,fw]
    (with_reducible repeat' first|refine Xk ?_<;>try simp|refine Xs ?_ ?_<;>intro h<;>(try intro h')<;>(try simp[h])<;>(try omega)|refine Xg ?_|omega)
    have hB:BI (bs.set k.toNat (gt bs k ++ [i])) ((H1 ++ [Ob.row 3 0 [.i i],Ob.row 3 0 [.i i]]).set 0 (Ob.row 33 0 (pt cells k (.eN (H1.length+1) 0 1 0 1)))):=by
     rw[hb,AM fw.1 (by omega)]
     refine BI.put bl bc bf bi (by omega) (by simp) (p:=H1.length+1) (by omega) ?_ ?_ fun j hj Nz hb=>?_
     ·simp
     ·rw[cr (by omega)];simp[gW]
     ·have:=(ae.1 (bf j hj hb).2).1
      rw[cr (by have:=(bf j hj hb).1;omega),ag this]
      exact⟨rfl,by omega⟩
    refine DC (id:=3) hB (by omega) (by exact EW ER) fun H2 h2=>?_
    simp
    (with_reducible repeat' first|refine Xk ?_<;>try simp|refine Xs ?_ ?_<;>intro h<;>(try intro h')<;>(try simp[h])<;>(try omega)|refine Xg ?_|omega)
    refine Jq h2 (sT i2) (by exact EW (sT i2)) fun H3 h3=>?_
    refine LJ.e (j+1,H3) ?_
    refine⟨by dsimp only;omega,by dsimp only;omega,by dsimp only;omega,?_⟩
    dsimp only
    rw[kP]
    exact h3
   ·rw[if_neg hb]at q5
    have tK:=(bf k.toNat (by omega) hb).2
    rw[zG]at tK
    have pa:=(ae.1 tK).1
    have T2:=(bf k.toNat (by omega) hb).1
    have q2:∀ G,(H1++G)[f k.toNat]? = some (.row 3 ((gt bs k).length-1) (cl f1 (gt bs k))):=fun G=>by rw[ag pa,tK]
    have q3:∀ G y,((H1++G).set (f k.toNat) y)[0]? = some (.row 33 0 cells):=fun G y=>by rw[cr (by omega),q0]
    have q4:∀ G y (h:0<((H1++G).set (f k.toNat) y).length),((H1++G).set (f k.toNat) y)[0]'h = .row 33 0 cells:=fun G y h=>by
     rw[List.getElem_set_ne (by omega),q1]
    simp[b0,fw,q5]
    (with_reducible repeat' first|refine Xk ?_<;>try simp[b0,tK]|refine Xs ?_ ?_<;>intro h<;>(try intro h')<;>(try simp[h,b0,tK])<;>(try omega)|refine Xg ?_|omega)
    simp[q2]
    (with_reducible repeat' first|refine Xk ?_<;>try simp|refine Xs ?_ ?_<;>intro h<;>(try intro h')<;>(try simp[h])<;>(try omega)|refine Xg ?_|omega)
    simp[q3,q4,bl,oO,fw]
    have vx:0<(gt bs k).length:=aA.2 hb
    have hB:BI (bs.set k.toNat (gt bs k ++ [i])) (((H1 ++ [Ob.row 3 0 [.i i]]).set (f k.toNat) (Ob.row 3 ((gt bs k).length-1+1) (cl f1 (gt bs k ++ [i])))).set 0 (Ob.row 33 0 (pt cells k (.eN (f k.toNat) ((gt bs k).length-1+1) 1 0 ((gt bs k).length+1))))):=by
     rw[AM fw.1 (by omega)]
     have hx:(gt bs k ++ [i]).length=(gt bs k).length+1:=by simp
     rw[← hx,show(gt bs k).length-1+1=(gt bs k ++ [i]).length-1 by omega]
     refine BI.put bl bc bf bi (by omega) (by simp) T2 ?_ ?_ fun j hj Nz vf=>?_
     ·rw[dv (by simp)]
     ·rw[cr (by omega),dv (by simp;omega)]
     ·have l7:=(ae.1 (bf j hj vf).2).1
      have fY:f j≠f k.toNat:=fun e=>Nz (bi j k.toNat hj (by omega) vf (by rw[zG];exact hb) e)
      rw[cr (by have:=(bf j hj vf).1;omega),cr (fun e=>fY e.symm),ag l7]
      exact⟨rfl,fY⟩
    refine DC (id:=3) hB (by omega) (by exact EW ER) fun H2 h2=>?_
    simp
    (with_reducible repeat' first|refine Xk ?_<;>try simp|refine Xs ?_ ?_<;>intro h<;>(try intro h')<;>(try simp[h])<;>(try omega)|refine Xg ?_|omega)
    refine Jq h2 (sT i2) (by exact EW (sT i2)) fun H3 h3=>?_
    refine LJ.e (j+1,H3) ?_
    refine⟨by dsimp only;omega,by dsimp only;omega,by dsimp only;omega,?_⟩
    dsimp only
    rw[kP]
    exact h3
  ·simp[hj]
   refine DC (id:=2) j2 (sT i2) (by exact xL (sT i2) (nz (yZ nx) (nz rfl (nz rfl xK)))) fun H2 h2=>?_
   refine DC (id:=1) h2 (sT i2) (by exact xL (sT i2) (nz (yZ nx) (nz rfl (nz rfl xK)))) fun H3 h3=>?_
   simp
   (with_reducible repeat' first|refine Xk ?_<;>try simp|refine Xs ?_ ?_<;>intro h<;>(try intro h')<;>(try simp[h])<;>(try omega)|refine Xg ?_|omega)
   refine Jq h3 (by omega) (by exact xL (by omega) (nz (yZ nx) (nz rfl (nz rfl xK)))) fun H4 h4=>?_
   refine LJ.e (i+1,H4) ?_
   refine⟨by dsimp only;omega,by dsimp only;omega,by dsimp only;omega,?_⟩
   dsimp only
   rw[show(i+1).toNat=i.toNat+1 by omega,kr,show((i.toNat:Nat):Int)=i by omega]
   rw[aH (by omega)]at h4
   exact h4
 ·simp[hi]
  refine Q9 (id:=0) i2 (by omega) (by exact xL (by omega) xK) fun H2 h2=>?_
  simp
  (with_reducible repeat' first|refine Xk ?_<;>try simp|refine Xs ?_ ?_<;>intro h<;>(try intro h')<;>(try simp[h])<;>(try omega)|refine Xg ?_|omega)
  rw[show i.toNat=nx.length by omega]at h2
  rw[QN h2 (by rw[rR hk _ (by omega)])]
  exact⟨rfl,rfl⟩
end Go.Proofs.YtnaefnajkaohgaaGreatDoor
namespace Go.Proofs.YtnaefnajkaohgaaGreatDoor
open Go Go.AL Classical
set_option maxRecDepth 10000
set_option maxHeartbeats 8000000
structure ko(g:eO)(m:List Int):Prop where
 len:m.length=g.kinds.length
 num:∀ a∈m,1≤a∧a≤6
def mA(m:List Int)(x:Int):Int:=if 0≤ff x then gt m (ff x)else 0
def nv(m cs:List Int):Nat→Int
 | 0=>0
 | i+1=>nv m cs i+mA m (gt cs (i:Int))
def mB(m a b:List Int):Nat→Int
 | 0=>0
 | i+1=>mB m a b i+gt m (i:Int)*(gt a (i:Int)+gt b (i:Int))
def vS(r:Int):Int:=if r=0 then 0 else if r=3 then 2 else 1
def fV(m:List Int)(p:Pos):Int:=nv m p.cs p.cs.length+mB m p.h0 p.h1 m.length+vS p.fg
@[simp] theorem ajx(m cs:List Int):nv m cs 0=0:=rfl
@[simp] theorem ajy(m a b:List Int):mB m a b 0=0:=rfl
theorem WE{m cs:List Int}{i:Int}(i0:0≤i):nv m cs (i+1).toNat=nv m cs i.toNat+mA m (gt cs i):=by
 have h:(i+1).toNat=i.toNat+1:=by omega
 have h2:((i.toNat:Nat):Int)=i:=by omega
 rw[h,nv,h2]
theorem WG{m a b:List Int}{i:Int}(i0:0≤i):mB m a b (i+1).toNat=mB m a b i.toNat+gt m i*(gt a i+gt b i):=by
 have h:(i+1).toNat=i.toNat+1:=by omega
 have h2:((i.toNat:Nat):Int)=i:=by omega
 rw[h,mB,h2]
section
variable{g:eO}{m:List Int}{p:Pos}
theorem OU(hk:g.kinds.length≤2){x:Int}(h:0≤x∧x≤2*g.kinds.length)(h2:0≤ff x):ff x<g.kinds.length:=by
 unfold ff at *
 split at h2
 ·rw[if_pos (by assumption)];omega
 ·omega
theorem OP(hg:fi g)(hm:ko g m)(hp:fF g p){x:Int}(hx:x∈p.cs):0≤mA m x∧mA m x≤6:=by
 unfold mA
 split
 ·rename_i h
  have:=OU hg.kinds.2 (hp.cs x hx) h
  have:=hm.num _ (eY h (by rw[hm.len];exact this))
  omega
 ·omega
theorem FC(hg:fi g)(hm:ko g m)(hp:fF g p):∀ i:Nat,i≤p.cs.length→0≤nv m p.cs i∧nv m p.cs i≤6*i
 | 0,_=>by simp
 | i+1,h=>by
  have h1:=FC hg hm hp i (by omega)
  have h2:=OP hg hm hp (eY (l:=p.cs) (n:=(i:Int)) (by omega) (by omega))
  rw[nv]
  omega
theorem W1{a b:Int}(h1:1≤a∧a≤6)(h2:0≤b∧b≤16):0≤a*b∧a*b≤96:=by
 have h3:=Int.mul_nonneg (by omega:0≤a) h2.1
 have h4:=Int.mul_le_mul h1.2 h2.2 h2.1 (by omega:(0:Int)≤6)
 omega
theorem OQ(hm:ko g m)(hp:fF g p){i:Int}(i0:0≤i)(i1:i<m.length):(0≤gt p.h0 i+gt p.h1 i∧gt p.h0 i+gt p.h1 i≤16)∧0≤gt m i*(gt p.h0 i+gt p.h1 i)∧gt m i*(gt p.h0 i+gt p.h1 i)≤96:=by
 have l0:=hp.h0.len
 have l1:=hp.h1.len
 have lm:=hm.len
 have a0:=hp.h0.at_ i i0 (by omega)
 have a1:=hp.h1.at_ i i0 (by omega)
 have h:0≤gt p.h0 i+gt p.h1 i∧gt p.h0 i+gt p.h1 i≤16:=by omega
 exact⟨h,W1 (hm.num _ (eY i0 i1)) h⟩
theorem FE(hm:ko g m)(hp:fF g p):∀ i:Nat,i≤m.length→0≤mB m p.h0 p.h1 i∧mB m p.h0 p.h1 i≤96*i
 | 0,_=>by simp
 | i+1,h=>by
  have h1:=FE hm hp i (by omega)
  have h2:=OQ hm hp (i:=(i:Int)) (by omega) (by omega)
  rw[mB]
  omega
theorem PW(hg:fi g)(hp:fF g p):p.fg=0∨p.fg=1∨p.fg=2∨p.fg=3:=by
 have h1:=hg.fg
 have h2:=hp.fg
 rcases(show g.fg=0∨g.fg=1∨g.fg=2 by omega)with e|e|e<;>rw[e]at h2<;>simp at h2<;>omega
theorem aby(r:Int):0≤vS r∧vS r≤2:=by unfold vS;(repeat' split)<;>omega
theorem OB(hg:fi g)(hm:ko g m)(hp:fF g p):0≤fV m p∧fV m p≤1000:=by
 have h1:=FC hg hm hp p.cs.length (Nat.le_refl _)
 have h2:=FE hm hp m.length (Nat.le_refl _)
 have h3:=aby p.fg
 have h4:=hp.size
 have h5:=hg.gV.size
 have h6:=hg.kinds
 have h7:=hm.len
 unfold fV
 omega
end
end Go.Proofs.YtnaefnajkaohgaaGreatDoor
namespace Go.Proofs.YtnaefnajkaohgaaGreatDoor
open Go Go.AL Classical
def tX(n:Int):List Int→List Int
 | []=>[n]
 | a::r=>if n<a then n::a::r else if n=a then a::r else a::tX n r
def x6:List Int→List Int
 | []=>[]
 | a::r=>tX a (x6 r)
def pD(l:List Int):Prop:=l.Pairwise fun a b=>a<b
theorem JB{n x:Int}:∀ {l:List Int},x∈tX n l↔x=n∨x∈l
 | []=>by simp[tX]
 | a::r=>by
  unfold tX
  split
  ·simp
  ·split
   ·rename_i h;subst h;simp
   ·simp only[au,JB (l:=r)]
    constructor
    ·rintro(h|h|h)<;>simp[h]
    ·rintro(h|h|h)<;>simp[h]
theorem Qo{n:Int}:∀ {l:List Int},pD l→pD (tX n l)
 | [],_=>by simp[tX,pD]
 | a::r,h=>by
  obtain⟨h1,h2⟩:=aL.1 h
  unfold tX
  split
  ·rename_i hn
   refine aL.2 ⟨fun x hx=>?_,h⟩
   rcases au.1 hx with rfl|hx
   ·exact hn
   ·have:=h1 x hx;omega
  ·split
   ·exact h
   ·refine aL.2 ⟨fun x hx=>?_,Qo h2⟩
    rcases JB.1 hx with rfl|hx
    ·omega
    ·exact h1 x hx
theorem FG{x:Int}:∀ {l:List Int},x∈x6 l↔x∈l
 | []=>by simp[x6]
 | a::r=>by rw[x6,JB,FG (l:=r),au]
theorem Kj:∀ (l:List Int),pD (x6 l)
 | []=>List.Pairwise.nil
 | a::r=>Qo (Kj r)
theorem pD.nd{l:List Int}(h:pD l):l.Nodup:=List.Pairwise.imp (fun h=>by omega) h
theorem Of:∀ {l l':List Int},pD l→pD l'→(∀ x,x∈l↔x∈l')→l=l'
 | [],[],_,_,_=>rfl
 | [],b::r,_,_,h=>absurd ((h b).2 (by simp)) (by simp)
 | a::r,[],_,_,h=>absurd ((h a).1 (by simp)) (by simp)
 | a::r,b::t,h1,h2,h=>by
  obtain⟨a1,a2⟩:=aL.1 h1
  obtain⟨b1,b2⟩:=aL.1 h2
  have e:a=b:=by
   rcases au.1 ((h a).1 (by simp))with e|e
   ·exact e
   ·rcases au.1 ((h b).2 (by simp))with e2|e2
    ·exact e2.symm
    ·have:=b1 _ e;have:=a1 _ e2;omega
  subst e
  rw[Of a2 b2 fun x=>?_]
  have:=h x
  simp only[au]at this
  constructor
  ·intro hx
   rcases this.1 (.inr hx)with e|e
   ·have:=a1 x hx;omega
   ·exact e
  ·intro hx
   rcases this.2 (.inr hx)with e|e
   ·have:=b1 x hx;omega
   ·exact e
noncomputable def r9(m:List Int)(l:List Pos)(n:Int)(k:Nat):List Int:=(upto k).filter fun i=>decide (fV m (gt l i)=n)
noncomputable def lY(m:List Int)(l:List Pos)(n:Int):List Int:=r9 m l n l.length
noncomputable def ph(m:List Int)(l:List Pos):List Int:=x6 (l.map (fV m))
noncomputable def mY(m:List Int)(l:List Pos):List (List Int):=(ph m l).map (lY m l)
theorem O2{m:List Int}{l:List Pos}{n:Int}{k:Nat}{i:Int}:i∈r9 m l n k↔(0≤i∧i<k)∧fV m (gt l i)=n:=by
 unfold r9
 rw[aI,pS]
 simp
theorem sK{m:List Int}{l:List Pos}{n:Int}{i:Int}:i∈lY m l n↔(0≤i∧i<l.length)∧fV m (gt l i)=n:=O2
theorem SR{m:List Int}{l:List Pos}{n:Int}{i:Int}(i0:0≤i):r9 m l n (i+1).toNat=r9 m l n i.toNat++if fV m (gt l i)=n then [i]else []:=by
 unfold r9
 rw[qF i0,cv]
 congr 1
 by_cases h:fV m (gt l i)=n<;>simp[h]
theorem QC(n:Nat):pD (upto n):=by
 unfold upto pD
 rw[dV]
 exact List.pairwise_lt_range.imp fun h=>by omega
theorem MO(m:List Int)(l:List Pos)(n:Int):pD (lY m l n):=List.Pairwise.filter _ (QC _)
theorem MN(m:List Int)(l:List Pos)(n:Int):(lY m l n).Nodup:=(MO m l n).nd
theorem SS(m:List Int)(l:List Pos)(n:Int):(lY m l n).length≤l.length:=uf _ _ (MN m l n) fun y hy=>(sK.1 hy).1
theorem SU{m:List Int}{l:List Pos}{n:Int}(h:n∈ph m l):0<(lY m l n).length:=by
 unfold ph at h
 rw[FG]at h
 obtain⟨p,hp,e⟩:=av.1 h
 obtain⟨i,i0,i1,rfl⟩:=rv.1 hp
 exact dw (sK.2 ⟨⟨i0,i1⟩,e⟩)
theorem WL(m:List Int)(l:List Pos):(ph m l).Nodup:=(Kj _).nd
theorem JC{m:List Int}{l:List Pos}{n:Int}:n∈ph m l↔∃ i:Int,0≤i∧i<l.length∧fV m (gt l i)=n:=by
 unfold ph
 rw[FG,av]
 constructor
 ·rintro⟨p,hp,e⟩
  obtain⟨i,i0,i1,rfl⟩:=rv.1 hp
  exact⟨i,i0,i1,e⟩
 ·rintro⟨i,i0,i1,e⟩
  exact⟨_,eY i0 i1,e⟩
theorem WK(m:List Int)(l:List Pos):(ph m l).length≤l.length:=by
 have:=xG (WL m l) (m:=l.map (fV m)) fun x hx=>FG.1 hx
 simpa using this
theorem Mk{m:List Int}{l:List Pos}{p:List Int}(h:p∈mY m l):p.Nodup∧p.length≤l.length∧0<p.length∧∀ i∈p,0≤i∧i<l.length:=by
 obtain⟨n,hn,rfl⟩:=av.1 h
 exact⟨MN m l n,SS m l n,SU hn,fun i hi=>(sK.1 hi).1⟩
structure GI(m:List Int)(l:List Pos)(i:Int)(ls:List (Int×List Int)):Prop where
 nd:(ls.map (·.1)).Nodup
 mem:∀ n,n∈ls.map (·.1)↔∃ j:Int,0≤j∧j<i∧fV m (gt l j)=n
 prt:∀ e∈ls,e.2=r9 m l e.1 i.toNat
section
variable{m:List Int}{l:List Pos}{i:Int}{ls:List (Int×List Int)}
end
end Go.Proofs.YtnaefnajkaohgaaGreatDoor
namespace Go.Proofs.YtnaefnajkaohgaaGreatDoor
open Go Go.AL Classical
section
variable{g:eO}{l:List Pos}{nx:List (List Int)}{part:List Int}
end
structure sW(L:Nat)(v:List eT)(b:List Bool):Prop where
 vl:v.length=L
 bl:b.length=L
 n:∀ i:Int,0≤i→i<L→gt b i=false→(gt v i).1≠2→0≤(gt v i).2∧(0<(gt v i).2→∃ j:Int,0≤j∧j<L∧gt b j=false∧(gt v j).1≠2∧(gt v j).2=(gt v i).2-1)
theorem M5(v:List eT)(b:List Bool):∀ k:Nat,jZ v b k = -1∨∃ i:Int,0≤i∧i<k∧gt b i=false∧(gt v i).1≠2∧(gt v i).2=jZ v b k
 | 0=>.inl rfl
 | k+1=>by
  have ih:=M5 v b k
  rw[jZ]
  split
  ·rename_i h
   rcases Int.le_total (jZ v b k) (gt v (k:Int)).2 with h2|h2
   ·refine .inr ⟨k,by omega,by omega,h.1,h.2,?_⟩
    rw[Int.max_eq_right h2]
   ·rw[Int.max_eq_left h2]
    rcases ih with h3|⟨i,h3,h4,h5⟩
    ·exact .inl h3
    ·exact .inr ⟨i,h3,by omega,h5⟩
  ·rcases ih with h3|⟨i,h3,h4,h5⟩
   ·exact .inl h3
   ·exact .inr ⟨i,h3,by omega,h5⟩
theorem ac5{L:Nat}{f:Int→Int}(K:Nat)(h:∀ m:Nat,m<K→∃ i:Int,0≤i∧i<L∧f i=m):K≤L:=by
 have key:∀ k:Nat,k≤K→∃ xs:List Int,xs.length=k∧xs.Nodup∧∀ x∈xs,(0≤x∧x<L)∧f x<k:=by
  intro k
  induction k with
  | zero=>exact fun _=>⟨[],rfl,.nil,by simp⟩
  | succ k ih=>
   intro hk
   obtain⟨xs,h1,h2,h3⟩:=ih (by omega)
   obtain⟨i,i0,i1,e⟩:=h k (by omega)
   refine⟨i::xs,by simp[h1],ey.2 ⟨fun hm=>by have:=(h3 i hm).2;omega,h2⟩,fun x hx=>?_⟩
   rcases au.1 hx with rfl|hx
   ·exact⟨⟨i0,i1⟩,by omega⟩
   ·have:=h3 x hx;exact⟨this.1,by omega⟩
 obtain⟨xs,h1,h2,h3⟩:=key K (Nat.le_refl _)
 have:=uf L xs h2 fun y hy=>(h3 y hy).1
 omega
theorem sW.jZ{L:Nat}{v:List eT}{b:List Bool}(h:sW L v b):jZ v b v.length<L∨jZ v b v.length = -1:=by
 have hv:=h.vl
 rcases M5 v b v.length with e|⟨i,i0,i1,i2,i3,i4⟩
 ·exact .inr e
 ·left
  have hn:=(h.n i i0 (by omega) i2 i3).1
  rw[i4]at hn
  generalize Go.Proofs.YtnaefnajkaohgaaGreatDoor.jZ v b v.length=N at *
  have all:∀ k:Nat,(k:Int)≤N→∃ j:Int,0≤j∧j<L∧gt b j=false∧(gt v j).1≠2∧(gt v j).2=N-k:=by
   intro k
   induction k with
   | zero=>exact fun _=>⟨i,i0,by omega,i2,i3,by omega⟩
   | succ k ih=>
    intro hk
    obtain⟨j,j0,j1,j2,j3,j4⟩:=ih (by omega)
    obtain⟨j',h0,h1,h2,h3,h4⟩:=(h.n j j0 j1 j2 j3).2 (by omega)
    exact⟨j',h0,h1,h2,h3,by omega⟩
  have:=ac5 (L:=L) (f:=fun j=>(gt v j).2) (N.toNat+1) fun m hm=>by
   obtain⟨j,j0,j1,_,_,j4⟩:=all (N.toNat-m) (by omega)
   exact⟨j,j0,j1,by omega⟩
  omega
theorem Bp(v:List eT)(b:List Bool)(x:List Int):∀ k:Nat,k≤x.length→(jr v b x k).2 = -1∨∃ j∈x,gt b j=false∧(gt v j).1=1∧(gt v j).2=(jr v b x k).2
 | 0,_=>.inl rfl
 | k+1,hk=>by
  have ih:=Bp v b x k (by omega)
  have hm:gt x (k:Int)∈x:=eY (by omega) (by omega)
  rw[jr]
  split
  ·rename_i h
   dsimp only
   rcases Int.le_total (jr v b x k).2 (gt v (gt x (k:Int))).2 with h2|h2
   ·rw[Int.max_eq_right h2];exact .inr ⟨_,hm,h.1,h.2,rfl⟩
   ·rw[Int.max_eq_left h2];exact ih
  ·exact ih
section
variable{g:eO}{l:List Pos}{nx:List (List Int)}{part:List Int}{bu:Int}
theorem D0(o:ke g l nx part bu){v:List eT}{b:List Bool}(hb:b.length=l.length){n:Int}:∀ i∈lX g l nx part v b n,0≤i∧i<b.length:=fun i hi=>by rw[hb];exact o.prt i (D1 hi)
theorem xS(o:ke g l nx part bu){v:List eT}{b:List Bool}(hv:v.length=l.length)(hb:b.length=l.length){n:Int}:(rV g l nx part v b n).length=l.length:=by
 unfold rV
 rw[oz _ _ _ (by rw[hv,← hb];exact D0 o hb),hv]
theorem xR(o:ke g l nx part bu){v:List eT}{b:List Bool}(hb:b.length=l.length){n:Int}:(rB g l nx part v b n).length=l.length:=by
 unfold rB
 rw[oz _ _ _ (D0 o hb),hb]
theorem wT(o:ke g l nx part bu){v:List eT}{b:List Bool}(hv:v.length=l.length)(hb:b.length=l.length){n j:Int}(j0:0≤j)(j1:j<l.length):gt (rV g l nx part v b n) j=if j∈lX g l nx part v b n then oa g l nx v b n j else gt v j:=
 sf _ _ _ (by rw[hv,← hb];exact D0 o hb) j j0 (by omega)
theorem vb(o:ke g l nx part bu){v:List eT}{b:List Bool}(hb:b.length=l.length){n j:Int}(j0:0≤j)(j1:j<l.length):gt (rB g l nx part v b n) j=if j∈lX g l nx part v b n then false else gt b j:=
 sf _ _ _ (D0 o hb) j j0 (by omega)
theorem sW.round(o:ke g l nx part bu){v:List eT}{b:List Bool}(h:sW l.length v b){n:Int}(n0:0≤n):sW l.length (rV g l nx part v b n) (rB g l nx part v b n):=by
 have hv:=h.vl
 have hb:=h.bl
 have mz:∀ j:Int,0≤j→j<l.length→gt b j=false→(gt v j).1≠2→gt (rB g l nx part v b n) j=false∧gt (rV g l nx part v b n) j=gt v j:=fun j j0 j1 e _=>by
  have hn:j ∉ lX g l nx part v b n:=fun hm=>by
   have:=(aI.1 hm).2
   unfold kc at this
   rw[e]at this
   simp at this
  rw[vb o hb j0 j1,wT o hv hb j0 j1,if_neg hn,if_neg hn]
  exact⟨e,rfl⟩
 refine⟨xS o hv hb,xR o hb,fun i i0 i1 H9 Ac=>?_⟩
 rw[vb o hb i0 i1]at H9
 rw[wT o hv hb i0 i1]at Ac ⊢
 by_cases hm:i∈lX g l nx part v b n
 ·rw[if_pos hm]at Ac ⊢
  have eR:=(aI.1 hm).2
  have hx:=o.xI i i0 i1
  unfold kc at eR
  unfold oa at Ac ⊢
  by_cases hz:n=0
  ·have:(jz g (gt l i) v b (gt nx i) n).1.2=0:=by simp[jz,hz]
   exact⟨by omega,fun hp=>by omega⟩
  ·by_cases hl:qv v b (gt nx i) n
   ·have e:(jz g (gt l i) v b (gt nx i) n).1=(1,n):=by simp[jz,hz,hl]
    rw[e]
    refine⟨by dsimp only;omega,fun _=>?_⟩
    obtain⟨k,hk,k1,k2⟩:=hl
    obtain⟨k3,k4⟩:=hx.1 k hk
    have h2:(gt v k).1≠2:=by rw[k2];simp
    obtain⟨a1,a2⟩:=mz k k3 k4 k1 h2
    exact⟨k,k3,k4,a1,by rw[a2];exact h2,by rw[a2,k2]⟩
   ·have e:(jz g (gt l i) v b (gt nx i) n).1=(3,n):=by simp[jz,hz,hl]
    have e2:(jz g (gt l i) v b (gt nx i) n).2=decide (0<(gt nx i).length∧(jr v b (gt nx i) (gt nx i).length).1=(gt nx i).length∧(jr v b (gt nx i) (gt nx i).length).2=n-1):=by simp[jz,hz,hl]
    rw[e2]at eR
    have eR:=of_decide_eq_true (ah _ _▸eR:_∧_).1
    rw[e]
    refine⟨by dsimp only;omega,fun _=>?_⟩
    rcases Bp v b (gt nx i) (gt nx i).length (Nat.le_refl _)with h1|⟨k,hk,k1,k5,k6⟩
    ·omega
    ·obtain⟨k3,k4⟩:=hx.1 k hk
     have h2:(gt v k).1≠2:=by rw[k5];decide
     obtain⟨a1,a2⟩:=mz k k3 k4 k1 h2
     exact⟨k,k3,k4,a1,by rw[a2];exact h2,by rw[a2];dsimp only;omega⟩
 ·rw[if_neg hm]at Ac H9 ⊢
  obtain⟨h1,h2⟩:=h.n i i0 i1 H9 Ac
  refine⟨h1,fun hp=>?_⟩
  obtain⟨j,j0,j1,j2,j3,j4⟩:=h2 hp
  obtain⟨a1,a2⟩:=mz j j0 j1 j2 j3
  exact⟨j,j0,j1,a1,by rw[a2];exact j3,by rw[a2];exact j4⟩
theorem F3(o:ke g l nx part bu)(gP:Int):∀ (f:Nat) (n:Int) (v:List eT) (b:List Bool) (t:Int),v.length=l.length→b.length=l.length →
  ((iF g l nx part gP f n v b t).2.1.length=l.length∧(iF g l nx part gP f n v b t).2.2.length=l.length)∧∀ j:Int,0≤j→j<l.length→j ∉ part→gt (iF g l nx part gP f n v b t).2.1 j=gt v j∧gt (iF g l nx part gP f n v b t).2.2 j=gt b j
 | 0,n,v,b,t,hv,hb=>⟨⟨hv,hb⟩,fun _ _ _ _=>⟨rfl,rfl⟩⟩
 | f+1,n,v,b,t,hv,hb=>by
  have h1:=xS o hv hb (n:=n)
  have h2:=xR o (v:=v) hb (n:=n)
  have h3:∀ j:Int,0≤j→j<l.length→j ∉ part→gt (rV g l nx part v b n) j=gt v j∧gt (rB g l nx part v b n) j=gt b j:=fun j j0 j1 hj=>by
   rw[wT o hv hb j0 j1,vb o hb j0 j1,if_neg fun hm=>hj (D1 hm),if_neg fun hm=>hj (D1 hm)]
   exact⟨rfl,rfl⟩
  rw[iF]
  split
  ·obtain⟨a,c⟩:=F3 o gP f (n+1) _ _ (t+(lD b part gP part.length).1) h1 h2
   refine⟨a,fun j j0 j1 hj=>?_⟩
   rw[(c j j0 j1 hj).1,(c j j0 j1 hj).2]
   exact h3 j j0 j1 hj
  ·exact⟨⟨h1,h2⟩,h3⟩
theorem Ee(o:ke g l nx part bu){v:List eT}{b:List Bool}(hv:v.length=l.length)(hb:b.length=l.length):((ky part v b).1.length=l.length∧(ky part v b).2.length=l.length) ∧
  ∀ j:Int,0≤j→j<l.length→gt (ky part v b).1 j=(if j∈part∧gt b j=true then(2,0)else gt v j)∧gt (ky part v b).2 j=(if j∈part then false else gt b j):=by
 have hi:∀ i∈part.filter (fun i=>gt b i),0≤i∧i<l.length:=fun i hi=>o.prt i (aI.1 hi).1
 unfold ky
 dsimp only
 refine⟨⟨by rw[oz _ _ _ (by rw[hv];exact hi),hv],by rw[oz _ _ _ (by rw[hb];exact hi),hb]⟩,fun j j0 j1=>?_⟩
 rw[sf _ _ _ (by rw[hv];exact hi) j j0 (by omega),sf _ _ _ (by rw[hb];exact hi) j j0 (by omega)]
 simp only[aI]
 refine⟨trivial,?_⟩
 by_cases h1:j∈part
 ·by_cases h2:gt b j=true
  ·simp[h1,h2]
  ·simp[h1,h2]
 ·simp[h1]
theorem Ay(o:ke g l nx part bu){b:List Bool}(hb:b.length=l.length):(iX b (fun _=>true) part).length=l.length∧∀ j:Int,0≤j→j<l.length→gt (iX b (fun _=>true) part) j=if j∈part then true else gt b j:=by
 have hi:∀ i∈part,0≤i∧i<b.length:=fun i hi=>by rw[hb];exact o.prt i hi
 exact⟨by rw[oz _ _ _ hi,hb],fun j j0 j1=>sf _ _ _ hi j j0 (by omega)⟩
theorem wR(o:ke g l nx part bu)(gP:Int){v:List eT}{b:List Bool}(hv:v.length=l.length)(hb:b.length=l.length):((jM g l nx part gP v b).2.1.length=l.length∧(jM g l nx part gP v b).2.2.length=l.length) ∧
  ∀ j:Int,0≤j→j<l.length→j ∉ part→gt (jM g l nx part gP v b).2.1 j=gt v j∧gt (jM g l nx part gP v b).2.2 j=gt b j:=by
 obtain⟨m1,m2⟩:=Ay o hb
 obtain⟨⟨r1,r2⟩,r3⟩:=F3 o gP 4001 0 v (iX b (fun _=>true) part) 0 hv m1
 obtain⟨f1,f2⟩:=Ee o r1 r2
 unfold jM
 dsimp only
 refine⟨f1,fun j j0 j1 hj=>?_⟩
 obtain⟨a1,a2⟩:=f2 j j0 j1
 obtain⟨c1,c2⟩:=r3 j j0 j1 hj
 rw[a1,a2,if_neg (fun h=>hj h.1),if_neg hj,c1,c2,m2 j j0 j1,if_neg hj]
 exact⟨rfl,rfl⟩
end
section
variable{g:eO}{l:List Pos}{nx:List (List Int)}
end
end Go.Proofs.YtnaefnajkaohgaaGreatDoor
namespace Go.Proofs.YtnaefnajkaohgaaGreatDoor
open Go Go.AL Classical
noncomputable def mC(m:List Int)(l:List Pos)(last:Int):Nat→Int
 | 0 => -1
 | i+1=>if last<fV m (gt l (i:Int))∧(mC m l last i<0∨fV m (gt l (i:Int))<mC m l last i)then fV m (gt l (i:Int))else mC m l last i
@[simp] theorem ajJ(m:List Int)(l:List Pos)(last:Int):mC m l last 0 = -1:=rfl
theorem Xa{m:List Int}{l:List Pos}{last i:Int}(i0:0≤i):mC m l last (i+1).toNat=if last<fV m (gt l i)∧(mC m l last i.toNat<0∨fV m (gt l i)<mC m l last i.toNat)then fV m (gt l i)else mC m l last i.toNat:=by
 have h:(i+1).toNat=i.toNat+1:=by omega
 have h2:((i.toNat:Nat):Int)=i:=by omega
 rw[h,mC,h2]
theorem O'{m:List Int}{l:List Pos}(hl:∀ j:Int,0≤j→j<l.length→0≤fV m (gt l j))(last:Int):∀ k:Nat,k≤l.length →
  (mC m l last k = -1∧∀ j:Int,0≤j→j<k→fV m (gt l j)≤last) ∨
  ((0≤mC m l last k∧last<mC m l last k)∧(∃ j:Int,0≤j∧j<k∧fV m (gt l j)=mC m l last k)∧∀ j:Int,0≤j→j<k→fV m (gt l j)≤last∨mC m l last k≤fV m (gt l j))
 | 0,_=>.inl ⟨rfl,fun j h0 h1=>by omega⟩
 | k+1,hk=>by
  have h0:=hl (k:Int) (by omega) (by omega)
  have ih:=O' hl last k (by omega)
  rw[mC]
  have hj:∀ j:Int,0≤j→j<((k+1:Nat):Int)→j<k∨j=k:=fun j _ _=>by omega
  generalize mC m l last k=x at *
  split
  ·rename_i h
   refine .inr ⟨⟨h0,h.1⟩,⟨k,by omega,by omega,rfl⟩,fun j j0 j1=>?_⟩
   rcases hj j j0 j1 with e|rfl
   ·rcases ih with⟨e1,e2⟩|⟨e1,e2,e3⟩
    ·exact .inl (e2 j j0 e)
    ·rcases e3 j j0 e with e4|e4
     ·exact .inl e4
     ·right
      rcases h.2 with e5|e5<;>omega
   ·exact .inr (bU _)
  ·rename_i h
   rcases ih with⟨e1,e2⟩|⟨e1,⟨j',VG,j1',e'⟩,e3⟩
   ·refine .inl ⟨e1,fun j j0 j1=>?_⟩
    rcases hj j j0 j1 with e|rfl
    ·exact e2 j j0 e
    ·have:¬ last<fV m (gt l (k:Int)):=fun hx=>h ⟨hx,.inl (by omega)⟩
     omega
   ·refine .inr ⟨e1,⟨j',VG,by omega,e'⟩,fun j j0 j1=>?_⟩
    rcases hj j j0 j1 with e|rfl
    ·exact e3 j j0 e
    ·by_cases hx:last<fV m (gt l (k:Int))
     ·right
      have:¬ fV m (gt l (k:Int))<x:=fun hy=>h ⟨hx,.inr hy⟩
      omega
     ·exact .inl (by omega)
noncomputable def qw(m:List Int)(l:List Pos)(last:Int):List Int:=(ph m l).filter fun n=>decide (n≤last)
theorem OS(m:List Int)(l:List Pos)(last:Int):pD (qw m l last):=List.Pairwise.filter _ (Kj _)
theorem FF{m:List Int}{l:List Pos}{last n:Int}:n∈qw m l last↔(∃ j:Int,0≤j∧j<l.length∧fV m (gt l j)=n)∧n≤last:=by
 unfold qw
 rw[aI,JC]
 simp
theorem WJ{m:List Int}{l:List Pos}(hl:∀ j:Int,0≤j→j<l.length→0≤fV m (gt l j)):qw m l (-1) = []:=cj.2 fun n hn=>by
 obtain⟨⟨j,j0,j1,e⟩,h⟩:=FF.1 hn
 have:=hl j j0 j1
 omega
theorem WH{m:List Int}{l:List Pos}{last:Int}(h:∀ j:Int,0≤j→j<l.length→fV m (gt l j)≤last):qw m l last=ph m l:=List.filter_eq_self.2 fun n hn=>by
 obtain⟨j,j0,j1,e⟩:=JC.1 hn
 have:=h j j0 j1
 simp;omega
theorem WI{m:List Int}{l:List Pos}{last x:Int}(hx:last<x)(h1:∃ j:Int,0≤j∧j<l.length∧fV m (gt l j)=x)(h2:∀ j:Int,0≤j→j<l.length→fV m (gt l j)≤last∨x≤fV m (gt l j)) :
  qw m l x=qw m l last ++ [x]:=by
 refine Of (OS m l x) ?_ fun n=>?_
 ·refine aV.2 ⟨OS m l last,by simp,fun a ha b hb=>?_⟩
  have:=(FF.1 ha).2
  rw[List.mem_singleton.1 hb]
  omega
 ·rw[List.mem_append,FF,FF,List.mem_singleton]
  constructor
  ·rintro⟨⟨j,j0,j1,e⟩,h⟩
   rcases h2 j j0 j1 with e1|e1
   ·exact .inl ⟨⟨j,j0,j1,e⟩,by omega⟩
   ·exact .inr (by omega)
  ·rintro(⟨h3,h4⟩|rfl)
   ·exact⟨h3,by omega⟩
   ·exact⟨h1,bU _⟩
theorem OR(m:List Int)(l:List Pos)(last:Int):(qw m l last).length≤(ph m l).length:=List.length_filter_le ..
end Go.Proofs.YtnaefnajkaohgaaGreatDoor
namespace Go.Proofs.YtnaefnajkaohgaaGreatDoor
open Go Go.AL Classical
theorem Ez{α:Type}[Inhabited α]{n:Nat}{a:α}{k:Int}(k0:0≤k)(k1:k<n):gt (List.replicate n a) k=a:=by
 unfold gt
 rw[List.getD_eq_getElem?_getD,dm,if_pos (by omega)];rfl
section
variable{g:eO}{l:List Pos}{m:List Int}{n k:Int}
theorem HD(hg:fi g)(hc:p5 g l)(hn:1≤n∧n≤9223372036854775807){p:List Int}(hp:p∈mY m l):ke g l (fy g l) p n:=by
 obtain⟨p1,p2,p3,p4⟩:=Mk hp
 have:=hc.len
 exact⟨hg,hc.ok,hc.len,by simp[fy],fun i i0 i1=>⟨(ue hc i0 i1).2,by rw[(ue hc i0 i1).1,List.length_map];have:=FJ hg (hc.ok _ (eY i0 i1));omega⟩,p4,p1,by omega,hn⟩
