/- Part 38 of the proof of skewer.skewerlaw15.TableValues. -/
import Derived.Test.YtnaefnajkaohgaaGreatDoorE37
import Derived.Test.YtnaefnajkaohgaaGreatDoorE26
import Derived.Test.YtnaefnajkaohgaaGreatDoorE21
set_option linter.all false
namespace Go.AL
open Go
theorem BF{ks:ki}{v i:Nat}(h:fL ks v=some i):ks[i]? = some (v,true):=by
 unfold fL at h
 rw[bQ]at h
 obtain⟨hi,hp,_⟩:=h
 rw[List.getElem?_eq_getElem hi]
 congr 1
 have:ks[i].2=true∧ks[i].1=v:=by simpa using hp
 exact dH this.2 this.1
theorem adm{ks:ki}{v:Nat}(h:(v,true)∈ks):∃ i,fL ks v=some i:=by
 unfold fL
 cases hf:ks.findIdx? (fun p=>p.2&&p.1 == v)with
 | some i=>exact⟨i,rfl⟩
 | none=>
  rw[cp]at hf
  have:=hf _ h
  simp at this
theorem QY{ks:ki}{H:U}{v i:Nat}{o:Ob}(h:fL ks v=some i)(ho:H[v]? = some o):(lV ks H)[i]? = some (iL (fL ks) H o):=by
 unfold lV
 rw[au,BF h]
 simp[ho]
def BI(bs:List (List Int))(H:U):Prop:=∃ (cells:List D) (f:Nat→Nat),H[0]? = some (.row 33 0 cells)∧cells.length=bs.length ∧
 (∀ j,j<bs.length→cells[j]? = some (if bs.getD j [] = []then .emp else .eT (f j) ((bs.getD j []).length-1) 1 0 (bs.getD j []).length)) ∧
 (∀ j,j<bs.length→bs.getD j []≠[]→0<f j∧H[f j]? = some (.row 3 ((bs.getD j []).length-1) (cl f1 (bs.getD j [])))) ∧
 (∀ i j,i<bs.length→j<bs.length→bs.getD i []≠[]→bs.getD j []≠[]→f i=f j→i=j)
theorem BI.cut{bs:List (List Int)}{H:U}(h:BI bs H){n:Nat}(hn:1≤n)(live:List Nat)(env:Env)(r:Bool):BI bs (AL.cut n live { env:=env,H:=H,marks:=[],fG:=r }).H:=by
 unfold AL.cut
 dsimp only
 split
 ·exact h
 rename_i ft
 obtain⟨cells,f,h0,hl,hc,hf,hi⟩:=h
 have FH:0<H.length:=(ae.1 h0).1
 generalize hK:dedup ((((forget live env).map fun p=>gG n p.2).flatten++((H.take n).map (lU n)).flatten++([]:List Nat).filter (n≤·)).filter (· < H.length))=K
 have U':∀ j,j<bs.length→bs.getD j []≠[]→n≤f j→f j∈K:=fun j hj hb AG=>by
  rw[← hK]
  refine zV (aK.2 ⟨aR _ (bw _ ?_),by simpa using (ae.1 (hf j hj hb).2).1⟩)
  rw[aQ]
  refine⟨_,ao.2 ⟨.row 33 0 cells,?_,rfl⟩,?_⟩
  ·refine aD.2 ⟨0,?_⟩
   rw[aA,if_pos (by omega),h0]
  ·rw[P2,aQ]
   refine⟨_,ao.2 ⟨_,a7 (hc j hj),rfl⟩,?_⟩
   rw[if_neg hb,K6,if_pos AG]
   simp
 have F1:∀ j,j<bs.length→bs.getD j []≠[]→∃ i,fL (gq n K) (f j)=some i:=fun j hj hb=>by
  refine adm ?_
  unfold gq
  rw[List.mem_append]
  by_cases AG:n≤f j
  ·exact .inr (ao.2 ⟨_,U' j hj hb AG,rfl⟩)
  ·exact .inl (ao.2 ⟨_,aX.2 (by omega),rfl⟩)
 have xK:fL (gq n K) 0=some 0:=by
  unfold gq
  obtain⟨m,rfl⟩:∃ m,n=m+1:=⟨n-1,by omega⟩
  rw[List.range_succ_eq_map]
  simp[fL,List.findIdx?_cons]
 generalize gq n K=ks at *
 refine⟨cells.map (eZ (fL ks) H 40),fun j=>(fL ks (f j)).getD 0,QY xK h0,by rw[List.length_map,hl],fun j hj=>?_,fun j hj hb=>?_,fun i j l3 hj hb mB e=>?_⟩
 ·rw[au,hc j hj]
  by_cases hb:bs.getD j [] = []
  ·rw[if_pos hb,if_pos hb];rfl
  ·obtain⟨i,l3⟩:=F1 j hj hb
   rw[if_neg hb,if_neg hb]
   simp only[a8,Ha l3,l3,aV]
 ·obtain⟨i,l3⟩:=F1 j hj hb
  obtain⟨p1,p2⟩:=hf j hj hb
  dsimp only
  rw[l3,aV]
  refine⟨?_,?_⟩
  ·show 0<i
   by_cases e:i=0
   ·subst e
    have a:=BF l3
    have b:=BF xK
    rw[a]at b
    simp at b
    omega
   ·omega
  ·have:=QY l3 p2
   rw[this]
   simp only[iL,BO (p7 _)]
 ·obtain⟨a,ha⟩:=F1 i l3 hb
  obtain⟨b,vM⟩:=F1 j hj mB
  dsimp only at e
  rw[ha,vM]at e
  have e':a=b:=e
  subst e'
  have x:=BF ha
  have y:=BF vM
  rw[x]at y
  simp at y
  exact hi i j l3 hj hb mB y
theorem SZ{n:Nat}{live:List Nat}{env:Env}{H:U}{r:Bool}(he:lr n (forget live env)):(AL.cut n live { env:=env,H:=H,marks:=[],fG:=r }).env=forget live env:=by
 unfold AL.cut
 dsimp only
 split
 ·rfl
 ·dsimp only
  conv=>rhs;rw[← aT (forget live env)]
  refine aj fun p hp=>?_
  rw[(he p hp).2 _ H fun v hv=>?_]
  ·rfl
  ·generalize dedup _=K
   unfold gq fL
   rw[List.findIdx?_append,show((List.range n).map fun v=>(v,true)).findIdx? (fun p=>p.2&&p.1 == v)=some v from ?_]
   ·rfl
   ·rw[bQ]
    exact⟨by simpa using hv,by simp,fun j hj=>by simp;omega⟩
theorem BI.put{bs:List (List Int)}{H H':U}{cells:List D}{f:Nat→Nat}(bl:cells.length=bs.length)
  (bc:∀ j,j<bs.length→cells[j]? = some (if bs.getD j [] = []then .emp else .eT (f j) ((bs.getD j []).length-1) 1 0 (bs.getD j []).length))
  (bf:∀ j,j<bs.length→bs.getD j []≠[]→0<f j∧H[f j]? = some (.row 3 ((bs.getD j []).length-1) (cl f1 (bs.getD j []))))
  (bi:∀ i j,i<bs.length→j<bs.length→bs.getD i []≠[]→bs.getD j []≠[]→f i=f j→i=j)
  {k p:Nat} {x:List Int} (hk:k<bs.length) (hx:x≠[]) (hp:0<p) (h0:H'[0]? = some (.row 33 0 (cells.set k (.eT p (x.length-1) 1 0 x.length))))
  (hr:H'[p]? = some (.row 3 (x.length-1) (cl f1 x))) (kp:∀ j,j<bs.length→j≠k→bs.getD j []≠[]→H'[f j]? = H[f j]?∧f j≠p):BI (bs.set k x) H':=by
 have hd:∀ j,(bs.set k x).getD j []=if j=k then x else bs.getD j []:=fun j=>by
  rw[List.getD_eq_getElem?_getD,bF,List.getD_eq_getElem?_getD]
  by_cases e:k=j
  ·subst e;simp[hk]
  ·rw[if_neg e,if_neg fun q=>e q.symm]
 refine⟨_,fun j=>if j=k then p else f j,h0,by simp[bl],fun j hj=>?_,fun j hj hb=>?_,fun i j hi hj hb mB e=>?_⟩
 ·rw[hd,bF]
  rw[bP]at hj
  by_cases e:j=k
  ·subst e
   simp[hx,bl,hj]
  ·rw[if_neg fun q=>e q.symm,if_neg e,bc j hj]
   simp[e]
 ·rw[hd]at hb ⊢
  rw[bP]at hj
  by_cases e:j=k
  ·simp only[if_pos e]
   exact⟨hp,hr⟩
  ·simp only[if_neg e]at hb ⊢
   rw[(kp j hj e hb).1]
   exact bf j hj hb
 ·rw[hd]at hb mB
  rw[bP]at hi hj
  dsimp only at e
  by_cases e1:i=k<;>by_cases e2:j=k
  ·rw[e1,e2]
  ·rw[if_pos e1,if_neg e2]at e
   rw[if_neg e2]at mB
   exact absurd e.symm (kp j hj e2 mB).2
  ·rw[if_neg e1,if_pos e2]at e
   rw[if_neg e1]at hb
   exact absurd e (kp i hi e1 hb).2
  ·rw[if_neg e1,if_neg e2]at e
   rw[if_neg e1]at hb
   rw[if_neg e2]at mB
   exact bi i j hi hj hb mB e
theorem yx{n k v g w o l:Nat}{env:Env}(hv:v<n)(h:lr n env):lr n ((k,.eT v g w o l)::env):=fun p hp=>by
 rcases aq.1 hp with rfl|hp
 ·exact⟨by rw[K6,if_neg (by omega)],fun ρ H jE=>by rw[Ha (jE v hv)]⟩
 ·exact h p hp
theorem BI.c{bs:List (List Int)}{H:U}(h:BI bs H){n:Nat}(hn:1≤n){live:List Nat}{env:Env}(he:lr n (forget live env))(r:Bool) :
  ∃ H',AL.cut n live { env:=env,H:=H,marks:=[],fG:=r } = { env:=forget live env,H:=H',marks:=[],fG:=r }∧BI bs H':=by
 refine⟨_,?_,h.cut hn live env r⟩
 have h1:=SZ (H:=H) (r:=r) he
 generalize hs:AL.cut n live { env:=env,H:=H,marks:=[],fG:=r }=s at *
 have hm:s.marks = []∧s.fG=r:=by
  rw[← hs]
  unfold AL.cut
  dsimp only
  split<;>exact⟨rfl,rfl⟩
 obtain⟨e,H2,m,r2⟩:=s
 dsimp only at h1 hm ⊢
 rw[h1,hm.1,hm.2]
theorem Er{id n:Nat}{live:List Nat}{K:gA}{env:Env}{H:U}{r:Bool}{bs:List (List Int)}(h:BI bs H)(hn:1≤n)(he:lr n (forget live env))
  (k:∀ H',BI bs H'→K (.norm { env:=forget live env,H:=H',marks:=[],fG:=r })):qy id n live K (.norm { env:=env,H:=H,marks:=[],fG:=r }):=by
 obtain⟨H',e,hB⟩:=h.c hn he r
 rw[xp,e]
 exact k H' hB
theorem J6{n:Nat}{live keys:List Nat}{J:Env→U→List Nat→Bool→Prop}{K:gA}{env:Env}{H:U}{r:Bool}{bs:List (List Int)}(h:BI bs H)(hn:1≤n)(he:lr n (forget live env))
  (k:∀ H',BI bs H'→J (forget keys (forget live env)) H' [] r):qT n live keys J K (.norm { env:=env,H:=H,marks:=[],fG:=r }):=by
 obtain⟨H',e,hB⟩:=h.c hn he r
 rw[yl,e]
 exact k H' hB
theorem BI.start(n:Nat):BI (List.replicate n []) [.row 33 0 (List.replicate n .emp)]:=
 ⟨_,fun _=>0,rfl,by simp,fun j hj=>by simp at hj ⊢;simp[hj],fun j hj hb=>by simp at hj;simp[hj]at hb,fun i j hi hj hb=>by simp at hi;simp[hi]at hb⟩
theorem R6{id n:Nat}{live:List Nat}{K:gA}{env:Env}{H:U}{r:Bool}{bs:List (List Int)}(h:BI bs H)(hn:1≤n)(he:lr n (forget live env))
  (k:∀ H',BI bs H'→K (.norm { env:=forget live env,H:=H',marks:=[],fG:=r })):qy id n live K (.exit id { env:=env,H:=H,marks:=[],fG:=r }):=by
 obtain⟨H',e,hB⟩:=h.c hn he r
 rw[Es,e]
 exact k H' hB
end Go.AL
namespace Go.Proofs.YtnaefnajkaohgaaGreatDoor
open Go Go.AL Classical
set_option maxRecDepth 10000
set_option maxHeartbeats 8000000
def mT(i:Int):List Int→List (List Int)→List (List Int)
 | [],bs=>bs
 | k::r,bs=>mT i r (pt bs k (gt bs k ++ [i]))
def kL(nx:List (List Int)):Nat→List (List Int)
 | 0=>List.replicate nx.length []
 | n+1=>mT n (gt nx (n:Int)) (kL nx n)
theorem Mq(i k:Int):∀ (r:List Int) (bs:List (List Int)),mT i (r ++ [k]) bs=pt (mT i r bs) k (gt (mT i r bs) k ++ [i])
 | [],_=>rfl
 | _::r,_=>Mq i k r _
theorem HG(i:Int):∀ (r:List Int) (bs:List (List Int)),(∀ k∈r,0≤k∧k<bs.length)→(mT i r bs).length=bs.length
 | [],_,_=>rfl
 | k::r,bs,h=>by
  have h1:=h k (by simp)
  have h2:=gI (v:=gt bs k ++ [i]) h1.1 h1.2
  rw[mT,HG i r _ fun j hj=>by rw[h2];exact h j (by simp[hj]),h2]
theorem HE(i:Int):∀ (r:List Int) (bs:List (List Int)),(∀ k∈r,0≤k∧k<bs.length)→∀ j:Int,0≤j→(gt (mT i r bs) j).length≤(gt bs j).length+r.length
 | [],_,_,_,_=>by simp[mT]
 | k::r,bs,h,j,hj=>by
  have h1:=h k (by simp)
  have h2:=gI (v:=gt bs k ++ [i]) h1.1 h1.2
  have h3:=HE i r (pt bs k (gt bs k ++ [i])) (fun j hj=>by rw[h2];exact h j (by simp[hj])) j hj
  rw[mb h1.1 h1.2 hj]at h3
  rw[mT]
  by_cases e:j=k
  ·rw[if_pos e]at h3
   subst e
   simp at h3 ⊢
   omega
  ·rw[if_neg e]at h3
   simp
   omega
section
variable{nx:List (List Int)}
theorem sB(hk:∀ x∈nx,∀ k∈x,0≤k∧k<nx.length):∀ n:Nat,n≤nx.length→(kL nx n).length=nx.length
 | 0,_=>by simp[kL]
 | n+1,h=>by
  have:=sB hk n (by omega)
  rw[kL,HG,this]
  rw[this]
  exact hk _ (ff (by omega) (by omega))
theorem HD(hk:∀ x∈nx,∀ k∈x,0≤k∧k<nx.length)(hx:∀ x∈nx,x.length≤4000000000):∀ n:Nat,n≤nx.length→∀ j:Int,0≤j→(gt (kL nx n) j).length≤n*4000000000
 | 0,_,j,hj=>by
  have:∀ a∈kL nx 0,a = []:=fun a ha=>dq ha
  by_cases h:j<(kL nx 0).length
  ·rw[this _ (ff hj h)];simp
  ·unfold gt
   rw[List.getD_eq_getElem?_getD,aI (by omega)]
   show([]:List Int).length≤_
   simp
 | n+1,h,j,hj=>by
  have h1:=HD hk hx n (by omega) j hj
  have h2:=ff (l:=nx) (n:=(n:Int)) (by omega) (by omega)
  have h3:=HE n (gt nx (n:Int)) (kL nx n) (by rw[sB hk n (by omega)];exact hk _ h2) j hj
  have h4:=hx _ h2
  rw[kL]
  omega
end
theorem Nw{α:Type}(f:List Int→α):∀ bs:List (List Int),(bs.map fun b=>[f b]).flatten=bs.map f
 | []=>rfl
 | b::r=>by simp[Nw f r]
theorem tw{bs:List (List Int)}{H:U}(h:BI bs H):1≤H.length:=by
 obtain⟨_,_,b0,_⟩:=h
 exact(ae.1 b0).1
theorem zL(nx:List (List Int)):closed (.sl 1 (nx.map fN))=true:=by
 simp
theorem SC(x:List Int):closed (dN 1 f1 x)=true:=by
 simp
theorem RA{bs:List (List Int)}{H:U}(h:BI bs H){n:Nat}(hn:n=bs.length):leave 0 0 H (.eT 0 0 1 0 n)=(.sl 1 (bs.map fN),[]):=by
 obtain⟨cells,f,b0,bl,bc,bf,bi⟩:=h
 have hl:0<H.length:=(ae.1 b0).1
 subst hn
 unfold leave
 rw[if_neg (by omega)]
 simp only[dv,List.map_nil,cT,aw,cL]
 have jE:∀ v,fL (gq 0 (dedup [])) v=none:=fun v=>by simp[gq,dedup,fL]
 refine dH ?_ (by simp[gq,dedup,lV])
 show eZ (fL (gq 0 (dedup []))) H 40 (.eT 0 0 1 0 bs.length)=_
 generalize fL (gq 0 (dedup []))=ρ at *
 rw[AL.BP,jE,KQ]
 have hr:AL.rowAt H 0 0=some (33,cells):=by simp[rowAt,b0]
 rw[hr]
 unfold lY
 dsimp only
 rw[if_pos (by omega),cr,dZ]
 have hm:cells.map (eZ ρ H 39)=cl fN bs:=by
  rw[l8]
  have:bs.map fN=bs.map fun b=>[dN 1 f1 b]:=aj fun b _=>oa b
  rw[this,Nw]
  refine bM fun j=>?_
  rw[au,au]
  by_cases hj:j<bs.length
  ·rw[bc j hj,List.getElem?_eq_getElem hj]
   have hd:bs.getD j []=bs[j]:=by rw[List.getD_eq_getElem?_getD,List.getElem?_eq_getElem hj];rfl
   have hf:=bf j hj
   rw[hd]at hf ⊢
   generalize bs[j]=b at *
   by_cases hb:b = []
   ·subst hb;rfl
   ·rw[if_neg hb]
    have hf:=(hf hb).2
    simp only[a8,AL.BP,jE,KQ]
    rw[show AL.rowAt H (f j) (b.length-1)=some (3,cl f1 b)by simp[rowAt,hf],qF rfl]
    cases b with
    | nil=>exact absurd rfl hb
    | cons a r=>rfl
  ·rw[aI (by omega),aI (by omega)]
   rfl
 rw[hm,l8,EF (f:=fN) (sz:=1) (Fl.len (f:=fN))]
attribute [-simp] pz xp yl Es
theorem f55(nx:List (List Int))(hk:∀ x∈nx,∀ k∈x,0≤k∧k<nx.length)(h9:nx.length≤4000)(hx:∀ x∈nx,x.length≤4000000000):Wf T 55 [.sl 1 (nx.map fN)] [] (Is (.sl 1 ((kL nx nx.length).map fN))):=by
 refine Yg DU ?_
 simp[DU]
 (with_reducible repeat' first|refine Xk ?_<;>try simp|refine Xs ?_ ?_<;>intro h<;>(try intro h')<;>(try simp[h])<;>(try omega)|refine Xg ?_|omega)
 refine fe.e ((0,[.row 33 0 (List.replicate nx.length .emp)]):Int×U) (fun y=>[(3,.eT 0 0 1 0 nx.length),(11,.sl 1 (nx.map fN)),(12,.i nx.length),(13,.i y.1)]) (fun y=>y.2) (fun y=>0≤y.1∧y.1≤nx.length∧BI (kL nx y.1.toNat) y.2) (fun y=>(nx.length-y.1).toNat) ?_ ?_
 ·simp[kL,BI.start]
 rintro⟨i,H⟩ ⟨i0,i1,i2⟩
 dsimp only at i0 i1 i2 ⊢
 by_cases hi:i<nx.length
 ·simp[hi,oa]
  (with_reducible repeat' first|refine Xk ?_<;>try simp|refine Xs ?_ ?_<;>intro h<;>(try intro h')<;>(try simp[h])<;>(try omega)|refine Xg ?_|omega)
  refine fe.e ((0,H):Int×U) (fun y=>[(3,.eT 0 0 1 0 nx.length),(4,.i i),(11,.sl 1 (nx.map fN)),(12,.i nx.length),(13,.i i),(18,dN 1 f1 (gt nx i)),(19,.i (gt nx i).length),(20,.i y.1)]) (fun y=>y.2) (fun y=>0≤y.1∧y.1≤(gt nx i).length∧BI (mT i ((gt nx i).take y.1.toNat) (kL nx i.toNat)) y.2) (fun y=>((gt nx i).length-y.1).toNat) ?_ ?_
  ·simp[mT,i2]
  rintro⟨j,H1⟩ ⟨j0,j1,j2⟩
  dsimp only at j0 j1 j2 ⊢
  have pH:=hx _ (ff i0 hi)
  by_cases hj:j<(gt nx i).length
  ·obtain⟨cells,f,b0,bl,bc,bf,bi⟩:=j2
   have FH:=(ae.1 b0).1
   have fF:=hk _ (ff i0 hi) _ (ff j0 hj)
   simp[hj]
   generalize jK:gt (gt nx i) j=k at *
   generalize oG:mT i ((gt nx i).take j.toNat) (kL nx i.toNat)=bs at *
   have od:bs.length=nx.length:=by
    rw[← oG,HG,sB hk _ (by omega)]
    rw[sB hk _ (by omega)]
    exact fun k h=>hk _ (ff i0 hi) k (aM h)
   have Vg:(gt bs k).length≤17000000000000:=by
    have h1:=HE i ((gt nx i).take j.toNat) (kL nx i.toNat) (by rw[sB hk _ (by omega)];exact fun k h=>hk _ (ff i0 hi) k (aM h)) k fF.1
    have h2:=HD hk hx i.toNat (by omega) k fF.1
    have h3:=hx _ (ff i0 hi)
    rw[oG,aS]at h1
    omega
   have kA:mT i ((gt nx i).take (j+1).toNat) (kL nx i.toNat)=bs.set k.toNat (gt bs k ++ [i]):=by
    rw[show(j+1).toNat=j.toNat+1 by omega,List.take_add_one,List.getElem?_eq_getElem (by omega),Option.toList_some,Mq,oG,← nu j0 hj,jK,Bs fF.1 (by omega)]
   have rK:=bc k.toNat (by omega)
   have Au:bs.getD k.toNat []=gt bs k:=rfl
   rw[Au]at rK
   have q0:∀ G,(H1++G)[0]? = some (.row 33 0 cells):=fun G=>by rw[ag FH,b0]
   have q1:∀ G (h:0<(H1++G).length),(H1++G)[0]'h = .row 33 0 cells:=fun G h=>by
    have:=q0 G
    rw[List.getElem?_eq_getElem h]at this
    exact cW this
   have FO:∀ {n:Nat},0<n→∀ {j:Int},lr n [(3,.eT 0 0 1 0 nx.length),(4,.i i),(11,.sl 1 (nx.map fN)),(12,.i nx.length),(13,.i i),(18,dN 1 f1 (gt nx i)),(19,.i (gt nx i).length),(20,.i j)]:=fun hn=>
    yx hn (mM rfl (mM (zL nx) (mM rfl (mM rfl (mM (SC _) (mM rfl (mM rfl wI)))))))
   by_cases hb:gt bs k = []
   ·rw[if_pos hb]at rK
    simp[b0,fF]
    simp[rK]
    (with_reducible repeat' first|refine Xk ?_<;>try simp[b0]|refine Xs ?_ ?_<;>intro h<;>(try intro h')<;>(try simp[h,b0])<;>(try omega)|refine Xg ?_|omega)
    simp[q0,q1,bl,od,fF]
    (with_reducible repeat' first|refine Xk ?_<;>try simp|refine Xs ?_ ?_<;>intro h<;>(try intro h')<;>(try simp[h])<;>(try omega)|refine Xg ?_|omega)
    have hB:BI (bs.set k.toNat (gt bs k ++ [i])) ((H1 ++ [Ob.row 3 0 [.i i],Ob.row 3 0 [.i i]]).set 0 (Ob.row 33 0 (pt cells k (.eT (H1.length+1) 0 1 0 1)))):=by
     rw[hb,Bs fF.1 (by omega)]
     refine BI.put bl bc bf bi (by omega) (by simp) (p:=H1.length+1) (by omega) ?_ ?_ fun j hj Oi hb=>?_
     ·simp
     ·rw[cA (by omega)];simp[gL]
     ·have:=(ae.1 (bf j hj hb).2).1
      rw[cA (by have:=(bf j hj hb).1;omega),ag this]
      exact⟨rfl,by omega⟩
    refine Er (id:=3) hB (by omega) (by exact FO FH) fun H2 h2=>?_
    simp
    (with_reducible repeat' first|refine Xk ?_<;>try simp|refine Xs ?_ ?_<;>intro h<;>(try intro h')<;>(try simp[h])<;>(try omega)|refine Xg ?_|omega)
    refine J6 h2 (tw i2) (by exact FO (tw i2)) fun H3 h3=>?_
    refine LJ.e (j+1,H3) ?_
    refine⟨by dsimp only;omega,by dsimp only;omega,by dsimp only;omega,?_⟩
    dsimp only
    rw[kA]
    exact h3
   ·rw[if_neg hb]at rK
    have um:=(bf k.toNat (by omega) hb).2
    rw[Au]at um
    have oh:=(ae.1 um).1
    have U8:=(bf k.toNat (by omega) hb).1
    have q2:∀ G,(H1++G)[f k.toNat]? = some (.row 3 ((gt bs k).length-1) (cl f1 (gt bs k))):=fun G=>by rw[ag oh,um]
    have q3:∀ G y,((H1++G).set (f k.toNat) y)[0]? = some (.row 33 0 cells):=fun G y=>by rw[cA (by omega),q0]
    have q4:∀ G y (h:0<((H1++G).set (f k.toNat) y).length),((H1++G).set (f k.toNat) y)[0]'h = .row 33 0 cells:=fun G y h=>by
     rw[List.getElem_set_ne (by omega),q1]
    simp[b0,fF,rK]
    (with_reducible repeat' first|refine Xk ?_<;>try simp[b0,um]|refine Xs ?_ ?_<;>intro h<;>(try intro h')<;>(try simp[h,b0,um])<;>(try omega)|refine Xg ?_|omega)
    simp[q2]
    (with_reducible repeat' first|refine Xk ?_<;>try simp|refine Xs ?_ ?_<;>intro h<;>(try intro h')<;>(try simp[h])<;>(try omega)|refine Xg ?_|omega)
    simp[q3,q4,bl,od,fF]
    have vZ:0<(gt bs k).length:=az.2 hb
    have hB:BI (bs.set k.toNat (gt bs k ++ [i])) (((H1 ++ [Ob.row 3 0 [.i i]]).set (f k.toNat) (Ob.row 3 ((gt bs k).length-1+1) (cl f1 (gt bs k ++ [i])))).set 0 (Ob.row 33 0 (pt cells k (.eT (f k.toNat) ((gt bs k).length-1+1) 1 0 ((gt bs k).length+1))))):=by
     rw[Bs fF.1 (by omega)]
     have hx:(gt bs k ++ [i]).length=(gt bs k).length+1:=by simp
     rw[← hx,show(gt bs k).length-1+1=(gt bs k ++ [i]).length-1 by omega]
     refine BI.put bl bc bf bi (by omega) (by simp) U8 ?_ ?_ fun j hj Oi vM=>?_
     ·rw[dD (by simp)]
     ·rw[cA (by omega),dD (by simp;omega)]
     ·have mF:=(ae.1 (bf j hj vM).2).1
      have gd:f j≠f k.toNat:=fun e=>Oi (bi j k.toNat hj (by omega) vM (by rw[Au];exact hb) e)
      rw[cA (by have:=(bf j hj vM).1;omega),cA (fun e=>gd e.symm),ag mF]
      exact⟨rfl,gd⟩
    refine Er (id:=3) hB (by omega) (by exact FO FH) fun H2 h2=>?_
    simp
    (with_reducible repeat' first|refine Xk ?_<;>try simp|refine Xs ?_ ?_<;>intro h<;>(try intro h')<;>(try simp[h])<;>(try omega)|refine Xg ?_|omega)
    refine J6 h2 (tw i2) (by exact FO (tw i2)) fun H3 h3=>?_
    refine LJ.e (j+1,H3) ?_
    refine⟨by dsimp only;omega,by dsimp only;omega,by dsimp only;omega,?_⟩
    dsimp only
    rw[kA]
    exact h3
  ·simp[hj]
   refine Er (id:=2) j2 (tw i2) (by exact yx (tw i2) (mM (zL nx) (mM rfl (mM rfl wI)))) fun H2 h2=>?_
   refine Er (id:=1) h2 (tw i2) (by exact yx (tw i2) (mM (zL nx) (mM rfl (mM rfl wI)))) fun H3 h3=>?_
   simp
   (with_reducible repeat' first|refine Xk ?_<;>try simp|refine Xs ?_ ?_<;>intro h<;>(try intro h')<;>(try simp[h])<;>(try omega)|refine Xg ?_|omega)
   refine J6 h3 (by omega) (by exact yx (by omega) (mM (zL nx) (mM rfl (mM rfl wI)))) fun H4 h4=>?_
   refine LJ.e (i+1,H4) ?_
   refine⟨by dsimp only;omega,by dsimp only;omega,by dsimp only;omega,?_⟩
   dsimp only
   rw[show(i+1).toNat=i.toNat+1 by omega,kL,show((i.toNat:Nat):Int)=i by omega]
   rw[aF (by omega)]at h4
   exact h4
 ·simp[hi]
  refine R6 (id:=0) i2 (by omega) (by exact yx (by omega) wI) fun H2 h2=>?_
  simp
  (with_reducible repeat' first|refine Xk ?_<;>try simp|refine Xs ?_ ?_<;>intro h<;>(try intro h')<;>(try simp[h])<;>(try omega)|refine Xg ?_|omega)
  rw[show i.toNat=nx.length by omega]at h2
  rw[RA h2 (by rw[sB hk _ (by omega)])]
  exact⟨rfl,rfl⟩
end Go.Proofs.YtnaefnajkaohgaaGreatDoor
namespace Go.Proofs.YtnaefnajkaohgaaGreatDoor
open Go Go.AL Classical
set_option maxRecDepth 10000
set_option maxHeartbeats 8000000
structure ko(g:eU)(m:List Int):Prop where
 len:m.length=g.kinds.length
 num:∀ a∈m,1≤a∧a≤6
def ot(m:List Int)(x:Int):Int:=if 0≤fo x then gt m (fo x)else 0
def nW(m cs:List Int):Nat→Int
 | 0=>0
 | i+1=>nW m cs i+ot m (gt cs (i:Int))
def nb(m a b:List Int):Nat→Int
 | 0=>0
 | i+1=>nb m a b i+gt m (i:Int)*(gt a (i:Int)+gt b (i:Int))
def se(r:Int):Int:=if r=0 then 0 else if r=3 then 2 else 1
def fY(m:List Int)(p:Pos):Int:=nW m p.cs p.cs.length+nb m p.h0 p.h1 m.length+se p.fq
@[simp] theorem akY(m cs:List Int):nW m cs 0=0:=rfl
@[simp] theorem akZ(m a b:List Int):nb m a b 0=0:=rfl
theorem X9{m cs:List Int}{i:Int}(i0:0≤i):nW m cs (i+1).toNat=nW m cs i.toNat+ot m (gt cs i):=by
 have h:(i+1).toNat=i.toNat+1:=by omega
 have h2:((i.toNat:Nat):Int)=i:=by omega
 rw[h,nW,h2]
theorem X'{m a b:List Int}{i:Int}(i0:0≤i):nb m a b (i+1).toNat=nb m a b i.toNat+gt m i*(gt a i+gt b i):=by
 have h:(i+1).toNat=i.toNat+1:=by omega
 have h2:((i.toNat:Nat):Int)=i:=by omega
 rw[h,nb,h2]
section
variable{g:eU}{m:List Int}{p:Pos}
theorem PE(hk:g.kinds.length≤2){x:Int}(h:0≤x∧x≤2*g.kinds.length)(h2:0≤fo x):fo x<g.kinds.length:=by
 unfold fo at *
 split at h2
 ·rw[if_pos (by assumption)];omega
 ·omega
theorem Pz(hg:fr g)(hm:ko g m)(hp:fR g p){x:Int}(hx:x∈p.cs):0≤ot m x∧ot m x≤6:=by
 unfold ot
 split
 ·rename_i h
  have:=PE hg.kinds.2 (hp.cs x hx) h
  have:=hm.num _ (ff h (by rw[hm.len];exact this))
  omega
 ·omega
theorem Gp(hg:fr g)(hm:ko g m)(hp:fR g p):∀ i:Nat,i≤p.cs.length→0≤nW m p.cs i∧nW m p.cs i≤6*i
 | 0,_=>by simp
 | i+1,h=>by
  have h1:=Gp hg hm hp i (by omega)
  have h2:=Pz hg hm hp (ff (l:=p.cs) (n:=(i:Int)) (by omega) (by omega))
  rw[nW]
  omega
theorem Yy{a b:Int}(h1:1≤a∧a≤6)(h2:0≤b∧b≤16):0≤a*b∧a*b≤96:=by
 have h3:=Int.mul_nonneg (by omega:0≤a) h2.1
 have h4:=Int.mul_le_mul h1.2 h2.2 h2.1 (by omega:(0:Int)≤6)
 omega
theorem PA(hm:ko g m)(hp:fR g p){i:Int}(i0:0≤i)(i1:i<m.length):(0≤gt p.h0 i+gt p.h1 i∧gt p.h0 i+gt p.h1 i≤16)∧0≤gt m i*(gt p.h0 i+gt p.h1 i)∧gt m i*(gt p.h0 i+gt p.h1 i)≤96:=by
 have l0:=hp.h0.len
 have l1:=hp.h1.len
 have lm:=hm.len
 have a0:=hp.h0.at_ i i0 (by omega)
 have a1:=hp.h1.at_ i i0 (by omega)
 have h:0≤gt p.h0 i+gt p.h1 i∧gt p.h0 i+gt p.h1 i≤16:=by omega
 exact⟨h,Yy (hm.num _ (ff i0 i1)) h⟩
theorem Gr(hm:ko g m)(hp:fR g p):∀ i:Nat,i≤m.length→0≤nb m p.h0 p.h1 i∧nb m p.h0 p.h1 i≤96*i
 | 0,_=>by simp
 | i+1,h=>by
  have h1:=Gr hm hp i (by omega)
  have h2:=PA hm hp (i:=(i:Int)) (by omega) (by omega)
  rw[nb]
  omega
theorem QH(hg:fr g)(hp:fR g p):p.fq=0∨p.fq=1∨p.fq=2∨p.fq=3:=by
 have h1:=hg.fq
 have h2:=hp.fq
 rcases(show g.fq=0∨g.fq=1∨g.fq=2 by omega)with e|e|e<;>rw[e]at h2<;>simp at h2<;>omega
theorem acV(r:Int):0≤se r∧se r≤2:=by unfold se;(repeat' split)<;>omega
theorem XU(hg:fr g)(hm:ko g m)(hp:fR g p):0≤fY m p∧fY m p≤1000:=by
 have h1:=Gp hg hm hp p.cs.length (Nat.le_refl _)
 have h2:=Gr hm hp m.length (Nat.le_refl _)
 have h3:=acV p.fq
 have h4:=hp.size
 have h5:=hg.ib.size
 have h6:=hg.kinds
 have h7:=hm.len
 unfold fY
 omega
theorem mq:bits BinOp.and IntKind.i64 1 0=0:=by decide
theorem mr:bits BinOp.and IntKind.i64 2 1=0:=by decide
theorem mu:bits BinOp.and IntKind.i64 3 2=2:=by decide
theorem f114(hg:fr g)(hm:ko g m)(hp:fR g p):Wf T 114 [.agg [dI m],dP p] [] (Is (.i (fY m p))):=by
 have hk:=hg.kinds
 have gy:=hp.size
 have oG:=hg.ib.size
 have lm:=hm.len
 have l0:=hp.h0.len
 have l1:=hp.h1.len
 refine Yg Co ?_
 simp[Co]
 refine fe.e (0:Int) (fun y=>[(2,.ptr 0 0 0),(3,.ptr 1 0 0),(5,.i (nW m p.cs y.toNat)),(14,dI p.cs),(15,.i p.cs.length),(16,.i y)]) (fun y=>[.row 50 0 [dI m],.row 44 0 p.cells]) (fun y=>0≤y∧y≤p.cs.length) (fun y=>(p.cs.length-y).toNat) ?_ ?_
 ·simp
 rintro i ⟨i0,i1⟩
 dsimp only at i0 i1 ⊢
 by_cases hi:i<p.cs.length
 ·have hs:=X9 (m:=m) (cs:=p.cs) i0
  have fF:=Gp hg hm hp i.toNat (by omega)
  have kb:=ff i0 hi
  have NZ:=Pz hg hm hp kb
  have hmk:=PE hk.2 (hp.cs _ kb)
  simp[hi]
  (with_reducible repeat' first|refine Xk ?_<;>try simp|refine Xs ?_ ?_<;>intro h<;>(try intro h')<;>(try simp[h])<;>(try omega)|refine Xg ?_|omega)
  refine Yc (f84 _) ?_
  simp
  unfold ot at hs NZ
  (with_reducible repeat' first|refine Xk ?_<;>try simp|refine Xs ?_ ?_<;>intro h<;>(try intro h')<;>(try simp[h])<;>(try omega)|refine Xg ?_|omega)
  ·rw[if_pos (by assumption)]at hs NZ
   (with_reducible repeat' first|refine Xk ?_<;>try simp|refine Xs ?_ ?_<;>intro h<;>(try intro h')<;>(try simp[h])<;>(try omega)|refine Xg ?_|omega)
   refine LJ.i (i+1) (by first|rfl|simp[hs]) (by first|rfl|simp[hs]) rfl rfl ?_
   omega
  ·rw[if_neg (by omega)]at hs
   refine LJ.i (i+1) (by first|rfl|simp[hs]) (by first|rfl|simp[hs]) rfl rfl ?_
   omega
 have vU:i=p.cs.length:=by omega
 subst vU
 simp
 have hA:=Gp hg hm hp p.cs.length (Nat.le_refl _)
 unfold fY
 generalize nW m p.cs p.cs.length=A at *
 refine fe.e (0:Int) (fun y=>[(3,.ptr 1 0 0),(5,.i (A+nb m p.h0 p.h1 y.toNat)),(36,dI m),(37,.i m.length),(38,.i y)]) (fun y=>[.row 50 0 [dI m],.row 44 0 p.cells]) (fun y=>0≤y∧y≤m.length) (fun y=>(m.length-y).toNat) ?_ ?_
 ·simp
 rintro i ⟨i0,i1⟩
 dsimp only at i0 i1 ⊢
 by_cases hi:i<m.length
 ·have hs:=X' (m:=m) (a:=p.h0) (b:=p.h1) i0
  have fF:=Gr hm hp i.toNat (by omega)
  have ht:=PA hm hp i0 hi
  simp[hi]
  (with_reducible repeat' first|refine Xk ?_<;>try simp|refine Xs ?_ ?_<;>intro h<;>(try intro h')<;>(try simp[h])<;>(try omega)|refine Xg ?_|omega)
  refine LJ.i (i+1) (by first|rfl|simp[hs,cV]) (by first|rfl|simp[hs,cV]) rfl rfl ?_
  omega
 have vU:i=m.length:=by omega
 subst vU
 simp
 have hH:=Gr hm hp m.length (Nat.le_refl _)
 generalize nb m p.h0 p.h1 m.length=B at *
 rcases QH hg hp with e|e|e|e
 ·refine fe.un ?_
  refine iO.u ?_
  simp[e,mq,mr,mu]
  simp[se,mq,mr,mu]
 ·refine fe.un ?_
  refine iO.u ?_
  simp[e,mq,mr,mu]
  (with_reducible repeat' first|refine Xk ?_<;>try simp[mq,mr,mu]|refine Xs ?_ ?_<;>intro h<;>(try intro h')<;>(try simp[h,mq,mr,mu])<;>(try omega)|refine Xg ?_|omega)
  refine iO.u ?_
  simp[e,mq,mr,mu]
  simp[se,mq,mr,mu]
 ·refine fe.un ?_
  refine iO.u ?_
  simp[e,mq,mr,mu]
  (with_reducible repeat' first|refine Xk ?_<;>try simp[mq,mr,mu]|refine Xs ?_ ?_<;>intro h<;>(try intro h')<;>(try simp[h,mq,mr,mu])<;>(try omega)|refine Xg ?_|omega)
  refine iO.u ?_
  simp[e,mq,mr,mu]
  simp[se,mq,mr,mu]
 ·refine fe.un ?_
  refine iO.u ?_
  simp[e,mq,mr,mu]
  (with_reducible repeat' first|refine Xk ?_<;>try simp[mq,mr,mu]|refine Xs ?_ ?_<;>intro h<;>(try intro h')<;>(try simp[h,mq,mr,mu])<;>(try omega)|refine Xg ?_|omega)
  refine iO.u ?_
  simp[e,mq,mr,mu]
  (with_reducible repeat' first|refine Xk ?_<;>try simp[mq,mr,mu]|refine Xs ?_ ?_<;>intro h<;>(try intro h')<;>(try simp[h,mq,mr,mu])<;>(try omega)|refine Xg ?_|omega)
  refine iO.u ?_
  simp[e,mq,mr,mu]
  simp[se,mq,mr,mu,cV]
end
end Go.Proofs.YtnaefnajkaohgaaGreatDoor
namespace Go.Proofs.YtnaefnajkaohgaaGreatDoor
open Go Go.AL Classical
def uF(n:Int):List Int→List Int
 | []=>[n]
 | a::r=>if n<a then n::a::r else if n=a then a::r else a::uF n r
def wW:List Int→List Int
 | []=>[]
 | a::r=>uF a (wW r)
def px(l:List Int):Prop:=l.Pairwise fun a b=>a<b
theorem Kh{n x:Int}:∀ {l:List Int},x∈uF n l↔x=n∨x∈l
 | []=>by simp[uF]
 | a::r=>by
  unfold uF
  split
  ·simp
  ·split
   ·rename_i h;subst h;simp
   ·simp only[aq,Kh (l:=r)]
    constructor
    ·rintro(h|h|h)<;>simp[h]
    ·rintro(h|h|h)<;>simp[h]
theorem Q9{n:Int}:∀ {l:List Int},px l→px (uF n l)
 | [],_=>by simp[uF,px]
 | a::r,h=>by
  obtain⟨h1,h2⟩:=aJ.1 h
  unfold uF
  split
  ·rename_i hn
   refine aJ.2 ⟨fun x hx=>?_,h⟩
   rcases aq.1 hx with rfl|hx
   ·exact hn
   ·have:=h1 x hx;omega
  ·split
   ·exact h
   ·refine aJ.2 ⟨fun x hx=>?_,Q9 h2⟩
    rcases Kh.1 hx with rfl|hx
    ·omega
    ·exact h1 x hx
theorem yn{x:Int}:∀ {l:List Int},x∈wW l↔x∈l
 | []=>by simp[wW]
 | a::r=>by rw[wW,Kh,yn (l:=r),aq]
theorem wX:∀ (l:List Int),px (wW l)
 | []=>List.Pairwise.nil
 | a::r=>Q9 (wX r)
theorem px.nd{l:List Int}(h:px l):l.Nodup:=List.Pairwise.imp (fun h=>by omega) h
theorem JV:∀ {l l':List Int},px l→px l'→(∀ x,x∈l↔x∈l')→l=l'
 | [],[],_,_,_=>rfl
 | [],b::r,_,_,h=>absurd ((h b).2 (by simp)) (by simp)
 | a::r,[],_,_,h=>absurd ((h a).1 (by simp)) (by simp)
 | a::r,b::t,h1,h2,h=>by
  obtain⟨a1,a2⟩:=aJ.1 h1
  obtain⟨b1,b2⟩:=aJ.1 h2
  have e:a=b:=by
   rcases aq.1 ((h a).1 (by simp))with e|e
   ·exact e
   ·rcases aq.1 ((h b).2 (by simp))with e2|e2
    ·exact e2.symm
    ·have:=b1 _ e;have:=a1 _ e2;omega
  subst e
  rw[JV a2 b2 fun x=>?_]
  have:=h x
  simp only[aq]at this
  constructor
  ·intro hx
   rcases this.1 (.inr hx)with e|e
   ·have:=a1 x hx;omega
   ·exact e
  ·intro hx
   rcases this.2 (.inr hx)with e|e
   ·have:=b1 x hx;omega
   ·exact e
theorem Ym{l:List Int}(h:l.Nodup):l.mergeSort (fun x y=>decide (x≤y))=wW l:=by
 have hp:=List.mergeSort_perm l (fun x y=>decide (x≤y))
 refine JV ?_ (wX l) fun x=>by rw[yn];exact hp.mem_iff
 have h1:(l.mergeSort (fun x y=>decide (x≤y))).Pairwise fun a b=>decide (a≤b)=true:=List.pairwise_mergeSort (fun a b c h1 h2=>by simp at *;omega) (fun a b=>by simp;omega) l
 have h2:(l.mergeSort (fun x y=>decide (x≤y))).Nodup:=hp.nodup_iff.2 h
 exact(h1.and h2).imp fun{a b} ⟨x,y⟩=>by have:=of_decide_eq_true x;omega
noncomputable def ua(m:List Int)(l:List Pos)(n:Int)(k:Nat):List Int:=(upto k).filter fun i=>decide (fY m (gt l i)=n)
noncomputable def kO(m:List Int)(l:List Pos)(n:Int):List Int:=ua m l n l.length
noncomputable def lH(m:List Int)(l:List Pos):List Int:=wW (l.map (fY m))
noncomputable def lA(m:List Int)(l:List Pos):List (List Int):=(lH m l).map (kO m l)
theorem Gs{m:List Int}{l:List Pos}{n:Int}{k:Nat}{i:Int}:i∈ua m l n k↔(0≤i∧i<k)∧fY m (gt l i)=n:=by
 unfold ua
 rw[aK,pg]
 simp
theorem wB{m:List Int}{l:List Pos}{n:Int}{i:Int}:i∈kO m l n↔(0≤i∧i<l.length)∧fY m (gt l i)=n:=Gs
theorem Ns{m:List Int}{l:List Pos}{n:Int}{i:Int}(i0:0≤i):ua m l n (i+1).toNat=ua m l n i.toNat++if fY m (gt l i)=n then [i]else []:=by
 unfold ua
 rw[q8 i0,cj]
 congr 1
 by_cases h:fY m (gt l i)=n<;>simp[h]
theorem Rp(n:Nat):px (upto n):=by
 unfold upto px
 rw[eo]
 exact List.pairwise_lt_range.imp fun h=>by omega
theorem TZ(m:List Int)(l:List Pos)(n:Int):px (kO m l n):=List.Pairwise.filter _ (Rp _)
theorem Nt(m:List Int)(l:List Pos)(n:Int):(kO m l n).Nodup:=(TZ m l n).nd
theorem TX(m:List Int)(l:List Pos)(n:Int):(kO m l n).length≤l.length:=uL _ _ (Nt m l n) fun y hy=>(wB.1 hy).1
theorem TY{m:List Int}{l:List Pos}{n:Int}(h:n∈lH m l):0<(kO m l n).length:=by
 unfold lH at h
 rw[yn]at h
 obtain⟨p,hp,e⟩:=ao.1 h
 obtain⟨i,i0,i1,rfl⟩:=qm.1 hp
 exact cG (wB.2 ⟨⟨i0,i1⟩,e⟩)
theorem Yb(m:List Int)(l:List Pos):(lH m l).Nodup:=(wX _).nd
theorem Gt{m:List Int}{l:List Pos}{n:Int}:n∈lH m l↔∃ i:Int,0≤i∧i<l.length∧fY m (gt l i)=n:=by
 unfold lH
 rw[yn,ao]
 constructor
 ·rintro⟨p,hp,e⟩
  obtain⟨i,i0,i1,rfl⟩:=qm.1 hp
  exact⟨i,i0,i1,e⟩
 ·rintro⟨i,i0,i1,e⟩
  exact⟨_,ff i0 i1,e⟩
theorem Ya(m:List Int)(l:List Pos):(lH m l).length≤l.length:=by
 have:=qn (Yb m l) (m:=l.map (fY m)) fun x hx=>yn.1 hx
 simpa using this
theorem SV(m:List Int)(l:List Pos):(lA m l).length≤l.length:=by unfold lA;rw[List.length_map];exact Ya m l
theorem Ic{m:List Int}{l:List Pos}{p:List Int}(h:p∈lA m l):p.Nodup∧p.length≤l.length∧0<p.length∧∀ i∈p,0≤i∧i<l.length:=by
 obtain⟨n,hn,rfl⟩:=ao.1 h
 exact⟨Nt m l n,TX m l n,TY hn,fun i hi=>(wB.1 hi).1⟩
structure GI(m:List Int)(l:List Pos)(i:Int)(ls:List (Int×List Int)):Prop where
 nd:(ls.map (·.1)).Nodup
 mem:∀ n,n∈ls.map (·.1)↔∃ j:Int,0≤j∧j<i∧fY m (gt l j)=n
 prt:∀ e∈ls,e.2=ua m l e.1 i.toNat
theorem GI.nil(m:List Int)(l:List Pos):GI m l 0 []:=⟨by simp,fun n=>by simp;omega,by simp⟩
section
variable{m:List Int}{l:List Pos}{i:Int}{ls:List (Int×List Int)}
theorem GI.pos(h:GI m l i ls):∀ e∈ls,0<e.2.length:=fun e he=>by
 obtain⟨j,j0,j1,e1⟩:=(h.mem e.1).1 (ao.2 ⟨e,he,rfl⟩)
 rw[h.prt e he]
 exact cG (Gs.2 ⟨⟨j0,by omega⟩,e1⟩)
theorem GI.acT(h:GI m l i ls):∀ e∈ls,e.2.length≤i.toNat:=fun e he=>by
 rw[h.prt e he]
 exact uL _ _ ((Rp _).nd.filter _) fun y hy=>(Gs.1 hy).1
theorem GI.len(h:GI m l i ls):ls.length≤i.toNat:=by
 have:=qn h.nd (m:=(upto i.toNat).map fun j=>fY m (gt l j)) fun x hx=>by
  obtain⟨j,j0,j1,e⟩:=(h.mem x).1 hx
  exact ao.2 ⟨j,pg.2 ⟨j0,by omega⟩,e⟩
 simpa[upto]using this
theorem GI.old(h:GI m l i ls)(i0:0≤i)(hm:fY m (gt l i)∈ls.map (·.1)):∃ a x b,ls=a++(fY m (gt l i),x)::b∧fY m (gt l i) ∉ a.map (·.1)∧GI m l (i+1) (a++(fY m (gt l i),x ++ [i])::b):=by
 obtain⟨e,he,e1⟩:=ao.1 hm
 obtain⟨a,b,rfl⟩:=List.append_of_mem he
 obtain⟨n,x⟩:=e
 dsimp only at e1
 subst e1
 have lE:=h.nd
 rw[List.map_append,List.map_cons,aP]at lE
 have ha:fY m (gt l i) ∉ a.map (·.1):=fun hx=>lE.2.2 _ hx _ (cd ..) rfl
 have hb:fY m (gt l i) ∉ b.map (·.1):=(ct.1 lE.2.1).1
 refine⟨a,x,b,rfl,ha,?_,fun n=>?_,fun e he=>?_⟩
 ·have:=h.nd
  simpa using this
 ·have:=h.mem n
  have e2:(a++(fY m (gt l i),x ++ [i])::b).map (·.1)=(a++(fY m (gt l i),x)::b).map (·.1):=by simp
  rw[e2,this]
  constructor
  ·rintro⟨j,j0,j1,e⟩;exact⟨j,j0,by omega,e⟩
  ·rintro⟨j,j0,j1,e⟩
   by_cases hj:j<i
   ·exact⟨j,j0,hj,e⟩
   ·have:j=i:=by omega
    subst this
    rw[← e]
    exact(h.mem _).1 hm
 ·rw[Ns i0]
  have gd:∀ e'∈a++b,e'∈a++(fY m (gt l i),x)::b∧fY m (gt l i)≠e'.1:=fun e' h'=>by
   rcases List.mem_append.1 h' with h'|h'
   ·exact⟨by simp[h'],fun hx=>ha (ao.2 ⟨e',h',hx.symm⟩)⟩
   ·exact⟨by simp[h'],fun hx=>hb (ao.2 ⟨e',h',hx.symm⟩)⟩
  have kG:e∈a++b∨e=(fY m (gt l i),x ++ [i]):=by
   rcases List.mem_append.1 he with h'|h'
   ·exact .inl (by simp[h'])
   ·rcases aq.1 h' with h'|h'
    ·exact .inr h'
    ·exact .inl (by simp[h'])
  rcases kG with h'|rfl
  ·obtain⟨h1,h2⟩:=gd e h'
   rw[if_neg h2,aw]
   exact h.prt e h1
  ·rw[if_pos rfl]
   have:=h.prt (fY m (gt l i),x) (by simp)
   dsimp only at this ⊢
   rw[← this]
theorem GI.new(h:GI m l i ls)(i0:0≤i)(hm:fY m (gt l i) ∉ ls.map (·.1)):GI m l (i+1) (ls ++ [(fY m (gt l i),[i])]):=by
 refine⟨?_,fun n=>?_,fun e he=>?_⟩
 ·rw[List.map_append,aP]
  exact⟨h.nd,by simp,fun a ha b hb e=>hm (by simp at hb;rw[← hb,← e];exact ha)⟩
 ·rw[List.map_append,List.mem_append,h.mem n]
  constructor
  ·rintro(⟨j,j0,j1,e⟩|h1)
   ·exact⟨j,j0,by omega,e⟩
   ·exact⟨i,i0,by omega,by simp at h1;exact h1.symm⟩
  ·rintro⟨j,j0,j1,e⟩
   by_cases hj:j<i
   ·exact .inl ⟨j,j0,hj,e⟩
   ·have:j=i:=by omega
    subst this
    exact .inr (by simp[e])
 ·rw[Ns i0]
  rcases List.mem_append.1 he with he|he
  ·rw[if_neg fun hx=>hm (ao.2 ⟨e,he,hx.symm⟩),aw]
   exact h.prt e he
  ·rw[List.mem_singleton.1 he,if_pos rfl]
   have:ua m l (fY m (gt l i)) i.toNat = []:=cv.2 fun j hj=>by
    obtain⟨h1,h2⟩:=Gs.1 hj
    exact hm ((h.mem _).2 ⟨j,h1.1,by omega,h2⟩)
   rw[this];rfl
theorem GI.keys(h:GI m l l.length ls)(n:Int):n∈ls.map (·.1)↔n∈lH m l:=by rw[h.mem,Gt]
theorem GI.tu(h:GI m l l.length ls){ks:List Int}(hn:ks.Nodup)(hk:∀ n,n∈ks↔n∈ls.map (·.1)):ks.mergeSort (fun x y=>decide (x≤y))=lH m l:=by
 rw[Ym hn]
 exact JV (wX _) (wX _) fun x=>by rw[yn,hk,h.keys]
theorem Ng:∀ {ls:List (Int×List Int)},(ls.map (·.1)).Nodup→∀ e∈ls,kI (ku ls) (.int .i64 e.1)=some (dI e.2)
 | [],_,e,he=>by cases he
 | a::r,h,e,he=>by
  rw[List.map_cons,ct]at h
  unfold ku
  simp only[List.map_cons,kI,wu]
  rcases aq.1 he with rfl|he
  ·simp
  ·have gd:¬ e.1=a.1:=fun hx=>h.1 (hx▸ao.2 ⟨e,he,rfl⟩)
   have VL:¬ a.1=e.1:=fun hx=>gd hx.symm
   have:=Ng h.2 e he
   unfold ku at this
   simp[gd,VL,this]
theorem GI.get(h:GI m l l.length ls){n:Int}(hn:n∈lH m l):kI (ku ls) (.int .i64 n)=some (dI (kO m l n)):=by
 obtain⟨e,he,rfl⟩:=ao.1 ((h.keys n).2 hn)
 rw[Ng h.nd e he,h.prt e he]
 rfl
