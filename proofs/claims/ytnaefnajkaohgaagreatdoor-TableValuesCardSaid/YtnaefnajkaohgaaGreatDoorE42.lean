/- Part 42 of the proof of skewer.skewerlaw15.TableValues. -/
import Derived.Test.YtnaefnajkaohgaaGreatDoorE38
import Derived.Test.YtnaefnajkaohgaaGreatDoorE18
import Derived.Test.YtnaefnajkaohgaaGreatDoorE39
set_option linter.all false
namespace Go.Proofs.YtnaefnajkaohgaaGreatDoor
open Go Go.AL Classical
set_option maxRecDepth 10000
set_option maxHeartbeats 8000000
section
variable{m:List Int}{ls:List (Int×List Int)}{G:U}
@[simp] theorem aeN(h:0<(LH m ls).length):(LH m ls)[0]'h = .row 50 0 [dI m]:=rfl
@[simp] theorem aeO(h:1<(LH m ls).length):(LH m ls)[1]'h = .map (.int .i64) (ik 2 ls):=rfl
theorem u5:(LH m ls++G)[ls.length+2]? = G[0]? := by rw[ak (by simp),zn,Nat.sub_self]
theorem u6:(LH m ls++G)[ls.length+3]? = G[1]? := by
 rw[ak (by simp),zn,show ls.length+3-(ls.length+2)=1 by omega]
theorem u7:(LH m ls++G)[ls.length+4]? = G[2]? := by
 rw[ak (by simp),zn,show ls.length+4-(ls.length+2)=2 by omega]
theorem u9(x:Ob):(LH m ls++G).set (ls.length+2) x=LH m ls++G.set 0 x:=by rw[List.set_append_right _ _ (by simp),zn,Nat.sub_self]
theorem vb(x:Ob):(LH m ls++G).set (ls.length+3) x=LH m ls++G.set 1 x:=by rw[List.set_append_right _ _ (by simp),zn,show ls.length+3-(ls.length+2)=1 by omega]
end
theorem Hw{m:List Int}{ls:List (Int×List Int)}{G:U}{k:Nat}{y:Ob}(h:1<((LH m ls++G).set (2+k) y).length):((LH m ls++G).set (2+k) y)[1]'h = .map (.int .i64) (ik 2 ls):=by
 rw[List.getElem_set_ne (by omega),List.getElem_append_left (by simp)]
 rfl
theorem L4{n:Nat}{live:List Nat}{env:Env}{m:List Int}{ls:List (Int×List Int)}{r:Bool}(h2:2≤n)(hn:n≤ls.length+2)(he:lr n (forget live env)) :
  cut n live { env:=env,H:=LH m ls,marks:=[],fG:=r } = { env:=forget live env,H:=LH m ls,marks:=[],fG:=r }:=by
 have:=L3 (m:=m) (ls:=ls) (G:=[]) (r:=r) h2 hn he
 rwa [aw]at this
theorem R4{id n:Nat}{live:List Nat}{K:gA}{env:Env}{H G:U}{r:Bool}{m:List Int}{ls:List (Int×List Int)}(hH:H=LH m ls++G)(h2:2≤n)(hn:n≤ls.length+2)(he:lr n (forget live env))
  (k:K (.norm { env:=forget live env,H:=LH m ls,marks:=[],fG:=r })):qy id n live K (.norm { env:=env,H:=H,marks:=[],fG:=r }):=by
 subst hH
 rw[xp,L3 h2 hn he]
 exact k
theorem R5{id n:Nat}{live:List Nat}{K:gA}{env:Env}{H:U}{r:Bool}{m:List Int}{ls:List (Int×List Int)}{o1 o2:Ob}{k i:Int}(hH:H=(LH m ls).set 1 (.map (.int .i64) (ik 2 ls ++ [(.int .i64 k,.eT (ls.length+4) 0 1 0 1)])) ++ [o1,o2,.row 3 0 [.i i]])(h2:2≤n)(hn:n≤ls.length+2)(he:lr n (forget live env))
  (h:K (.norm { env:=forget live env,H:=LH m (ls ++ [(k,[i])]),marks:=[],fG:=r })):qy id n live K (.norm { env:=env,H:=H,marks:=[],fG:=r }):=by
 subst hH
 rw[← cN _ _ (by simp),xp,RF h2 hn he]
 exact h
theorem GG{n:Nat}(h:2≤n)(l:List Pos)(a i:Int):lr n [(2,.ptr 0 0 0),(5,.omap 1),(13,gb l),(14,.i a),(15,.i i)]:=
 Ks (by omega) (ab5 (by omega) (mM (SA l) (mM rfl (mM rfl wI))))
@[simp] theorem ahw(t:TypeId)(v n:Nat):p6 t (.omap v) n=some (.ptr n 0 0,.new (.row t 0 [.omap v])):=rfl
@[simp] theorem ahu(t:TypeId)(n:Nat):p6 t .emp n=some (.ptr n 0 0,.new (.row t 0 [.emp])):=rfl
@[simp] theorem an7(n:Nat)(ls:List (Int×List Int)):((ku ls).map fun x=>gG n x.2)=ls.map fun _=>[]:=by
 unfold ku
 rw[bA]
 exact aj fun e _=>by simp
@[simp] theorem aiW(ls:List (Int×List Int)):(ku ls).length=ls.length:=by simp[ku]
@[simp] theorem Tr(ρ:Nat→Option Nat)(H:U)(ls:List (Int×List Int)):((ku ls).map fun x=>(x.1,eZ ρ H 40 x.2))=ku ls:=by
 unfold ku
 rw[bA]
 refine aj fun e _=>?_
 have:eZ ρ H 40 (dI e.2)=dI e.2:=lI (EL e.2)
 simp[this]
theorem Tq{env:Env}{m:List Int}{ls:List (Int×List Int)}{k:Nat}{r:Bool}(he:forget [5] env = [(5,.omap 1)]) :
  cut 2 [5] { env:=env,H:=.row 50 0 [dI m] :: .map (.int .i64) (ku ls)::List.replicate k .dead,marks:=[],fG:=r } = { env:=[(5,.omap 1)],H:=[.row 50 0 [dI m],.map (.int .i64) (ku ls)],marks:=[],fG:=r }:=by
 by_cases hk:k=0
 ·subst hk
  rw[xA (by simp),he];rfl
 ·rw[pz (by simp;omega),he]
  have h1:eZ (fL (gq 2 [])) (.row 50 0 [dI m] :: .map (.int .i64) (ku ls)::List.replicate k .dead) 40 (dI m)=dI m:=lI (EL m)
  have hr:tl 2 [(5,D.omap 1)] (.row 50 0 [dI m] :: .map (.int .i64) (ku ls)::List.replicate k .dead) [] = []:=by
   unfold tl
   simp
  rw[hr]
  unfold xy
  simp only[Xt,List.map_nil,List.map_cons]at h1 ⊢
  simp[Tr,h1,pk,iL]
theorem NI{ds:List Int}(h:ds.Nodup):∀ {ys:List Nat},ys.Nodup→(∀ j∈ys,j<ds.length)→(gk ds ys).Nodup
 | [],_,_=>List.nodup_nil
 | j::r,hn,hl=>by
  obtain⟨h1,h2⟩:=ct.1 hn
  refine ct.2 ⟨fun hm=>?_,NI h h2 fun k hk=>hl k (by simp[hk])⟩
  obtain⟨k,hk,e⟩:=ao.1 hm
  have hj:=hl j (by simp)
  have ja:=hl k (by simp[hk])
  dsimp only at e
  rw[qG hj,qG ja]at e
  have:=(List.getElem_inj h).1 e
  exact h1 (this▸hk)
def HK(m:List Int)(ls:List (Int×List Int))(x:D)(st:oV):U:=[.row 50 0 [dI m],.map (.int .i64) (ku ls),.row 33 0 (List.replicate ls.length .emp),.row 192 0 [.omap 1],.row 33 0 [x],.jv,.gg 12608 [(2,.ptr 4 0 0)] st]
theorem Nf{ls:List (Int×List Int)}{ds:List Int}(lh:ls.map (·.1)=ds){i:Nat}{k:Value}{d:D}(h:(ku ls)[i]? = some (k,d)):i<ls.length∧k = .int .i64 (gt ds (i:Int)):=by
 subst lh
 unfold ku at h
 rw[au]at h
 obtain⟨a,ha,he⟩:=ai.1 h
 obtain⟨hi,e⟩:=ae.1 ha
 refine⟨hi,?_⟩
 rw[qG (by simpa using hi),c9,e]
 exact(congrArg Prod.fst he).symm
theorem SU{env:Env}{m:List Int}{ls:List (Int×List Int)}{k:Int}{n:Nat}{ys:List Nat}{o8:Ob} :
  cut 8 [] { env:=env,H:=[.row 50 0 [dI m],.map (.int .i64) (ku ls),.row 33 0 (List.replicate n .emp),.row 192 0 [.omap 1],.row 33 0 [.eT 9 0 1 0 1],.jv,.gg 12608 [(2,.ptr 4 0 0)] .busy,.jd (.omap 1) n ys,o8,.row 3 0 [.i k]],marks:=[],fG:=true } =
   { env:=[],H:=[.row 50 0 [dI m],.map (.int .i64) (ku ls),.row 33 0 (List.replicate n .emp),.row 192 0 [.omap 1],.row 33 0 [.eT 8 0 1 0 1],.jv,.gg 12608 [(2,.ptr 4 0 0)] .busy,.jd (.omap 1) n ys,.row 3 0 [.i k]],marks:=[],fG:=true }:=by
 rw[pz (by simp)]
 have hr:tl 8 (forget [] env) [.row 50 0 [dI m],.map (.int .i64) (ku ls),.row 33 0 (List.replicate n .emp),.row 192 0 [.omap 1],.row 33 0 [.eT 9 0 1 0 1],.jv,.gg 12608 [(2,.ptr 4 0 0)] .busy,.jd (.omap 1) n ys,o8,.row 3 0 [.i k]] [] = [9]:=by
  simp[tl]
 rw[hr]
 simp[xy]
theorem f161(m:List Int)(ls:List (Int×List Int))(h4:ls.length≤4000)(h0:0<ls.length)(ds:List Int)(lh:ls.map (·.1)=ds)(lE:ds.Nodup) :
  Wf T 161 [.gP 6,.ptr 3 0 0] (HK m ls .emp .ready) (fun _ H'=>∃ ks:List Int,ks.Nodup∧(∀ n,n∈ks↔n∈ds)∧H'=HK m ls (.eT 7 (ks.length-1) 1 0 ks.length) .ready ++ [.row 3 (ks.length-1) (cl f1 ks)]):=by
 have I3:ds.length=ls.length:=by rw[← lh,List.length_map]
 have Oc:∀ ys,(gk ds ys).length=ys.length:=fun ys=>by simp[gk]
 unfold HK
 refine Yg CR ?_
 simp[CR]
 refine fe.e ([]:List Nat) (fun y=>[(0,.gP 6),(5,.ptr 7 0 0)]) (fun y=>HK m ls (if y = []then .emp else .eT 8 (y.length-1) 1 0 y.length) .ready ++ .jd (.omap 1) ls.length y::(if y = []then []else [.row 3 (y.length-1) (cl f1 (gk ds y))])) (fun y=>y.Nodup∧∀ j∈y,j<ls.length) (fun y=>ls.length-y.length) ?_ ?_
 ·simp
 rintro ys ⟨FL,ft⟩
 dsimp only at FL ft ⊢
 have Wj:∀ i,i ∉ ys→i<ls.length→ls.length-(ys ++ [i]).length<ls.length-ys.length∧(ys ++ [i]).Nodup∧∀ j∈ys ++ [i],j<ls.length:=fun i hi ka=>by
  have FK:(ys ++ [i]).Nodup:=by
   rw[aP]
   exact⟨FL,by simp,fun a ha b hb e=>hi (by rw[List.mem_singleton.1 hb]at e;exact e▸ha)⟩
  have Oo:∀ j∈ys ++ [i],j<ls.length:=fun j hj=>by
   rcases List.mem_append.1 hj with hj|hj
   ·exact ft j hj
   ·rw[List.mem_singleton.1 hj];exact ka
  have:=qn FK (m:=List.range ls.length) fun x hx=>aX.2 (Oo x hx)
  simp only[ax,List.length_singleton,List.length_range]at this
  exact⟨by simp only[ax,List.length_singleton];omega,FK,Oo⟩
 by_cases hy:ys = []
 ·subst hy
  simp[HK]
  refine qw.at (m:=1) (since:=ls.length) (seen:=[]) (kk:=.int .i64) (es:=ku ls) (by simp) (by simp) (by simp) (fun gu=>?_) fun i k d he hi=>?_
  ·exact absurd (gu 0 (by simpa using h0)) (by simp)
  ·obtain⟨ka,rfl⟩:=Nf lh he
   simp[he]
   refine nJ.r (rf:=12608) (env0:=[(2,.ptr 4 0 0)]) (Rd:=rm) (by simp) rfl rfl rm.a rm.b (lJ rfl) (lJ rfl) ?_
   simp[rm,-pz,SU]
   simp
   refine LJ.i [i] (by simp) (by simp[gL,gk]) rfl rfl ?_
   exact⟨by simp;omega,by simp,fun j hj=>by rw[List.mem_singleton.1 hj];exact ka⟩
 ·have jj:0<ys.length:=az.2 hy
  have WH:=qn FL (m:=List.range ls.length) fun x hx=>aX.2 (ft x hx)
  rw[List.length_range]at WH
  simp only[if_neg hy]
  simp[HK]
  refine qw.at (m:=1) (since:=ls.length) (seen:=ys) (kk:=.int .i64) (es:=ku ls) (by simp) (by simp) (by simp) (fun gu=>?_) fun i k d he hi=>?_
  ·simp
   refine⟨gk ds ys,?_,Kg (by rw[I3];exact ft) (by rw[I3];simpa using gu),?_⟩
   ·exact NI lE FL (by rw[I3];exact ft)
   ·rw[Oc]
    exact⟨rfl,rfl,rfl,rfl⟩
  ·obtain⟨ka,rfl⟩:=Nf lh he
   have h3:=Wj i hi ka
   simp[he]
   refine nJ.r (rf:=12608) (env0:=[(2,.ptr 4 0 0)]) (Rd:=rm) (by simp) rfl rfl rm.a rm.b (lJ rfl) (lJ rfl) ?_
   simp[rm,Oc]
   (with_reducible repeat' first|refine Xk ?_<;>try simp|refine Xs ?_ ?_<;>intro h<;>(try intro h')<;>(try simp[h])<;>(try omega)|refine Xg ?_|omega)
   refine LJ.i (ys ++ [i]) (by first|rfl|simp[xG,show ys.length-1+1=ys.length by omega]) (by first|rfl|simp[xG,show ys.length-1+1=ys.length by omega]) rfl rfl ?_
   exact h3
theorem f160{v gen t:Nat}{l:List Int}{H:U}{K:D→U→Prop}(h0:0<l.length)(rF:l.length<4611686018427387904)(hv:H[v]? = some (.row t gen (cl f1 l)))
  (k:K (.tup []) (H.set v (.row t gen (cl f1 (l.mergeSort fun x y=>decide (x≤y)))))):Wf T 160 [.eT v gen 1 0 l.length] H K:=by
 rw[EK]at hv k
 exact Ev.po l rfl h0 rF hv ⟨_,_,rfl,k⟩
attribute [-simp] pz
section
variable{g:eU}{m:List Int}{l:List Pos}
theorem f77(hg:fr g)(hm:ko g m)(hl:∀ p∈l,fR g p)(h9:l.length≤4000)(h0:0<l.length):Wf T 77 [.agg [dI m],gb l] [] (Is (.sl 1 ((lA m l).map fI))):=by
 refine Yg D2 ?_
 simp[D2]
 refine fe.v ((0,[]):Int×List (Int×List Int)) (fun y=>[(2,.ptr 0 0 0),(5,.omap 1),(13,gb l),(14,.i l.length),(15,.i y.1)]) (fun y=>LH m y.2) (fun y=>0≤y.1∧y.1≤l.length∧GI m l y.1 y.2) (fun y=>(l.length-y.1).toNat) ?_ (by simp) (by first|rfl|(simp[gL];done)|(simp[*];done)) rfl rfl rfl ?_
 ·exact⟨by simp,by simp,GI.nil m l⟩
 rintro⟨i,ls⟩ ⟨i0,i1,hG⟩
 dsimp only at i0 i1 hG ⊢
 by_cases hi:i<l.length
 ·refine XC.wc ?_
  have hp:=hl _ (ff i0 hi)
  have fF:=XU hg hm hp
  simp[hi,u5,u6,u7,u9,vb]
  (with_reducible repeat' first|refine Xk ?_<;>try simp[u5,u6,u7,u9,vb]|refine Xs ?_ ?_<;>intro h<;>(try intro h')<;>(try simp[h,u5,u6,u7,u9,vb])<;>(try omega)|refine Xg ?_|omega)
  refine Yc (f114 hg hm hp) ?_
  simp[u5,u6,u7,u9,vb]
  by_cases kb:fY m (gt l i)∈ls.map (·.1)
  ·obtain⟨a,x,b,e,ha,rG⟩:=hG.old i0 kb
   generalize fY m (gt l i)=n at *
   have hx:=hG.pos (n,x) (by rw[e];simp)
   have pH:=hG.acT (n,x) (by rw[e];simp)
   dsimp only at hx pH
   have gM:kI (ik 2 ls) (.int .i64 n)=some (.eT (2+a.length) (x.length-1) 1 0 x.length):=by rw[e];exact Tm ha 2 x b
   have lZ:∀ G,(LH m ls++G)[2+a.length]? = some (.row 3 (x.length-1) (cl f1 x)):=fun G=>by rw[e];exact L0 m a (n,x) b G
   have gW:(x ++ [i]).length=x.length+1:=by simp
   have mg:jA (ik 2 ls) (.int .i64 n) (.eT (2+a.length) (x.length-1+1) 1 0 (x.length+1))=ik 2 (a++(n,x ++ [i])::b):=by
    have:=To ha 2 x (x ++ [i]) b
    rw[← e,gW,show x.length+1-1=x.length-1+1 by omega]at this
    exact this
   have VX:∀ G,((LH m ls++G).set (2+a.length) (.row 3 (x.length-1+1) (cl f1 (x ++ [i])))).set 1 (.map (.int .i64) (ik 2 (a++(n,x ++ [i])::b)))=LH m (a++(n,x ++ [i])::b)++G:=fun G=>by
    have:=RI m a n x (x ++ [i]) b G
    rw[← e,gW,show x.length+1-1=x.length-1+1 by omega]at this
    exact this
   have sU:ls.length=(a++(n,x ++ [i])::b).length:=by rw[e];simp
   simp[gM,lZ,u5,u6,u7,u9,vb,Hw,mg,-xp]
   (with_reducible repeat' first|refine Xk ?_<;>try simp|refine Xs ?_ ?_<;>intro h<;>(try intro h')<;>(try simp[h])<;>(try omega)|refine Xg ?_|omega)
   refine R4 (ls:=a++(n,x ++ [i])::b) (m:=m) (G:=?_) (by simp[VX,mg,u5,u6,u7,u9,vb,Hw];rfl) (by simp) (by omega) (by simp;exact GG (by omega) _ _ _) ?_
   simp[-yl]
   (with_reducible repeat' first|refine Xk ?_<;>try simp|refine Xs ?_ ?_<;>intro h<;>(try intro h')<;>(try simp[h])<;>(try omega)|refine Xg ?_|omega)
   rw[yl,L4 (by omega) (by simp) (by simp;exact GG (by omega) _ _ _)]
   refine LJ.e (i+1,a++(n,x ++ [i])::b) ?_
   exact⟨by omega,by omega,by omega,rG⟩
  ·have rG:=hG.new i0 kb
   have sU:=rG.len
   rw[ax,List.length_singleton]at sU
   generalize fY m (gt l i)=n at *
   have gM:kI (ik 2 ls) (.int .i64 n)=none:=Tn kb 2
   have mg:jA (ik 2 ls) (.int .i64 n) (.eT (ls.length+4) 0 1 0 1)=ik 2 ls ++ [(.int .i64 n,.eT (ls.length+4) 0 1 0 1)]:=Tp kb 2 _
   simp[gM,u5,u6,u7,u9,vb,Hw,mg,-xp]
   refine R5 (m:=m) rfl (by omega) (by omega) (by simp;exact GG (by omega) _ _ _) ?_
   simp[-yl]
   (with_reducible repeat' first|refine Xk ?_<;>try simp|refine Xs ?_ ?_<;>intro h<;>(try intro h')<;>(try simp[h])<;>(try omega)|refine Xg ?_|omega)
   rw[yl,L4 (by omega) (by simp) (by simp;exact GG (by omega) _ _ _)]
   refine LJ.e (i+1,ls ++ [(n,[i])]) ?_
   exact⟨by omega,by omega,by omega,rG⟩
 ·have vU:i=l.length:=by omega
  subst vU
  have Vg:=hG.len
  refine Wc.jx (List.range' 2 ls.length) (PC _) ?_
  rw[RG _ _ _ _ _ hG.pos]
  refine XC.wc ?_
  simp[-Es]
  rw[Es,Tq (by simp)]
  simp
  (with_reducible repeat' first|refine Xk ?_<;>try simp|refine Xs ?_ ?_<;>intro h<;>(try intro h')<;>(try simp[h])<;>(try omega)|refine Xg ?_|omega)
  refine fw.inl yY rfl rfl (by simp[yY]) rfl ?_
  simp[yY]
  refine fw.inl yX rfl rfl (by simp[yX]) rfl ?_
  simp[yX]
  refine fw.inl y8 rfl rfl (by simp[y8]) rfl ?_
  simp[y8]
  refine fw.inl za rfl rfl (by simp[za]) rfl ?_
  simp[za]
  refine pY.r (f:=161) (first:=[]) (cap:=[.ptr 3 0 0]) rfl rfl rfl rfl ?_
  simp
  have Vh:0<ls.length:=by
   have:=(hG.keys (fY m (gt l 0))).2 (Gt.2 ⟨0,by omega,by omega,rfl⟩)
   obtain⟨e,he,_⟩:=ao.1 this
   exact cG he
  refine Wf.mono (f161 m ls (by omega) Vh (ls.map (·.1)) rfl hG.nd) ?_
  rintro _ H' ⟨ks,k1,k2,rfl⟩
  have kl:ks.length=ls.length:=by
   have a1:=qn k1 (m:=ls.map (·.1)) fun x hx=>(k2 x).1 hx
   have a2:=qn hG.nd (m:=ks) fun x hx=>(k2 x).2 hx
   rw[List.length_map]at a1 a2
   omega
  have Pd:=hG.tu k1 k2
  refine⟨[(2,.ptr 4 0 0)],.ready,by simp[HK],?_⟩
  simp[HK,pz]
  refine fw.nC rfl rfl (f160 (l:=ks) (v:=4) (t:=3) (gen:=ks.length-1) (K:=fun d H'=>d = .tup []∧H' = [.row 50 0 [dI m],.map (.int .i64) (ku ls),.row 33 0 (List.replicate ls.length .emp),.row 192 0 [.omap 1],.row 3 (ks.length-1) (cl f1 (lH m l))]) (by omega) (by omega) (by simp) ⟨rfl,by simp[Pd]⟩) ?_
  rintro _ H' ⟨rfl,rfl⟩
  simp
  have A6:(lH m l).length=ks.length:=by rw[← Pd,List.length_mergeSort]
  have Xr:(lA m l).length=ks.length:=by unfold lA;rw[List.length_map,A6]
  refine fe.s (by simp[pz];rfl) ?_
  refine fe.e ((0,0):Int×Nat) (fun y=>[(5,.omap 1),(9,.eT 2 y.2 1 0 y.1.toNat),(37,.eT 4 (ks.length-1) 1 0 ks.length),(38,.i ks.length),(39,.i y.1)]) (fun y=>[.row 50 0 [dI m],.map (.int .i64) (ku ls),.row 33 y.2 (if y.1=0 then List.replicate ls.length .emp else cl fI ((lA m l).take y.1.toNat)),.row 192 0 [.omap 1],.row 3 (ks.length-1) (cl f1 (lH m l))]) (fun y=>0≤y.1∧y.1≤ks.length) (fun y=>(ks.length-y.1).toNat) ?_ ?_
  ·simp
  rintro⟨i,gn⟩ ⟨i0,i1⟩
  dsimp only at i0 i1 ⊢
  by_cases hi:i<ks.length
  ·have kb:=ff (l:=lH m l) i0 (by omega)
   have gM:=hG.get kb
   have UW:gt (lA m l) i=kO m l (gt (lH m l) i):=by
    rw[nu i0 (by omega),nu i0 (by omega)]
    unfold lA
    rw[c9]
   have qP:(lA m l).take (i+1).toNat=(lA m l).take i.toNat ++ [kO m l (gt (lH m l) i)]:=by rw[gE i0 (by omega),UW]
   by_cases hz:i=0
   ·subst hz
    rw[if_pos rfl]
    have OR:(lA m l).take 1 = [kO m l (gt (lH m l) 0)]:=qP
    have xK:∀ h,(cl f1 (lH m l))[0]'h = .i (gt (lH m l) 0):=fun h=>by
     rw[nu (by omega) (by omega)]
     simp[EK]
    simp[hi,A6,gM,pz,xK]
    (with_reducible repeat' first|refine Xk ?_<;>try simp[gM,A6,pz,xK]|refine Xs ?_ ?_<;>intro h<;>(try intro h')<;>(try simp[h,gM,A6,pz,xK])<;>(try omega)|refine Xg ?_|omega)
    refine LJ.i ((1:Int),gn+1) (by first|rfl|simp[OR,gL]) (by first|rfl|simp[OR,gL]) rfl rfl ?_
    exact⟨by omega,by omega,by omega⟩
   ·rw[if_neg hz]
    rw[show(i+1).toNat=i.toNat+1 by omega]at qP
    simp[hi,A6,gM,pz]
    (with_reducible repeat' first|refine Xk ?_<;>try simp|refine Xs ?_ ?_<;>intro h<;>(try intro h')<;>(try simp[h])<;>(try omega)|refine Xg ?_|omega)
    refine LJ.i (i+1,gn+1) (by first|rfl|simp[show ¬ (i+1=0)by omega,show(i+1).toNat=i.toNat+1 by omega,qP,cP]) (by first|rfl|simp[show ¬ (i+1=0)by omega,show(i+1).toNat=i.toNat+1 by omega,qP,cP]) rfl rfl ?_
    exact⟨by omega,by omega,by omega⟩
  ·have:i=ks.length:=by omega
   subst this
   rw[if_neg (by omega)]
   simp[pz,Xr]
