/- 41 -/
import Derived.Test.YtnaefnajkaohgaaGreatDoorH38
set_option linter.all false
namespace Go.Proofs.YtnaefnajkaohgaaGreatDoor
open Go Go.AL Classical
set_option maxRecDepth 10000
set_option maxHeartbeats 8000000
section
variable{m:List Int}{ls:List (Int×List Int)}{G:U}
@[simp] theorem ahc(h:0<(LH m ls).length):(LH m ls)[0]'h = .row 50 0 [dI m]:=rfl
@[simp] theorem ahd(h:1<(LH m ls).length):(LH m ls)[1]'h = .map (.int .i64) (iE 2 ls):=rfl
theorem wN:(LH m ls++G)[ls.length+2]? = G[0]? := by rw[ak (by simp),A5,Nat.sub_self]
def wQ:(LH m ls++G)[ls.length+3]? = G[1]? := by
 rw[ak (by simp),A5,show ls.length+3-(ls.length+2)=1 by omega]
def wR:(LH m ls++G)[ls.length+4]? = G[2]? := by
 rw[ak (by simp),A5,show ls.length+4-(ls.length+2)=2 by omega]
def wT(x:Ob):(LH m ls++G).set (ls.length+2) x=LH m ls++G.set 0 x:=by rw[List.set_append_right _ _ (by simp),A5,Nat.sub_self]
def wU(x:Ob):(LH m ls++G).set (ls.length+3) x=LH m ls++G.set 1 x:=by rw[List.set_append_right _ _ (by simp),A5,show ls.length+3-(ls.length+2)=1 by omega]
end
def JA{m:List Int}{ls:List (Int×List Int)}{G:U}{k:Nat}{y:Ob}(h:1<((LH m ls++G).set (2+k) y).length):((LH m ls++G).set (2+k) y)[1]'h = .map (.int .i64) (iE 2 ls):=by
 rw[List.getElem_set_ne (by omega),List.getElem_append_left (by simp)]
 rfl
def NQ{n:Nat}{live:List Nat}{env:Env}{m:List Int}{ls:List (Int×List Int)}{r:Bool}(h2:2≤n)(hn:n≤ls.length+2)(he:qw n (forget live env)) :
  cut n live { env:=env,H:=LH m ls,marks:=[],fW:=r } = { env:=forget live env,H:=LH m ls,marks:=[],fW:=r }:=by
 have:=NP (m:=m) (ls:=ls) (G:=[]) (r:=r) h2 hn he
 rwa [aw]at this
def TZ{id n:Nat}{live:List Nat}{K:gS}{env:Env}{H G:U}{r:Bool}{m:List Int}{ls:List (Int×List Int)}(hH:H=LH m ls++G)(h2:2≤n)(hn:n≤ls.length+2)(he:qw n (forget live env))
  (k:K (.norm { env:=forget live env,H:=LH m ls,marks:=[],fW:=r })):uo id n live K (.norm { env:=env,H:=H,marks:=[],fW:=r }):=by
 subst hH
 rw[Bg,NP h2 hn he]
 exact k
def T0{id n:Nat}{live:List Nat}{K:gS}{env:Env}{H:U}{r:Bool}{m:List Int}{ls:List (Int×List Int)}{o1 o2:Ob}{k i:Int}(hH:H=(LH m ls).set 1 (.map (.int .i64) (iE 2 ls ++ [(.int .i64 k,.eF (ls.length+4) 0 1 0 1)])) ++ [o1,o2,.row 3 0 [.i i]])(h2:2≤n)(hn:n≤ls.length+2)(he:qw n (forget live env))
  (h:K (.norm { env:=forget live env,H:=LH m (ls ++ [(k,[i])]),marks:=[],fW:=r })):uo id n live K (.norm { env:=env,H:=H,marks:=[],fW:=r }):=by
 subst hH
 rw[← cG _ _ (by simp),Bg,TD h2 hn he]
 exact h
def IM{n:Nat}(h:2≤n)(l:List Pos)(a i:Int):qw n [(2,.ptr 0 0 0),(5,.fE 1),(13,e7 l),(14,.i a),(15,.i i)]:=
 aeA (by omega) (aey (by omega) (Ms (Uz l) (Ms rfl (Ms rfl aez))))
@[simp] theorem ajW(t:TypeId)(v n:Nat):po t (.fE v) n=some (.ptr n 0 0,.new (.row t 0 [.fE v])):=rfl
@[simp] theorem ajU(t:TypeId)(n:Nat):po t .eG n=some (.ptr n 0 0,.new (.row t 0 [.eG])):=rfl
@[simp] theorem aqF(n:Nat)(ls:List (Int×List Int)):((lx ls).map fun x=>gW n x.2)=ls.map fun _=>[]:=by
 unfold lx
 rw[bp]
 exact aj fun e _=>by simp
@[simp] theorem alj(ls:List (Int×List Int)):(lx ls).length=ls.length:=by simp[lx]
@[simp] theorem Vm(ρ:Nat→Option Nat)(H:U)(ls:List (Int×List Int)):((lx ls).map fun x=>(x.1,eP ρ H 40 x.2))=lx ls:=by
 unfold lx
 rw[bp]
 refine aj fun e _=>?_
 have:eP ρ H 40 (dI e.2)=dI e.2:=mD (GQ e.2)
 simp[this]
def Vl{env:Env}{m:List Int}{ls:List (Int×List Int)}{k:Nat}{r:Bool}(he:forget [5] env = [(5,.fE 1)]) :
  cut 2 [5] { env:=env,H:=.row 50 0 [dI m] :: .map (.int .i64) (lx ls)::List.replicate k .dead,marks:=[],fW:=r } = { env:=[(5,.fE 1)],H:=[.row 50 0 [dI m],.map (.int .i64) (lx ls)],marks:=[],fW:=r }:=by
 by_cases hk:k=0
 ·subst hk
  rw[By (by simp),he];rfl
 ·rw[ry (by simp;omega),he]
  have h1:eP (ga (ij 2 [])) (.row 50 0 [dI m] :: .map (.int .i64) (lx ls)::List.replicate k .dead) 40 (dI m)=dI m:=mD (GQ m)
  have hr:yk 2 [(5,D.fE 1)] (.row 50 0 [dI m] :: .map (.int .i64) (lx ls)::List.replicate k .dead) [] = []:=by
   unfold yk
   simp
  rw[hr]
  unfold Bx
  simp only[ZU,List.map_nil,List.map_cons]at h1 ⊢
  simp[Vm,h1,ri,jE]
theorem Py{ds:List Int}(h:ds.Nodup):∀ {ys:List Nat},ys.Nodup→(∀ j∈ys,j<ds.length)→(gk ds ys).Nodup
 | [],_,_=>List.nodup_nil
 | j::r,hn,hl=>by
  obtain⟨h1,h2⟩:=cB.1 hn
  refine cB.2 ⟨fun hm=>?_,Py h h2 fun k hk=>hl k (by simp[hk])⟩
  obtain⟨k,hk,e⟩:=ao.1 hm
  have hj:=hl j (by simp)
  have kH:=hl k (by simp[hk])
  dsimp only at e
  rw[rC hj,rC kH]at e
  have:=(List.getElem_inj h).1 e
  exact h1 (this▸hk)
def HK(m:List Int)(ls:List (Int×List Int))(x:D)(st:qb):U:=[.row 50 0 [dI m],.map (.int .i64) (lx ls),.row 33 0 (List.replicate ls.length .eG),.row 192 0 [.fE 1],.row 33 0 [x],.jZ,.gu 12608 [(2,.ptr 4 0 0)] st]
def O2{ls:List (Int×List Int)}{ds:List Int}(mh:ls.map (·.1)=ds){i:Nat}{k:Value}{d:D}(h:(lx ls)[i]? = some (k,d)):i<ls.length∧k = .int .i64 (gt ds (i:Int)):=by
 subst mh
 unfold lx at h
 rw[av]at h
 obtain⟨a,ha,he⟩:=ai.1 h
 obtain⟨hi,e⟩:=af.1 ha
 refine⟨hi,?_⟩
 rw[rC (by simpa using hi),List.getElem_map,e]
 exact(congrArg Prod.fst he).symm
def US{env:Env}{m:List Int}{ls:List (Int×List Int)}{k:Int}{n:Nat}{ys:List Nat}{o8:Ob} :
  cut 8 [] { env:=env,H:=[.row 50 0 [dI m],.map (.int .i64) (lx ls),.row 33 0 (List.replicate n .eG),.row 192 0 [.fE 1],.row 33 0 [.eF 9 0 1 0 1],.jZ,.gu 12608 [(2,.ptr 4 0 0)] .busy,.jJ (.fE 1) n ys,o8,.row 3 0 [.i k]],marks:=[],fW:=true } =
   { env:=[],H:=[.row 50 0 [dI m],.map (.int .i64) (lx ls),.row 33 0 (List.replicate n .eG),.row 192 0 [.fE 1],.row 33 0 [.eF 8 0 1 0 1],.jZ,.gu 12608 [(2,.ptr 4 0 0)] .busy,.jJ (.fE 1) n ys,.row 3 0 [.i k]],marks:=[],fW:=true }:=by
 rw[ry (by simp)]
 have hr:yk 8 (forget [] env) [.row 50 0 [dI m],.map (.int .i64) (lx ls),.row 33 0 (List.replicate n .eG),.row 192 0 [.fE 1],.row 33 0 [.eF 9 0 1 0 1],.jZ,.gu 12608 [(2,.ptr 4 0 0)] .busy,.jJ (.fE 1) n ys,o8,.row 3 0 [.i k]] [] = [9]:=by
  simp[yk]
 rw[hr]
 simp[Bx]
def f161(m:List Int)(ls:List (Int×List Int))(h4:ls.length≤4000)(h0:0<ls.length)(ds:List Int)(mh:ls.map (·.1)=ds)(lz:ds.Nodup) :
  Wf T 161 [.ic 6,.ptr 3 0 0] (HK m ls .eG .ready) (fun _ H'=>∃ ks:List Int,ks.Nodup∧(∀ n,n∈ks↔n∈ds)∧H'=HK m ls (.eF 7 (ks.length-1) 1 0 ks.length) .ready ++ [.row 3 (ks.length-1) (cl f1 ks)]):=by
 have KY:ds.length=ls.length:=by rw[← mh,List.length_map]
 have P1:∀ ys,(gk ds ys).length=ys.length:=fun ys=>by simp[gk]
 unfold HK
 refine Yg Ew ?_
 simp[Ew]
 refine eN.e ([]:List Nat) (fun y=>[(0,.ic 6),(5,.ptr 7 0 0)]) (fun y=>HK m ls (if y = []then .eG else .eF 8 (y.length-1) 1 0 y.length) .ready ++ .jJ (.fE 1) ls.length y::(if y = []then []else [.row 3 (y.length-1) (cl f1 (gk ds y))])) (fun y=>y.Nodup∧∀ j∈y,j<ls.length) (fun y=>ls.length-y.length) ?_ ?_
 ·simp
 rintro ys ⟨HT,fq⟩
 dsimp only at HT fq ⊢
 have YO:∀ i,i ∉ ys→i<ls.length→ls.length-(ys ++ [i]).length<ls.length-ys.length∧(ys ++ [i]).Nodup∧∀ j∈ys ++ [i],j<ls.length:=fun i hi iZ=>by
  have HS:(ys ++ [i]).Nodup:=by
   rw[aZ]
   exact⟨HT,by simp,fun a ha b hb e=>hi (by rw[List.mem_singleton.1 hb]at e;exact e▸ha)⟩
  have Qc:∀ j∈ys ++ [i],j<ls.length:=fun j hj=>by
   rcases List.mem_append.1 hj with hj|hj
   ·exact fq j hj
   ·rw[List.mem_singleton.1 hj];exact iZ
  have:=rR HS (m:=List.range ls.length) fun x hx=>aY.2 (Qc x hx)
  simp only[ay,List.length_singleton,List.length_range]at this
  exact⟨by simp only[ay,List.length_singleton];omega,HS,Qc⟩
 by_cases hy:ys = []
 ·subst hy
  simp[HK]
  refine r8.at (m:=1) (since:=ls.length) (seen:=[]) (kk:=.int .i64) (es:=lx ls) (by simp) (by simp) (by simp) (fun iF=>?_) fun i k d he hi=>?_
  ·exact absurd (iF 0 (by simpa using h0)) (by simp)
  ·obtain⟨iZ,rfl⟩:=O2 mh he
   simp[he]
   refine oU.r (rf:=12608) (env0:=[(2,.ptr 4 0 0)]) (Rd:=s6) (by simp) rfl rfl s6.a s6.b (mE rfl) (mE rfl) ?_
   simp[s6,-ry,US]
   simp
   refine LJ.i [i] (by simp) (by simp[ix,gk]) rfl rfl ?_
   exact⟨by simp;omega,by simp,fun j hj=>by rw[List.mem_singleton.1 hj];exact iZ⟩
 ·have jP:0<ys.length:=az.2 hy
  have Y9:=rR HT (m:=List.range ls.length) fun x hx=>aY.2 (fq x hx)
  rw[List.length_range]at Y9
  simp only[if_neg hy]
  simp[HK]
  refine r8.at (m:=1) (since:=ls.length) (seen:=ys) (kk:=.int .i64) (es:=lx ls) (by simp) (by simp) (by simp) (fun iF=>?_) fun i k d he hi=>?_
  ·simp
   refine⟨gk ds ys,?_,Mi (by rw[KY];exact fq) (by rw[KY];simpa using iF),?_⟩
   ·exact Py lz HT (by rw[KY];exact fq)
   ·rw[P1]
    exact⟨rfl,rfl,rfl,rfl⟩
  ·obtain⟨iZ,rfl⟩:=O2 mh he
   have h3:=YO i hi iZ
   simp[he]
   refine oU.r (rf:=12608) (env0:=[(2,.ptr 4 0 0)]) (Rd:=s6) (by simp) rfl rfl s6.a s6.b (mE rfl) (mE rfl) ?_
   simp[s6,P1]
   (with_reducible repeat' first|refine Xk ?_<;>try simp|refine Xs ?_ ?_<;>intro h<;>(try intro h')<;>(try simp[h])<;>try omega|refine Xg ?_|omega)
   refine LJ.i (ys ++ [i]) (by first|rfl|simp[zm,show ys.length-1+1=ys.length by omega]) (by first|rfl|simp[zm,show ys.length-1+1=ys.length by omega]) rfl rfl ?_
   exact h3
def f160{v gen t:Nat}{l:List Int}{H:U}{K:D→U→Prop}(h0:0<l.length)(tq:l.length<4611686018427387904)(hv:H[v]? = some (.row t gen (cl f1 l)))
  (k:K (.tup []) (H.set v (.row t gen (cl f1 (l.mergeSort fun x y=>decide (x≤y)))))):Wf T 160 [.eF v gen 1 0 l.length] H K:=by
 rw[GN]at hv k
 exact Ev.qB l rfl h0 tq hv ⟨_,_,rfl,k⟩
attribute [-simp] ry
section
variable{g:eH}{m:List Int}{l:List Pos}
def f77(hg:fe g)(hm:kD g m)(hl:∀ p∈l,fO g p)(h9:l.length≤4000)(h0:0<l.length):Wf T 77 [.agg [dI m],e7 l] [] (Is (.sl 1 ((mP m l).map fI))):=by
 refine Yg F7 ?_
 simp[F7]
 refine eN.v ((0,[]):Int×List (Int×List Int)) (fun y=>[(2,.ptr 0 0 0),(5,.fE 1),(13,e7 l),(14,.i l.length),(15,.i y.1)]) (fun y=>LH m y.2) (fun y=>0≤y.1∧y.1≤l.length∧GI m l y.1 y.2) (fun y=>(l.length-y.1).toNat) ?_ (by simp) (by first|rfl|(simp[ix];done)|(simp[*];done)) rfl rfl rfl ?_
 ·exact⟨by simp,by simp,GI.nil m l⟩
 rintro⟨i,ls⟩ ⟨i0,i1,hG⟩
 dsimp only at i0 i1 hG ⊢
 by_cases hi:i<l.length
 ·refine XC.wc ?_
  have hp:=hl _ (eQ i0 hi)
  have ft:=LX hg hm hp
  simp[hi,wN,wQ,wR,wT,wU]
  (with_reducible repeat' first|refine Xk ?_<;>try simp[wN,wQ,wR,wT,wU]|refine Xs ?_ ?_<;>intro h<;>(try intro h')<;>(try simp[h,wN,wQ,wR,wT,wU])<;>try omega|refine Xg ?_|omega)
  refine Yc (f114 hg hm hp) ?_
  simp[wN,wQ,wR,wT,wU]
  by_cases kz:gM m (gt l i)∈ls.map (·.1)
  ·obtain⟨a,x,b,e,ha,HA⟩:=hG.old i0 kz
   generalize gM m (gt l i)=n at *
   have hx:=hG.pos (n,x) (by rw[e];simp)
   have oK:=hG.afl (n,x) (by rw[e];simp)
   dsimp only at hx oK
   have hJ:lL (iE 2 ls) (.int .i64 n)=some (.eF (2+a.length) (x.length-1) 1 0 x.length):=by rw[e];exact Vh ha 2 x b
   have lT:∀ G,(LH m ls++G)[2+a.length]? = some (.row 3 (x.length-1) (cl f1 x)):=fun G=>by rw[e];exact NO m a (n,x) b G
   have iR:(x ++ [i]).length=x.length+1:=by simp
   have mA:ke (iE 2 ls) (.int .i64 n) (.eF (2+a.length) (x.length-1+1) 1 0 (x.length+1))=iE 2 (a++(n,x ++ [i])::b):=by
    have:=Vj ha 2 x (x ++ [i]) b
    rw[← e,iR,show x.length+1-1=x.length-1+1 by omega]at this
    exact this
   have Yo:∀ G,((LH m ls++G).set (2+a.length) (.row 3 (x.length-1+1) (cl f1 (x ++ [i])))).set 1 (.map (.int .i64) (iE 2 (a++(n,x ++ [i])::b)))=LH m (a++(n,x ++ [i])::b)++G:=fun G=>by
    have:=TG m a n x (x ++ [i]) b G
    rw[← e,iR,show x.length+1-1=x.length-1+1 by omega]at this
    exact this
   have xM:ls.length=(a++(n,x ++ [i])::b).length:=by rw[e];simp
   simp[hJ,lT,wN,wQ,wR,wT,wU,JA,mA,-Bg]
   (with_reducible repeat' first|refine Xk ?_<;>try simp|refine Xs ?_ ?_<;>intro h<;>(try intro h')<;>(try simp[h])<;>try omega|refine Xg ?_|omega)
   refine TZ (ls:=a++(n,x ++ [i])::b) (m:=m) (G:=?_) (by simp[Yo,mA,wN,wQ,wR,wT,wU,JA];rfl) (by simp) (by omega) (by simp;exact IM (by omega) _ _ _) ?_
   simp[-CH]
   (with_reducible repeat' first|refine Xk ?_<;>try simp|refine Xs ?_ ?_<;>intro h<;>(try intro h')<;>(try simp[h])<;>try omega|refine Xg ?_|omega)
   rw[CH,NQ (by omega) (by simp) (by simp;exact IM (by omega) _ _ _)]
   refine LJ.e (i+1,a++(n,x ++ [i])::b) ?_
   exact eY HA
  ·have HA:=hG.new i0 kz
   have xM:=HA.len
   rw[ay,List.length_singleton]at xM
   generalize gM m (gt l i)=n at *
   have hJ:lL (iE 2 ls) (.int .i64 n)=none:=Vi kz 2
   have mA:ke (iE 2 ls) (.int .i64 n) (.eF (ls.length+4) 0 1 0 1)=iE 2 ls ++ [(.int .i64 n,.eF (ls.length+4) 0 1 0 1)]:=Vk kz 2 _
   simp[hJ,wN,wQ,wR,wT,wU,JA,mA,-Bg]
   refine T0 (m:=m) rfl (by omega) (by omega) (by simp;exact IM (by omega) _ _ _) ?_
   simp[-CH]
   (with_reducible repeat' first|refine Xk ?_<;>try simp|refine Xs ?_ ?_<;>intro h<;>(try intro h')<;>(try simp[h])<;>try omega|refine Xg ?_|omega)
   rw[CH,NQ (by omega) (by simp) (by simp;exact IM (by omega) _ _ _)]
   refine LJ.e (i+1,ls ++ [(n,[i])]) ?_
   exact eY HA
 ·have kT:i=l.length:=by omega
  subst kT
  have hgl:=hG.len
  refine Wc.kb (List.range' 2 ls.length) (Rw _) ?_
  rw[TE _ _ _ _ _ hG.pos]
  refine XC.wc ?_
  simp[-JH]
  rw[JH,Vl (by simp)]
  simp
  (with_reducible repeat' first|refine Xk ?_<;>try simp|refine Xs ?_ ?_<;>intro h<;>(try intro h')<;>(try simp[h])<;>try omega|refine Xg ?_|omega)
  refine fg.inl AF rfl rfl (by simp[AF]) rfl ?_
  simp[AF]
  refine fg.inl AE rfl rfl (by simp[AE]) rfl ?_
  simp[AE]
  refine fg.inl AM rfl rfl (by simp[AM]) rfl ?_
  simp[AM]
  refine fg.inl AP rfl rfl (by simp[AP]) rfl ?_
  simp[AP]
  refine rp.r (f:=161) (first:=[]) (cap:=[.ptr 3 0 0]) rfl rfl rfl rfl ?_
  simp
  have Xv:0<ls.length:=by
   have:=(hG.keys (gM m (gt l 0))).2 (IA.2 ⟨0,by omega,by omega,rfl⟩)
   obtain⟨e,he,_⟩:=ao.1 this
   exact cv he
  refine Wf.mono (f161 m ls (by omega) Xv (ls.map (·.1)) rfl hG.nd) ?_
  rintro _ H' ⟨ks,k1,k2,rfl⟩
  have kl:ks.length=ls.length:=by
   have a1:=rR k1 (m:=ls.map (·.1)) fun x hx=>(k2 x).1 hx
   have a2:=rR hG.nd (m:=ks) fun x hx=>(k2 x).2 hx
   rw[List.length_map]at a1 a2
   omega
  have Q':=hG.tW k1 k2
  refine⟨[(2,.ptr 4 0 0)],.ready,by simp[HK],?_⟩
  simp[HK,ry]
  refine fg.lK rfl rfl (f160 (l:=ks) (v:=4) (t:=3) (gen:=ks.length-1) (K:=fun d H'=>d = .tup []∧H' = [.row 50 0 [dI m],.map (.int .i64) (lx ls),.row 33 0 (List.replicate ls.length .eG),.row 192 0 [.fE 1],.row 3 (ks.length-1) (cl f1 (mM m l))]) (by omega) (by omega) (by simp) ⟨rfl,by simp[Q']⟩) ?_
  rintro _ H' ⟨rfl,rfl⟩
  simp
  have CA:(mM m l).length=ks.length:=by rw[← Q',List.length_mergeSort]
  have ZT:(mP m l).length=ks.length:=by unfold mP;rw[List.length_map,CA]
  refine eN.s (by simp[ry];rfl) ?_
  refine eN.e ((0,0):Int×Nat) (fun y=>[(5,.fE 1),(9,.eF 2 y.2 1 0 y.1.toNat),(37,.eF 4 (ks.length-1) 1 0 ks.length),(38,.i ks.length),(39,.i y.1)]) (fun y=>[.row 50 0 [dI m],.map (.int .i64) (lx ls),.row 33 y.2 (if y.1=0 then List.replicate ls.length .eG else cl fI ((mP m l).take y.1.toNat)),.row 192 0 [.fE 1],.row 3 (ks.length-1) (cl f1 (mM m l))]) (fun y=>0≤y.1∧y.1≤ks.length) (fun y=>(ks.length-y.1).toNat) ?_ ?_
  ·simp
  rintro⟨i,gn⟩ ⟨i0,i1⟩
  dsimp only at i0 i1 ⊢
  by_cases hi:i<ks.length
  ·have kz:=eQ (l:=mM m l) i0 (by omega)
   have hJ:=hG.get kz
   have W9:gt (mP m l) i=sr m l (gt (mM m l) i):=by
    rw[mw i0 (by omega),mw i0 (by omega)]
    unfold mP
    rw[List.getElem_map]
   have qt:(mP m l).take (i+1).toNat=(mP m l).take i.toNat ++ [sr m l (gt (mM m l) i)]:=by rw[gx i0 (by omega),W9]
   by_cases hz:i=0
   ·subst hz
    rw[if_pos rfl]
    have QH:(mP m l).take 1 = [sr m l (gt (mM m l) 0)]:=qt
    have KA:∀ h,(cl f1 (mM m l))[0]'h = .i (gt (mM m l) 0):=fun h=>by
     rw[mw (by omega) (by omega)]
     simp[GN]
    simp[hi,CA,hJ,ry,KA]
    (with_reducible repeat' first|refine Xk ?_<;>try simp[hJ,CA,ry,KA]|refine Xs ?_ ?_<;>intro h<;>(try intro h')<;>(try simp[h,hJ,CA,ry,KA])<;>try omega|refine Xg ?_|omega)
    refine LJ.i ((1:Int),gn+1) (by first|rfl|simp[QH,ix]) (by first|rfl|simp[QH,ix]) rfl rfl ?_
    exact l4
   ·rw[if_neg hz]
    rw[show(i+1).toNat=i.toNat+1 by omega]at qt
    simp[hi,CA,hJ,ry]
    (with_reducible repeat' first|refine Xk ?_<;>try simp|refine Xs ?_ ?_<;>intro h<;>(try intro h')<;>(try simp[h])<;>try omega|refine Xg ?_|omega)
    refine LJ.i (i+1,gn+1) (by first|rfl|simp[show ¬ (i+1=0)by omega,show(i+1).toNat=i.toNat+1 by omega,qt,cJ]) (by first|rfl|simp[show ¬ (i+1=0)by omega,show(i+1).toNat=i.toNat+1 by omega,qt,cJ]) rfl rfl ?_
    exact l4
  ·have:i=ks.length:=by omega
   subst this
   rw[if_neg (by omega)]
   simp[ry,ZT]
