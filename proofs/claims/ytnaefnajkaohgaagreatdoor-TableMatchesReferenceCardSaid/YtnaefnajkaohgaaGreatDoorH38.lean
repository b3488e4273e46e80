/- 38 -/
import Derived.Test.YtnaefnajkaohgaaGreatDoorH37
set_option linter.all false
namespace Go.AL
open Go
def iE:Nat→List (Int×List Int)→List (Value×D)
 | _,[]=>[]
 | k,e::r=>(.int .i64 e.1,.eF k (e.2.length-1) 1 0 e.2.length)::iE (k+1) r
def mV(ls:List (Int×List Int)):U:=ls.map fun e=>.row 3 (e.2.length-1) (cl f1 e.2)
def LH(m:List Int)(ls:List (Int×List Int)):U:=.row 50 0 [dI m] :: .map (.int .i64) (iE 2 ls)::mV ls
def lx(ls:List (Int×List Int)):List (Value×D):=ls.map fun e=>(.int .i64 e.1,dI e.2)
@[simp] theorem apu(ls:List (Int×List Int)):(mV ls).length=ls.length:=by simp[mV]
@[simp] theorem A5(m:List Int)(ls:List (Int×List Int)):(LH m ls).length=ls.length+2:=by simp[LH]
theorem TB(m:List Int)(ls:List (Int×List Int)):(LH m ls)[0]? = some (.row 50 0 [dI m]):=rfl
def TC(m:List Int)(ls:List (Int×List Int)):(LH m ls)[1]? = some (.map (.int .i64) (iE 2 ls)):=rfl
def Vg(k:Nat)(a b:List (Int×List Int)):iE k (a++b)=iE k a++iE (k+a.length) b:=by
 induction a generalizing k with
 | nil=>rfl
 | cons e r ih=>simp only[bx,iE,ih,aI];rw[Nat.add_right_comm,a7 k r.length 1]
def xX(a b:Int):o9 (.int .i64 a) (.int .i64 b)=decide (a=b):=by simp[o9,BEq.beq]
def Vi{n:Int}{ls:List (Int×List Int)}(h:n ∉ ls.map (·.1))(k:Nat):lL (iE k ls) (.int .i64 n)=none:=by
 induction ls generalizing k with
 | nil=>rfl
 | cons e r ih=>
  simp only[List.map_cons,au,not_or]at h
  have h1:¬ e.1=n:=fun x=>h.1 x.symm
  simp only[iE,lL,xX]
  simp[h1,ih h.2,h.1]
def Vk{n:Int}{ls:List (Int×List Int)}(h:n ∉ ls.map (·.1))(k:Nat)(d:D):ke (iE k ls) (.int .i64 n) d=iE k ls ++ [(.int .i64 n,d)]:=by
 induction ls generalizing k with
 | nil=>rfl
 | cons e r ih=>
  simp only[List.map_cons,au,not_or]at h
  have h1:¬ e.1=n:=fun x=>h.1 x.symm
  simp only[iE,ke,xX]
  simp[h1,ih h.2,h.1]
def Vh{n:Int}{a:List (Int×List Int)}(h:n ∉ a.map (·.1))(k:Nat)(x:List Int)(b:List (Int×List Int)):lL (iE k (a++(n,x)::b)) (.int .i64 n)=some (.eF (k+a.length) (x.length-1) 1 0 x.length):=by
 induction a generalizing k with
 | nil=>simp[iE,lL,xX]
 | cons e r ih=>
  simp only[List.map_cons,au,not_or]at h
  have h1:¬ e.1=n:=fun x=>h.1 x.symm
  simp only[bx,iE,lL,xX]
  simp[h1,h.1,ih h.2]
  omega
def Vj{n:Int}{a:List (Int×List Int)}(h:n ∉ a.map (·.1))(k:Nat)(x y:List Int)(b:List (Int×List Int)):ke (iE k (a++(n,x)::b)) (.int .i64 n) (.eF (k+a.length) (y.length-1) 1 0 y.length)=iE k (a++(n,y)::b):=by
 induction a generalizing k with
 | nil=>simp[iE,ke,xX]
 | cons e r ih=>
  simp only[List.map_cons,au,not_or]at h
  have h1:¬ e.1=n:=fun x=>h.1 x.symm
  simp only[bx,iE,ke,xX]
  rw[show k+(e::r).length=k+1+r.length by simp only[aI];omega]
  simp[h1,h.1,ih h.2]
def NO(m:List Int)(a:List (Int×List Int))(e:Int×List Int)(b:List (Int×List Int))(G:U):(LH m (a++e::b)++G)[2+a.length]? = some (.row 3 (e.2.length-1) (cl f1 e.2)):=by
 rw[ag (by simp;omega),cK]
 simp[LH,mV]
def TG(m:List Int)(a:List (Int×List Int))(n:Int)(x y:List Int)(b:List (Int×List Int))(G:U) :
  ((LH m (a++(n,x)::b)++G).set (2+a.length) (.row 3 (y.length-1) (cl f1 y))).set 1 (.map (.int .i64) (iE 2 (a++(n,y)::b)))=LH m (a++(n,y)::b)++G:=by
 rw[cG _ _ (by simp;omega),cG _ _ (by simp)]
 congr 1
 rw[cK]
 simp[LH,mV]
def TF(m:List Int)(ls:List (Int×List Int))(es:List (Value×D))(G:U):(LH m ls++G).set 1 (.map (.int .i64) es) = .row 50 0 [dI m] :: .map (.int .i64) es::(mV ls++G):=rfl
theorem O1(n:Nat):∀ (ls:List (Int×List Int)) (k:Nat),((iE k ls).map fun x=>gW n x.2).flatten=(List.range' k ls.length).filter (n≤·)
 | [],_=>rfl
 | e::r,k=>by
  have:=O1 n r (k+1)
  simp only[iE,List.map_cons,aL,this,aI,bT,agN]
  by_cases h:n≤k<;>simp[h]
def afu(n k:Nat):∀ (l:Nat),k≤n→n≤k+l→(List.range' k l).filter (n≤·)=List.range' n (k+l-n):=by
 intro l h1 h2
 have e:List.range' k l=List.range' k (n-k)++List.range' n (k+l-n):=by
  have:=List.range'_append_1 (s:=k) (m:=n-k) (n:=k+l-n)
  rw[show k+(n-k)=n by omega,show n-k+(k+l-n)=l by omega]at this
  exact this.symm
 rw[e,br,cP.2 fun x hx=>?_,List.filter_eq_self.2 fun x hx=>?_,bt]
 ·have:=List.mem_range'_1.1 hx;simpa using this.1
 ·have:=List.mem_range'_1.1 hx;simp;omega
theorem OP:∀ {l:List Nat},l.Nodup→dedup l=l
 | [],_=>rfl
 | a::r,h=>by
  obtain⟨h1,h2⟩:=cB.1 h
  rw[dedup,if_neg h1,OP h2]
def Sw(K:List Nat)(v:Nat):ga (K.map fun v=>(v,true)) v=K.findIdx? (· == v):=by
 unfold ga
 rw[List.findIdx?_map]
 rfl
def QT(N v:Nat)(E:List Nat):(List.range N++E).findIdx? (· == v)=if v<N then some v else(E.findIdx? (· == v)).map (· + N):=by
 by_cases h:v<N
 ·rw[if_pos h,List.findIdx?_append,show(List.range N).findIdx? (· == v)=some v from ?_]
  ·rfl
  ·rw[cI]
   exact⟨by simpa using h,by simp,fun j hj=>by simp;omega⟩
 ·rw[if_neg h,List.findIdx?_append,show(List.range N).findIdx? (· == v)=none from ?_]
  ·simp
  ·rw[cF]
   intro x hx
   have:=aY.1 hx
   simp;omega
def SU{ρ:Nat→Option Nat}{H:U}{v g sz off len v':Nat}(h:ρ v=some v'):eP ρ H 40 (.eF v g sz off len) = .eF v' g sz off len:=by
 rw[AL.MT,h,SP]
theorem SR{ρ:Nat→Option Nat}{H:U}:∀ (ls:List (Int×List Int)) (k:Nat),(∀ v,v<k+ls.length→ρ v=some v)→((iE k ls).map fun x=>(x.1,eP ρ H 40 x.2))=iE k ls
 | [],_,_=>rfl
 | e::r,k,h=>by
  simp only[aI]at h
  rw[iE,List.map_cons,SR r (k+1) (fun v hv=>h v (by omega))]
  dsimp only
  rw[SU (h k (by omega))]
def agb{ρ:Nat→Option Nat}{H:U}(ls:List (Int×List Int)):(mV ls).map (jE ρ H)=mV ls:=by
 unfold mV
 rw[bp]
 refine aj fun e _=>?_
 simp[jE,Jg (sh _)]
def af6{H:U}{ks:lP}(N:Nat)(E:List Nat)(hk:ks=(List.range N++E).map fun v=>(v,true))(hN:N≤H.length)(hE:∀ v∈E,v<H.length) :
  nV ks H=(H.take N).map (jE (ga ks) H)++E.map fun v=>jE (ga ks) H (H.getD v .dead):=by
 unfold nV
 generalize ga ks=ρ
 subst hk
 rw[bp,List.map_append]
 congr 1
 ·refine List.ext_getElem (by simp;omega) fun i h1 h2=>?_
  simp at h1
  simp[List.getElem?_eq_getElem (show i<H.length by omega)]
 ·refine aj fun v hv=>?_
  have:=hE v hv
  simp[List.getElem?_eq_getElem this]
def qw(n:Nat)(env:Env):Prop:=∀ p∈env,gW n p.2 = []∧∀ ρ:Nat→Option Nat,∀ H,(∀ v,v<n→ρ v=some v)→eP ρ H 40 p.2=p.2
def Ms{n k:Nat}{d:D}{env:Env}(hd:closed d=true)(h:qw n env):qw n ((k,d)::env):=fun p hp=>by
 rcases au.1 hp with rfl|hp
 ·exact⟨Dv n hd,fun ρ H _=>mD hd⟩
 ·exact h p hp
def aeA{n k v g o:Nat}{env:Env}(hv:v<n)(h:qw n env):qw n ((k,.ptr v g o)::env):=fun p hp=>by
 rcases au.1 hp with rfl|hp
 ·exact⟨by simp;omega,fun ρ H e=>by simp[e v hv]⟩
 ·exact h p hp
def aey{n k v:Nat}{env:Env}(hv:v<n)(h:qw n env):qw n ((k,.fE v)::env):=fun p hp=>by
 rcases au.1 hp with rfl|hp
 ·exact⟨by simp;omega,fun ρ H e=>by simp[e v hv]⟩
 ·exact h p hp
def aez{n:Nat}:qw n []:=fun p hp=>by cases hp
def afA(n:Nat)(ls:List (Int×List Int)):((mV ls).map (mT n)).flatten = []:=by
 unfold mV
 rw[bp]
 induction ls with
 | nil=>rfl
 | cons e r ih=>simp
def NR{n:Nat}{live:List Nat}{env:Env}{m:List Int}{ls:List (Int×List Int)}{e2:List (Value×D)}{G:U}{E:List Nat}{r:Bool}(h2:2≤n)(hn:n≤ls.length+2)(hG:0<G.length∨n<ls.length+2)
  (he:qw n (forget live env)) (hE:E.Nodup) (Hz:∀ v∈E,ls.length+2≤v∧v<ls.length+2+G.length) (hr:(e2.map fun x=>gW n x.2).flatten=E) :
  cut n live { env:=env,H:=.row 50 0 [dI m] :: .map (.int .i64) (iE 2 ls++e2)::(mV ls++G),marks:=[],fW:=r } =
   { env:=forget live env,H:=.row 50 0 [dI m] :: .map (.int .i64) (iE 2 ls++e2.map fun x=>(x.1,eP (ga ((List.range (ls.length+2)++E).map fun v=>(v,true))) (.row 50 0 [dI m] :: .map (.int .i64) (iE 2 ls++e2)::(mV ls++G)) 40 x.2))::(mV ls++E.map fun v=>jE (ga ((List.range (ls.length+2)++E).map fun v=>(v,true))) (.row 50 0 [dI m] :: .map (.int .i64) (iE 2 ls++e2)::(mV ls++G)) (G.getD (v-(ls.length+2)) .dead)),marks:=[],fW:=r }:=by
 generalize hH:(Ob.row 50 0 [dI m] :: .map (.int .i64) (iE 2 ls++e2)::(mV ls++G):U)=H
 have hl:H.length=ls.length+2+G.length:=by rw[← hH];simp;omega
 have hrefs:((forget live env).map fun p=>gW n p.2).flatten = []:=by
  rw[List.flatten_eq_nil_iff]
  intro x hx
  obtain⟨p,hp,rfl⟩:=ao.1 hx
  exact(he p hp).1
 have Yd:((H.take n).map (mT n)).flatten=List.range' n (ls.length+2-n)++E:=by
  obtain⟨n',rfl⟩:∃ n',n=n'+2:=⟨n-2,by omega⟩
  rw[← hH,ct,ct]
  rw[bf (by simp;omega)]
  have e1:(((mV ls).take n').map (mT (n'+2))).flatten = []:=by
   have:(mV ls).take n'=mV (ls.take n'):=by unfold mV;rw[List.map_take]
   rw[this];exact afA _ _
  simp only[List.map_cons,aL,e1,aaS,aaR,List.map_append,dD,hr,O1]
  rw[afu _ _ _ (by omega) (by omega)]
  simp[agM]
  omega
 have hK:dedup ((([]:List Nat)++(List.range' n (ls.length+2-n)++E)++([]:List Nat).filter (n≤·)).filter (· < H.length))=List.range' n (ls.length+2-n)++E:=by
  rw[cO,aw,bt,List.filter_eq_self.2 fun v hv=>?_]
  ·refine OP (aZ.2 ⟨List.nodup_range',hE,fun a ha b hb e=>?_⟩)
   have h3:=List.mem_range'_1.1 ha
   have h4:=Hz b hb
   omega
  ·rcases List.mem_append.1 hv with hv|hv
   ·have h3:=List.mem_range'_1.1 hv
    simp;omega
   ·have h4:=Hz v hv
    simp;omega
 have o3:ij n (List.range' n (ls.length+2-n)++E)=(List.range (ls.length+2)++E).map fun v=>(v,true):=by
  unfold ij
  rw[← List.map_append,← bj]
  congr 2
  rw[cj,cj]
  have:=List.range'_append_1 (s:=0) (m:=n) (n:=ls.length+2-n)
  rw[aU,show n+(ls.length+2-n)=ls.length+2 by omega]at this
  exact this
 unfold cut
 dsimp only
 rw[if_neg (by omega),hrefs,Yd,hK,o3]
 generalize ml:((List.range (ls.length+2)++E).map fun v=>(v,true):lP)=ks
 have uL:∀ v,v<ls.length+2→ga ks v=some v:=fun v hv=>by rw[← ml,Sw,QT,if_pos hv]
 have e1:((forget live env).map fun p=>(p.1,eP (ga ks) H 40 p.2))=forget live env:=by
  conv=>rhs;rw[← aQ (forget live env)]
  refine aj fun p hp=>?_
  rw[(he p hp).2 (ga ks) H fun v hv=>uL v (by omega)]
  rfl
 have uA:nV ks H=(H.take (ls.length+2)).map (jE (ga ks) H)++E.map fun v=>jE (ga ks) H (H.getD v .dead):=af6 _ E ml.symm (by omega) fun v hv=>by have:=Hz v hv;omega
 have e3:H.take (ls.length+2) = .row 50 0 [dI m] :: .map (.int .i64) (iE 2 ls++e2)::mV ls:=by
  rw[← hH,ct,ct,bf (by simp),aC (by simp)]
 have e4:∀ v∈E,H.getD v .dead=G.getD (v-(ls.length+2)) .dead:=fun v hv=>by
  have:=Hz v hv
  obtain⟨v',rfl⟩:∃ v',v=v'+ls.length+2:=⟨v-(ls.length+2),by omega⟩
  rw[← hH,List.getD_eq_getElem?_getD,List.getD_eq_getElem?_getD,cN,cN,ak (by simp)]
  simp
 rw[e1,uA,e3,aj (g:=fun v=>jE (ga ks) H (G.getD (v-(ls.length+2)) .dead)) (fun v hv=>by rw[e4 v hv])]
 have e5:jE (ga ks) H (.row 50 0 [dI m]) = .row 50 0 [dI m]:=by
  have:eP (ga ks) H 40 (dI m)=dI m:=mD (GQ m)
  simp only[jE,List.map_cons,List.map_nil,this]
 have e6:jE (ga ks) H (.map (.int .i64) (iE 2 ls++e2)) = .map (.int .i64) (iE 2 ls++e2.map fun x=>(x.1,eP (ga ks) H 40 x.2)):=by
  simp only[jE,List.map_append]
  rw[SR ls 2 fun v hv=>uL v (by omega)]
 simp only[List.map_cons,e5,e6,agb,bx,List.map_nil]
def NP{n:Nat}{live:List Nat}{env:Env}{m:List Int}{ls:List (Int×List Int)}{G:U}{r:Bool}(h2:2≤n)(hn:n≤ls.length+2)(he:qw n (forget live env)) :
  cut n live { env:=env,H:=LH m ls++G,marks:=[],fW:=r } = { env:=forget live env,H:=LH m ls,marks:=[],fW:=r }:=by
 by_cases h:0<G.length∨n<ls.length+2
 ·have:=NR (m:=m) (ls:=ls) (e2:=[]) (G:=G) (E:=[]) (r:=r) h2 hn h he List.nodup_nil (by simp) rfl
  simpa[LH]using this
 ·have hG:G = []:=by
   cases G with
   | nil=>rfl
   | cons a l=>exact absurd (.inl (by simp)) h
  subst hG
  rw[aw]
  exact By (by simp;omega)
def TD{n:Nat}{live:List Nat}{env:Env}{m:List Int}{ls:List (Int×List Int)}{o1 o2:Ob}{k i:Int}{r:Bool}(h2:2≤n)(hn:n≤ls.length+2)(he:qw n (forget live env)) :
  cut n live { env:=env,H:=(LH m ls ++ [o1,o2,.row 3 0 [.i i]]).set 1 (.map (.int .i64) (iE 2 ls ++ [(.int .i64 k,.eF (ls.length+4) 0 1 0 1)])),marks:=[],fW:=r } = { env:=forget live env,H:=LH m (ls ++ [(k,[i])]),marks:=[],fW:=r }:=by
 have:=NR (m:=m) (ls:=ls) (e2:=[(.int .i64 k,.eF (ls.length+4) 0 1 0 1)]) (G:=[o1,o2,.row 3 0 [.i i]]) (E:=[ls.length+4]) (r:=r) h2 hn (.inl (by simp)) he (by simp) (by simp) (by simp;omega)
 rw[TF,this]
 have uL:ga ((List.range (ls.length+2) ++ [ls.length+4]).map fun v=>(v,true)) (ls.length+4)=some (ls.length+2):=by
  rw[Sw,QT,if_neg (by omega)]
  simp[List.findIdx?_cons]
 generalize ga ((List.range (ls.length+2) ++ [ls.length+4]).map fun v=>(v,true))=ρ at uL ⊢
 congr 1
 simp only[LH,Vg,iE,mV,List.map_append,List.map_cons,List.map_nil]
 rw[SU uL]
 rw[show ls.length+4-(ls.length+2)=2 by omega]
 simp[jE,ix,cK]
def Wh(H:U)(k:Nat)(hk:H.length=k+2):kR H (List.range' 2 k)=(0,true)::(1,true)::(List.range' 2 k).map fun v=>(v,false):=by
 unfold kR
 rw[hk,cj,bT,bT]
 simp only[List.map_cons]
 congr 1
 ·simp[List.mem_range'_1]
 congr 1
 ·simp[List.mem_range'_1]
 ·refine aj fun v hv=>?_
  have:List.contains (List.range' 2 k) v=true:=by rw[dz];simpa using hv
  simp only[aU]at *
  rw[this];rfl
def TE(m:List Int)(ls:List (Int×List Int))(l:List Pos)(a b:Int)(hp:∀ e∈ls,0<e.2.length) :
  kb (List.range' 2 ls.length) { env:=[(2,.ptr 0 0 0),(5,.fE 1),(13,e7 l),(14,.i a),(15,.i b)],H:=LH m ls } = { env:=[(2,.ptr 0 0 0),(5,.fE 1),(13,e7 l),(14,.i a),(15,.i b)],H:=[.row 50 0 [dI m],.map (.int .i64) (lx ls)]++List.replicate ls.length .dead }:=by
 have o3:=Wh (LH m ls) ls.length (by simp)
 unfold kb
 dsimp only
 rw[o3]
 generalize ml:ga ((0,true)::(1,true)::(List.range' 2 ls.length).map fun v=>(v,false))=ρ
 have h0:ρ 0=some 0:=by rw[← ml];rfl
 have h1:ρ 1=some 1:=by rw[← ml];rfl
 have h2:∀ v,2≤v→ρ v=none:=fun v hv=>by
  rw[← ml]
  unfold ga
  rw[cF]
  intro x hx
  rcases au.1 hx with rfl|hx
  ·simp;omega
  rcases au.1 hx with rfl|hx
  ·simp;omega
  obtain⟨w,_,rfl⟩:=ao.1 hx
  rfl
 have key:∀ (b a:List (Int×List Int)),ls=a++b→((iE (2+a.length) b).map fun x=>(x.1,eP ρ (LH m ls) 40 x.2))=lx b:=by
  intro b
  induction b with
  | nil=>intros;rfl
  | cons e r ih=>
   intro a ha
   have h3:=ih (a ++ [e]) (by simp[ha])
   rw[ay,List.length_singleton,← a7]at h3
   have h4:(LH m ls)[2+a.length]? = some (.row 3 (e.2.length-1) (cl f1 e.2)):=by
    have:=NO m a e r []
    rw[aw]at this
    rw[ha];exact this
   have h5:eP ρ (LH m ls) 40 (.eF (2+a.length) (e.2.length-1) 1 0 e.2.length)=dI e.2:=by
    have:eP ρ (LH m ls) 40 (.eF (2+a.length) (e.2.length-1) 1 0 e.2.length)=ng ρ (LH m ls) 39 1 0 e.2.length (some (3,cl f1 e.2)):=by
     rw[AL.MT,h2 _ (by omega),af4,afQ,h4,afR,if_pos rfl]
    rw[this,py rfl,SY]
   rw[iE,List.map_cons,h3]
   dsimp only
   rw[h5]
   rfl
 have rE:=key ls [] rfl
 rw[cA,cc]at rE
 congr 1
 ·simp[h0,h1]
 ·have a0:jE ρ (LH m ls) (.row 50 0 [dI m]) = .row 50 0 [dI m]:=by
   have:eP ρ (LH m ls) 40 (dI m)=dI m:=mD (GQ m)
   simp only[jE,List.map_cons,List.map_nil,this]
  have a1:jE ρ (LH m ls) (.map (.int .i64) (iE 2 ls)) = .map (.int .i64) (lx ls):=by
   simp only[jE,rE]
  unfold nV
  rw[ml,List.map_cons,List.map_cons,bp]
  dsimp only
  rw[if_pos rfl,if_pos rfl,TB,TC]
  dsimp only
  rw[a0,a1]
  simp only[bx,bt,cD,true_and]
  refine List.ext_getElem (by simp) fun i h1 h2=>?_
  simp
end Go.AL
namespace Go.Proofs.YtnaefnajkaohgaaGreatDoor
open Go Go.AL Classical
def wi(n:Int):List Int→List Int
 | []=>[n]
 | a::r=>if n<a then n::a::r else if n=a then a::r else a::wi n r
def yA:List Int→List Int
 | []=>[]
 | a::r=>wi a (yA r)
def rn(l:List Int):Prop:=l.Pairwise fun a b=>a<b
theorem Mj{n x:Int}:∀ {l:List Int},x∈wi n l↔x=n∨x∈l
 | []=>by simp[wi]
 | a::r=>by
  unfold wi
  split
  ·simp
  ·split
   ·rename_i h;subst h;simp
   ·simp only[au,Mj (l:=r)]
    constructor
    ·rintro(h|h|h)<;>simp[h]
    ·rintro(h|h|h)<;>simp[h]
theorem S5{n:Int}:∀ {l:List Int},rn l→rn (wi n l)
 | [],_=>by simp[wi,rn]
 | a::r,h=>by
  obtain⟨h1,h2⟩:=aN.1 h
  unfold wi
  split
  ·rename_i hn
   refine aN.2 ⟨fun x hx=>?_,h⟩
   rcases au.1 hx with rfl|hx
   ·exact hn
   ·have:=h1 x hx;omega
  ·split
   ·exact h
   ·refine aN.2 ⟨fun x hx=>?_,S5 h2⟩
    rcases Mj.1 hx with rfl|hx
    ·omega
    ·exact h1 x hx
theorem z6{x:Int}:∀ {l:List Int},x∈yA l↔x∈l
 | []=>by simp[yA]
 | a::r=>by rw[yA,Mj,z6 (l:=r),au]
theorem As:∀ (l:List Int),rn (yA l)
 | []=>List.Pairwise.nil
 | a::r=>S5 (As r)
def rn.nd{l:List Int}(h:rn l):l.Nodup:=List.Pairwise.imp (fun h=>by omega) h
theorem Ii:∀ {l l':List Int},rn l→rn l'→(∀ x,x∈l↔x∈l')→l=l'
 | [],[],_,_,_=>rfl
 | [],b::r,_,_,h=>absurd ((h b).2 (by simp)) (by simp)
 | a::r,[],_,_,h=>absurd ((h a).1 (by simp)) (by simp)
 | a::r,b::t,h1,h2,h=>by
  obtain⟨a1,a2⟩:=aN.1 h1
  obtain⟨b1,b2⟩:=aN.1 h2
  have e:a=b:=by
   rcases au.1 ((h a).1 (by simp))with e|e
   ·exact e
   ·rcases au.1 ((h b).2 (by simp))with e2|e2
    ·exact e2.symm
    ·have:=b1 _ e;have:=a1 _ e2;omega
  subst e
  rw[Ii a2 b2 fun x=>?_]
  have:=h x
  simp only[au]at this
  constructor
  ·intro hx
   rcases this.1 (.inr hx)with e|e
   ·have:=a1 x hx;omega
   ·exact e
  ·intro hx
   rcases this.2 (.inr hx)with e|e
   ·have:=b1 x hx;omega
   ·exact e
def aaz{l:List Int}(h:l.Nodup):l.mergeSort (fun x y=>decide (x≤y))=yA l:=by
 have hp:=List.mergeSort_perm l (fun x y=>decide (x≤y))
 refine Ii ?_ (As l) fun x=>by rw[z6];exact hp.mem_iff
 have h1:(l.mergeSort (fun x y=>decide (x≤y))).Pairwise fun a b=>decide (a≤b)=true:=List.pairwise_mergeSort (fun a b c h1 h2=>by simp at *;omega) (fun a b=>by simp;omega) l
 have h2:(l.mergeSort (fun x y=>decide (x≤y))).Nodup:=hp.nodup_iff.2 h
 exact(h1.and h2).imp fun{a b} ⟨x,y⟩=>by have:=of_decide_eq_true x;omega
noncomputable def ti(m:List Int)(l:List Pos)(n:Int)(k:Nat):List Int:=(upto k).filter fun i=>decide (gM m (gt l i)=n)
noncomputable def sr(m:List Int)(l:List Pos)(n:Int):List Int:=ti m l n l.length
noncomputable def mM(m:List Int)(l:List Pos):List Int:=yA (l.map (gM m))
noncomputable def mP(m:List Int)(l:List Pos):List (List Int):=(mM m l).map (sr m l)
def CO{m:List Int}{l:List Pos}{n:Int}{k:Nat}{i:Int}:i∈ti m l n k↔(0≤i∧i<k)∧gM m (gt l i)=n:=by
 unfold ti
 rw[aH,jI]
 simp
def Iy{m:List Int}{l:List Pos}{n:Int}{i:Int}:i∈sr m l n↔(0≤i∧i<l.length)∧gM m (gt l i)=n:=CO
def Kj{m:List Int}{l:List Pos}{n:Int}{i:Int}(i0:0≤i):ti m l n (i+1).toNat=ti m l n i.toNat++if gM m (gt l i)=n then [i]else []:=by
 unfold ti
 rw[sQ i0,br]
 congr 1
 by_cases h:gM m (gt l i)=n<;>simp[h]
def M9(n:Nat):rn (upto n):=by
 unfold upto rn
 rw[dm]
 exact List.pairwise_lt_range.imp fun h=>by omega
def Pe(m:List Int)(l:List Pos)(n:Int):rn (sr m l n):=List.Pairwise.filter _ (M9 _)
def Pd(m:List Int)(l:List Pos)(n:Int):(sr m l n).Nodup:=(Pe m l n).nd
def V5(m:List Int)(l:List Pos)(n:Int):(sr m l n).length≤l.length:=wv _ _ (Pd m l n) fun y hy=>(Iy.1 hy).1
def V6{m:List Int}{l:List Pos}{n:Int}(h:n∈mM m l):0<(sr m l n).length:=by
 unfold mM at h
 rw[z6]at h
 obtain⟨p,hp,e⟩:=ao.1 h
 obtain⟨i,i0,i1,rfl⟩:=pc.1 hp
 exact cv (Iy.2 ⟨⟨i0,i1⟩,e⟩)
def aar(m:List Int)(l:List Pos):(mM m l).Nodup:=(As _).nd
def IA{m:List Int}{l:List Pos}{n:Int}:n∈mM m l↔∃ i:Int,0≤i∧i<l.length∧gM m (gt l i)=n:=by
 unfold mM
 rw[z6,ao]
 constructor
 ·rintro⟨p,hp,e⟩
  obtain⟨i,i0,i1,rfl⟩:=pc.1 hp
  exact⟨i,i0,i1,e⟩
 ·rintro⟨i,i0,i1,e⟩
  exact⟨_,eQ i0 i1,e⟩
def Rv(m:List Int)(l:List Pos):(mM m l).length≤l.length:=by
 have:=rR (aar m l) (m:=l.map (gM m)) fun x hx=>z6.1 hx
 simpa using this
def OI(m:List Int)(l:List Pos):(mP m l).length≤l.length:=by unfold mP;rw[List.length_map];exact Rv m l
def J3{m:List Int}{l:List Pos}{p:List Int}(h:p∈mP m l):p.Nodup∧p.length≤l.length∧0<p.length∧∀ i∈p,0≤i∧i<l.length:=by
 obtain⟨n,hn,rfl⟩:=ao.1 h
 exact⟨Pd m l n,V5 m l n,V6 hn,fun i hi=>(Iy.1 hi).1⟩
structure GI(m:List Int)(l:List Pos)(i:Int)(ls:List (Int×List Int)):Prop where
 nd:(ls.map (·.1)).Nodup
 mem:∀ n,n∈ls.map (·.1)↔∃ j:Int,0≤j∧j<i∧gM m (gt l j)=n
 prt:∀ e∈ls,e.2=ti m l e.1 i.toNat
def GI.nil(m:List Int)(l:List Pos):GI m l 0 []:=⟨by simp,fun n=>by simp;omega,by simp⟩
section
variable{m:List Int}{l:List Pos}{i:Int}{ls:List (Int×List Int)}
def GI.pos(h:GI m l i ls):∀ e∈ls,0<e.2.length:=fun e he=>by
 obtain⟨j,j0,j1,e1⟩:=(h.mem e.1).1 (ao.2 ⟨e,he,rfl⟩)
 rw[h.prt e he]
 exact cv (CO.2 ⟨⟨j0,by omega⟩,e1⟩)
def GI.afl(h:GI m l i ls):∀ e∈ls,e.2.length≤i.toNat:=fun e he=>by
 rw[h.prt e he]
 exact wv _ _ ((M9 _).nd.filter _) fun y hy=>(CO.1 hy).1
def GI.len(h:GI m l i ls):ls.length≤i.toNat:=by
 have:=rR h.nd (m:=(upto i.toNat).map fun j=>gM m (gt l j)) fun x hx=>by
  obtain⟨j,j0,j1,e⟩:=(h.mem x).1 hx
  exact ao.2 ⟨j,jI.2 ⟨j0,by omega⟩,e⟩
 simpa[upto]using this
def GI.old(h:GI m l i ls)(i0:0≤i)(hm:gM m (gt l i)∈ls.map (·.1)):∃ a x b,ls=a++(gM m (gt l i),x)::b∧gM m (gt l i) ∉ a.map (·.1)∧GI m l (i+1) (a++(gM m (gt l i),x ++ [i])::b):=by
 obtain⟨e,he,e1⟩:=ao.1 hm
 obtain⟨a,b,rfl⟩:=List.append_of_mem he
 obtain⟨n,x⟩:=e
 dsimp only at e1
 subst e1
 have lz:=h.nd
 rw[List.map_append,List.map_cons,aZ]at lz
 have ha:gM m (gt l i) ∉ a.map (·.1):=fun hx=>lz.2.2 _ hx _ (b7 ..) rfl
 have hb:gM m (gt l i) ∉ b.map (·.1):=(cB.1 lz.2.1).1
 refine⟨a,x,b,rfl,ha,?_,fun n=>?_,fun e he=>?_⟩
 ·have:=h.nd
  simpa using this
 ·have:=h.mem n
  have e2:(a++(gM m (gt l i),x ++ [i])::b).map (·.1)=(a++(gM m (gt l i),x)::b).map (·.1):=by simp
  rw[e2,this]
  constructor
  ·rintro⟨j,j0,j1,e⟩;exact⟨j,j0,by omega,e⟩
  ·rintro⟨j,j0,j1,e⟩
   by_cases hj:j<i
   ·exact⟨j,j0,hj,e⟩
   ·have:j=i:=by omega
    subst this
    rw[← e]
    exact(h.mem _).1 hm
 ·rw[Kj i0]
  have gw:∀ e'∈a++b,e'∈a++(gM m (gt l i),x)::b∧gM m (gt l i)≠e'.1:=fun e' h'=>by
   rcases List.mem_append.1 h' with h'|h'
   ·exact⟨by simp[h'],fun hx=>ha (ao.2 ⟨e',h',hx.symm⟩)⟩
   ·exact⟨by simp[h'],fun hx=>hb (ao.2 ⟨e',h',hx.symm⟩)⟩
  have lI:e∈a++b∨e=(gM m (gt l i),x ++ [i]):=by
   rcases List.mem_append.1 he with h'|h'
   ·exact .inl (by simp[h'])
   ·rcases au.1 h' with h'|h'
    ·exact .inr h'
    ·exact .inl (by simp[h'])
  rcases lI with h'|rfl
  ·obtain⟨h1,h2⟩:=gw e h'
   rw[if_neg h2,aw]
   exact h.prt e h1
  ·rw[if_pos rfl]
   have:=h.prt (gM m (gt l i),x) (by simp)
   dsimp only at this ⊢
   rw[← this]
def GI.new(h:GI m l i ls)(i0:0≤i)(hm:gM m (gt l i) ∉ ls.map (·.1)):GI m l (i+1) (ls ++ [(gM m (gt l i),[i])]):=by
 refine⟨?_,fun n=>?_,fun e he=>?_⟩
 ·rw[List.map_append,aZ]
  exact⟨h.nd,by simp,fun a ha b hb e=>hm (by simp at hb;rw[← hb,← e];exact ha)⟩
 ·rw[List.map_append,List.mem_append,h.mem n]
  constructor
  ·rintro(⟨j,j0,j1,e⟩|h1)
   ·exact⟨j,j0,by omega,e⟩
   ·exact⟨i,i0,by omega,by simp at h1;exact h1.symm⟩
  ·rintro⟨j,j0,j1,e⟩
   by_cases hj:j<i
   ·exact .inl ⟨j,j0,hj,e⟩
   ·have:j=i:=by omega
    subst this
    exact .inr (by simp[e])
 ·rw[Kj i0]
  rcases List.mem_append.1 he with he|he
  ·rw[if_neg fun hx=>hm (ao.2 ⟨e,he,hx.symm⟩),aw]
   exact h.prt e he
  ·rw[List.mem_singleton.1 he,if_pos rfl]
   have:ti m l (gM m (gt l i)) i.toNat = []:=bQ.2 fun j hj=>by
    obtain⟨h1,h2⟩:=CO.1 hj
    exact hm ((h.mem _).2 ⟨j,h1.1,by omega,h2⟩)
   rw[this];rfl
def GI.keys(h:GI m l l.length ls)(n:Int):n∈ls.map (·.1)↔n∈mM m l:=by rw[h.mem,IA]
def GI.tW(h:GI m l l.length ls){ks:List Int}(hn:ks.Nodup)(hk:∀ n,n∈ks↔n∈ls.map (·.1)):ks.mergeSort (fun x y=>decide (x≤y))=mM m l:=by
 rw[aaz hn]
 exact Ii (As _) (As _) fun x=>by rw[z6,hk,h.keys]
theorem O3:∀ {ls:List (Int×List Int)},(ls.map (·.1)).Nodup→∀ e∈ls,lL (lx ls) (.int .i64 e.1)=some (dI e.2)
 | [],_,e,he=>by cases he
 | a::r,h,e,he=>by
  rw[List.map_cons,cB]at h
  unfold lx
  simp only[List.map_cons,lL,xX]
  rcases au.1 he with rfl|he
  ·simp
  ·have gw:¬ e.1=a.1:=fun hx=>h.1 (hx▸ao.2 ⟨e,he,rfl⟩)
   have HU:¬ a.1=e.1:=fun hx=>gw hx.symm
   have:=O3 h.2 e he
   unfold lx at this
   simp[gw,HU,this]
def GI.get(h:GI m l l.length ls){n:Int}(hn:n∈mM m l):lL (lx ls) (.int .i64 n)=some (dI (sr m l n)):=by
 obtain⟨e,he,rfl⟩:=ao.1 ((h.keys n).2 hn)
 rw[O3 h.nd e he,h.prt e he]
 rfl
end
end Go.Proofs.YtnaefnajkaohgaaGreatDoor
namespace Go.Proofs.YtnaefnajkaohgaaGreatDoor
open Go Go.AL Classical
section
variable{g:eH}{l:List Pos}{nx:List (List Int)}{part:List Int}
end
structure Chn(L:Nat)(v:List eO)(b:List Bool):Prop where
 vl:v.length=L
 bl:b.length=L
 n:∀ i:Int,0≤i→i<L→gt b i=false→(gt v i).1≠2→0≤(gt v i).2∧(0<(gt v i).2→∃ j:Int,0≤j∧j<L∧gt b j=false∧(gt v j).1≠2∧(gt v j).2=(gt v i).2-1)
theorem Nf(v:List eO)(b:List Bool)(x:List Int):∀ k:Nat,k≤x.length→(ju v b x k).2 = -1∨∃ j∈x,gt b j=false∧(gt v j).1=1∧(gt v j).2=(ju v b x k).2
 | 0,_=>.inl rfl
 | k+1,hk=>by
  have ih:=Nf v b x k (by omega)
  have hm:gt x (k:Int)∈x:=eQ (by omega) (by omega)
  rw[ju]
  split
  ·rename_i h
   dsimp only
   rcases Int.le_total (ju v b x k).2 (gt v (gt x (k:Int))).2 with h2|h2
   ·rw[Int.max_eq_right h2];exact .inr ⟨_,hm,h.1,h.2,rfl⟩
   ·rw[Int.max_eq_left h2];exact ih
  ·exact ih
section
variable{g:eH}{l:List Pos}{nx:List (List Int)}{part:List Int}{bu:Int}
def G1(o:mG g l nx part bu){v:List eO}{b:List Bool}(hb:b.length=l.length){n:Int}:∀ i∈oV g l nx part v b n,0≤i∧i<b.length:=fun i hi=>by rw[hb];exact o.prt i (J6 hi)
def IU(o:mG g l nx part bu){v:List eO}{b:List Bool}(hv:v.length=l.length)(hb:b.length=l.length){n:Int}:(rV g l nx part v b n).length=l.length:=by
 unfold rV
 rw[oy _ _ _ (by rw[hv,← hb];exact G1 o hb),hv]
def IT(o:mG g l nx part bu){v:List eO}{b:List Bool}(hb:b.length=l.length){n:Int}:(rB g l nx part v b n).length=l.length:=by
 unfold rB
 rw[oy _ _ _ (G1 o hb),hb]
def Kz(o:mG g l nx part bu){v:List eO}{b:List Bool}(hv:v.length=l.length)(hb:b.length=l.length){n j:Int}(j0:0≤j)(j1:j<l.length):gt (rV g l nx part v b n) j=if j∈oV g l nx part v b n then qg g l nx v b n j else gt v j:=
 uE _ _ _ (by rw[hv,← hb];exact G1 o hb) j j0 (by omega)
def BL(o:mG g l nx part bu){v:List eO}{b:List Bool}(hb:b.length=l.length){n j:Int}(j0:0≤j)(j1:j<l.length):gt (rB g l nx part v b n) j=if j∈oV g l nx part v b n then false else gt b j:=
 uE _ _ _ (G1 o hb) j j0 (by omega)
theorem I0(o:mG g l nx part bu)(pr:Int):∀ (f:Nat) (n:Int) (v:List eO) (b:List Bool) (t:Int),v.length=l.length→b.length=l.length →
  ((nu g l nx part pr f n v b t).2.1.length=l.length∧(nu g l nx part pr f n v b t).2.2.length=l.length)∧∀ j:Int,0≤j→j<l.length→j ∉ part→gt (nu g l nx part pr f n v b t).2.1 j=gt v j∧gt (nu g l nx part pr f n v b t).2.2 j=gt b j
 | 0,n,v,b,t,hv,hb=>⟨⟨hv,hb⟩,fun _ _ _ _=>⟨rfl,rfl⟩⟩
 | f+1,n,v,b,t,hv,hb=>by
  have h1:=IU o hv hb (n:=n)
  have h2:=IT o (v:=v) hb (n:=n)
  have h3:∀ j:Int,0≤j→j<l.length→j ∉ part→gt (rV g l nx part v b n) j=gt v j∧gt (rB g l nx part v b n) j=gt b j:=fun j j0 j1 hj=>by
   rw[Kz o hv hb j0 j1,BL o hb j0 j1,if_neg fun hm=>hj (J6 hm),if_neg fun hm=>hj (J6 hm)]
   exact⟨rfl,rfl⟩
  rw[nu]
  split
  ·obtain⟨a,c⟩:=I0 o pr f (n+1) _ _ (t+(lr b part pr part.length).1) h1 h2
   refine⟨a,fun j j0 j1 hj=>?_⟩
   rw[(c j j0 j1 hj).1,(c j j0 j1 hj).2]
   exact h3 j j0 j1 hj
  ·exact⟨⟨h1,h2⟩,h3⟩
def Hh(o:mG g l nx part bu){v:List eO}{b:List Bool}(hv:v.length=l.length)(hb:b.length=l.length):((lG part v b).1.length=l.length∧(lG part v b).2.length=l.length) ∧
  ∀ j:Int,0≤j→j<l.length→gt (lG part v b).1 j=(if j∈part∧gt b j=true then(2,0)else gt v j)∧gt (lG part v b).2 j=(if j∈part then false else gt b j):=by
 have hi:∀ i∈part.filter (fun i=>gt b i),0≤i∧i<l.length:=fun i hi=>o.prt i (aH.1 hi).1
 unfold lG
 dsimp only
 refine⟨⟨by rw[oy _ _ _ (by rw[hv];exact hi),hv],by rw[oy _ _ _ (by rw[hb];exact hi),hb]⟩,fun j j0 j1=>?_⟩
 rw[uE _ _ _ (by rw[hv];exact hi) j j0 (by omega),uE _ _ _ (by rw[hb];exact hi) j j0 (by omega)]
 simp only[aH]
 refine⟨trivial,?_⟩
 by_cases h1:j∈part
 ·by_cases h2:gt b j=true
  ·simp[h1,h2]
  ·simp[h1,h2]
 ·simp[h1]
def Mh(o:mG g l nx part bu){b:List Bool}(hb:b.length=l.length):(jR b (fun _=>true) part).length=l.length∧∀ j:Int,0≤j→j<l.length→gt (jR b (fun _=>true) part) j=if j∈part then true else gt b j:=by
 have hi:∀ i∈part,0≤i∧i<b.length:=fun i hi=>by rw[hb];exact o.prt i hi
 exact⟨by rw[oy _ _ _ hi,hb],fun j j0 j1=>uE _ _ _ hi j j0 (by omega)⟩
def zk(o:mG g l nx part bu)(pr:Int){v:List eO}{b:List Bool}(hv:v.length=l.length)(hb:b.length=l.length):((kG g l nx part pr v b).2.1.length=l.length∧(kG g l nx part pr v b).2.2.length=l.length) ∧
  ∀ j:Int,0≤j→j<l.length→j ∉ part→gt (kG g l nx part pr v b).2.1 j=gt v j∧gt (kG g l nx part pr v b).2.2 j=gt b j:=by
 obtain⟨m1,m2⟩:=Mh o hb
 obtain⟨⟨r1,r2⟩,r3⟩:=I0 o pr 4001 0 v (jR b (fun _=>true) part) 0 hv m1
 obtain⟨f1,f2⟩:=Hh o r1 r2
 unfold kG
 dsimp only
 refine⟨f1,fun j j0 j1 hj=>?_⟩
 obtain⟨a1,a2⟩:=f2 j j0 j1
 obtain⟨c1,c2⟩:=r3 j j0 j1 hj
 rw[a1,a2,if_neg (fun h=>hj h.1),if_neg hj,c1,c2,m2 j j0 j1,if_neg hj]
 exact⟨rfl,rfl⟩
end
noncomputable def tM(g:eH)(l:List Pos)(nx:List (List Int))(bu:Int):List (List Int)→List eO→List Bool→Int→Int×List eO×List Bool
 | [],v,b,t=>(t,v,b)
 | p::ps,v,b,t=>tM g l nx bu ps (kG g l nx p bu v b).2.1 (kG g l nx p bu v b).2.2 (t+(kG g l nx p bu v b).1)
section
variable{g:eH}{l:List Pos}{nx:List (List Int)}
end
end Go.Proofs.YtnaefnajkaohgaaGreatDoor
namespace Go.Proofs.YtnaefnajkaohgaaGreatDoor
open Go Go.AL Classical
noncomputable def ot(m:List Int)(l:List Pos)(last:Int):Nat→Int
 | 0 => -1
 | i+1=>if last<gM m (gt l (i:Int))∧(ot m l last i<0∨gM m (gt l (i:Int))<ot m l last i)then gM m (gt l (i:Int))else ot m l last i
@[simp] theorem anI(m:List Int)(l:List Pos)(last:Int):ot m l last 0 = -1:=rfl
theorem aaO{m:List Int}{l:List Pos}{last i:Int}(i0:0≤i):ot m l last (i+1).toNat=if last<gM m (gt l i)∧(ot m l last i.toNat<0∨gM m (gt l i)<ot m l last i.toNat)then gM m (gt l i)else ot m l last i.toNat:=by
 have h:(i+1).toNat=i.toNat+1:=by omega
 have h2:((i.toNat:Nat):Int)=i:=by omega
 rw[h,ot,h2]
theorem RN{m:List Int}{l:List Pos}(hl:∀ j:Int,0≤j→j<l.length→0≤gM m (gt l j))(last:Int):∀ k:Nat,k≤l.length →
  (ot m l last k = -1∧∀ j:Int,0≤j→j<k→gM m (gt l j)≤last) ∨
  ((0≤ot m l last k∧last<ot m l last k)∧(∃ j:Int,0≤j∧j<k∧gM m (gt l j)=ot m l last k)∧∀ j:Int,0≤j→j<k→gM m (gt l j)≤last∨ot m l last k≤gM m (gt l j))
 | 0,_=>.inl ⟨rfl,fun j h0 h1=>by omega⟩
 | k+1,hk=>by
  have h0:=hl (k:Int) (by omega) (by omega)
  have ih:=RN hl last k (by omega)
  rw[ot]
  have hj:∀ j:Int,0≤j→j<((k+1:Nat):Int)→j<k∨j=k:=fun j _ _=>by omega
  generalize ot m l last k=x at *
  split
  ·rename_i h
   refine .inr ⟨⟨h0,h.1⟩,⟨k,by omega,by omega,rfl⟩,fun j j0 j1=>?_⟩
   rcases hj j j0 j1 with e|rfl
   ·rcases ih with⟨e1,e2⟩|⟨e1,e2,e3⟩
    ·exact .inl (e2 j j0 e)
    ·rcases e3 j j0 e with e4|e4
     ·exact .inl e4
     ·right
      rcases h.2 with e5|e5<;>omega
   ·exact .inr (cQ _)
  ·rename_i h
   rcases ih with⟨e1,e2⟩|⟨e1,⟨j',Zs,j1',e'⟩,e3⟩
   ·refine .inl ⟨e1,fun j j0 j1=>?_⟩
    rcases hj j j0 j1 with e|rfl
    ·exact e2 j j0 e
    ·have:¬ last<gM m (gt l (k:Int)):=fun hx=>h ⟨hx,.inl (by omega)⟩
     omega
   ·refine .inr ⟨e1,⟨j',Zs,by omega,e'⟩,fun j j0 j1=>?_⟩
    rcases hj j j0 j1 with e|rfl
    ·exact e3 j j0 e
    ·by_cases hx:last<gM m (gt l (k:Int))
     ·right
      have:¬ gM m (gt l (k:Int))<x:=fun hy=>h ⟨hx,.inr hy⟩
      omega
     ·exact .inl (by omega)
noncomputable def sH(m:List Int)(l:List Pos)(last:Int):List Int:=(mM m l).filter fun n=>decide (n≤last)
def Ru(m:List Int)(l:List Pos)(last:Int):rn (sH m l last):=List.Pairwise.filter _ (As _)
def Iz{m:List Int}{l:List Pos}{last n:Int}:n∈sH m l last↔(∃ j:Int,0≤j∧j<l.length∧gM m (gt l j)=n)∧n≤last:=by
 unfold sH
 rw[aH,IA]
 simp
def aaq{m:List Int}{l:List Pos}(hl:∀ j:Int,0≤j→j<l.length→0≤gM m (gt l j)):sH m l (-1) = []:=bQ.2 fun n hn=>by
 obtain⟨⟨j,j0,j1,e⟩,h⟩:=Iz.1 hn
 have:=hl j j0 j1
 omega
def aao{m:List Int}{l:List Pos}{last:Int}(h:∀ j:Int,0≤j→j<l.length→gM m (gt l j)≤last):sH m l last=mM m l:=List.filter_eq_self.2 fun n hn=>by
 obtain⟨j,j0,j1,e⟩:=IA.1 hn
 have:=h j j0 j1
 simp;omega
def aap{m:List Int}{l:List Pos}{last x:Int}(hx:last<x)(h1:∃ j:Int,0≤j∧j<l.length∧gM m (gt l j)=x)(h2:∀ j:Int,0≤j→j<l.length→gM m (gt l j)≤last∨x≤gM m (gt l j)) :
  sH m l x=sH m l last ++ [x]:=by
 refine Ii (Ru m l x) ?_ fun n=>?_
 ·refine bI.2 ⟨Ru m l last,by simp,fun a ha b hb=>?_⟩
  have:=(Iz.1 ha).2
  rw[List.mem_singleton.1 hb]
  omega
 ·rw[List.mem_append,Iz,Iz,List.mem_singleton]
  constructor
  ·rintro⟨⟨j,j0,j1,e⟩,h⟩
   rcases h2 j j0 j1 with e1|e1
   ·exact .inl ⟨⟨j,j0,j1,e⟩,by omega⟩
   ·exact .inr (by omega)
  ·rintro(⟨h3,h4⟩|rfl)
   ·exact⟨h3,by omega⟩
   ·exact⟨h1,cQ _⟩
def Rt(m:List Int)(l:List Pos)(last:Int):(sH m l last).length≤(mM m l).length:=List.length_filter_le ..
theorem SE{g:eH}{l:List Pos}{nx:List (List Int)}{part:List Int}{bu:Int}(gK:part.length≤4000):∀ (f:Nat) (n:Int) (v:List eO) (b:List Bool) (t:Int),t≤(nu g l nx part bu f n v b t).1∧(nu g l nx part bu f n v b t).1≤t+f*4000
 | 0,n,v,b,t=>by rw[nu];dsimp only;omega
 | f+1,n,v,b,t=>by
  have h:=xZ b part bu part.length
  rw[nu]
  split
  ·have:=SE (g:=g) (l:=l) (nx:=nx) gK f (n+1) (rV g l nx part v b n) (rB g l nx part v b n) (t+(lr b part bu part.length).1) (bu:=bu)
   omega
  ·dsimp only;omega
def Pc{g:eH}{l:List Pos}{nx:List (List Int)}{part:List Int}{bu:Int}(gK:part.length≤4000)(v:List eO)(b:List Bool):0≤(kG g l nx part bu v b).1∧(kG g l nx part bu v b).1≤20000000:=by
 have:=SE (g:=g) (l:=l) (nx:=nx) (bu:=bu) gK 4001 0 v (jR b (fun _=>true) part) 0
 unfold kG
 dsimp only
 omega
end Go.Proofs.YtnaefnajkaohgaaGreatDoor
namespace Go.Proofs.YtnaefnajkaohgaaGreatDoor
open Go Go.AL Classical
def zo{α:Type}[Inhabited α]{n:Nat}{a:α}{k:Int}(k0:0≤k)(k1:k<n:=by omega):gt (List.replicate n a) k=a:=by
 unfold gt
 rw[List.getD_eq_getElem?_getD,di,if_pos (by omega)];rfl
noncomputable def qZ(g:eH)(l:List Pos)(m:List Int)(n:Int):Int×List eO×List Bool:=tM g l (eS g l) n (mP m l) (List.replicate l.length (2,0)) (List.replicate l.length false) 0
section
variable{g:eH}{l:List Pos}{m:List Int}{n k:Int}
def Kp(hg:fe g)(hc:jo g l)(hn:1≤n∧n≤9223372036854775807){p:List Int}(hp:p∈mP m l):mG g l (eS g l) p n:=by
 obtain⟨p1,p2,p3,p4⟩:=J3 hp
 have:=hc.len
 exact⟨hg,hc.ok,hc.len,by simp[eS],fun i i0 i1=>⟨(mB hc i0 i1).2,by rw[(mB hc i0 i1).1,List.length_map];have:=tN hg (hc.ok _ (eQ i0 i1));omega⟩,p4,p1,by omega,hn⟩
