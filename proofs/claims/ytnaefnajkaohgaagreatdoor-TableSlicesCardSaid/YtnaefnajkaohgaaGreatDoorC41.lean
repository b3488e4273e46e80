/- Part 41 of the proof of skewer.skewerlaw15.TableSlices. -/
import Derived.Test.YtnaefnajkaohgaaGreatDoorC39
import Derived.Test.YtnaefnajkaohgaaGreatDoorC24
import Derived.Test.YtnaefnajkaohgaaGreatDoorC40
import Derived.Test.YtnaefnajkaohgaaGreatDoorC23
import Derived.Test.YtnaefnajkaohgaaGreatDoorC28
set_option linter.all false
namespace Go.AL
open Go
def esF:Nat→List (Int×List Int)→List (Value×D)
 | _,[]=>[]
 | k,e::r=>(.int .i64 e.1,.osl k (e.2.length-1) 1 0 e.2.length)::esF (k+1) r
def rwF(ls:List (Int×List Int)):Heap:=ls.map fun e=>.row 3 (e.2.length-1) (cl f1 e.2)
def LH(m:List Int)(ls:List (Int×List Int)):Heap:=.row 50 0 [dI m] :: .map (.int .i64) (esF 2 ls)::rwF ls
def esK(ls:List (Int×List Int)):List (Value×D):=ls.map fun e=>(.int .i64 e.1,dI e.2)
@[simp] theorem rwF_len(ls:List (Int×List Int)):(rwF ls).length=ls.length:=by simp[rwF]
@[simp] theorem LH_len(m:List Int)(ls:List (Int×List Int)):(LH m ls).length=ls.length+2:=by simp[LH]
theorem LH_0(m:List Int)(ls:List (Int×List Int)):(LH m ls)[0]? = some (.row 50 0 [dI m]):=rfl
theorem LH_1(m:List Int)(ls:List (Int×List Int)):(LH m ls)[1]? = some (.map (.int .i64) (esF 2 ls)):=rfl
theorem esF_app(k:Nat)(a b:List (Int×List Int)):esF k (a++b)=esF k a++esF (k+a.length) b:=by
 induction a generalizing k with
 | nil=>rfl
 | cons e r ih=>simp only[List.cons_append,esF,ih,List.length_cons];rw[Nat.add_right_comm,Nat.add_assoc k r.length 1]
theorem keyEq_i2(a b:Int):keyEq (.int .i64 a) (.int .i64 b)=decide (a=b):=by simp[keyEq,BEq.beq]
theorem esF_no{n:Int}{ls:List (Int×List Int)}(h:n ∉ ls.map (·.1))(k:Nat):mapGet (esF k ls) (.int .i64 n)=none:=by
 induction ls generalizing k with
 | nil=>rfl
 | cons e r ih=>
  simp only[List.map_cons,List.mem_cons,not_or]at h
  have h1:¬ e.1=n:=fun x=>h.1 x.symm
  simp only[esF,mapGet,keyEq_i2]
  simp[h1,ih h.2,h.1]
theorem esF_sno{n:Int}{ls:List (Int×List Int)}(h:n ∉ ls.map (·.1))(k:Nat)(d:D):mapSet (esF k ls) (.int .i64 n) d=esF k ls ++ [(.int .i64 n,d)]:=by
 induction ls generalizing k with
 | nil=>rfl
 | cons e r ih=>
  simp only[List.map_cons,List.mem_cons,not_or]at h
  have h1:¬ e.1=n:=fun x=>h.1 x.symm
  simp only[esF,mapSet,keyEq_i2]
  simp[h1,ih h.2,h.1]
theorem esF_at{n:Int}{a:List (Int×List Int)}(h:n ∉ a.map (·.1))(k:Nat)(x:List Int)(b:List (Int×List Int)):mapGet (esF k (a++(n,x)::b)) (.int .i64 n)=some (.osl (k+a.length) (x.length-1) 1 0 x.length):=by
 induction a generalizing k with
 | nil=>simp[esF,mapGet,keyEq_i2]
 | cons e r ih=>
  simp only[List.map_cons,List.mem_cons,not_or]at h
  have h1:¬ e.1=n:=fun x=>h.1 x.symm
  simp only[List.cons_append,esF,mapGet,keyEq_i2]
  simp[h1,h.1,ih h.2]
  omega
theorem esF_sat{n:Int}{a:List (Int×List Int)}(h:n ∉ a.map (·.1))(k:Nat)(x y:List Int)(b:List (Int×List Int)):mapSet (esF k (a++(n,x)::b)) (.int .i64 n) (.osl (k+a.length) (y.length-1) 1 0 y.length)=esF k (a++(n,y)::b):=by
 induction a generalizing k with
 | nil=>simp[esF,mapSet,keyEq_i2]
 | cons e r ih=>
  simp only[List.map_cons,List.mem_cons,not_or]at h
  have h1:¬ e.1=n:=fun x=>h.1 x.symm
  simp only[List.cons_append,esF,mapSet,keyEq_i2]
  rw[show k+(e::r).length=k+1+r.length by simp only[List.length_cons];omega]
  simp[h1,h.1,ih h.2]
theorem LH_at(m:List Int)(a:List (Int×List Int))(e:Int×List Int)(b:List (Int×List Int))(G:Heap):(LH m (a++e::b)++G)[2+a.length]? = some (.row 3 (e.2.length-1) (cl f1 e.2)):=by
 rw[List.getElem?_append_left (by simp;omega),Nat.add_comm]
 simp[LH,rwF]
theorem LH_put(m:List Int)(a:List (Int×List Int))(n:Int)(x y:List Int)(b:List (Int×List Int))(G:Heap) :
  ((LH m (a++(n,x)::b)++G).set (2+a.length) (.row 3 (y.length-1) (cl f1 y))).set 1 (.map (.int .i64) (esF 2 (a++(n,y)::b)))=LH m (a++(n,y)::b)++G:=by
 rw[List.set_append_left _ _ (by simp;omega),List.set_append_left _ _ (by simp)]
 congr 1
 rw[Nat.add_comm]
 simp[LH,rwF]
theorem LH_new(m:List Int)(ls:List (Int×List Int))(es:List (Value×D))(G:Heap):(LH m ls++G).set 1 (.map (.int .i64) es) = .row 50 0 [dI m] :: .map (.int .i64) es::(rwF ls++G):=rfl
theorem esF_refs(n:Nat):∀ (ls:List (Int×List Int)) (k:Nat),((esF k ls).map fun x=>topRef n x.2).flatten=(List.range' k ls.length).filter (n≤·)
 | [],_=>rfl
 | e::r,k=>by
  have:=esF_refs n r (k+1)
  simp only[esF,List.map_cons,List.flatten_cons,this,List.length_cons,List.range'_succ,topRef_osl]
  by_cases h:n≤k<;>simp[h]
theorem range'_fil(n k:Nat):∀ (l:Nat),k≤n→n≤k+l→(List.range' k l).filter (n≤·)=List.range' n (k+l-n):=by
 intro l h1 h2
 have e:List.range' k l=List.range' k (n-k)++List.range' n (k+l-n):=by
  have:=List.range'_append_1 (s:=k) (m:=n-k) (n:=k+l-n)
  rw[show k+(n-k)=n by omega,show n-k+(k+l-n)=l by omega]at this
  exact this.symm
 rw[e,List.filter_append,List.filter_eq_nil_iff.2 fun x hx=>?_,List.filter_eq_self.2 fun x hx=>?_,List.nil_append]
 ·have:=List.mem_range'_1.1 hx;simpa using this.1
 ·have:=List.mem_range'_1.1 hx;simp;omega
theorem dedup_nd:∀ {l:List Nat},l.Nodup→dedup l=l
 | [],_=>rfl
 | a::r,h=>by
  obtain⟨h1,h2⟩:=List.nodup_cons.1 h
  rw[dedup,if_neg h1,dedup_nd h2]
theorem rho_map(K:List Nat)(v:Nat):rho (K.map fun v=>(v,true)) v=K.findIdx? (· == v):=by
 unfold rho
 rw[List.findIdx?_map]
 rfl
theorem idx_range(N v:Nat)(E:List Nat):(List.range N++E).findIdx? (· == v)=if v<N then some v else(E.findIdx? (· == v)).map (· + N):=by
 by_cases h:v<N
 ·rw[if_pos h,List.findIdx?_append,show(List.range N).findIdx? (· == v)=some v from ?_]
  ·rfl
  ·rw[List.findIdx?_eq_some_iff_getElem]
   exact⟨by simpa using h,by simp,fun j hj=>by simp;omega⟩
 ·rw[if_neg h,List.findIdx?_append,show(List.range N).findIdx? (· == v)=none from ?_]
  ·simp
  ·rw[List.findIdx?_eq_none_iff]
   intro x hx
   have:=List.mem_range.1 hx
   simp;omega
theorem shed_oslk{ρ:Nat→Option Nat}{H:Heap}{v g sz off len v':Nat}(h:ρ v=some v'):shed ρ H 40 (.osl v g sz off len) = .osl v' g sz off len:=by
 rw[AL.shed_osl,h,shOsl_some]
theorem shed_esF{ρ:Nat→Option Nat}{H:Heap}:∀ (ls:List (Int×List Int)) (k:Nat),(∀ v,v<k+ls.length→ρ v=some v)→((esF k ls).map fun x=>(x.1,shed ρ H 40 x.2))=esF k ls
 | [],_,_=>rfl
 | e::r,k,h=>by
  simp only[List.length_cons]at h
  rw[esF,List.map_cons,shed_esF r (k+1) (fun v hv=>h v (by omega))]
  dsimp only
  rw[shed_oslk (h k (by omega))]
theorem shed_rwF{ρ:Nat→Option Nat}{H:Heap}(ls:List (Int×List Int)):(rwF ls).map (shedOb ρ H)=rwF ls:=by
 unfold rwF
 rw[List.map_map]
 refine List.map_congr_left fun e _=>?_
 simp[shedOb,shed_cells (cl_closed _)]
theorem shedH_range{H:Heap}{ks:Keep}(N:Nat)(E:List Nat)(hk:ks=(List.range N++E).map fun v=>(v,true))(hN:N≤H.length)(hE:∀ v∈E,v<H.length) :
  shedH ks H=(H.take N).map (shedOb (rho ks) H)++E.map fun v=>shedOb (rho ks) H (H.getD v .dead):=by
 unfold shedH
 generalize rho ks=ρ
 subst hk
 rw[List.map_map,List.map_append]
 congr 1
 ·refine List.ext_getElem (by simp;omega) fun i h1 h2=>?_
  simp at h1
  simp[List.getElem?_eq_getElem (show i<H.length by omega)]
 ·refine List.map_congr_left fun v hv=>?_
  have:=hE v hv
  simp[List.getElem?_eq_getElem this]
def okEnv(n:Nat)(env:Env):Prop:=∀ p∈env,topRef n p.2 = []∧∀ ρ:Nat→Option Nat,∀ H,(∀ v,v<n→ρ v=some v)→shed ρ H 40 p.2=p.2
theorem okEnv_c{n k:Nat}{d:D}{env:Env}(hd:closed d=true)(h:okEnv n env):okEnv n ((k,d)::env):=fun p hp=>by
 rcases List.mem_cons.1 hp with rfl|hp
 ·exact⟨topRef_cl n hd,fun ρ H _=>shed_closed hd⟩
 ·exact h p hp
theorem okEnv_p{n k v g o:Nat}{env:Env}(hv:v<n)(h:okEnv n env):okEnv n ((k,.ptr v g o)::env):=fun p hp=>by
 rcases List.mem_cons.1 hp with rfl|hp
 ·exact⟨by simp;omega,fun ρ H e=>by simp[e v hv]⟩
 ·exact h p hp
theorem okEnv_m{n k v:Nat}{env:Env}(hv:v<n)(h:okEnv n env):okEnv n ((k,.omap v)::env):=fun p hp=>by
 rcases List.mem_cons.1 hp with rfl|hp
 ·exact⟨by simp;omega,fun ρ H e=>by simp[e v hv]⟩
 ·exact h p hp
theorem okEnv_nil{n:Nat}:okEnv n []:=fun p hp=>by cases hp
theorem refs_rwF(n:Nat)(ls:List (Int×List Int)):((rwF ls).map (obRefs n)).flatten = []:=by
 unfold rwF
 rw[List.map_map]
 induction ls with
 | nil=>rfl
 | cons e r ih=>simp
theorem LH_cutG{n:Nat}{live:List Nat}{env:Env}{m:List Int}{ls:List (Int×List Int)}{e2:List (Value×D)}{G:Heap}{E:List Nat}{r:Bool}(h2:2≤n)(hn:n≤ls.length+2)(hG:0<G.length∨n<ls.length+2)
  (he:okEnv n (forget live env)) (hE:E.Nodup) (hE2:∀ v∈E,ls.length+2≤v∧v<ls.length+2+G.length) (hr:(e2.map fun x=>topRef n x.2).flatten=E) :
  cut n live { env:=env,H:=.row 50 0 [dI m] :: .map (.int .i64) (esF 2 ls++e2)::(rwF ls++G),marks:=[],rnd:=r } =
   { env:=forget live env,H:=.row 50 0 [dI m] :: .map (.int .i64) (esF 2 ls++e2.map fun x=>(x.1,shed (rho ((List.range (ls.length+2)++E).map fun v=>(v,true))) (.row 50 0 [dI m] :: .map (.int .i64) (esF 2 ls++e2)::(rwF ls++G)) 40 x.2))::(rwF ls++E.map fun v=>shedOb (rho ((List.range (ls.length+2)++E).map fun v=>(v,true))) (.row 50 0 [dI m] :: .map (.int .i64) (esF 2 ls++e2)::(rwF ls++G)) (G.getD (v-(ls.length+2)) .dead)),marks:=[],rnd:=r }:=by
 generalize hH:(Ob.row 50 0 [dI m] :: .map (.int .i64) (esF 2 ls++e2)::(rwF ls++G):Heap)=H
 have hl:H.length=ls.length+2+G.length:=by rw[← hH];simp;omega
 have hrefs:((forget live env).map fun p=>topRef n p.2).flatten = []:=by
  rw[List.flatten_eq_nil_iff]
  intro x hx
  obtain⟨p,hp,rfl⟩:=List.mem_map.1 hx
  exact(he p hp).1
 have hobs:((H.take n).map (obRefs n)).flatten=List.range' n (ls.length+2-n)++E:=by
  obtain⟨n',rfl⟩:∃ n',n=n'+2:=⟨n-2,by omega⟩
  rw[← hH,List.take_succ_cons,List.take_succ_cons]
  rw[List.take_append_of_le_length (by simp;omega)]
  have e1:(((rwF ls).take n').map (obRefs (n'+2))).flatten = []:=by
   have:(rwF ls).take n'=rwF (ls.take n'):=by unfold rwF;rw[List.map_take]
   rw[this];exact refs_rwF _ _
  simp only[List.map_cons,List.flatten_cons,e1,obRefs_row,obRefs_map,List.map_append,List.flatten_append,hr,esF_refs]
  rw[range'_fil _ _ _ (by omega) (by omega)]
  simp[topRef_dI]
  omega
 have hK:dedup ((([]:List Nat)++(List.range' n (ls.length+2-n)++E)++([]:List Nat).filter (n≤·)).filter (· < H.length))=List.range' n (ls.length+2-n)++E:=by
  rw[List.filter_nil,List.append_nil,List.nil_append,List.filter_eq_self.2 fun v hv=>?_]
  ·refine dedup_nd (List.nodup_append.2 ⟨List.nodup_range',hE,fun a ha b hb e=>?_⟩)
   have h3:=List.mem_range'_1.1 ha
   have h4:=hE2 b hb
   omega
  ·rcases List.mem_append.1 hv with hv|hv
   ·have h3:=List.mem_range'_1.1 hv
    simp;omega
   ·have h4:=hE2 v hv
    simp;omega
 have hks:keepOf n (List.range' n (ls.length+2-n)++E)=(List.range (ls.length+2)++E).map fun v=>(v,true):=by
  unfold keepOf
  rw[← List.map_append,← List.append_assoc]
  congr 2
  rw[List.range_eq_range',List.range_eq_range']
  have:=List.range'_append_1 (s:=0) (m:=n) (n:=ls.length+2-n)
  rw[Nat.zero_add,show n+(ls.length+2-n)=ls.length+2 by omega]at this
  exact this
 unfold cut
 dsimp only
 rw[if_neg (by omega),hrefs,hobs,hK,hks]
 generalize hρ:((List.range (ls.length+2)++E).map fun v=>(v,true):Keep)=ks
 have hid:∀ v,v<ls.length+2→rho ks v=some v:=fun v hv=>by rw[← hρ,rho_map,idx_range,if_pos hv]
 have e1:((forget live env).map fun p=>(p.1,shed (rho ks) H 40 p.2))=forget live env:=by
  conv=>rhs;rw[← List.map_id (forget live env)]
  refine List.map_congr_left fun p hp=>?_
  rw[(he p hp).2 (rho ks) H fun v hv=>hid v (by omega)]
  rfl
 have e2':shedH ks H=(H.take (ls.length+2)).map (shedOb (rho ks) H)++E.map fun v=>shedOb (rho ks) H (H.getD v .dead):=shedH_range _ E hρ.symm (by omega) fun v hv=>by have:=hE2 v hv;omega
 have e3:H.take (ls.length+2) = .row 50 0 [dI m] :: .map (.int .i64) (esF 2 ls++e2)::rwF ls:=by
  rw[← hH,List.take_succ_cons,List.take_succ_cons,List.take_append_of_le_length (by simp),List.take_of_length_le (by simp)]
 have e4:∀ v∈E,H.getD v .dead=G.getD (v-(ls.length+2)) .dead:=fun v hv=>by
  have:=hE2 v hv
  obtain⟨v',rfl⟩:∃ v',v=v'+ls.length+2:=⟨v-(ls.length+2),by omega⟩
  rw[← hH,List.getD_eq_getElem?_getD,List.getD_eq_getElem?_getD,List.getElem?_cons_succ,List.getElem?_cons_succ,List.getElem?_append_right (by simp)]
  simp
 rw[e1,e2',e3,List.map_congr_left (g:=fun v=>shedOb (rho ks) H (G.getD (v-(ls.length+2)) .dead)) (fun v hv=>by rw[e4 v hv])]
 have e5:shedOb (rho ks) H (.row 50 0 [dI m]) = .row 50 0 [dI m]:=by
  have:shed (rho ks) H 40 (dI m)=dI m:=shed_closed (closed_dI m)
  simp only[shedOb,List.map_cons,List.map_nil,this]
 have e6:shedOb (rho ks) H (.map (.int .i64) (esF 2 ls++e2)) = .map (.int .i64) (esF 2 ls++e2.map fun x=>(x.1,shed (rho ks) H 40 x.2)):=by
  simp only[shedOb,List.map_append]
  rw[shed_esF ls 2 fun v hv=>hid v (by omega)]
 simp only[List.map_cons,e5,e6,shed_rwF,List.cons_append,List.map_nil]
theorem LH_cut{n:Nat}{live:List Nat}{env:Env}{m:List Int}{ls:List (Int×List Int)}{G:Heap}{r:Bool}(h2:2≤n)(hn:n≤ls.length+2)(he:okEnv n (forget live env)) :
  cut n live { env:=env,H:=LH m ls++G,marks:=[],rnd:=r } = { env:=forget live env,H:=LH m ls,marks:=[],rnd:=r }:=by
 by_cases h:0<G.length∨n<ls.length+2
 ·have:=LH_cutG (m:=m) (ls:=ls) (e2:=[]) (G:=G) (E:=[]) (r:=r) h2 hn h he List.nodup_nil (by simp) rfl
  simpa[LH]using this
 ·have hG:G = []:=by
   cases G with
   | nil=>rfl
   | cons a l=>exact absurd (.inl (by simp)) h
  subst hG
  rw[List.append_nil]
  exact cut_none (by simp;omega)
theorem LH_cutN{n:Nat}{live:List Nat}{env:Env}{m:List Int}{ls:List (Int×List Int)}{o1 o2:Ob}{k i:Int}{r:Bool}(h2:2≤n)(hn:n≤ls.length+2)(he:okEnv n (forget live env)) :
  cut n live { env:=env,H:=(LH m ls ++ [o1,o2,.row 3 0 [.i i]]).set 1 (.map (.int .i64) (esF 2 ls ++ [(.int .i64 k,.osl (ls.length+4) 0 1 0 1)])),marks:=[],rnd:=r } = { env:=forget live env,H:=LH m (ls ++ [(k,[i])]),marks:=[],rnd:=r }:=by
 have:=LH_cutG (m:=m) (ls:=ls) (e2:=[(.int .i64 k,.osl (ls.length+4) 0 1 0 1)]) (G:=[o1,o2,.row 3 0 [.i i]]) (E:=[ls.length+4]) (r:=r) h2 hn (.inl (by simp)) he (by simp) (by simp) (by simp;omega)
 rw[LH_new,this]
 have hid:rho ((List.range (ls.length+2) ++ [ls.length+4]).map fun v=>(v,true)) (ls.length+4)=some (ls.length+2):=by
  rw[rho_map,idx_range,if_neg (by omega)]
  simp[List.findIdx?_cons]
 generalize rho ((List.range (ls.length+2) ++ [ls.length+4]).map fun v=>(v,true))=ρ at hid ⊢
 congr 1
 simp only[LH,esF_app,esF,rwF,List.map_append,List.map_cons,List.map_nil]
 rw[shed_oslk hid]
 rw[show ls.length+4-(ls.length+2)=2 by omega]
 simp[shedOb,cl_one,Nat.add_comm]
theorem freezeKs_eq(H:Heap)(k:Nat)(hk:H.length=k+2):freezeKs H (List.range' 2 k)=(0,true)::(1,true)::(List.range' 2 k).map fun v=>(v,false):=by
 unfold freezeKs
 rw[hk,List.range_eq_range',List.range'_succ,List.range'_succ]
 simp only[List.map_cons]
 congr 1
 ·simp[List.mem_range'_1]
 congr 1
 ·simp[List.mem_range'_1]
 ·refine List.map_congr_left fun v hv=>?_
  have:List.contains (List.range' 2 k) v=true:=by rw[List.contains_eq_mem];simpa using hv
  simp only[Nat.zero_add]at *
  rw[this];rfl
theorem LH_frz(m:List Int)(ls:List (Int×List Int))(l:List Pos)(a b:Int)(hp:∀ e∈ls,0<e.2.length) :
  frz (List.range' 2 ls.length) { env:=[(2,.ptr 0 0 0),(5,.omap 1),(13,dPs l),(14,.i a),(15,.i b)],H:=LH m ls } = { env:=[(2,.ptr 0 0 0),(5,.omap 1),(13,dPs l),(14,.i a),(15,.i b)],H:=[.row 50 0 [dI m],.map (.int .i64) (esK ls)]++List.replicate ls.length .dead }:=by
 have hks:=freezeKs_eq (LH m ls) ls.length (by simp)
 unfold frz
 dsimp only
 rw[hks]
 generalize hρ:rho ((0,true)::(1,true)::(List.range' 2 ls.length).map fun v=>(v,false))=ρ
 have h0:ρ 0=some 0:=by rw[← hρ];rfl
 have h1:ρ 1=some 1:=by rw[← hρ];rfl
 have h2:∀ v,2≤v→ρ v=none:=fun v hv=>by
  rw[← hρ]
  unfold rho
  rw[List.findIdx?_eq_none_iff]
  intro x hx
  rcases List.mem_cons.1 hx with rfl|hx
  ·simp;omega
  rcases List.mem_cons.1 hx with rfl|hx
  ·simp;omega
  obtain⟨w,_,rfl⟩:=List.mem_map.1 hx
  rfl
 have key:∀ (b a:List (Int×List Int)),ls=a++b→((esF (2+a.length) b).map fun x=>(x.1,shed ρ (LH m ls) 40 x.2))=esK b:=by
  intro b
  induction b with
  | nil=>intros;rfl
  | cons e r ih=>
   intro a ha
   have h3:=ih (a ++ [e]) (by simp[ha])
   rw[List.length_append,List.length_singleton,← Nat.add_assoc]at h3
   have h4:(LH m ls)[2+a.length]? = some (.row 3 (e.2.length-1) (cl f1 e.2)):=by
    have:=LH_at m a e r []
    rw[List.append_nil]at this
    rw[ha];exact this
   have h5:shed ρ (LH m ls) 40 (.osl (2+a.length) (e.2.length-1) 1 0 e.2.length)=dI e.2:=by
    have:shed ρ (LH m ls) 40 (.osl (2+a.length) (e.2.length-1) 1 0 e.2.length)=fzR ρ (LH m ls) 39 1 0 e.2.length (some (3,cl f1 e.2)):=by
     rw[AL.shed_osl,h2 _ (by omega),shOsl_none,rowAt_def,h4,rowOf_row,if_pos rfl]
    rw[this,fzR_cl rfl,sl_dI]
   rw[esF,List.map_cons,h3]
   dsimp only
   rw[h5]
   rfl
 have hes:=key ls [] rfl
 rw[List.length_nil,Nat.add_zero]at hes
 congr 1
 ·simp[h0,h1]
 ·have a0:shedOb ρ (LH m ls) (.row 50 0 [dI m]) = .row 50 0 [dI m]:=by
   have:shed ρ (LH m ls) 40 (dI m)=dI m:=shed_closed (closed_dI m)
   simp only[shedOb,List.map_cons,List.map_nil,this]
  have a1:shedOb ρ (LH m ls) (.map (.int .i64) (esF 2 ls)) = .map (.int .i64) (esK ls):=by
   simp only[shedOb,hes]
  unfold shedH
  rw[hρ,List.map_cons,List.map_cons,List.map_map]
  dsimp only
  rw[if_pos rfl,if_pos rfl,LH_0,LH_1]
  dsimp only
  rw[a0,a1]
  simp only[List.cons_append,List.nil_append,List.cons.injEq,true_and]
  refine List.ext_getElem (by simp) fun i h1 h2=>?_
  simp
end Go.AL
namespace Go.Proofs.YtnaefnajkaohgaaGreatDoor
open Go Go.AL Classical
def insI(n:Int):List Int→List Int
 | []=>[n]
 | a::r=>if n<a then n::a::r else if n=a then a::r else a::insI n r
def srtI:List Int→List Int
 | []=>[]
 | a::r=>insI a (srtI r)
def SrtI(l:List Int):Prop:=l.Pairwise fun a b=>a<b
theorem mem_insI{n x:Int}:∀ {l:List Int},x∈insI n l↔x=n∨x∈l
 | []=>by simp[insI]
 | a::r=>by
  unfold insI
  split
  ·simp
  ·split
   ·rename_i h;subst h;simp
   ·simp only[List.mem_cons,mem_insI (l:=r)]
    constructor
    ·rintro(h|h|h)<;>simp[h]
    ·rintro(h|h|h)<;>simp[h]
theorem srt_insI{n:Int}:∀ {l:List Int},SrtI l→SrtI (insI n l)
 | [],_=>by simp[insI,SrtI]
 | a::r,h=>by
  obtain⟨h1,h2⟩:=List.pairwise_cons.1 h
  unfold insI
  split
  ·rename_i hn
   refine List.pairwise_cons.2 ⟨fun x hx=>?_,h⟩
   rcases List.mem_cons.1 hx with rfl|hx
   ·exact hn
   ·have:=h1 x hx;omega
  ·split
   ·exact h
   ·refine List.pairwise_cons.2 ⟨fun x hx=>?_,srt_insI h2⟩
    rcases mem_insI.1 hx with rfl|hx
    ·omega
    ·exact h1 x hx
theorem mem_srtI{x:Int}:∀ {l:List Int},x∈srtI l↔x∈l
 | []=>by simp[srtI]
 | a::r=>by rw[srtI,mem_insI,mem_srtI (l:=r),List.mem_cons]
theorem srt_srtI:∀ (l:List Int),SrtI (srtI l)
 | []=>List.Pairwise.nil
 | a::r=>srt_insI (srt_srtI r)
theorem SrtI.nd{l:List Int}(h:SrtI l):l.Nodup:=List.Pairwise.imp (fun h=>by omega) h
theorem int_ext:∀ {l l':List Int},SrtI l→SrtI l'→(∀ x,x∈l↔x∈l')→l=l'
 | [],[],_,_,_=>rfl
 | [],b::r,_,_,h=>absurd ((h b).2 (by simp)) (by simp)
 | a::r,[],_,_,h=>absurd ((h a).1 (by simp)) (by simp)
 | a::r,b::t,h1,h2,h=>by
  obtain⟨a1,a2⟩:=List.pairwise_cons.1 h1
  obtain⟨b1,b2⟩:=List.pairwise_cons.1 h2
  have e:a=b:=by
   rcases List.mem_cons.1 ((h a).1 (by simp))with e|e
   ·exact e
   ·rcases List.mem_cons.1 ((h b).2 (by simp))with e2|e2
    ·exact e2.symm
    ·have:=b1 _ e;have:=a1 _ e2;omega
  subst e
  rw[int_ext a2 b2 fun x=>?_]
  have:=h x
  simp only[List.mem_cons]at this
  constructor
  ·intro hx
   rcases this.1 (.inr hx)with e|e
   ·have:=a1 x hx;omega
   ·exact e
  ·intro hx
   rcases this.2 (.inr hx)with e|e
   ·have:=b1 x hx;omega
   ·exact e
theorem merge_srt{l:List Int}(h:l.Nodup):l.mergeSort (fun x y=>decide (x≤y))=srtI l:=by
 have hp:=List.mergeSort_perm l (fun x y=>decide (x≤y))
 refine int_ext ?_ (srt_srtI l) fun x=>by rw[mem_srtI];exact hp.mem_iff
 have h1:(l.mergeSort (fun x y=>decide (x≤y))).Pairwise fun a b=>decide (a≤b)=true:=List.pairwise_mergeSort (fun a b c h1 h2=>by simp at *;omega) (fun a b=>by simp;omega) l
 have h2:(l.mergeSort (fun x y=>decide (x≤y))).Nodup:=hp.nodup_iff.2 h
 exact(h1.and h2).imp fun{a b} ⟨x,y⟩=>by have:=of_decide_eq_true x;omega
noncomputable def filtN(m:List Int)(l:List Pos)(n:Int)(k:Nat):List Int:=(upto k).filter fun i=>decide (levL m (gt l i)=n)
noncomputable def filt(m:List Int)(l:List Pos)(n:Int):List Int:=filtN m l n l.length
noncomputable def lvls(m:List Int)(l:List Pos):List Int:=srtI (l.map (levL m))
noncomputable def cutL(m:List Int)(l:List Pos):List (List Int):=(lvls m l).map (filt m l)
theorem mem_filtN{m:List Int}{l:List Pos}{n:Int}{k:Nat}{i:Int}:i∈filtN m l n k↔(0≤i∧i<k)∧levL m (gt l i)=n:=by
 unfold filtN
 rw[List.mem_filter,mem_upto]
 simp
theorem mem_filt{m:List Int}{l:List Pos}{n:Int}{i:Int}:i∈filt m l n↔(0≤i∧i<l.length)∧levL m (gt l i)=n:=mem_filtN
theorem filtN_s{m:List Int}{l:List Pos}{n:Int}{i:Int}(i0:0≤i):filtN m l n (i+1).toNat=filtN m l n i.toNat++if levL m (gt l i)=n then [i]else []:=by
 unfold filtN
 rw[upto_succ i0,List.filter_append]
 congr 1
 by_cases h:levL m (gt l i)=n<;>simp[h]
theorem upto_srt(n:Nat):SrtI (upto n):=by
 unfold upto SrtI
 rw[List.pairwise_map]
 exact List.pairwise_lt_range.imp fun h=>by omega
theorem filt_srt(m:List Int)(l:List Pos)(n:Int):SrtI (filt m l n):=List.Pairwise.filter _ (upto_srt _)
theorem filt_nd(m:List Int)(l:List Pos)(n:Int):(filt m l n).Nodup:=(filt_srt m l n).nd
theorem filt_len(m:List Int)(l:List Pos)(n:Int):(filt m l n).length≤l.length:=nodup_le _ _ (filt_nd m l n) fun y hy=>(mem_filt.1 hy).1
theorem filt_pos{m:List Int}{l:List Pos}{n:Int}(h:n∈lvls m l):0<(filt m l n).length:=by
 unfold lvls at h
 rw[mem_srtI]at h
 obtain⟨p,hp,e⟩:=List.mem_map.1 h
 obtain⟨i,i0,i1,rfl⟩:=mem_gt.1 hp
 exact List.length_pos_of_mem (mem_filt.2 ⟨⟨i0,i1⟩,e⟩)
theorem lvls_nd(m:List Int)(l:List Pos):(lvls m l).Nodup:=(srt_srtI _).nd
theorem mem_lvls{m:List Int}{l:List Pos}{n:Int}:n∈lvls m l↔∃ i:Int,0≤i∧i<l.length∧levL m (gt l i)=n:=by
 unfold lvls
 rw[mem_srtI,List.mem_map]
 constructor
 ·rintro⟨p,hp,e⟩
  obtain⟨i,i0,i1,rfl⟩:=mem_gt.1 hp
  exact⟨i,i0,i1,e⟩
 ·rintro⟨i,i0,i1,e⟩
  exact⟨_,gt_mem i0 i1,e⟩
theorem lvls_len(m:List Int)(l:List Pos):(lvls m l).length≤l.length:=by
 have:=nodup_len (lvls_nd m l) (m:=l.map (levL m)) fun x hx=>mem_srtI.1 hx
 simpa using this
theorem cutL_len(m:List Int)(l:List Pos):(cutL m l).length≤l.length:=by unfold cutL;rw[List.length_map];exact lvls_len m l
theorem cutL_in{m:List Int}{l:List Pos}{p:List Int}(h:p∈cutL m l):p.Nodup∧p.length≤l.length∧0<p.length∧∀ i∈p,0≤i∧i<l.length:=by
 obtain⟨n,hn,rfl⟩:=List.mem_map.1 h
 exact⟨filt_nd m l n,filt_len m l n,filt_pos hn,fun i hi=>(mem_filt.1 hi).1⟩
structure GI(m:List Int)(l:List Pos)(i:Int)(ls:List (Int×List Int)):Prop where
 nd:(ls.map (·.1)).Nodup
 mem:∀ n,n∈ls.map (·.1)↔∃ j:Int,0≤j∧j<i∧levL m (gt l j)=n
 prt:∀ e∈ls,e.2=filtN m l e.1 i.toNat
theorem GI.nil(m:List Int)(l:List Pos):GI m l 0 []:=⟨by simp,fun n=>by simp;omega,by simp⟩
section
variable{m:List Int}{l:List Pos}{i:Int}{ls:List (Int×List Int)}
theorem GI.pos(h:GI m l i ls):∀ e∈ls,0<e.2.length:=fun e he=>by
 obtain⟨j,j0,j1,e1⟩:=(h.mem e.1).1 (List.mem_map.2 ⟨e,he,rfl⟩)
 rw[h.prt e he]
 exact List.length_pos_of_mem (mem_filtN.2 ⟨⟨j0,by omega⟩,e1⟩)
theorem GI.plen(h:GI m l i ls):∀ e∈ls,e.2.length≤i.toNat:=fun e he=>by
 rw[h.prt e he]
 exact nodup_le _ _ ((upto_srt _).nd.filter _) fun y hy=>(mem_filtN.1 hy).1
theorem GI.len(h:GI m l i ls):ls.length≤i.toNat:=by
 have:=nodup_len h.nd (m:=(upto i.toNat).map fun j=>levL m (gt l j)) fun x hx=>by
  obtain⟨j,j0,j1,e⟩:=(h.mem x).1 hx
  exact List.mem_map.2 ⟨j,mem_upto.2 ⟨j0,by omega⟩,e⟩
 simpa[upto]using this
theorem GI.old(h:GI m l i ls)(i0:0≤i)(hm:levL m (gt l i)∈ls.map (·.1)):∃ a x b,ls=a++(levL m (gt l i),x)::b∧levL m (gt l i) ∉ a.map (·.1)∧GI m l (i+1) (a++(levL m (gt l i),x ++ [i])::b):=by
 obtain⟨e,he,e1⟩:=List.mem_map.1 hm
 obtain⟨a,b,rfl⟩:=List.append_of_mem he
 obtain⟨n,x⟩:=e
 dsimp only at e1
 subst e1
 have hnd:=h.nd
 rw[List.map_append,List.map_cons,List.nodup_append]at hnd
 have ha:levL m (gt l i) ∉ a.map (·.1):=fun hx=>hnd.2.2 _ hx _ (List.mem_cons_self ..) rfl
 have hb:levL m (gt l i) ∉ b.map (·.1):=(List.nodup_cons.1 hnd.2.1).1
 refine⟨a,x,b,rfl,ha,?_,fun n=>?_,fun e he=>?_⟩
 ·have:=h.nd
  simpa using this
 ·have:=h.mem n
  have e2:(a++(levL m (gt l i),x ++ [i])::b).map (·.1)=(a++(levL m (gt l i),x)::b).map (·.1):=by simp
  rw[e2,this]
  constructor
  ·rintro⟨j,j0,j1,e⟩;exact⟨j,j0,by omega,e⟩
  ·rintro⟨j,j0,j1,e⟩
   by_cases hj:j<i
   ·exact⟨j,j0,hj,e⟩
   ·have:j=i:=by omega
    subst this
    rw[← e]
    exact(h.mem _).1 hm
 ·rw[filtN_s i0]
  have hne:∀ e'∈a++b,e'∈a++(levL m (gt l i),x)::b∧levL m (gt l i)≠e'.1:=fun e' h'=>by
   rcases List.mem_append.1 h' with h'|h'
   ·exact⟨by simp[h'],fun hx=>ha (List.mem_map.2 ⟨e',h',hx.symm⟩)⟩
   ·exact⟨by simp[h'],fun hx=>hb (List.mem_map.2 ⟨e',h',hx.symm⟩)⟩
  have hcase:e∈a++b∨e=(levL m (gt l i),x ++ [i]):=by
   rcases List.mem_append.1 he with h'|h'
   ·exact .inl (by simp[h'])
   ·rcases List.mem_cons.1 h' with h'|h'
    ·exact .inr h'
    ·exact .inl (by simp[h'])
  rcases hcase with h'|rfl
  ·obtain⟨h1,h2⟩:=hne e h'
   rw[if_neg h2,List.append_nil]
   exact h.prt e h1
  ·rw[if_pos rfl]
   have:=h.prt (levL m (gt l i),x) (by simp)
   dsimp only at this ⊢
   rw[← this]
theorem GI.new(h:GI m l i ls)(i0:0≤i)(hm:levL m (gt l i) ∉ ls.map (·.1)):GI m l (i+1) (ls ++ [(levL m (gt l i),[i])]):=by
 refine⟨?_,fun n=>?_,fun e he=>?_⟩
 ·rw[List.map_append,List.nodup_append]
  exact⟨h.nd,by simp,fun a ha b hb e=>hm (by simp at hb;rw[← hb,← e];exact ha)⟩
 ·rw[List.map_append,List.mem_append,h.mem n]
  constructor
  ·rintro(⟨j,j0,j1,e⟩|h1)
   ·exact⟨j,j0,by omega,e⟩
   ·exact⟨i,i0,by omega,by simp at h1;exact h1.symm⟩
  ·rintro⟨j,j0,j1,e⟩
   by_cases hj:j<i
   ·exact .inl ⟨j,j0,hj,e⟩
   ·have:j=i:=by omega
    subst this
    exact .inr (by simp[e])
 ·rw[filtN_s i0]
  rcases List.mem_append.1 he with he|he
  ·rw[if_neg fun hx=>hm (List.mem_map.2 ⟨e,he,hx.symm⟩),List.append_nil]
   exact h.prt e he
  ·rw[List.mem_singleton.1 he,if_pos rfl]
   have:filtN m l (levL m (gt l i)) i.toNat = []:=List.eq_nil_iff_forall_not_mem.2 fun j hj=>by
    obtain⟨h1,h2⟩:=mem_filtN.1 hj
    exact hm ((h.mem _).2 ⟨j,h1.1,by omega,h2⟩)
   rw[this];rfl
theorem GI.keys(h:GI m l l.length ls)(n:Int):n∈ls.map (·.1)↔n∈lvls m l:=by rw[h.mem,mem_lvls]
theorem GI.srt(h:GI m l l.length ls){ks:List Int}(hn:ks.Nodup)(hk:∀ n,n∈ks↔n∈ls.map (·.1)):ks.mergeSort (fun x y=>decide (x≤y))=lvls m l:=by
 rw[merge_srt hn]
 exact int_ext (srt_srtI _) (srt_srtI _) fun x=>by rw[mem_srtI,hk,h.keys]
theorem esK_get:∀ {ls:List (Int×List Int)},(ls.map (·.1)).Nodup→∀ e∈ls,mapGet (esK ls) (.int .i64 e.1)=some (dI e.2)
 | [],_,e,he=>by cases he
 | a::r,h,e,he=>by
  rw[List.map_cons,List.nodup_cons]at h
  unfold esK
  simp only[List.map_cons,mapGet,keyEq_i2]
  rcases List.mem_cons.1 he with rfl|he
  ·simp
  ·have hne:¬ e.1=a.1:=fun hx=>h.1 (hx▸List.mem_map.2 ⟨e,he,rfl⟩)
   have hne2:¬ a.1=e.1:=fun hx=>hne hx.symm
   have:=esK_get h.2 e he
   unfold esK at this
   simp[hne,hne2,this]
theorem GI.get(h:GI m l l.length ls){n:Int}(hn:n∈lvls m l):mapGet (esK ls) (.int .i64 n)=some (dI (filt m l n)):=by
 obtain⟨e,he,rfl⟩:=List.mem_map.1 ((h.keys n).2 hn)
 rw[esK_get h.nd e he,h.prt e he]
 rfl
end
end Go.Proofs.YtnaefnajkaohgaaGreatDoor
namespace Go.Proofs.YtnaefnajkaohgaaGreatDoor
open Go Go.AL Classical
noncomputable def nx1(m:List Int)(l:List Pos)(last:Int):Nat→Int
 | 0 => -1
 | i+1=>if last<levL m (gt l (i:Int))∧(nx1 m l last i<0∨levL m (gt l (i:Int))<nx1 m l last i)then levL m (gt l (i:Int))else nx1 m l last i
@[simp] theorem nx1_0(m:List Int)(l:List Pos)(last:Int):nx1 m l last 0 = -1:=rfl
theorem nx1_s{m:List Int}{l:List Pos}{last i:Int}(i0:0≤i):nx1 m l last (i+1).toNat=if last<levL m (gt l i)∧(nx1 m l last i.toNat<0∨levL m (gt l i)<nx1 m l last i.toNat)then levL m (gt l i)else nx1 m l last i.toNat:=by
 have h:(i+1).toNat=i.toNat+1:=by omega
 have h2:((i.toNat:Nat):Int)=i:=by omega
 rw[h,nx1,h2]
theorem nx1_ok{m:List Int}{l:List Pos}(hl:∀ j:Int,0≤j→j<l.length→0≤levL m (gt l j))(last:Int):∀ k:Nat,k≤l.length →
  (nx1 m l last k = -1∧∀ j:Int,0≤j→j<k→levL m (gt l j)≤last) ∨
  ((0≤nx1 m l last k∧last<nx1 m l last k)∧(∃ j:Int,0≤j∧j<k∧levL m (gt l j)=nx1 m l last k)∧∀ j:Int,0≤j→j<k→levL m (gt l j)≤last∨nx1 m l last k≤levL m (gt l j))
 | 0,_=>.inl ⟨rfl,fun j h0 h1=>by omega⟩
 | k+1,hk=>by
  have h0:=hl (k:Int) (by omega) (by omega)
  have ih:=nx1_ok hl last k (by omega)
  rw[nx1]
  have hj:∀ j:Int,0≤j→j<((k+1:Nat):Int)→j<k∨j=k:=fun j _ _=>by omega
  generalize nx1 m l last k=x at *
  split
  ·rename_i h
   refine .inr ⟨⟨h0,h.1⟩,⟨k,by omega,by omega,rfl⟩,fun j j0 j1=>?_⟩
   rcases hj j j0 j1 with e|rfl
   ·rcases ih with⟨e1,e2⟩|⟨e1,e2,e3⟩
    ·exact .inl (e2 j j0 e)
    ·rcases e3 j j0 e with e4|e4
     ·exact .inl e4
     ·right
      rcases h.2 with e5|e5<;>omega
   ·exact .inr (Int.le_refl _)
  ·rename_i h
   rcases ih with⟨e1,e2⟩|⟨e1,⟨j',j0',j1',e'⟩,e3⟩
   ·refine .inl ⟨e1,fun j j0 j1=>?_⟩
    rcases hj j j0 j1 with e|rfl
    ·exact e2 j j0 e
    ·have:¬ last<levL m (gt l (k:Int)):=fun hx=>h ⟨hx,.inl (by omega)⟩
     omega
   ·refine .inr ⟨e1,⟨j',j0',by omega,e'⟩,fun j j0 j1=>?_⟩
    rcases hj j j0 j1 with e|rfl
    ·exact e3 j j0 e
    ·by_cases hx:last<levL m (gt l (k:Int))
     ·right
      have:¬ levL m (gt l (k:Int))<x:=fun hy=>h ⟨hx,.inr hy⟩
      omega
     ·exact .inl (by omega)
noncomputable def lvTo(m:List Int)(l:List Pos)(last:Int):List Int:=(lvls m l).filter fun n=>decide (n≤last)
theorem lvTo_srt(m:List Int)(l:List Pos)(last:Int):SrtI (lvTo m l last):=List.Pairwise.filter _ (srt_srtI _)
theorem mem_lvTo{m:List Int}{l:List Pos}{last n:Int}:n∈lvTo m l last↔(∃ j:Int,0≤j∧j<l.length∧levL m (gt l j)=n)∧n≤last:=by
 unfold lvTo
 rw[List.mem_filter,mem_lvls]
 simp
theorem lvTo_no{m:List Int}{l:List Pos}(hl:∀ j:Int,0≤j→j<l.length→0≤levL m (gt l j)):lvTo m l (-1) = []:=List.eq_nil_iff_forall_not_mem.2 fun n hn=>by
 obtain⟨⟨j,j0,j1,e⟩,h⟩:=mem_lvTo.1 hn
 have:=hl j j0 j1
 omega
theorem lvTo_all{m:List Int}{l:List Pos}{last:Int}(h:∀ j:Int,0≤j→j<l.length→levL m (gt l j)≤last):lvTo m l last=lvls m l:=List.filter_eq_self.2 fun n hn=>by
 obtain⟨j,j0,j1,e⟩:=mem_lvls.1 hn
 have:=h j j0 j1
 simp;omega
theorem lvTo_next{m:List Int}{l:List Pos}{last x:Int}(hx:last<x)(h1:∃ j:Int,0≤j∧j<l.length∧levL m (gt l j)=x)(h2:∀ j:Int,0≤j→j<l.length→levL m (gt l j)≤last∨x≤levL m (gt l j)) :
  lvTo m l x=lvTo m l last ++ [x]:=by
 refine int_ext (lvTo_srt m l x) ?_ fun n=>?_
 ·refine List.pairwise_append.2 ⟨lvTo_srt m l last,by simp,fun a ha b hb=>?_⟩
  have:=(mem_lvTo.1 ha).2
  rw[List.mem_singleton.1 hb]
  omega
 ·rw[List.mem_append,mem_lvTo,mem_lvTo,List.mem_singleton]
  constructor
  ·rintro⟨⟨j,j0,j1,e⟩,h⟩
   rcases h2 j j0 j1 with e1|e1
   ·exact .inl ⟨⟨j,j0,j1,e⟩,by omega⟩
   ·exact .inr (by omega)
  ·rintro(⟨h3,h4⟩|rfl)
   ·exact⟨h3,by omega⟩
   ·exact⟨h1,Int.le_refl _⟩
theorem lvTo_len(m:List Int)(l:List Pos)(last:Int):(lvTo m l last).length≤(lvls m l).length:=List.length_filter_le ..
theorem rnds_t{g:Game}{l:List Pos}{nx:List (List Int)}{part:List Int}{bu:Int}(hpl:part.length≤4000):∀ (f:Nat) (n:Int) (v:List Stp) (b:List Bool) (t:Int),t≤(rnds g l nx part bu f n v b t).1∧(rnds g l nx part bu f n v b t).1≤t+f*4000
 | 0,n,v,b,t=>by rw[rnds];dsimp only;omega
 | f+1,n,v,b,t=>by
  have h:=lds_in b part bu part.length
  rw[rnds]
  split
  ·have:=rnds_t (g:=g) (l:=l) (nx:=nx) hpl f (n+1) (rV g l nx part v b n) (rB g l nx part v b n) (t+(lds b part bu part.length).1) (bu:=bu)
   omega
  ·dsimp only;omega
theorem fillR_t{g:Game}{l:List Pos}{nx:List (List Int)}{part:List Int}{bu:Int}(hpl:part.length≤4000)(v:List Stp)(b:List Bool):0≤(fillR g l nx part bu v b).1∧(fillR g l nx part bu v b).1≤20000000:=by
 have:=rnds_t (g:=g) (l:=l) (nx:=nx) (bu:=bu) hpl 4001 0 v (ptw b (fun _=>true) part) 0
 unfold fillR
 dsimp only
 omega
end Go.Proofs.YtnaefnajkaohgaaGreatDoor
namespace Go.Proofs.YtnaefnajkaohgaaGreatDoor
open Go Go.AL Classical
theorem gt_rep{α:Type}[Inhabited α]{n:Nat}{a:α}{k:Int}(k0:0≤k)(k1:k<n):gt (List.replicate n a) k=a:=by
 unfold gt
 rw[List.getD_eq_getElem?_getD,List.getElem?_replicate,if_pos (by omega)];rfl
noncomputable def mkT(g:Game)(l:List Pos)(m:List Int)(n:Int):Int×List Stp×List Bool:=mkR g l (nextI g l) n (cutL m l) (List.replicate l.length (2,0)) (List.replicate l.length false) 0
section
variable{g:Game}{l:List Pos}{m:List Int}{n k:Int}
theorem fok(hg:GameOK g)(hc:Closed2 g l)(hn:1≤n∧n≤9223372036854775807){p:List Int}(hp:p∈cutL m l):FOK g l (nextI g l) p n:=by
 obtain⟨p1,p2,p3,p4⟩:=cutL_in hp
 have:=hc.len
 exact⟨hg,hc.ok,hc.len,by simp[nextI],fun i i0 i1=>⟨(nextI_in hc i0 i1).2,by rw[(nextI_in hc i0 i1).1,List.length_map];have:=mvL_len hg (hc.ok _ (gt_mem i0 i1));omega⟩,p4,p1,by omega,hn⟩
end
end Go.Proofs.YtnaefnajkaohgaaGreatDoor
