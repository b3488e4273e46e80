/- 11 -/
import Derived.Test.YtnaefnajkaohgaaGreatDoorH10
set_option linter.all false
namespace Go.AL
open Go
def jv(l:List eU):D:=.sl 8 (l.map eU.cells)
def mH(l:List fD):D:=.sl 6 (l.map fD.cells)
@[simp] theorem ap9(l:List eU):D.sl 8 (l.map eU.cells)=jv l:=by unfold jv;rfl
@[simp] theorem ap7(l:List fD):D.sl 6 (l.map fD.cells)=mH l:=by unfold mH;rfl
section
variable{l:List eU}{n:Int}{k:IntKind}{P:D→Prop}{H:U}
@[simp] theorem akU:closed (jv l)=true:=by unfold jv;exact Bo l
@[simp] theorem am8:oq .slice (jv l) H=some (.i l.length):=by simp only[jv,Rj,List.length_map]
@[simp] theorem aqB(n:Nat):gW n (jv l) = []:=by unfold jv;rfl
@[simp] theorem akc:cellsOf (jv l)=some [jv l]:=by unfold jv;rfl
@[simp] theorem an2:oA (nS 8 (jv l) (.val (.int k n))) P .mk=((0≤n∧n<l.length)∧P (.eW (gt l n).cells)):=by unfold jv;exact u4
end
section
variable{l:List fD}{n:Int}{k:IntKind}{P:D→Prop}{H:U}
@[simp] theorem akS:closed (mH l)=true:=by unfold mH;exact Bo l
@[simp] theorem am5:oq .slice (mH l) H=some (.i l.length):=by simp only[mH,Rj,List.length_map]
@[simp] theorem aqg:kY 6 H (mH l)=some (cl fD.cells l,l.length):=by unfold mH;exact Dq ..
@[simp] theorem aqx(n:Nat):gW n (mH l) = []:=by unfold mH;rfl
@[simp] theorem anZ:oA (nS 6 (mH l) (.val (.int k n))) P .mk=((0≤n∧n<l.length)∧P (.eW (gt l n).cells)):=by unfold mH;exact u4
end
@[simp] theorem ap6:D.sl 8 []=jv []:=by unfold jv;rfl
@[simp] theorem ap5:D.sl 6 []=mH []:=by unfold mH;rfl
@[simp] theorem alT{ρ:Nat→Option Nat}{H:U}{k:Nat}{t:TypeId}{a b c:List Int}{r q w u:Int}{o:Bool}:ng ρ H (k+1) 8 0 1 (some (t,[dI a,dI b,dI c,.i r,.i q,.i w,.i u,.b o]))=jv [⟨⟨a,b,c,r,q⟩,w,u,o⟩]:=by
 have h:=py (f:=eU.cells) (ρ:=ρ) (H:=H) (k:=k) (t:=t) (l:=[⟨⟨a,b,c,r,q⟩,w,u,o⟩]) (n:=1) rfl
 rw[nK]at h
 unfold jv;exact h
def uD(S:List Nat):Nat→U→lP
 | _,[]=>[]
 | i,_::r=>(i,!S.contains i)::uD S (i+1) r
@[simp] theorem alz(S:List Nat)(i:Nat):uD S i [] = []:=rfl
@[simp] theorem aly(S:List Nat)(i:Nat)(o:Ob)(r:U):uD S i (o::r)=(i,!decide (i∈S))::uD S (i+1) r:=by
 rw[uD,dz]
def Wg(H:U)(S:List Nat):kR H S=uD S 0 H:=by
 have key:∀ (H:U) (i:Nat),(List.range' i H.length).map (fun v=>(v,!(S.contains v)))=uD S i H:=by
  intro H
  induction H with
  | nil=>intro i;rfl
  | cons o r ih=>intro i;rw[aI,bT,List.map_cons,ih,uD]
 rw[kR,cj,key]
def Kt(env:Env)(H:U)(m:List Nat)(r:Bool)(ks:lP):St:={ env:=env.map fun p=>(p.1,eP (ga ks) H 40 p.2),H:=ks.map fun p=>if p.2 then ri (ga ks) H H[p.1]? else .dead,marks:=m,fW:=r }
@[simp] theorem alL(S:List Nat)(env:Env)(H:U)(m:List Nat)(r:Bool):kb S { env:=env,H:=H,marks:=m,fW:=r }=Kt env H m r (uD S 0 H):=by
 unfold kb Kt
 rw[Wg]
 rfl
@[simp] theorem alH(env:Env)(H:U)(m:List Nat)(r:Bool)(ks:lP):Kt env H m r ks = { env:=env.map fun p=>(p.1,eP (ga ks) H 40 p.2),H:=ks.map fun p=>if p.2 then ri (ga ks) H H[p.1]? else .dead,marks:=m,fW:=r }:=rfl
section
variable{T:gy}
def Ku(S:List Nat)(T:gy)(b:IR)(K:gS):gS:=fun o=>match o with
 | .norm s=>s.marks = []∧XC T b (kb S s) K
 | o=>K o
theorem eN.fz{live:List Nat}{a:IR}{s:St}{K:gS}(S:List Nat)(hm:s.marks = [])(h:eN T live a (kb S s) K .mk):eN T live a s K .mk:=Wc.kb S (by rw[hm];exact Rw _) h
def eN.w{live:List Nat}{a:IR}{s:St}{K:gS}{α:Type}(x0:α)(E:α→Env)(Hp:α→U)(P:α→Prop)(μ:α→Nat)
  (h0:P x0) (hE:forget ((E x0).map (·.1)) s.env=E x0) (hH:s.H=Hp x0) (o3:(((E x0).map (·.1)).all fun k=>live.contains k)=true)
  (h:∀ x,P x→Wc T (jS a) { env:=E x,H:=Hp x,marks:=s.marks,fW:=s.fW } (tJ s.H.length live ((E x0).map (·.1)) (fun e H m r=>∃ x',e=E x'∧H=Hp x'∧m=s.marks∧r=s.fW∧μ x'<μ x∧P x') K)):eN T live a s K .mk:=by
 refine Wc.loop (fun m s'=>∃ x,P x∧m=μ x∧({ s' with env:=forget ((E x0).map (·.1)) s'.env }:St) = { env:=E x,H:=Hp x,marks:=s.marks,fW:=s.fW }) (μ x0) ⟨x0,h0,rfl,?_⟩ ?_
 ·dsimp only
  rw[Pr o3,hE]
  rw[← hH]
 ·rintro m s' ⟨x,hP,rfl,he⟩
  refine Ev.BJ ((E x0).map (·.1)) ?_
  rw[he]
  refine(h x hP).mono fun o ho=>?_
  cases o with
  | norm yw=>
   obtain⟨x',h3,h4,h5,h6,h2,h1⟩:=ho
   refine⟨μ x',h2,x',h1,rfl,?_⟩
   rw[h3]
   generalize cut s.H.length live yw=q at *
   cases q
   simp_all
  | exit=>exact ho
  | ret=>exact ho
end
theorem Rl{g:eH}{s d c:Int}:∀ (n:Nat) (x:Int) (out:List Int),(qV g s d c n x out).length≤out.length+n
 | 0,x,out=>by simp[qV]
 | n+1,x,out=>by
  unfold qV
  split
  ·have:=Rl (g:=g) (s:=s) (d:=d) (c:=c) n (kZ g s d x) (out ++ [x])
   simp at this;omega
  ·omega
def L3{g:eH}{s d c:Int}:(kd g s d c).length≤10:=by
 have:=Rl (g:=g) (s:=s) (d:=d) (c:=c) 10 (kZ g s d c) []
 simpa[kd]using this
theorem Rm{s:eU}:∀ l:List Int,(oM s l).length≤l.length
 | []=>by simp[oM]
 | c::r=>by
  have:=Rm (s:=s) r
  unfold oM
  split<;>simp<;>omega
def Au{g:eH}{s:eU}{x:eO}:(gY g s x).length≤10:=by
 have:=Rm (s:=s) (kd g s.p.side x.2 s.cur)
 have:=L3 (g:=g) (s:=s.p.side) (d:=x.2) (c:=s.cur)
 unfold gY qC q'
 dsimp only
 repeat' split
 all_goals first|omega|(simp only[aI,cA];omega)
end Go.AL
namespace Go.Proofs.YtnaefnajkaohgaaGreatDoor
open Go Go.AL Classical
set_option maxRecDepth 10000
set_option maxHeartbeats 1000000
structure pk(a b:List Pos)(i k:Int)(out:List Pos):Prop where
 i0:0≤i∧i≤a.length
 k0:0≤k∧k≤b.length
 len:(out.length:Int)=i+k
 perm:out.Perm (a.take i.toNat++b.take k.toNat)
 ws:WS out
 le:∀ x∈out,∀ y,y∈a.drop i.toNat∨y∈b.drop k.toNat→gC x y≤0
def pk.init(a b:List Pos):pk a b 0 0 []:=⟨by omega,by omega,rfl,by simp,by simp[WS],by simp⟩
def Ty{a:List Pos}(h:WS a){i:Int}(h0:0≤i)(h1:i<a.length){y:Pos}(hy:y∈a.drop i.toNat):gC (gt a i) y≤0:=by
 have h2:WS (a.drop i.toNat):=ey (List.drop_sublist _ _) h
 rw[lQ h0 h1]at hy h2
 rcases au.1 hy with rfl|hy
 ·rw[rv];omega
 ·exact(aN.1 h2).1 y hy
def aay{α:Type}[Inhabited α]{a:List α}{i:Int}(h0:0≤i)(h1:i<a.length){y:α}:y∈a.drop i.toNat↔y=gt a i∨y∈a.drop (i+1).toNat:=by
 rw[lQ h0 h1,au,show(i+1).toNat=i.toNat+1 by omega]
def pk.add{a b:List Pos}{i k:Int}{out:List Pos}(hI:pk a b i k out)(hi:i<a.length)(ha:WS a)(h:∀ y∈b.drop k.toNat,gC (gt a i) y≤0):pk a b (i+1) k (out ++ [gt a i]):=by
 have h0:=hI.i0
 have e:∀ y,y∈a.drop i.toNat↔y=gt a i∨y∈a.drop (i+1).toNat:=fun y=>aay h0.1 hi
 refine⟨by omega,hI.k0,by have:=hI.len;simp;omega,?_,?_,fun x hx y hy=>?_⟩
 ·rw[gx h0.1 hi,bj]
  refine(hI.perm.append_right _).trans ?_
  rw[bj]
  exact List.Perm.append_left _ eA
 ·refine bI.2 ⟨hI.ws,by simp,fun x hx y hy=>?_⟩
  simp at hy;subst hy
  exact hI.le x hx _ (.inl ((e _).2 (.inl rfl)))
 ·rcases List.mem_append.1 hx with hx|hx
  ·exact hI.le x hx y (hy.imp (fun h=>(e _).2 (.inr h)) id)
  ·simp at hx;subst hx
   rcases hy with hy|hy
   ·exact Ty ha h0.1 hi ((e _).2 (.inr hy))
   ·exact h y hy
def pk.swap{a b:List Pos}{i k:Int}{out:List Pos}(hI:pk a b i k out):pk b a k i out:=
 ⟨hI.k0,hI.i0,by have:=hI.len;omega,hI.perm.trans eA,hI.ws,fun x hx y hy=>hI.le x hx y hy.symm⟩
def pk.M4{a b:List Pos}{i k:Int}{out:List Pos}(hI:pk a b i k out)(hi:i<a.length)(ha:WS a)(hb:WS b)(h:k<b.length→gC (gt a i) (gt b k)≤0):pk a b (i+1) k (out ++ [gt a i]):=by
 refine hI.add hi ha fun y hy=>?_
 by_cases hk:k<b.length
 ·exact Oy (h hk) (Ty hb hI.k0.1 hk hy)
 ·rw[aR (by have:=hI.k0;omega)]at hy;cases hy
def pk.S6{a b:List Pos}{i k:Int}{out:List Pos}(hI:pk a b i k out)(hk:k<b.length)(ha:WS a)(hb:WS b)(h:i<a.length→¬ gC (gt a i) (gt b k)≤0):pk a b i (k+1) (out ++ [gt b k]):=by
 refine(hI.swap.M4 hk hb ha fun hi=>?_).swap
 have:=h hi
 rw[sj];omega
def f109:∀ (n:Nat) (l:List Pos),l.length=n→l.length<2 ^ 40→(∀ p∈l,Small p)→Wf T 109 [e7 l] [] (Ex e7 fun r=>r.Perm l∧WS r):=by
 intro n
 induction n using Nat.strongRecOn with
 | ind n ih=>
 intro l hn hl hs
 refine Yg DS ?_
 simp[DS]
 (with_reducible refine Xs ?_ ?_<;>intro h<;>(try intro h')<;>(try simp[h])<;>(try omega))
 ·refine⟨l,rfl,List.Perm.refl _,?_⟩
  unfold WS
  cases l with
  | nil=>simp
  | cons a l=>cases l with
   | nil=>simp
   | cons b l=>simp at h;omega
 ·rw[Ah (by omega) (by omega) (by omega)]
  (with_reducible repeat' first|refine Xk ?_<;>try simp|refine Xs ?_ ?_<;>intro h<;>(try intro h')<;>(try simp[h])<;>try omega|refine Xg ?_|omega)
  refine Yq (ih (l.length / 2) (by omega) _ (by simp;omega) (by simp;omega) (fun p hp=>hs p (aJ hp))) fun a ha=>?_
  simp
  rw[Ah (by omega) (by omega) (by omega)]
  (with_reducible repeat' first|refine Xk ?_<;>try simp|refine Xs ?_ ?_<;>intro h<;>(try intro h')<;>(try simp[h])<;>try omega|refine Xg ?_|omega)
  refine Yq (ih (l.length-l.length / 2) (by omega) _ (by simp;omega) (by simp;omega) (fun p hp=>hs p (bV (aJ hp)))) fun b hb=>?_
  simp
  have la:(a.length:Int)=l.length / 2:=by rw[ha.1.length_eq];simp;omega
  have lb:(b.length:Int)=l.length-l.length / 2:=by rw[hb.1.length_eq];simp;omega
  have sa:∀ p∈a,Small p:=fun p hp=>hs p (aJ ((ha.1.mem_iff).1 hp))
  have sb:∀ p∈b,Small p:=fun p hp=>hs p (bV (aJ ((hb.1.mem_iff).1 hp)))
  refine eN.j ((0,0,[]):Int×Int×List Pos) (fun x=>[(3,e7 a),(4,e7 b),(5,.eF 0 x.2.2.length 5 0 x.2.2.length),(6,.i x.1),(7,.i x.2.1)]) (fun x=>[.row 44 x.2.2.length (cl Pos.cells x.2.2)]) (fun x=>pk a b x.1 x.2.1 x.2.2) (fun x=>a.length+b.length-(x.1+x.2.1).toNat) ?_ (by simp) (by first|rfl|simp) rfl ?_
  ·exact pk.init a b
  rintro⟨i,k,out⟩ hI
  have h0:=hI.i0
  have h1:=hI.k0
  have h2:=hI.len
  dsimp only at hI h0 h1 h2 ⊢
  simp
  (with_reducible repeat' first|refine Xk ?_<;>try simp|refine Xs ?_ ?_<;>intro h<;>(try intro h')<;>(try simp[h])<;>try omega|refine Xg ?_|omega)
  ·exact⟨i+1,k,_,by simp,rfl,rfl,by simp,rfl,by omega,hI.M4 (by assumption) ha.2 hb.2 fun h=>by omega⟩
  ·refine Yt (f50 _ _ (sa _ (eQ (by omega) (by omega))) (sb _ (eQ (by omega) (by omega)))) ?_
   simp[*]
   (with_reducible repeat' first|refine Xk ?_<;>try simp|refine Xs ?_ ?_<;>intro h<;>(try intro h')<;>(try simp[h])<;>try omega|refine Xg ?_|omega)
   ·exact⟨i+1,k,_,by simp,rfl,rfl,by simp,rfl,by omega,hI.M4 (by assumption) ha.2 hb.2 fun _=>by assumption⟩
   ·exact⟨i,k+1,_,by simp,rfl,rfl,by simp,rfl,by omega,hI.S6 (by omega) ha.2 hb.2 fun _=>by assumption⟩
  ·exact⟨i,k+1,_,by simp,rfl,rfl,by simp,rfl,by omega,hI.S6 (by omega) ha.2 hb.2 fun _=>by omega⟩
  ·refine⟨out,rfl,?_,hI.ws⟩
   have e1:=hI.perm
   rw[jh (by omega),jh (by omega)]at e1
   refine e1.trans ((List.Perm.append ha.1 hb.1).trans ?_)
   have e2:(l.drop (↑l.length / 2:Int).toNat).take (l.length-(↑l.length / 2:Int).toNat)=l.drop (↑l.length / 2:Int).toNat:=aC (by rw[bw];exact Nat.le_refl _)
   rw[e2,bC]
structure s9(a:List Pos)(i:Int)(out:List Pos):Prop where
 i0:0≤i∧i≤a.length
 len:(out.length:Int)≤i
 mem:∀ q,q∈out↔q∈a.take i.toNat
 st:out.Pairwise fun x y=>gC x y<0
def s9.init(a:List Pos):s9 a 0 []:=⟨by omega,by simp,by simp,by simp⟩
def Tz{a:List Pos}(h:WS a){j:Int}(h0:0≤j)(h1:j<a.length){x:Pos}(hx:x∈a.take (j+1).toNat):gC x (gt a j)≤0:=by
 have h2:WS (a.take (j+1).toNat):=ey (List.take_sublist _ _) h
 rw[gx h0 h1]at hx h2
 rcases List.mem_append.1 hx with hx|hx
 ·exact(bI.1 h2).2.2 x hx _ (by simp)
 ·simp at hx;subst hx;rw[rv];omega
def s9.skip{a:List Pos}{i:Int}{out:List Pos}(hI:s9 a i out)(hi:i<a.length)(h1:i≠0)(h:gt a i=gt a (i-1)):s9 a (i+1) out:=by
 have h0:=hI.i0
 refine⟨by omega,by have:=hI.len;omega,fun q=>?_,hI.st⟩
 rw[hI.mem,gx h0.1 hi,List.mem_append,List.mem_singleton]
 refine⟨.inl,fun hq=>hq.elim id fun hq=>?_⟩
 rw[hq,h]
 have:=gx (l:=a) (n:=i-1) (by omega) (by omega)
 rw[show i-1+1=i by omega]at this
 rw[this];simp
def s9.add{a:List Pos}{i:Int}{out:List Pos}(hI:s9 a i out)(hi:i<a.length)(ha:WS a)(h:i=0∨gt a i≠gt a (i-1)):s9 a (i+1) (out ++ [gt a i]):=by
 have h0:=hI.i0
 refine⟨by omega,by have:=hI.len;simp;omega,fun q=>?_,bI.2 ⟨hI.st,by simp,fun x hx y hy=>?_⟩⟩
 ·rw[List.mem_append,hI.mem,gx h0.1 hi,List.mem_append]
 ·simp at hy;subst hy
  have hx:=(hI.mem x).1 hx
  rcases h with rfl|h
  ·simp at hx
  ·by_cases hz:i=0
   ·subst hz;simp at hx
   have e1:=Tz ha (j:=i-1) (by omega) (by omega) (x:=x) (by rw[show i-1+1=i by omega];exact hx)
   have e2:=Tz ha h0.1 hi (x:=gt a (i-1)) (by
    have:=gx (l:=a) (n:=i-1) (by omega) (by omega)
    rw[show i-1+1=i by omega]at this
    rw[gx h0.1 hi,this];simp)
   have e3:gC (gt a (i-1)) (gt a i)≠0:=fun e=>h (px.1 e).symm
   by_cases e4:gC x (gt a (i-1))=0
   ·rw[px.1 e4];omega
   ·exact vE (show gC x (gt a (i-1))<0 by omega) (by omega)
def agx{r:List Pos}(h:r.Pairwise fun x y=>gC x y<0):jM r:=by
 intro i h1 h2
 rw[mw (by omega) (by omega),mw (by omega) (by omega)]
 exact aV.1 h _ _ _ _ (by omega)
def f61(l:List Pos)(hl:l.length<2 ^ 40)(hs:∀ p∈l,Small p):Wf T 61 [e7 l] [] (Ex e7 fun r=>jM r∧r.length≤l.length∧∀ q,q∈r↔q∈l):=by
 refine Yg FP ?_
 simp[FP]
 refine Yq (f109 _ l rfl hl hs) fun a ha=>?_
 simp
 have la:a.length=l.length:=ha.1.length_eq
 have sa:∀ p∈a,Small p:=fun p hp=>hs p (ha.1.mem_iff.1 hp)
 refine eN.j ((0,[]):Int×List Pos) (fun x=>[(3,e7 a),(4,.eF 0 x.2.length 5 0 x.2.length),(5,.i x.1)]) (fun x=>[.row 44 x.2.length (cl Pos.cells x.2)]) (fun x=>s9 a x.1 x.2) (fun x=>a.length-x.1.toNat) ?_ (by simp) (by first|rfl|simp) rfl ?_
 ·exact s9.init a
 rintro⟨i,out⟩ hI
 have h0:=hI.i0
 have h1:=hI.len
 dsimp only at hI h0 h1 ⊢
 simp
 (with_reducible repeat' first|refine Xk ?_<;>try simp|refine Xs ?_ ?_<;>intro h<;>(try intro h')<;>(try simp[h])<;>try omega|refine Xg ?_|omega)
 ·exact⟨1,_,by simp,rfl,by simp,rfl,by omega,by subst h;exact hI.add (by assumption) ha.2 (.inl rfl)⟩
 ·refine Yt (f110 _ _ (sa _ (eQ (by omega) (by omega))) (sa _ (eQ (by omega) (by omega)))) ?_
  simp
  (with_reducible repeat' first|refine Xk ?_<;>try simp|refine Xs ?_ ?_<;>intro h<;>(try intro h')<;>(try simp[h])<;>try omega|refine Xg ?_|omega)
  ·exact⟨i+1,_,rfl,rfl,rfl,rfl,by omega,hI.skip (by assumption) (by assumption) (by assumption)⟩
  ·exact⟨i+1,_,by simp,rfl,by simp,rfl,by omega,hI.add (by assumption) ha.2 (.inr (by assumption))⟩
 ·refine⟨out,rfl,agx hI.st,by omega,fun q=>?_⟩
  rw[hI.mem,jh (by omega),ha.1.mem_iff]
end Go.Proofs.YtnaefnajkaohgaaGreatDoor
namespace Go.AL
open Go
def LV(H:U)(d:D)(ks:lP):D×U:=(eP (ga ks) H 40 d,ks.map fun p=>if p.2 then ri (ga ks) H H[p.1]? else .dead)
@[simp] theorem amZ(H:U)(d:D)(ks:lP):LV H d ks=(eP (ga ks) H 40 d,ks.map fun p=>if p.2 then ri (ga ks) H H[p.1]? else .dead):=rfl
def Ad(own n:Nat)(H:U)(d:D):List Nat:=match own with|0=>[]|1=>Ae n d|3=>((gv H 40 d).filter (n≤·)).take 1|_=>(gv H 40 d).filter (n≤·)
@[simp] theorem aoL(n:Nat)(H:U)(d:D):Ad 0 n H d = []:=rfl
@[simp] theorem aoM(n:Nat)(H:U)(d:D):Ad 1 n H d=Ae n d:=rfl
@[simp] theorem aoN(n:Nat)(H:U)(d:D):Ad 2 n H d=(gv H 40 d).filter (n≤·):=rfl
@[simp] theorem aoO(n:Nat)(H:U)(d:D):Ad 3 n H d=((gv H 40 d).filter (n≤·)).take 1:=rfl
@[simp low] theorem Ip{own n:Nat}{H:U}{d:D}(h:¬ H.length≤n):leave own n H d=LV H d (ij n (dedup ((Ad own n H d++((H.take n).map (mT n)).flatten).filter (· < H.length)))):=by
 unfold leave LV Ad
 rw[if_neg h]
 rfl
@[simp] theorem aoP(n v g sz len:Nat):Ae n (.eF v g sz 0 len)=if n≤v then [v]else []:=rfl
theorem C9{H:U}{k:Nat}{d:D}(h:closed d=true):gv H k d = []:=by
 cases k with
 | zero=>rfl
 | succ k=>unfold gv;exact if_pos h
def C'{H:U}{k:Nat}{cs:List D}(h:fu cs=true):(cs.map (gv H k)).flatten = []:=by
 induction cs with
 | nil=>rfl
 | cons d r ih=>
  simp only[fu,ah]at h
  simp[C9 h.1,ih h.2]
@[simp] theorem ao5{H:U}{k:Nat}{d:D}(h:closed d=true):gv H k d = []:=C9 h
@[simp] theorem ao4(H:U)(k:Nat)(cs:List D):gv H (k+1) (.agg cs)=(cs.map (gv H k)).flatten:=by
 by_cases h:closed (.agg cs)=true
 ·rw[C9 h,C' (by simpa using h)]
 ·rw[gv,if_neg h]
@[simp] theorem apb(H:U)(k:Nat)(cs:List D):gv H (k+1) (.tup cs)=(cs.map (gv H k)).flatten:=by
 by_cases h:closed (.tup cs)=true
 ·rw[C9 h,C' (by simpa using h)]
 ·rw[gv,if_neg h]
def Aj(H:U)(k:Nat):Option Ob→List Nat
 | some (.row _ _ cs)=>(cs.map (gv H k)).flatten
 | _=>[]
@[simp] theorem apd(H:U)(k t g:Nat)(cs:List D):Aj H k (some (.row t g cs))=(cs.map (gv H k)).flatten:=rfl
theorem Sn(H:U)(k v:Nat):(match rowsOf H v with|some (_,_,cs)=>(cs.map (gv H k)).flatten|none=>[])=Aj H k H[v]? := by
 unfold rowsOf Aj
 cases h:H[v]? with
 | none=>rfl
 | some o=>cases o<;>rfl
@[simp] theorem ao8(H:U)(k v g sz off n:Nat):gv H (k+1) (.eF v g sz off n)=v::Aj H k H[v]? := by
 rw[gv,if_neg (by simp)]
 exact congrArg _ (Sn H k v)
@[simp] theorem ao9(H:U)(k v g off:Nat):gv H (k+1) (.ptr v g off)=v::Aj H k H[v]? := by
 rw[gv,if_neg (by simp)]
 exact congrArg _ (Sn H k v)
@[simp] theorem ao7(H:U)(k v:Nat):gv H (k+1) (.fE v) = [v]:=by
 rw[gv,if_neg (by simp)]
@[simp] theorem apa{H:U}{k:Nat}{α:Type}{f:α→List D}{sz:Nat}[F:Fl f sz](l:List α):((cl f l).map (gv H k)).flatten = []:=C' (sh l)
@[simp low] theorem alO{ρ:Nat→Option Nat}{H:U}{k sz:Nat}{t:TypeId}{cs:List D}(h:cs.length=sz):ng ρ H k sz 0 1 (some (t,cs)) = .sl sz [cs.map (eP ρ H k)]:=by
 subst h
 unfold ng
 simp[chunks,aC]
@[simp] theorem aqa{a b c:List Int}{r q w u:Int}{o:Bool}:D.sl 8 [[dI a,dI b,dI c,.i r,.i q,.i w,.i u,.b o]]=jv [⟨⟨a,b,c,r,q⟩,w,u,o⟩]:=by unfold jv;rfl
end Go.AL
namespace Go.Proofs.YtnaefnajkaohgaaGreatDoor
open Go Go.AL Classical
set_option maxRecDepth 10000
set_option maxHeartbeats 1000000
def Hf(p:Pos)(hp:Small p):Wf T 155 [dP p] [] (fun d H=>d = .agg [.eF 0 1 1 0 p.cs.length,.eF 1 1 1 0 p.h0.length,.eF 2 1 1 0 p.h1.length,.i p.ff,.i p.side]∧H = [.row 3 1 (cl f1 p.cs),.row 3 1 (cl f1 p.h0),.row 3 1 (cl f1 p.h1)]):=by
 obtain⟨h1,h2,h3⟩:=hp
 refine Wf.xo 2 (fn:=vj) rfl (by simp[vj]) ?_
 simp[vj]
 (with_reducible repeat' first|refine Xk ?_<;>try simp|refine Xs ?_ ?_<;>intro h<;>(try intro h')<;>(try simp[h])<;>try omega|refine Xg ?_|omega)
 all_goals trace_state
def f250(a b:eU)(ha:Small a.p)(hb:Small b.p):Wf T 250 [.agg a.cells,.agg b.cells] [] (Is (.b (decide (a=b)))):=by
 have e:(a=b)↔a.p=b.p∧a.kind=b.kind∧a.cur=b.cur∧a.iL=b.iL:=by cases a;cases b;simp
 have e2:decide (a=b)=decide (a.p=b.p∧a.kind=b.kind∧a.cur=b.cur∧a.iL=b.iL):=decide_eq_decide.2 e
 rw[e2]
 refine Yg Ff ?_
 simp[Ff]
 (with_reducible repeat' first|refine Xk ?_<;>try simp|refine Xs ?_ ?_<;>intro h<;>(try intro h')<;>(try simp[h])<;>try omega|refine Xg ?_|omega)
 ·refine Yc (f50 _ _ ha hb) ?_
  simp
  simp_all [px]
 all_goals (intros;simp_all)
def f252(s:eU)(b:Bool):Wf T 252 [.agg s.cells,.b b] [] (Is (jv (if b then [s]else []))):=by
 refine Yg Fh ?_
 simp[Fh]
 (with_reducible repeat' first|refine Xk ?_<;>try simp|refine Xs ?_ ?_<;>intro h<;>(try intro h')<;>(try simp[h])<;>try omega|refine Xg ?_|omega)
def CF(a b:fD):Prop:=gC a.p b.p<0∨(gC a.p b.p=0∧a.iL=false∧b.iL=true)
def f229(a b:fD)(ha:Small a.p)(hb:Small b.p):Wf T 229 [.agg a.cells,.agg b.cells] [] (Is (.b (decide (CF a b)))):=by
 refine Yg E8 ?_
 simp[E8]
 refine Yc (f50 _ _ ha hb) ?_
 simp
 (with_reducible repeat' first|refine Xk ?_<;>try simp|refine Xs ?_ ?_<;>intro h<;>(try intro h')<;>(try simp[h])<;>try omega|refine Xg ?_|omega)
 all_goals by_cases hc:gC a.p b.p<0<;>simp[*,CF]at *
def f263(g:eH)(hg:mX g)(s d c:Int):Wf T 263 [g.iw,.i s,.i d,.i c] [] (Is (dI (kd g s d c))):=by
 have hb:=hg.size
 refine Yg Fq ?_
 simp[Fq]
 refine Yc (f251 g hg s d c) ?_
 simp
 refine eN.j ((0,kZ g s d c,[]):Nat×Int×List Int) (fun x=>[(1,.i s),(2,.i d),(3,.i c),(4,.ptr 0 0 0),(9,.eF 1 x.2.2.length 1 0 x.2.2.length),(10,.i x.2.1)]) (fun x=>[.row 37 0 [.i g.size,.sl 1 (g.next.map fI),dI g.gU],.row 3 x.2.2.length (cl f1 x.2.2)]) (fun x=>x.1=x.2.2.length∧x.2.1<g.size∧x.2.2.Nodup∧(∀ y∈x.2.2,0≤y∧y<g.size)∧kd g s d c=qV g s d c (10-x.1) x.2.1 x.2.2) (fun x=>10-x.1) ?_ (by simp) (by first|rfl|simp) rfl ?_
 ·have:=hg.to s d c
  simp[kd];omega
 rintro⟨m,x,out⟩ ⟨h0,h1,h2,h3,h4⟩
 dsimp only at h0 h1 h2 h3 h4 ⊢
 have hm:out.length≤9:=wv 9 out h2 (fun y hy=>by have:=h3 y hy;omega)
 have e:=h4
 rw[show 10-m=(9-m)+1 by omega,qV]at e
 simp
 (with_reducible repeat' first|refine Xk ?_<;>try simp|refine Xs ?_ ?_<;>intro h<;>(try intro h')<;>(try simp[h])<;>try omega|refine Xg ?_|omega)
 ·rw[e,if_neg (by omega)]
 ·refine fg.r rfl rfl (f25 out x (by omega)) (by simp) rfl (by simp) ?_
  simp
  (with_reducible repeat' first|refine Xk ?_<;>try simp|refine Xs ?_ ?_<;>intro h<;>(try intro h')<;>(try simp[h])<;>try omega|refine Xg ?_|omega)
  ·rw[e,if_neg (by rintro⟨_,_,hh⟩;exact hh ‹_›)]
  ·refine Yc (f251 g hg s d x) ?_
   simp
   refine⟨out.length+1,_,out ++ [x],by simp,rfl,by simp,rfl,by omega,by simp,(hg.to _ _ _).2,?_,?_,?_⟩
   ·rw[aZ]
    refine⟨h2,by simp,fun y hy z hz=>?_⟩
    simp at hz
    subst hz
    intro e3
    subst e3
    exact absurd hy ‹_›
   ·intro y hy
    simp at hy
    rcases hy with hy|rfl
    ·exact h3 y hy
    ·omega
   ·rw[e,if_pos (nk (by assumption)),h0,show 9-out.length=10-(out.length+1)by omega]
 ·rw[e,if_neg (by omega)]
def f253(g:eH)(hg:fe g)(s:eU)(hs:jk g s)(n:Int):Wf T 253 [dG g,.agg s.cells,.i n] [] (Is (jv (oM s (kd g s.p.side n s.cur)))):=by
 have hl:=L3 (g:=g) (s:=s.p.side) (d:=n) (c:=s.cur)
 have gH:=hs.p.size
 refine Yg Fi ?_
 simp[Fi]
 refine Yc (f263 g hg.iw s.p.side n s.cur) ?_
 simp
 generalize hL:kd g s.p.side n s.cur=L at *
 have ft:∀ y∈L,0≤y∧y<g.size:=fun y hy=>LZ hg.iw (hL▸hy)
 refine eN.j ((0,[]):Int×List eU) (fun x=>[(4,.ptr 1 0 0),(7,.eF 2 x.2.length 8 0 x.2.length),(8,dI L),(9,.i x.1)]) (fun x=>[.row 41 0 g.cells,.row 282 0 s.cells,.row 282 x.2.length (cl eU.cells x.2)]) (fun x=>0≤x.1∧x.1≤L.length∧x.2.length=x.1.toNat∧oM s L=x.2++oM s (L.drop x.1.toNat)) (fun x=>L.length-x.1.toNat) ?_ (by simp) (by first|rfl|simp) rfl ?_
 ·simp
 rintro⟨i,out⟩ ⟨h0,h1,h2,h3⟩
 dsimp only at h0 h1 h2 h3 ⊢
 simp
 (with_reducible repeat' first|refine Xk ?_<;>try simp|refine Xs ?_ ?_<;>intro h<;>(try intro h')<;>(try simp[h])<;>try omega|refine Xg ?_|omega)
 ·have hc:=ft _ (eQ h0 ‹_›)
  rw[lQ h0 ‹_›,oM]at h3
  (with_reducible repeat' first|refine Xk ?_<;>try simp|refine Xs ?_ ?_<;>intro h<;>(try intro h')<;>(try simp[h])<;>try omega|refine Xg ?_|omega)
  ·refine⟨i+1,out ++ [{ s with cur:=gt L i }],by simp,rfl,by simp,by rw[← pR],by omega,by omega,by omega,by simp[h2];omega,?_⟩
   rw[h3,if_pos ‹_›,show(i+1).toNat=i.toNat+1 by omega];simp
  ·rw[if_neg ‹_›]at h3
   rw[h3]
   simp[jv]
 ·rw[aR (by omega)]at h3
  rw[h3];simp[oM]
def Rx{n s:Int}(_:0≤n)(hk:0≤fm n)(h:iU n≠s)(hs:0≤s∧s≤1):iU n=1-s:=by
 unfold fm iU at *
 split at hk
 ·rename_i e;rw[if_pos e]at h ⊢;omega
 ·omega
def f254(g:eH)(hg:fe g)(s:eU)(hs:jk g s):Wf T 254 [dG g,.agg s.cells] [] (Is (jv (qC g s))):=by
 have gH:=hs.p.size
 have nN:=hs.cur
 have jB:=hs.p.small hg
 refine Yg Fj ?_
 simp[Fj]
 (with_reducible repeat' first|refine Xk ?_<;>try simp|refine Xs ?_ ?_<;>intro h<;>(try intro h')<;>(try simp[h])<;>try omega|refine Xg ?_|omega)
 refine Yc (f51 _) ?_
 simp
 have im:=hs.p.cs _ (eQ nN.1 (by omega))
 have oH:=hg.kinds
 have ik:=hs.p.side
 (with_reducible repeat' first|refine Xk ?_<;>try simp|refine Xs ?_ ?_<;>intro h<;>(try intro h')<;>(try simp[h])<;>try omega|refine Xg ?_|omega)
 ·rw[qC,if_pos]
  unfold fm at *;unfold iU
  split at h<;>rename_i h5
  ·omega
  ·rw[if_neg h5];omega
 ·rw[qC,if_pos (by omega)]
 ·have hm:fm (gt s.p.cs s.cur)<g.kinds.length:=u0 im.2 oH.1
  have Lx:s.p.side=0∨s.p.side=1:=by omega
  have l0:=hs.p.h0.len
  have l1:=hs.p.h1.len
  have q0:=gN (l:=s.p.cs) (n:=s.cur) (v:=0) nN.1 (by omega)
  refine Yn (Hf s.p jB) ?_
  simp
  (with_reducible repeat' first|refine Xk ?_<;>try simp[q0]|refine Xs ?_ ?_<;>intro h<;>(try intro h')<;>(try simp[h,q0])<;>try omega|refine Xg ?_|omega)
  ·have hx:iU (gt s.p.cs s.cur)=1-s.p.side:=Rx im.1 (by omega) (by assumption) ik
   have vV:=h
   rcases Lx with e|e
   ·have ha:=hs.p.h0.at_ _ (by omega) (show fm (gt s.p.cs s.cur)<s.p.h0.length by omega)
    have q1:=xv (l:=s.p.h0) (n:=fm (gt s.p.cs s.cur)) (v:=gt s.p.h0 (fm (gt s.p.cs s.cur))+1) (by omega) (by omega)
    have q2:=gN (l:=s.p.h0) (n:=fm (gt s.p.cs s.cur)) (v:=gt s.p.h0 (fm (gt s.p.cs s.cur))+1) (by omega) (by omega)
    simp[e,q1,q2]
    (with_reducible repeat' first|refine Xk ?_<;>try simp|refine Xs ?_ ?_<;>intro h<;>(try intro h')<;>(try simp[h])<;>try omega|refine Xg ?_|omega)
    all_goals simp[qC,hx,vV,Pos.hand,Pos.lN,e,q0,q2]
    ·rw[if_neg (by omega)]
    ·rw[if_pos (by omega)]
   ·have ha:=hs.p.h1.at_ _ (by omega) (show fm (gt s.p.cs s.cur)<s.p.h1.length by omega)
    have q1:=xv (l:=s.p.h1) (n:=fm (gt s.p.cs s.cur)) (v:=gt s.p.h1 (fm (gt s.p.cs s.cur))+1) (by omega) (by omega)
    have q2:=gN (l:=s.p.h1) (n:=fm (gt s.p.cs s.cur)) (v:=gt s.p.h1 (fm (gt s.p.cs s.cur))+1) (by omega) (by omega)
    simp[e,q1,q2]
    (with_reducible repeat' first|refine Xk ?_<;>try simp|refine Xs ?_ ?_<;>intro h<;>(try intro h')<;>(try simp[h])<;>try omega|refine Xg ?_|omega)
    all_goals simp[qC,hx,vV,Pos.hand,Pos.lN,e,q0,q2]
    ·rw[if_neg (by omega)]
    ·rw[if_pos (by omega)]
  ·have hx:iU (gt s.p.cs s.cur)=1-s.p.side:=Rx im.1 (by omega) (by assumption) ik
   simp[qC,hx,h,q0]
def f255(g:eH)(hg:fe g)(s:eU)(hs:jk g s)(n:Int):Wf T 255 [dG g,.agg s.cells,.i n] [] (Is (jv (q' g s n))):=by
 have gH:=hs.p.size
 have nN:=hs.cur
 have jB:=hs.p.small hg
 have ht:=hg.iw.to s.p.side n s.cur
 refine Yg Fk ?_
 simp[Fk]
 refine Yc (f251 g hg.iw s.p.side n s.cur) ?_
 simp
 (with_reducible repeat' first|refine Xk ?_<;>try simp|refine Xs ?_ ?_<;>intro h<;>(try intro h')<;>(try simp[h])<;>try omega|refine Xg ?_|omega)
 ·rw[q',if_pos (by simp_all)]
 ·rw[q',if_pos (by simp_all)]
 ·have q0:=gN (l:=s.p.cs) (n:=kZ g s.p.side n s.cur) (v:=gt s.p.cs s.cur) (by omega) (by omega)
  have q1:=gN (l:=pt s.p.cs (kZ g s.p.side n s.cur) (gt s.p.cs s.cur)) (n:=s.cur) (v:=0) nN.1 (by omega)
  refine Yn (Hf s.p jB) ?_
  simp
  (with_reducible repeat' first|refine Xk ?_<;>try simp[q0,q1]|refine Xs ?_ ?_<;>intro h<;>(try intro h')<;>(try simp[h,q0,q1])<;>try omega|refine Xg ?_|omega)
  simp[q', *]
 ·rw[q',if_pos (by simp_all)]
end Go.Proofs.YtnaefnajkaohgaaGreatDoor
namespace Go.AL
open Go
def ny(n:Nat):D→Bool
 | .eF v _ _ _ _ | .ptr v _ _ | .fE v | .ic v=>decide (v<n)
 | d=>closed d
def lh(n:Nat):D→Bool
 | .agg cs | .tup cs | .eW cs=>cs.all (ny n)
 | .fn _ a b=>a.all (ny n)&&b.all (ny n)
 | d=>ny n d
def sI(n:Nat):Ob→Bool
 | .row _ _ cs=>cs.all (lh n)
 | .map _ es=>es.all fun x=>lh n x.2
 | .gu _ env _=>env.all fun x=>lh n x.2
 | .qA _ _=>true
 | .jJ m _ _=>ny n m
 | .jZ=>true
 | .dead=>true
 | .kW=>false
def q8(n:Nat)(H:U):Prop:=∀ o∈H,sI n o=true
def MU{ρ:Nat→Option Nat}{H:U}{n k:Nat}(ml:∀ u,u<n→ρ u=some u){d:D}(h:ny n d=true):eP ρ H (k+1) d=d:=by
 cases d with
 | eF v g sz off len=>simp only[ny,decide_eq_true_eq]at h;rw[MT,ml v h,SP]
 | ptr v g off=>simp only[ny,decide_eq_true_eq]at h;rw[aga,ml v h,af5]
 | fE v=>simp only[ny,decide_eq_true_eq]at h;rw[af9,ml v h,af3]
 | ic v=>
  simp only[ny,decide_eq_true_eq]at h
  rw[eP,if_neg (by simp)]
  rw[ml v h]
 | _=>exact mD h
def CM{ρ:Nat→Option Nat}{H:U}{n k:Nat}(ml:∀ u,u<n→ρ u=some u){cs:List D}(h:cs.all (ny n)=true):cs.map (eP ρ H (k+1))=cs:=by
 conv=>rhs;rw[← aQ cs]
 exact aj fun d hd=>MU ml (aq.1 h d hd)
def Dm{ρ:Nat→Option Nat}{H:U}{n k:Nat}(ml:∀ u,u<n→ρ u=some u){d:D}(h:lh n d=true):eP ρ H (k+2) d=d:=by
 cases d with
 | agg cs=>rw[af8,CM ml h]
 | tup cs=>rw[agc,CM ml h]
 | eW cs=>
  by_cases hc:closed (.eW cs)=true
  ·exact mD hc
  ·rw[eP,if_neg hc,CM ml h]
 | fn f a b=>
  simp only[lh,ah]at h
  by_cases hc:closed (.fn f a b)=true
  ·exact mD hc
  ·rw[eP,if_neg hc,CM ml h.1,CM ml h.2]
 | _=>exact MU ml h
def af7{ρ:Nat→Option Nat}{H:U}{n:Nat}(ml:∀ u,u<n→ρ u=some u){o:Ob}(h:sI n o=true):jE ρ H o=o:=by
 have key:∀ {α:Type} (l:List (α×D)),(l.all fun x=>lh n x.2)=true→(l.map fun x=>(x.1,eP ρ H 40 x.2))=l:=by
  intro α l hl
  conv=>rhs;rw[← aQ l]
  exact aj fun x hx=>by
   have:=aq.1 hl x hx
   rw[Dm ml this];rfl
 cases o with
 | row t g cs=>
  simp only[jE]
  congr 1
  conv=>rhs;rw[← aQ cs]
  exact aj fun d hd=>Dm ml (aq.1 h d hd)
 | map kk es=>simp only[jE];rw[key es h]
 | gu rf env st=>simp only[jE];rw[key env h]
 | qA=>rfl
 | jJ m since seen=>simp only[jE];rw[MU ml h]
 | jZ=>rfl
 | dead=>rfl
 | kW=>cases h
def De{n u:Nat}(h:u<n):ga (ij n []) u=some u:=by
 unfold ga ij
 rw[List.map_nil,aw]
 rw[cI]
 refine⟨by simpa using h,by simp,fun j hj=>by simp;omega⟩
def MR{n:Nat}{H G:U}(hn:H.length=n)(h:q8 n H):nV (ij n []) (H++G)=H:=by
 unfold nV
 refine bP fun i=>?_
 rw[av]
 unfold ij
 rw[List.map_nil,aw,av]
 by_cases hi:i<n
 ·rw[bX hi]
  simp only[bn,if_true]
  rw[ag (by omega),List.getElem?_eq_getElem (by omega)]
  simp only
  congr 1
  have e:((List.range n).map fun v=>(v,true))=ij n []:=by unfold ij;simp
  rw[e]
  exact af7 (fun u hu=>De hu) (h _ (bJ _))
 ·rw[aO (by simp;omega),aO (by omega)];rfl
def Jv{n:Nat}{d:D}(h:lh n d=true):gW n d = []:=by
 cases d<;>first|rfl|(simp only[lh,ny,decide_eq_true_eq]at h;simp only[gW];rw[if_neg (by omega)])
theorem flatten_nil{α β:Type}{f:α→List β}:∀ {l:List α},(∀ a∈l,f a = [])→(l.map f).flatten = []
 | [],_=>rfl
 | a::l,h=>by rw[List.map_cons,aL,h a (by simp),flatten_nil fun b hb=>h b (by simp[hb])];rfl
def aaT{n:Nat}{o:Ob}(h:sI n o=true):mT n o = []:=by
 cases o with
 | row t g cs=>exact flatten_nil fun d hd=>Jv (aq.1 h d hd)
 | map kk es=>exact flatten_nil fun x hx=>Jv (aq.1 h x hx)
 | _=>rfl
def UU{n:Nat}{live:List Nat}{env:Env}{H G:U}{m:List Nat}{r:Bool}(hn:H.length=n)(hH:q8 n H)(he:((forget live env).all fun p=>lh n p.2)=true)(hm:(m.all fun v=>decide (v<n))=true) :
  cut n live { env:=env,H:=H++G,marks:=m,fW:=r } = { env:=forget live env,H:=H,marks:=m,fW:=r }:=by
 by_cases hg:(H++G).length≤n
 ·have:G = []:=by
   cases G with
   | nil=>rfl
   | cons a l=>simp at hg;omega
  subst this
  rw[aw]
  exact By (by show H.length≤n;omega)
 ·unfold cut
  dsimp only
  rw[if_neg hg]
  have e1:((forget live env).map fun p=>gW n p.2).flatten = []:=flatten_nil fun p hp=>Jv (aq.1 he p hp)
  have e2:(((H++G).take n).map (mT n)).flatten = []:=flatten_nil fun o ho=>by
   rw[bf (by omega),aC (by omega)]at ho
   exact aaT (hH o ho)
  have e3:m.filter (n≤·) = []:=by
   rw[cP]
   intro v hv
   have:=aq.1 hm v hv
   simp at this ⊢;omega
  rw[e1,e2,e3]
  have e4:dedup (([] ++ [] ++ []:List Nat).filter (· < (H++G).length)) = []:=rfl
  rw[e4,MR hn hH]
  congr 1
  ·conv=>rhs;rw[← aQ (forget live env)]
   exact aj fun p hp=>by
    rw[Dm (fun u hu=>De hu) (aq.1 he p hp)];rfl
  ·conv=>rhs;rw[← aQ m]
   exact aj fun v hv=>by
    have:=aq.1 hm v hv
    rw[De (by simpa using this)];rfl
def aeB{n v:Nat}{H:U}{o:Ob}(h:q8 n H)(ho:sI n o=true):q8 n (H.set v o):=fun x hx=>by
 rcases List.mem_or_eq_of_mem_set hx with hx|rfl
 ·exact h x hx
 ·exact ho
def Ao{n:Nat}{d:D}(h:closed d=true):ny n d=true:=by
 cases d<;>first|exact h|(cases h;done)|(simp only[closed]at h;cases h)
def SV{n:Nat}{d:D}(h:closed d=true):lh n d=true:=by
 cases d with
 | agg cs=>exact aq.2 fun d hd=>Ao (lE (by simpa using h) d hd)
 | tup cs=>exact aq.2 fun d hd=>Ao (lE (by simpa using h) d hd)
 | eW cs=>exact aq.2 fun d hd=>Ao (lE (by simpa using h) d hd)
 | fn f a b=>
  simp only[JV,ah]at h
  simp only[lh,ah]
  exact⟨aq.2 fun d hd=>Ao (lE h.1 d hd),aq.2 fun d hd=>Ao (lE h.2 d hd)⟩
 | _=>exact Ao (n:=n) h
@[simp] theorem apR{n:Nat}{d:D}(h:closed d=true):lh n d=true:=SV h
@[simp] theorem apV(n v g sz off len:Nat):lh n (.eF v g sz off len)=decide (v<n):=rfl
@[simp] theorem apW(n v g off:Nat):lh n (.ptr v g off)=decide (v<n):=rfl
@[simp high] theorem Z2{α:Type}[Inhabited α]{f:α→List D}{sz:Nat}[F:Fl f sz]{l:List α}{t:TypeId}{n:Int}(hz:0<sz):tI sz (n.toNat*sz) (some (t,cl f l))=if n.toNat<l.length then some (.agg (f (gt l n)))else none:=by
 have h:=aaQ (f:=f) (l:=l) (t:=t) (n:=n) (P:=fun d=>d = .agg (f (gt l n))) hz
 simp only[and_true]at h
 by_cases hn:n.toNat<l.length
 ·rw[if_pos hn]
  obtain⟨d,h1,h2⟩:=h.mpr hn
  rw[h1,h2]
 ·rw[if_neg hn]
  unfold tI
  dsimp only
  rw[if_neg]
  rw[xa,← bS,dV hz]
  omega
section
variable{T:gy}{a b:IR}{s:St}{K:gS}{id n:Nat}{live:List Nat}
end
def LJ{α:Type}(E:α→Env)(Hp:α→U)(ms:List Nat)(rd:Bool)(Q:α→Prop)(_:Tag (E,Hp,ms,rd,Q))(e:Env)(H:U)(m:List Nat)(r:Bool):Prop:=
 ∃ x',e=E x'∧H=Hp x'∧m=ms∧r=rd∧Q x'
theorem LJ.e{α:Type}{E:α→Env}{Hp:α→U}{ms:List Nat}{rd:Bool}{Q:α→Prop}{t:Tag (E,Hp,ms,rd,Q)}{e:Env}{H:U}{m:List Nat}{r:Bool}(x':α)(h5:Q x')(h1:e=E x':=by first|rfl|simp)(h2:H=Hp x':=by first|rfl|simp)(h3:m=ms:=by exact rfl)(h4:r=rd:=by exact rfl):LJ E Hp ms rd Q t e H m r:=⟨x',h1,h2,h3,h4,h5⟩
def LJ.i{α:Type}{E:α→Env}{Hp:α→U}{ms:List Nat}{rd:Bool}{Q:α→Prop}{t:Tag (E,Hp,ms,rd,Q)}{e:Env}{H:U}{m:List Nat}{r:Bool}(x':α)(h1:e=E x')(h2:H=Hp x')(h3:m=ms)(h4:r=rd)(h5:Q x'):LJ E Hp ms rd Q t e H m r:=⟨x',h1,h2,h3,h4,h5⟩
section
variable{T:gy}{live:List Nat}{a:IR}{s:St}{K:gS}{α:Type}
theorem eN.k(x0:α)(E:α→Env)(Hp:α→U)(P:α→Prop)(μ:α→Nat)
  (h0:P x0) (hE:forget ((E x0).map (·.1)) s.env=E x0) (hH:s.H=Hp x0) (hm:s.marks = []) (hr:s.fW=false) (o3:(((E x0).map (·.1)).all fun k=>live.contains k)=true)
  (h:∀ x,P x→XC T a { env:=E x,H:=Hp x } (tJ s.H.length live ((E x0).map (·.1)) (LJ E Hp [] false (fun x'=>μ x'<μ x∧P x') .mk) K)):eN T live a s K .mk:=
 eN.j x0 E Hp P μ h0 hE hH o3 (by rw[hm,hr];exact h)
def eN.v(x0:α)(E:α→Env)(Hp:α→U)(P:α→Prop)(μ:α→Nat)
  (h0:P x0) (hE:forget ((E x0).map (·.1)) s.env=E x0) (hH:s.H=Hp x0) (hm:s.marks = []) (hr:s.fW=false) (o3:(((E x0).map (·.1)).all fun k=>live.contains k)=true)
  (h:∀ x,P x→Wc T (jS a) { env:=E x,H:=Hp x } (tJ s.H.length live ((E x0).map (·.1)) (LJ E Hp [] false (fun x'=>μ x'<μ x∧P x') .mk) K)):eN T live a s K .mk:=
 eN.w x0 E Hp P μ h0 hE hH o3 (by rw[hm,hr];exact h)
end
@[simp] theorem akF{α:Type}{f:α→List D}[Fl f 1](l:List α)(n:Nat):(cl f l).take n=cl f (l.take n):=by simpa using tf (f:=f) l n
@[simp] theorem akC{α:Type}{f:α→List D}[Fl f 1](l:List α)(n:Nat):(cl f l).drop n=cl f (l.drop n):=by simpa using te (f:=f) l n
@[simp] theorem amE(K:List Nat):ij 5 K=(0,true)::(1,true)::(2,true)::(3,true)::(4,true)::K.map fun v=>(v,true):=rfl
@[simp] theorem amF(K:List Nat):ij 6 K=(0,true)::(1,true)::(2,true)::(3,true)::(4,true)::(5,true)::K.map fun v=>(v,true):=rfl
@[simp] theorem amG(K:List Nat):ij 7 K=(0,true)::(1,true)::(2,true)::(3,true)::(4,true)::(5,true)::(6,true)::K.map fun v=>(v,true):=rfl
@[simp] theorem amH(K:List Nat):ij 8 K=(0,true)::(1,true)::(2,true)::(3,true)::(4,true)::(5,true)::(6,true)::(7,true)::K.map fun v=>(v,true):=rfl
@[simp] theorem amI(K:List Nat):ij 9 K=(0,true)::(1,true)::(2,true)::(3,true)::(4,true)::(5,true)::(6,true)::(7,true)::(8,true)::K.map fun v=>(v,true):=rfl
@[simp] theorem amo(K:List Nat):ij 10 K=(0,true)::(1,true)::(2,true)::(3,true)::(4,true)::(5,true)::(6,true)::(7,true)::(8,true)::(9,true)::K.map fun v=>(v,true):=rfl
@[simp] theorem amp(K:List Nat):ij 11 K=(0,true)::(1,true)::(2,true)::(3,true)::(4,true)::(5,true)::(6,true)::(7,true)::(8,true)::(9,true)::(10,true)::K.map fun v=>(v,true):=rfl
@[simp] theorem amq(K:List Nat):ij 12 K=(0,true)::(1,true)::(2,true)::(3,true)::(4,true)::(5,true)::(6,true)::(7,true)::(8,true)::(9,true)::(10,true)::(11,true)::K.map fun v=>(v,true):=rfl
@[simp] theorem amr(K:List Nat):ij 13 K=(0,true)::(1,true)::(2,true)::(3,true)::(4,true)::(5,true)::(6,true)::(7,true)::(8,true)::(9,true)::(10,true)::(11,true)::(12,true)::K.map fun v=>(v,true):=rfl
@[simp] theorem ams(K:List Nat):ij 14 K=(0,true)::(1,true)::(2,true)::(3,true)::(4,true)::(5,true)::(6,true)::(7,true)::(8,true)::(9,true)::(10,true)::(11,true)::(12,true)::(13,true)::K.map fun v=>(v,true):=rfl
@[simp] theorem aqr{α:Type}{l:List α}{n:Nat}(h:l.length=n):l.take n=l:=aC (by omega)
@[simp] theorem ap4(a b:List Pos):D.sl 5 (a.map Pos.cells++b.map Pos.cells)=e7 (a++b):=by unfold e7;rw[List.map_append]
def Ey{α:Type}(g:α→D)(Q:α→Prop)(d:D)(H:U):Prop:=Ex g Q d H
def Ey.i{α:Type}{g:α→D}{Q:α→Prop}{d:D}{H:U}(x:α)(h1:d=g x)(h2:H = [])(h3:Q x):Ey g Q d H:=⟨x,h1,h2,h3⟩
def Kv(ρ:Nat→Option Nat)(H:U)(k off:Nat):Option (TypeId×List D)→D
 | some (_,cs)=>.eW ((cs.drop off).map (eP ρ H k))
 | none=>.any
@[simp] theorem apz(H:U)(k:Nat)(ρ:Nat→Option Nat)(v g off:Nat):Dk H k ρ v g off none=Kv ρ H k off (rowAt H v g):=by unfold Dk Kv;rfl
@[simp] theorem alM(ρ:Nat→Option Nat)(H:U)(k off:Nat)(t:TypeId)(cs:List D):Kv ρ H k off (some (t,cs)) = .eW ((cs.drop off).map (eP ρ H k)):=rfl
structure GH(H:U)(v:Nat):Prop where
 lt:v<H.length
 ok:q8 H.length H
section
variable{H G:U}{v:Nat}{o o':Ob}
@[simp] theorem GH.get(h:GH H v):(H.set v o)[v]? = some o:=List.getElem?_set_self h.lt
@[simp] theorem GH.alZ(h:GH H v):(H.set v o++G)[v]? = some o:=by
 rw[ag (by rw[cd];exact h.lt)];exact h.get
@[simp high] theorem GH.cut(h:GH H v){live:List Nat}{env:Env}{r:Bool}(ho:sI H.length o=true)(he:((forget live env).all fun p=>lh H.length p.2)=true) :
  Go.AL.cut H.length live { env:=env,H:=H.set v o++G,marks:=[],fW:=r } = { env:=forget live env,H:=H.set v o,marks:=[],fW:=r }:=UU (cd ..) (aeB h.ok ho) he rfl
@[simp] theorem GH.lt_eq(h:GH H v):(v<H.length)=True:=eq_true h.lt
end
@[simp] theorem aom(n:Nat):q8 n []=True:=eq_true fun _ h=>by cases h
@[simp] theorem aol(n:Nat)(o:Ob)(r:U):q8 n (o::r)=(sI n o=true∧q8 n r):=propext ⟨fun h=>⟨h o (by simp),fun x hx=>h x (by simp[hx])⟩,fun h x hx=>by
 rcases au.1 hx with rfl|hx
 ·exact h.1
 ·exact h.2 x hx⟩
@[simp] theorem aos(n t g:Nat)(cs:List D):sI n (.row t g cs)=cs.all (lh n):=rfl
@[simp] theorem aon(n:Nat):sI n .dead=true:=rfl
@[simp] theorem ajd{n:Nat}{α:Type}{f:α→List D}{sz:Nat}[F:Fl f sz](l:List α):(cl f l).all (lh n)=true:=
 aq.2 fun d hd=>SV (lE (sh l) d hd)
section
variable{H G:U}{v k:Nat}{o:Ob}
def Rq(h:H[v]? = some o):v<H.length:=by
 rcases bh v H.length with h'|h'
 ·exact h'
 ·rw[aO h']at h;cases h
