/- Part 12 of the proof of skewer.skewerlaw15.TableZero. -/
import Derived.Test.YtnaefnajkaohgaaGreatDoorF11
set_option linter.all false
namespace Go.Proofs.YtnaefnajkaohgaaGreatDoor
open Go Go.AL Classical
set_option maxRecDepth 10000
set_option maxHeartbeats 1000000
theorem f253(g:ew)(hg:eU g)(s:eD)(hs:gZ g s)(n:Int):Wf T 253 [dG g,.agg s.cells,.i n] [] (Is (ij (l5 s (iT g s.p.side n s.cur)))):=by
 have hl:=G' (g:=g) (s:=s.p.side) (d:=n) (c:=s.cur)
 have fL:=hs.p.size
 refine Yg Bk ?_
 simp[Bk]
 refine Yc (f263 g hg.gF s.p.side n s.cur) ?_
 simp
 generalize hL:iT g s.p.side n s.cur=L at *
 have fg:∀ y∈L,0≤y∧y<g.size:=fun y hy=>G9 hg.gF (hL▸hy)
 refine eE.j ((0,[]):Int×List eD) (fun x=>[(4,.ptr 1 0 0),(7,.et 2 x.2.length 8 0 x.2.length),(8,dI L),(9,.i x.1)]) (fun x=>[.row 41 0 g.cells,.row 282 0 s.cells,.row 282 x.2.length (cl eD.cells x.2)]) (fun x=>0≤x.1∧x.1≤L.length∧x.2.length=x.1.toNat∧l5 s L=x.2++l5 s (L.drop x.1.toNat)) (fun x=>L.length-x.1.toNat) ?_ (by simp) (by first|rfl|simp) rfl ?_
 ·simp
 rintro⟨i,out⟩ ⟨h0,h1,h2,h3⟩
 dsimp only at h0 h1 h2 h3 ⊢
 simp
 (with_reducible repeat' first|refine Xk ?_<;>try simp|refine Xs ?_ ?_<;>intro h<;>(try intro h')<;>(try simp[h])<;>(try omega)|refine Xg ?_|omega)
 ·have hc:=fg _ (eI h0 ‹_›)
  rw[kI h0 ‹_›,l5]at h3
  (with_reducible repeat' first|refine Xk ?_<;>try simp|refine Xs ?_ ?_<;>intro h<;>(try intro h')<;>(try simp[h])<;>(try omega)|refine Xg ?_|omega)
  ·refine⟨i+1,out ++ [{ s with cur:=gt L i }],by simp,rfl,by simp,by rw[← mV],by omega,by omega,by omega,by simp[h2];omega,?_⟩
   rw[h3,if_pos ‹_›,show(i+1).toNat=i.toNat+1 by omega];simp
  ·rw[if_neg ‹_›]at h3
   rw[h3]
   simp[ij]
 ·rw[aZ (by omega)]at h3
  rw[h3];simp[l5]
theorem Mp{n s:Int}(_:0≤n)(hk:0≤eR n)(h:gR n≠s)(hs:0≤s∧s≤1):gR n=1-s:=by
 unfold eR gR at *
 split at hk
 ·rename_i e;rw[if_pos e]at h ⊢;omega
 ·omega
theorem f254(g:ew)(hg:eU g)(s:eD)(hs:gZ g s):Wf T 254 [dG g,.agg s.cells] [] (Is (ij (nN g s))):=by
 have fL:=hs.p.size
 have lq:=hs.cur
 have iv:=hs.p.small hg
 refine Yg Bl ?_
 simp[Bl]
 (with_reducible repeat' first|refine Xk ?_<;>try simp|refine Xs ?_ ?_<;>intro h<;>(try intro h')<;>(try simp[h])<;>(try omega)|refine Xg ?_|omega)
 refine Yc (f51 _) ?_
 simp
 have gC:=hs.p.cs _ (eI lq.1 (by omega))
 have lZ:=hg.kinds
 have gp:=hs.p.side
 (with_reducible repeat' first|refine Xk ?_<;>try simp|refine Xs ?_ ?_<;>intro h<;>(try intro h')<;>(try simp[h])<;>(try omega)|refine Xg ?_|omega)
 ·rw[nN,if_pos]
  unfold eR at *;unfold gR
  split at h<;>rename_i h5
  ·omega
  ·rw[if_neg h5];omega
 ·rw[nN,if_pos (by omega)]
 ·have hm:eR (gt s.p.cs s.cur)<g.kinds.length:=rp gC.2 lZ.1
  have GD:s.p.side=0∨s.p.side=1:=by omega
  have l0:=hs.p.h0.len
  have l1:=hs.p.h1.len
  have q0:=fX (l:=s.p.cs) (n:=s.cur) (v:=0) lq.1 (by omega)
  refine Yn (CQ s.p iv) ?_
  simp
  (with_reducible repeat' first|refine Xk ?_<;>try simp[q0]|refine Xs ?_ ?_<;>intro h<;>(try intro h')<;>(try simp[h,q0])<;>(try omega)|refine Xg ?_|omega)
  ·have hx:gR (gt s.p.cs s.cur)=1-s.p.side:=Mp gC.1 (by omega) (by assumption) gp
   have sA:=h
   rcases GD with e|e
   ·have ha:=hs.p.h0.at_ _ (by omega) (show eR (gt s.p.cs s.cur)<s.p.h0.length by omega)
    have q1:=vt (l:=s.p.h0) (n:=eR (gt s.p.cs s.cur)) (v:=gt s.p.h0 (eR (gt s.p.cs s.cur))+1) (by omega) (by omega)
    have q2:=fX (l:=s.p.h0) (n:=eR (gt s.p.cs s.cur)) (v:=gt s.p.h0 (eR (gt s.p.cs s.cur))+1) (by omega) (by omega)
    simp[e,q1,q2]
    (with_reducible repeat' first|refine Xk ?_<;>try simp|refine Xs ?_ ?_<;>intro h<;>(try intro h')<;>(try simp[h])<;>(try omega)|refine Xg ?_|omega)
    all_goals simp[nN,hx,sA,Pos.hand,Pos.jI,e,q0,q2]
    ·rw[if_neg (by omega)]
    ·rw[if_pos (by omega)]
   ·have ha:=hs.p.h1.at_ _ (by omega) (show eR (gt s.p.cs s.cur)<s.p.h1.length by omega)
    have q1:=vt (l:=s.p.h1) (n:=eR (gt s.p.cs s.cur)) (v:=gt s.p.h1 (eR (gt s.p.cs s.cur))+1) (by omega) (by omega)
    have q2:=fX (l:=s.p.h1) (n:=eR (gt s.p.cs s.cur)) (v:=gt s.p.h1 (eR (gt s.p.cs s.cur))+1) (by omega) (by omega)
    simp[e,q1,q2]
    (with_reducible repeat' first|refine Xk ?_<;>try simp|refine Xs ?_ ?_<;>intro h<;>(try intro h')<;>(try simp[h])<;>(try omega)|refine Xg ?_|omega)
    all_goals simp[nN,hx,sA,Pos.hand,Pos.jI,e,q0,q2]
    ·rw[if_neg (by omega)]
    ·rw[if_pos (by omega)]
  ·have hx:gR (gt s.p.cs s.cur)=1-s.p.side:=Mp gC.1 (by omega) (by assumption) gp
   simp[nN,hx,h,q0]
theorem f255(g:ew)(hg:eU g)(s:eD)(hs:gZ g s)(n:Int):Wf T 255 [dG g,.agg s.cells,.i n] [] (Is (ij (oy g s n))):=by
 have fL:=hs.p.size
 have lq:=hs.cur
 have iv:=hs.p.small hg
 have ht:=hg.gF.to s.p.side n s.cur
 refine Yg Bm ?_
 simp[Bm]
 refine Yc (f251 g hg.gF s.p.side n s.cur) ?_
 simp
 (with_reducible repeat' first|refine Xk ?_<;>try simp|refine Xs ?_ ?_<;>intro h<;>(try intro h')<;>(try simp[h])<;>(try omega)|refine Xg ?_|omega)
 ·rw[oy,if_pos (by simp_all)]
 ·rw[oy,if_pos (by simp_all)]
 ·have q0:=fX (l:=s.p.cs) (n:=jl g s.p.side n s.cur) (v:=gt s.p.cs s.cur) (by omega) (by omega)
  have q1:=fX (l:=pt s.p.cs (jl g s.p.side n s.cur) (gt s.p.cs s.cur)) (n:=s.cur) (v:=0) lq.1 (by omega)
  refine Yn (CQ s.p iv) ?_
  simp
  (with_reducible repeat' first|refine Xk ?_<;>try simp[q0,q1]|refine Xs ?_ ?_<;>intro h<;>(try intro h')<;>(try simp[h,q0,q1])<;>(try omega)|refine Xg ?_|omega)
  simp[oy, *]
 ·rw[oy,if_pos (by simp_all)]
end Go.Proofs.YtnaefnajkaohgaaGreatDoor
namespace Go.AL
open Go
def kZ(n:Nat):D→Bool
 | .et v _ _ _ _ | .ptr v _ _ | .omap v | .gv v=>decide (v<n)
 | d=>closed d
def js(n:Nat):D→Bool
 | .agg cs | .tup cs | .eF cs=>cs.all (kZ n)
 | .fn _ a b=>a.all (kZ n)&&b.all (kZ n)
 | d=>kZ n d
def pC(n:Nat):Ob→Bool
 | .row _ _ cs=>cs.all (js n)
 | .map _ es=>es.all fun x=>js n x.2
 | .fy _ env _=>env.all fun x=>js n x.2
 | .nM _ _=>true
 | .jD m _ _=>kZ n m
 | .jv=>true
 | .dead=>true
 | .hole=>false
def ow(n:Nat)(H:U):Prop:=∀ o∈H,pC n o=true
theorem H4{ρ:Nat→Option Nat}{H:U}{n k:Nat}(mj:∀ u,u<n→ρ u=some u){d:D}(h:kZ n d=true):eB ρ H (k+1) d=d:=by
 cases d with
 | et v g sz off len=>simp only[kZ,decide_eq_true_eq]at h;rw[Zu,mj v h,Zp]
 | ptr v g off=>simp only[kZ,decide_eq_true_eq]at h;rw[Zv,mj v h,Zq]
 | omap v=>simp only[kZ,decide_eq_true_eq]at h;rw[Zt,mj v h,Zo]
 | gv v=>
  simp only[kZ,decide_eq_true_eq]at h
  rw[eB,if_neg (by simp)]
  rw[mj v h]
 | _=>exact lQ h
theorem yP{ρ:Nat→Option Nat}{H:U}{n k:Nat}(mj:∀ u,u<n→ρ u=some u){cs:List D}(h:cs.all (kZ n)=true):cs.map (eB ρ H (k+1))=cs:=by
 conv=>rhs;rw[← aQ cs]
 exact ak fun d hd=>H4 mj (ao.1 h d hd)
theorem zy{ρ:Nat→Option Nat}{H:U}{n k:Nat}(mj:∀ u,u<n→ρ u=some u){d:D}(h:js n d=true):eB ρ H (k+2) d=d:=by
 cases d with
 | agg cs=>rw[Zs,yP mj h]
 | tup cs=>rw[Zw,yP mj h]
 | eF cs=>
  by_cases hc:closed (.eF cs)=true
  ·exact lQ hc
  ·rw[eB,if_neg hc,yP mj h]
 | fn f a b=>
  simp only[js,ah]at h
  by_cases hc:closed (.fn f a b)=true
  ·exact lQ hc
  ·rw[eB,if_neg hc,yP mj h.1,yP mj h.2]
 | _=>exact H4 mj h
theorem Zr{ρ:Nat→Option Nat}{H:U}{n:Nat}(mj:∀ u,u<n→ρ u=some u){o:Ob}(h:pC n o=true):lz ρ H o=o:=by
 have key:∀ {α:Type} (l:List (α×D)),(l.all fun x=>js n x.2)=true→(l.map fun x=>(x.1,eB ρ H 40 x.2))=l:=by
  intro α l hl
  conv=>rhs;rw[← aQ l]
  exact ak fun x hx=>by
   have:=ao.1 hl x hx
   rw[zy mj this];rfl
 cases o with
 | row t g cs=>
  simp only[lz]
  congr 1
  conv=>rhs;rw[← aQ cs]
  exact ak fun d hd=>zy mj (ao.1 h d hd)
 | map kk es=>simp only[lz];rw[key es h]
 | fy rf env st=>simp only[lz];rw[key env h]
 | nM=>rfl
 | jD m since seen=>simp only[lz];rw[H4 mj h]
 | jv=>rfl
 | dead=>rfl
 | hole=>cases h
theorem zn{n u:Nat}(h:u<n):fO (gu n []) u=some u:=by
 unfold fO gu
 rw[List.map_nil,av]
 rw[cY]
 refine⟨by simpa using h,by simp,fun j hj=>by simp;omega⟩
theorem HY{n:Nat}{H G:U}(hn:H.length=n)(h:ow n H):mP (gu n []) (H++G)=H:=by
 unfold mP
 refine bI fun i=>?_
 rw[ar]
 unfold gu
 rw[List.map_nil,av,ar]
 by_cases hi:i<n
 ·rw[bO hi]
  simp only[a8,if_true]
  rw[ag (by omega),List.getElem?_eq_getElem (by omega)]
  simp only
  congr 1
  have e:((List.range n).map fun v=>(v,true))=gu n []:=by unfold gu;simp
  rw[e]
  exact Zr (fun u hu=>zn hu) (h _ (bz _))
 ·rw[aK (by simp;omega),aK (by omega)];rfl
theorem EL{n:Nat}{d:D}(h:js n d=true):gx n d = []:=by
 cases d<;>first|rfl|(simp only[js,kZ,decide_eq_true_eq]at h;simp only[gx];rw[if_neg (by omega)])
theorem flatten_nil{α β:Type}{f:α→List β}:∀ {l:List α},(∀ a∈l,f a = [])→(l.map f).flatten = []
 | [],_=>rfl
 | a::l,h=>by rw[List.map_cons,aL,h a (by simp),flatten_nil fun b hb=>h b (by simp[hb])];rfl
theorem T8{n:Nat}{o:Ob}(h:pC n o=true):lM n o = []:=by
 cases o with
 | row t g cs=>exact flatten_nil fun d hd=>EL (ao.1 h d hd)
 | map kk es=>exact flatten_nil fun x hx=>EL (ao.1 h x hx)
 | _=>rfl
theorem Pa{n:Nat}{live:List Nat}{env:Env}{H G:U}{m:List Nat}{r:Bool}(hn:H.length=n)(hH:ow n H)(he:((forget live env).all fun p=>js n p.2)=true)(hm:(m.all fun v=>decide (v<n))=true) :
  cut n live { env:=env,H:=H++G,marks:=m,fM:=r } = { env:=forget live env,H:=H,marks:=m,fM:=r }:=by
 by_cases hg:(H++G).length≤n
 ·have:G = []:=by
   cases G with
   | nil=>rfl
   | cons a l=>simp at hg;omega
  subst this
  rw[av]
  exact Fi (by show H.length≤n;omega)
 ·unfold cut
  dsimp only
  rw[if_neg hg]
  have e1:((forget live env).map fun p=>gx n p.2).flatten = []:=flatten_nil fun p hp=>EL (ao.1 he p hp)
  have e2:(((H++G).take n).map (lM n)).flatten = []:=flatten_nil fun o ho=>by
   rw[bA (by omega),aG (by omega)]at ho
   exact T8 (hH o ho)
  have e3:m.filter (n≤·) = []:=by
   rw[c7]
   intro v hv
   have:=ao.1 hm v hv
   simp at this ⊢;omega
  rw[e1,e2,e3]
  have e4:dedup (([] ++ [] ++ []:List Nat).filter (· < (H++G).length)) = []:=rfl
  rw[e4,HY hn hH]
  congr 1
  ·conv=>rhs;rw[← aQ (forget live env)]
   exact ak fun p hp=>by
    rw[zy (fun u hu=>zn hu) (ao.1 he p hp)];rfl
  ·conv=>rhs;rw[← aQ m]
   exact ak fun v hv=>by
    have:=ao.1 hm v hv
    rw[zn (by simpa using this)];rfl
theorem XF{n v:Nat}{H:U}{o:Ob}(h:ow n H)(ho:pC n o=true):ow n (H.set v o):=fun x hx=>by
 rcases List.mem_or_eq_of_mem_set hx with hx|rfl
 ·exact h x hx
 ·exact ho
theorem wy{n:Nat}{d:D}(h:closed d=true):kZ n d=true:=by
 cases d<;>first|exact h|(cases h;done)|(simp only[closed]at h;cases h)
theorem Nz{n:Nat}{d:D}(h:closed d=true):js n d=true:=by
 cases d with
 | agg cs=>exact ao.2 fun d hd=>wy (jF (by simpa using h) d hd)
 | tup cs=>exact ao.2 fun d hd=>wy (jF (by simpa using h) d hd)
 | eF cs=>exact ao.2 fun d hd=>wy (jF (by simpa using h) d hd)
 | fn f a b=>
  simp only[E9,ah]at h
  simp only[js,ah]
  exact⟨ao.2 fun d hd=>wy (jF h.1 d hd),ao.2 fun d hd=>wy (jF h.2 d hd)⟩
 | _=>exact wy (n:=n) h
@[simp] theorem ai1{n:Nat}{d:D}(h:closed d=true):js n d=true:=Nz h
@[simp] theorem ai5(n v g sz off len:Nat):js n (.et v g sz off len)=decide (v<n):=rfl
@[simp] theorem ai6(n v g off:Nat):js n (.ptr v g off)=decide (v<n):=rfl
@[simp] theorem ai4(n v:Nat):js n (.omap v)=decide (v<n):=rfl
@[simp] theorem ai0(n:Nat)(cs:List D):js n (.agg cs)=cs.all (kZ n):=rfl
@[simp] theorem ai7(n:Nat)(cs:List D):js n (.tup cs)=cs.all (kZ n):=rfl
@[simp] theorem ai9(n v g sz off len:Nat):kZ n (.et v g sz off len)=decide (v<n):=rfl
@[simp] theorem aja(n v g off:Nat):kZ n (.ptr v g off)=decide (v<n):=rfl
@[simp] theorem ai2(n:Nat)(f:Fn)(a b:List D):js n (.fn f a b)=(a.all (kZ n)&&b.all (kZ n)):=rfl
@[simp high] theorem Ti{α:Type}[Inhabited α]{f:α→List D}{sz:Nat}[F:Fl f sz]{l:List α}{t:TypeId}{n:Int}(hz:0<sz):qt sz (n.toNat*sz) (some (t,cl f l))=if n.toNat<l.length then some (.agg (f (gt l n)))else none:=by
 have h:=T7 (f:=f) (l:=l) (t:=t) (n:=n) (P:=fun d=>d = .agg (f (gt l n))) hz
 simp only[and_true]at h
 by_cases hn:n.toNat<l.length
 ·rw[if_pos hn]
  obtain⟨d,h1,h2⟩:=h.mpr hn
  rw[h1,h2]
 ·rw[if_neg hn]
  unfold qt
  dsimp only
  rw[if_neg]
  rw[ti,← bM,dH hz]
  omega
section
variable{T:fE}{a b:IR}{s:St}{K:gh}{id n:Nat}{live:List Nat}
@[simp ↓] theorem agU:DZ T b K (.norm s)=Wc T b s K:=(rfl)
@[simp ↓] theorem agT:DZ T b K (.exit id s)=K (.exit id s):=(rfl)
@[simp ↓] theorem agV:DZ T b K (.ret s)=K (.ret s):=(rfl)
end
def LJ{α:Type}(E:α→Env)(Hp:α→U)(ms:List Nat)(rd:Bool)(Q:α→Prop)(_:Tag (E,Hp,ms,rd,Q))(e:Env)(H:U)(m:List Nat)(r:Bool):Prop:=
 ∃ x',e=E x'∧H=Hp x'∧m=ms∧r=rd∧Q x'
theorem LJ.e{α:Type}{E:α→Env}{Hp:α→U}{ms:List Nat}{rd:Bool}{Q:α→Prop}{t:Tag (E,Hp,ms,rd,Q)}{e:Env}{H:U}{m:List Nat}{r:Bool}(x':α)(h5:Q x')(h1:e=E x':=by first|rfl|simp)(h2:H=Hp x':=by first|rfl|simp)(h3:m=ms:=by exact rfl)(h4:r=rd:=by exact rfl):LJ E Hp ms rd Q t e H m r:=⟨x',h1,h2,h3,h4,h5⟩
theorem LJ.i{α:Type}{E:α→Env}{Hp:α→U}{ms:List Nat}{rd:Bool}{Q:α→Prop}{t:Tag (E,Hp,ms,rd,Q)}{e:Env}{H:U}{m:List Nat}{r:Bool}(x':α)(h1:e=E x')(h2:H=Hp x')(h3:m=ms)(h4:r=rd)(h5:Q x'):LJ E Hp ms rd Q t e H m r:=⟨x',h1,h2,h3,h4,h5⟩
section
variable{T:fE}{live:List Nat}{a:IR}{s:St}{K:gh}{α:Type}
theorem eE.k(x0:α)(E:α→Env)(Hp:α→U)(P:α→Prop)(μ:α→Nat)
  (h0:P x0) (hE:forget ((E x0).map (·.1)) s.env=E x0) (hH:s.H=Hp x0) (hm:s.marks = []) (hr:s.fM=false) (tV:(((E x0).map (·.1)).all fun k=>live.contains k)=true)
  (h:∀ x,P x→XC T a { env:=E x,H:=Hp x } (uo s.H.length live ((E x0).map (·.1)) (LJ E Hp [] false (fun x'=>μ x'<μ x∧P x') .mk) K)):eE T live a s K .mk:=
 eE.j x0 E Hp P μ h0 hE hH tV (by rw[hm,hr];exact h)
end
@[simp] theorem adX{α:Type}{f:α→List D}[Fl f 1](l:List α)(n:Nat):(cl f l).take n=cl f (l.take n):=by simpa using rY (f:=f) l n
@[simp] theorem adU{α:Type}{f:α→List D}[Fl f 1](l:List α)(n:Nat):(cl f l).drop n=cl f (l.drop n):=by simpa using rX (f:=f) l n
@[simp] theorem afN(K:List Nat):gu 5 K=(0,true)::(1,true)::(2,true)::(3,true)::(4,true)::K.map fun v=>(v,true):=rfl
@[simp] theorem afO(K:List Nat):gu 6 K=(0,true)::(1,true)::(2,true)::(3,true)::(4,true)::(5,true)::K.map fun v=>(v,true):=rfl
@[simp] theorem afP(K:List Nat):gu 7 K=(0,true)::(1,true)::(2,true)::(3,true)::(4,true)::(5,true)::(6,true)::K.map fun v=>(v,true):=rfl
@[simp] theorem afQ(K:List Nat):gu 8 K=(0,true)::(1,true)::(2,true)::(3,true)::(4,true)::(5,true)::(6,true)::(7,true)::K.map fun v=>(v,true):=rfl
@[simp] theorem afR(K:List Nat):gu 9 K=(0,true)::(1,true)::(2,true)::(3,true)::(4,true)::(5,true)::(6,true)::(7,true)::(8,true)::K.map fun v=>(v,true):=rfl
@[simp] theorem afw(K:List Nat):gu 10 K=(0,true)::(1,true)::(2,true)::(3,true)::(4,true)::(5,true)::(6,true)::(7,true)::(8,true)::(9,true)::K.map fun v=>(v,true):=rfl
@[simp] theorem afx(K:List Nat):gu 11 K=(0,true)::(1,true)::(2,true)::(3,true)::(4,true)::(5,true)::(6,true)::(7,true)::(8,true)::(9,true)::(10,true)::K.map fun v=>(v,true):=rfl
@[simp] theorem afy(K:List Nat):gu 12 K=(0,true)::(1,true)::(2,true)::(3,true)::(4,true)::(5,true)::(6,true)::(7,true)::(8,true)::(9,true)::(10,true)::(11,true)::K.map fun v=>(v,true):=rfl
@[simp] theorem afz(K:List Nat):gu 13 K=(0,true)::(1,true)::(2,true)::(3,true)::(4,true)::(5,true)::(6,true)::(7,true)::(8,true)::(9,true)::(10,true)::(11,true)::(12,true)::K.map fun v=>(v,true):=rfl
@[simp] theorem afA(K:List Nat):gu 14 K=(0,true)::(1,true)::(2,true)::(3,true)::(4,true)::(5,true)::(6,true)::(7,true)::(8,true)::(9,true)::(10,true)::(11,true)::(12,true)::(13,true)::K.map fun v=>(v,true):=rfl
@[simp] theorem afB(K:List Nat):gu 15 K=(0,true)::(1,true)::(2,true)::(3,true)::(4,true)::(5,true)::(6,true)::(7,true)::(8,true)::(9,true)::(10,true)::(11,true)::(12,true)::(13,true)::(14,true)::K.map fun v=>(v,true):=rfl
@[simp] theorem afC(K:List Nat):gu 16 K=(0,true)::(1,true)::(2,true)::(3,true)::(4,true)::(5,true)::(6,true)::(7,true)::(8,true)::(9,true)::(10,true)::(11,true)::(12,true)::(13,true)::(14,true)::(15,true)::K.map fun v=>(v,true):=rfl
@[simp] theorem afD(K:List Nat):gu 17 K=(0,true)::(1,true)::(2,true)::(3,true)::(4,true)::(5,true)::(6,true)::(7,true)::(8,true)::(9,true)::(10,true)::(11,true)::(12,true)::(13,true)::(14,true)::(15,true)::(16,true)::K.map fun v=>(v,true):=rfl
@[simp] theorem afE(K:List Nat):gu 18 K=(0,true)::(1,true)::(2,true)::(3,true)::(4,true)::(5,true)::(6,true)::(7,true)::(8,true)::(9,true)::(10,true)::(11,true)::(12,true)::(13,true)::(14,true)::(15,true)::(16,true)::(17,true)::K.map fun v=>(v,true):=rfl
@[simp] theorem afF(K:List Nat):gu 19 K=(0,true)::(1,true)::(2,true)::(3,true)::(4,true)::(5,true)::(6,true)::(7,true)::(8,true)::(9,true)::(10,true)::(11,true)::(12,true)::(13,true)::(14,true)::(15,true)::(16,true)::(17,true)::(18,true)::K.map fun v=>(v,true):=rfl
@[simp] theorem afH(K:List Nat):gu 20 K=(0,true)::(1,true)::(2,true)::(3,true)::(4,true)::(5,true)::(6,true)::(7,true)::(8,true)::(9,true)::(10,true)::(11,true)::(12,true)::(13,true)::(14,true)::(15,true)::(16,true)::(17,true)::(18,true)::(19,true)::K.map fun v=>(v,true):=rfl
@[simp] theorem afI(K:List Nat):gu 21 K=(0,true)::(1,true)::(2,true)::(3,true)::(4,true)::(5,true)::(6,true)::(7,true)::(8,true)::(9,true)::(10,true)::(11,true)::(12,true)::(13,true)::(14,true)::(15,true)::(16,true)::(17,true)::(18,true)::(19,true)::(20,true)::K.map fun v=>(v,true):=rfl
@[simp] theorem afJ(K:List Nat):gu 22 K=(0,true)::(1,true)::(2,true)::(3,true)::(4,true)::(5,true)::(6,true)::(7,true)::(8,true)::(9,true)::(10,true)::(11,true)::(12,true)::(13,true)::(14,true)::(15,true)::(16,true)::(17,true)::(18,true)::(19,true)::(20,true)::(21,true)::K.map fun v=>(v,true):=rfl
@[simp] theorem afK(K:List Nat):gu 23 K=(0,true)::(1,true)::(2,true)::(3,true)::(4,true)::(5,true)::(6,true)::(7,true)::(8,true)::(9,true)::(10,true)::(11,true)::(12,true)::(13,true)::(14,true)::(15,true)::(16,true)::(17,true)::(18,true)::(19,true)::(20,true)::(21,true)::(22,true)::K.map fun v=>(v,true):=rfl
@[simp] theorem ajA{α:Type}{l:List α}{n:Nat}(h:l.length=n):l.take n=l:=aG (by omega)
@[simp] theorem ajd(a b:List Pos):D.sl 5 (a.map Pos.cells++b.map Pos.cells)=fe (a++b):=by unfold fe;rw[List.map_append]
def Ey{α:Type}(g:α→D)(Q:α→Prop)(d:D)(H:U):Prop:=Ex g Q d H
theorem Ey.i{α:Type}{g:α→D}{Q:α→Prop}{d:D}{H:U}(x:α)(h1:d=g x)(h2:H = [])(h3:Q x):Ey g Q d H:=⟨x,h1,h2,h3⟩
def FM(ρ:Nat→Option Nat)(H:U)(k off:Nat):Option (TypeId×List D)→D
 | some (_,cs)=>.eF ((cs.drop off).map (eB ρ H k))
 | none=>.any
@[simp] theorem aiK(H:U)(k:Nat)(ρ:Nat→Option Nat)(v g off:Nat):zx H k ρ v g off none=FM ρ H k off (rowAt H v g):=by unfold zx FM;rfl
@[simp] theorem aeX(ρ:Nat→Option Nat)(H:U)(k off:Nat)(t:TypeId)(cs:List D):FM ρ H k off (some (t,cs)) = .eF ((cs.drop off).map (eB ρ H k)):=rfl
structure GH(H:U)(v:Nat):Prop where
 lt:v<H.length
 ok:ow H.length H
section
variable{H G:U}{v:Nat}{o o':Ob}
@[simp] theorem GH.get(h:GH H v):(H.set v o)[v]? = some o:=List.getElem?_set_self h.lt
@[simp] theorem GH.afa(h:GH H v):(H.set v o++G)[v]? = some o:=by
 rw[ag (by rw[bV];exact h.lt)];exact h.get
@[simp high] theorem GH.cut(h:GH H v){live:List Nat}{env:Env}{r:Bool}(ho:pC H.length o=true)(he:((forget live env).all fun p=>js H.length p.2)=true) :
  Go.AL.cut H.length live { env:=env,H:=H.set v o++G,marks:=[],fM:=r } = { env:=forget live env,H:=H.set v o,marks:=[],fM:=r }:=Pa (bV ..) (XF h.ok ho) he rfl
@[simp] theorem GH.lt_eq(h:GH H v):(v<H.length)=True:=eq_true h.lt
end
@[simp] theorem ahv(n:Nat):ow n []=True:=eq_true fun _ h=>by cases h
@[simp] theorem ahu(n:Nat)(o:Ob)(r:U):ow n (o::r)=(pC n o=true∧ow n r):=propext ⟨fun h=>⟨h o (by simp),fun x hx=>h x (by simp[hx])⟩,fun h x hx=>by
 rcases ax.1 hx with rfl|hx
 ·exact h.1
 ·exact h.2 x hx⟩
@[simp] theorem ahA(n t g:Nat)(cs:List D):pC n (.row t g cs)=cs.all (js n):=rfl
@[simp] theorem ahw(n:Nat):pC n .dead=true:=rfl
@[simp] theorem ahy(n:Nat)(kk:KK)(es:List (Value×D)):pC n (.map kk es)=es.all fun x=>js n x.2:=rfl
@[simp] theorem acu{n:Nat}{α:Type}{f:α→List D}{sz:Nat}[F:Fl f sz](l:List α):(cl f l).all (js n)=true:=
 ao.2 fun d hd=>Nz (jF (pX l) d hd)
section
variable{H G:U}{v k:Nat}{o:Ob}
theorem Ml(h:H[v]? = some o):v<H.length:=by
 rcases aW v H.length with h'|h'
 ·exact h'
 ·rw[aK h']at h;cases h
end
end Go.AL
namespace Go.Proofs.YtnaefnajkaohgaaGreatDoor
open Go Go.AL Classical
set_option maxRecDepth 10000
set_option maxHeartbeats 1000000
theorem TJ{n:Int}{k:Nat}(h0:0≤n)(h1:n≤2*k)(hk:k≤2):eR n<0↔n=0:=by
 unfold eR;split<;>omega
theorem TK{n s:Int}(h:0≤eR n)(hs:0≤s∧s≤1):gR n=1-s↔¬ gR n=s:=by
 unfold eR at h
 unfold gR
 split at h
 ·rename_i e;rw[if_pos e];omega
 ·omega
theorem Hg{n s:Int}(h:¬ 0≤eR n)(hs:0≤s∧s≤1):¬ gR n=1-s∧¬ gR n=s:=by
 unfold eR at h
 unfold gR
 split at h
 ·omega
 ·rename_i e;rw[if_neg e];omega
theorem f228(g:ew)(hg:eU g)(s:eD)(hs:gZ g s)(x:eG)(hx:w9 g x):Wf T 228 [dG g,.agg s.cells,.agg [.i x.1,.i x.2]] [] (Is (ij (fZ g s x))):=by
 have fL:=hs.p.size
 have lq:=hs.cur
 have iv:=hs.p.small hg
 have ht:=hg.gF.to s.p.side x.2 s.cur
 have gC:=hs.p.cs _ (eI lq.1 (by omega))
 have gp:=hs.p.side
 have hk:=TJ gC.1 gC.2 hg.kinds.2
 have hr:=hs.p.eQ
 have oM:=hg.eQ
 have jH:=hx.ok
 refine Yg A' ?_
 simp[A']
 (with_reducible repeat' first|refine Xk ?_<;>try simp|refine Xs ?_ ?_<;>intro h<;>(try intro h')<;>(try simp[h])<;>(try omega)|refine Xg ?_|omega)
 refine Yc (f51 _) ?_
 simp
 (with_reducible repeat' first|refine Xk ?_<;>try simp|refine Xs ?_ ?_<;>intro h<;>(try intro h')<;>(try simp[h])<;>(try omega)|refine Xg ?_|omega)
 ·refine Yc (f251 g hg.gF s.p.side x.2 s.cur) ?_
  simp
  refine Yc (f252 { s with cur:=jl g s.p.side x.2 s.cur } _) ?_
  simp
  simp[fZ,h]
 ·refine Yc (f253 g hg s hs x.2) ?_
  simp
  simp[fZ,h]
 ·refine Yc (f252 s _) ?_
  simp
  simp[fZ,h,hk]
 ·refine Yc (f252 s _) ?_
  simp
  have h1:=TK (by assumption) gp
  simp[fZ, *]
 ·refine Yc (f252 s _) ?_
  simp
  have h1:=Hg (by assumption) gp
  simp[fZ, *]
 ·refine Yc (f252 s _) ?_
  simp
  simp[fZ, *]
 ·refine Yc (f252 s _) ?_
  simp
  have h1:=Hg (by assumption) gp
  simp[fZ, *]
 ·refine Yc (f254 g hg s hs) ?_
  simp
  simp[fZ, *]
 ·refine Yc (f255 g hg s hs x.2) ?_
  simp
  simp[fZ, *]
 ·simp[fZ, *]
 ·refine Yt (f252 s _) ?_
  simp
  have h2:=wh oM.1 (by omega)
  have h3:=Ni (r:=s.p.eQ) (n:=x.2) hr.1 (by omega) (by omega) (by omega)
  simp[fZ,h3, *]
 ·have h2:=wh oM.1 (by omega)
  have h3:=Nj (r:=s.p.eQ) (n:=x.2) hr.1 (by omega) (by omega) (by omega)
  simp[fZ,h3, *]
def jm(a:List eD):List eD→List eD
 | []=>a
 | x::r=>jm (if x∈a then a else a ++ [x]) r
theorem xb:∀ {b a:List eD} {x:eD},x∈jm a b↔x∈a∨x∈b
 | [],a,x=>by simp[jm]
 | y::r,a,x=>by
  unfold jm
  rw[xb]
  split<;>simp
  ·constructor
   ·rintro(h|h)<;>simp[h]
   ·rintro(h|rfl|h)<;>simp[*]
  ·constructor
   ·rintro((h|h)|h)<;>simp[h]
   ·rintro(h|rfl|h)<;>simp[*]
theorem xa:∀ {b a:List eD},(jm a b).length≤a.length+b.length
 | [],a=>by simp[jm]
 | y::r,a=>by
  unfold jm
  refine Nat.le_trans xa ?_
  split<;>simp<;>omega
theorem Zm{H:U}{v:Nat}{o:Ob}(h:H[v]? = some o):H=H.set v o:=by
 refine bI fun i=>?_
 rw[bH]
 split
 ·rename_i e;subst e;rw[if_pos (Ml h),h]
 ·rfl
theorem GH.of{H:U}{v:Nat}{o:Ob}(hv:H[v]? = some o)(hH:ow H.length H):GH H v:=⟨Ml hv,hH⟩
theorem f227(v gen:Nat)(a b:List eD)(H:U)(hv:H[v]? = some (.row 282 gen (cl eD.cells a)))(hH:ow H.length H)(ha:∀ s∈a,Small s.p)(hb:∀ s∈b,Small s.p)(hl:a.length+b.length<2 ^ 39):Wf T 227 [.et v gen 8 0 a.length,ij b] H (fun d H'=>∃ CZ,d = .et v CZ 8 0 (jm a b).length∧H'=H.set v (.row 282 CZ (cl eD.cells (jm a b)))):=by
 have hg:=GH.of hv hH
 have q5:=hg.lt
 refine Yg A9 ?_
 simp[A9]
 refine eE.j ((0,gen,a):Int×Nat×List eD) (fun x=>[(0,.et v x.2.1 8 0 x.2.2.length),(1,ij b),(5,.i x.1)]) (fun x=>H.set v (.row 282 x.2.1 (cl eD.cells x.2.2))) (fun x=>0≤x.1∧x.1≤b.length∧x.2.2.length≤a.length+x.1.toNat∧(∀ s∈x.2.2,Small s.p)∧jm x.2.2 (b.drop x.1.toNat)=jm a b) (fun x=>b.length-x.1.toNat) ?_ (by simp) (Zm hv) rfl ?_
 ·simp;exact ha
 rintro⟨i,gn,l⟩ ⟨h0,h1,h2,h3,h4⟩
 dsimp only at h0 h1 h2 h3 h4 ⊢
 simp
 (with_reducible repeat' first|refine Xk ?_<;>try simp|refine Xs ?_ ?_<;>intro h<;>(try intro h')<;>(try simp[h])<;>(try omega)|refine Xg ?_|omega)
 ·refine eE.j ((0,false):Int×Bool) (fun x=>[(0,.et v gn 8 0 l.length),(1,ij b),(5,.i i),(6,.b x.2),(7,.i x.1)]) (fun x=>H.set v (.row 282 gn (cl eD.cells l))) (fun x=>0≤x.1∧x.1≤l.length∧x.2=decide (gt b i∈l.take x.1.toNat)) (fun x=>l.length-x.1.toNat) ?_ (by simp) rfl rfl ?_
  ·simp
  rintro⟨k,found⟩ ⟨g0,g1,g2⟩
  dsimp only at g0 g1 g2 ⊢
  simp[hg]
  (with_reducible repeat' first|refine Xk ?_<;>try simp[hg]|refine Xs ?_ ?_<;>intro h<;>(try intro h')<;>(try simp[h,hg])<;>(try omega)|refine Xg ?_|omega)
  ·rw[gg g0 (by assumption)];simp_all
  ·refine Yt (f250 _ _ (h3 _ (eI g0 (by assumption))) (hb _ (eI h0 (by assumption)))) ?_
   simp
   simp only[h,cond_false]
   refine⟨by omega,by omega,k+1,?_⟩
   rw[gg g0 (by assumption)]
   by_cases e:gt l k=gt b i
   ·right;simp[e];omega
   ·left;simp_all
    exact⟨by omega,by omega,by omega,fun e'=>e e'.symm⟩
  ·refine⟨i+1,l,rfl,rfl,rfl,by omega,by omega,by omega,by omega,h3,?_⟩
   rw[← h4,kI h0 (by assumption),jm,show(i+1).toNat=i.toNat+1 by omega]
   rw[if_pos]
   rw[g2,iD (by omega)]at h
   simpa using h
  ·refine⟨i+1,l ++ [gt b i],by simp,rfl,by simp,by omega,by omega,by omega,by simp;omega,?_,?_⟩
   ·intro s hs
    simp at hs
    rcases hs with hs|rfl
    ·exact h3 s hs
    ·exact hb _ (eI h0 (by assumption))
   ·rw[← h4,kI h0 (by assumption),jm,show(i+1).toNat=i.toNat+1 by omega]
    rw[if_neg]
    rw[g2,iD (by omega)]at h
    simpa using h
 ·rw[aZ (by omega)]at h4
  have e:jm l []=l:=rfl
  rw[e]at h4
  rw[← h4]
  exact⟨rfl,rfl⟩
