/- Part 12 of TableHurry. -/
import Derived.Test.YtnaefnajkaohgaaGreatDoorG11
set_option linter.all false
namespace Go.Proofs.YtnaefnajkaohgaaGreatDoor
open Go Go.AL Classical
set_option maxRecDepth 10000
set_option maxHeartbeats 1000000
theorem f253(g:ey)(hg:eW g)(s:eE)(hs:ic g s)(n:Int):Wf T 253 [dG g,.agg s.cells,.i n] [] (Is (iq (me s (iW g s.p.side n s.cur)))):=by
 have hl:=Ho (g:=g) (s:=s.p.side) (d:=n) (c:=s.cur)
 have fO:=hs.p.size
 refine Yg Bt ?_
 simp[Bt]
 refine Yc (f263 g hg.gH s.p.side n s.cur) ?_
 simp
 generalize hL:iW g s.p.side n s.cur=L at *
 have ff:∀ y∈L,0≤y∧y<g.size:=fun y hy=>Hm hg.gH (hL▸hy)
 refine eF.j ((0,[]):Int×List eE) (fun x=>[(4,.ptr 1 0 0),(7,.eu 2 x.2.length 8 0 x.2.length),(8,dI L),(9,.i x.1)]) (fun x=>[.row 41 0 g.cells,.row 282 0 s.cells,.row 282 x.2.length (cl eE.cells x.2)]) (fun x=>0≤x.1∧x.1≤L.length∧x.2.length=x.1.toNat∧me s L=x.2++me s (L.drop x.1.toNat)) (fun x=>L.length-x.1.toNat) ?_ (by simp) (by first|rfl|simp) rfl ?_
 ·simp
 rintro⟨i,out⟩ ⟨h0,h1,h2,h3⟩
 dsimp only at h0 h1 h2 h3 ⊢
 simp
 (with_reducible repeat' first|refine Xk ?_<;>try simp|refine Xs ?_ ?_<;>intro h<;>(try intro h')<;>(try simp[h])<;>(try omega)|refine Xg ?_|omega)
 ·have hc:=ff _ (eH h0 ‹_›)
  rw[kP h0 ‹_›,me]at h3
  (with_reducible repeat' first|refine Xk ?_<;>try simp|refine Xs ?_ ?_<;>intro h<;>(try intro h')<;>(try simp[h])<;>(try omega)|refine Xg ?_|omega)
  ·refine⟨i+1,out ++ [{ s with cur:=gt L i }],by simp,rfl,by simp,by rw[← nc],by omega,by omega,by omega,by simp[h2];omega,?_⟩
   rw[h3,if_pos ‹_›,show(i+1).toNat=i.toNat+1 by omega];simp
  ·rw[if_neg ‹_›]at h3
   rw[h3]
   simp[iq]
 ·rw[aZ (by omega)]at h3
  rw[h3];simp[me]
theorem MK{n s:Int}(_:0≤n)(hk:0≤eS n)(h:gV n≠s)(hs:0≤s∧s≤1):gV n=1-s:=by
 unfold eS gV at *
 split at hk
 ·rename_i e;rw[if_pos e]at h ⊢;omega
 ·omega
theorem f254(g:ey)(hg:eW g)(s:eE)(hs:ic g s):Wf T 254 [dG g,.agg s.cells] [] (Is (iq (nS g s))):=by
 have fO:=hs.p.size
 have lA:=hs.cur
 have iz:=hs.p.small hg
 refine Yg Bu ?_
 simp[Bu]
 (with_reducible repeat' first|refine Xk ?_<;>try simp|refine Xs ?_ ?_<;>intro h<;>(try intro h')<;>(try simp[h])<;>(try omega)|refine Xg ?_|omega)
 refine Yc (f51 _) ?_
 simp
 have gA:=hs.p.cs _ (eH lA.1 (by omega))
 have ma:=hg.kinds
 have gv:=hs.p.side
 (with_reducible repeat' first|refine Xk ?_<;>try simp|refine Xs ?_ ?_<;>intro h<;>(try intro h')<;>(try simp[h])<;>(try omega)|refine Xg ?_|omega)
 ·rw[nS,if_pos]
  unfold eS at *;unfold gV
  split at h<;>rename_i h5
  ·omega
  ·rw[if_neg h5];omega
 ·rw[nS,if_pos (by omega)]
 ·have hm:eS (gt s.p.cs s.cur)<g.kinds.length:=rH gA.2 ma.1
  have GX:s.p.side=0∨s.p.side=1:=by omega
  have l0:=hs.p.h0.len
  have l1:=hs.p.h1.len
  have q0:=ga (l:=s.p.cs) (n:=s.cur) (v:=0) lA.1 (by omega)
  refine Yn (C1 s.p iz) ?_
  simp
  (with_reducible repeat' first|refine Xk ?_<;>try simp[q0]|refine Xs ?_ ?_<;>intro h<;>(try intro h')<;>(try simp[h,q0])<;>(try omega)|refine Xg ?_|omega)
  ·have hx:gV (gt s.p.cs s.cur)=1-s.p.side:=MK gA.1 (by omega) (by assumption) gv
   have sM:=h
   rcases GX with e|e
   ·have ha:=hs.p.h0.at_ _ (by omega) (show eS (gt s.p.cs s.cur)<s.p.h0.length by omega)
    have q1:=vH (l:=s.p.h0) (n:=eS (gt s.p.cs s.cur)) (v:=gt s.p.h0 (eS (gt s.p.cs s.cur))+1) (by omega) (by omega)
    have q2:=ga (l:=s.p.h0) (n:=eS (gt s.p.cs s.cur)) (v:=gt s.p.h0 (eS (gt s.p.cs s.cur))+1) (by omega) (by omega)
    simp[e,q1,q2]
    (with_reducible repeat' first|refine Xk ?_<;>try simp|refine Xs ?_ ?_<;>intro h<;>(try intro h')<;>(try simp[h])<;>(try omega)|refine Xg ?_|omega)
    all_goals simp[nS,hx,sM,Pos.hand,Pos.jP,e,q0,q2]
    ·rw[if_neg (by omega)]
    ·rw[if_pos (by omega)]
   ·have ha:=hs.p.h1.at_ _ (by omega) (show eS (gt s.p.cs s.cur)<s.p.h1.length by omega)
    have q1:=vH (l:=s.p.h1) (n:=eS (gt s.p.cs s.cur)) (v:=gt s.p.h1 (eS (gt s.p.cs s.cur))+1) (by omega) (by omega)
    have q2:=ga (l:=s.p.h1) (n:=eS (gt s.p.cs s.cur)) (v:=gt s.p.h1 (eS (gt s.p.cs s.cur))+1) (by omega) (by omega)
    simp[e,q1,q2]
    (with_reducible repeat' first|refine Xk ?_<;>try simp|refine Xs ?_ ?_<;>intro h<;>(try intro h')<;>(try simp[h])<;>(try omega)|refine Xg ?_|omega)
    all_goals simp[nS,hx,sM,Pos.hand,Pos.jP,e,q0,q2]
    ·rw[if_neg (by omega)]
    ·rw[if_pos (by omega)]
  ·have hx:gV (gt s.p.cs s.cur)=1-s.p.side:=MK gA.1 (by omega) (by assumption) gv
   simp[nS,hx,h,q0]
theorem f255(g:ey)(hg:eW g)(s:eE)(hs:ic g s)(n:Int):Wf T 255 [dG g,.agg s.cells,.i n] [] (Is (iq (oI g s n))):=by
 have fO:=hs.p.size
 have lA:=hs.cur
 have iz:=hs.p.small hg
 have ht:=hg.gH.to s.p.side n s.cur
 refine Yg Bv ?_
 simp[Bv]
 refine Yc (f251 g hg.gH s.p.side n s.cur) ?_
 simp
 (with_reducible repeat' first|refine Xk ?_<;>try simp|refine Xs ?_ ?_<;>intro h<;>(try intro h')<;>(try simp[h])<;>(try omega)|refine Xg ?_|omega)
 ·rw[oI,if_pos (by simp_all)]
 ·rw[oI,if_pos (by simp_all)]
 ·have q0:=ga (l:=s.p.cs) (n:=jq g s.p.side n s.cur) (v:=gt s.p.cs s.cur) (by omega) (by omega)
  have q1:=ga (l:=pt s.p.cs (jq g s.p.side n s.cur) (gt s.p.cs s.cur)) (n:=s.cur) (v:=0) lA.1 (by omega)
  refine Yn (C1 s.p iz) ?_
  simp
  (with_reducible repeat' first|refine Xk ?_<;>try simp[q0,q1]|refine Xs ?_ ?_<;>intro h<;>(try intro h')<;>(try simp[h,q0,q1])<;>(try omega)|refine Xg ?_|omega)
  simp[oI, *]
 ·rw[oI,if_pos (by simp_all)]
end Go.Proofs.YtnaefnajkaohgaaGreatDoor
namespace Go.AL
open Go
def lh(n:Nat):D→Bool
 | .eu v _ _ _ _ | .ptr v _ _ | .fC v | .gy v=>decide (v<n)
 | d=>closed d
def jx(n:Nat):D→Bool
 | .agg cs | .tup cs | .eG cs=>cs.all (lh n)
 | .fn _ a b=>a.all (lh n)&&b.all (lh n)
 | d=>lh n d
def pK(n:Nat):Ob→Bool
 | .row _ _ cs=>cs.all (jx n)
 | .map _ es=>es.all fun x=>jx n x.2
 | .fE _ env _=>env.all fun x=>jx n x.2
 | .nR _ _=>true
 | .jK m _ _=>lh n m
 | .jA=>true
 | .dead=>true
 | .jn=>false
def oG(n:Nat)(H:et):Prop:=∀ o∈H,pK n o=true
theorem Io{ρ:Nat→Option Nat}{H:et}{n k:Nat}(mq:∀ u,u<n→ρ u=some u){d:D}(h:lh n d=true):eC ρ H (k+1) d=d:=by
 cases d with
 | eu v g sz off len=>simp only[lh,decide_eq_true_eq]at h;rw[ZO,mq v h,ZJ]
 | ptr v g off=>simp only[lh,decide_eq_true_eq]at h;rw[ZP,mq v h,ZK]
 | fC v=>simp only[lh,decide_eq_true_eq]at h;rw[ZN,mq v h,ZH]
 | gy v=>
  simp only[lh,decide_eq_true_eq]at h
  rw[eC,if_neg (by simp)]
  rw[mq v h]
 | _=>exact lY h
theorem yZ{ρ:Nat→Option Nat}{H:et}{n k:Nat}(mq:∀ u,u<n→ρ u=some u){cs:List D}(h:cs.all (lh n)=true):cs.map (eC ρ H (k+1))=cs:=by
 conv=>rhs;rw[← aQ cs]
 exact ak fun d hd=>Io mq (ao.1 h d hd)
theorem zI{ρ:Nat→Option Nat}{H:et}{n k:Nat}(mq:∀ u,u<n→ρ u=some u){d:D}(h:jx n d=true):eC ρ H (k+2) d=d:=by
 cases d with
 | agg cs=>rw[ZM,yZ mq h]
 | tup cs=>rw[ZQ,yZ mq h]
 | eG cs=>
  by_cases hc:closed (.eG cs)=true
  ·exact lY hc
  ·rw[eC,if_neg hc,yZ mq h]
 | fn f a b=>
  simp only[jx,ah]at h
  by_cases hc:closed (.fn f a b)=true
  ·exact lY hc
  ·rw[eC,if_neg hc,yZ mq h.1,yZ mq h.2]
 | _=>exact Io mq h
theorem ZL{ρ:Nat→Option Nat}{H:et}{n:Nat}(mq:∀ u,u<n→ρ u=some u){o:Ob}(h:pK n o=true):lF ρ H o=o:=by
 have key:∀ {α:Type} (l:List (α×D)),(l.all fun x=>jx n x.2)=true→(l.map fun x=>(x.1,eC ρ H 40 x.2))=l:=by
  intro α l hl
  conv=>rhs;rw[← aQ l]
  exact ak fun x hx=>by
   have:=ao.1 hl x hx
   rw[zI mq this];rfl
 cases o with
 | row t g cs=>
  simp only[lF]
  congr 1
  conv=>rhs;rw[← aQ cs]
  exact ak fun d hd=>zI mq (ao.1 h d hd)
 | map kk es=>simp only[lF];rw[key es h]
 | fE rf env st=>simp only[lF];rw[key env h]
 | nR=>rfl
 | jK m since seen=>simp only[lF];rw[Io mq h]
 | jA=>rfl
 | dead=>rfl
 | jn=>cases h
theorem zz{n u:Nat}(h:u<n):fW (gx n []) u=some u:=by
 unfold fW gx
 rw[List.map_nil,av]
 rw[cY]
 refine⟨by simpa using h,by simp,fun j hj=>by simp;omega⟩
theorem Ik{n:Nat}{H G:et}(hn:H.length=n)(h:oG n H):mT (gx n []) (H++G)=H:=by
 unfold mT
 refine bI fun i=>?_
 rw[ar]
 unfold gx
 rw[List.map_nil,av,ar]
 by_cases hi:i<n
 ·rw[bO hi]
  simp only[a8,if_true]
  rw[ag (by omega),List.getElem?_eq_getElem (by omega)]
  simp only
  congr 1
  have e:((List.range n).map fun v=>(v,true))=gx n []:=by unfold gx;simp
  rw[e]
  exact ZL (fun u hu=>zz hu) (h _ (bz _))
 ·rw[aK (by simp;omega),aK (by omega)];rfl
theorem EX{n:Nat}{d:D}(h:jx n d=true):gD n d = []:=by
 cases d<;>first|rfl|(simp only[jx,lh,decide_eq_true_eq]at h;simp only[gD];rw[if_neg (by omega)])
theorem flatten_nil{α β:Type}{f:α→List β}:∀ {l:List α},(∀ a∈l,f a = [])→(l.map f).flatten = []
 | [],_=>rfl
 | a::l,h=>by rw[List.map_cons,aL,h a (by simp),flatten_nil fun b hb=>h b (by simp[hb])];rfl
theorem Up{n:Nat}{o:Ob}(h:pK n o=true):lU n o = []:=by
 cases o with
 | row t g cs=>exact flatten_nil fun d hd=>EX (ao.1 h d hd)
 | map kk es=>exact flatten_nil fun x hx=>EX (ao.1 h x hx)
 | _=>rfl
theorem Px{n:Nat}{live:List Nat}{env:Env}{H G:et}{m:List Nat}{r:Bool}(hn:H.length=n)(hH:oG n H)(he:((forget live env).all fun p=>jx n p.2)=true)(hm:(m.all fun v=>decide (v<n))=true) :
  cut n live { env:=env,H:=H++G,marks:=m,fV:=r } = { env:=forget live env,H:=H,marks:=m,fV:=r }:=by
 by_cases hg:(H++G).length≤n
 ·have:G = []:=by
   cases G with
   | nil=>rfl
   | cons a l=>simp at hg;omega
  subst this
  rw[av]
  exact Fy (by show H.length≤n;omega)
 ·unfold cut
  dsimp only
  rw[if_neg hg]
  have e1:((forget live env).map fun p=>gD n p.2).flatten = []:=flatten_nil fun p hp=>EX (ao.1 he p hp)
  have e2:(((H++G).take n).map (lU n)).flatten = []:=flatten_nil fun o ho=>by
   rw[bA (by omega),aG (by omega)]at ho
   exact Up (hH o ho)
  have e3:m.filter (n≤·) = []:=by
   rw[c7]
   intro v hv
   have:=ao.1 hm v hv
   simp at this ⊢;omega
  rw[e1,e2,e3]
  have e4:dedup (([] ++ [] ++ []:List Nat).filter (· < (H++G).length)) = []:=rfl
  rw[e4,Ik hn hH]
  congr 1
  ·conv=>rhs;rw[← aQ (forget live env)]
   exact ak fun p hp=>by
    rw[zI (fun u hu=>zz hu) (ao.1 he p hp)];rfl
  ·conv=>rhs;rw[← aQ m]
   exact ak fun v hv=>by
    have:=ao.1 hm v hv
    rw[zz (by simpa using this)];rfl
theorem X'{n v:Nat}{H:et}{o:Ob}(h:oG n H)(ho:pK n o=true):oG n (H.set v o):=fun x hx=>by
 rcases List.mem_or_eq_of_mem_set hx with hx|rfl
 ·exact h x hx
 ·exact ho
theorem wK{n:Nat}{d:D}(h:closed d=true):lh n d=true:=by
 cases d<;>first|exact h|(cases h;done)|(simp only[closed]at h;cases h)
theorem NU{n:Nat}{d:D}(h:closed d=true):jx n d=true:=by
 cases d with
 | agg cs=>exact ao.2 fun d hd=>wK (jM (by simpa using h) d hd)
 | tup cs=>exact ao.2 fun d hd=>wK (jM (by simpa using h) d hd)
 | eG cs=>exact ao.2 fun d hd=>wK (jM (by simpa using h) d hd)
 | fn f a b=>
  simp only[Fk,ah]at h
  simp only[jx,ah]
  exact⟨ao.2 fun d hd=>wK (jM h.1 d hd),ao.2 fun d hd=>wK (jM h.2 d hd)⟩
 | _=>exact wK (n:=n) h
@[simp] theorem ajh{n:Nat}{d:D}(h:closed d=true):jx n d=true:=NU h
@[simp] theorem ajl(n v g sz off len:Nat):jx n (.eu v g sz off len)=decide (v<n):=rfl
@[simp] theorem ajm(n v g off:Nat):jx n (.ptr v g off)=decide (v<n):=rfl
@[simp] theorem ajk(n v:Nat):jx n (.fC v)=decide (v<n):=rfl
@[simp] theorem ajg(n:Nat)(cs:List D):jx n (.agg cs)=cs.all (lh n):=rfl
@[simp] theorem ajn(n:Nat)(cs:List D):jx n (.tup cs)=cs.all (lh n):=rfl
@[simp] theorem ajp(n v g sz off len:Nat):lh n (.eu v g sz off len)=decide (v<n):=rfl
@[simp] theorem ajq(n v g off:Nat):lh n (.ptr v g off)=decide (v<n):=rfl
@[simp] theorem aji(n:Nat)(f:Fn)(a b:List D):jx n (.fn f a b)=(a.all (lh n)&&b.all (lh n)):=rfl
@[simp high] theorem TE{α:Type}[Inhabited α]{f:α→List D}{sz:Nat}[F:Fl f sz]{l:List α}{t:TypeId}{n:Int}(hz:0<sz):qB sz (n.toNat*sz) (some (t,cl f l))=if n.toNat<l.length then some (.agg (f (gt l n)))else none:=by
 have h:=Uo (f:=f) (l:=l) (t:=t) (n:=n) (P:=fun d=>d = .agg (f (gt l n))) hz
 simp only[and_true]at h
 by_cases hn:n.toNat<l.length
 ·rw[if_pos hn]
  obtain⟨d,h1,h2⟩:=h.mpr hn
  rw[h1,h2]
 ·rw[if_neg hn]
  unfold qB
  dsimp only
  rw[if_neg]
  rw[tD,← bM,dH hz]
  omega
section
variable{T:fH}{a b:IR}{s:St}{K:gp}{id n:Nat}{live:List Nat}
@[simp ↓] theorem ahc:D' T b K (.norm s)=Wc T b s K:=(rfl)
@[simp ↓] theorem ahb:D' T b K (.exit id s)=K (.exit id s):=(rfl)
@[simp ↓] theorem ahd:D' T b K (.ret s)=K (.ret s):=(rfl)
end
def LJ{α:Type}(E:α→Env)(Hp:α→et)(ms:List Nat)(rd:Bool)(Q:α→Prop)(_:Tag (E,Hp,ms,rd,Q))(e:Env)(H:et)(m:List Nat)(r:Bool):Prop:=
 ∃ x',e=E x'∧H=Hp x'∧m=ms∧r=rd∧Q x'
theorem LJ.e{α:Type}{E:α→Env}{Hp:α→et}{ms:List Nat}{rd:Bool}{Q:α→Prop}{t:Tag (E,Hp,ms,rd,Q)}{e:Env}{H:et}{m:List Nat}{r:Bool}(x':α)(h5:Q x')(h1:e=E x':=by first|rfl|simp)(h2:H=Hp x':=by first|rfl|simp)(h3:m=ms:=by exact rfl)(h4:r=rd:=by exact rfl):LJ E Hp ms rd Q t e H m r:=⟨x',h1,h2,h3,h4,h5⟩
theorem LJ.i{α:Type}{E:α→Env}{Hp:α→et}{ms:List Nat}{rd:Bool}{Q:α→Prop}{t:Tag (E,Hp,ms,rd,Q)}{e:Env}{H:et}{m:List Nat}{r:Bool}(x':α)(h1:e=E x')(h2:H=Hp x')(h3:m=ms)(h4:r=rd)(h5:Q x'):LJ E Hp ms rd Q t e H m r:=⟨x',h1,h2,h3,h4,h5⟩
section
variable{T:fH}{live:List Nat}{a:IR}{s:St}{K:gp}{α:Type}
theorem eF.k(x0:α)(E:α→Env)(Hp:α→et)(P:α→Prop)(μ:α→Nat)
  (h0:P x0) (hE:forget ((E x0).map (·.1)) s.env=E x0) (hH:s.H=Hp x0) (hm:s.marks = []) (hr:s.fV=false) (um:(((E x0).map (·.1)).all fun k=>live.contains k)=true)
  (h:∀ x,P x→XC T a { env:=E x,H:=Hp x } (uG s.H.length live ((E x0).map (·.1)) (LJ E Hp [] false (fun x'=>μ x'<μ x∧P x') .mk) K)):eF T live a s K .mk:=
 eF.j x0 E Hp P μ h0 hE hH um (by rw[hm,hr];exact h)
end
@[simp] theorem aef{α:Type}{f:α→List D}[Fl f 1](l:List α)(n:Nat):(cl f l).take n=cl f (l.take n):=by simpa using sn (f:=f) l n
@[simp] theorem aec{α:Type}{f:α→List D}[Fl f 1](l:List α)(n:Nat):(cl f l).drop n=cl f (l.drop n):=by simpa using sk (f:=f) l n
@[simp] theorem af6(K:List Nat):gx 5 K=(0,true)::(1,true)::(2,true)::(3,true)::(4,true)::K.map fun v=>(v,true):=rfl
@[simp] theorem af7(K:List Nat):gx 6 K=(0,true)::(1,true)::(2,true)::(3,true)::(4,true)::(5,true)::K.map fun v=>(v,true):=rfl
@[simp] theorem af8(K:List Nat):gx 7 K=(0,true)::(1,true)::(2,true)::(3,true)::(4,true)::(5,true)::(6,true)::K.map fun v=>(v,true):=rfl
@[simp] theorem af9(K:List Nat):gx 8 K=(0,true)::(1,true)::(2,true)::(3,true)::(4,true)::(5,true)::(6,true)::(7,true)::K.map fun v=>(v,true):=rfl
@[simp] theorem aga(K:List Nat):gx 9 K=(0,true)::(1,true)::(2,true)::(3,true)::(4,true)::(5,true)::(6,true)::(7,true)::(8,true)::K.map fun v=>(v,true):=rfl
@[simp] theorem afP(K:List Nat):gx 10 K=(0,true)::(1,true)::(2,true)::(3,true)::(4,true)::(5,true)::(6,true)::(7,true)::(8,true)::(9,true)::K.map fun v=>(v,true):=rfl
@[simp] theorem afQ(K:List Nat):gx 11 K=(0,true)::(1,true)::(2,true)::(3,true)::(4,true)::(5,true)::(6,true)::(7,true)::(8,true)::(9,true)::(10,true)::K.map fun v=>(v,true):=rfl
@[simp] theorem afR(K:List Nat):gx 12 K=(0,true)::(1,true)::(2,true)::(3,true)::(4,true)::(5,true)::(6,true)::(7,true)::(8,true)::(9,true)::(10,true)::(11,true)::K.map fun v=>(v,true):=rfl
@[simp] theorem afS(K:List Nat):gx 13 K=(0,true)::(1,true)::(2,true)::(3,true)::(4,true)::(5,true)::(6,true)::(7,true)::(8,true)::(9,true)::(10,true)::(11,true)::(12,true)::K.map fun v=>(v,true):=rfl
@[simp] theorem afT(K:List Nat):gx 14 K=(0,true)::(1,true)::(2,true)::(3,true)::(4,true)::(5,true)::(6,true)::(7,true)::(8,true)::(9,true)::(10,true)::(11,true)::(12,true)::(13,true)::K.map fun v=>(v,true):=rfl
@[simp] theorem afU(K:List Nat):gx 15 K=(0,true)::(1,true)::(2,true)::(3,true)::(4,true)::(5,true)::(6,true)::(7,true)::(8,true)::(9,true)::(10,true)::(11,true)::(12,true)::(13,true)::(14,true)::K.map fun v=>(v,true):=rfl
@[simp] theorem afV(K:List Nat):gx 16 K=(0,true)::(1,true)::(2,true)::(3,true)::(4,true)::(5,true)::(6,true)::(7,true)::(8,true)::(9,true)::(10,true)::(11,true)::(12,true)::(13,true)::(14,true)::(15,true)::K.map fun v=>(v,true):=rfl
@[simp] theorem afW(K:List Nat):gx 17 K=(0,true)::(1,true)::(2,true)::(3,true)::(4,true)::(5,true)::(6,true)::(7,true)::(8,true)::(9,true)::(10,true)::(11,true)::(12,true)::(13,true)::(14,true)::(15,true)::(16,true)::K.map fun v=>(v,true):=rfl
@[simp] theorem afX(K:List Nat):gx 18 K=(0,true)::(1,true)::(2,true)::(3,true)::(4,true)::(5,true)::(6,true)::(7,true)::(8,true)::(9,true)::(10,true)::(11,true)::(12,true)::(13,true)::(14,true)::(15,true)::(16,true)::(17,true)::K.map fun v=>(v,true):=rfl
@[simp] theorem afY(K:List Nat):gx 19 K=(0,true)::(1,true)::(2,true)::(3,true)::(4,true)::(5,true)::(6,true)::(7,true)::(8,true)::(9,true)::(10,true)::(11,true)::(12,true)::(13,true)::(14,true)::(15,true)::(16,true)::(17,true)::(18,true)::K.map fun v=>(v,true):=rfl
@[simp] theorem af0(K:List Nat):gx 20 K=(0,true)::(1,true)::(2,true)::(3,true)::(4,true)::(5,true)::(6,true)::(7,true)::(8,true)::(9,true)::(10,true)::(11,true)::(12,true)::(13,true)::(14,true)::(15,true)::(16,true)::(17,true)::(18,true)::(19,true)::K.map fun v=>(v,true):=rfl
@[simp] theorem af1(K:List Nat):gx 21 K=(0,true)::(1,true)::(2,true)::(3,true)::(4,true)::(5,true)::(6,true)::(7,true)::(8,true)::(9,true)::(10,true)::(11,true)::(12,true)::(13,true)::(14,true)::(15,true)::(16,true)::(17,true)::(18,true)::(19,true)::(20,true)::K.map fun v=>(v,true):=rfl
@[simp] theorem af2(K:List Nat):gx 22 K=(0,true)::(1,true)::(2,true)::(3,true)::(4,true)::(5,true)::(6,true)::(7,true)::(8,true)::(9,true)::(10,true)::(11,true)::(12,true)::(13,true)::(14,true)::(15,true)::(16,true)::(17,true)::(18,true)::(19,true)::(20,true)::(21,true)::K.map fun v=>(v,true):=rfl
@[simp] theorem af3(K:List Nat):gx 23 K=(0,true)::(1,true)::(2,true)::(3,true)::(4,true)::(5,true)::(6,true)::(7,true)::(8,true)::(9,true)::(10,true)::(11,true)::(12,true)::(13,true)::(14,true)::(15,true)::(16,true)::(17,true)::(18,true)::(19,true)::(20,true)::(21,true)::(22,true)::K.map fun v=>(v,true):=rfl
@[simp] theorem ajQ{α:Type}{l:List α}{n:Nat}(h:l.length=n):l.take n=l:=aG (by omega)
@[simp] theorem ajt(a b:List Pos):D.sl 5 (a.map Pos.cells++b.map Pos.cells)=fh (a++b):=by unfold fh;rw[List.map_append]
def Ey{α:Type}(g:α→D)(Q:α→Prop)(d:D)(H:et):Prop:=Ex g Q d H
theorem Ey.i{α:Type}{g:α→D}{Q:α→Prop}{d:D}{H:et}(x:α)(h1:d=g x)(h2:H = [])(h3:Q x):Ey g Q d H:=⟨x,h1,h2,h3⟩
def FZ(ρ:Nat→Option Nat)(H:et)(k off:Nat):Option (TypeId×List D)→D
 | some (_,cs)=>.eG ((cs.drop off).map (eC ρ H k))
 | none=>.any
@[simp] theorem ai0(H:et)(k:Nat)(ρ:Nat→Option Nat)(v g off:Nat):zH H k ρ v g off none=FZ ρ H k off (rowAt H v g):=by unfold zH FZ;rfl
@[simp] theorem aff(ρ:Nat→Option Nat)(H:et)(k off:Nat)(t:TypeId)(cs:List D):FZ ρ H k off (some (t,cs)) = .eG ((cs.drop off).map (eC ρ H k)):=rfl
structure GH(H:et)(v:Nat):Prop where
 lt:v<H.length
 ok:oG H.length H
section
variable{H G:et}{v:Nat}{o o':Ob}
@[simp] theorem GH.get(h:GH H v):(H.set v o)[v]? = some o:=List.getElem?_set_self h.lt
@[simp] theorem GH.afs(h:GH H v):(H.set v o++G)[v]? = some o:=by
 rw[ag (by rw[bV];exact h.lt)];exact h.get
@[simp high] theorem GH.cut(h:GH H v){live:List Nat}{env:Env}{r:Bool}(ho:pK H.length o=true)(he:((forget live env).all fun p=>jx H.length p.2)=true) :
  Go.AL.cut H.length live { env:=env,H:=H.set v o++G,marks:=[],fV:=r } = { env:=forget live env,H:=H.set v o,marks:=[],fV:=r }:=Px (bV ..) (X' h.ok ho) he rfl
@[simp] theorem GH.lt_eq(h:GH H v):(v<H.length)=True:=eq_true h.lt
end
@[simp] theorem ahN(n:Nat):oG n []=True:=eq_true fun _ h=>by cases h
@[simp] theorem ahM(n:Nat)(o:Ob)(r:et):oG n (o::r)=(pK n o=true∧oG n r):=propext ⟨fun h=>⟨h o (by simp),fun x hx=>h x (by simp[hx])⟩,fun h x hx=>by
 rcases ax.1 hx with rfl|hx
 ·exact h.1
 ·exact h.2 x hx⟩
@[simp] theorem ahS(n t g:Nat)(cs:List D):pK n (.row t g cs)=cs.all (jx n):=rfl
@[simp] theorem ahO(n:Nat):pK n .dead=true:=rfl
@[simp] theorem ahQ(n:Nat)(kk:KK)(es:List (Value×D)):pK n (.map kk es)=es.all fun x=>jx n x.2:=rfl
@[simp] theorem acM{n:Nat}{α:Type}{f:α→List D}{sz:Nat}[F:Fl f sz](l:List α):(cl f l).all (jx n)=true:=
 ao.2 fun d hd=>NU (jM (qb l) d hd)
section
variable{H G:et}{v k:Nat}{o:Ob}
theorem MH(h:H[v]? = some o):v<H.length:=by
 rcases aW v H.length with h'|h'
 ·exact h'
 ·rw[aK h']at h;cases h
end
end Go.AL
namespace Go.Proofs.YtnaefnajkaohgaaGreatDoor
open Go Go.AL Classical
set_option maxRecDepth 10000
set_option maxHeartbeats 1000000
theorem T1{n:Int}{k:Nat}(h0:0≤n)(h1:n≤2*k)(hk:k≤2):eS n<0↔n=0:=by
 unfold eS;split<;>omega
theorem T2{n s:Int}(h:0≤eS n)(hs:0≤s∧s≤1):gV n=1-s↔¬ gV n=s:=by
 unfold eS at h
 unfold gV
 split at h
 ·rename_i e;rw[if_pos e];omega
 ·omega
theorem Hw{n s:Int}(h:¬ 0≤eS n)(hs:0≤s∧s≤1):¬ gV n=1-s∧¬ gV n=s:=by
 unfold eS at h
 unfold gV
 split at h
 ·omega
 ·rename_i e;rw[if_neg e];omega
theorem f228(g:ey)(hg:eW g)(s:eE)(hs:ic g s)(x:eI)(hx:xl g x):Wf T 228 [dG g,.agg s.cells,.agg [.i x.1,.i x.2]] [] (Is (iq (gd g s x))):=by
 have fO:=hs.p.size
 have lA:=hs.cur
 have iz:=hs.p.small hg
 have ht:=hg.gH.to s.p.side x.2 s.cur
 have gA:=hs.p.cs _ (eH lA.1 (by omega))
 have gv:=hs.p.side
 have hk:=T1 gA.1 gA.2 hg.kinds.2
 have hr:=hs.p.eR
 have oV:=hg.eR
 have jO:=hx.ok
 refine Yg Bi ?_
 simp[Bi]
 (with_reducible repeat' first|refine Xk ?_<;>try simp|refine Xs ?_ ?_<;>intro h<;>(try intro h')<;>(try simp[h])<;>(try omega)|refine Xg ?_|omega)
 refine Yc (f51 _) ?_
 simp
 (with_reducible repeat' first|refine Xk ?_<;>try simp|refine Xs ?_ ?_<;>intro h<;>(try intro h')<;>(try simp[h])<;>(try omega)|refine Xg ?_|omega)
 ·refine Yc (f251 g hg.gH s.p.side x.2 s.cur) ?_
  simp
  refine Yc (f252 { s with cur:=jq g s.p.side x.2 s.cur } _) ?_
  simp
  simp[gd,h]
 ·refine Yc (f253 g hg s hs x.2) ?_
  simp
  simp[gd,h]
 ·refine Yc (f252 s _) ?_
  simp
  simp[gd,h,hk]
 ·refine Yc (f252 s _) ?_
  simp
  have h1:=T2 (by assumption) gv
  simp[gd, *]
 ·refine Yc (f252 s _) ?_
  simp
  have h1:=Hw (by assumption) gv
  simp[gd, *]
 ·refine Yc (f252 s _) ?_
  simp
  simp[gd, *]
 ·refine Yc (f252 s _) ?_
  simp
  have h1:=Hw (by assumption) gv
  simp[gd, *]
 ·refine Yc (f254 g hg s hs) ?_
  simp
  simp[gd, *]
 ·refine Yc (f255 g hg s hs x.2) ?_
  simp
  simp[gd, *]
 ·simp[gd, *]
 ·refine Yt (f252 s _) ?_
  simp
  have h2:=wC oV.1 (by omega)
  have h3:=NC (r:=s.p.eR) (n:=x.2) hr.1 (by omega) (by omega) (by omega)
  simp[gd,h3, *]
 ·have h2:=wC oV.1 (by omega)
  have h3:=ND (r:=s.p.eR) (n:=x.2) hr.1 (by omega) (by omega) (by omega)
  simp[gd,h3, *]
def jr(a:List eE):List eE→List eE
 | []=>a
 | x::r=>jr (if x∈a then a else a ++ [x]) r
theorem xn:∀ {b a:List eE} {x:eE},x∈jr a b↔x∈a∨x∈b
 | [],a,x=>by simp[jr]
 | y::r,a,x=>by
  unfold jr
  rw[xn]
  split<;>simp
  ·constructor
   ·rintro(h|h)<;>simp[h]
   ·rintro(h|rfl|h)<;>simp[*]
  ·constructor
   ·rintro((h|h)|h)<;>simp[h]
   ·rintro(h|rfl|h)<;>simp[*]
theorem xm:∀ {b a:List eE},(jr a b).length≤a.length+b.length
 | [],a=>by simp[jr]
 | y::r,a=>by
  unfold jr
  refine Nat.le_trans xm ?_
  split<;>simp<;>omega
theorem ZE{H:et}{v:Nat}{o:Ob}(h:H[v]? = some o):H=H.set v o:=by
 refine bI fun i=>?_
 rw[bH]
 split
 ·rename_i e;subst e;rw[if_pos (MH h),h]
 ·rfl
theorem GH.of{H:et}{v:Nat}{o:Ob}(hv:H[v]? = some o)(hH:oG H.length H):GH H v:=⟨MH hv,hH⟩
theorem f227(v gen:Nat)(a b:List eE)(H:et)(hv:H[v]? = some (.row 282 gen (cl eE.cells a)))(hH:oG H.length H)(ha:∀ s∈a,Small s.p)(hb:∀ s∈b,Small s.p)(hl:a.length+b.length<2 ^ 39):Wf T 227 [.eu v gen 8 0 a.length,iq b] H (fun d H'=>∃ C',d = .eu v C' 8 0 (jr a b).length∧H'=H.set v (.row 282 C' (cl eE.cells (jr a b)))):=by
 have hg:=GH.of hv hH
 have rk:=hg.lt
 refine Yg Bh ?_
 simp[Bh]
 refine eF.j ((0,gen,a):Int×Nat×List eE) (fun x=>[(0,.eu v x.2.1 8 0 x.2.2.length),(1,iq b),(5,.i x.1)]) (fun x=>H.set v (.row 282 x.2.1 (cl eE.cells x.2.2))) (fun x=>0≤x.1∧x.1≤b.length∧x.2.2.length≤a.length+x.1.toNat∧(∀ s∈x.2.2,Small s.p)∧jr x.2.2 (b.drop x.1.toNat)=jr a b) (fun x=>b.length-x.1.toNat) ?_ (by simp) (ZE hv) rfl ?_
 ·simp;exact ha
 rintro⟨i,gn,l⟩ ⟨h0,h1,h2,h3,h4⟩
 dsimp only at h0 h1 h2 h3 h4 ⊢
 simp
 (with_reducible repeat' first|refine Xk ?_<;>try simp|refine Xs ?_ ?_<;>intro h<;>(try intro h')<;>(try simp[h])<;>(try omega)|refine Xg ?_|omega)
 ·refine eF.j ((0,false):Int×Bool) (fun x=>[(0,.eu v gn 8 0 l.length),(1,iq b),(5,.i i),(6,.b x.2),(7,.i x.1)]) (fun x=>H.set v (.row 282 gn (cl eE.cells l))) (fun x=>0≤x.1∧x.1≤l.length∧x.2=decide (gt b i∈l.take x.1.toNat)) (fun x=>l.length-x.1.toNat) ?_ (by simp) rfl rfl ?_
  ·simp
  rintro⟨k,found⟩ ⟨g0,g1,g2⟩
  dsimp only at g0 g1 g2 ⊢
  simp[hg]
  (with_reducible repeat' first|refine Xk ?_<;>try simp[hg]|refine Xs ?_ ?_<;>intro h<;>(try intro h')<;>(try simp[h,hg])<;>(try omega)|refine Xg ?_|omega)
  ·rw[gj g0 (by assumption)];simp_all
  ·refine Yt (f250 _ _ (h3 _ (eH g0 (by assumption))) (hb _ (eH h0 (by assumption)))) ?_
   simp
   simp only[h,cond_false]
   refine⟨by omega,by omega,k+1,?_⟩
   rw[gj g0 (by assumption)]
   by_cases e:gt l k=gt b i
   ·right;simp[e];omega
   ·left;simp_all
    exact⟨by omega,by omega,by omega,fun e'=>e e'.symm⟩
  ·refine⟨i+1,l,rfl,rfl,rfl,by omega,by omega,by omega,by omega,h3,?_⟩
   rw[← h4,kP h0 (by assumption),jr,show(i+1).toNat=i.toNat+1 by omega]
   rw[if_pos]
   rw[g2,iH (by omega)]at h
   simpa using h
  ·refine⟨i+1,l ++ [gt b i],by simp,rfl,by simp,by omega,by omega,by omega,by simp;omega,?_,?_⟩
   ·intro s hs
    simp at hs
    rcases hs with hs|rfl
    ·exact h3 s hs
    ·exact hb _ (eH h0 (by assumption))
   ·rw[← h4,kP h0 (by assumption),jr,show(i+1).toNat=i.toNat+1 by omega]
    rw[if_neg]
    rw[g2,iH (by omega)]at h
    simpa using h
 ·rw[aZ (by omega)]at h4
  have e:jr l []=l:=rfl
  rw[e]at h4
  rw[← h4]
  exact⟨rfl,rfl⟩
