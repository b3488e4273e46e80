/- Part 13 of DisputeLocal. -/
import Derived.Test.YtmehofoficaelaaGreatDoorL12
set_option linter.all false
namespace Go.Proofs.YtmehofoficaelaaGreatDoor
open Go Go.AL Classical
set_option maxRecDepth 10000
set_option maxHeartbeats 1000000
def f253(g:eY)(hg:gh g)(s:fg)(hs:jA g s)(n:Int):Wf T 297 [dG g,.agg s.cells,.i n] [] (Is (jH (oI s (kE g s.p.side n s.cur)))):=by
 have hl:=LU (g:=g) (s:=s.p.side) (d:=n) (c:=s.cur)
 have gV:=hs.p.size
 refine Yg Fx ?_
 simp[Fx]
 refine Yc (f263 g hg.iY s.p.side n s.cur) ?_
 simp
 generalize hL:kE g s.p.side n s.cur=L at *
 have fM:∀ y∈L,0≤y∧y<g.size:=fun y hy=>LS hg.iY (hL▸hy)
 refine fh.j ((0,[]):Int×List fg) (fun x=>[(4,.ptr 1 0 0),(7,.eX 2 x.2.length 8 0 x.2.length),(8,dI L),(9,.i x.1)]) (fun x=>[.row 43 0 g.cells,.row 373 0 s.cells,.row 373 x.2.length (cl fg.cells x.2)]) (fun x=>0≤x.1∧x.1≤L.length∧x.2.length=x.1.toNat∧oI s L=x.2++oI s (L.drop x.1.toNat)) (fun x=>L.length-x.1.toNat) ?_ (by simp) (by first|rfl|simp) rfl ?_
 ·simp
 rintro⟨i,out⟩ ⟨h0,h1,h2,h3⟩
 dsimp only at h0 h1 h2 h3 ⊢
 simp
 (with_reducible repeat' first|refine Xk ?_<;>try simp|refine Xs ?_ ?_<;>intro h<;>(try intro h')<;>(try simp[h])<;>try omega|refine Xg ?_|omega)
 ·have hc:=fM _ (ft h0 ‹_›)
  rw[mM h0 ‹_›,oI]at h3
  (with_reducible repeat' first|refine Xk ?_<;>try simp|refine Xs ?_ ?_<;>intro h<;>(try intro h')<;>(try simp[h])<;>try omega|refine Xg ?_|omega)
  ·refine⟨i+1,out ++ [{ s with cur:=gt L i }],by simp,rfl,by simp,by rw[← oR],by omega,by omega,by omega,by simp[h2];omega,?_⟩
   rw[h3,if_pos ‹_›,show(i+1).toNat=i.toNat+1 by omega];simp
  ·rw[if_neg ‹_›]at h3
   rw[h3]
   simp[jH]
 ·rw[bh (by omega)]at h3
  rw[h3];simp[oI]
def RR{n s:Int}(_:0≤n)(hk:0≤fF n)(h:jo n≠s)(hs:0≤s∧s≤1):jo n=1-s:=by
 unfold fF jo at *
 split at hk
 ·rename_i e;rw[if_pos e]at h ⊢;omega
 ·omega
def f254(g:eY)(hg:gh g)(s:fg)(hs:jA g s):Wf T 298 [dG g,.agg s.cells] [] (Is (jH (qo g s))):=by
 have gV:=hs.p.size
 have nQ:=hs.cur
 have jR:=hs.p.small hg
 refine Yg Fy ?_
 simp[Fy]
 (with_reducible repeat' first|refine Xk ?_<;>try simp|refine Xs ?_ ?_<;>intro h<;>(try intro h')<;>(try simp[h])<;>try omega|refine Xg ?_|omega)
 refine Yc (f51 _) ?_
 simp
 have iL:=hs.p.cs _ (ft nQ.1 (by omega))
 have mQ:=hg.kinds
 have iE:=hs.p.side
 (with_reducible repeat' first|refine Xk ?_<;>try simp|refine Xs ?_ ?_<;>intro h<;>(try intro h')<;>(try simp[h])<;>try omega|refine Xg ?_|omega)
 ·rw[qo,if_pos]
  unfold fF at *;unfold jo
  split at h<;>rename_i h5
  ·omega
  ·rw[if_neg h5];omega
 ·rw[qo,if_pos (by omega)]
 ·have hm:fF (gt s.p.cs s.cur)<g.kinds.length:=uI iL.2 mQ.1
  have Ln:s.p.side=0∨s.p.side=1:=by omega
  have l0:=hs.p.h0.len
  have l1:=hs.p.h1.len
  have q0:=il (l:=s.p.cs) (n:=s.cur) (v:=0) nQ.1 (by omega)
  refine Yn (G7 s.p jR) ?_
  simp
  (with_reducible repeat' first|refine Xk ?_<;>try simp[q0]|refine Xs ?_ ?_<;>intro h<;>(try intro h')<;>(try simp[h,q0])<;>try omega|refine Xg ?_|omega)
  ·have hx:jo (gt s.p.cs s.cur)=1-s.p.side:=RR iL.1 (by omega) (by assumption) iE
   have ri:=h
   rcases Ln with e|e
   ·have ha:=hs.p.h0.at_ _ (by omega) (show fF (gt s.p.cs s.cur)<s.p.h0.length by omega)
    have q1:=zp (l:=s.p.h0) (n:=fF (gt s.p.cs s.cur)) (v:=gt s.p.h0 (fF (gt s.p.cs s.cur))+1) (by omega) (by omega)
    have q2:=il (l:=s.p.h0) (n:=fF (gt s.p.cs s.cur)) (v:=gt s.p.h0 (fF (gt s.p.cs s.cur))+1) (by omega) (by omega)
    simp[e,q1,q2]
    (with_reducible repeat' first|refine Xk ?_<;>try simp|refine Xs ?_ ?_<;>intro h<;>(try intro h')<;>(try simp[h])<;>try omega|refine Xg ?_|omega)
    all_goals simp[qo,hx,ri,Pos.hand,Pos.lV,e,q0,q2]
    ·rw[if_neg (by omega)]
    ·rw[if_pos (by omega)]
   ·have ha:=hs.p.h1.at_ _ (by omega) (show fF (gt s.p.cs s.cur)<s.p.h1.length by omega)
    have q1:=zp (l:=s.p.h1) (n:=fF (gt s.p.cs s.cur)) (v:=gt s.p.h1 (fF (gt s.p.cs s.cur))+1) (by omega) (by omega)
    have q2:=il (l:=s.p.h1) (n:=fF (gt s.p.cs s.cur)) (v:=gt s.p.h1 (fF (gt s.p.cs s.cur))+1) (by omega) (by omega)
    simp[e,q1,q2]
    (with_reducible repeat' first|refine Xk ?_<;>try simp|refine Xs ?_ ?_<;>intro h<;>(try intro h')<;>(try simp[h])<;>try omega|refine Xg ?_|omega)
    all_goals simp[qo,hx,ri,Pos.hand,Pos.lV,e,q0,q2]
    ·rw[if_neg (by omega)]
    ·rw[if_pos (by omega)]
  ·have hx:jo (gt s.p.cs s.cur)=1-s.p.side:=RR iL.1 (by omega) (by assumption) iE
   simp[qo,hx,h,q0]
def f255(g:eY)(hg:gh g)(s:fg)(hs:jA g s)(n:Int):Wf T 299 [dG g,.agg s.cells,.i n] [] (Is (jH (qO g s n))):=by
 have gV:=hs.p.size
 have nQ:=hs.cur
 have jR:=hs.p.small hg
 have ht:=hg.iY.to s.p.side n s.cur
 refine Yg Fz ?_
 simp[Fz]
 refine Yc (f251 g hg.iY s.p.side n s.cur) ?_
 simp
 (with_reducible repeat' first|refine Xk ?_<;>try simp|refine Xs ?_ ?_<;>intro h<;>(try intro h')<;>(try simp[h])<;>try omega|refine Xg ?_|omega)
 ·rw[qO,if_pos (by simp_all)]
 ·rw[qO,if_pos (by simp_all)]
 ·have q0:=il (l:=s.p.cs) (n:=lg g s.p.side n s.cur) (v:=gt s.p.cs s.cur) (by omega) (by omega)
  have q1:=il (l:=pt s.p.cs (lg g s.p.side n s.cur) (gt s.p.cs s.cur)) (n:=s.cur) (v:=0) nQ.1 (by omega)
  refine Yn (G7 s.p jR) ?_
  simp
  (with_reducible repeat' first|refine Xk ?_<;>try simp[q0,q1]|refine Xs ?_ ?_<;>intro h<;>(try intro h')<;>(try simp[h,q0,q1])<;>try omega|refine Xg ?_|omega)
  simp[qO, *]
 ·rw[qO,if_pos (by simp_all)]
end Go.Proofs.YtmehofoficaelaaGreatDoor
namespace Go.AL
open Go
def ny(n:Nat):D→Bool
 | .eX v _ _ _ _ | .ptr v _ _ | .gF v | .iA v=>decide (v<n)
 | d=>closed d
def lr(n:Nat):D→Bool
 | .agg cs | .tup cs | .fj cs=>cs.all (ny n)
 | .fn _ a b=>a.all (ny n)&&b.all (ny n)
 | d=>ny n d
def su(n:Nat):Ob→Bool
 | .row _ _ cs=>cs.all (lr n)
 | .map _ es=>es.all fun x=>lr n x.2
 | .gL _ env _=>env.all fun x=>lr n x.2
 | .qn _ _=>true
 | .lL m _ _=>ny n m
 | .kJ=>true
 | .dead=>true
 | .kZ=>false
def qM(n:Nat)(H:U):Prop:=∀ o∈H,su n o=true
def MU{ρ:Nat→Option Nat}{H:U}{n k:Nat}(oY:∀ u,u<n→ρ u=some u){d:D}(h:ny n d=true):e7 ρ H (k+1) d=d:=by
 cases d with
 | eX v g sz off len=>simp only[ny,decide_eq_true_eq]at h;rw[Th,oY v h,af2]
 | ptr v g off=>simp only[ny,decide_eq_true_eq]at h;rw[af7,oY v h,af3]
 | gF v=>simp only[ny,decide_eq_true_eq]at h;rw[af6,oY v h,af0]
 | iA v=>
  simp only[ny,decide_eq_true_eq]at h
  rw[e7,if_neg (by simp)]
  rw[oY v h]
 | _=>exact ow h
def CM{ρ:Nat→Option Nat}{H:U}{n k:Nat}(oY:∀ u,u<n→ρ u=some u){cs:List D}(h:cs.all (ny n)=true):cs.map (e7 ρ H (k+1))=cs:=by
 conv=>rhs;rw[← aY cs]
 exact au fun d hd=>MU oY (ar.1 h d hd)
def Dg{ρ:Nat→Option Nat}{H:U}{n k:Nat}(oY:∀ u,u<n→ρ u=some u){d:D}(h:lr n d=true):e7 ρ H (k+2) d=d:=by
 cases d with
 | agg cs=>rw[af5,CM oY h]
 | tup cs=>rw[af8,CM oY h]
 | fj cs=>
  by_cases hc:closed (.fj cs)=true
  ·exact ow hc
  ·rw[e7,if_neg hc,CM oY h]
 | fn f a b=>
  simp only[lr,ah]at h
  by_cases hc:closed (.fn f a b)=true
  ·exact ow hc
  ·rw[e7,if_neg hc,CM oY h.1,CM oY h.2]
 | _=>exact MU oY h
def af4{ρ:Nat→Option Nat}{H:U}{n:Nat}(oY:∀ u,u<n→ρ u=some u){o:Ob}(h:su n o=true):nW ρ H o=o:=by
 have key:∀ {α:Type} (l:List (α×D)),(l.all fun x=>lr n x.2)=true→(l.map fun x=>(x.1,e7 ρ H 40 x.2))=l:=by
  intro α l hl
  conv=>rhs;rw[← aY l]
  exact au fun x hx=>by
   have:=ar.1 hl x hx
   rw[Dg oY this];rfl
 cases o with
 | row t g cs=>
  simp only[nW]
  congr 1
  conv=>rhs;rw[← aY cs]
  exact au fun d hd=>Dg oY (ar.1 h d hd)
 | map kk es=>simp only[nW];rw[key es h]
 | gL rf env st=>simp only[nW];rw[key env h]
 | qn=>rfl
 | lL m since seen=>simp only[nW];rw[MU oY h]
 | kJ=>rfl
 | dead=>rfl
 | kZ=>cases h
def C9{n u:Nat}(h:u<n):ic (iF n []) u=some u:=by
 unfold ic iF
 rw[List.map_nil,aA]
 rw[dq]
 refine⟨by simpa using h,by simp,fun j hj=>by simp;omega⟩
def MR{n:Nat}{H G:U}(hn:H.length=n)(h:qM n H):pB (iF n []) (H++G)=H:=by
 unfold pB
 refine bM fun i=>?_
 rw[aq]
 unfold iF
 rw[List.map_nil,aA,aq]
 by_cases hi:i<n
 ·rw[bX hi]
  simp only[aH,if_true]
  rw[ag (by omega),List.getElem?_eq_getElem (by omega)]
  simp only
  congr 1
  have e:((List.range n).map fun v=>(v,true))=iF n []:=by unfold iF;simp
  rw[e]
  exact af4 (fun u hu=>C9 hu) (h _ (bF _))
 ·rw[aQ (by simp;omega),aQ (by omega)];rfl
def I9{n:Nat}{d:D}(h:lr n d=true):iH n d = []:=by
 cases d<;>first|rfl|(simp only[lr,ny,decide_eq_true_eq]at h;simp only[iH];rw[if_neg (by omega)])
theorem flatten_nil{α β:Type}{f:α→List β}:∀ {l:List α},(∀ a∈l,f a = [])→(l.map f).flatten = []
 | [],_=>rfl
 | a::l,h=>by rw[List.map_cons,aU,h a (by simp),flatten_nil fun b hb=>h b (by simp[hb])];rfl
def aau{n:Nat}{o:Ob}(h:su n o=true):oo n o = []:=by
 cases o with
 | row t g cs=>exact flatten_nil fun d hd=>I9 (ar.1 h d hd)
 | map kk es=>exact flatten_nil fun x hx=>I9 (ar.1 h x hx)
 | _=>rfl
def Vl{n:Nat}{live:List Nat}{env:Env}{H G:U}{m:List Nat}{r:Bool}(h9:yf live=false)(hn:H.length=n)(hH:qM n H)(he:((forget live env).all fun p=>lr n p.2)=true)(hm:(m.all fun v=>decide (v<n))=true) :
  cut n live { env:=env,H:=H++G,marks:=m,gZ:=r } = { env:=forget live env,H:=H,marks:=m,gZ:=r }:=by
 by_cases hg:(H++G).length≤n
 ·have:G = []:=by
   cases G with
   | nil=>rfl
   | cons a l=>simp at hg;omega
  subst this
  rw[aA]
  exact O' (by show H.length≤n;omega)
 ·unfold cut
  dsimp only
  rw[if_neg (by rw[h9];simpa using hg)]
  have e1:((forget live env).map fun p=>iH n p.2).flatten = []:=flatten_nil fun p hp=>I9 (ar.1 he p hp)
  have e2:(((H++G).take n).map (oo n)).flatten = []:=flatten_nil fun o ho=>by
   rw[bH (by omega),ai (by omega)]at ho
   exact aau (hH o ho)
  have e3:m.filter (n≤·) = []:=by
   rw[dv]
   intro v hv
   have:=ar.1 hm v hv
   simp at this ⊢;omega
  rw[e1,e2,e3]
  have e4:dedup (([] ++ [] ++ []:List Nat).filter (· < (H++G).length)) = []:=rfl
  rw[e4,MR hn hH]
  congr 1
  ·conv=>rhs;rw[← aY (forget live env)]
   exact au fun p hp=>by
    rw[Dg (fun u hu=>C9 hu) (ar.1 he p hp)];rfl
  ·conv=>rhs;rw[← aY m]
   exact au fun v hv=>by
    have:=ar.1 hm v hv
    rw[C9 (by simpa using this)];rfl
def ael{n v:Nat}{H:U}{o:Ob}(h:qM n H)(ho:su n o=true):qM n (H.set v o):=fun x hx=>by
 rcases ef hx with hx|rfl
 ·exact h x hx
 ·exact ho
def An{n:Nat}{d:D}(h:closed d=true):ny n d=true:=by
 cases d<;>first|exact h|(cases h;done)|(simp only[closed]at h;cases h)
def Ti{n:Nat}{d:D}(h:closed d=true):lr n d=true:=by
 cases d with
 | agg cs=>exact ar.2 fun d hd=>An (lO (by simpa using h) d hd)
 | tup cs=>exact ar.2 fun d hd=>An (lO (by simpa using h) d hd)
 | fj cs=>exact ar.2 fun d hd=>An (lO (by simpa using h) d hd)
 | fn f a b=>
  simp only[OW,ah]at h
  simp only[lr,ah]
  exact⟨ar.2 fun d hd=>An (lO h.1 d hd),ar.2 fun d hd=>An (lO h.2 d hd)⟩
 | _=>exact An (n:=n) h
@[simp] theorem apZ{n:Nat}{d:D}(h:closed d=true):lr n d=true:=Ti h
@[simp] theorem ap3(n v g sz off len:Nat):lr n (.eX v g sz off len)=decide (v<n):=rfl
@[simp] theorem ap4(n v g off:Nat):lr n (.ptr v g off)=decide (v<n):=rfl
@[simp] theorem ap2(n v:Nat):lr n (.gF v)=decide (v<n):=rfl
@[simp] theorem apY(n:Nat)(cs:List D):lr n (.agg cs)=cs.all (ny n):=rfl
@[simp] theorem ap5(n:Nat)(cs:List D):lr n (.tup cs)=cs.all (ny n):=rfl
@[simp] theorem ap7(n v g sz off len:Nat):ny n (.eX v g sz off len)=decide (v<n):=rfl
@[simp] theorem ap8(n v g off:Nat):ny n (.ptr v g off)=decide (v<n):=rfl
@[simp] theorem ap0(n:Nat)(f:Fn)(a b:List D):lr n (.fn f a b)=(a.all (ny n)&&b.all (ny n)):=rfl
@[simp high] theorem ZJ{α:Type}[Inhabited α]{f:α→List D}{sz:Nat}[F:Fl f sz]{l:List α}{t:TypeId}{n:Int}(hz:0<sz):ry sz (n.toNat*sz) (some (t,cl f l))=if n.toNat<l.length then some (.agg (f (gt l n)))else none:=by
 have h:=aat (f:=f) (l:=l) (t:=t) (n:=n) (P:=fun d=>d = .agg (f (gt l n))) hz
 simp only[and_true]at h
 by_cases hn:n.toNat<l.length
 ·rw[if_pos hn]
  obtain⟨d,h1,h2⟩:=h.mpr hn
  rw[h1,h2]
 ·rw[if_neg hn]
  unfold ry
  dsimp only
  rw[if_neg]
  rw[sS,← bR,et hz]
  omega
section
variable{T:gP}{a b:IR}{s:St}{K:iv}{id n:Nat}{live:List Nat}
@[simp ↓] theorem anT:Ir T b K (.norm s)=Wc T b s K:=(rfl)
@[simp ↓] theorem anS:Ir T b K (.exit id s)=K (.exit id s):=(rfl)
@[simp ↓] theorem anU:Ir T b K (.ret s)=K (.ret s):=(rfl)
end
def LJ{α:Type}(E:α→Env)(Hp:α→U)(ms:List Nat)(rd:Bool)(Q:α→Prop)(_:Tag (E,Hp,ms,rd,Q))(e:Env)(H:U)(m:List Nat)(r:Bool):Prop:=
 ∃ x',e=E x'∧H=Hp x'∧m=ms∧r=rd∧Q x'
theorem LJ.e{α:Type}{E:α→Env}{Hp:α→U}{ms:List Nat}{rd:Bool}{Q:α→Prop}{t:Tag (E,Hp,ms,rd,Q)}{e:Env}{H:U}{m:List Nat}{r:Bool}(x':α)(h5:Q x')(h1:e=E x':=by first|rfl|simp)(h2:H=Hp x':=by first|rfl|simp)(h3:m=ms:=by exact rfl)(h4:r=rd:=by exact rfl):LJ E Hp ms rd Q t e H m r:=⟨x',h1,h2,h3,h4,h5⟩
def LJ.i{α:Type}{E:α→Env}{Hp:α→U}{ms:List Nat}{rd:Bool}{Q:α→Prop}{t:Tag (E,Hp,ms,rd,Q)}{e:Env}{H:U}{m:List Nat}{r:Bool}(x':α)(h1:e=E x')(h2:H=Hp x')(h3:m=ms)(h4:r=rd)(h5:Q x'):LJ E Hp ms rd Q t e H m r:=⟨x',h1,h2,h3,h4,h5⟩
section
variable{T:gP}{live:List Nat}{a:IR}{s:St}{K:iv}{α:Type}
theorem fh.k(x0:α)(E:α→Env)(Hp:α→U)(P:α→Prop)(μ:α→Nat)
  (h0:P x0) (hE:forget ((E x0).map (·.1)) s.env=E x0) (hH:s.H=Hp x0) (hm:s.marks = []) (hr:s.gZ=false) (qA:(((E x0).map (·.1)).all fun k=>live.contains k)=true)
  (h:∀ x,P x→XC T a { env:=E x,H:=Hp x } (wg s.H.length live ((E x0).map (·.1)) (LJ E Hp [] false (fun x'=>μ x'<μ x∧P x') .mk) K)):fh T live a s K .mk:=
 fh.j x0 E Hp P μ h0 hE hH qA (by rw[hm,hr];exact h)
end
@[simp] theorem OS{α:Type}{f:α→List D}[Fl f 1](l:List α)(n:Nat):(cl f l).take n=cl f (l.take n):=by simpa using tW (f:=f) l n
@[simp] theorem akH{α:Type}{f:α→List D}[Fl f 1](l:List α)(n:Nat):(cl f l).drop n=cl f (l.drop n):=by simpa using sR (f:=f) l n
@[simp] theorem amC(K:List Nat):iF 5 K=(0,true)::(1,true)::(2,true)::(3,true)::(4,true)::K.map fun v=>(v,true):=rfl
@[simp] theorem amD(K:List Nat):iF 6 K=(0,true)::(1,true)::(2,true)::(3,true)::(4,true)::(5,true)::K.map fun v=>(v,true):=rfl
@[simp] theorem amE(K:List Nat):iF 7 K=(0,true)::(1,true)::(2,true)::(3,true)::(4,true)::(5,true)::(6,true)::K.map fun v=>(v,true):=rfl
@[simp] theorem amF(K:List Nat):iF 8 K=(0,true)::(1,true)::(2,true)::(3,true)::(4,true)::(5,true)::(6,true)::(7,true)::K.map fun v=>(v,true):=rfl
@[simp] theorem amG(K:List Nat):iF 9 K=(0,true)::(1,true)::(2,true)::(3,true)::(4,true)::(5,true)::(6,true)::(7,true)::(8,true)::K.map fun v=>(v,true):=rfl
@[simp] theorem aml(K:List Nat):iF 10 K=(0,true)::(1,true)::(2,true)::(3,true)::(4,true)::(5,true)::(6,true)::(7,true)::(8,true)::(9,true)::K.map fun v=>(v,true):=rfl
@[simp] theorem amm(K:List Nat):iF 11 K=(0,true)::(1,true)::(2,true)::(3,true)::(4,true)::(5,true)::(6,true)::(7,true)::(8,true)::(9,true)::(10,true)::K.map fun v=>(v,true):=rfl
@[simp] theorem amn(K:List Nat):iF 12 K=(0,true)::(1,true)::(2,true)::(3,true)::(4,true)::(5,true)::(6,true)::(7,true)::(8,true)::(9,true)::(10,true)::(11,true)::K.map fun v=>(v,true):=rfl
@[simp] theorem amo(K:List Nat):iF 13 K=(0,true)::(1,true)::(2,true)::(3,true)::(4,true)::(5,true)::(6,true)::(7,true)::(8,true)::(9,true)::(10,true)::(11,true)::(12,true)::K.map fun v=>(v,true):=rfl
@[simp] theorem amp(K:List Nat):iF 14 K=(0,true)::(1,true)::(2,true)::(3,true)::(4,true)::(5,true)::(6,true)::(7,true)::(8,true)::(9,true)::(10,true)::(11,true)::(12,true)::(13,true)::K.map fun v=>(v,true):=rfl
@[simp] theorem amq(K:List Nat):iF 15 K=(0,true)::(1,true)::(2,true)::(3,true)::(4,true)::(5,true)::(6,true)::(7,true)::(8,true)::(9,true)::(10,true)::(11,true)::(12,true)::(13,true)::(14,true)::K.map fun v=>(v,true):=rfl
@[simp] theorem amr(K:List Nat):iF 16 K=(0,true)::(1,true)::(2,true)::(3,true)::(4,true)::(5,true)::(6,true)::(7,true)::(8,true)::(9,true)::(10,true)::(11,true)::(12,true)::(13,true)::(14,true)::(15,true)::K.map fun v=>(v,true):=rfl
@[simp] theorem ams(K:List Nat):iF 17 K=(0,true)::(1,true)::(2,true)::(3,true)::(4,true)::(5,true)::(6,true)::(7,true)::(8,true)::(9,true)::(10,true)::(11,true)::(12,true)::(13,true)::(14,true)::(15,true)::(16,true)::K.map fun v=>(v,true):=rfl
@[simp] theorem amt(K:List Nat):iF 18 K=(0,true)::(1,true)::(2,true)::(3,true)::(4,true)::(5,true)::(6,true)::(7,true)::(8,true)::(9,true)::(10,true)::(11,true)::(12,true)::(13,true)::(14,true)::(15,true)::(16,true)::(17,true)::K.map fun v=>(v,true):=rfl
@[simp] theorem amu(K:List Nat):iF 19 K=(0,true)::(1,true)::(2,true)::(3,true)::(4,true)::(5,true)::(6,true)::(7,true)::(8,true)::(9,true)::(10,true)::(11,true)::(12,true)::(13,true)::(14,true)::(15,true)::(16,true)::(17,true)::(18,true)::K.map fun v=>(v,true):=rfl
@[simp] theorem amw(K:List Nat):iF 20 K=(0,true)::(1,true)::(2,true)::(3,true)::(4,true)::(5,true)::(6,true)::(7,true)::(8,true)::(9,true)::(10,true)::(11,true)::(12,true)::(13,true)::(14,true)::(15,true)::(16,true)::(17,true)::(18,true)::(19,true)::K.map fun v=>(v,true):=rfl
@[simp] theorem amx(K:List Nat):iF 21 K=(0,true)::(1,true)::(2,true)::(3,true)::(4,true)::(5,true)::(6,true)::(7,true)::(8,true)::(9,true)::(10,true)::(11,true)::(12,true)::(13,true)::(14,true)::(15,true)::(16,true)::(17,true)::(18,true)::(19,true)::(20,true)::K.map fun v=>(v,true):=rfl
@[simp] theorem amy(K:List Nat):iF 22 K=(0,true)::(1,true)::(2,true)::(3,true)::(4,true)::(5,true)::(6,true)::(7,true)::(8,true)::(9,true)::(10,true)::(11,true)::(12,true)::(13,true)::(14,true)::(15,true)::(16,true)::(17,true)::(18,true)::(19,true)::(20,true)::(21,true)::K.map fun v=>(v,true):=rfl
@[simp] theorem amz(K:List Nat):iF 23 K=(0,true)::(1,true)::(2,true)::(3,true)::(4,true)::(5,true)::(6,true)::(7,true)::(8,true)::(9,true)::(10,true)::(11,true)::(12,true)::(13,true)::(14,true)::(15,true)::(16,true)::(17,true)::(18,true)::(19,true)::(20,true)::(21,true)::(22,true)::K.map fun v=>(v,true):=rfl
@[simp] theorem aqF{α:Type}{l:List α}{n:Nat}(h:l.length=n):l.take n=l:=ai (by omega)
@[simp] theorem aqb(a b:List Pos):D.sl 5 (a.map Pos.cells++b.map Pos.cells)=gA (a++b):=by unfold gA;rw[List.map_append]
def Ey{α:Type}(g:α→D)(Q:α→Prop)(d:D)(H:U):Prop:=Ex g Q d H
def Ey.i{α:Type}{g:α→D}{Q:α→Prop}{d:D}{H:U}(x:α)(h1:d=g x)(h2:H = [])(h3:Q x):Ey g Q d H:=⟨x,h1,h2,h3⟩
def Kc(ρ:Nat→Option Nat)(H:U)(k off:Nat):Option (TypeId×List D)→D
 | some (_,cs)=>.fj ((cs.drop off).map (e7 ρ H k))
 | none=>.any
@[simp] theorem apI(H:U)(k:Nat)(ρ:Nat→Option Nat)(v g off:Nat):Df H k ρ v g off none=Kc ρ H k off (rowAt H v g):=by unfold Df Kc;rfl
@[simp] theorem alN(ρ:Nat→Option Nat)(H:U)(k off:Nat)(t:TypeId)(cs:List D):Kc ρ H k off (some (t,cs)) = .fj ((cs.drop off).map (e7 ρ H k)):=rfl
structure GH(H:U)(v:Nat):Prop where
 lt:v<H.length
 ok:qM H.length H
section
variable{H G:U}{v:Nat}{o o':Ob}
@[simp] theorem GH.get(h:GH H v):(H.set v o)[v]? = some o:=List.getElem?_set_self h.lt
@[simp] theorem GH.alY(h:GH H v):(H.set v o++G)[v]? = some o:=by
 rw[ag (by rw[b8];exact h.lt)];exact h.get
@[simp high] theorem GH.cut(h:GH H v){live:List Nat}{env:Env}{r:Bool}(h9:yf live=false)(ho:su H.length o=true)(he:((forget live env).all fun p=>lr H.length p.2)=true) :
  Go.AL.cut H.length live { env:=env,H:=H.set v o++G,marks:=[],gZ:=r } = { env:=forget live env,H:=H.set v o,marks:=[],gZ:=r }:=Vl h9 (b8 ..) (ael h.ok ho) he rfl
@[simp] theorem GH.lt_eq(h:GH H v):(v<H.length)=True:=eq_true h.lt
end
@[simp] theorem aoy(n:Nat):qM n []=True:=eq_true fun _ h=>by cases h
@[simp] theorem aox(n:Nat)(o:Ob)(r:U):qM n (o::r)=(su n o=true∧qM n r):=propext ⟨fun h=>⟨h o (by simp),fun x hx=>h x (by simp[hx])⟩,fun h x hx=>by
 rcases av.1 hx with rfl|hx
 ·exact h.1
 ·exact h.2 x hx⟩
@[simp] theorem aoD(n t g:Nat)(cs:List D):su n (.row t g cs)=cs.all (lr n):=rfl
@[simp] theorem aoz(n:Nat):su n .dead=true:=rfl
@[simp] theorem aoB(n:Nat)(kk:KK)(es:List (Value×D)):su n (.map kk es)=es.all fun x=>lr n x.2:=rfl
@[simp] theorem ajd{n:Nat}{α:Type}{f:α→List D}{sz:Nat}[F:Fl f sz](l:List α):(cl f l).all (lr n)=true:=
 ar.2 fun d hd=>Ti (lO (sQ l) d hd)
section
variable{H G:U}{v k:Nat}{o:Ob}
def RQ(h:H[v]? = some o):v<H.length:=by
 rcases a8 v H.length with h'|h'
 ·exact h'
 ·rw[aQ h']at h;cases h
end
end Go.AL
namespace Go.Proofs.YtmehofoficaelaaGreatDoor
open Go Go.AL Classical
set_option maxRecDepth 10000
set_option maxHeartbeats 1000000
def Z'{n:Int}{k:Nat}(h0:0≤n)(h1:n≤2*k)(hk:k≤2):fF n<0↔n=0:=by
 unfold fF;split<;>omega
def aac{n s:Int}(h:0≤fF n)(hs:0≤s∧s≤1):jo n=1-s↔¬ jo n=s:=by
 unfold fF at h
 unfold jo
 split at h
 ·rename_i e;rw[if_pos e];omega
 ·omega
def L0{n s:Int}(h:¬ 0≤fF n)(hs:0≤s∧s≤1):¬ jo n=1-s∧¬ jo n=s:=by
 unfold fF at h
 unfold jo
 split at h
 ·omega
 ·rename_i e;rw[if_neg e];omega
def f228(g:eY)(hg:gh g)(s:fg)(hs:jA g s)(x:fe)(hx:A3 g x):Wf T 284 [dG g,.agg s.cells,.agg [.i x.1,.i x.2]] [] (Is (jH (im g s x))):=by
 have gV:=hs.p.size
 have nQ:=hs.cur
 have jR:=hs.p.small hg
 have ht:=hg.iY.to s.p.side x.2 s.cur
 have iL:=hs.p.cs _ (ft nQ.1 (by omega))
 have iE:=hs.p.side
 have hk:=Z' iL.1 iL.2 hg.kinds.2
 have hr:=hs.p.fH
 have re:=hg.fH
 have kD:=hx.ok
 refine Yg Fi ?_
 simp[Fi]
 (with_reducible repeat' first|refine Xk ?_<;>try simp|refine Xs ?_ ?_<;>intro h<;>(try intro h')<;>(try simp[h])<;>try omega|refine Xg ?_|omega)
 refine Yc (f51 _) ?_
 simp
 (with_reducible repeat' first|refine Xk ?_<;>try simp|refine Xs ?_ ?_<;>intro h<;>(try intro h')<;>(try simp[h])<;>try omega|refine Xg ?_|omega)
 ·refine Yc (f251 g hg.iY s.p.side x.2 s.cur) ?_
  simp
  refine Yc (f252 { s with cur:=lg g s.p.side x.2 s.cur } _) ?_
  simp
  simp[im,h]
 ·refine Yc (f253 g hg s hs x.2) ?_
  simp
  simp[im,h]
 ·refine Yc (f252 s _) ?_
  simp
  simp[im,h,hk]
 ·refine Yc (f252 s _) ?_
  simp
  have h1:=aac (by assumption) iE
  simp[im, *]
 ·refine Yc (f252 s _) ?_
  simp
  have h1:=L0 (by assumption) iE
  simp[im, *]
 ·refine Yc (f252 s _) ?_
  simp
  simp[im, *]
 ·refine Yc (f252 s _) ?_
  simp
  have h1:=L0 (by assumption) iE
  simp[im, *]
 ·refine Yc (f254 g hg s hs) ?_
  simp
  simp[im, *]
 ·refine Yc (f255 g hg s hs x.2) ?_
  simp
  simp[im, *]
 ·simp[im, *]
 ·refine Yt (f252 s _) ?_
  simp
  have h2:=Af re.1 (by omega)
  have h3:=SZ (r:=s.p.fH) (n:=x.2) hr.1 (by omega) (by omega) (by omega)
  simp[im,h3, *]
 ·have h2:=Af re.1 (by omega)
  have h3:=S0 (r:=s.p.fH) (n:=x.2) hr.1 (by omega) (by omega) (by omega)
  simp[im,h3, *]
def lh(a:List fg):List fg→List fg
 | []=>a
 | x::r=>lh (if x∈a then a else a ++ [x]) r
theorem A5:∀ {b a:List fg} {x:fg},x∈lh a b↔x∈a∨x∈b
 | [],a,x=>by simp[lh]
 | y::r,a,x=>by
  unfold lh
  rw[A5]
  split<;>simp
  ·constructor
   ·rintro(h|h)<;>simp[h]
   ·rintro(h|rfl|h)<;>simp[*]
  ·constructor
   ·rintro((h|h)|h)<;>simp[h]
   ·rintro(h|rfl|h)<;>simp[*]
theorem A4:∀ {b a:List fg},(lh a b).length≤a.length+b.length
 | [],a=>by simp[lh]
 | y::r,a=>by
  unfold lh
  refine Nat.le_trans A4 ?_
  split<;>simp<;>omega
def afY{H:U}{v:Nat}{o:Ob}(h:H[v]? = some o):H=H.set v o:=by
 refine bM fun i=>?_
 rw[bA]
 split
 ·rename_i e;subst e;rw[if_pos (RQ h),h]
 ·rfl
def GH.of{H:U}{v:Nat}{o:Ob}(hv:H[v]? = some o)(hH:qM H.length H):GH H v:=⟨RQ hv,hH⟩
def f227(v gen:Nat)(a b:List fg)(H:U)(hv:H[v]? = some (.row 373 gen (cl fg.cells a)))(hH:qM H.length H)(ha:∀ s∈a,Small s.p)(hb:∀ s∈b,Small s.p)(hl:a.length+b.length<2 ^ 39):Wf T 283 [.eX v gen 8 0 a.length,jH b] H (fun d H'=>∃ Hh,d = .eX v Hh 8 0 (lh a b).length∧H'=H.set v (.row 373 Hh (cl fg.cells (lh a b)))):=by
 have hg:=GH.of hv hH
 have uj:=hg.lt
 refine Yg Fh ?_
 simp[Fh]
 refine fh.j ((0,gen,a):Int×Nat×List fg) (fun x=>[(0,.eX v x.2.1 8 0 x.2.2.length),(1,jH b),(5,.i x.1)]) (fun x=>H.set v (.row 373 x.2.1 (cl fg.cells x.2.2))) (fun x=>0≤x.1∧x.1≤b.length∧x.2.2.length≤a.length+x.1.toNat∧(∀ s∈x.2.2,Small s.p)∧lh x.2.2 (b.drop x.1.toNat)=lh a b) (fun x=>b.length-x.1.toNat) ?_ (by simp) (afY hv) rfl ?_
 ·simp;exact ha
 rintro⟨i,gn,l⟩ ⟨h0,h1,h2,h3,h4⟩
 dsimp only at h0 h1 h2 h3 h4 ⊢
 simp
 (with_reducible repeat' first|refine Xk ?_<;>try simp|refine Xs ?_ ?_<;>intro h<;>(try intro h')<;>(try simp[h])<;>try omega|refine Xg ?_|omega)
 ·refine fh.j ((0,false):Int×Bool) (fun x=>[(0,.eX v gn 8 0 l.length),(1,jH b),(5,.i i),(6,.b x.2),(7,.i x.1)]) (fun x=>H.set v (.row 373 gn (cl fg.cells l))) (fun x=>0≤x.1∧x.1≤l.length∧x.2=decide (gt b i∈l.take x.1.toNat)) (fun x=>l.length-x.1.toNat) ?_ (by simp) rfl rfl ?_
  ·simp
  rintro⟨k,found⟩ ⟨g0,g1,g2⟩
  dsimp only at g0 g1 g2 ⊢
  simp[hg]
  (with_reducible repeat' first|refine Xk ?_<;>try simp[hg]|refine Xs ?_ ?_<;>intro h<;>(try intro h')<;>(try simp[h,hg])<;>try omega|refine Xg ?_|omega)
  ·rw[iD g0 (by assumption)];simp_all
  ·refine Yt (f250 _ _ (h3 _ (ft g0 (by assumption))) (hb _ (ft h0 (by assumption)))) ?_
   simp
   simp only[h,cond_false]
   refine ql ⟨k+1,?_⟩
   rw[iD g0 (by assumption)]
   by_cases e:gt l k=gt b i
   ·right;simp[e];omega
   ·left;simp_all
    exact fQ (fun e'=>e e'.symm)
  ·refine⟨i+1,l,rfl,rfl,rfl,by omega,by omega,by omega,by omega,h3,?_⟩
   rw[← h4,mM h0 (by assumption),lh,show(i+1).toNat=i.toNat+1 by omega]
   rw[if_pos]
   rw[g2,ky (by omega)]at h
   simpa using h
  ·refine⟨i+1,l ++ [gt b i],by simp,rfl,by simp,by omega,by omega,by omega,by simp;omega,?_,?_⟩
   ·intro s hs
    simp at hs
    rcases hs with hs|rfl
    ·exact h3 s hs
    ·exact hb _ (ft h0 (by assumption))
   ·rw[← h4,mM h0 (by assumption),lh,show(i+1).toNat=i.toNat+1 by omega]
    rw[if_neg]
    rw[g2,ky (by omega)]at h
    simpa using h
 ·rw[bh (by omega)]at h4
  have e:lh l []=l:=rfl
  rw[e]at h4
  rw[← h4]
  exact⟨rfl,rfl⟩
