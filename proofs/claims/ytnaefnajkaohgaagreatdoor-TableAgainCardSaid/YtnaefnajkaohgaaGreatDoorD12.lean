/- Part 12 of the proof of skewer.skewerlaw15.TableAgain. -/
import Derived.Test.YtnaefnajkaohgaaGreatDoorD11
set_option linter.all false
namespace Go.AL
open Go
def lS(n:Nat):D→Bool
 | .eN v _ _ _ _ | .ptr v _ _ | .omap v | .gO v=>decide (v<n)
 | d=>closed d
def jQ(n:Nat):D→Bool
 | .agg cs | .tup cs | .eZ cs=>cs.all (lS n)
 | .fn _ a b=>a.all (lS n)&&b.all (lS n)
 | d=>lS n d
def qy(n:Nat):Ob→Bool
 | .row _ _ cs=>cs.all (jQ n)
 | .map _ es=>es.all fun x=>jQ n x.2
 | .fZ _ env _=>env.all fun x=>jQ n x.2
 | .oX _ _=>true
 | .jt m _ _=>lS n m
 | .jL=>true
 | .dead=>true
 | .hole=>false
def pr(n:Nat)(H:U):Prop:=∀ o∈H,qy n o=true
theorem Ka{ρ:Nat→Option Nat}{H:U}{n k:Nat}(kR:∀ u,u<n→ρ u=some u){d:D}(h:lS n d=true):eS ρ H (k+1) d=d:=by
 cases d with
 | eN v g sz off len=>simp only[lS,decide_eq_true_eq]at h;rw[Gl,kR v h,Qc]
 | ptr v g off=>simp only[lS,decide_eq_true_eq]at h;rw[acm,kR v h,acg]
 | omap v=>simp only[lS,decide_eq_true_eq]at h;rw[ack,kR v h,acf]
 | gO v=>
  simp only[lS,decide_eq_true_eq]at h
  rw[eS,if_neg (by simp)]
  rw[kR v h]
 | _=>exact mf h
theorem Ax{ρ:Nat→Option Nat}{H:U}{n k:Nat}(kR:∀ u,u<n→ρ u=some u){cs:List D}(h:cs.all (lS n)=true):cs.map (eS ρ H (k+1))=cs:=by
 conv=>rhs;rw[← aR cs]
 exact aj fun d hd=>Ka kR (ao.1 h d hd)
theorem A8{ρ:Nat→Option Nat}{H:U}{n k:Nat}(kR:∀ u,u<n→ρ u=some u){d:D}(h:jQ n d=true):eS ρ H (k+2) d=d:=by
 cases d with
 | agg cs=>rw[aci,Ax kR h]
 | tup cs=>rw[acn,Ax kR h]
 | eZ cs=>
  by_cases hc:closed (.eZ cs)=true
  ·exact mf hc
  ·rw[eS,if_neg hc,Ax kR h]
 | fn f a b=>
  simp only[jQ,ah]at h
  by_cases hc:closed (.fn f a b)=true
  ·exact mf hc
  ·rw[eS,if_neg hc,Ax kR h.1,Ax kR h.2]
 | _=>exact Ka kR h
theorem ach{ρ:Nat→Option Nat}{H:U}{n:Nat}(kR:∀ u,u<n→ρ u=some u){o:Ob}(h:qy n o=true):lz ρ H o=o:=by
 have key:∀ {α:Type} (l:List (α×D)),(l.all fun x=>jQ n x.2)=true→(l.map fun x=>(x.1,eS ρ H 40 x.2))=l:=by
  intro α l hl
  conv=>rhs;rw[← aR l]
  exact aj fun x hx=>by
   have:=ao.1 hl x hx
   rw[A8 kR this];rfl
 cases o with
 | row t g cs=>
  simp only[lz]
  congr 1
  conv=>rhs;rw[← aR cs]
  exact aj fun d hd=>A8 kR (ao.1 h d hd)
 | map kk es=>simp only[lz];rw[key es h]
 | fZ rf env st=>simp only[lz];rw[key env h]
 | oX=>rfl
 | jt m since seen=>simp only[lz];rw[Ka kR h]
 | jL=>rfl
 | dead=>rfl
 | hole=>cases h
theorem A1{n u:Nat}(h:u<n):fM (gh n []) u=some u:=by
 unfold fM gh
 rw[List.map_nil,aw]
 rw[bY]
 refine⟨by simpa using h,by simp,fun j hj=>by simp;omega⟩
theorem J9{n:Nat}{H G:U}(hn:H.length=n)(h:pr n H):mF (gh n []) (H++G)=H:=by
 unfold mF
 refine bK fun i=>?_
 rw[ar]
 unfold gh
 rw[List.map_nil,aw,ar]
 by_cases hi:i<n
 ·rw[bX hi]
  simp only[aX,if_true]
  rw[ag (by omega),List.getElem?_eq_getElem (by omega)]
  simp only
  congr 1
  have e:((List.range n).map fun v=>(v,true))=gh n []:=by unfold gh;simp
  rw[e]
  exact ach (fun u hu=>A1 hu) (h _ (bH _))
 ·rw[aG (by simp;omega),aG (by omega)];rfl
theorem Gz{n:Nat}{d:D}(h:jQ n d=true):gE n d = []:=by
 cases d<;>first|rfl|(simp only[jQ,lS,decide_eq_true_eq]at h;simp only[gE];rw[if_neg (by omega)])
theorem flatten_nil{α β:Type}{f:α→List β}:∀ {l:List α},(∀ a∈l,f a = [])→(l.map f).flatten = []
 | [],_=>rfl
 | a::l,h=>by rw[List.map_cons,aQ,h a (by simp),flatten_nil fun b hb=>h b (by simp[hb])];rfl
theorem Xf{n:Nat}{o:Ob}(h:qy n o=true):mc n o = []:=by
 cases o with
 | row t g cs=>exact flatten_nil fun d hd=>Gz (ao.1 h d hd)
 | map kk es=>exact flatten_nil fun x hx=>Gz (ao.1 h x hx)
 | _=>rfl
theorem R2{n:Nat}{live:List Nat}{env:Env}{H G:U}{m:List Nat}{r:Bool}(hn:H.length=n)(hH:pr n H)(he:((forget live env).all fun p=>jQ n p.2)=true)(hm:(m.all fun v=>decide (v<n))=true) :
  cut n live { env:=env,H:=H++G,marks:=m,fL:=r } = { env:=forget live env,H:=H,marks:=m,fL:=r }:=by
 by_cases hg:(H++G).length≤n
 ·have:G = []:=by
   cases G with
   | nil=>rfl
   | cons a l=>simp at hg;omega
  subst this
  rw[aw]
  exact DY (by show H.length≤n;omega)
 ·unfold cut
  dsimp only
  rw[if_neg hg]
  have e1:((forget live env).map fun p=>gE n p.2).flatten = []:=flatten_nil fun p hp=>Gz (ao.1 he p hp)
  have e2:(((H++G).take n).map (mc n)).flatten = []:=flatten_nil fun o ho=>by
   rw[bI (by omega),aH (by omega)]at ho
   exact Xf (hH o ho)
  have e3:m.filter (n≤·) = []:=by
   rw[cL]
   intro v hv
   have:=ao.1 hm v hv
   simp at this ⊢;omega
  rw[e1,e2,e3]
  have e4:dedup (([] ++ [] ++ []:List Nat).filter (· < (H++G).length)) = []:=rfl
  rw[e4,J9 hn hH]
  congr 1
  ·conv=>rhs;rw[← aR (forget live env)]
   exact aj fun p hp=>by
    rw[A8 (fun u hu=>A1 hu) (ao.1 he p hp)];rfl
  ·conv=>rhs;rw[← aR m]
   exact aj fun v hv=>by
    have:=ao.1 hm v hv
    rw[A1 (by simpa using this)];rfl
theorem aaL{n v:Nat}{H:U}{o:Ob}(h:pr n H)(ho:qy n o=true):pr n (H.set v o):=fun x hx=>by
 rcases List.mem_or_eq_of_mem_set hx with hx|rfl
 ·exact h x hx
 ·exact ho
theorem xY{n:Nat}{d:D}(h:closed d=true):lS n d=true:=by
 cases d<;>first|exact h|(cases h;done)|(simp only[closed]at h;cases h)
theorem Qh{n:Nat}{d:D}(h:closed d=true):jQ n d=true:=by
 cases d with
 | agg cs=>exact ao.2 fun d hd=>xY (jX (by simpa using h) d hd)
 | tup cs=>exact ao.2 fun d hd=>xY (jX (by simpa using h) d hd)
 | eZ cs=>exact ao.2 fun d hd=>xY (jX (by simpa using h) d hd)
 | fn f a b=>
  simp only[G8,ah]at h
  simp only[jQ,ah]
  exact⟨ao.2 fun d hd=>xY (jX h.1 d hd),ao.2 fun d hd=>xY (jX h.2 d hd)⟩
 | _=>exact xY (n:=n) h
@[simp] theorem alR{n:Nat}{d:D}(h:closed d=true):jQ n d=true:=Qh h
@[simp] theorem alV(n v g sz off len:Nat):jQ n (.eN v g sz off len)=decide (v<n):=rfl
@[simp] theorem alW(n v g off:Nat):jQ n (.ptr v g off)=decide (v<n):=rfl
@[simp] theorem alU(n v:Nat):jQ n (.omap v)=decide (v<n):=rfl
@[simp] theorem alQ(n:Nat)(cs:List D):jQ n (.agg cs)=cs.all (lS n):=rfl
@[simp] theorem alX(n:Nat)(cs:List D):jQ n (.tup cs)=cs.all (lS n):=rfl
@[simp] theorem alZ(n v g sz off len:Nat):lS n (.eN v g sz off len)=decide (v<n):=rfl
@[simp] theorem al0(n v g off:Nat):lS n (.ptr v g off)=decide (v<n):=rfl
@[simp] theorem alS(n:Nat)(f:Fn)(a b:List D):jQ n (.fn f a b)=(a.all (lS n)&&b.all (lS n)):=rfl
@[simp high] theorem Wd{α:Type}[Inhabited α]{f:α→List D}{sz:Nat}[F:Fl f sz]{l:List α}{t:TypeId}{n:Int}(hz:0<sz):tY sz (n.toNat*sz) (some (t,cl f l))=if n.toNat<l.length then some (.agg (f (gt l n)))else none:=by
 have h:=Xd (f:=f) (l:=l) (t:=t) (n:=n) (P:=fun d=>d = .agg (f (gt l n))) hz
 simp only[and_true]at h
 by_cases hn:n.toNat<l.length
 ·rw[if_pos hn]
  obtain⟨d,h1,h2⟩:=h.mpr hn
  rw[h1,h2]
 ·rw[if_neg hn]
  unfold tY
  dsimp only
  rw[if_neg]
  rw[yY,← bR,ei hz]
  omega
section
variable{T:gb}{a b:IR}{s:St}{K:gv}{id n:Nat}{live:List Nat}
@[simp ↓] theorem ajO:FQ T b K (.norm s)=Wc T b s K:=(rfl)
@[simp ↓] theorem ajN:FQ T b K (.exit id s)=K (.exit id s):=(rfl)
@[simp ↓] theorem ajP:FQ T b K (.ret s)=K (.ret s):=(rfl)
end
def LJ{α:Type}(E:α→Env)(Hp:α→U)(ms:List Nat)(rd:Bool)(Q:α→Prop)(_:Tag (E,Hp,ms,rd,Q))(e:Env)(H:U)(m:List Nat)(r:Bool):Prop:=
 ∃ x',e=E x'∧H=Hp x'∧m=ms∧r=rd∧Q x'
theorem LJ.e{α:Type}{E:α→Env}{Hp:α→U}{ms:List Nat}{rd:Bool}{Q:α→Prop}{t:Tag (E,Hp,ms,rd,Q)}{e:Env}{H:U}{m:List Nat}{r:Bool}(x':α)(h5:Q x')(h1:e=E x':=by first|rfl|simp)(h2:H=Hp x':=by first|rfl|simp)(h3:m=ms:=by exact rfl)(h4:r=rd:=by exact rfl):LJ E Hp ms rd Q t e H m r:=⟨x',h1,h2,h3,h4,h5⟩
theorem LJ.i{α:Type}{E:α→Env}{Hp:α→U}{ms:List Nat}{rd:Bool}{Q:α→Prop}{t:Tag (E,Hp,ms,rd,Q)}{e:Env}{H:U}{m:List Nat}{r:Bool}(x':α)(h1:e=E x')(h2:H=Hp x')(h3:m=ms)(h4:r=rd)(h5:Q x'):LJ E Hp ms rd Q t e H m r:=⟨x',h1,h2,h3,h4,h5⟩
section
variable{T:gb}{live:List Nat}{a:IR}{s:St}{K:gv}{α:Type}
theorem eW.k(x0:α)(E:α→Env)(Hp:α→U)(P:α→Prop)(μ:α→Nat)
  (h0:P x0) (hE:forget ((E x0).map (·.1)) s.env=E x0) (hH:s.H=Hp x0) (hm:s.marks = []) (hr:s.fL=false) (sv:(((E x0).map (·.1)).all fun k=>live.contains k)=true)
  (h:∀ x,P x→XC T a { env:=E x,H:=Hp x } (sJ s.H.length live ((E x0).map (·.1)) (LJ E Hp [] false (fun x'=>μ x'<μ x∧P x') .mk) K)):eW T live a s K .mk:=
 eW.j x0 E Hp P μ h0 hE hH sv (by rw[hm,hr];exact h)
end
@[simp] theorem agO{α:Type}{f:α→List D}[Fl f 1](l:List α)(n:Nat):(cl f l).take n=cl f (l.take n):=by simpa using rZ (f:=f) l n
@[simp] theorem agL{α:Type}{f:α→List D}[Fl f 1](l:List α)(n:Nat):(cl f l).drop n=cl f (l.drop n):=by simpa using rY (f:=f) l n
@[simp] theorem aiL(K:List Nat):gh 5 K=(0,true)::(1,true)::(2,true)::(3,true)::(4,true)::K.map fun v=>(v,true):=rfl
@[simp] theorem aiM(K:List Nat):gh 6 K=(0,true)::(1,true)::(2,true)::(3,true)::(4,true)::(5,true)::K.map fun v=>(v,true):=rfl
@[simp] theorem aiN(K:List Nat):gh 7 K=(0,true)::(1,true)::(2,true)::(3,true)::(4,true)::(5,true)::(6,true)::K.map fun v=>(v,true):=rfl
@[simp] theorem aiO(K:List Nat):gh 8 K=(0,true)::(1,true)::(2,true)::(3,true)::(4,true)::(5,true)::(6,true)::(7,true)::K.map fun v=>(v,true):=rfl
@[simp] theorem aiP(K:List Nat):gh 9 K=(0,true)::(1,true)::(2,true)::(3,true)::(4,true)::(5,true)::(6,true)::(7,true)::(8,true)::K.map fun v=>(v,true):=rfl
@[simp] theorem aiu(K:List Nat):gh 10 K=(0,true)::(1,true)::(2,true)::(3,true)::(4,true)::(5,true)::(6,true)::(7,true)::(8,true)::(9,true)::K.map fun v=>(v,true):=rfl
@[simp] theorem aiv(K:List Nat):gh 11 K=(0,true)::(1,true)::(2,true)::(3,true)::(4,true)::(5,true)::(6,true)::(7,true)::(8,true)::(9,true)::(10,true)::K.map fun v=>(v,true):=rfl
@[simp] theorem aiw(K:List Nat):gh 12 K=(0,true)::(1,true)::(2,true)::(3,true)::(4,true)::(5,true)::(6,true)::(7,true)::(8,true)::(9,true)::(10,true)::(11,true)::K.map fun v=>(v,true):=rfl
@[simp] theorem aix(K:List Nat):gh 13 K=(0,true)::(1,true)::(2,true)::(3,true)::(4,true)::(5,true)::(6,true)::(7,true)::(8,true)::(9,true)::(10,true)::(11,true)::(12,true)::K.map fun v=>(v,true):=rfl
@[simp] theorem aiy(K:List Nat):gh 14 K=(0,true)::(1,true)::(2,true)::(3,true)::(4,true)::(5,true)::(6,true)::(7,true)::(8,true)::(9,true)::(10,true)::(11,true)::(12,true)::(13,true)::K.map fun v=>(v,true):=rfl
@[simp] theorem aiz(K:List Nat):gh 15 K=(0,true)::(1,true)::(2,true)::(3,true)::(4,true)::(5,true)::(6,true)::(7,true)::(8,true)::(9,true)::(10,true)::(11,true)::(12,true)::(13,true)::(14,true)::K.map fun v=>(v,true):=rfl
@[simp] theorem aiA(K:List Nat):gh 16 K=(0,true)::(1,true)::(2,true)::(3,true)::(4,true)::(5,true)::(6,true)::(7,true)::(8,true)::(9,true)::(10,true)::(11,true)::(12,true)::(13,true)::(14,true)::(15,true)::K.map fun v=>(v,true):=rfl
@[simp] theorem aiB(K:List Nat):gh 17 K=(0,true)::(1,true)::(2,true)::(3,true)::(4,true)::(5,true)::(6,true)::(7,true)::(8,true)::(9,true)::(10,true)::(11,true)::(12,true)::(13,true)::(14,true)::(15,true)::(16,true)::K.map fun v=>(v,true):=rfl
@[simp] theorem aiC(K:List Nat):gh 18 K=(0,true)::(1,true)::(2,true)::(3,true)::(4,true)::(5,true)::(6,true)::(7,true)::(8,true)::(9,true)::(10,true)::(11,true)::(12,true)::(13,true)::(14,true)::(15,true)::(16,true)::(17,true)::K.map fun v=>(v,true):=rfl
@[simp] theorem aiD(K:List Nat):gh 19 K=(0,true)::(1,true)::(2,true)::(3,true)::(4,true)::(5,true)::(6,true)::(7,true)::(8,true)::(9,true)::(10,true)::(11,true)::(12,true)::(13,true)::(14,true)::(15,true)::(16,true)::(17,true)::(18,true)::K.map fun v=>(v,true):=rfl
@[simp] theorem aiF(K:List Nat):gh 20 K=(0,true)::(1,true)::(2,true)::(3,true)::(4,true)::(5,true)::(6,true)::(7,true)::(8,true)::(9,true)::(10,true)::(11,true)::(12,true)::(13,true)::(14,true)::(15,true)::(16,true)::(17,true)::(18,true)::(19,true)::K.map fun v=>(v,true):=rfl
@[simp] theorem aiG(K:List Nat):gh 21 K=(0,true)::(1,true)::(2,true)::(3,true)::(4,true)::(5,true)::(6,true)::(7,true)::(8,true)::(9,true)::(10,true)::(11,true)::(12,true)::(13,true)::(14,true)::(15,true)::(16,true)::(17,true)::(18,true)::(19,true)::(20,true)::K.map fun v=>(v,true):=rfl
@[simp] theorem aiH(K:List Nat):gh 22 K=(0,true)::(1,true)::(2,true)::(3,true)::(4,true)::(5,true)::(6,true)::(7,true)::(8,true)::(9,true)::(10,true)::(11,true)::(12,true)::(13,true)::(14,true)::(15,true)::(16,true)::(17,true)::(18,true)::(19,true)::(20,true)::(21,true)::K.map fun v=>(v,true):=rfl
@[simp] theorem aiI(K:List Nat):gh 23 K=(0,true)::(1,true)::(2,true)::(3,true)::(4,true)::(5,true)::(6,true)::(7,true)::(8,true)::(9,true)::(10,true)::(11,true)::(12,true)::(13,true)::(14,true)::(15,true)::(16,true)::(17,true)::(18,true)::(19,true)::(20,true)::(21,true)::(22,true)::K.map fun v=>(v,true):=rfl
@[simp] theorem amr{α:Type}{l:List α}{n:Nat}(h:l.length=n):l.take n=l:=aH (by omega)
@[simp] theorem al3(a b:List Pos):D.sl 5 (a.map Pos.cells++b.map Pos.cells)=fW (a++b):=by unfold fW;rw[List.map_append]
def Ey{α:Type}(g:α→D)(Q:α→Prop)(d:D)(H:U):Prop:=Ex g Q d H
theorem Ey.i{α:Type}{g:α→D}{Q:α→Prop}{d:D}{H:U}(x:α)(h1:d=g x)(h2:H = [])(h3:Q x):Ey g Q d H:=⟨x,h1,h2,h3⟩
def HK(ρ:Nat→Option Nat)(H:U)(k off:Nat):Option (TypeId×List D)→D
 | some (_,cs)=>.eZ ((cs.drop off).map (eS ρ H k))
 | none=>.any
@[simp] theorem alA(H:U)(k:Nat)(ρ:Nat→Option Nat)(v g off:Nat):A7 H k ρ v g off none=HK ρ H k off (rowAt H v g):=by unfold A7 HK;rfl
@[simp] theorem ahT(ρ:Nat→Option Nat)(H:U)(k off:Nat)(t:TypeId)(cs:List D):HK ρ H k off (some (t,cs)) = .eZ ((cs.drop off).map (eS ρ H k)):=rfl
structure GH(H:U)(v:Nat):Prop where
 lt:v<H.length
 ok:pr H.length H
section
variable{H G:U}{v:Nat}{o o':Ob}
@[simp] theorem GH.get(h:GH H v):(H.set v o)[v]? = some o:=dv h.lt
@[simp] theorem GH.ah6(h:GH H v):(H.set v o++G)[v]? = some o:=by
 rw[ag (by rw[bN];exact h.lt)];exact h.get
@[simp high] theorem GH.cut(h:GH H v){live:List Nat}{env:Env}{r:Bool}(ho:qy H.length o=true)(he:((forget live env).all fun p=>jQ H.length p.2)=true) :
  Go.AL.cut H.length live { env:=env,H:=H.set v o++G,marks:=[],fL:=r } = { env:=forget live env,H:=H.set v o,marks:=[],fL:=r }:=R2 (bN ..) (aaL h.ok ho) he rfl
@[simp] theorem GH.lt_eq(h:GH H v):(v<H.length)=True:=eq_true h.lt
end
@[simp] theorem akn(n:Nat):pr n []=True:=eq_true fun _ h=>by cases h
@[simp] theorem akm(n:Nat)(o:Ob)(r:U):pr n (o::r)=(qy n o=true∧pr n r):=propext ⟨fun h=>⟨h o (by simp),fun x hx=>h x (by simp[hx])⟩,fun h x hx=>by
 rcases au.1 hx with rfl|hx
 ·exact h.1
 ·exact h.2 x hx⟩
@[simp] theorem aks(n t g:Nat)(cs:List D):qy n (.row t g cs)=cs.all (jQ n):=rfl
@[simp] theorem ako(n:Nat):qy n .dead=true:=rfl
@[simp] theorem akq(n:Nat)(kk:KK)(es:List (Value×D)):qy n (.map kk es)=es.all fun x=>jQ n x.2:=rfl
@[simp] theorem afk{n:Nat}{α:Type}{f:α→List D}{sz:Nat}[F:Fl f sz](l:List α):(cl f l).all (jQ n)=true:=
 ao.2 fun d hd=>Qh (jX (qb l) d hd)
section
variable{H G:U}{v k:Nat}{o:Ob}
theorem OM(h:H[v]? = some o):v<H.length:=by
 rcases bh v H.length with h'|h'
 ·exact h'
 ·rw[aG h']at h;cases h
end
end Go.AL
namespace Go.Proofs.YtnaefnajkaohgaaGreatDoor
open Go Go.AL Classical
set_option maxRecDepth 10000
set_option maxHeartbeats 1000000
theorem WN{n:Int}{k:Nat}(h0:0≤n)(h1:n≤2*k)(hk:k≤2):ff n<0↔n=0:=by
 unfold ff;split<;>omega
theorem WO{n s:Int}(h:0≤ff n)(hs:0≤s∧s≤1):iu n=1-s↔¬ iu n=s:=by
 unfold ff at h
 unfold iu
 split at h
 ·rename_i e;rw[if_pos e];omega
 ·omega
theorem Ju{n s:Int}(h:¬ 0≤ff n)(hs:0≤s∧s≤1):¬ iu n=1-s∧¬ iu n=s:=by
 unfold ff at h
 unfold iu
 split at h
 ·omega
 ·rename_i e;rw[if_neg e];omega
theorem f228(g:eO)(hg:fi g)(s:eV)(hs:ix g s)(x:eT)(hx:uJ g x):Wf T 228 [dG g,.agg s.cells,.agg [.i x.1,.i x.2]] [] (Is (iH (gw g s x))):=by
 have gj:=hs.p.size
 have kz:=hs.cur
 have jl:=hs.p.small hg
 have ht:=hg.gV.to s.p.side x.2 s.cur
 have gQ:=hs.p.cs _ (eY kz.1 (by omega))
 have gA:=hs.p.side
 have hk:=WN gQ.1 gQ.2 hg.kinds.2
 have hr:=hs.p.fg
 have pb:=hg.fg
 have kj:=hx.ok
 refine Yg Cz ?_
 simp[Cz]
 (with_reducible repeat' first|refine Xk ?_<;>try simp|refine Xs ?_ ?_<;>intro h<;>(try intro h')<;>(try simp[h])<;>(try omega)|refine Xg ?_|omega)
 refine Yc (f51 _) ?_
 simp
 (with_reducible repeat' first|refine Xk ?_<;>try simp|refine Xs ?_ ?_<;>intro h<;>(try intro h')<;>(try simp[h])<;>(try omega)|refine Xg ?_|omega)
 ·refine Yc (f251 g hg.gV s.p.side x.2 s.cur) ?_
  simp
  refine Yc (f252 { s with cur:=jo g s.p.side x.2 s.cur } _) ?_
  simp
  simp[gw,h]
 ·refine Yc (f253 g hg s hs x.2) ?_
  simp
  simp[gw,h]
 ·refine Yc (f252 s _) ?_
  simp
  simp[gw,h,hk]
 ·refine Yc (f252 s _) ?_
  simp
  have h1:=WO (by assumption) gA
  simp[gw, *]
 ·refine Yc (f252 s _) ?_
  simp
  have h1:=Ju (by assumption) gA
  simp[gw, *]
 ·refine Yc (f252 s _) ?_
  simp
  simp[gw, *]
 ·refine Yc (f252 s _) ?_
  simp
  have h1:=Ju (by assumption) gA
  simp[gw, *]
 ·refine Yc (f254 g hg s hs) ?_
  simp
  simp[gw, *]
 ·refine Yc (f255 g hg s hs x.2) ?_
  simp
  simp[gw, *]
 ·simp[gw, *]
 ·refine Yt (f252 s _) ?_
  simp
  have h2:=xO pb.1 (by omega)
  have h3:=PS (r:=s.p.fg) (n:=x.2) hr.1 (by omega) (by omega) (by omega)
  simp[gw,h3, *]
 ·have h2:=xO pb.1 (by omega)
  have h3:=PT (r:=s.p.fg) (n:=x.2) hr.1 (by omega) (by omega) (by omega)
  simp[gw,h3, *]
def jI(a:List eV):List eV→List eV
 | []=>a
 | x::r=>jI (if x∈a then a else a ++ [x]) r
theorem yI:∀ {b a:List eV} {x:eV},x∈jI a b↔x∈a∨x∈b
 | [],a,x=>by simp[jI]
 | y::r,a,x=>by
  unfold jI
  rw[yI]
  split<;>simp
  ·constructor
   ·rintro(h|h)<;>simp[h]
   ·rintro(h|rfl|h)<;>simp[*]
  ·constructor
   ·rintro((h|h)|h)<;>simp[h]
   ·rintro(h|rfl|h)<;>simp[*]
theorem yH:∀ {b a:List eV},(jI a b).length≤a.length+b.length
 | [],a=>by simp[jI]
 | y::r,a=>by
  unfold jI
  refine Nat.le_trans yH ?_
  split<;>simp<;>omega
theorem acd{H:U}{v:Nat}{o:Ob}(h:H[v]? = some o):H=H.set v o:=by
 refine bK fun i=>?_
 rw[bC]
 split
 ·rename_i e;subst e;rw[if_pos (OM h),h]
 ·rfl
theorem GH.of{H:U}{v:Nat}{o:Ob}(hv:H[v]? = some o)(hH:pr H.length H):GH H v:=⟨OM hv,hH⟩
theorem f227(v gen:Nat)(a b:List eV)(H:U)(hv:H[v]? = some (.row 282 gen (cl eV.cells a)))(hH:pr H.length H)(ha:∀ s∈a,Small s.p)(hb:∀ s∈b,Small s.p)(hl:a.length+b.length<2 ^ 39):Wf T 227 [.eN v gen 8 0 a.length,iH b] H (fun d H'=>∃ Eo,d = .eN v Eo 8 0 (jI a b).length∧H'=H.set v (.row 282 Eo (cl eV.cells (jI a b)))):=by
 have hg:=GH.of hv hH
 have oj:=hg.lt
 refine Yg Cy ?_
 simp[Cy]
 refine eW.j ((0,gen,a):Int×Nat×List eV) (fun x=>[(0,.eN v x.2.1 8 0 x.2.2.length),(1,iH b),(5,.i x.1)]) (fun x=>H.set v (.row 282 x.2.1 (cl eV.cells x.2.2))) (fun x=>0≤x.1∧x.1≤b.length∧x.2.2.length≤a.length+x.1.toNat∧(∀ s∈x.2.2,Small s.p)∧jI x.2.2 (b.drop x.1.toNat)=jI a b) (fun x=>b.length-x.1.toNat) ?_ (by simp) (acd hv) rfl ?_
 ·simp;exact ha
 rintro⟨i,gn,l⟩ ⟨h0,h1,h2,h3,h4⟩
 dsimp only at h0 h1 h2 h3 h4 ⊢
 simp
 (with_reducible repeat' first|refine Xk ?_<;>try simp|refine Xs ?_ ?_<;>intro h<;>(try intro h')<;>(try simp[h])<;>(try omega)|refine Xg ?_|omega)
 ·refine eW.j ((0,false):Int×Bool) (fun x=>[(0,.eN v gn 8 0 l.length),(1,iH b),(5,.i i),(6,.b x.2),(7,.i x.1)]) (fun x=>H.set v (.row 282 gn (cl eV.cells l))) (fun x=>0≤x.1∧x.1≤l.length∧x.2=decide (gt b i∈l.take x.1.toNat)) (fun x=>l.length-x.1.toNat) ?_ (by simp) rfl rfl ?_
  ·simp
  rintro⟨k,found⟩ ⟨g0,g1,g2⟩
  dsimp only at g0 g1 g2 ⊢
  simp[hg]
  (with_reducible repeat' first|refine Xk ?_<;>try simp[hg]|refine Xs ?_ ?_<;>intro h<;>(try intro h')<;>(try simp[h,hg])<;>(try omega)|refine Xg ?_|omega)
  ·rw[gx g0 (by assumption)];simp_all
  ·refine Yt (f250 _ _ (h3 _ (eY g0 (by assumption))) (hb _ (eY h0 (by assumption)))) ?_
   simp
   simp only[h,cond_false]
   refine⟨by omega,by omega,k+1,?_⟩
   rw[gx g0 (by assumption)]
   by_cases e:gt l k=gt b i
   ·right;simp[e];omega
   ·left;simp_all
    exact⟨by omega,by omega,by omega,fun e'=>e e'.symm⟩
  ·refine⟨i+1,l,rfl,rfl,rfl,by omega,by omega,by omega,by omega,h3,?_⟩
   rw[← h4,lk h0 (by assumption),jI,show(i+1).toNat=i.toNat+1 by omega]
   rw[if_pos]
   rw[g2,jg (by omega)]at h
   simpa using h
  ·refine⟨i+1,l ++ [gt b i],by simp,rfl,by simp,by omega,by omega,by omega,by simp;omega,?_,?_⟩
   ·intro s hs
    simp at hs
    rcases hs with hs|rfl
    ·exact h3 s hs
    ·exact hb _ (eY h0 (by assumption))
   ·rw[← h4,lk h0 (by assumption),jI,show(i+1).toNat=i.toNat+1 by omega]
    rw[if_neg]
    rw[g2,jg (by omega)]at h
    simpa using h
 ·rw[bp (by omega)]at h4
  have e:jI l []=l:=rfl
  rw[e]at h4
  rw[← h4]
  exact⟨rfl,rfl⟩
end Go.Proofs.YtnaefnajkaohgaaGreatDoor
namespace Go.AL
open Go Classical
theorem gW{α:Type}{f:α→List D}(a:α):cl f [a]=f a:=by rw[mH,Rz,aw]
theorem eW.e{T:gb}{live:List Nat}{a:IR}{s:St}{K:gv}{α:Type}(x0:α)(E:α→Env)(Hp:α→U)(P:α→Prop)(μ:α→Nat)(h0:P x0)
  (h:∀ x,P x→XC T a { env:=E x,H:=Hp x } (sJ s.H.length live ((E x0).map (·.1)) (LJ E Hp [] false (fun x'=>μ x'<μ x∧P x') .mk) K))
  (hE:forget ((E x0).map (·.1)) s.env=E x0:=by simp) (hH:s.H=Hp x0:=by first|rfl|(simp[gW];done)|(simp[*];done)) (hm:s.marks = []:=by exact rfl) (hr:s.fL=false:=by exact rfl) (sv:(((E x0).map (·.1)).all fun k=>live.contains k)=true:=by exact rfl):eW T live a s K .mk:=eW.k x0 E Hp P μ h0 hE hH hm hr sv h
theorem iZ.pw{l:List Pos}(h:iZ l):l.Pairwise fun x y=>gd x y<0:=by
 refine bk.2 fun i j hi hj vr=>?_
 have:=h.le (i:=(i:Int)) (j:=(j:Int)) (by omega) (by omega) (by omega)
 rwa [tB hi,tB hj]at this
theorem iZ.of{r:List Pos}(h:r.Pairwise fun x y=>gd x y<0):iZ r:=by
 intro i h1 h2
 rw[nL (by omega) (by omega),nL (by omega) (by omega)]
 exact bk.1 h _ _ _ _ (by omega)
theorem PE:∀ {a b:List Pos},(a.Pairwise fun x y=>gd x y<0)→(b.Pairwise fun x y=>gd x y<0)→(∀ q,q∈a↔q∈b)→a=b
 | [],[],_,_,_=>rfl
 | [],y::b,_,_,h=>by have:=(h y).2 (by simp);cases this
 | x::a,[],_,_,h=>by have:=(h x).1 (by simp);cases this
 | x::a,y::b,ha,hb,h=>by
  have od:=aL.1 ha
  have l3:=aL.1 hb
  have e:x=y:=by
   rcases au.1 ((h x).1 (by simp))with e|e
   ·exact e
   rcases au.1 ((h y).2 (by simp))with f|f
   ·exact f.symm
   have h1:=l3.1 x e
   have h2:=od.1 y f
   rw[qc]at h1
   omega
  subst e
  rw[PE od.2 l3.2 fun q=>?_]
  constructor
  ·intro hq
   rcases au.1 ((h q).1 (by simp[hq]))with e|e
   ·subst e;have:=od.1 q hq;rw[pH]at this;omega
   ·exact e
  ·intro hq
   rcases au.1 ((h q).2 (by simp[hq]))with e|e
   ·subst e;have:=l3.1 q hq;rw[pH]at this;omega
   ·exact e
theorem Qn{a b:List Pos}(ha:iZ a)(hb:iZ b)(h:∀ q,q∈a↔q∈b):a=b:=PE ha.pw hb.pw h
theorem RJ{x y:Pos}(h:x≠y)(h2:¬ gd x y<0):gd y x<0:=by
 have:gd x y≠0:=fun e=>h (nJ.1 e)
 rw[qc];omega
theorem Oc(x:Pos):∀ r:List Pos,(r.Pairwise fun x y=>gd x y<0)→∃ r':List Pos,(r'.Pairwise fun x y=>gd x y<0)∧∀ q,q∈r'↔q=x∨q∈r
 | [],_=>⟨[x],by simp,by simp⟩
 | y::r,h=>by
  have h':=aL.1 h
  by_cases e:x=y
  ·subst e;exact⟨x::r,h,by simp⟩
  by_cases hl:gd x y<0
  ·refine⟨x::y::r,aL.2 ⟨fun z hz=>?_,h⟩,by simp⟩
   rcases au.1 hz with rfl|hz
   ·exact hl
   ·exact tl hl (h'.1 z hz)
  ·obtain⟨r',h1,h2⟩:=Oc x r h'.2
   refine⟨y::r',aL.2 ⟨fun z hz=>?_,h1⟩,fun q=>?_⟩
   ·rcases(h2 z).1 hz with rfl|hz
    ·exact RJ e hl
    ·exact h'.1 z hz
   ·simp only[au,h2]
    constructor
    ·rintro(h|h|h)<;>simp[h]
    ·rintro(h|h|h)<;>simp[h]
theorem Gq:∀ l:List Pos,∃ r,iZ r∧∀ q,q∈r↔q∈l
 | []=>⟨[],fun i h1 h2=>by simp at h2;omega,by simp⟩
 | x::l=>by
  obtain⟨r,h1,h2⟩:=Gq l
  obtain⟨r',h3,h4⟩:=Oc x r h1.pw
  exact⟨r',iZ.of h3,fun q=>by rw[h4,h2,au]⟩
noncomputable def iL(l:List Pos):List Pos:=Classical.choose (Gq l)
theorem we(l:List Pos):iZ (iL l):=(cy (Gq l)).1
@[simp] theorem qE{l:List Pos}{q:Pos}:q∈iL l↔q∈l:=(cy (Gq l)).2 q
theorem Ql{l r:List Pos}(h:iZ r)(hm:∀ q,q∈r↔q∈l):r=iL l:=Qn h (we l) fun q=>by rw[hm,qE]
theorem xG{α:Type}[DecidableEq α]:∀ {l m:List α},l.Nodup→(∀ x∈l,x∈m)→l.length≤m.length
 | [],m,_,_=>by simp
 | a::l,m,hn,h=>by
  have hn:=ey.1 hn
  have h1:l.length≤(m.erase a).length:=xG hn.2 fun x hx=>by
   refine(List.mem_erase_of_ne ?_).2 (h x (by simp[hx]))
   rintro rfl;exact hn.1 hx
  rw[ej (h a (by simp))]at h1
  have:0<m.length:=dw (h a (by simp))
  simp;omega
theorem iZ.nodup{l:List Pos}(h:iZ l):l.Nodup:=h.pw.imp fun{a b} tI e=>by
 subst e;rw[pH]at tI;omega
theorem Gp(l:List Pos):(iL l).length≤l.length:=xG (iZ.nodup (we l)) fun x hx=>qE.1 hx
def ended(g:eO)(p:Pos):Prop:=∃ c∈g.clauses,iV p c
theorem AG{g:eO}{p:Pos}(h:¬ ended g p):∀ c∈g.clauses,¬ iV p c:=fun c hc hl=>h ⟨c,hc,hl⟩
def D5(g:eO)(p:Pos):List Pos:=(upto g.kinds.length).flatMap fun k=>(upto p.cs.length).map fun c=>iz p k c
theorem u7{α β:Type}{f:α→List β}{n:Nat}:∀ {l:List α},(∀ a∈l,(f a).length≤n)→(l.flatMap f).length≤l.length*n
 | [],_=>by simp
 | a::l,h=>by
  rw[List.flatMap_cons,ay,aJ,bR]
  have:=h a (by simp)
  have:=u7 (l:=l) fun b hb=>h b (by simp[hb])
  omega
theorem P8{g:eO}:∀ {l:List eT} {a:List eV},(nX g l a).length≤10 ^ l.length*a.length
 | [],a=>by simp[nX]
 | x::r,a=>by
  rw[nX]
  refine Nat.le_trans P8 ?_
  rw[aJ,dH,eI]
  refine dK _ ?_
  rw[c6]
  exact u7 fun s _=>x8
theorem abr{g:eO}(hg:fi g){p:Pos}(hp:fF g p):(mE g p).length≤3600000000:=by
 have hz:=hp.size
 have hb:=hg.gV.size
 have:(mE g p).length≤(upto p.cs.length).length*400000000:=by
  refine u7 fun c hc=>?_
  rw[pS]at hc
  unfold me
  split
  ·rename_i e
   have eX:=x7 hg hp hc.1 (by omega) e
   have hk:=hg.gu _ (eY (l:=g.kinds) eX.kind.1 eX.kind.2)
   have h2:((gt g.kinds (ff (gt p.cs c))).gu.flatMap (pT g p c)).length≤(gt g.kinds (ff (gt p.cs c))).gu.length*100000000:=by
    refine u7 fun l hl=>?_
    have h3:=(hk.2 l hl).len
    refine Nat.le_trans (c7 _ _) (Nat.le_trans P8 ?_)
    have:10 ^ l.length≤10 ^ 8:=cp (by decide) h3.2
    simpa using this
   have h4:(gt g.kinds (ff (gt p.cs c))).gu.length≤4:=hk.1
   omega
  ·simp
 have e:(upto p.cs.length).length=p.cs.length:=by simp[upto]
 rw[e]at this
 omega
theorem Sa{g:eO}(hg:fi g){p:Pos}(hp:fF g p):(D5 g p).length≤18:=by
 have hz:=hp.size
 have hb:=hg.gV.size
 have hk:=hg.kinds
 have:(D5 g p).length≤(upto g.kinds.length).length*9:=u7 fun k _=>by
  simp[upto];omega
 have e:(upto g.kinds.length).length=g.kinds.length:=by simp[upto]
 rw[e]at this
 omega
theorem WZ{g:eO}{p q:Pos}(h:mU g p q):q∈(mE g p).map (·.p)++D5 g p:=by
 obtain⟨_,h⟩:=h
 split at h
 ·exact List.mem_append.2 (.inl (av.2 ⟨_,h,rfl⟩))
 ·rcases h with⟨o,h,rfl⟩|⟨k,c,h1,h2,h3,h4,_,_,rfl⟩
  ·exact List.mem_append.2 (.inl (av.2 ⟨_,h,rfl⟩))
  ·exact List.mem_append.2 (.inr (aZ.2 ⟨k,pS.2 ⟨h1,h2⟩,av.2 ⟨c,pS.2 ⟨h3,h4⟩,rfl⟩⟩))
noncomputable def gM(g:eO)(p:Pos):List Pos:=iL (((mE g p).map (·.p)++D5 g p).filter fun q=>decide (mU g p q))
theorem W2(g:eO)(p:Pos):iZ (gM g p):=we _
@[simp] theorem vL{g:eO}{p q:Pos}:q∈gM g p↔mU g p q:=by
 unfold gM
 rw[qE,aI]
 simp only[decide_eq_true_eq]
 exact⟨fun h=>h.2,fun h=>⟨WZ h,h⟩⟩
theorem JJ{g:eO}{p:Pos}{r:List Pos}(h:iZ r)(hm:∀ q,q∈r↔mU g p q):r=gM g p:=Qn h (W2 g p) fun q=>by rw[hm,vL]
theorem JI{g:eO}{p:Pos}(h:ended g p):gM g p = []:=by
 refine cj.2 fun q hq=>?_
 obtain⟨c,hc,hl⟩:=h
 exact(vL.1 hq).1 c hc hl
@[irreducible] noncomputable def qx(g:eO)(p:Pos):D:=if ended g p then .emp else fW (gM g p)
theorem FH(g:eO)(p:Pos):(qx g p = .emp∧gM g p = [])∨qx g p=fW (gM g p):=by
 unfold qx
 split
 ·rename_i h;exact .inl ⟨rfl,JI h⟩
 ·exact .inr rfl
theorem FJ{g:eO}(hg:fi g){p:Pos}(hp:fF g p):(gM g p).length≤4000000000:=by
 refine Nat.le_trans (Gp _) (Nat.le_trans (List.length_filter_le _ _) ?_)
 have:=abr hg hp
 have:=Sa hg hp
 simp;omega
section
variable{g:eO}{p:Pos}{n:Int}{k:IntKind}{P:D→Prop}{H:U}
@[simp] theorem aha:closed (qx g p)=true:=by rcases FH g p with⟨h,_⟩|h<;>rw[h]<;>simp
@[simp] theorem ajg:nq .slice (qx g p) H=some (.i (gM g p).length):=by rcases FH g p with⟨h,e⟩|h<;>rw[h]<;>simp[*]
@[simp] theorem amk:jx 5 H (qx g p)=some (cl Pos.cells (gM g p),(gM g p).length):=by rcases FH g p with⟨h,e⟩|h<;>rw[h]<;>simp[*]
@[simp] theorem ajX:oA (mb 5 (qx g p) (.val (.int k n))) P .mk=((0≤n∧n<(gM g p).length)∧P (.eZ (gt (gM g p) n).cells)):=by
 rcases FH g p with⟨h,e⟩|h
 ·rw[h,e]
  simp only[mb,Pa,cI]
  refine propext ⟨fun h=>h.elim,fun⟨h,_⟩=>?_⟩
  have:=h.1;have:=h.2;simp at this;omega
 ·rw[h];exact sM
end
noncomputable def pI(g:eO)(p:Pos):Int:=if ended g p then(g.clauses.findIdx fun c=>decide (iV p c):Nat)else -1
theorem Mt{g:eO}{p:Pos}(h:ended g p):0≤pI g p∧pI g p<g.clauses.length∧gt g.clauses (pI g p)∈g.clauses:=by
 unfold pI
 rw[if_pos h]
 have:(g.clauses.findIdx fun c=>decide (iV p c))<g.clauses.length:=by
  rw[List.findIdx_lt_length]
  obtain⟨c,hc,hl⟩:=h
  exact⟨c,hc,by simpa using hl⟩
 exact⟨by omega,by omega,eY (by omega) (by omega)⟩
theorem Mu{g:eO}{p:Pos}(h:¬ ended g p):pI g p = -1:=by unfold pI;rw[if_neg h]
theorem Mv{g:eO}{p:Pos}:0≤pI g p↔ended g p:=by
 by_cases h:ended g p
 ·exact⟨fun _=>h,fun _=>(Mt h).1⟩
 ·rw[Mu h];simp[h]
noncomputable def stat(g:eO)(p:Pos):Int×Bool:=(if ended g p then(gt g.clauses (pI g p)).out else if gM g p = []then g.blocked else 0,decide (gM g p = []))
theorem acR{g:eO}(hg:fi g){p:Pos}(h:(stat g p).2=true):1≤(stat g p).1∧(stat g p).1≤3:=by
 unfold stat at *
 simp only[decide_eq_true_eq]at h ⊢
 split
 ·rename_i he;exact(hg.clause _ (Mt he).2.2).out
 ·exact hg.blocked
end Go.AL
namespace Go.Proofs.YtnaefnajkaohgaaGreatDoor
open Go Go.AL Classical
set_option maxRecDepth 10000
set_option maxHeartbeats 1000000
theorem MD(p:Pos)(hp:Small p):Wf T 155 [dP p] [] (fun d H=>d = .agg [.eN 0 1 1 0 p.cs.length,dI p.h0,dI p.h1,.i p.fg,.i p.side]∧H = [.row 3 1 (cl f1 p.cs)]):=by
 obtain⟨h1,h2,h3⟩:=hp
 refine Wf.xo 3 (fn:=sX) rfl (by simp[sX]) ?_
 simp[sX]
 (with_reducible repeat' first|refine Xk ?_<;>try simp|refine Xs ?_ ?_<;>intro h<;>(try intro h')<;>(try simp[h])<;>(try omega)|refine Xg ?_|omega)
@[irreducible] def fA(a:List eV):List D:=[iH a]
theorem uZ(a:List eV):fA a = [iH a]:=by unfold fA;rfl
instance:Fl fA 1:=⟨fun _=>by simp[uZ],fun _=>by simp[uZ,fm]⟩
@[simp] theorem agA(l:List (List eV))(x:List eV):cl fA l ++ [iH x]=cl fA (l ++ [x]):=by rw[← oI,uZ]
theorem Rt(x:List eV) : [iH x]=cl fA [x]:=by rw[mH,uZ];simp
def lO(g:eO)(x:eT)(now:List eV):List eV:=now.foldl (fun acc s=>jI acc (gw g s x)) []
def mg(g:eO):List eT→List eV→List (List eV)
 | [],_=>[]
 | x::r,now=>lO g x now::mg g r (lO g x now)
theorem MY{g:eO}{x:eT}{t:eV}:∀ {now acc:List eV},t∈now.foldl (fun acc s=>jI acc (gw g s x)) acc↔t∈acc∨t∈now.flatMap fun s=>gw g s x
 | [],acc=>by simp
 | s::r,acc=>by
  rw[cw,MY,yI,List.flatMap_cons,List.mem_append,or_assoc]
theorem FL{g:eO}{x:eT}{now:List eV}{t:eV}:t∈lO g x now↔t∈now.flatMap fun s=>gw g s x:=by
 unfold lO;rw[MY];simp
theorem MX{g:eO}{x:eT}:∀ {now acc:List eV},(now.foldl (fun acc s=>jI acc (gw g s x)) acc).length≤acc.length+10*now.length
 | [],acc=>by simp
 | s::r,acc=>by
  rw[cw]
  refine Nat.le_trans MX ?_
  have:=yH (a:=acc) (b:=gw g s x)
  have:=x8 (g:=g) (s:=s) (x:=x)
  rw[aJ];omega
theorem AE{g:eO}{x:eT}{now:List eV}:(lO g x now).length≤10*now.length:=by
 unfold lO
 refine Nat.le_trans MX ?_
 simp
theorem Qq{g:eO}:∀ {l:List eT} {now:List eV},(mg g l now).length=l.length
 | [],_=>rfl
 | x::r,now=>by rw[mg,aJ,Qq,aJ]
theorem f194(g:eO)(hg:fi g)(p:Pos)(hp:fF g p)(c i:Int)(hc:0≤c∧c<g.size)(hm:iu (gt p.cs c)=p.side)(hi:0≤i∧i<(gt g.kinds (ff (gt p.cs c))).gu.length) :
  Wf T 194 [dG g,dP p,.i c,.i i] [] (Is (.agg [.sl 1 (([iY p c]::mg g (gt (gt g.kinds (ff (gt p.cs c))).gu i) [iY p c]).map fA),.i 0])):=by
 have gj:=hp.size
 have jl:=hp.small hg
 have gQ:=hp.cs _ (eY hc.1 (by omega))
 have gA:=hp.side
 obtain⟨m1,m2,m3,m4⟩:=vJ gA.1 hm
 have hk:ff (gt p.cs c)<g.kinds.length:=ru gQ.2 hg.kinds.1
 refine Yz yp (gH 117 [10] yp.body) ?_
 simp[yp,gH,iJ,kU,kX,lr,jN]
 refine Yc (f65 g p hg hp) ?_
 simp
 (with_reducible repeat' first|refine Xk ?_<;>try simp|refine Xs ?_ ?_<;>intro h<;>(try intro h')<;>(try simp[h])<;>(try omega)|refine Xg ?_|omega)
 refine Yc (f51 _) ?_
 simp
 (with_reducible repeat' first|refine Xk ?_<;>try simp|refine Xs ?_ ?_<;>intro h<;>(try intro h')<;>(try simp[h])<;>(try omega)|refine Xg ?_|omega)
 rotate_right
 refine ta.n rfl rfl (MD p jl) (by simp) (by simp) ?_
 simp
 (with_reducible repeat' first|refine Xk ?_<;>try simp|refine Xs ?_ ?_<;>intro h<;>(try intro h')<;>(try simp[h])<;>(try omega)|refine Xg ?_|omega)
 refine eW.fz [0,1,3,4,5,6,8] rfl ?_
 have q0:=gC (l:=p.cs) (n:=c) (v:=0) hc.1 (by omega)
 have eX:ix g (iY p c):=x7 hg hp hc.1 hc.2 hm
 have IP:=hg.gu _ (eY (l:=g.kinds) m1 hk)
 generalize k8:gt (gt g.kinds (ff (gt p.cs c))).gu i=prog at *
 have vD:rM g prog:=IP.2 _ (k8▸eY hi.1 hi.2)
 have NM:=vD.len
 refine eW.k ((0,[[iY p c]],[iY p c]):Int×List (List eV)×List eV) (fun x=>[(4,.eZ g.cells),(8,.ptr 2 0 0),(11,.ptr 9 0 0),(12,iH x.2.2),(13,gq prog),(14,.i x.1)]) (fun x=>[.dead,.dead,.row 278 0 [.emp,.i 0],.dead,.dead,.dead,.dead,.row 280 x.1.toNat (cl fA x.2.1),.dead,.row 278 0 [.eN 7 x.1.toNat 1 0 x.2.1.length,.i 0]])
  (fun x=>0≤x.1∧x.1≤prog.length∧x.2.1.length=x.1.toNat+1∧(∀ s∈x.2.2,ix g s)∧x.2.2.length≤10 ^ x.1.toNat∧[iY p c]::mg g prog [iY p c]=x.2.1++mg g (prog.drop x.1.toNat) x.2.2) (fun x=>prog.length-x.1.toNat) ?_ ?_ ?_ rfl rfl (by simp) ?_
 ·simp;exact eX
 ·simp[iY,q0]
 ·simp[iY,← Rt,q0]
 rintro⟨k,steps,now⟩ ⟨k0,k1,k2,k3,k4,k5⟩
 dsimp only at k0 k1 k2 k3 k4 k5 ⊢
 simp
 (with_reducible repeat' first|refine Xk ?_<;>try simp|refine Xs ?_ ?_<;>intro h<;>(try intro h')<;>(try simp[h])<;>(try omega)|refine Xg ?_|omega)
 ·refine eW.e ((0,0,[]):Int×Nat×List eV) (fun x=>[(4,.eZ g.cells),(8,.ptr 2 0 0),(11,.ptr 9 0 0),(12,iH now),(13,gq prog),(14,.i k),(15,.eN 10 x.2.1 8 0 x.2.2.length),(16,.i x.1)]) (fun x=>[.dead,.dead,.row 278 0 [.emp,.i 0],.dead,.dead,.dead,.dead,.row 280 k.toNat (cl fA steps),.dead,.row 278 0 [.eN 7 k.toNat 1 0 steps.length,.i 0],.row 282 x.2.1 (cl eV.cells x.2.2)]) (fun x=>0≤x.1∧x.1≤now.length∧(∀ s∈x.2.2,ix g s)∧x.2.2.length≤10*x.1.toNat∧lO g (gt prog k) now=(now.drop x.1.toNat).foldl (fun acc s=>jI acc (gw g s (gt prog k))) x.2.2) (fun x=>now.length-x.1.toNat) ?_ ?_
  ·simp[lO]
  rintro⟨j,gn,acc⟩ ⟨j0,j1,j2,j3,j4⟩
  dsimp only at j0 j1 j2 j3 j4 ⊢
  simp
  (with_reducible repeat' first|refine Xk ?_<;>try simp|refine Xs ?_ ?_<;>intro h<;>(try intro h')<;>(try simp[h])<;>(try omega)|refine Xg ?_|omega)
  ·refine Yt (f228 g hg _ (k3 _ (eY j0 ‹_›)) _ (vD.steps _ (eY k0 ‹_›))) ?_
   simp
   have eR:=k3 _ (eY j0 ‹_›)
   refine fr.nj rfl rfl (f227 10 gn acc (gw g (gt now j) (gt prog k)) _ rfl (by simp) (fun s hs=>(j2 s hs).p.small hg) (fun s hs=>(uz hg eR (vD.steps _ (eY k0 ‹_›)) hs).p.small hg) ?_) ?_
   ·have h1:=x8 (g:=g) (s:=gt now j) (x:=gt prog k)
    have h2:10 ^ k.toNat≤10 ^ 8:=cp (by decide) (by omega)
    omega
   rintro d H' ⟨Eo,rfl,rfl⟩
   simp
   have h2:10 ^ k.toNat≤10 ^ 8:=cp (by decide) (by omega)
   (with_reducible repeat' first|refine Xk ?_<;>try simp|refine Xs ?_ ?_<;>intro h<;>(try intro h')<;>(try simp[h])<;>(try omega)|refine Xg ?_|omega)
   refine LJ.e (j+1,Eo,jI acc (gw g (gt now j) (gt prog k))) ?_
   refine⟨by dsimp only;omega,by dsimp only;omega,by dsimp only;omega,fun s hs=>?_,?_,?_⟩
   ·rcases yI.1 hs with hs|hs
    ·exact j2 s hs
    ·exact uz hg eR (vD.steps _ (eY k0 ‹_›)) hs
   ·have h1:=x8 (g:=g) (s:=gt now j) (x:=gt prog k)
    have h3:=yH (a:=acc) (b:=gw g (gt now j) (gt prog k))
    dsimp only
    omega
   ·rw[j4,lk j0 ‹_›,cw,show(j+1).toNat=j.toNat+1 by omega]
  ·have e:lO g (gt prog k) now=acc:=by rw[j4,bp (by omega)];rfl
   (with_reducible repeat' first|refine Xk ?_<;>try simp|refine Xs ?_ ?_<;>intro h<;>(try intro h')<;>(try simp[h])<;>(try omega)|refine Xg ?_|omega)
   refine LJ.i (k+1,steps ++ [acc],acc) (by first|rfl|simp[show(k+1).toNat=k.toNat+1 by omega]) (by first|rfl|simp[show(k+1).toNat=k.toNat+1 by omega]) rfl rfl ?_
   refine⟨by dsimp only;omega,by dsimp only;omega,by dsimp only;omega,by simp;omega,j2,?_,?_⟩
   ·have h3:=AE (g:=g) (x:=gt prog k) (now:=now)
    rw[e]at h3
    dsimp only
    rw[show(k+1).toNat=k.toNat+1 by omega,dH]
    omega
   ·rw[k5,lk k0 ‹_›,mg,e,show(k+1).toNat=k.toNat+1 by omega]
    simp
 ·rw[bp (by omega),mg,aw]at k5
  rw[← k5];simp
