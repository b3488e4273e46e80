/- Part 12 of DisputeWorkers. -/
import Derived.Test.YtmehofoficaelaaGreatDoorW11
set_option linter.all false
namespace Go.Proofs.YtmehofoficaelaaGreatDoor
open Go Go.AL Classical
set_option maxRecDepth 10000
set_option maxHeartbeats 1000000
theorem f253(g:gi)(hg:gV g)(s:gv)(hs:kn g s)(n:Int):Wf T 297 [dG g,.agg s.cells,.i n] [] (Is (kF (qo s (lB g s.p.side n s.cur)))):=by
 have hl:=Sz (g:=g) (s:=s.p.side) (d:=n) (c:=s.cur);have j:=hs.p.size;refine Yg Ls ?_;simp[Ls];refine Yc (f263 g hg.jJ s.p.side n s.cur) ?_;simp;generalize f:lB g s.p.side n s.cur=L at *;have gH:∀y∈L,0<=y/\y<g.size:=λy e=>Sy hg.jJ (f▸e);refine gj.j ((0,[]):Int×List gv) (λx=>[(4,.ptr 1 0 0),(7,.fY 2 x.2.length 8 0 x.2.length),(8,dI L),(9,.i x.1)]) (λx=>[.row 43 0 g.cells,.row 373 0 s.cells,.row 373 x.2.length (cl gv.cells x.2)]) (λx=>0<=x.1/\x.1<=L.length/\x.2.length=x.1.toNat/\qo s L=x.2++qo s (L.drop x.1.toNat)) (λx=>L.length-x.1.toNat) ?_ (by simp) (by first|rfl|simp) rfl ?_
 .simp
 rintro⟨i,out⟩ ⟨h0,h1,b,a⟩;dsimp only at h0 h1 b a ⊢;simp;refine j' ?_ ?_<;>intro h
 .have k:=gH _ (gy h0 ‹_›);rw[oc h0 ‹_›,qo]at a;refine j' ?_ ?_<;>intro h
  .refine⟨i+1,out ++ [{ s with cur:=gt L i }],by simp,rfl,by simp,by rw[<-q'],by omega,by omega,by omega,by simp[b];omega,?_⟩;rw[a,if_pos ‹_›,show(i+1).toNat=i.toNat+1 by omega];simp
  .rw[if_neg ‹_›]at a;rw[a];simp[kF]
 .rw[bB (by omega)]at a;rw[a];simp[qo]
theorem Zq{n s:Int}(_:0<=n)(a:0<=gJ n)(h:jY n≠s)(hs:0<=s/\s<=1):jY n=1-s:=by
 unfold gJ jY at *;split at a
 .rename_i e;rw[if_pos e]at h ⊢;omega
 .omega
theorem f254(g:gi)(hg:gV g)(s:gv)(hs:kn g s):Wf T 298 [dG g,.agg s.cells] [] (Is (kF (tv g s))):=by
 have r:=hs.p.size;have d:=hs.cur;have j:=hs.p.small hg;refine Yg Lt ?_;simp[Lt];refine gd ?_;refine Yc (f51 _) ?_;simp;have b:=hs.p.cs _ (gy d.1 (by omega));have i:=hg.kinds;have f:=hs.p.side;(with_reducible repeat' first|refine Xk ?_<;>try simp|refine Xs ?_ ?_<;>intro h<;>(try intro u)<;>(try simp[h])<;>try omega|refine Xg ?_|omega)
 .rw[tv,if_pos];unfold gJ at *;unfold jY;split at h<;>rename_i m
  .omega
  .rw[if_neg m];omega
 .rw[tv,if_pos (by omega)]
 .have t:gJ (gt s.p.cs s.cur)<g.kinds.length:=yG b.2 i.1;have o:s.p.side=0\/s.p.side=1:=by omega
  have q:=hs.p.h0.len;have p:=hs.p.h1.len;have q0:=iP (l:=s.p.cs) (n:=s.cur) (v:=0) d.1 (by omega);refine Yn (Nb s.p j) ?_;simp;refine Mo q0 ?_ ?_<;>intro h
  .have a:jY (gt s.p.cs s.cur)=1-s.p.side:=Zq b.1 (by omega) (by assumption) f;have c:=h;rcases o with e|e
   .have k:=hs.p.h0.at_ _ (by omega) (show gJ (gt s.p.cs s.cur)<s.p.h0.length by omega);have q1:=DG (l:=s.p.h0) (n:=gJ (gt s.p.cs s.cur)) (v:=gt s.p.h0 (gJ (gt s.p.cs s.cur))+1) (by omega) (by omega);have q2:=iP (l:=s.p.h0) (n:=gJ (gt s.p.cs s.cur)) (v:=gt s.p.h0 (gJ (gt s.p.cs s.cur))+1) (by omega) (by omega);simp[e,q1,q2];refine j' ?_ ?_<;>intro h
    all_goals simp[tv,a,c,Pos.hand,Pos.mY,e,q0,q2]
    .rw[if_neg (by omega)]
    .rw[if_pos (by omega)]
   .have k:=hs.p.h1.at_ _ (by omega) (show gJ (gt s.p.cs s.cur)<s.p.h1.length by omega);have q1:=DG (l:=s.p.h1) (n:=gJ (gt s.p.cs s.cur)) (v:=gt s.p.h1 (gJ (gt s.p.cs s.cur))+1) (by omega) (by omega);have q2:=iP (l:=s.p.h1) (n:=gJ (gt s.p.cs s.cur)) (v:=gt s.p.h1 (gJ (gt s.p.cs s.cur))+1) (by omega) (by omega);simp[e,q1,q2];refine j' ?_ ?_<;>intro h
    all_goals simp[tv,a,c,Pos.hand,Pos.mY,e,q0,q2]
    .rw[if_neg (by omega)]
    .rw[if_pos (by omega)]
  .have a:jY (gt s.p.cs s.cur)=1-s.p.side:=Zq b.1 (by omega) (by assumption) f;simp[tv,a,h,q0]
theorem f255(g:gi)(hg:gV g)(s:gv)(hs:kn g s)(n:Int):Wf T 299 [dG g,.agg s.cells,.i n] [] (Is (kF (uo g s n))):=by
 have c:=hs.p.size;have a:=hs.cur;have b:=hs.p.small hg;have d:=hg.jJ.to s.p.side n s.cur;refine Yg Lu ?_;simp[Lu];refine Yc (f251 g hg.jJ s.p.side n s.cur) ?_;simp;(with_reducible repeat' first|refine Xk ?_<;>try simp|refine Xs ?_ ?_<;>intro h<;>(try intro e)<;>(try simp[h])<;>try omega|refine Xg ?_|omega)
 .rw[uo,if_pos (by simp_all)]
 .rw[uo,if_pos (by simp_all)]
 .have q0:=iP (l:=s.p.cs) (n:=mf g s.p.side n s.cur) (v:=gt s.p.cs s.cur) (by omega) (by omega);have q1:=iP (l:=pt s.p.cs (mf g s.p.side n s.cur) (gt s.p.cs s.cur)) (n:=s.cur) (v:=0) a.1 (by omega);refine Yn (Nb s.p b) ?_;simp;refine lh q0 q1 ?_;simp[uo, *]
 .rw[uo,if_pos (by simp_all)]
end Go.Proofs.YtmehofoficaelaaGreatDoor
namespace Go.AL
open Go
def mZ(n:Nat):D->Bool
 | .fY v _ _ _ _ | .ptr v _ _ | .gD v | .iT v=>decide (v<n)
 | d=>closed d
def ju(n:Nat):D->Bool
 | .agg cs | .tup cs | .gu cs=>cs.all (mZ n)
 | .fn _ a b=>a.all (mZ n)&&b.all (mZ n)
 | d=>mZ n d
def ni(n:Nat):Ob->Bool
 | .row _ _ cs=>cs.all (ju n)
 | .map _ es=>es.all λx=>ju n x.2
 | .ib _ env _=>env.all λx=>ju n x.2
 | .sO _ _=>true
 | .jl m _ _=>mZ n m
 | .ja=>true
 | .dead=>true
 | .lT=>false
def jj(n:Nat)(H:U):Prop:=∀o∈H,ni n o=true
theorem TF{ρ:Nat->Option Nat}{H:U}{n k:Nat}(a:∀u,u<n->ρ u=some u){d:D}(h:mZ n d=true):gq ρ H (k+1) d=d:=by
 cases d with
 | fY v g sz off len=>simp only[mZ,decide_eq_true_eq]at h;rw[TE,a v h,anT]
 | ptr v g off=>simp only[mZ,decide_eq_true_eq]at h;rw[anY,a v h,anU]
 | gD v=>simp only[mZ,decide_eq_true_eq]at h;rw[anX,a v h,anS]
 | iT v=>
  simp only[mZ,decide_eq_true_eq]at h;rw[gq,if_neg (by simp)];rw[a v h]
 | _=>exact qt h
theorem Ig{ρ:Nat->Option Nat}{H:U}{n k:Nat}(a:∀u,u<n->ρ u=some u){cs:List D}(h:cs.all (mZ n)=true):cs.map (gq ρ H (k+1))=cs:=by
 conv=>rhs;rw[<-bf cs]
 exact aw λd b=>TF a (List.all_eq_true.1 h d b)
theorem EV{ρ:Nat->Option Nat}{H:U}{n k:Nat}(c:∀u,u<n->ρ u=some u){d:D}(h:ju n d=true):gq ρ H (k+2) d=d:=by
 cases d with
 | agg cs=>rw[anW,Ig c h]
 | tup cs=>rw[anZ,Ig c h]
 | gu cs=>
  by_cases e:closed (.gu cs)=true
  .simp_all
  .rw[gq,if_neg e,Ig c h]
 | fn f a b=>
  simp only[ju,Bool.and_eq_true]at h
  by_cases e:closed (.fn f a b)=true
  .simp_all
  .rw[gq,if_neg e,Ig c h.1,Ig c h.2]
 | _=>exact TF c h
theorem anV{ρ:Nat->Option Nat}{H:U}{n:Nat}(a:∀u,u<n->ρ u=some u){o:Ob}(h:ni n o=true):pG ρ H o=o:=by
 have key:∀ {α:Type} (l:List (α×D)),(l.all λx=>ju n x.2)=true->(l.map λx=>(x.1,gq ρ H 40 x.2))=l:=by
  intro α l hl
  conv=>rhs;rw[<-bf l]
  exact aw λx b=>by have:=List.all_eq_true.1 hl x b;rw[EV a this];rfl
 cases o with
 | row t g cs=>
  simp only[pG];congr 1
  conv=>rhs;rw[<-bf cs]
  exact aw λd c=>EV a (List.all_eq_true.1 h d c)
 | map kk es=>simp only[pG];rw[key es h]
 | ib rf env st=>simp only[pG];rw[key env h]
 | sO=>rfl
 | jl m since seen=>simp only[pG];rw[TF a h]
 | ja=>rfl
 | dead=>rfl
 | lT=>cases h
theorem ER{n u:Nat}(h:u<n):iI (ji n []) u=some u:=by unfold iI ji;rw[List.map_nil,az];rw[dY];refine⟨by simpa using h,by simp,λj a=>by simp;omega⟩
theorem IS{n:Nat}{H G:U}(b:H.length=n)(h:jj n H):rC (ji n []) (H++G)=H:=by
 unfold rC;refine bI λi=>?_;rw[au];unfold ji;rw[List.map_nil,az,au]
 by_cases hi:i<n
 .rw[bN hi];simp only[aH,if_true];rw[ah (by omega),List.getElem?_eq_getElem (by omega)];simp only;congr 1;have e:((List.range n).map λv=>(v,true))=ji n []:=by unfold ji;simp
  rw[e];exact anV (λu a=>ER a) (h _ (bT _))
 .grind
theorem Po{n:Nat}{d:D}(h:ju n d=true):jv n d = []:=by cases d<;>first|rfl|(simp only[ju,mZ,decide_eq_true_eq]at h;simp only[jv];rw[if_neg (by omega)])
theorem flatten_nil{α c:Type}{f:α->List c}:∀ {l:List α},(∀a∈l,f a = [])->(l.map f).flatten = []
 | [],_=>rfl
 | a::l,h=>by rw[List.map_cons,a7,h a (by simp),flatten_nil λb d=>h b (by simp[d])];rfl
theorem S4{n:Nat}{o:Ob}(h:ni n o=true):oZ n o = []:=by
 cases o with
 | row t g cs=>exact flatten_nil λd b=>Po (List.all_eq_true.1 h d b)
 | map kk es=>exact flatten_nil λx a=>Po (List.all_eq_true.1 h x a)
 | _=>rfl
theorem ac4{n:Nat}{live:List Nat}{env:Env}{H G:U}{m:List Nat}{r:Bool}(j:Cj live=false)(h:H.length=n)(e:jj n H)(d:((forget live env).all λp=>ju n p.2)=true)(i:(m.all λv=>decide (v<n))=true) :
  cut n live { env:=env,H:=H++G,marks:=m,iD:=r } = { env:=forget live env,H:=H,marks:=m,iD:=r }:=by
 by_cases hg:(H++G).length<=n
 .have:G = []:=by
   cases G with
   | nil=>rfl
   | cons a l=>simp at hg;omega
  subst this;rw[az];exact VE (by show H.length<=n;omega)
 .unfold cut;dsimp only;rw[if_neg (by rw[j];simpa using hg)];have t:((forget live env).map λp=>jv n p.2).flatten = []:=flatten_nil λp b=>Po (List.all_eq_true.1 d p b)
  have s:(((H++G).take n).map (oZ n)).flatten = []:=flatten_nil λo c=>by rw[aV (by omega),af (by omega)]at c;exact S4 (e o c)
  have q:m.filter (n<=·) = []:=by simp_all
  rw[t,s,q];have k:dedup (([] ++ [] ++ []:List Nat).filter (· < (H++G).length)) = []:=rfl;rw[k,IS h e];congr 1
  .conv=>rhs;rw[<-bf (forget live env)]
   exact aw λp b=>by rw[EV (λu g=>ER g) (List.all_eq_true.1 d p b)];rfl
  .conv=>rhs;rw[<-bf m]
   exact aw λv f=>by have:=List.all_eq_true.1 i v f;rw[ER (by simpa using this)];rfl
theorem Y'{n:Nat}{H G:U}{d:D}(f:H.length=n)(c:jj n H)(g:ju n d=true):leave 0 n (H++G) d=(d,H):=by
 by_cases hg:(H++G).length<=n
 .have:G = []:=by
   cases G with
   | nil=>rfl
   | cons a l=>simp at hg;omega
  subst this;rw[az];exact Y9 (by omega) 0
 .unfold leave;rw[if_neg (by omega)]
  have i:(((H++G).take n).map (oZ n)).flatten = []:=flatten_nil λo b=>by rw[aV (by omega),af (by omega)]at b;exact S4 (c o b)
  simp only;rw[i];have h:dedup (([] ++ []:List Nat).filter (· < (H++G).length)) = []:=rfl;rw[h,IS f c,EV (λu e=>ER e) g]
theorem pD{n v:Nat}{H:U}{o:Ob}(h:jj n H)(b:ni n o=true):jj n (H.set v o):=λx a=>by
 rcases dH a with a|rfl
 .exact h x a
 .exact b
theorem CI{n:Nat}{d:D}(h:closed d=true):mZ n d=true:=by cases d<;>first|exact h|(cases h;done)|(simp only[closed]at h;cases h)
theorem AK{n:Nat}{d:D}(h:closed d=true):ju n d=true:=by
 cases d with
 | agg cs=>exact List.all_eq_true.2 λd c=>CI (mo (by simpa using h) d c)
 | tup cs=>exact List.all_eq_true.2 λd c=>CI (mo (by simpa using h) d c)
 | gu cs=>exact List.all_eq_true.2 λd c=>CI (mo (by simpa using h) d c)
 | fn f a b=>
  simp only[Vm,Bool.and_eq_true]at h;simp only[ju,Bool.and_eq_true];exact⟨List.all_eq_true.2 λd c=>CI (mo h.1 d c),List.all_eq_true.2 λd c=>CI (mo h.2 d c)⟩
 | _=>exact CI (n:=n) h
@[simp] theorem ayG{n:Nat}{d:D}(h:closed d=true):ju n d=true:=AK h
@[simp] theorem ayO{n:Nat}{d:D}(h:closed d=true):mZ n d=true:=CI h
@[simp] theorem ayK(n v g sz off len:Nat):ju n (.fY v g sz off len)=decide (v<n):=rfl
@[simp] theorem ayL(n v g off:Nat):ju n (.ptr v g off)=decide (v<n):=rfl
@[simp] theorem ayJ(n v:Nat):ju n (.gD v)=decide (v<n):=rfl
@[simp] theorem ayF(n:Nat)(cs:List D):ju n (.agg cs)=cs.all (mZ n):=rfl
@[simp] theorem ayM(n:Nat)(cs:List D):ju n (.tup cs)=cs.all (mZ n):=rfl
@[simp] theorem ayP(n v g sz off len:Nat):mZ n (.fY v g sz off len)=decide (v<n):=rfl
@[simp] theorem ayQ(n v g off:Nat):mZ n (.ptr v g off)=decide (v<n):=rfl
@[simp] theorem ayH(n:Nat)(f:Fn)(a b:List D):ju n (.fn f a b)=(a.all (mZ n)&&b.all (mZ n)):=rfl
@[simp] theorem yN{n t g:Nat}{α:Type}{f:α->List D}{sz:Nat}[F:Fl f sz](l:List α):ni n (.row t g (cl f l))=true:=
 List.all_eq_true.2 λd a=>AK (mo (uJ l) d a)
@[simp high] theorem ag2{α:Type}[Inhabited α]{f:α->List D}{sz:Nat}[F:Fl f sz]{l:List α}{t:TypeId}{n:Int}(a:0<sz):uZ sz (n.toNat*sz) (some (t,cl f l))=if n.toNat<l.length then some (.agg (f (gt l n)))else none:=by
 have h:=ahQ (f:=f) (l:=l) (t:=t) (n:=n) (P:=λd=>d = .agg (f (gt l n))) a;simp only[and_true]at h
 by_cases b:n.toNat<l.length
 .simp_all
 .rw[if_neg b];unfold uZ;dsimp only;rw[if_neg];rw[qJ,<-cA,fq a];omega
section
variable{T:iB}{a b:IR}{s:St}{K:iY}{id n:Nat}{live:List Nat}
@[simp ↓] theorem awu:OA T b K (.norm s)=Wc T b s K:=(rfl)
@[simp ↓] theorem awt:OA T b K (.exit id s)=K (.exit id s):=(rfl)
@[simp ↓] theorem awv:OA T b K (.ret s)=K (.ret s):=(rfl)
end
def LJ{α:Type}(E:α->Env)(b:α->U)(ms:List Nat)(rd:Bool)(Q:α->Prop)(_:Tag (E,b,ms,rd,Q))(e:Env)(H:U)(m:List Nat)(r:Bool):Prop:=
 ∃a,e=E a/\H=b a/\m=ms/\r=rd/\Q a
theorem LJ.e{α:Type}{E:α->Env}{b:α->U}{ms:List Nat}{rd:Bool}{Q:α->Prop}{t:Tag (E,b,ms,rd,Q)}{e:Env}{H:U}{m:List Nat}{r:Bool}(a:α)(c:Q a)(h1:e=E a:=by first|rfl|simp)(g:H=b a:=by first|rfl|simp)(f:m=ms:=by exact rfl)(d:r=rd:=by exact rfl):LJ E b ms rd Q t e H m r:=⟨a,h1,g,f,d,c⟩
theorem LJ.i{α:Type}{E:α->Env}{b:α->U}{ms:List Nat}{rd:Bool}{Q:α->Prop}{t:Tag (E,b,ms,rd,Q)}{e:Env}{H:U}{m:List Nat}{r:Bool}(a:α)(h1:e=E a)(g:H=b a)(f:m=ms)(d:r=rd)(c:Q a):LJ E b ms rd Q t e H m r:=⟨a,h1,g,f,d,c⟩
section
variable{T:iB}{live:List Nat}{a:IR}{s:St}{K:iY}{α:Type}
theorem gj.k(b:α)(E:α->Env)(c:α->U)(P:α->Prop)(d:α->Nat)
  (h0:P b) (l:forget ((E b).map (·.1)) s.env=E b) (j:s.H=c b) (i:s.marks = []) (g:s.iD=false) (f:(((E b).map (·.1)).all λk=>live.contains k)=true)
  (h:∀x,P x->XC T a { env:=E x,H:=c x } (wi s.H.length live ((E b).map (·.1)) (LJ E c [] false (λe=>d e<d x/\P e) .mk) K)):gj T live a s K .mk:=
 gj.j b E c P d h0 l j f (by rw[i,g];exact h)
end
@[simp] theorem asU{α:Type}{f:α->List D}[Fl f 1](l:List α)(n:Nat):(cl f l).take n=cl f (l.take n):=by simpa using xW (f:=f) l n
@[simp] theorem asR{α:Type}{f:α->List D}[Fl f 1](l:List α)(n:Nat):(cl f l).drop n=cl f (l.drop n):=by simpa using uK (f:=f) l n
@[simp] theorem au7(K:List Nat):ji 5 K=(0,true)::(1,true)::(2,true)::(3,true)::(4,true)::K.map λv=>(v,true):=rfl
@[simp] theorem au8(K:List Nat):ji 6 K=(0,true)::(1,true)::(2,true)::(3,true)::(4,true)::(5,true)::K.map λv=>(v,true):=rfl
@[simp] theorem au9(K:List Nat):ji 7 K=(0,true)::(1,true)::(2,true)::(3,true)::(4,true)::(5,true)::(6,true)::K.map λv=>(v,true):=rfl
@[simp] theorem ava(K:List Nat):ji 8 K=(0,true)::(1,true)::(2,true)::(3,true)::(4,true)::(5,true)::(6,true)::(7,true)::K.map λv=>(v,true):=rfl
@[simp] theorem avb(K:List Nat):ji 9 K=(0,true)::(1,true)::(2,true)::(3,true)::(4,true)::(5,true)::(6,true)::(7,true)::(8,true)::K.map λv=>(v,true):=rfl
@[simp] theorem auQ(K:List Nat):ji 10 K=(0,true)::(1,true)::(2,true)::(3,true)::(4,true)::(5,true)::(6,true)::(7,true)::(8,true)::(9,true)::K.map λv=>(v,true):=rfl
@[simp] theorem auR(K:List Nat):ji 11 K=(0,true)::(1,true)::(2,true)::(3,true)::(4,true)::(5,true)::(6,true)::(7,true)::(8,true)::(9,true)::(10,true)::K.map λv=>(v,true):=rfl
@[simp] theorem auS(K:List Nat):ji 12 K=(0,true)::(1,true)::(2,true)::(3,true)::(4,true)::(5,true)::(6,true)::(7,true)::(8,true)::(9,true)::(10,true)::(11,true)::K.map λv=>(v,true):=rfl
@[simp] theorem auT(K:List Nat):ji 13 K=(0,true)::(1,true)::(2,true)::(3,true)::(4,true)::(5,true)::(6,true)::(7,true)::(8,true)::(9,true)::(10,true)::(11,true)::(12,true)::K.map λv=>(v,true):=rfl
@[simp] theorem auU(K:List Nat):ji 14 K=(0,true)::(1,true)::(2,true)::(3,true)::(4,true)::(5,true)::(6,true)::(7,true)::(8,true)::(9,true)::(10,true)::(11,true)::(12,true)::(13,true)::K.map λv=>(v,true):=rfl
@[simp] theorem auV(K:List Nat):ji 15 K=(0,true)::(1,true)::(2,true)::(3,true)::(4,true)::(5,true)::(6,true)::(7,true)::(8,true)::(9,true)::(10,true)::(11,true)::(12,true)::(13,true)::(14,true)::K.map λv=>(v,true):=rfl
@[simp] theorem auW(K:List Nat):ji 16 K=(0,true)::(1,true)::(2,true)::(3,true)::(4,true)::(5,true)::(6,true)::(7,true)::(8,true)::(9,true)::(10,true)::(11,true)::(12,true)::(13,true)::(14,true)::(15,true)::K.map λv=>(v,true):=rfl
@[simp] theorem auX(K:List Nat):ji 17 K=(0,true)::(1,true)::(2,true)::(3,true)::(4,true)::(5,true)::(6,true)::(7,true)::(8,true)::(9,true)::(10,true)::(11,true)::(12,true)::(13,true)::(14,true)::(15,true)::(16,true)::K.map λv=>(v,true):=rfl
@[simp] theorem auY(K:List Nat):ji 18 K=(0,true)::(1,true)::(2,true)::(3,true)::(4,true)::(5,true)::(6,true)::(7,true)::(8,true)::(9,true)::(10,true)::(11,true)::(12,true)::(13,true)::(14,true)::(15,true)::(16,true)::(17,true)::K.map λv=>(v,true):=rfl
@[simp] theorem auZ(K:List Nat):ji 19 K=(0,true)::(1,true)::(2,true)::(3,true)::(4,true)::(5,true)::(6,true)::(7,true)::(8,true)::(9,true)::(10,true)::(11,true)::(12,true)::(13,true)::(14,true)::(15,true)::(16,true)::(17,true)::(18,true)::K.map λv=>(v,true):=rfl
@[simp] theorem au1(K:List Nat):ji 20 K=(0,true)::(1,true)::(2,true)::(3,true)::(4,true)::(5,true)::(6,true)::(7,true)::(8,true)::(9,true)::(10,true)::(11,true)::(12,true)::(13,true)::(14,true)::(15,true)::(16,true)::(17,true)::(18,true)::(19,true)::K.map λv=>(v,true):=rfl
@[simp] theorem au2(K:List Nat):ji 21 K=(0,true)::(1,true)::(2,true)::(3,true)::(4,true)::(5,true)::(6,true)::(7,true)::(8,true)::(9,true)::(10,true)::(11,true)::(12,true)::(13,true)::(14,true)::(15,true)::(16,true)::(17,true)::(18,true)::(19,true)::(20,true)::K.map λv=>(v,true):=rfl
@[simp] theorem au3(K:List Nat):ji 22 K=(0,true)::(1,true)::(2,true)::(3,true)::(4,true)::(5,true)::(6,true)::(7,true)::(8,true)::(9,true)::(10,true)::(11,true)::(12,true)::(13,true)::(14,true)::(15,true)::(16,true)::(17,true)::(18,true)::(19,true)::(20,true)::(21,true)::K.map λv=>(v,true):=rfl
@[simp] theorem au4(K:List Nat):ji 23 K=(0,true)::(1,true)::(2,true)::(3,true)::(4,true)::(5,true)::(6,true)::(7,true)::(8,true)::(9,true)::(10,true)::(11,true)::(12,true)::(13,true)::(14,true)::(15,true)::(16,true)::(17,true)::(18,true)::(19,true)::(20,true)::(21,true)::(22,true)::K.map λv=>(v,true):=rfl
@[simp] theorem azr{α:Type}{l:List α}{n:Nat}(h:l.length=n):l.take n=l:=af (by omega)
@[simp] theorem ayV(a b:List Pos):D.sl 5 (a.map Pos.cells++b.map Pos.cells)=gZ (a++b):=by unfold gZ;rw[List.map_append]
def Ey{α:Type}(g:α->D)(Q:α->Prop)(d:D)(H:U):Prop:=Ex g Q d H
theorem Ey.i{α:Type}{g:α->D}{Q:α->Prop}{d:D}{H:U}(x:α)(h1:d=g x)(b:H = [])(a:Q x):Ey g Q d H:=⟨x,h1,b,a⟩
def Qy(ρ:Nat->Option Nat)(H:U)(k off:Nat):Option (TypeId×List D)->D
 | some (_,cs)=>.gu ((cs.drop off).map (gq ρ H k))
 | none=>.any
@[simp] theorem ayp(H:U)(k:Nat)(ρ:Nat->Option Nat)(v g off:Nat):IQ H k ρ v g off none=Qy ρ H k off (rowAt H v g):=by unfold IQ Qy;rfl
@[simp] theorem at3(ρ:Nat->Option Nat)(H:U)(k off:Nat)(t:TypeId)(cs:List D):Qy ρ H k off (some (t,cs)) = .gu ((cs.drop off).map (gq ρ H k)):=rfl
structure GH(H:U)(v:Nat):Prop where
 lt:v<H.length
 ok:jj H.length H
section
variable{H G:U}{v:Nat}{o o':Ob}
@[simp] theorem GH.get(h:GH H v):(H.set v o)[v]? = some o:=aI h.lt
@[simp] theorem GH.iv(h:GH H v):(H.set v o++G)[v]? = some o:=by rw[ah (by rw[ao];exact h.lt)];exact h.get
@[simp] theorem GH.afi(_:GH H v):(H.set v o++G)[H.length]? = G[0]? := by grind
@[simp] theorem GH.anR(_:GH H v):(H.set v o++G).set H.length o'=H.set v o++G.set 0 o':=by grind
@[simp high] theorem GH.cut(h:GH H v){live:List Nat}{env:Env}{r:Bool}(c:Cj live=false)(a:ni H.length o=true)(b:((forget live env).all λp=>ju H.length p.2)=true) :
  Go.AL.cut H.length live { env:=env,H:=H.set v o++G,marks:=[],iD:=r } = { env:=forget live env,H:=H.set v o,marks:=[],iD:=r }:=ac4 c (ao ..) (pD h.ok a) b rfl
@[simp] theorem GH.lt_eq(h:GH H v):(v<H.length)=True:=eq_true h.lt
end
@[simp] theorem aw8(n:Nat):jj n []=True:=eq_true λ_ h=>by cases h
@[simp] theorem aw7(n:Nat)(o:Ob)(r:U):jj n (o::r)=(ni n o=true/\jj n r):=propext ⟨λh=>⟨h o (by simp),λx a=>h x (by simp[a])⟩,λh x a=>by
 rcases av.1 a with rfl|a
 .exact h.1
 .exact h.2 x a⟩
@[simp] theorem axd(n t g:Nat)(cs:List D):ni n (.row t g cs)=cs.all (ju n):=rfl
@[simp] theorem aw9(n:Nat):ni n .dead=true:=rfl
@[simp] theorem axb(n:Nat)(kk:KK)(es:List (Value×D)):ni n (.map kk es)=es.all λx=>ju n x.2:=rfl
@[simp] theorem arc{n:Nat}{α:Type}{f:α->List D}{sz:Nat}[F:Fl f sz](l:List α):(cl f l).all (ju n)=true:=
 List.all_eq_true.2 λd a=>AK (mo (uJ l) d a)
section
variable{H G:U}{v k:Nat}{o:Ob}
@[simp] theorem abS:(H++G)[H.length+k]? = G[k]? := by rw[ai (by omega)];congr 1;omega
@[simp] theorem arj:(H++G)[H.length]? = G[0]? := by rw[ai (by omega)];congr 1;omega
theorem Zp(h:H[v]? = some o):v<H.length:=by grind
end
end Go.AL
namespace Go.Proofs.YtmehofoficaelaaGreatDoor
open Go Go.AL Classical
set_option maxRecDepth 10000
set_option maxHeartbeats 1000000
theorem ahu{n:Int}{k:Nat}(h0:0<=n)(h1:n<=2*k)(a:k<=2):gJ n<0↔n=0:=by unfold gJ;split<;>omega
theorem ahv{n s:Int}(h:0<=gJ n)(hs:0<=s/\s<=1):jY n=1-s↔¬jY n=s:=by
 unfold gJ at h;unfold jY;split at h
 .rename_i e;rw[if_pos e];omega
 .omega
theorem SF{n s:Int}(h:¬ 0<=gJ n)(hs:0<=s/\s<=1):¬jY n=1-s/\¬jY n=s:=by
 unfold gJ at h;unfold jY;split at h
 .omega
 .rename_i e;rw[if_neg e];omega
theorem f228(g:gi)(hg:gV g)(s:gv)(hs:kn g s)(x:fZ)(i:FJ g x):Wf T 284 [dG g,.agg s.cells,.agg [.i x.1,.i x.2]] [] (Is (kF (jd g s x))):=by
 have o:=hs.p.size;have f:=hs.cur;have l:=hs.p.small hg;have p:=hg.jJ.to s.p.side x.2 s.cur;have d:=hs.p.cs _ (gy f.1 (by omega));have a:=hs.p.side;have j:=ahu d.1 d.2 hg.kinds.2;have e:=hs.p.gL;have c:=hg.gL;have m:=i.ok;refine Yg Lf ?_;simp[Lf];refine gd ?_;refine Yc (f51 _) ?_;simp;(with_reducible repeat' first|refine Xk ?_<;>try simp|refine Xs ?_ ?_<;>intro h<;>(try intro q)<;>(try simp[h])<;>try omega|refine Xg ?_|omega)
 .refine Yc (f251 g hg.jJ s.p.side x.2 s.cur) ?_;simp;refine Yc (f252 { s with cur:=mf g s.p.side x.2 s.cur } _) ?_;simp;simp[jd,h]
 .refine Yc (f253 g hg s hs x.2) ?_;simp;simp[jd,h]
 .refine Yc (f252 s _) ?_;simp;simp[jd,h,j]
 .refine Yc (f252 s _) ?_;simp;have h1:=ahv (by assumption) a;simp[jd, *]
 .refine Yc (f252 s _) ?_;simp;have h1:=SF (by assumption) a;simp[jd, *]
 .refine Yc (f252 s _) ?_;simp;simp[jd, *]
 .refine Yc (f252 s _) ?_;simp;have h1:=SF (by assumption) a;simp[jd, *]
 .refine Yc (f254 g hg s hs) ?_;simp;simp[jd, *]
 .refine Yc (f255 g hg s hs x.2) ?_;simp;simp[jd, *]
 .simp[jd, *]
 .refine Yt (f252 s _) ?_;simp;have k:=EJ c.1 (by omega);have b:=aav (r:=s.p.gL) (n:=x.2) e.1 (by omega) (by omega) (by omega);simp[jd,b, *]
 .have k:=EJ c.1 (by omega);have b:=aaw (r:=s.p.gL) (n:=x.2) e.1 (by omega) (by omega) (by omega);simp[jd,b, *]
def ml(a:List gv):List gv->List gv
 | []=>a
 | x::r=>ml (if x∈a then a else a ++ [x]) r
theorem FM:∀ {b a:List gv} {x:gv},x∈ml a b↔x∈a\/x∈b
 | [],a,x=>by simp[ml]
 | y::r,a,x=>by
  unfold ml;rw[FM];split<;>simp
  .constructor
   .rintro(h|h)<;>simp[h]
   .rintro(h|rfl|h)<;>simp[*]
  .constructor
   .rintro((h|h)|h)<;>simp[h]
   .rintro(h|rfl|h)<;>simp[*]
theorem FL:∀ {b a:List gv},(ml a b).length<=a.length+b.length
 | [],a=>by simp[ml]
 | y::r,a=>by unfold ml;refine Nat.le_trans FL ?_;split<;>simp<;>omega
theorem anP{H:U}{v:Nat}{o:Ob}(h:H[v]? = some o):H=H.set v o:=by
 refine bI λi=>?_;rw[bW];split
 .rename_i e;subst e;rw[if_pos (Zp h),h]
 .rfl
theorem GH.of{H:U}{v:Nat}{o:Ob}(a:H[v]? = some o)(b:jj H.length H):GH H v:=⟨Zp a,b⟩
theorem f227(v gen:Nat)(a b:List gv)(H:U)(n:H[v]? = some (.row 373 gen (cl gv.cells a)))(t:jj H.length H)(r:∀s∈a,Small s.p)(o:∀s∈b,Small s.p)(hl:a.length+b.length<2 ^ 39):Wf T 283 [.fY v gen 8 0 a.length,kF b] H (λd H'=>∃q,d = .fY v q 8 0 (ml a b).length/\H'=H.set v (.row 373 q (cl gv.cells (ml a b)))):=by
 have hg:=GH.of n t;have z:=hg.lt;refine Yg Le ?_;simp[Le];refine gj.j ((0,gen,a):Int×Nat×List gv) (λx=>[(0,.fY v x.2.1 8 0 x.2.2.length),(1,kF b),(5,.i x.1)]) (λx=>H.set v (.row 373 x.2.1 (cl gv.cells x.2.2))) (λx=>0<=x.1/\x.1<=b.length/\x.2.2.length<=a.length+x.1.toNat/\(∀s∈x.2.2,Small s.p)/\ml x.2.2 (b.drop x.1.toNat)=ml a b) (λx=>b.length-x.1.toNat) ?_ (by simp) (anP n) rfl ?_
 .simp;exact r
 rintro⟨i,p,l⟩ ⟨h0,h1,u,f,c⟩;dsimp only at h0 h1 u f c ⊢;simp;refine j' ?_ ?_<;>intro h
 .refine gj.j ((0,false):Int×Bool) (λx=>[(0,.fY v p 8 0 l.length),(1,kF b),(5,.i i),(6,.b x.2),(7,.i x.1)]) (λx=>H.set v (.row 373 p (cl gv.cells l))) (λx=>0<=x.1/\x.1<=l.length/\x.2=decide (gt b i∈l.take x.1.toNat)) (λx=>l.length-x.1.toNat) ?_ (by simp) rfl rfl ?_
  .simp
  rintro⟨k,m⟩ ⟨g,w,j⟩;dsimp only at g w j ⊢;simp[hg];(with_reducible repeat' first|refine Xk ?_<;>try simp[hg]|refine Xs ?_ ?_<;>intro h<;>(try intro A)<;>(try simp[h,hg])<;>try omega|refine Xg ?_|omega)
  .rw[jq g (by assumption)];simp_all
  .refine Yt (f250 _ _ (f _ (gy g (by assumption))) (o _ (gy h0 (by assumption)))) ?_;simp;simp only[h,cond_false];refine p9 ⟨k+1,?_⟩;rw[jq g (by assumption)]
   by_cases e:gt l k=gt b i
   .right;simp[e];omega
   .left;simp_all;exact gO (λy=>e y.symm)
  .refine⟨i+1,l,rfl,rfl,rfl,by omega,by omega,by omega,by omega,f,?_⟩;rw[<-c,oc h0 (by assumption),ml,show(i+1).toNat=i.toNat+1 by omega];rw[if_pos];rw[j,ln (by omega)]at h;simpa using h
  .refine⟨i+1,l ++ [gt b i],by simp,rfl,by simp,by omega,by omega,by omega,by simp;omega,?_,?_⟩
   .intro s hs;simp at hs;rcases hs with hs|rfl
    .exact f s hs
    .exact o _ (gy h0 (by assumption))
   .rw[<-c,oc h0 (by assumption),ml,show(i+1).toNat=i.toNat+1 by omega];rw[if_neg];rw[j,ln (by omega)]at h;simpa using h
 .rw[bB (by omega)]at c;have e:ml l []=l:=rfl;rw[e]at c;rw[<-c];exact⟨rfl,rfl⟩
end Go.Proofs.YtmehofoficaelaaGreatDoor
namespace Go.AL
open Go Classical
theorem iQ{α:Type}{f:α->List D}(a:α):cl f [a]=f a:=by rw[nM,acz,az]
theorem gj.e{T:iB}{live:List Nat}{a:IR}{s:St}{K:iY}{α:Type}(b:α)(E:α->Env)(c:α->U)(P:α->Prop)(d:α->Nat)(h0:P b)
  (h:∀x,P x->XC T a { env:=E x,H:=c x } (wi s.H.length live ((E b).map (·.1)) (LJ E c [] false (λe=>d e<d x/\P e) .mk) K))
  (l:forget ((E b).map (·.1)) s.env=E b:=by simp) (j:s.H=c b:=by first|rfl|(simp[iQ];done)|(simp[*];done)) (i:s.marks = []:=by exact rfl) (g:s.iD=false:=by exact rfl) (f:(((E b).map (·.1)).all λk=>live.contains k)=true:=by exact rfl):gj T live a s K .mk:=gj.k b E c P d h0 l j i g f h
theorem kU.pw{l:List Pos}(h:kU l):l.Pairwise λx y=>iE x y<0:=by refine bJ.2 λi j hi a b=>?_;have:=h.le (i:=(i:Int)) (j:=(j:Int)) (by omega) (by omega) (by omega);rwa [Bp hi,Bp a]at this
theorem kU.of{r:List Pos}(h:r.Pairwise λx y=>iE x y<0):kU r:=by intro i h1 a;rw[jg (by omega) (by omega),jg (by omega) (by omega)];exact bJ.1 h _ _ _ _ (by omega)
theorem aaj:∀ {a b:List Pos},(a.Pairwise λx y=>iE x y<0)->(b.Pairwise λx y=>iE x y<0)->(∀q,q∈a↔q∈b)->a=b
 | [],[],_,_,_=>rfl
 | [],y::b,_,_,h=>by have:=(h y).2 (by simp);cases this
 | x::a,[],_,_,h=>by have:=(h x).1 (by simp);cases this
 | x::a,y::b,ha,hb,h=>by
  have g:=aS.1 ha;have d:=aS.1 hb
  have e:x=y:=by
   rcases av.1 ((h x).1 (by simp))with e|e
   .exact e
   rcases av.1 ((h y).2 (by simp))with f|f
   .exact f.symm
   have h1:=d.1 x e;have i:=g.1 y f;rw[vm]at h1;omega
  subst e;rw[aaj g.2 d.2 λq=>?_];constructor
  .intro c;rcases av.1 ((h q).1 (by simp[c]))with e|e
   .subst e;have:=g.1 q c;rw[vj]at this;omega
   .exact e
  .intro c;rcases av.1 ((h q).2 (by simp[c]))with e|e
   .subst e;have:=d.1 q c;rw[vj]at this;omega
   .exact e
theorem E3{a b:List Pos}(d:kU a)(c:kU b)(h:∀q,q∈a↔q∈b):a=b:=aaj d.pw c.pw h
theorem acM{x y:Pos}(h:x≠y)(a:¬iE x y<0):iE y x<0:=by have:iE x y≠0:=λe=>h (rO.1 e);rw[vm];omega
theorem YE(x:Pos):∀r:List Pos,(r.Pairwise λx y=>iE x y<0)->∃b:List Pos,(b.Pairwise λx y=>iE x y<0)/\∀q,q∈b↔q=x\/q∈r
 | [],_=>⟨[x],by simp,by simp⟩
 | y::r,h=>by
  have c:=aS.1 h
  by_cases e:x=y
  .subst e;exact⟨x::r,h,by simp⟩
  by_cases hl:iE x y<0
  .refine⟨x::y::r,aS.2 ⟨λz a=>?_,h⟩,by simp⟩;rcases av.1 a with rfl|a
   .exact hl
   .exact zu hl (c.1 z a)
  .obtain⟨b,h1,d⟩:=YE x r c.2;refine⟨y::b,aS.2 ⟨λz a=>?_,h1⟩,λq=>?_⟩
   .rcases(d z).1 a with rfl|a
    .exact acM e hl
    .exact c.1 z a
   .simp only[av,d];constructor
    .rintro(h|h|h)<;>simp[h]
    .rintro(h|h|h)<;>simp[h]
theorem O':∀l:List Pos,∃r,kU r/\∀q,q∈r↔q∈l
 | []=>⟨[],λi h1 a=>by simp at a;omega,by simp⟩
 | x::l=>by obtain⟨r,h1,a⟩:=O' l;obtain⟨b,d,c⟩:=YE x r h1.pw;exact⟨b,kU.of d,λq=>by rw[c,a,av]⟩
noncomputable def kJ(l:List Pos):List Pos:=Classical.choose (O' l)
theorem CL(l:List Pos):kU (kJ l):=(cH (O' l)).1
@[simp] theorem wB{l:List Pos}{q:Pos}:q∈kJ l↔q∈l:=(cH (O' l)).2 q
theorem aaV{l r:List Pos}(h:kU r)(a:∀q,q∈r↔q∈l):r=kJ l:=E3 h (CL l) λq=>by rw[a,wB]
theorem Io{α:Type}[DecidableEq α]:∀ {l m:List α},l.Nodup->(∀x∈l,x∈m)->l.length<=m.length
 | [],m,_,_=>by simp
 | a::l,m,b,h=>by
  have b:=cM.1 b
  have h1:l.length<=(m.erase a).length:=Io b.2 λx c=>by refine(List.mem_erase_of_ne ?_).2 (h x (by simp[c]));rintro rfl;exact b.1 c
  rw[fr (h a (by simp))]at h1;have:0<m.length:=fF (h a (by simp));simp;omega
theorem kU.nodup{l:List Pos}(h:kU l):l.Nodup:=h.pw.imp λ{a b} c e=>by subst e;rw[vj]at c;omega
theorem O9(l:List Pos):(kJ l).length<=l.length:=Io (kU.nodup (CL l)) λx a=>wB.1 a
def ended(g:gi)(p:Pos):Prop:=∃c∈g.clauses,kX p c
theorem Ip{g:gi}{p:Pos}(h:¬ended g p):∀c∈g.clauses,¬kX p c:=λc a hl=>h ⟨c,a,hl⟩
def MY(g:gi)(p:Pos):List Pos:=(upto g.kinds.length).flatMap λk=>(upto p.cs.length).map λc=>kl p k c
theorem Bm{α c:Type}{f:α->List c}{n:Nat}:∀ {l:List α},(∀a∈l,(f a).length<=n)->(l.flatMap f).length<=l.length*n
 | [],_=>by simp
 | a::l,h=>by rw[List.flatMap_cons,ak,aJ,cA];have:=h a (by simp);have:=Bm (l:=l) λb d=>h b (by simp[d]);omega
theorem aaL{g:gi}:∀ {l:List fZ} {a:List gv},(tm g l a).length<=10 ^ l.length*a.length
 | [],a=>by simp[tm]
 | x::r,a=>by rw[tm];refine Nat.le_trans aaL ?_;rw[aJ,eG,fR];refine eN _ ?_;rw[dQ];exact Bm λs _=>E4
theorem amO{g:gi}(hg:gV g){p:Pos}(a:iw g p):(qp g p).length<=3600000000:=by
 have i:=a.size;have j:=hg.jJ.size
 have:(qp g p).length<=(upto p.cs.length).length*400000000:=by
  refine Bm λc d=>?_;rw[jc]at d;unfold p8;split
  .rename_i e;have f:=I3 hg a d.1 (by omega) e;have b:=hg.jt _ (gy (l:=g.kinds) f.kind.1 f.kind.2)
   have m:((gt g.kinds (gJ (gt p.cs c))).jt.flatMap (u0 g p c)).length<=(gt g.kinds (gJ (gt p.cs c))).jt.length*100000000:=by refine Bm λl hl=>?_;have h:=(b.2 l hl).len;refine Nat.le_trans (ft _ _) (Nat.le_trans aaL ?_);have:10 ^ l.length<=10 ^ 8:=cN (by decide) h.2;simpa using this
   have k:(gt g.kinds (gJ (gt p.cs c))).jt.length<=4:=b.1;omega
  .simp
 have e:(upto p.cs.length).length=p.cs.length:=by simp[upto]
 rw[e]at this;omega
theorem adl{g:gi}(hg:gV g){p:Pos}(a:iw g p):(MY g p).length<=18:=by
 have b:=a.size;have d:=hg.jJ.size;have c:=hg.kinds
 have:(MY g p).length<=(upto g.kinds.length).length*9:=Bm λk _=>by simp[upto];omega
 have e:(upto g.kinds.length).length=g.kinds.length:=by simp[upto]
 rw[e]at this;omega
theorem ahH{g:gi}{p q:Pos}(h:rH g p q):q∈(qp g p).map (·.p)++MY g p:=by
 obtain⟨_,h⟩:=h;split at h
 .exact List.mem_append.2 (.inl (ar.2 ⟨_,h,rfl⟩))
 .rcases h with⟨o,h,rfl⟩|⟨k,c,h1,d,b,a,_,_,rfl⟩
  .exact List.mem_append.2 (.inl (ar.2 ⟨_,h,rfl⟩))
  .exact List.mem_append.2 (.inr (bM.2 ⟨k,jc.2 ⟨h1,d⟩,ar.2 ⟨c,jc.2 ⟨b,a⟩,rfl⟩⟩))
noncomputable def iS(g:gi)(p:Pos):List Pos:=kJ (((qp g p).map (·.p)++MY g p).filter λq=>decide (rH g p q))
theorem ahI(g:gi)(p:Pos):kU (iS g p):=CL _
@[simp] theorem Ch{g:gi}{p q:Pos}:q∈iS g p↔rH g p q:=by unfold iS;rw[wB,aN];simp only[decide_eq_true_eq];exact⟨λh=>h.2,λh=>⟨ahH h,h⟩⟩
theorem S1{g:gi}{p:Pos}{r:List Pos}(h:kU r)(a:∀q,q∈r↔rH g p q):r=iS g p:=E3 h (ahI g p) λq=>by rw[a,Ch]
theorem Ot{g:gi}{p:Pos}(h:ended g p):iS g p = []:=by refine aT.2 λq a=>?_;obtain⟨c,b,hl⟩:=h;exact(Ch.1 a).1 c b hl
@[irreducible] noncomputable def uh(g:gi)(p:Pos):D:=if ended g p then .gg else gZ (iS g p)
theorem Oq(g:gi)(p:Pos):(uh g p = .gg/\iS g p = [])\/uh g p=gZ (iS g p):=by
 unfold uh;split
 .rename_i h;exact .inl ⟨rfl,Ot h⟩
 .exact .inr rfl
theorem Au{g:gi}(hg:gV g){p:Pos}(a:iw g p):(iS g p).length<=4000000000:=by refine Nat.le_trans (O9 _) (Nat.le_trans (List.length_filter_le _ _) ?_);have:=amO hg a;have:=adl hg a;simp;omega
section
variable{g:gi}{p:Pos}{n:Int}{k:IntKind}{P:D->Prop}{H:U}
@[simp] theorem acJ:closed (uh g p)=true:=by rcases Oq g p with⟨h,_⟩|h<;>rw[h]<;>simp
@[simp] theorem avN:mX .slice (uh g p) H=some (.i (iS g p).length):=by rcases Oq g p with⟨h,e⟩|h<;>rw[h]<;>simp[*]
@[simp] theorem azk:kS 5 H (uh g p)=some (cl Pos.cells (iS g p),(iS g p).length):=by rcases Oq g p with⟨h,e⟩|h<;>rw[h]<;>simp[*]
@[simp] theorem azI(n:Nat):jv n (uh g p) = []:=Pn n acJ
@[simp] theorem awH:oA (mH 5 (uh g p) (.val (.int k n))) P .mk=((0<=n/\n<(iS g p).length)/\P (.gu (gt (iS g p) n).cells)):=by
 rcases Oq g p with⟨h,e⟩|h
 .rw[h,e];simp only[mH,ZN,cW];refine propext ⟨λh=>h.elim,λ⟨h,_⟩=>?_⟩;have:=h.1;have:=h.2;simp at this;omega
 .rw[h];exact yL
end
noncomputable def uM(g:gi)(p:Pos):Int:=if ended g p then(g.clauses.findIdx λc=>decide (kX p c):Nat)else -1
theorem P'{g:gi}{p:Pos}(h:ended g p):0<=uM g p/\uM g p<g.clauses.length/\gt g.clauses (uM g p)∈g.clauses:=by
 unfold uM;rw[if_pos h]
 have:(g.clauses.findIdx λc=>decide (kX p c))<g.clauses.length:=by rw[List.findIdx_lt_length];obtain⟨c,a,hl⟩:=h;exact⟨c,a,by simpa using hl⟩
 exact p9 (gy (by omega) (by omega))
theorem VQ{g:gi}{p:Pos}(h:¬ended g p):uM g p = -1:=by unfold uM;rw[if_neg h]
theorem M1{g:gi}{p:Pos}:0<=uM g p↔ended g p:=by
 by_cases h:ended g p
 .exact⟨λ_=>h,λ_=>(P' h).1⟩
 .rw[VQ h];simp[h]
noncomputable def stat(g:gi)(p:Pos):Int×Bool:=(if ended g p then(gt g.clauses (uM g p)).out else if iS g p = []then g.blocked else 0,decide (iS g p = []))
theorem aot{g:gi}(hg:gV g){p:Pos}(h:(stat g p).2=true):1<=(stat g p).1/\(stat g p).1<=3:=by
 unfold stat at *;simp only[decide_eq_true_eq]at h ⊢;split
 .rename_i a;exact(hg.clause _ (P' a).2.2).out
 .exact hg.blocked
end Go.AL
namespace Go.Proofs.YtmehofoficaelaaGreatDoor
open Go Go.AL Classical
set_option maxRecDepth 10000
set_option maxHeartbeats 1000000
theorem Wq(p:Pos)(a:Small p):Wf T 205 [dP p] [] (λd H=>d = .agg [.fY 0 1 1 0 p.cs.length,dI p.h0,dI p.h1,.i p.gL,.i p.side]/\H = [.row 3 1 (cl f1 p.cs)]):=by obtain⟨h1,c,b⟩:=a;refine Wf.xo 3 (fn:=zd) rfl (by simp[zd]) ?_;simp[zd];exact mK
@[irreducible] def fA(a:List gv):List D:=[kF a]
theorem Bh(a:List gv):fA a = [kF a]:=by unfold fA;rfl
instance:Fl fA 1:=⟨λ_=>by simp[Bh],λ_=>by simp[Bh,gF]⟩
@[simp] theorem asG(l:List (List gv))(x:List gv):cl fA l ++ [kF x]=cl fA (l ++ [x]):=by rw[<-q',Bh]
theorem acp(x:List gv) : [kF x]=cl fA [x]:=by rw[nM,Bh];simp
def oY(g:gi)(x:fZ)(now:List gv):List gv:=now.foldl (λa s=>ml a (jd g s x)) []
def pH(g:gi):List fZ->List gv->List (List gv)
 | [],_=>[]
 | x::r,now=>oY g x now::pH g r (oY g x now)
theorem WM{g:gi}{x:fZ}{t:gv}:∀ {now a:List gv},t∈now.foldl (λa s=>ml a (jd g s x)) a↔t∈a\/t∈now.flatMap λs=>jd g s x
 | [],a=>by simp
 | s::r,a=>by rw[b9,WM,FM,List.flatMap_cons,List.mem_append,or_assoc]
theorem Ov{g:gi}{x:fZ}{now:List gv}{t:gv}:t∈oY g x now↔t∈now.flatMap λs=>jd g s x:=by unfold oY;rw[WM];simp
theorem WL{g:gi}{x:fZ}:∀ {now c:List gv},(now.foldl (λc s=>ml c (jd g s x)) c).length<=c.length+10*now.length
 | [],c=>by simp
 | s::r,c=>by rw[b9];refine Nat.le_trans WL ?_;have:=FL (a:=c) (b:=jd g s x);have:=E4 (g:=g) (s:=s) (x:=x);rw[aJ];omega
theorem Il{g:gi}{x:fZ}{now:List gv}:(oY g x now).length<=10*now.length:=by unfold oY;refine Nat.le_trans WL ?_;simp
theorem aa2{g:gi}:∀ {l:List fZ} {now:List gv},(pH g l now).length=l.length
 | [],_=>rfl
 | x::r,now=>by rw[pH,aJ,aa2,aJ]
theorem f194(g:gi)(hg:gV g)(p:Pos)(m:iw g p)(c i:Int)(o:0<=c/\c<g.size)(r:jY (gt p.cs c)=p.side)(hi:0<=i/\i<(gt g.kinds (gJ (gt p.cs c))).jt.length) :
  Wf T 254 [dG g,dP p,.i c,.i i] [] (Is (.agg [.sl 1 (([lD p c]::pH g (gt (gt g.kinds (gJ (gt p.cs c))).jt i) [lD p c]).map fA),.i 0])):=by
 have H:=m.size;have w:=m.small hg;have z:=m.cs _ (gy o.1 (by omega));have y:=m.side;obtain⟨m1,m2,m3,m4⟩:=Ic y.1 r;have A:gJ (gt p.cs c)<g.kinds.length:=yG z.2 hg.kinds.1;refine Yz Ft (iZ 117 [10] Ft.body) ?_;simp[Ft,iZ,kD,np,nz,nP,ma];refine Yc (f65 g p hg m) ?_;simp;(with_reducible repeat' first|refine Xk ?_<;>try simp|refine Xs ?_ ?_<;>intro h<;>(try intro C)<;>(try simp[h])<;>try omega|refine Xg ?_|omega);refine Yc (f51 _) ?_;simp;(with_reducible repeat' first|refine Xk ?_<;>try simp|refine Xs ?_ ?_<;>intro h<;>(try intro C)<;>(try simp[h])<;>try omega|refine Xg ?_|omega)
 rotate_right
 refine pK.n rfl rfl (Wq p w) (by simp) (by simp) ?_;simp;refine gd ?_;refine gj.fz [0,1,3,4,5,6,8] rfl ?_;have q0:=iP (l:=p.cs) (n:=c) (v:=0) o.1 (by omega);have D:kn g (lD p c):=I3 hg m o.1 o.2 r;have F:=hg.jt _ (gy (l:=g.kinds) m1 A);generalize u:gt (gt g.kinds (gJ (gt p.cs c))).jt i=prog at *;have q:xM g prog:=F.2 _ (u▸gy hi.1 hi.2);have I:=q.len
 refine gj.k ((0,[[lD p c]],[lD p c]):Int×List (List gv)×List gv) (λx=>[(4,.gu g.cells),(8,.ptr 2 0 0),(11,.ptr 9 0 0),(12,kF x.2.2),(13,gY prog),(14,.i x.1)]) (λx=>[.dead,.dead,.row 369 0 [.gg,.i 0],.dead,.dead,.dead,.dead,.row 371 x.1.toNat (cl fA x.2.1),.dead,.row 369 0 [.fY 7 x.1.toNat 1 0 x.2.1.length,.i 0]])
  (λx=>0<=x.1/\x.1<=prog.length/\x.2.1.length=x.1.toNat+1/\(∀s∈x.2.2,kn g s)/\x.2.2.length<=10 ^ x.1.toNat/\[lD p c]::pH g prog [lD p c]=x.2.1++pH g (prog.drop x.1.toNat) x.2.2) (λx=>prog.length-x.1.toNat) ?_ ?_ ?_ rfl rfl (by simp) ?_
 .simp;exact D
 .simp[lD,q0]
 .simp[lD,<-acp,q0]
 rintro⟨k,steps,now⟩ ⟨k0,k1,k2,k3,k4,k5⟩;dsimp only at k0 k1 k2 k3 k4 k5 ⊢;simp;refine j' ?_ ?_<;>intro h
 .refine gj.e ((0,0,[]):Int×Nat×List gv) (λx=>[(4,.gu g.cells),(8,.ptr 2 0 0),(11,.ptr 9 0 0),(12,kF now),(13,gY prog),(14,.i k),(15,.fY 10 x.2.1 8 0 x.2.2.length),(16,.i x.1)]) (λx=>[.dead,.dead,.row 369 0 [.gg,.i 0],.dead,.dead,.dead,.dead,.row 371 k.toNat (cl fA steps),.dead,.row 369 0 [.fY 7 k.toNat 1 0 steps.length,.i 0],.row 373 x.2.1 (cl gv.cells x.2.2)]) (λx=>0<=x.1/\x.1<=now.length/\(∀s∈x.2.2,kn g s)/\x.2.2.length<=10*x.1.toNat/\oY g (gt prog k) now=(now.drop x.1.toNat).foldl (λf s=>ml f (jd g s (gt prog k))) x.2.2) (λx=>now.length-x.1.toNat) ?_ ?_
  .simp[oY]
  rintro⟨j,E,f⟩ ⟨j0,j1,j2,j3,j4⟩;dsimp only at j0 j1 j2 j3 j4 ⊢;simp;refine j' ?_ ?_<;>intro h
  .refine Yt (f228 g hg _ (k3 _ (gy j0 ‹_›)) _ (q.steps _ (gy k0 ‹_›))) ?_;simp;have gf:=k3 _ (gy j0 ‹_›);refine gx.kH rfl rfl (f227 10 E f (jd g (gt now j) (gt prog k)) _ rfl (by simp) (λs hs=>(j2 s hs).p.small hg) (λs hs=>(CQ hg gf (q.steps _ (gy k0 ‹_›)) hs).p.small hg) ?_) ?_
   .have h1:=E4 (g:=g) (s:=gt now j) (x:=gt prog k);have B:10 ^ k.toNat<=10 ^ 8:=cN (by decide) (by omega);omega
   rintro d H' ⟨G,rfl,rfl⟩;simp;have B:10 ^ k.toNat<=10 ^ 8:=cN (by decide) (by omega);refine gd ?_;refine LJ.e (j+1,G,ml f (jd g (gt now j) (gt prog k))) ?_;refine⟨by dsimp only;omega,by dsimp only;omega,by dsimp only;omega,λs hs=>?_,?_,?_⟩
   .rcases FM.1 hs with hs|hs
    .exact j2 s hs
    .exact CQ hg gf (q.steps _ (gy k0 ‹_›)) hs
   .have h1:=E4 (g:=g) (s:=gt now j) (x:=gt prog k);have t:=FL (a:=f) (b:=jd g (gt now j) (gt prog k));dsimp only;omega
   .rw[j4,oc j0 ‹_›,b9,show(j+1).toNat=j.toNat+1 by omega]
  .have e:oY g (gt prog k) now=f:=by rw[j4,bB (by omega)];rfl
   refine gd ?_;refine LJ.i (k+1,steps ++ [f],f) (by first|rfl|simp[show(k+1).toNat=k.toNat+1 by omega]) (by first|rfl|simp[show(k+1).toNat=k.toNat+1 by omega]) rfl rfl ?_;refine⟨by dsimp only;omega,by dsimp only;omega,by dsimp only;omega,by simp;omega,j2,?_,?_⟩
   .have t:=Il (g:=g) (x:=gt prog k) (now:=now);rw[e]at t;dsimp only;rw[show(k+1).toNat=k.toNat+1 by omega,eG];omega
   .rw[k5,oc k0 ‹_›,pH,e,show(k+1).toNat=k.toNat+1 by omega];simp
 .rw[bB (by omega),pH,az]at k5;rw[<-k5];simp
theorem ahb{a b:gQ}(h1:¬H8 a b)(c:¬H8 b a):a=b:=by
 unfold H8 at *;have e:=vm a.p b.p
 have h:iE a.p b.p=0:=by
  by_cases h:iE a.p b.p=0
  .exact h
  .exfalso
   by_cases d:iE a.p b.p<0
   .exact h1 (.inl d)
   .exact c (.inl (by omega))
 have f:iE b.p a.p=0:=by omega
 simp[h,f]at h1 c;have:=rO.1 h;cases a;cases b;simp_all;rename_i x y _;cases x<;>cases y<;>simp_all
structure Mj(l:List gQ)(x:gQ)(i:Int)(d:Bool)(out:List gQ):Prop where
 i0:0<=i/\i<=l.length
 dn:d=true->x∈out
 sub:∀o∈out,o∈l.take i.toNat\/o=x
 sup:∀o∈l.take i.toNat,o∈out
 len:out.length<=i.toNat+(if d then 1 else 0)
theorem Mj.step{l:List gQ}{x:gQ}{i:Int}{d d':Bool}{out:List gQ}(h:Mj l x i d out)(hi:i<l.length)(xs:List gQ)(b:∀o∈xs,o=x)(c:d'=true->d=true\/x∈xs\/gt l i=x)(hl:xs.length+(if d then 1 else 0)<=(if d' then 1 else 0)):Mj l x (i+1) d' (out++xs ++ [gt l i]):=by
 have h0:=h.i0;refine⟨by omega,λe=>?_,λo a=>?_,λo a=>?_,?_⟩
 .rcases c e with e|e|e
  .have:=h.dn e;simp[this]
  .simp[e]
  .simp[e]
 .rw[jq h0.1 hi];simp at a ⊢;rcases a with a|a|a
  .rcases h.sub o a with h|h
   .exact .inl (.inl h)
   .exact .inr h
  .exact .inr (b o a)
  .exact .inl (.inr a)
 .rw[jq h0.1 hi]at a;simp at a ⊢;rcases a with a|a
  .exact .inl (h.sup o a)
  .exact .inr (.inr a)
 .have:=h.len;simp;omega
theorem f195(l:List gQ)(x:gQ)(hl:l.length<2 ^ 39)(hs:∀o∈l,Small o.p)(k:Small x.p):Wf T 255 [oa l,.agg x.cells] [] (Ex oa λr=>(∀o,o∈r↔o∈l\/o=x)/\r.length<=l.length+1):=by
 refine Yg K1 ?_;simp[K1];refine gj.e ((0,false,[]):Int×Bool×List gQ) (λy=>[(0,oa l),(3,.ptr 0 0 0),(5,.fY 1 y.2.2.length 6 0 y.2.2.length),(6,.b y.2.1),(7,.i y.1)]) (λy=>[.row 259 0 x.cells,.row 259 y.2.2.length (cl gQ.cells y.2.2)]) (λy=>Mj l x y.1 y.2.1 y.2.2) (λy=>l.length-y.1.toNat) ?_ ?_
 .exact⟨by simp,by simp,by simp,by simp,by simp⟩
 rintro⟨i,done,out⟩ c;have h0:=c.i0;have j:=c.len;have m:(if done=true then 1 else 0)<=1:=by split<;>omega
 dsimp only at c h0 j ⊢;simp;(with_reducible repeat' first|refine Xk ?_<;>try simp|refine Xs ?_ ?_<;>intro h<;>(try intro n)<;>(try simp[h])<;>try omega|refine Xg ?_|omega)
 .refine LJ.e (i+1,true,out ++ [gt l i]) ?_;subst h;have:=c.step ‹_› [] (d':=true) (by simp) (by simp) (by simp);simp at this;exact⟨by simp;omega,this⟩
 .have d:=h;refine Yt (f229 _ _ (hs _ (gy h0.1 ‹_›)) k) ?_;simp[h];refine Mo d ?_ ?_<;>intro h
  .subst d;have:=c.step ‹_› [] (d':=false) (by simp) (by simp) (by simp);simp at this;refine LJ.e (i+1,false,out ++ [gt l i]) ?_;exact⟨by simp;omega,this⟩
  .refine Yt (f229 _ _ k (hs _ (gy h0.1 ‹_›))) ?_;simp[d];refine Mo d ?_ ?_<;>intro h
   .subst d;have:=c.step ‹_› [x] (d':=true) (by simp) (by simp) (by simp);refine LJ.e (i+1,true,out ++ [x] ++ [gt l i]) ?_;exact⟨by simp;omega,this⟩
   .subst d;have e:=ahb (a:=gt l i) (b:=x) ‹_› ‹_›;have:=c.step ‹_› [] (d':=true) (by simp) (by simp[e]) (by simp);simp at this;refine LJ.e (i+1,true,out ++ [gt l i]) ?_;exact⟨by simp;omega,this⟩
 .subst h;have g:=c.sub;have f:=c.sup;rw[ln (by omega)]at g f;refine⟨out,rfl,λo=>⟨g o,λh=>?_⟩,by simp at j;omega⟩;rcases h with h|h
  .exact f o h
  .rw[h];exact c.dn rfl
 .subst h;have g:=c.sub;have f:=c.sup;rw[ln (by omega)]at g f;refine⟨out ++ [x],by simp[oa],λo=>?_,by simp at j;simp;omega⟩;simp;constructor
  .rintro(h|h)
   .exact g o h
   .exact .inr h
  .rintro(h|h)
   .exact .inl (f o h)
   .exact .inr h
theorem Y6{g:gi}:∀ {l:List fZ} {now:List gv} {t:gv},t∈gt (now::pH g l now) l.length↔t∈tm g l now
 | [],now,t=>by simp[pH,tm,gt]
 | x::r,now,t=>by
  have e:gt (now::pH g (x::r) now) (x::r).length=gt (oY g x now::pH g r (oY g x now)) r.length:=by rw[pH];unfold gt;simp only[aJ,bt,List.getD_cons_succ]
  rw[e,Y6,tm];exact aaK (λs=>Ov) t
theorem Y5{g:gi}:∀ {l:List fZ} {now:List gv},(gt (now::pH g l now) l.length).length<=10 ^ l.length*now.length
 | [],now=>by simp[pH,gt]
 | x::r,now=>by
  have e:gt (now::pH g (x::r) now) (x::r).length=gt (oY g x now::pH g r (oY g x now)) r.length:=by rw[pH];unfold gt;simp only[aJ,bt,List.getD_cons_succ]
  rw[e];refine Nat.le_trans Y5 ?_;rw[aJ,eG,fR];exact eN _ Il
theorem f154(g:gi)(hg:gV g)(p:Pos)(b:iw g p)(c i:Int)(f:0<=c/\c<g.size)(m:jY (gt p.cs c)=p.side)(hi:0<=i/\i<(gt g.kinds (gJ (gt p.cs c))).jt.length) :
  Wf T 204 [dG g,dP p,.i c,.i i] [] (Ex (λr=>.tup [oa r,.i 0]) λr=>(∀o,o∈r↔o∈u0 g p c (gt (gt g.kinds (gJ (gt p.cs c))).jt i))/\r.length<=10 ^ 8):=by
 have I:=b.cs _ (gy f.1 (by have:=b.size;omega));have a:=b.side;obtain⟨m1,m2,m3,m4⟩:=Ic a.1 m;have J:gJ (gt p.cs c)<g.kinds.length:=yG I.2 hg.kinds.1;have N:kn g (lD p c):=I3 hg b f.1 f.2 m;have Q:=hg.jt _ (gy (l:=g.kinds) m1 J);have O:=f194 g hg p b c i f m hi;generalize G:gt (gt g.kinds (gJ (gt p.cs c))).jt i=prog at *;have D:xM g prog:=Q.2 _ (G▸gy hi.1 hi.2);have P:=D.len;have z:∀t,t∈gt ([lD p c]::pH g prog [lD p c]) prog.length↔t∈tm g prog [lD p c]:=λt=>Y6;have R:=Y5 (g:=g) (l:=prog) (now:=[lD p c]);have Y:10 ^ prog.length<=10 ^ 8:=cN (by decide) P.2;have F:=aa2 (g:=g) (l:=prog) (now:=[lD p c]);generalize hS : [lD p c]::pH g prog [lD p c]=S at *;have V:S.length=prog.length+1:=by rw[<-hS];simp[F]
 refine Yz Fs (iZ 70 [5] Fs.body) ?_;simp[Fs,iZ,kD,np,nz,nP,ma];refine Yc (O) ?_;simp;(with_reducible repeat' first|refine Xk ?_<;>try simp[Bh]|refine Xs ?_ ?_<;>intro h<;>(try intro Z)<;>(try simp[h,Bh])<;>try omega|refine Xg ?_|omega);rw[show(S.length:Int)-1=prog.length by omega];generalize gt S (prog.length:Int)=L at *;have gf:∀s∈L,kn g s:=λs hs=>OX hg D.steps (λt e=>by rw[List.mem_singleton]at e;subst e;exact N) s ((z s).1 hs);have K:L.length<=100000000:=by simp at R;omega
 simp[Bh];refine gd ?_;refine gj.fz [0,2,3] rfl ?_;refine gj.e ((0,[]):Int×List gQ) (λy=>[(5,.ptr 1 0 0),(11,oa y.2),(12,kF L),(13,.i y.1)]) (λy=>[.dead,.row 46 0 p.cells,.dead,.dead]) (λy=>0<=y.1/\y.1<=L.length/\(∀o,o∈y.2↔o∈(L.take y.1.toNat).filterMap (oD p.side))/\y.2.length<=y.1.toNat) (λy=>L.length-y.1.toNat) ?_ ?_
 .simp
 rintro⟨j,out⟩ ⟨j0,j1,j2,j3⟩;dsimp only at j0 j1 j2 j3 ⊢;simp;refine j' ?_ ?_<;>intro h
 .have hs:=gf _ (gy j0 ‹_›);have U:=hs.p.small hg;have X:=hs.p.size;have w:=hs.cur;have u:=hs.kind;have W:=hg.kinds;generalize C:gt L j=s at *;refine j' ?_ ?_<;>intro h
  .have q:=iP (l:=s.p.cs) (n:=s.cur) (v:=1+2*s.kind+p.side) w.1 (by omega);refine Yn (Wq s.p U) ?_;simp;refine Yt (f156 (k:=s.kind) (s:=p.side) u.1 (by omega) a.1 a.2) ?_;simp[q];refine jP q ?_;generalize d:({ p:=⟨pt s.p.cs s.cur (1+2*s.kind+p.side),s.p.h0,s.p.h1,s.p.gL,1-p.side⟩,jN:=s.jN }:gQ)=o;have A:oD p.side s=some o:=by rw[oD,if_pos ‹_›,<-d];rfl
   have E:Small o.p:=iw.small hg (Nd hs a.1 a.2 A)
   have H:∀o∈out,Small o.p:=λo d=>by obtain⟨t,e,M⟩:=cU.1 ((j2 o).1 d);exact iw.small hg (Nd (gf t (aW e)) a.1 a.2 M)
   have c2:=f195 out o (by omega) H E;rw[<-d]at c2;refine gx.q rfl rfl c2 (by simp) (λ_=>by simp) ?_;intro r B;simp;rw[d]at B;refine gd ?_;refine LJ.e (j+1,r) ?_;refine⟨by dsimp only;omega,by dsimp only;omega,by dsimp only;omega,λx=>?_,by dsimp only;omega⟩;rw[B.1,j2,jq j0 ‹_›,C];simp[A,eq_comm]
  .refine gd ?_;refine LJ.e (j+1,out) ?_;refine⟨by dsimp only;omega,by dsimp only;omega,by dsimp only;omega,λx=>?_,by dsimp only;omega⟩;rw[j2,jq j0 ‹_›,C];have:oD p.side s=none:=by rw[oD,if_neg ‹_›]
   simp[this]
 .rw[ln (by omega)]at j2;refine⟨out,rfl,λo=>?_,?_⟩
  .rw[j2,u0];simp only[cU,z]
  .omega
