/- Part 12 of DisputeTruth. -/
import Derived.Test.YtmehofoficaelaaGreatDoorV11
set_option linter.all false
namespace Go.Proofs.YtmehofoficaelaaGreatDoor
open Go Go.AL Classical
set_option maxRecDepth 10000
set_option maxHeartbeats 1000000
theorem Mw(p:Pos)(a:Small p):Wf T 205 [dP p] [] (λd H=>d = .agg [.fM 0 1 1 0 p.cs.length,.fM 1 1 1 0 p.h0.length,.fM 2 1 1 0 p.h1.length,.i p.gD,.i p.side]/\H = [.row 3 1 (cl f1 p.cs),.row 3 1 (cl f1 p.h0),.row 3 1 (cl f1 p.h1)]):=by
 obtain⟨h1,c,b⟩:=a;refine Wf.xo 2 (fn:=yJ) rfl (by simp[yJ]) ?_;simp[yJ];exact mE
 all_goals trace_state
theorem f250(a b:gg)(d:Small a.p)(c:Small b.p):Wf T 294 [.agg a.cells,.agg b.cells] [] (Is (.b (decide (a=b)))):=by
 have e:(a=b)↔a.p=b.p/\a.kind=b.kind/\a.cur=b.cur/\a.jF=b.jF:=by cases a;cases b;simp
 have f:decide (a=b)=decide (a.p=b.p/\a.kind=b.kind/\a.cur=b.cur/\a.jF=b.jF):=decide_eq_decide.2 e;rw[f];refine Yg KJ ?_;simp[KJ];(with_reducible repeat' first|refine Xk ?_<;>try simp|refine Xs ?_ ?_<;>intro h<;>(try intro g)<;>(try simp[h])<;>try omega|refine Xg ?_|omega)
 .refine Yc (f50 _ _ d c) ?_;simp;simp_all [rj]
 all_goals (intros;simp_all)
theorem f252(s:gg)(b:Bool):Wf T 296 [.agg s.cells,.b b] [] (Is (kq (if b then [s]else []))):=by refine Yg KM ?_;simp[KM];exact mE
def Hr(a b:gJ):Prop:=iw a.p b.p<0\/(iw a.p b.p=0/\a.jF=false/\b.jF=true)
theorem f229(a b:gJ)(d:Small a.p)(c:Small b.p):Wf T 285 [.agg a.cells,.agg b.cells] [] (Is (.b (decide (Hr a b)))):=by
 refine Yg Kz ?_;simp[Kz];refine Yc (f50 _ _ d c) ?_;simp;(with_reducible repeat' first|refine Xk ?_<;>try simp|refine Xs ?_ ?_<;>intro h<;>(try intro f)<;>(try simp[h])<;>try omega|refine Xg ?_|omega)
 all_goals by_cases e:iw a.p b.p<0<;>simp[*,Hr]at *
theorem f263(g:fY)(hg:oo g)(s d c:Int):Wf T 321 [g.jB,.i s,.i d,.i c] [] (Is (dI (lk g s d c))):=by
 have o:=hg.size;refine Yg KT ?_;simp[KT];refine Yc (f251 g hg s d c) ?_;simp;refine fZ.j ((0,l5 g s d c,[]):Nat×Int×List Int) (λx=>[(1,.i s),(2,.i d),(3,.i c),(4,.ptr 0 0 0),(9,.fM 1 x.2.2.length 1 0 x.2.2.length),(10,.i x.2.1)]) (λx=>[.row 39 0 [.i g.size,.sl 1 (g.next.map fI),dI g.jn],.row 3 x.2.2.length (cl f1 x.2.2)]) (λx=>x.1=x.2.2.length/\x.2.1<g.size/\x.2.2.Nodup/\(∀y∈x.2.2,0<=y/\y<g.size)/\lk g s d c=tG g s d c (10-x.1) x.2.1 x.2.2) (λx=>10-x.1) ?_ (by simp) (by first|rfl|simp) rfl ?_
 .have:=hg.to s d c;simp[lk];omega
 rintro⟨m,x,out⟩ ⟨h0,h1,f,b,j⟩;dsimp only at h0 h1 f b j ⊢;have n:out.length<=9:=zV 9 out f (λy a=>by have:=b y a;omega);have e:=j;rw[show 10-m=(9-m)+1 by omega,tG]at e;simp;(with_reducible repeat' first|refine Xk ?_<;>try simp|refine Xs ?_ ?_<;>intro h<;>(try intro p)<;>(try simp[h])<;>try omega|refine Xg ?_|omega)
 .rw[e,if_neg (by omega)]
 .refine gj.r rfl rfl (f25 out x (by omega)) (by simp) rfl (by simp) ?_;simp;refine jU ?_ ?_<;>intro h
  .rw[e,if_neg (by rintro⟨_,_,k⟩;exact k ‹_›)]
  .refine Yc (f251 g hg s d x) ?_;simp;refine⟨out.length+1,_,out ++ [x],by simp,rfl,by simp,rfl,by omega,by simp,(hg.to _ _ _).2,?_,?_,?_⟩
   .rw[cN];refine⟨f,by simp,λy a z i=>?_⟩;simp at i;subst i;intro l;subst l;exact absurd a ‹_›
   .intro y a;simp at a;rcases a with a|rfl
    .exact b y a
    .omega
   .rw[e,if_pos (pI (by assumption)),h0,show 9-out.length=10-(out.length+1)by omega]
 .rw[e,if_neg (by omega)]
theorem f253(g:fY)(hg:gN g)(s:gg)(hs:kd g s)(n:Int):Wf T 297 [dG g,.agg s.cells,.i n] [] (Is (kq (pX s (lk g s.p.side n s.cur)))):=by
 have hl:=Sa (g:=g) (s:=s.p.side) (d:=n) (c:=s.cur);have j:=hs.p.size;refine Yg KN ?_;simp[KN];refine Yc (f263 g hg.jB s.p.side n s.cur) ?_;simp;generalize f:lk g s.p.side n s.cur=L at *;have gy:∀y∈L,0<=y/\y<g.size:=λy e=>R9 hg.jB (f▸e);refine fZ.j ((0,[]):Int×List gg) (λx=>[(4,.ptr 1 0 0),(7,.fM 2 x.2.length 8 0 x.2.length),(8,dI L),(9,.i x.1)]) (λx=>[.row 43 0 g.cells,.row 373 0 s.cells,.row 373 x.2.length (cl gg.cells x.2)]) (λx=>0<=x.1/\x.1<=L.length/\x.2.length=x.1.toNat/\pX s L=x.2++pX s (L.drop x.1.toNat)) (λx=>L.length-x.1.toNat) ?_ (by simp) (by first|rfl|simp) rfl ?_
 .simp
 rintro⟨i,out⟩ ⟨h0,h1,b,a⟩;dsimp only at h0 h1 b a ⊢;simp;refine jU ?_ ?_<;>intro h
 .have k:=gy _ (gq h0 ‹_›);rw[nN h0 ‹_›,pX]at a;refine jU ?_ ?_<;>intro h
  .refine⟨i+1,out ++ [{ s with cur:=gt L i }],by simp,rfl,by simp,by rw[<-pL],by omega,by omega,by omega,by simp[b];omega,?_⟩;rw[a,if_pos ‹_›,show(i+1).toNat=i.toNat+1 by omega];simp
  .rw[if_neg ‹_›]at a;rw[a];simp[kq]
 .rw[bw (by omega)]at a;rw[a];simp[pX]
theorem Y4{n s:Int}(_:0<=n)(a:0<=gC n)(h:jS n≠s)(hs:0<=s/\s<=1):jS n=1-s:=by
 unfold gC jS at *;split at a
 .rename_i e;rw[if_pos e]at h ⊢;omega
 .omega
theorem f254(g:fY)(hg:gN g)(s:gg)(hs:kd g s):Wf T 298 [dG g,.agg s.cells] [] (Is (kq (sX g s))):=by
 have r:=hs.p.size;have d:=hs.cur;have j:=hs.p.small hg;refine Yg KP ?_;simp[KP];refine fQ ?_;refine Yc (f51 _) ?_;simp;have b:=hs.p.cs _ (gq d.1 (by omega));have i:=hg.kinds;have f:=hs.p.side;(with_reducible repeat' first|refine Xk ?_<;>try simp|refine Xs ?_ ?_<;>intro h<;>(try intro u)<;>(try simp[h])<;>try omega|refine Xg ?_|omega)
 .rw[sX,if_pos];unfold gC at *;unfold jS;split at h<;>rename_i m
  .omega
  .rw[if_neg m];omega
 .rw[sX,if_pos (by omega)]
 .have t:gC (gt s.p.cs s.cur)<g.kinds.length:=yf b.2 i.1;have o:s.p.side=0\/s.p.side=1:=by omega
  have q:=hs.p.h0.len;have p:=hs.p.h1.len;have q0:=iH (l:=s.p.cs) (n:=s.cur) (v:=0) d.1 (by omega);refine Yn (Mw s.p j) ?_;simp;refine LD q0 ?_ ?_<;>intro h
  .have a:jS (gt s.p.cs s.cur)=1-s.p.side:=Y4 b.1 (by omega) (by assumption) f;have c:=h;rcases o with e|e
   .have k:=hs.p.h0.at_ _ (by omega) (show gC (gt s.p.cs s.cur)<s.p.h0.length by omega);have q1:=Da (l:=s.p.h0) (n:=gC (gt s.p.cs s.cur)) (v:=gt s.p.h0 (gC (gt s.p.cs s.cur))+1) (by omega) (by omega);have q2:=iH (l:=s.p.h0) (n:=gC (gt s.p.cs s.cur)) (v:=gt s.p.h0 (gC (gt s.p.cs s.cur))+1) (by omega) (by omega);simp[e,q1,q2];refine jU ?_ ?_<;>intro h
    all_goals simp[sX,a,c,Pos.hand,Pos.mM,e,q0,q2]
    .rw[if_neg (by omega)]
    .rw[if_pos (by omega)]
   .have k:=hs.p.h1.at_ _ (by omega) (show gC (gt s.p.cs s.cur)<s.p.h1.length by omega);have q1:=Da (l:=s.p.h1) (n:=gC (gt s.p.cs s.cur)) (v:=gt s.p.h1 (gC (gt s.p.cs s.cur))+1) (by omega) (by omega);have q2:=iH (l:=s.p.h1) (n:=gC (gt s.p.cs s.cur)) (v:=gt s.p.h1 (gC (gt s.p.cs s.cur))+1) (by omega) (by omega);simp[e,q1,q2];refine jU ?_ ?_<;>intro h
    all_goals simp[sX,a,c,Pos.hand,Pos.mM,e,q0,q2]
    .rw[if_neg (by omega)]
    .rw[if_pos (by omega)]
  .have a:jS (gt s.p.cs s.cur)=1-s.p.side:=Y4 b.1 (by omega) (by assumption) f;simp[sX,a,h,q0]
theorem f255(g:fY)(hg:gN g)(s:gg)(hs:kd g s)(n:Int):Wf T 299 [dG g,.agg s.cells,.i n] [] (Is (kq (tP g s n))):=by
 have c:=hs.p.size;have a:=hs.cur;have b:=hs.p.small hg;have d:=hg.jB.to s.p.side n s.cur;refine Yg KQ ?_;simp[KQ];refine Yc (f251 g hg.jB s.p.side n s.cur) ?_;simp;(with_reducible repeat' first|refine Xk ?_<;>try simp|refine Xs ?_ ?_<;>intro h<;>(try intro e)<;>(try simp[h])<;>try omega|refine Xg ?_|omega)
 .rw[tP,if_pos (by simp_all)]
 .rw[tP,if_pos (by simp_all)]
 .have q0:=iH (l:=s.p.cs) (n:=l5 g s.p.side n s.cur) (v:=gt s.p.cs s.cur) (by omega) (by omega);have q1:=iH (l:=pt s.p.cs (l5 g s.p.side n s.cur) (gt s.p.cs s.cur)) (n:=s.cur) (v:=0) a.1 (by omega);refine Yn (Mw s.p b) ?_;simp;refine kM q0 q1 ?_;simp[tP, *]
 .rw[tP,if_pos (by simp_all)]
end Go.Proofs.YtmehofoficaelaaGreatDoor
namespace Go.AL
open Go
def mU(n:Nat):D->Bool
 | .fM v _ _ _ _ | .ptr v _ _ | .gx v | .iP v=>decide (v<n)
 | d=>closed d
def jm(n:Nat):D->Bool
 | .agg cs | .tup cs | .gi cs=>cs.all (mU n)
 | .fn _ a b=>a.all (mU n)&&b.all (mU n)
 | d=>mU n d
def mT(n:Nat):Ob->Bool
 | .row _ _ cs=>cs.all (jm n)
 | .map _ es=>es.all λx=>jm n x.2
 | .ia _ env _=>env.all λx=>jm n x.2
 | .sn _ _=>true
 | .iX m _ _=>mU n m
 | .jv=>true
 | .dead=>true
 | .lL=>false
def jl(n:Nat)(H:U):Prop:=∀o∈H,mT n o=true
theorem Ti{ρ:Nat->Option Nat}{H:U}{n k:Nat}(a:∀u,u<n->ρ u=some u){d:D}(h:mU n d=true):gd ρ H (k+1) d=d:=by
 cases d with
 | fM v g sz off len=>simp only[mU,decide_eq_true_eq]at h;rw[Th,a v h,ane]
 | ptr v g off=>simp only[mU,decide_eq_true_eq]at h;rw[anj,a v h,anf]
 | gx v=>simp only[mU,decide_eq_true_eq]at h;rw[ani,a v h,anc]
 | iP v=>
  simp only[mU,decide_eq_true_eq]at h;rw[gd,if_neg (by simp)];rw[a v h]
 | _=>exact p5 h
theorem Hy{ρ:Nat->Option Nat}{H:U}{n k:Nat}(a:∀u,u<n->ρ u=some u){cs:List D}(h:cs.all (mU n)=true):cs.map (gd ρ H (k+1))=cs:=by
 conv=>rhs;rw[<-aY cs]
 exact au λd b=>Ti a (List.all_eq_true.1 h d b)
theorem Ep{ρ:Nat->Option Nat}{H:U}{n k:Nat}(c:∀u,u<n->ρ u=some u){d:D}(h:jm n d=true):gd ρ H (k+2) d=d:=by
 cases d with
 | agg cs=>rw[anh,Hy c h]
 | tup cs=>rw[ank,Hy c h]
 | gi cs=>
  by_cases e:closed (.gi cs)=true
  .simp_all
  .rw[gd,if_neg e,Hy c h]
 | fn f a b=>
  simp only[jm,Bool.and_eq_true]at h
  by_cases e:closed (.fn f a b)=true
  .simp_all
  .rw[gd,if_neg e,Hy c h.1,Hy c h.2]
 | _=>exact Ti c h
theorem ang{ρ:Nat->Option Nat}{H:U}{n:Nat}(a:∀u,u<n->ρ u=some u){o:Ob}(h:mT n o=true):pb ρ H o=o:=by
 have key:∀ {α:Type} (l:List (α×D)),(l.all λx=>jm n x.2)=true->(l.map λx=>(x.1,gd ρ H 40 x.2))=l:=by
  intro α l hl
  conv=>rhs;rw[<-aY l]
  exact au λx b=>by have:=List.all_eq_true.1 hl x b;rw[Ep a this];rfl
 cases o with
 | row t g cs=>
  simp only[pb];congr 1
  conv=>rhs;rw[<-aY cs]
  exact au λd c=>Ep a (List.all_eq_true.1 h d c)
 | map kk es=>simp only[pb];rw[key es h]
 | ia rf env st=>simp only[pb];rw[key env h]
 | sn=>rfl
 | iX m since seen=>simp only[pb];rw[Ti a h]
 | jv=>rfl
 | dead=>rfl
 | lL=>cases h
theorem Ek{n u:Nat}(h:u<n):iB (iV n []) u=some u:=by unfold iB iV;rw[List.map_nil,az];rw[dT];refine⟨by simpa using h,by simp,λj a=>by simp;omega⟩
theorem Ig{n:Nat}{H G:U}(b:H.length=n)(h:jl n H):qq (iV n []) (H++G)=H:=by
 unfold qq;refine bT λi=>?_;rw[av];unfold iV;rw[List.map_nil,az,av]
 by_cases hi:i<n
 .rw[bJ hi];simp only[aG,if_true];rw[ah (by omega),List.getElem?_eq_getElem (by omega)];simp only;congr 1;have e:((List.range n).map λv=>(v,true))=iV n []:=by unfold iV;simp
  rw[e];exact ang (λu a=>Ek a) (h _ (bP _))
 .grind
theorem OL{n:Nat}{d:D}(h:jm n d=true):ji n d = []:=by cases d<;>first|rfl|(simp only[jm,mU,decide_eq_true_eq]at h;simp only[ji];rw[if_neg (by omega)])
theorem flatten_nil{α c:Type}{f:α->List c}:∀ {l:List α},(∀a∈l,f a = [])->(l.map f).flatten = []
 | [],_=>rfl
 | a::l,h=>by rw[List.map_cons,aX,h a (by simp),flatten_nil λb d=>h b (by simp[d])];rfl
theorem SC{n:Nat}{o:Ob}(h:mT n o=true):oG n o = []:=by
 cases o with
 | row t g cs=>exact flatten_nil λd b=>OL (List.all_eq_true.1 h d b)
 | map kk es=>exact flatten_nil λx a=>OL (List.all_eq_true.1 h x a)
 | _=>rfl
theorem acM{n:Nat}{live:List Nat}{env:Env}{H G:U}{m:List Nat}{r:Bool}(j:BR live=false)(h:H.length=n)(e:jl n H)(d:((forget live env).all λp=>jm n p.2)=true)(i:(m.all λv=>decide (v<n))=true) :
  cut n live { env:=env,H:=H++G,marks:=m,iq:=r } = { env:=forget live env,H:=H,marks:=m,iq:=r }:=by
 by_cases hg:(H++G).length<=n
 .have:G = []:=by
   cases G with
   | nil=>rfl
   | cons a l=>simp at hg;omega
  subst this;rw[az];exact Vi (by show H.length<=n;omega)
 .unfold cut;dsimp only;rw[if_neg (by rw[j];simpa using hg)];have t:((forget live env).map λp=>ji n p.2).flatten = []:=flatten_nil λp b=>OL (List.all_eq_true.1 d p b)
  have s:(((H++G).take n).map (oG n)).flatten = []:=flatten_nil λo c=>by rw[aU (by omega),af (by omega)]at c;exact SC (e o c)
  have q:m.filter (n<=·) = []:=by simp_all
  rw[t,s,q];have k:dedup (([] ++ [] ++ []:List Nat).filter (· < (H++G).length)) = []:=rfl;rw[k,Ig h e];congr 1
  .conv=>rhs;rw[<-aY (forget live env)]
   exact au λp b=>by rw[Ep (λu g=>Ek g) (List.all_eq_true.1 d p b)];rfl
  .conv=>rhs;rw[<-aY m]
   exact au λv f=>by have:=List.all_eq_true.1 i v f;rw[Ek (by simpa using this)];rfl
theorem agz{n:Nat}{H G:U}{d:D}(f:H.length=n)(c:jl n H)(g:jm n d=true):leave 0 n (H++G) d=(d,H):=by
 by_cases hg:(H++G).length<=n
 .have:G = []:=by
   cases G with
   | nil=>rfl
   | cons a l=>simp at hg;omega
  subst this;rw[az];exact YK (by omega) 0
 .unfold leave;rw[if_neg (by omega)]
  have i:(((H++G).take n).map (oG n)).flatten = []:=flatten_nil λo b=>by rw[aU (by omega),af (by omega)]at b;exact SC (c o b)
  simp only;rw[i];have h:dedup (([] ++ []:List Nat).filter (· < (H++G).length)) = []:=rfl;rw[h,Ig f c,Ep (λu e=>Ek e) g]
theorem pG{n v:Nat}{H:U}{o:Ob}(h:jl n H)(b:mT n o=true):jl n (H.set v o):=λx a=>by
 rcases dD a with a|rfl
 .exact h x a
 .exact b
theorem Es{n:Nat}{d:D}(h:closed d=true):mU n d=true:=by cases d<;>first|exact h|(cases h;done)|(simp only[closed]at h;cases h)
theorem Ag{n:Nat}{d:D}(h:closed d=true):jm n d=true:=by
 cases d with
 | agg cs=>exact List.all_eq_true.2 λd c=>Es (lH (by simpa using h) d c)
 | tup cs=>exact List.all_eq_true.2 λd c=>Es (lH (by simpa using h) d c)
 | gi cs=>exact List.all_eq_true.2 λd c=>Es (lH (by simpa using h) d c)
 | fn f a b=>
  simp only[U4,Bool.and_eq_true]at h;simp only[jm,Bool.and_eq_true];exact⟨List.all_eq_true.2 λd c=>Es (lH h.1 d c),List.all_eq_true.2 λd c=>Es (lH h.2 d c)⟩
 | _=>exact Es (n:=n) h
@[simp] theorem axW{n:Nat}{d:D}(h:closed d=true):jm n d=true:=Ag h
@[simp] theorem ax0(n v g sz off len:Nat):jm n (.fM v g sz off len)=decide (v<n):=rfl
@[simp] theorem ax1(n v g off:Nat):jm n (.ptr v g off)=decide (v<n):=rfl
@[simp] theorem axZ(n v:Nat):jm n (.gx v)=decide (v<n):=rfl
@[simp] theorem axV(n:Nat)(cs:List D):jm n (.agg cs)=cs.all (mU n):=rfl
@[simp] theorem ax2(n:Nat)(cs:List D):jm n (.tup cs)=cs.all (mU n):=rfl
@[simp] theorem ax4(n v g sz off len:Nat):mU n (.fM v g sz off len)=decide (v<n):=rfl
@[simp] theorem ax5(n v g off:Nat):mU n (.ptr v g off)=decide (v<n):=rfl
@[simp] theorem axX(n:Nat)(f:Fn)(a b:List D):jm n (.fn f a b)=(a.all (mU n)&&b.all (mU n)):=rfl
@[simp] theorem ym{n t g:Nat}{α:Type}{f:α->List D}{sz:Nat}[F:Fl f sz](l:List α):mT n (.row t g (cl f l))=true:=
 List.all_eq_true.2 λd a=>Ag (lH (ue l) d a)
@[simp high] theorem agv{α:Type}[Inhabited α]{f:α->List D}{sz:Nat}[F:Fl f sz]{l:List α}{t:TypeId}{n:Int}(a:0<sz):uE sz (n.toNat*sz) (some (t,cl f l))=if n.toNat<l.length then some (.agg (f (gt l n)))else none:=by
 have h:=ahk (f:=f) (l:=l) (t:=t) (n:=n) (P:=λd=>d = .agg (f (gt l n))) a;simp only[and_true]at h
 by_cases b:n.toNat<l.length
 .simp_all
 .rw[if_neg b];unfold uE;dsimp only;rw[if_neg];rw[rh,<-cA,fh a];omega
section
variable{T:il}{a b:IR}{s:St}{K:iQ}{id n:Nat}{live:List Nat}
@[simp ↓] theorem avM:NV T b K (.norm s)=Wc T b s K:=(rfl)
@[simp ↓] theorem avL:NV T b K (.exit id s)=K (.exit id s):=(rfl)
@[simp ↓] theorem avN:NV T b K (.ret s)=K (.ret s):=(rfl)
end
def LJ{α:Type}(E:α->Env)(b:α->U)(ms:List Nat)(rd:Bool)(Q:α->Prop)(_:Tag (E,b,ms,rd,Q))(e:Env)(H:U)(m:List Nat)(r:Bool):Prop:=
 ∃a,e=E a/\H=b a/\m=ms/\r=rd/\Q a
theorem LJ.e{α:Type}{E:α->Env}{b:α->U}{ms:List Nat}{rd:Bool}{Q:α->Prop}{t:Tag (E,b,ms,rd,Q)}{e:Env}{H:U}{m:List Nat}{r:Bool}(a:α)(c:Q a)(h1:e=E a:=by first|rfl|simp)(g:H=b a:=by first|rfl|simp)(f:m=ms:=by exact rfl)(d:r=rd:=by exact rfl):LJ E b ms rd Q t e H m r:=⟨a,h1,g,f,d,c⟩
theorem LJ.i{α:Type}{E:α->Env}{b:α->U}{ms:List Nat}{rd:Bool}{Q:α->Prop}{t:Tag (E,b,ms,rd,Q)}{e:Env}{H:U}{m:List Nat}{r:Bool}(a:α)(h1:e=E a)(g:H=b a)(f:m=ms)(d:r=rd)(c:Q a):LJ E b ms rd Q t e H m r:=⟨a,h1,g,f,d,c⟩
section
variable{T:il}{live:List Nat}{a:IR}{s:St}{K:iQ}{α:Type}
theorem fZ.k(b:α)(E:α->Env)(c:α->U)(P:α->Prop)(d:α->Nat)
  (h0:P b) (l:forget ((E b).map (·.1)) s.env=E b) (j:s.H=c b) (i:s.marks = []) (g:s.iq=false) (f:(((E b).map (·.1)).all λk=>live.contains k)=true)
  (h:∀x,P x->XC T a { env:=E x,H:=c x } (vJ s.H.length live ((E b).map (·.1)) (LJ E c [] false (λe=>d e<d x/\P e) .mk) K)):fZ T live a s K .mk:=
 fZ.j b E c P d h0 l j f (by rw[i,g];exact h)
end
@[simp] theorem asb{α:Type}{f:α->List D}[Fl f 1](l:List α)(n:Nat):(cl f l).take n=cl f (l.take n):=by simpa using xy (f:=f) l n
@[simp] theorem ar8{α:Type}{f:α->List D}[Fl f 1](l:List α)(n:Nat):(cl f l).drop n=cl f (l.drop n):=by simpa using uf (f:=f) l n
@[simp] theorem aup(K:List Nat):iV 5 K=(0,true)::(1,true)::(2,true)::(3,true)::(4,true)::K.map λv=>(v,true):=rfl
@[simp] theorem auq(K:List Nat):iV 6 K=(0,true)::(1,true)::(2,true)::(3,true)::(4,true)::(5,true)::K.map λv=>(v,true):=rfl
@[simp] theorem aur(K:List Nat):iV 7 K=(0,true)::(1,true)::(2,true)::(3,true)::(4,true)::(5,true)::(6,true)::K.map λv=>(v,true):=rfl
@[simp] theorem aus(K:List Nat):iV 8 K=(0,true)::(1,true)::(2,true)::(3,true)::(4,true)::(5,true)::(6,true)::(7,true)::K.map λv=>(v,true):=rfl
@[simp] theorem aut(K:List Nat):iV 9 K=(0,true)::(1,true)::(2,true)::(3,true)::(4,true)::(5,true)::(6,true)::(7,true)::(8,true)::K.map λv=>(v,true):=rfl
@[simp] theorem at6(K:List Nat):iV 10 K=(0,true)::(1,true)::(2,true)::(3,true)::(4,true)::(5,true)::(6,true)::(7,true)::(8,true)::(9,true)::K.map λv=>(v,true):=rfl
@[simp] theorem at7(K:List Nat):iV 11 K=(0,true)::(1,true)::(2,true)::(3,true)::(4,true)::(5,true)::(6,true)::(7,true)::(8,true)::(9,true)::(10,true)::K.map λv=>(v,true):=rfl
@[simp] theorem aua(K:List Nat):iV 12 K=(0,true)::(1,true)::(2,true)::(3,true)::(4,true)::(5,true)::(6,true)::(7,true)::(8,true)::(9,true)::(10,true)::(11,true)::K.map λv=>(v,true):=rfl
@[simp] theorem aub(K:List Nat):iV 13 K=(0,true)::(1,true)::(2,true)::(3,true)::(4,true)::(5,true)::(6,true)::(7,true)::(8,true)::(9,true)::(10,true)::(11,true)::(12,true)::K.map λv=>(v,true):=rfl
@[simp] theorem auc(K:List Nat):iV 14 K=(0,true)::(1,true)::(2,true)::(3,true)::(4,true)::(5,true)::(6,true)::(7,true)::(8,true)::(9,true)::(10,true)::(11,true)::(12,true)::(13,true)::K.map λv=>(v,true):=rfl
@[simp] theorem aud(K:List Nat):iV 15 K=(0,true)::(1,true)::(2,true)::(3,true)::(4,true)::(5,true)::(6,true)::(7,true)::(8,true)::(9,true)::(10,true)::(11,true)::(12,true)::(13,true)::(14,true)::K.map λv=>(v,true):=rfl
@[simp] theorem aue(K:List Nat):iV 16 K=(0,true)::(1,true)::(2,true)::(3,true)::(4,true)::(5,true)::(6,true)::(7,true)::(8,true)::(9,true)::(10,true)::(11,true)::(12,true)::(13,true)::(14,true)::(15,true)::K.map λv=>(v,true):=rfl
@[simp] theorem auf(K:List Nat):iV 17 K=(0,true)::(1,true)::(2,true)::(3,true)::(4,true)::(5,true)::(6,true)::(7,true)::(8,true)::(9,true)::(10,true)::(11,true)::(12,true)::(13,true)::(14,true)::(15,true)::(16,true)::K.map λv=>(v,true):=rfl
@[simp] theorem aug(K:List Nat):iV 18 K=(0,true)::(1,true)::(2,true)::(3,true)::(4,true)::(5,true)::(6,true)::(7,true)::(8,true)::(9,true)::(10,true)::(11,true)::(12,true)::(13,true)::(14,true)::(15,true)::(16,true)::(17,true)::K.map λv=>(v,true):=rfl
@[simp] theorem auh(K:List Nat):iV 19 K=(0,true)::(1,true)::(2,true)::(3,true)::(4,true)::(5,true)::(6,true)::(7,true)::(8,true)::(9,true)::(10,true)::(11,true)::(12,true)::(13,true)::(14,true)::(15,true)::(16,true)::(17,true)::(18,true)::K.map λv=>(v,true):=rfl
@[simp] theorem auj(K:List Nat):iV 20 K=(0,true)::(1,true)::(2,true)::(3,true)::(4,true)::(5,true)::(6,true)::(7,true)::(8,true)::(9,true)::(10,true)::(11,true)::(12,true)::(13,true)::(14,true)::(15,true)::(16,true)::(17,true)::(18,true)::(19,true)::K.map λv=>(v,true):=rfl
@[simp] theorem auk(K:List Nat):iV 21 K=(0,true)::(1,true)::(2,true)::(3,true)::(4,true)::(5,true)::(6,true)::(7,true)::(8,true)::(9,true)::(10,true)::(11,true)::(12,true)::(13,true)::(14,true)::(15,true)::(16,true)::(17,true)::(18,true)::(19,true)::(20,true)::K.map λv=>(v,true):=rfl
@[simp] theorem aul(K:List Nat):iV 22 K=(0,true)::(1,true)::(2,true)::(3,true)::(4,true)::(5,true)::(6,true)::(7,true)::(8,true)::(9,true)::(10,true)::(11,true)::(12,true)::(13,true)::(14,true)::(15,true)::(16,true)::(17,true)::(18,true)::(19,true)::(20,true)::(21,true)::K.map λv=>(v,true):=rfl
@[simp] theorem aum(K:List Nat):iV 23 K=(0,true)::(1,true)::(2,true)::(3,true)::(4,true)::(5,true)::(6,true)::(7,true)::(8,true)::(9,true)::(10,true)::(11,true)::(12,true)::(13,true)::(14,true)::(15,true)::(16,true)::(17,true)::(18,true)::(19,true)::(20,true)::(21,true)::(22,true)::K.map λv=>(v,true):=rfl
@[simp] theorem ayE{α:Type}{l:List α}{n:Nat}(h:l.length=n):l.take n=l:=af (by omega)
@[simp] theorem aya(a b:List Pos):D.sl 5 (a.map Pos.cells++b.map Pos.cells)=gQ (a++b):=by unfold gQ;rw[List.map_append]
def Ey{α:Type}(g:α->D)(Q:α->Prop)(d:D)(H:U):Prop:=Ex g Q d H
theorem Ey.i{α:Type}{g:α->D}{Q:α->Prop}{d:D}{H:U}(x:α)(h1:d=g x)(b:H = [])(a:Q x):Ey g Q d H:=⟨x,h1,b,a⟩
def P7(ρ:Nat->Option Nat)(H:U)(k off:Nat):Option (TypeId×List D)->D
 | some (_,cs)=>.gi ((cs.drop off).map (gd ρ H k))
 | none=>.any
@[simp] theorem axF(H:U)(k:Nat)(ρ:Nat->Option Nat)(v g off:Nat):Ie H k ρ v g off none=P7 ρ H k off (rowAt H v g):=by unfold Ie P7;rfl
@[simp] theorem ath(ρ:Nat->Option Nat)(H:U)(k off:Nat)(t:TypeId)(cs:List D):P7 ρ H k off (some (t,cs)) = .gi ((cs.drop off).map (gd ρ H k)):=rfl
structure GH(H:U)(v:Nat):Prop where
 lt:v<H.length
 ok:jl H.length H
section
variable{H G:U}{v:Nat}{o o':Ob}
@[simp] theorem GH.get(h:GH H v):(H.set v o)[v]? = some o:=aL h.lt
@[simp] theorem GH.ig(h:GH H v):(H.set v o++G)[v]? = some o:=by rw[ah (by rw[ar];exact h.lt)];exact h.get
@[simp] theorem GH.aeP(_:GH H v):(H.set v o++G)[H.length]? = G[0]? := by grind
@[simp] theorem GH.anb(_:GH H v):(H.set v o++G).set H.length o'=H.set v o++G.set 0 o':=by grind
@[simp high] theorem GH.cut(h:GH H v){live:List Nat}{env:Env}{r:Bool}(c:BR live=false)(a:mT H.length o=true)(b:((forget live env).all λp=>jm H.length p.2)=true) :
  Go.AL.cut H.length live { env:=env,H:=H.set v o++G,marks:=[],iq:=r } = { env:=forget live env,H:=H.set v o,marks:=[],iq:=r }:=acM c (ar ..) (pG h.ok a) b rfl
@[simp] theorem GH.lt_eq(h:GH H v):(v<H.length)=True:=eq_true h.lt
end
@[simp] theorem awq(n:Nat):jl n []=True:=eq_true λ_ h=>by cases h
@[simp] theorem awp(n:Nat)(o:Ob)(r:U):jl n (o::r)=(mT n o=true/\jl n r):=propext ⟨λh=>⟨h o (by simp),λx a=>h x (by simp[a])⟩,λh x a=>by
 rcases aw.1 a with rfl|a
 .exact h.1
 .exact h.2 x a⟩
@[simp] theorem awv(n t g:Nat)(cs:List D):mT n (.row t g cs)=cs.all (jm n):=rfl
@[simp] theorem awr(n:Nat):mT n .dead=true:=rfl
@[simp] theorem awt(n:Nat)(kk:KK)(es:List (Value×D)):mT n (.map kk es)=es.all λx=>jm n x.2:=rfl
@[simp] theorem aqu{n:Nat}{α:Type}{f:α->List D}{sz:Nat}[F:Fl f sz](l:List α):(cl f l).all (jm n)=true:=
 List.all_eq_true.2 λd a=>Ag (lH (ue l) d a)
section
variable{H G:U}{v k:Nat}{o:Ob}
@[simp] theorem abB:(H++G)[H.length+k]? = G[k]? := by rw[ai (by omega)];congr 1;omega
@[simp] theorem aqz:(H++G)[H.length]? = G[0]? := by rw[ai (by omega)];congr 1;omega
theorem YZ(h:H[v]? = some o):v<H.length:=by grind
end
end Go.AL
namespace Go.Proofs.YtmehofoficaelaaGreatDoor
open Go Go.AL Classical
set_option maxRecDepth 10000
set_option maxHeartbeats 1000000
theorem agY{n:Int}{k:Nat}(h0:0<=n)(h1:n<=2*k)(a:k<=2):gC n<0↔n=0:=by unfold gC;split<;>omega
theorem agZ{n s:Int}(h:0<=gC n)(hs:0<=s/\s<=1):jS n=1-s↔¬jS n=s:=by
 unfold gC at h;unfold jS;split at h
 .rename_i e;rw[if_pos e];omega
 .omega
theorem Sg{n s:Int}(h:¬ 0<=gC n)(hs:0<=s/\s<=1):¬jS n=1-s/\¬jS n=s:=by
 unfold gC at h;unfold jS;split at h
 .omega
 .rename_i e;rw[if_neg e];omega
theorem f228(g:fY)(hg:gN g)(s:gg)(hs:kd g s)(x:fO)(i:Fb g x):Wf T 284 [dG g,.agg s.cells,.agg [.i x.1,.i x.2]] [] (Is (kq (iT g s x))):=by
 have o:=hs.p.size;have f:=hs.cur;have m:=hs.p.small hg;have p:=hg.jB.to s.p.side x.2 s.cur;have d:=hs.p.cs _ (gq f.1 (by omega));have a:=hs.p.side;have j:=agY d.1 d.2 hg.kinds.2;have e:=hs.p.gD;have c:=hg.gD;have l:=i.ok;refine Yg Ky ?_;simp[Ky];refine fQ ?_;refine Yc (f51 _) ?_;simp;(with_reducible repeat' first|refine Xk ?_<;>try simp|refine Xs ?_ ?_<;>intro h<;>(try intro q)<;>(try simp[h])<;>try omega|refine Xg ?_|omega)
 .refine Yc (f251 g hg.jB s.p.side x.2 s.cur) ?_;simp;refine Yc (f252 { s with cur:=l5 g s.p.side x.2 s.cur } _) ?_;simp;simp[iT,h]
 .refine Yc (f253 g hg s hs x.2) ?_;simp;simp[iT,h]
 .refine Yc (f252 s _) ?_;simp;simp[iT,h,j]
 .refine Yc (f252 s _) ?_;simp;have h1:=agZ (by assumption) a;simp[iT, *]
 .refine Yc (f252 s _) ?_;simp;have h1:=Sg (by assumption) a;simp[iT, *]
 .refine Yc (f252 s _) ?_;simp;simp[iT, *]
 .refine Yc (f252 s _) ?_;simp;have h1:=Sg (by assumption) a;simp[iT, *]
 .refine Yc (f254 g hg s hs) ?_;simp;simp[iT, *]
 .refine Yc (f255 g hg s hs x.2) ?_;simp;simp[iT, *]
 .simp[iT, *]
 .refine Yt (f252 s _) ?_;simp;have k:=Ed c.1 (by omega);have b:=aaf (r:=s.p.gD) (n:=x.2) e.1 (by omega) (by omega) (by omega);simp[iT,b, *]
 .have k:=Ed c.1 (by omega);have b:=aag (r:=s.p.gD) (n:=x.2) e.1 (by omega) (by omega) (by omega);simp[iT,b, *]
def l9(a:List gg):List gg->List gg
 | []=>a
 | x::r=>l9 (if x∈a then a else a ++ [x]) r
theorem Fe:∀ {b a:List gg} {x:gg},x∈l9 a b↔x∈a\/x∈b
 | [],a,x=>by simp[l9]
 | y::r,a,x=>by
  unfold l9;rw[Fe];split<;>simp
  .constructor
   .rintro(h|h)<;>simp[h]
   .rintro(h|rfl|h)<;>simp[*]
  .constructor
   .rintro((h|h)|h)<;>simp[h]
   .rintro(h|rfl|h)<;>simp[*]
theorem Fc:∀ {b a:List gg},(l9 a b).length<=a.length+b.length
 | [],a=>by simp[l9]
 | y::r,a=>by unfold l9;refine Nat.le_trans Fc ?_;split<;>simp<;>omega
theorem am9{H:U}{v:Nat}{o:Ob}(h:H[v]? = some o):H=H.set v o:=by
 refine bT λi=>?_;rw[bS];split
 .rename_i e;subst e;rw[if_pos (YZ h),h]
 .rfl
theorem GH.of{H:U}{v:Nat}{o:Ob}(a:H[v]? = some o)(b:jl H.length H):GH H v:=⟨YZ a,b⟩
theorem f227(v gen:Nat)(a b:List gg)(H:U)(n:H[v]? = some (.row 373 gen (cl gg.cells a)))(t:jl H.length H)(r:∀s∈a,Small s.p)(o:∀s∈b,Small s.p)(hl:a.length+b.length<2 ^ 39):Wf T 283 [.fM v gen 8 0 a.length,kq b] H (λd H'=>∃q,d = .fM v q 8 0 (l9 a b).length/\H'=H.set v (.row 373 q (cl gg.cells (l9 a b)))):=by
 have hg:=GH.of n t;have z:=hg.lt;refine Yg Kx ?_;simp[Kx];refine fZ.j ((0,gen,a):Int×Nat×List gg) (λx=>[(0,.fM v x.2.1 8 0 x.2.2.length),(1,kq b),(5,.i x.1)]) (λx=>H.set v (.row 373 x.2.1 (cl gg.cells x.2.2))) (λx=>0<=x.1/\x.1<=b.length/\x.2.2.length<=a.length+x.1.toNat/\(∀s∈x.2.2,Small s.p)/\l9 x.2.2 (b.drop x.1.toNat)=l9 a b) (λx=>b.length-x.1.toNat) ?_ (by simp) (am9 n) rfl ?_
 .simp;exact r
 rintro⟨i,p,l⟩ ⟨h0,h1,u,f,c⟩;dsimp only at h0 h1 u f c ⊢;simp;refine jU ?_ ?_<;>intro h
 .refine fZ.j ((0,false):Int×Bool) (λx=>[(0,.fM v p 8 0 l.length),(1,kq b),(5,.i i),(6,.b x.2),(7,.i x.1)]) (λx=>H.set v (.row 373 p (cl gg.cells l))) (λx=>0<=x.1/\x.1<=l.length/\x.2=decide (gt b i∈l.take x.1.toNat)) (λx=>l.length-x.1.toNat) ?_ (by simp) rfl rfl ?_
  .simp
  rintro⟨k,m⟩ ⟨g,w,j⟩;dsimp only at g w j ⊢;simp[hg];(with_reducible repeat' first|refine Xk ?_<;>try simp[hg]|refine Xs ?_ ?_<;>intro h<;>(try intro A)<;>(try simp[h,hg])<;>try omega|refine Xg ?_|omega)
  .rw[jd g (by assumption)];simp_all
  .refine Yt (f250 _ _ (f _ (gq g (by assumption))) (o _ (gq h0 (by assumption)))) ?_;simp;simp only[h,cond_false];refine pI ⟨k+1,?_⟩;rw[jd g (by assumption)]
   by_cases e:gt l k=gt b i
   .right;simp[e];omega
   .left;simp_all;exact gI (λy=>e y.symm)
  .refine⟨i+1,l,rfl,rfl,rfl,by omega,by omega,by omega,by omega,f,?_⟩;rw[<-c,nN h0 (by assumption),l9,show(i+1).toNat=i.toNat+1 by omega];rw[if_pos];rw[j,kW (by omega)]at h;simpa using h
  .refine⟨i+1,l ++ [gt b i],by simp,rfl,by simp,by omega,by omega,by omega,by simp;omega,?_,?_⟩
   .intro s hs;simp at hs;rcases hs with hs|rfl
    .exact f s hs
    .exact o _ (gq h0 (by assumption))
   .rw[<-c,nN h0 (by assumption),l9,show(i+1).toNat=i.toNat+1 by omega];rw[if_neg];rw[j,kW (by omega)]at h;simpa using h
 .rw[bw (by omega)]at c;have e:l9 l []=l:=rfl;rw[e]at c;rw[<-c];exact⟨rfl,rfl⟩
end Go.Proofs.YtmehofoficaelaaGreatDoor
namespace Go.AL
open Go Classical
theorem iI{α:Type}{f:α->List D}(a:α):cl f [a]=f a:=by rw[mO,acg,az]
theorem fZ.e{T:il}{live:List Nat}{a:IR}{s:St}{K:iQ}{α:Type}(b:α)(E:α->Env)(c:α->U)(P:α->Prop)(d:α->Nat)(h0:P b)
  (h:∀x,P x->XC T a { env:=E x,H:=c x } (vJ s.H.length live ((E b).map (·.1)) (LJ E c [] false (λe=>d e<d x/\P e) .mk) K))
  (l:forget ((E b).map (·.1)) s.env=E b:=by simp) (j:s.H=c b:=by first|rfl|(simp[iI];done)|(simp[*];done)) (i:s.marks = []:=by exact rfl) (g:s.iq=false:=by exact rfl) (f:(((E b).map (·.1)).all λk=>live.contains k)=true:=by exact rfl):fZ T live a s K .mk:=fZ.k b E c P d h0 l j i g f h
theorem kL.pw{l:List Pos}(h:kL l):l.Pairwise λx y=>iw x y<0:=by refine bG.2 λi j hi a b=>?_;have:=h.le (i:=(i:Int)) (j:=(j:Int)) (by omega) (by omega) (by omega);rwa [AZ hi,AZ a]at this
theorem kL.of{r:List Pos}(h:r.Pairwise λx y=>iw x y<0):kL r:=by intro i h1 a;rw[jb (by omega) (by omega),jb (by omega) (by omega)];exact bG.1 h _ _ _ _ (by omega)
theorem ZU:∀ {a b:List Pos},(a.Pairwise λx y=>iw x y<0)->(b.Pairwise λx y=>iw x y<0)->(∀q,q∈a↔q∈b)->a=b
 | [],[],_,_,_=>rfl
 | [],y::b,_,_,h=>by have:=(h y).2 (by simp);cases this
 | x::a,[],_,_,h=>by have:=(h x).1 (by simp);cases this
 | x::a,y::b,ha,hb,h=>by
  have g:=bg.1 ha;have d:=bg.1 hb
  have e:x=y:=by
   rcases aw.1 ((h x).1 (by simp))with e|e
   .exact e
   rcases aw.1 ((h y).2 (by simp))with f|f
   .exact f.symm
   have h1:=d.1 x e;have i:=g.1 y f;rw[uX]at h1;omega
  subst e;rw[ZU g.2 d.2 λq=>?_];constructor
  .intro c;rcases aw.1 ((h q).1 (by simp[c]))with e|e
   .subst e;have:=g.1 q c;rw[uW]at this;omega
   .exact e
  .intro c;rcases aw.1 ((h q).2 (by simp[c]))with e|e
   .subst e;have:=d.1 q c;rw[uW]at this;omega
   .exact e
theorem Ez{a b:List Pos}(d:kL a)(c:kL b)(h:∀q,q∈a↔q∈b):a=b:=ZU d.pw c.pw h
theorem acv{x y:Pos}(h:x≠y)(a:¬iw x y<0):iw y x<0:=by have:iw x y≠0:=λe=>h (rj.1 e);rw[uX];omega
theorem Yb(x:Pos):∀r:List Pos,(r.Pairwise λx y=>iw x y<0)->∃b:List Pos,(b.Pairwise λx y=>iw x y<0)/\∀q,q∈b↔q=x\/q∈r
 | [],_=>⟨[x],by simp,by simp⟩
 | y::r,h=>by
  have c:=bg.1 h
  by_cases e:x=y
  .subst e;exact⟨x::r,h,by simp⟩
  by_cases hl:iw x y<0
  .refine⟨x::y::r,bg.2 ⟨λz a=>?_,h⟩,by simp⟩;rcases aw.1 a with rfl|a
   .exact hl
   .exact yY hl (c.1 z a)
  .obtain⟨b,h1,d⟩:=Yb x r c.2;refine⟨y::b,bg.2 ⟨λz a=>?_,h1⟩,λq=>?_⟩
   .rcases(d z).1 a with rfl|a
    .exact acv e hl
    .exact c.1 z a
   .simp only[aw,d];constructor
    .rintro(h|h|h)<;>simp[h]
    .rintro(h|h|h)<;>simp[h]
theorem Oy:∀l:List Pos,∃r,kL r/\∀q,q∈r↔q∈l
 | []=>⟨[],λi h1 a=>by simp at a;omega,by simp⟩
 | x::l=>by obtain⟨r,h1,a⟩:=Oy l;obtain⟨b,d,c⟩:=Yb x r h1.pw;exact⟨b,kL.of d,λq=>by rw[c,a,aw]⟩
noncomputable def kz(l:List Pos):List Pos:=Classical.choose (Oy l)
theorem Cd(l:List Pos):kL (kz l):=(cy (Oy l)).1
@[simp] theorem vS{l:List Pos}{q:Pos}:q∈kz l↔q∈l:=(cy (Oy l)).2 q
theorem aaF{l r:List Pos}(h:kL r)(a:∀q,q∈r↔q∈l):r=kz l:=Ez h (Cd l) λq=>by rw[a,vS]
theorem HG{α:Type}[DecidableEq α]:∀ {l m:List α},l.Nodup->(∀x∈l,x∈m)->l.length<=m.length
 | [],m,_,_=>by simp
 | a::l,m,b,h=>by
  have b:=cL.1 b
  have h1:l.length<=(m.erase a).length:=HG b.2 λx c=>by refine(List.mem_erase_of_ne ?_).2 (h x (by simp[c]));rintro rfl;exact b.1 c
  rw[fj (h a (by simp))]at h1;have:0<m.length:=fu (h a (by simp));simp;omega
theorem kL.nodup{l:List Pos}(h:kL l):l.Nodup:=h.pw.imp λ{a b} c e=>by subst e;rw[uW]at c;omega
theorem Ox(l:List Pos):(kz l).length<=l.length:=HG (kL.nodup (Cd l)) λx a=>vS.1 a
def ended(g:fY)(p:Pos):Prop:=∃c∈g.clauses,kO p c
theorem HH{g:fY}{p:Pos}(h:¬ended g p):∀c∈g.clauses,¬kO p c:=λc a hl=>h ⟨c,a,hl⟩
def Mk(g:fY)(p:Pos):List Pos:=(upto g.kinds.length).flatMap λk=>(upto p.cs.length).map λc=>j' p k c
theorem AW{α c:Type}{f:α->List c}{n:Nat}:∀ {l:List α},(∀a∈l,(f a).length<=n)->(l.flatMap f).length<=l.length*n
 | [],_=>by simp
 | a::l,h=>by rw[List.flatMap_cons,aj,aH,cA];have:=h a (by simp);have:=AW (l:=l) λb d=>h b (by simp[d]);omega
theorem aav{g:fY}:∀ {l:List fO} {a:List gg},(sU g l a).length<=10 ^ l.length*a.length
 | [],a=>by simp[sU]
 | x::r,a=>by rw[sU];refine Nat.le_trans aav ?_;rw[aH,eA,fH];refine eG _ ?_;rw[dK];exact AW λs _=>EA
theorem al9{g:fY}(hg:gN g){p:Pos}(a:ij g p):(pY g p).length<=3600000000:=by
 have i:=a.size;have j:=hg.jB.size
 have:(pY g p).length<=(upto p.cs.length).length*400000000:=by
  refine AW λc d=>?_;rw[iS]at d;unfold pH;split
  .rename_i e;have f:=Iu hg a d.1 (by omega) e;have b:=hg.jh _ (gq (l:=g.kinds) f.kind.1 f.kind.2)
   have m:((gt g.kinds (gC (gt p.cs c))).jh.flatMap (uF g p c)).length<=(gt g.kinds (gC (gt p.cs c))).jh.length*100000000:=by refine AW λl hl=>?_;have h:=(b.2 l hl).len;refine Nat.le_trans (fm _ _) (Nat.le_trans aav ?_);have:10 ^ l.length<=10 ^ 8:=cM (by decide) h.2;simpa using this
   have k:(gt g.kinds (gC (gt p.cs c))).jh.length<=4:=b.1;omega
  .simp
 have e:(upto p.cs.length).length=p.cs.length:=by simp[upto]
 rw[e]at this;omega
theorem acZ{g:fY}(hg:gN g){p:Pos}(a:ij g p):(Mk g p).length<=18:=by
 have b:=a.size;have d:=hg.jB.size;have c:=hg.kinds
 have:(Mk g p).length<=(upto g.kinds.length).length*9:=AW λk _=>by simp[upto];omega
 have e:(upto g.kinds.length).length=g.kinds.length:=by simp[upto]
 rw[e]at this;omega
theorem ahb{g:fY}{p q:Pos}(h:qy g p q):q∈(pY g p).map (·.p)++Mk g p:=by
 obtain⟨_,h⟩:=h;split at h
 .exact List.mem_append.2 (.inl (ao.2 ⟨_,h,rfl⟩))
 .rcases h with⟨o,h,rfl⟩|⟨k,c,h1,d,b,a,_,_,rfl⟩
  .exact List.mem_append.2 (.inl (ao.2 ⟨_,h,rfl⟩))
  .exact List.mem_append.2 (.inr (bI.2 ⟨k,iS.2 ⟨h1,d⟩,ao.2 ⟨c,iS.2 ⟨b,a⟩,rfl⟩⟩))
noncomputable def iJ(g:fY)(p:Pos):List Pos:=kz (((pY g p).map (·.p)++Mk g p).filter λq=>decide (qy g p q))
theorem ahc(g:fY)(p:Pos):kL (iJ g p):=Cd _
@[simp] theorem BP{g:fY}{p q:Pos}:q∈iJ g p↔qy g p q:=by unfold iJ;rw[vS,aM];simp only[decide_eq_true_eq];exact⟨λh=>h.2,λh=>⟨ahb h,h⟩⟩
theorem Sz{g:fY}{p:Pos}{r:List Pos}(h:kL r)(a:∀q,q∈r↔qy g p q):r=iJ g p:=Ez h (ahc g p) λq=>by rw[a,BP]
theorem NO{g:fY}{p:Pos}(h:ended g p):iJ g p = []:=by refine aT.2 λq a=>?_;obtain⟨c,b,hl⟩:=h;exact(BP.1 a).1 c b hl
@[irreducible] noncomputable def tK(g:fY)(p:Pos):D:=if ended g p then .fX else gQ (iJ g p)
theorem NN(g:fY)(p:Pos):(tK g p = .fX/\iJ g p = [])\/tK g p=gQ (iJ g p):=by
 unfold tK;split
 .rename_i h;exact .inl ⟨rfl,NO h⟩
 .exact .inr rfl
theorem zU{g:fY}(hg:gN g){p:Pos}(a:ij g p):(iJ g p).length<=4000000000:=by refine Nat.le_trans (Ox _) (Nat.le_trans (List.length_filter_le _ _) ?_);have:=al9 hg a;have:=acZ hg a;simp;omega
section
variable{g:fY}{p:Pos}{n:Int}{k:IntKind}{P:D->Prop}{H:U}
@[simp] theorem acr:closed (tK g p)=true:=by rcases NN g p with⟨h,_⟩|h<;>rw[h]<;>simp
@[simp] theorem au6:mK .slice (tK g p) H=some (.i (iJ g p).length):=by rcases NN g p with⟨h,e⟩|h<;>rw[h]<;>simp[*]
@[simp] theorem ayx:kR 5 H (tK g p)=some (cl Pos.cells (iJ g p),(iJ g p).length):=by rcases NN g p with⟨h,e⟩|h<;>rw[h]<;>simp[*]
@[simp] theorem ayV(n:Nat):ji n (tK g p) = []:=OJ n acr
@[simp] theorem avZ:oA (mB 5 (tK g p) (.val (.int k n))) P .mk=((0<=n/\n<(iJ g p).length)/\P (.gi (gt (iJ g p) n).cells)):=by
 rcases NN g p with⟨h,e⟩|h
 .rw[h,e];simp only[mB,Zp,cV];refine propext ⟨λh=>h.elim,λ⟨h,_⟩=>?_⟩;have:=h.1;have:=h.2;simp at this;omega
 .rw[h];exact yk
end
noncomputable def uh(g:fY)(p:Pos):Int:=if ended g p then(g.clauses.findIdx λc=>decide (kO p c):Nat)else -1
theorem PF{g:fY}{p:Pos}(h:ended g p):0<=uh g p/\uh g p<g.clauses.length/\gt g.clauses (uh g p)∈g.clauses:=by
 unfold uh;rw[if_pos h]
 have:(g.clauses.findIdx λc=>decide (kO p c))<g.clauses.length:=by rw[List.findIdx_lt_length];obtain⟨c,a,hl⟩:=h;exact⟨c,a,by simpa using hl⟩
 exact pI (gq (by omega) (by omega))
theorem Vu{g:fY}{p:Pos}(h:¬ended g p):uh g p = -1:=by unfold uh;rw[if_neg h]
theorem Mn{g:fY}{p:Pos}:0<=uh g p↔ended g p:=by
 by_cases h:ended g p
 .exact⟨λ_=>h,λ_=>(PF h).1⟩
 .rw[Vu h];simp[h]
noncomputable def stat(g:fY)(p:Pos):Int×Bool:=(if ended g p then(gt g.clauses (uh g p)).out else if iJ g p = []then g.blocked else 0,decide (iJ g p = []))
theorem anO{g:fY}(hg:gN g){p:Pos}(h:(stat g p).2=true):1<=(stat g p).1/\(stat g p).1<=3:=by
 unfold stat at *;simp only[decide_eq_true_eq]at h ⊢;split
 .rename_i a;exact(hg.clause _ (PF a).2.2).out
 .exact hg.blocked
end Go.AL
namespace Go.Proofs.YtmehofoficaelaaGreatDoor
open Go Go.AL Classical
set_option maxRecDepth 10000
set_option maxHeartbeats 1000000
theorem V2(p:Pos)(a:Small p):Wf T 205 [dP p] [] (λd H=>d = .agg [.fM 0 1 1 0 p.cs.length,dI p.h0,dI p.h1,.i p.gD,.i p.side]/\H = [.row 3 1 (cl f1 p.cs)]):=by obtain⟨h1,c,b⟩:=a;refine Wf.xo 3 (fn:=yJ) rfl (by simp[yJ]) ?_;simp[yJ];exact mE
@[irreducible] def fA(a:List gg):List D:=[kq a]
theorem AR(a:List gg):fA a = [kq a]:=by unfold fA;rfl
instance:Fl fA 1:=⟨λ_=>by simp[AR],λ_=>by simp[AR,gw]⟩
@[simp] theorem arX(l:List (List gg))(x:List gg):cl fA l ++ [kq x]=cl fA (l ++ [x]):=by rw[<-pL,AR]
theorem ab6(x:List gg) : [kq x]=cl fA [x]:=by rw[mO,AR];simp
def oF(g:fY)(x:fO)(now:List gg):List gg:=now.foldl (λa s=>l9 a (iT g s x)) []
def pc(g:fY):List fO->List gg->List (List gg)
 | [],_=>[]
 | x::r,now=>oF g x now::pc g r (oF g x now)
theorem Wp{g:fY}{x:fO}{t:gg}:∀ {now a:List gg},t∈now.foldl (λa s=>l9 a (iT g s x)) a↔t∈a\/t∈now.flatMap λs=>iT g s x
 | [],a=>by simp
 | s::r,a=>by rw[b7,Wp,Fe,List.flatMap_cons,List.mem_append,or_assoc]
theorem NQ{g:fY}{x:fO}{now:List gg}{t:gg}:t∈oF g x now↔t∈now.flatMap λs=>iT g s x:=by unfold oF;rw[Wp];simp
theorem Wn{g:fY}{x:fO}:∀ {now c:List gg},(now.foldl (λc s=>l9 c (iT g s x)) c).length<=c.length+10*now.length
 | [],c=>by simp
 | s::r,c=>by rw[b7];refine Nat.le_trans Wn ?_;have:=Fc (a:=c) (b:=iT g s x);have:=EA (g:=g) (s:=s) (x:=x);rw[aH];omega
theorem HD{g:fY}{x:fO}{now:List gg}:(oF g x now).length<=10*now.length:=by unfold oF;refine Nat.le_trans Wn ?_;simp
theorem aaM{g:fY}:∀ {l:List fO} {now:List gg},(pc g l now).length=l.length
 | [],_=>rfl
 | x::r,now=>by rw[pc,aH,aaM,aH]
theorem f194(g:fY)(hg:gN g)(p:Pos)(m:ij g p)(c i:Int)(o:0<=c/\c<g.size)(r:jS (gt p.cs c)=p.side)(hi:0<=i/\i<(gt g.kinds (gC (gt p.cs c))).jh.length) :
  Wf T 254 [dG g,dP p,.i c,.i i] [] (Is (.agg [.sl 1 (([lq p c]::pc g (gt (gt g.kinds (gC (gt p.cs c))).jh i) [lq p c]).map fA),.i 0])):=by
 have H:=m.size;have w:=m.small hg;have y:=m.cs _ (gq o.1 (by omega));have z:=m.side;obtain⟨m1,m2,m3,m4⟩:=Hw z.1 r;have A:gC (gt p.cs c)<g.kinds.length:=yf y.2 hg.kinds.1;refine Yz EU (iO 117 [10] EU.body) ?_;simp[EU,iO,kh,mN,mQ,nf,lK];refine Yc (f65 g p hg m) ?_;simp;(with_reducible repeat' first|refine Xk ?_<;>try simp|refine Xs ?_ ?_<;>intro h<;>(try intro C)<;>(try simp[h])<;>try omega|refine Xg ?_|omega);refine Yc (f51 _) ?_;simp;(with_reducible repeat' first|refine Xk ?_<;>try simp|refine Xs ?_ ?_<;>intro h<;>(try intro C)<;>(try simp[h])<;>try omega|refine Xg ?_|omega)
 rotate_right
 refine wm.n rfl rfl (V2 p w) (by simp) (by simp) ?_;simp;refine fQ ?_;refine fZ.fz [0,1,3,4,5,6,8] rfl ?_;have q0:=iH (l:=p.cs) (n:=c) (v:=0) o.1 (by omega);have E:kd g (lq p c):=Iu hg m o.1 o.2 r;have F:=hg.jh _ (gq (l:=g.kinds) m1 A);generalize u:gt (gt g.kinds (gC (gt p.cs c))).jh i=prog at *;have q:xk g prog:=F.2 _ (u▸gq hi.1 hi.2);have I:=q.len
 refine fZ.k ((0,[[lq p c]],[lq p c]):Int×List (List gg)×List gg) (λx=>[(4,.gi g.cells),(8,.ptr 2 0 0),(11,.ptr 9 0 0),(12,kq x.2.2),(13,ie prog),(14,.i x.1)]) (λx=>[.dead,.dead,.row 369 0 [.fX,.i 0],.dead,.dead,.dead,.dead,.row 371 x.1.toNat (cl fA x.2.1),.dead,.row 369 0 [.fM 7 x.1.toNat 1 0 x.2.1.length,.i 0]])
  (λx=>0<=x.1/\x.1<=prog.length/\x.2.1.length=x.1.toNat+1/\(∀s∈x.2.2,kd g s)/\x.2.2.length<=10 ^ x.1.toNat/\[lq p c]::pc g prog [lq p c]=x.2.1++pc g (prog.drop x.1.toNat) x.2.2) (λx=>prog.length-x.1.toNat) ?_ ?_ ?_ rfl rfl (by simp) ?_
 .simp;exact E
 .simp[lq,q0]
 .simp[lq,<-ab6,q0]
 rintro⟨k,steps,now⟩ ⟨k0,k1,k2,k3,k4,k5⟩;dsimp only at k0 k1 k2 k3 k4 k5 ⊢;simp;refine jU ?_ ?_<;>intro h
 .refine fZ.e ((0,0,[]):Int×Nat×List gg) (λx=>[(4,.gi g.cells),(8,.ptr 2 0 0),(11,.ptr 9 0 0),(12,kq now),(13,ie prog),(14,.i k),(15,.fM 10 x.2.1 8 0 x.2.2.length),(16,.i x.1)]) (λx=>[.dead,.dead,.row 369 0 [.fX,.i 0],.dead,.dead,.dead,.dead,.row 371 k.toNat (cl fA steps),.dead,.row 369 0 [.fM 7 k.toNat 1 0 steps.length,.i 0],.row 373 x.2.1 (cl gg.cells x.2.2)]) (λx=>0<=x.1/\x.1<=now.length/\(∀s∈x.2.2,kd g s)/\x.2.2.length<=10*x.1.toNat/\oF g (gt prog k) now=(now.drop x.1.toNat).foldl (λf s=>l9 f (iT g s (gt prog k))) x.2.2) (λx=>now.length-x.1.toNat) ?_ ?_
  .simp[oF]
  rintro⟨j,D,f⟩ ⟨j0,j1,j2,j3,j4⟩;dsimp only at j0 j1 j2 j3 j4 ⊢;simp;refine jU ?_ ?_<;>intro h
  .refine Yt (f228 g hg _ (k3 _ (gq j0 ‹_›)) _ (q.steps _ (gq k0 ‹_›))) ?_;simp;have fV:=k3 _ (gq j0 ‹_›);refine gj.kU rfl rfl (f227 10 D f (iT g (gt now j) (gt prog k)) _ rfl (by simp) (λs hs=>(j2 s hs).p.small hg) (λs hs=>(Ci hg fV (q.steps _ (gq k0 ‹_›)) hs).p.small hg) ?_) ?_
   .have h1:=EA (g:=g) (s:=gt now j) (x:=gt prog k);have B:10 ^ k.toNat<=10 ^ 8:=cM (by decide) (by omega);omega
   rintro d H' ⟨G,rfl,rfl⟩;simp;have B:10 ^ k.toNat<=10 ^ 8:=cM (by decide) (by omega);refine fQ ?_;refine LJ.e (j+1,G,l9 f (iT g (gt now j) (gt prog k))) ?_;refine⟨by dsimp only;omega,by dsimp only;omega,by dsimp only;omega,λs hs=>?_,?_,?_⟩
   .rcases Fe.1 hs with hs|hs
    .exact j2 s hs
    .exact Ci hg fV (q.steps _ (gq k0 ‹_›)) hs
   .have h1:=EA (g:=g) (s:=gt now j) (x:=gt prog k);have t:=Fc (a:=f) (b:=iT g (gt now j) (gt prog k));dsimp only;omega
   .rw[j4,nN j0 ‹_›,b7,show(j+1).toNat=j.toNat+1 by omega]
  .have e:oF g (gt prog k) now=f:=by rw[j4,bw (by omega)];rfl
   refine fQ ?_;refine LJ.i (k+1,steps ++ [f],f) (by first|rfl|simp[show(k+1).toNat=k.toNat+1 by omega]) (by first|rfl|simp[show(k+1).toNat=k.toNat+1 by omega]) rfl rfl ?_;refine⟨by dsimp only;omega,by dsimp only;omega,by dsimp only;omega,by simp;omega,j2,?_,?_⟩
   .have t:=HD (g:=g) (x:=gt prog k) (now:=now);rw[e]at t;dsimp only;rw[show(k+1).toNat=k.toNat+1 by omega,eA];omega
   .rw[k5,nN k0 ‹_›,pc,e,show(k+1).toNat=k.toNat+1 by omega];simp
 .rw[bw (by omega),pc,az]at k5;rw[<-k5];simp
theorem agF{a b:gJ}(h1:¬Hr a b)(c:¬Hr b a):a=b:=by
 unfold Hr at *;have e:=uX a.p b.p
 have h:iw a.p b.p=0:=by
  by_cases h:iw a.p b.p=0
  .exact h
  .exfalso
   by_cases d:iw a.p b.p<0
   .exact h1 (.inl d)
   .exact c (.inl (by omega))
 have f:iw b.p a.p=0:=by omega
 simp[h,f]at h1 c;have:=rj.1 h;cases a;cases b;simp_all;rename_i x y _;cases x<;>cases y<;>simp_all
structure Lx(l:List gJ)(x:gJ)(i:Int)(d:Bool)(out:List gJ):Prop where
 i0:0<=i/\i<=l.length
 dn:d=true->x∈out
 sub:∀o∈out,o∈l.take i.toNat\/o=x
 sup:∀o∈l.take i.toNat,o∈out
 len:out.length<=i.toNat+(if d then 1 else 0)
theorem Lx.step{l:List gJ}{x:gJ}{i:Int}{d d':Bool}{out:List gJ}(h:Lx l x i d out)(hi:i<l.length)(xs:List gJ)(b:∀o∈xs,o=x)(c:d'=true->d=true\/x∈xs\/gt l i=x)(hl:xs.length+(if d then 1 else 0)<=(if d' then 1 else 0)):Lx l x (i+1) d' (out++xs ++ [gt l i]):=by
 have h0:=h.i0;refine⟨by omega,λe=>?_,λo a=>?_,λo a=>?_,?_⟩
 .rcases c e with e|e|e
  .have:=h.dn e;simp[this]
  .simp[e]
  .simp[e]
 .rw[jd h0.1 hi];simp at a ⊢;rcases a with a|a|a
  .rcases h.sub o a with h|h
   .exact .inl (.inl h)
   .exact .inr h
  .exact .inr (b o a)
  .exact .inl (.inr a)
 .rw[jd h0.1 hi]at a;simp at a ⊢;rcases a with a|a
  .exact .inl (h.sup o a)
  .exact .inr (.inr a)
 .have:=h.len;simp;omega
theorem f195(l:List gJ)(x:gJ)(hl:l.length<2 ^ 39)(hs:∀o∈l,Small o.p)(k:Small x.p):Wf T 255 [nM l,.agg x.cells] [] (Ex nM λr=>(∀o,o∈r↔o∈l\/o=x)/\r.length<=l.length+1):=by
 refine Yg Kk ?_;simp[Kk];refine fZ.e ((0,false,[]):Int×Bool×List gJ) (λy=>[(0,nM l),(3,.ptr 0 0 0),(5,.fM 1 y.2.2.length 6 0 y.2.2.length),(6,.b y.2.1),(7,.i y.1)]) (λy=>[.row 259 0 x.cells,.row 259 y.2.2.length (cl gJ.cells y.2.2)]) (λy=>Lx l x y.1 y.2.1 y.2.2) (λy=>l.length-y.1.toNat) ?_ ?_
 .exact⟨by simp,by simp,by simp,by simp,by simp⟩
 rintro⟨i,done,out⟩ c;have h0:=c.i0;have j:=c.len;have m:(if done=true then 1 else 0)<=1:=by split<;>omega
 dsimp only at c h0 j ⊢;simp;(with_reducible repeat' first|refine Xk ?_<;>try simp|refine Xs ?_ ?_<;>intro h<;>(try intro n)<;>(try simp[h])<;>try omega|refine Xg ?_|omega)
 .refine LJ.e (i+1,true,out ++ [gt l i]) ?_;subst h;have:=c.step ‹_› [] (d':=true) (by simp) (by simp) (by simp);simp at this;exact⟨by simp;omega,this⟩
 .have d:=h;refine Yt (f229 _ _ (hs _ (gq h0.1 ‹_›)) k) ?_;simp[h];refine LD d ?_ ?_<;>intro h
  .subst d;have:=c.step ‹_› [] (d':=false) (by simp) (by simp) (by simp);simp at this;refine LJ.e (i+1,false,out ++ [gt l i]) ?_;exact⟨by simp;omega,this⟩
  .refine Yt (f229 _ _ k (hs _ (gq h0.1 ‹_›))) ?_;simp[d];refine LD d ?_ ?_<;>intro h
   .subst d;have:=c.step ‹_› [x] (d':=true) (by simp) (by simp) (by simp);refine LJ.e (i+1,true,out ++ [x] ++ [gt l i]) ?_;exact⟨by simp;omega,this⟩
   .subst d;have e:=agF (a:=gt l i) (b:=x) ‹_› ‹_›;have:=c.step ‹_› [] (d':=true) (by simp) (by simp[e]) (by simp);simp at this;refine LJ.e (i+1,true,out ++ [gt l i]) ?_;exact⟨by simp;omega,this⟩
 .subst h;have g:=c.sub;have f:=c.sup;rw[kW (by omega)]at g f;refine⟨out,rfl,λo=>⟨g o,λh=>?_⟩,by simp at j;omega⟩;rcases h with h|h
  .exact f o h
  .rw[h];exact c.dn rfl
 .subst h;have g:=c.sub;have f:=c.sup;rw[kW (by omega)]at g f;refine⟨out ++ [x],by simp[nM],λo=>?_,by simp at j;simp;omega⟩;simp;constructor
  .rintro(h|h)
   .exact g o h
   .exact .inr h
  .rintro(h|h)
   .exact .inl (f o h)
   .exact .inr h
theorem YH{g:fY}:∀ {l:List fO} {now:List gg} {t:gg},t∈gt (now::pc g l now) l.length↔t∈sU g l now
 | [],now,t=>by simp[pc,sU,gt]
 | x::r,now,t=>by
  have e:gt (now::pc g (x::r) now) (x::r).length=gt (oF g x now::pc g r (oF g x now)) r.length:=by rw[pc];unfold gt;simp only[aH,bF,List.getD_cons_succ]
  rw[e,YH,sU];exact aau (λs=>NQ) t
theorem YG{g:fY}:∀ {l:List fO} {now:List gg},(gt (now::pc g l now) l.length).length<=10 ^ l.length*now.length
 | [],now=>by simp[pc,gt]
 | x::r,now=>by
  have e:gt (now::pc g (x::r) now) (x::r).length=gt (oF g x now::pc g r (oF g x now)) r.length:=by rw[pc];unfold gt;simp only[aH,bF,List.getD_cons_succ]
  rw[e];refine Nat.le_trans YG ?_;rw[aH,eA,fH];exact eG _ HD
theorem f154(g:fY)(hg:gN g)(p:Pos)(b:ij g p)(c i:Int)(f:0<=c/\c<g.size)(m:jS (gt p.cs c)=p.side)(hi:0<=i/\i<(gt g.kinds (gC (gt p.cs c))).jh.length) :
  Wf T 204 [dG g,dP p,.i c,.i i] [] (Ex (λr=>.tup [nM r,.i 0]) λr=>(∀o,o∈r↔o∈uF g p c (gt (gt g.kinds (gC (gt p.cs c))).jh i))/\r.length<=10 ^ 8):=by
 have I:=b.cs _ (gq f.1 (by have:=b.size;omega));have a:=b.side;obtain⟨m1,m2,m3,m4⟩:=Hw a.1 m;have J:gC (gt p.cs c)<g.kinds.length:=yf I.2 hg.kinds.1;have M:kd g (lq p c):=Iu hg b f.1 f.2 m;have P:=hg.jh _ (gq (l:=g.kinds) m1 J);have N:=f194 g hg p b c i f m hi;generalize G:gt (gt g.kinds (gC (gt p.cs c))).jh i=prog at *;have D:xk g prog:=P.2 _ (G▸gq hi.1 hi.2);have O:=D.len;have z:∀t,t∈gt ([lq p c]::pc g prog [lq p c]) prog.length↔t∈sU g prog [lq p c]:=λt=>YH;have Q:=YG (g:=g) (l:=prog) (now:=[lq p c]);have X:10 ^ prog.length<=10 ^ 8:=cM (by decide) O.2;have F:=aaM (g:=g) (l:=prog) (now:=[lq p c]);generalize hS : [lq p c]::pc g prog [lq p c]=S at *;have U:S.length=prog.length+1:=by rw[<-hS];simp[F]
 refine Yz ET (iO 70 [5] ET.body) ?_;simp[ET,iO,kh,mN,mQ,nf,lK];refine Yc (N) ?_;simp;(with_reducible repeat' first|refine Xk ?_<;>try simp[AR]|refine Xs ?_ ?_<;>intro h<;>(try intro Y)<;>(try simp[h,AR])<;>try omega|refine Xg ?_|omega);rw[show(S.length:Int)-1=prog.length by omega];generalize gt S (prog.length:Int)=L at *;have fV:∀s∈L,kd g s:=λs hs=>Og hg D.steps (λt e=>by rw[List.mem_singleton]at e;subst e;exact M) s ((z s).1 hs);have Z:L.length<=100000000:=by simp at Q;omega
 simp[AR];refine fQ ?_;refine fZ.fz [0,2,3] rfl ?_;refine fZ.e ((0,[]):Int×List gJ) (λy=>[(5,.ptr 1 0 0),(11,nM y.2),(12,kq L),(13,.i y.1)]) (λy=>[.dead,.row 46 0 p.cells,.dead,.dead]) (λy=>0<=y.1/\y.1<=L.length/\(∀o,o∈y.2↔o∈(L.take y.1.toNat).filterMap (nZ p.side))/\y.2.length<=y.1.toNat) (λy=>L.length-y.1.toNat) ?_ ?_
 .simp
 rintro⟨j,out⟩ ⟨j0,j1,j2,j3⟩;dsimp only at j0 j1 j2 j3 ⊢;simp;refine jU ?_ ?_<;>intro h
 .have hs:=fV _ (gq j0 ‹_›);have R:=hs.p.small hg;have W:=hs.p.size;have w:=hs.cur;have u:=hs.kind;have V:=hg.kinds;generalize C:gt L j=s at *;refine jU ?_ ?_<;>intro h
  .have q:=iH (l:=s.p.cs) (n:=s.cur) (v:=1+2*s.kind+p.side) w.1 (by omega);refine Yn (V2 s.p R) ?_;simp;refine Yt (f156 (k:=s.kind) (s:=p.side) u.1 (by omega) a.1 a.2) ?_;simp[q];refine jH q ?_;generalize d:({ p:=⟨pt s.p.cs s.cur (1+2*s.kind+p.side),s.p.h0,s.p.h1,s.p.gD,1-p.side⟩,jF:=s.jF }:gJ)=o;have A:nZ p.side s=some o:=by rw[nZ,if_pos ‹_›,<-d];rfl
   have E:Small o.p:=ij.small hg (Mz hs a.1 a.2 A)
   have H:∀o∈out,Small o.p:=λo d=>by obtain⟨t,e,K⟩:=cT.1 ((j2 o).1 d);exact ij.small hg (Mz (fV t (aS e)) a.1 a.2 K)
   have c2:=f195 out o (by omega) H E;rw[<-d]at c2;refine gj.q rfl rfl c2 (by simp) (λ_=>by simp) ?_;intro r B;simp;rw[d]at B;refine fQ ?_;refine LJ.e (j+1,r) ?_;refine⟨by dsimp only;omega,by dsimp only;omega,by dsimp only;omega,λx=>?_,by dsimp only;omega⟩;rw[B.1,j2,jd j0 ‹_›,C];simp[A,eq_comm]
  .refine fQ ?_;refine LJ.e (j+1,out) ?_;refine⟨by dsimp only;omega,by dsimp only;omega,by dsimp only;omega,λx=>?_,by dsimp only;omega⟩;rw[j2,jd j0 ‹_›,C];have:nZ p.side s=none:=by rw[nZ,if_neg ‹_›]
   simp[this]
 .rw[kW (by omega)]at j2;refine⟨out,rfl,λo=>?_,?_⟩
  .rw[j2,uF];simp only[cT,z]
  .omega
