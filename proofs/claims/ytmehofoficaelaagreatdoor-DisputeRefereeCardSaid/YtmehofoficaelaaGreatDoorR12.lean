/- Part 12 of DisputeReferee. -/
import Derived.Test.YtmehofoficaelaaGreatDoorR11
set_option linter.all false
namespace Go.Proofs.YtmehofoficaelaaGreatDoor
open Go Go.AL Classical
set_option maxRecDepth 10000
set_option maxHeartbeats 1000000
theorem KW(p:Pos)(a:Small p):Wf T 205 [dP p] [] (λd H=>d = .agg [.fy 0 1 1 0 p.cs.length,.fy 1 1 1 0 p.h0.length,.fy 2 1 1 0 p.h1.length,.i p.gj,.i p.side]/\H = [.row 3 1 (cl f1 p.cs),.row 3 1 (cl f1 p.h0),.row 3 1 (cl f1 p.h1)]):=by
 obtain⟨h1,c,b⟩:=a;refine Wf.xo 2 (fn:=xU) rfl (by simp[xU]) ?_;simp[xU];exact mE
 all_goals trace_state
theorem f250(a b:fQ)(d:Small a.p)(c:Small b.p):Wf T 294 [.agg a.cells,.agg b.cells] [] (Is (.b (decide (a=b)))):=by
 have e:(a=b)↔a.p=b.p/\a.kind=b.kind/\a.cur=b.cur/\a.jq=b.jq:=by cases a;cases b;simp
 have f:decide (a=b)=decide (a.p=b.p/\a.kind=b.kind/\a.cur=b.cur/\a.jq=b.jq):=decide_eq_decide.2 e;rw[f];refine Yg Jl ?_;simp[Jl];(with_reducible repeat' first|refine Xk ?_<;>try simp|refine Xs ?_ ?_<;>intro h<;>(try intro g)<;>(try simp[h])<;>try omega|refine Xg ?_|omega)
 .refine Yc (f50 _ _ d c) ?_;simp;simp_all [qh]
 all_goals (intros;simp_all)
theorem f252(s:fQ)(b:Bool):Wf T 296 [.agg s.cells,.b b] [] (Is (jX (if b then [s]else []))):=by refine Yg Jn ?_;simp[Jn];exact mE
def FZ(a b:gy):Prop:=ib a.p b.p<0\/(ib a.p b.p=0/\a.jq=false/\b.jq=true)
theorem f229(a b:gy)(d:Small a.p)(c:Small b.p):Wf T 285 [.agg a.cells,.agg b.cells] [] (Is (.b (decide (FZ a b)))):=by
 refine Yg Je ?_;simp[Je];refine Yc (f50 _ _ d c) ?_;simp;(with_reducible repeat' first|refine Xk ?_<;>try simp|refine Xs ?_ ?_<;>intro h<;>(try intro f)<;>(try simp[h])<;>try omega|refine Xg ?_|omega)
 all_goals by_cases e:ib a.p b.p<0<;>simp[*,FZ]at *
theorem f263(g:fH)(hg:nM g)(s d c:Int):Wf T 321 [g.jm,.i s,.i d,.i c] [] (Is (dI (kL g s d c))):=by
 have o:=hg.size;refine Yg Js ?_;simp[Js];refine Yc (f251 g hg s d c) ?_;simp;refine fO.j ((0,lM g s d c,[]):Nat×Int×List Int) (λx=>[(1,.i s),(2,.i d),(3,.i c),(4,.ptr 0 0 0),(9,.fy 1 x.2.2.length 1 0 x.2.2.length),(10,.i x.2.1)]) (λx=>[.row 39 0 [.i g.size,.sl 1 (g.next.map fI),dI g.iX],.row 3 x.2.2.length (cl f1 x.2.2)]) (λx=>x.1=x.2.2.length/\x.2.1<g.size/\x.2.2.Nodup/\(∀y∈x.2.2,0<=y/\y<g.size)/\kL g s d c=s0 g s d c (10-x.1) x.2.1 x.2.2) (λx=>10-x.1) ?_ (by simp) (by first|rfl|simp) rfl ?_
 .have:=hg.to s d c;simp[kL];omega
 rintro⟨m,x,out⟩ ⟨h0,h1,f,b,j⟩;dsimp only at h0 h1 f b j ⊢;have n:out.length<=9:=A8 9 out f (λy a=>by have:=b y a;omega);have e:=j;rw[show 10-m=(9-m)+1 by omega,s0]at e;simp;(with_reducible repeat' first|refine Xk ?_<;>try simp|refine Xs ?_ ?_<;>intro h<;>(try intro p)<;>(try simp[h])<;>try omega|refine Xg ?_|omega)
 .rw[e,if_neg (by omega)]
 .refine fY.r rfl rfl (f25 out x (by omega)) (by simp) rfl (by simp) ?_;simp;refine jF ?_ ?_<;>intro h
  .rw[e,if_neg (by rintro⟨_,_,k⟩;exact k ‹_›)]
  .refine Yc (f251 g hg s d x) ?_;simp;refine⟨out.length+1,_,out ++ [x],by simp,rfl,by simp,rfl,by omega,by simp,(hg.to _ _ _).2,?_,?_,?_⟩
   .rw[c9];refine⟨f,by simp,λy a z i=>?_⟩;simp at i;subst i;intro l;subst l;exact absurd a ‹_›
   .intro y a;simp at a;rcases a with a|rfl
    .exact b y a
    .omega
   .rw[e,if_pos (qy (by assumption)),h0,show 9-out.length=10-(out.length+1)by omega]
 .rw[e,if_neg (by omega)]
theorem f253(g:fH)(hg:gF g)(s:fQ)(hs:jQ g s)(n:Int):Wf T 297 [dG g,.agg s.cells,.i n] [] (Is (jX (pC s (kL g s.p.side n s.cur)))):=by
 have hl:=Qf (g:=g) (s:=s.p.side) (d:=n) (c:=s.cur);have j:=hs.p.size;refine Yg Jo ?_;simp[Jo];refine Yc (f263 g hg.jm s.p.side n s.cur) ?_;simp;generalize f:kL g s.p.side n s.cur=L at *;have gq:∀y∈L,0<=y/\y<g.size:=λy e=>Qe hg.jm (f▸e);refine fO.j ((0,[]):Int×List fQ) (λx=>[(4,.ptr 1 0 0),(7,.fy 2 x.2.length 8 0 x.2.length),(8,dI L),(9,.i x.1)]) (λx=>[.row 43 0 g.cells,.row 373 0 s.cells,.row 373 x.2.length (cl fQ.cells x.2)]) (λx=>0<=x.1/\x.1<=L.length/\x.2.length=x.1.toNat/\pC s L=x.2++pC s (L.drop x.1.toNat)) (λx=>L.length-x.1.toNat) ?_ (by simp) (by first|rfl|simp) rfl ?_
 .simp
 rintro⟨i,out⟩ ⟨h0,h1,b,a⟩;dsimp only at h0 h1 b a ⊢;simp;refine jF ?_ ?_<;>intro h
 .have k:=gq _ (fZ h0 ‹_›);rw[nb h0 ‹_›,pC]at a;refine jF ?_ ?_<;>intro h
  .refine⟨i+1,out ++ [{ s with cur:=gt L i }],by simp,rfl,by simp,by rw[<-ph],by omega,by omega,by omega,by simp[b];omega,?_⟩;rw[a,if_pos ‹_›,show(i+1).toNat=i.toNat+1 by omega];simp
  .rw[if_neg ‹_›]at a;rw[a];simp[jX]
 .rw[bp (by omega)]at a;rw[a];simp[pC]
theorem WK{n s:Int}(_:0<=n)(a:0<=gi n)(h:jD n≠s)(hs:0<=s/\s<=1):jD n=1-s:=by
 unfold gi jD at *;split at a
 .rename_i e;rw[if_pos e]at h ⊢;omega
 .omega
theorem f254(g:fH)(hg:gF g)(s:fQ)(hs:jQ g s):Wf T 298 [dG g,.agg s.cells] [] (Is (jX (sv g s))):=by
 have r:=hs.p.size;have d:=hs.cur;have j:=hs.p.small hg;refine Yg Jp ?_;simp[Jp];refine fD ?_;refine Yc (f51 _) ?_;simp;have b:=hs.p.cs _ (fZ d.1 (by omega));have i:=hg.kinds;have f:=hs.p.side;(with_reducible repeat' first|refine Xk ?_<;>try simp|refine Xs ?_ ?_<;>intro h<;>(try intro u)<;>(try simp[h])<;>try omega|refine Xg ?_|omega)
 .rw[sv,if_pos];unfold gi at *;unfold jD;split at h<;>rename_i m
  .omega
  .rw[if_neg m];omega
 .rw[sv,if_pos (by omega)]
 .have t:gi (gt s.p.cs s.cur)<g.kinds.length:=xt b.2 i.1;have o:s.p.side=0\/s.p.side=1:=by omega
  have q:=hs.p.h0.len;have p:=hs.p.h1.len;have q0:=iq (l:=s.p.cs) (n:=s.cur) (v:=0) d.1 (by omega);refine Yn (KW s.p j) ?_;simp;refine J7 q0 ?_ ?_<;>intro h
  .have a:jD (gt s.p.cs s.cur)=1-s.p.side:=WK b.1 (by omega) (by assumption) f;have c:=h;rcases o with e|e
   .have k:=hs.p.h0.at_ _ (by omega) (show gi (gt s.p.cs s.cur)<s.p.h0.length by omega);have q1:=Cg (l:=s.p.h0) (n:=gi (gt s.p.cs s.cur)) (v:=gt s.p.h0 (gi (gt s.p.cs s.cur))+1) (by omega) (by omega);have q2:=iq (l:=s.p.h0) (n:=gi (gt s.p.cs s.cur)) (v:=gt s.p.h0 (gi (gt s.p.cs s.cur))+1) (by omega) (by omega);simp[e,q1,q2];refine jF ?_ ?_<;>intro h
    all_goals simp[sv,a,c,Pos.hand,Pos.mu,e,q0,q2]
    .rw[if_neg (by omega)]
    .rw[if_pos (by omega)]
   .have k:=hs.p.h1.at_ _ (by omega) (show gi (gt s.p.cs s.cur)<s.p.h1.length by omega);have q1:=Cg (l:=s.p.h1) (n:=gi (gt s.p.cs s.cur)) (v:=gt s.p.h1 (gi (gt s.p.cs s.cur))+1) (by omega) (by omega);have q2:=iq (l:=s.p.h1) (n:=gi (gt s.p.cs s.cur)) (v:=gt s.p.h1 (gi (gt s.p.cs s.cur))+1) (by omega) (by omega);simp[e,q1,q2];refine jF ?_ ?_<;>intro h
    all_goals simp[sv,a,c,Pos.hand,Pos.mu,e,q0,q2]
    .rw[if_neg (by omega)]
    .rw[if_pos (by omega)]
  .have a:jD (gt s.p.cs s.cur)=1-s.p.side:=WK b.1 (by omega) (by assumption) f;simp[sv,a,h,q0]
theorem f255(g:fH)(hg:gF g)(s:fQ)(hs:jQ g s)(n:Int):Wf T 299 [dG g,.agg s.cells,.i n] [] (Is (jX (tc g s n))):=by
 have c:=hs.p.size;have a:=hs.cur;have b:=hs.p.small hg;have d:=hg.jm.to s.p.side n s.cur;refine Yg Jq ?_;simp[Jq];refine Yc (f251 g hg.jm s.p.side n s.cur) ?_;simp;(with_reducible repeat' first|refine Xk ?_<;>try simp|refine Xs ?_ ?_<;>intro h<;>(try intro e)<;>(try simp[h])<;>try omega|refine Xg ?_|omega)
 .rw[tc,if_pos (by simp_all)]
 .rw[tc,if_pos (by simp_all)]
 .have q0:=iq (l:=s.p.cs) (n:=lM g s.p.side n s.cur) (v:=gt s.p.cs s.cur) (by omega) (by omega);have q1:=iq (l:=pt s.p.cs (lM g s.p.side n s.cur) (gt s.p.cs s.cur)) (n:=s.cur) (v:=0) a.1 (by omega);refine Yn (KW s.p b) ?_;simp;refine ku q0 q1 ?_;simp[tc, *]
 .rw[tc,if_pos (by simp_all)]
end Go.Proofs.YtmehofoficaelaaGreatDoor
namespace Go.AL
open Go
def mB(n:Nat):D->Bool
 | .fy v _ _ _ _ | .ptr v _ _ | .gg v | .iH v=>decide (v<n)
 | d=>closed d
def kA(n:Nat):D->Bool
 | .agg cs | .tup cs | .fV cs=>cs.all (mB n)
 | .fn _ a b=>a.all (mB n)&&b.all (mB n)
 | d=>mB n d
def n9(n:Nat):Ob->Bool
 | .row _ _ cs=>cs.all (kA n)
 | .map _ es=>es.all λx=>kA n x.2
 | .gV _ env _=>env.all λx=>kA n x.2
 | .rF _ _=>true
 | .jb m _ _=>mB n m
 | .kD=>true
 | .dead=>true
 | .lu=>false
def jO(n:Nat)(H:U):Prop:=∀o∈H,n9 n o=true
theorem Rl{ρ:Nat->Option Nat}{H:U}{n k:Nat}(a:∀u,u<n->ρ u=some u){d:D}(h:mB n d=true):fL ρ H (k+1) d=d:=by
 cases d with
 | fy v g sz off len=>simp only[mB,decide_eq_true_eq]at h;rw[Rk,a v h,akS]
 | ptr v g off=>simp only[mB,decide_eq_true_eq]at h;rw[akX,a v h,akT]
 | gg v=>simp only[mB,decide_eq_true_eq]at h;rw[akW,a v h,akR]
 | iH v=>
  simp only[mB,decide_eq_true_eq]at h;rw[fL,if_neg (by simp)];rw[a v h]
 | _=>exact pF h
theorem F6{ρ:Nat->Option Nat}{H:U}{n k:Nat}(a:∀u,u<n->ρ u=some u){cs:List D}(h:cs.all (mB n)=true):cs.map (fL ρ H (k+1))=cs:=by
 conv=>rhs;rw[<-aT cs]
 exact ak λd b=>Rl a (List.all_eq_true.1 h d b)
theorem Dn{ρ:Nat->Option Nat}{H:U}{n k:Nat}(c:∀u,u<n->ρ u=some u){d:D}(h:kA n d=true):fL ρ H (k+2) d=d:=by
 cases d with
 | agg cs=>rw[akV,F6 c h]
 | tup cs=>rw[akY,F6 c h]
 | fV cs=>
  by_cases e:closed (.fV cs)=true
  .simp_all
  .rw[fL,if_neg e,F6 c h]
 | fn f a b=>
  simp only[kA,Bool.and_eq_true]at h
  by_cases e:closed (.fn f a b)=true
  .simp_all
  .rw[fL,if_neg e,F6 c h.1,F6 c h.2]
 | _=>exact Rl c h
theorem akU{ρ:Nat->Option Nat}{H:U}{n:Nat}(a:∀u,u<n->ρ u=some u){o:Ob}(h:n9 n o=true):oN ρ H o=o:=by
 have key:∀ {α:Type} (l:List (α×D)),(l.all λx=>kA n x.2)=true->(l.map λx=>(x.1,fL ρ H 40 x.2))=l:=by
  intro α l hl
  conv=>rhs;rw[<-aT l]
  exact ak λx b=>by have:=List.all_eq_true.1 hl x b;rw[Dn a this];rfl
 cases o with
 | row t g cs=>
  simp only[oN];congr 1
  conv=>rhs;rw[<-aT cs]
  exact ak λd c=>Dn a (List.all_eq_true.1 h d c)
 | map kk es=>simp only[oN];rw[key es h]
 | gV rf env st=>simp only[oN];rw[key env h]
 | rF=>rfl
 | jb m since seen=>simp only[oN];rw[Rl a h]
 | kD=>rfl
 | dead=>rfl
 | lu=>cases h
theorem Di{n u:Nat}(h:u<n):il (iG n []) u=some u:=by unfold il iG;rw[List.map_nil,ax];rw[dH];refine⟨by simpa using h,by simp,λj a=>by simp;omega⟩
theorem GK{n:Nat}{H G:U}(b:H.length=n)(h:jO n H):p6 (iG n []) (H++G)=H:=by
 unfold p6;refine bN λi=>?_;rw[ar];unfold iG;rw[List.map_nil,ax,ar]
 by_cases hi:i<n
 .rw[bE hi];simp only[aD,if_true];rw[ah (by omega),List.getElem?_eq_getElem (by omega)];simp only;congr 1;have e:((List.range n).map λv=>(v,true))=iG n []:=by unfold iG;simp
  rw[e];exact akU (λu a=>Di a) (h _ (bK _))
 .grind
theorem M8{n:Nat}{d:D}(h:kA n d=true):iT n d = []:=by cases d<;>first|rfl|(simp only[kA,mB,decide_eq_true_eq]at h;simp only[iT];rw[if_neg (by omega)])
theorem flatten_nil{α c:Type}{f:α->List c}:∀ {l:List α},(∀a∈l,f a = [])->(l.map f).flatten = []
 | [],_=>rfl
 | a::l,h=>by rw[List.map_cons,aQ,h a (by simp),flatten_nil λb d=>h b (by simp[d])];rfl
theorem QF{n:Nat}{o:Ob}(h:n9 n o=true):nZ n o = []:=by
 cases o with
 | row t g cs=>exact flatten_nil λd b=>M8 (List.all_eq_true.1 h d b)
 | map kk es=>exact flatten_nil λx a=>M8 (List.all_eq_true.1 h x a)
 | _=>rfl
theorem aaI{n:Nat}{live:List Nat}{env:Env}{H G:U}{m:List Nat}{r:Bool}(j:A6 live=false)(h:H.length=n)(e:jO n H)(d:((forget live env).all λp=>kA n p.2)=true)(i:(m.all λv=>decide (v<n))=true) :
  cut n live { env:=env,H:=H++G,marks:=m,ik:=r } = { env:=forget live env,H:=H,marks:=m,ik:=r }:=by
 by_cases hg:(H++G).length<=n
 .have:G = []:=by
   cases G with
   | nil=>rfl
   | cons a l=>simp at hg;omega
  subst this;rw[ax];exact Tt (by show H.length<=n;omega)
 .unfold cut;dsimp only;rw[if_neg (by rw[j];simpa using hg)];have t:((forget live env).map λp=>iT n p.2).flatten = []:=flatten_nil λp b=>M8 (List.all_eq_true.1 d p b)
  have s:(((H++G).take n).map (nZ n)).flatten = []:=flatten_nil λo c=>by rw[aV (by omega),af (by omega)]at c;exact QF (e o c)
  have q:m.filter (n<=·) = []:=by simp_all
  rw[t,s,q];have k:dedup (([] ++ [] ++ []:List Nat).filter (· < (H++G).length)) = []:=rfl;rw[k,GK h e];congr 1
  .conv=>rhs;rw[<-aT (forget live env)]
   exact ak λp b=>by rw[Dn (λu g=>Di g) (List.all_eq_true.1 d p b)];rfl
  .conv=>rhs;rw[<-aT m]
   exact ak λv f=>by have:=List.all_eq_true.1 i v f;rw[Di (by simpa using this)];rfl
theorem aez{n:Nat}{H G:U}{d:D}(f:H.length=n)(c:jO n H)(g:kA n d=true):leave 0 n (H++G) d=(d,H):=by
 by_cases hg:(H++G).length<=n
 .have:G = []:=by
   cases G with
   | nil=>rfl
   | cons a l=>simp at hg;omega
  subst this;rw[ax];exact Wx (by omega) 0
 .unfold leave;rw[if_neg (by omega)]
  have i:(((H++G).take n).map (nZ n)).flatten = []:=flatten_nil λo b=>by rw[aV (by omega),af (by omega)]at b;exact QF (c o b)
  simp only;rw[i];have h:dedup (([] ++ []:List Nat).filter (· < (H++G).length)) = []:=rfl;rw[h,GK f c,Dn (λu e=>Di e) g]
theorem A'{n v:Nat}{H:U}{o:Ob}(h:jO n H)(b:n9 n o=true):jO n (H.set v o):=λx a=>by
 rcases dt a with a|rfl
 .exact h x a
 .exact b
theorem Dp{n:Nat}{d:D}(h:closed d=true):mB n d=true:=by cases d<;>first|exact h|(cases h;done)|(simp only[closed]at h;cases h)
theorem MR{n:Nat}{d:D}(h:closed d=true):kA n d=true:=by
 cases d with
 | agg cs=>exact List.all_eq_true.2 λd c=>Dp (lS (by simpa using h) d c)
 | tup cs=>exact List.all_eq_true.2 λd c=>Dp (lS (by simpa using h) d c)
 | fV cs=>exact List.all_eq_true.2 λd c=>Dp (lS (by simpa using h) d c)
 | fn f a b=>
  simp only[Tf,Bool.and_eq_true]at h;simp only[kA,Bool.and_eq_true];exact⟨List.all_eq_true.2 λd c=>Dp (lS h.1 d c),List.all_eq_true.2 λd c=>Dp (lS h.2 d c)⟩
 | _=>exact Dp (n:=n) h
@[simp] theorem avx{n:Nat}{d:D}(h:closed d=true):kA n d=true:=MR h
@[simp] theorem avB(n v g sz off len:Nat):kA n (.fy v g sz off len)=decide (v<n):=rfl
@[simp] theorem avC(n v g off:Nat):kA n (.ptr v g off)=decide (v<n):=rfl
@[simp] theorem avA(n v:Nat):kA n (.gg v)=decide (v<n):=rfl
@[simp] theorem avw(n:Nat)(cs:List D):kA n (.agg cs)=cs.all (mB n):=rfl
@[simp] theorem avD(n:Nat)(cs:List D):kA n (.tup cs)=cs.all (mB n):=rfl
@[simp] theorem avF(n v g sz off len:Nat):mB n (.fy v g sz off len)=decide (v<n):=rfl
@[simp] theorem avG(n v g off:Nat):mB n (.ptr v g off)=decide (v<n):=rfl
@[simp] theorem avy(n:Nat)(f:Fn)(a b:List D):kA n (.fn f a b)=(a.all (mB n)&&b.all (mB n)):=rfl
@[simp] theorem Gh{n t g:Nat}{α:Type}{f:α->List D}{sz:Nat}[F:Fl f sz](l:List α):n9 n (.row t g (cl f l))=true:=
 List.all_eq_true.2 λd a=>MR (lS (ue l) d a)
@[simp high] theorem aev{α:Type}[Inhabited α]{f:α->List D}{sz:Nat}[F:Fl f sz]{l:List α}{t:TypeId}{n:Int}(a:0<sz):tL sz (n.toNat*sz) (some (t,cl f l))=if n.toNat<l.length then some (.agg (f (gt l n)))else none:=by
 have h:=aff (f:=f) (l:=l) (t:=t) (n:=n) (P:=λd=>d = .agg (f (gt l n))) a;simp only[and_true]at h
 by_cases b:n.toNat<l.length
 .simp_all
 .rw[if_neg b];unfold tL;dsimp only;rw[if_neg];rw[rO,<-b7,eW a];omega
section
variable{T:ia}{a b:IR}{s:St}{K:iE}{id n:Nat}{live:List Nat}
@[simp ↓] theorem atg:Mm T b K (.norm s)=Wc T b s K:=(rfl)
@[simp ↓] theorem atf:Mm T b K (.exit id s)=K (.exit id s):=(rfl)
@[simp ↓] theorem ath:Mm T b K (.ret s)=K (.ret s):=(rfl)
end
def LJ{α:Type}(E:α->Env)(b:α->U)(ms:List Nat)(rd:Bool)(Q:α->Prop)(_:Tag (E,b,ms,rd,Q))(e:Env)(H:U)(m:List Nat)(r:Bool):Prop:=
 ∃a,e=E a/\H=b a/\m=ms/\r=rd/\Q a
theorem LJ.e{α:Type}{E:α->Env}{b:α->U}{ms:List Nat}{rd:Bool}{Q:α->Prop}{t:Tag (E,b,ms,rd,Q)}{e:Env}{H:U}{m:List Nat}{r:Bool}(a:α)(c:Q a)(h1:e=E a:=by first|rfl|simp)(g:H=b a:=by first|rfl|simp)(f:m=ms:=by exact rfl)(d:r=rd:=by exact rfl):LJ E b ms rd Q t e H m r:=⟨a,h1,g,f,d,c⟩
theorem LJ.i{α:Type}{E:α->Env}{b:α->U}{ms:List Nat}{rd:Bool}{Q:α->Prop}{t:Tag (E,b,ms,rd,Q)}{e:Env}{H:U}{m:List Nat}{r:Bool}(a:α)(h1:e=E a)(g:H=b a)(f:m=ms)(d:r=rd)(c:Q a):LJ E b ms rd Q t e H m r:=⟨a,h1,g,f,d,c⟩
section
variable{T:ia}{live:List Nat}{a:IR}{s:St}{K:iE}{α:Type}
theorem fO.k(b:α)(E:α->Env)(c:α->U)(P:α->Prop)(d:α->Nat)
  (h0:P b) (l:forget ((E b).map (·.1)) s.env=E b) (j:s.H=c b) (i:s.marks = []) (g:s.ik=false) (f:(((E b).map (·.1)).all λk=>live.contains k)=true)
  (h:∀x,P x->XC T a { env:=E x,H:=c x } (xq s.H.length live ((E b).map (·.1)) (LJ E c [] false (λe=>d e<d x/\P e) .mk) K)):fO T live a s K .mk:=
 fO.j b E c P d h0 l j f (by rw[i,g];exact h)
end
@[simp] theorem apJ{α:Type}{f:α->List D}[Fl f 1](l:List α)(n:Nat):(cl f l).take n=cl f (l.take n):=by simpa using wK (f:=f) l n
@[simp] theorem apG{α:Type}{f:α->List D}[Fl f 1](l:List α)(n:Nat):(cl f l).drop n=cl f (l.drop n):=by simpa using uf (f:=f) l n
@[simp] theorem arT(K:List Nat):iG 5 K=(0,true)::(1,true)::(2,true)::(3,true)::(4,true)::K.map λv=>(v,true):=rfl
@[simp] theorem arU(K:List Nat):iG 6 K=(0,true)::(1,true)::(2,true)::(3,true)::(4,true)::(5,true)::K.map λv=>(v,true):=rfl
@[simp] theorem arV(K:List Nat):iG 7 K=(0,true)::(1,true)::(2,true)::(3,true)::(4,true)::(5,true)::(6,true)::K.map λv=>(v,true):=rfl
@[simp] theorem arW(K:List Nat):iG 8 K=(0,true)::(1,true)::(2,true)::(3,true)::(4,true)::(5,true)::(6,true)::(7,true)::K.map λv=>(v,true):=rfl
@[simp] theorem arX(K:List Nat):iG 9 K=(0,true)::(1,true)::(2,true)::(3,true)::(4,true)::(5,true)::(6,true)::(7,true)::(8,true)::K.map λv=>(v,true):=rfl
@[simp] theorem arC(K:List Nat):iG 10 K=(0,true)::(1,true)::(2,true)::(3,true)::(4,true)::(5,true)::(6,true)::(7,true)::(8,true)::(9,true)::K.map λv=>(v,true):=rfl
@[simp] theorem arD(K:List Nat):iG 11 K=(0,true)::(1,true)::(2,true)::(3,true)::(4,true)::(5,true)::(6,true)::(7,true)::(8,true)::(9,true)::(10,true)::K.map λv=>(v,true):=rfl
@[simp] theorem arE(K:List Nat):iG 12 K=(0,true)::(1,true)::(2,true)::(3,true)::(4,true)::(5,true)::(6,true)::(7,true)::(8,true)::(9,true)::(10,true)::(11,true)::K.map λv=>(v,true):=rfl
@[simp] theorem arF(K:List Nat):iG 13 K=(0,true)::(1,true)::(2,true)::(3,true)::(4,true)::(5,true)::(6,true)::(7,true)::(8,true)::(9,true)::(10,true)::(11,true)::(12,true)::K.map λv=>(v,true):=rfl
@[simp] theorem arG(K:List Nat):iG 14 K=(0,true)::(1,true)::(2,true)::(3,true)::(4,true)::(5,true)::(6,true)::(7,true)::(8,true)::(9,true)::(10,true)::(11,true)::(12,true)::(13,true)::K.map λv=>(v,true):=rfl
@[simp] theorem arH(K:List Nat):iG 15 K=(0,true)::(1,true)::(2,true)::(3,true)::(4,true)::(5,true)::(6,true)::(7,true)::(8,true)::(9,true)::(10,true)::(11,true)::(12,true)::(13,true)::(14,true)::K.map λv=>(v,true):=rfl
@[simp] theorem arI(K:List Nat):iG 16 K=(0,true)::(1,true)::(2,true)::(3,true)::(4,true)::(5,true)::(6,true)::(7,true)::(8,true)::(9,true)::(10,true)::(11,true)::(12,true)::(13,true)::(14,true)::(15,true)::K.map λv=>(v,true):=rfl
@[simp] theorem arJ(K:List Nat):iG 17 K=(0,true)::(1,true)::(2,true)::(3,true)::(4,true)::(5,true)::(6,true)::(7,true)::(8,true)::(9,true)::(10,true)::(11,true)::(12,true)::(13,true)::(14,true)::(15,true)::(16,true)::K.map λv=>(v,true):=rfl
@[simp] theorem arK(K:List Nat):iG 18 K=(0,true)::(1,true)::(2,true)::(3,true)::(4,true)::(5,true)::(6,true)::(7,true)::(8,true)::(9,true)::(10,true)::(11,true)::(12,true)::(13,true)::(14,true)::(15,true)::(16,true)::(17,true)::K.map λv=>(v,true):=rfl
@[simp] theorem arL(K:List Nat):iG 19 K=(0,true)::(1,true)::(2,true)::(3,true)::(4,true)::(5,true)::(6,true)::(7,true)::(8,true)::(9,true)::(10,true)::(11,true)::(12,true)::(13,true)::(14,true)::(15,true)::(16,true)::(17,true)::(18,true)::K.map λv=>(v,true):=rfl
@[simp] theorem arN(K:List Nat):iG 20 K=(0,true)::(1,true)::(2,true)::(3,true)::(4,true)::(5,true)::(6,true)::(7,true)::(8,true)::(9,true)::(10,true)::(11,true)::(12,true)::(13,true)::(14,true)::(15,true)::(16,true)::(17,true)::(18,true)::(19,true)::K.map λv=>(v,true):=rfl
@[simp] theorem arO(K:List Nat):iG 21 K=(0,true)::(1,true)::(2,true)::(3,true)::(4,true)::(5,true)::(6,true)::(7,true)::(8,true)::(9,true)::(10,true)::(11,true)::(12,true)::(13,true)::(14,true)::(15,true)::(16,true)::(17,true)::(18,true)::(19,true)::(20,true)::K.map λv=>(v,true):=rfl
@[simp] theorem arP(K:List Nat):iG 22 K=(0,true)::(1,true)::(2,true)::(3,true)::(4,true)::(5,true)::(6,true)::(7,true)::(8,true)::(9,true)::(10,true)::(11,true)::(12,true)::(13,true)::(14,true)::(15,true)::(16,true)::(17,true)::(18,true)::(19,true)::(20,true)::(21,true)::K.map λv=>(v,true):=rfl
@[simp] theorem arQ(K:List Nat):iG 23 K=(0,true)::(1,true)::(2,true)::(3,true)::(4,true)::(5,true)::(6,true)::(7,true)::(8,true)::(9,true)::(10,true)::(11,true)::(12,true)::(13,true)::(14,true)::(15,true)::(16,true)::(17,true)::(18,true)::(19,true)::(20,true)::(21,true)::(22,true)::K.map λv=>(v,true):=rfl
@[simp] theorem awg{α:Type}{l:List α}{n:Nat}(h:l.length=n):l.take n=l:=af (by omega)
@[simp] theorem avL(a b:List Pos):D.sl 5 (a.map Pos.cells++b.map Pos.cells)=gJ (a++b):=by unfold gJ;rw[List.map_append]
def Ey{α:Type}(g:α->D)(Q:α->Prop)(d:D)(H:U):Prop:=Ex g Q d H
theorem Ey.i{α:Type}{g:α->D}{Q:α->Prop}{d:D}{H:U}(x:α)(h1:d=g x)(b:H = [])(a:Q x):Ey g Q d H:=⟨x,h1,b,a⟩
def Om(ρ:Nat->Option Nat)(H:U)(k off:Nat):Option (TypeId×List D)->D
 | some (_,cs)=>.fV ((cs.drop off).map (fL ρ H k))
 | none=>.any
@[simp] theorem avg(H:U)(k:Nat)(ρ:Nat->Option Nat)(v g off:Nat):GJ H k ρ v g off none=Om ρ H k off (rowAt H v g):=by unfold GJ Om;rfl
@[simp] theorem aqN(ρ:Nat->Option Nat)(H:U)(k off:Nat)(t:TypeId)(cs:List D):Om ρ H k off (some (t,cs)) = .fV ((cs.drop off).map (fL ρ H k)):=rfl
structure GH(H:U)(v:Nat):Prop where
 lt:v<H.length
 ok:jO H.length H
section
variable{H G:U}{v:Nat}{o o':Ob}
@[simp] theorem GH.get(h:GH H v):(H.set v o)[v]? = some o:=aY h.lt
@[simp] theorem GH.kT(h:GH H v):(H.set v o++G)[v]? = some o:=by rw[ah (by rw[aF];exact h.lt)];exact h.get
@[simp] theorem GH.acO(_:GH H v):(H.set v o++G)[H.length]? = G[0]? := by grind
@[simp] theorem GH.akQ(_:GH H v):(H.set v o++G).set H.length o'=H.set v o++G.set 0 o':=by grind
@[simp high] theorem GH.cut(h:GH H v){live:List Nat}{env:Env}{r:Bool}(c:A6 live=false)(a:n9 H.length o=true)(b:((forget live env).all λp=>kA H.length p.2)=true) :
  Go.AL.cut H.length live { env:=env,H:=H.set v o++G,marks:=[],ik:=r } = { env:=forget live env,H:=H.set v o,marks:=[],ik:=r }:=aaI c (aF ..) (A' h.ok a) b rfl
@[simp] theorem GH.lt_eq(h:GH H v):(v<H.length)=True:=eq_true h.lt
end
@[simp] theorem atY(n:Nat):jO n []=True:=eq_true λ_ h=>by cases h
@[simp] theorem atX(n:Nat)(o:Ob)(r:U):jO n (o::r)=(n9 n o=true/\jO n r):=propext ⟨λh=>⟨h o (by simp),λx a=>h x (by simp[a])⟩,λh x a=>by
 rcases aw.1 a with rfl|a
 .exact h.1
 .exact h.2 x a⟩
@[simp] theorem at4(n t g:Nat)(cs:List D):n9 n (.row t g cs)=cs.all (kA n):=rfl
@[simp] theorem atZ(n:Nat):n9 n .dead=true:=rfl
@[simp] theorem at2(n:Nat)(kk:KK)(es:List (Value×D)):n9 n (.map kk es)=es.all λx=>kA n x.2:=rfl
@[simp] theorem an5{n:Nat}{α:Type}{f:α->List D}{sz:Nat}[F:Fl f sz](l:List α):(cl f l).all (kA n)=true:=
 List.all_eq_true.2 λd a=>MR (lS (ue l) d a)
section
variable{H G:U}{v k:Nat}{o:Ob}
@[simp] theorem Zo:(H++G)[H.length+k]? = G[k]? := by rw[ai (by omega)];congr 1;omega
@[simp] theorem aoa:(H++G)[H.length]? = G[0]? := by rw[ai (by omega)];congr 1;omega
theorem WJ(h:H[v]? = some o):v<H.length:=by grind
end
end Go.AL
namespace Go.Proofs.YtmehofoficaelaaGreatDoor
open Go Go.AL Classical
set_option maxRecDepth 10000
set_option maxHeartbeats 1000000
theorem aeU{n:Int}{k:Nat}(h0:0<=n)(h1:n<=2*k)(a:k<=2):gi n<0↔n=0:=by unfold gi;split<;>omega
theorem aeV{n s:Int}(h:0<=gi n)(hs:0<=s/\s<=1):jD n=1-s↔¬jD n=s:=by
 unfold gi at h;unfold jD;split at h
 .rename_i e;rw[if_pos e];omega
 .omega
theorem Ql{n s:Int}(h:¬ 0<=gi n)(hs:0<=s/\s<=1):¬jD n=1-s/\¬jD n=s:=by
 unfold gi at h;unfold jD;split at h
 .omega
 .rename_i e;rw[if_neg e];omega
theorem f228(g:fH)(hg:gF g)(s:fQ)(hs:jQ g s)(x:fE)(i:D3 g x):Wf T 284 [dG g,.agg s.cells,.agg [.i x.1,.i x.2]] [] (Is (jX (iD g s x))):=by
 have o:=hs.p.size;have f:=hs.cur;have m:=hs.p.small hg;have p:=hg.jm.to s.p.side x.2 s.cur;have d:=hs.p.cs _ (fZ f.1 (by omega));have a:=hs.p.side;have j:=aeU d.1 d.2 hg.kinds.2;have e:=hs.p.gj;have c:=hg.gj;have l:=i.ok;refine Yg Jc ?_;simp[Jc];refine fD ?_;refine Yc (f51 _) ?_;simp;(with_reducible repeat' first|refine Xk ?_<;>try simp|refine Xs ?_ ?_<;>intro h<;>(try intro q)<;>(try simp[h])<;>try omega|refine Xg ?_|omega)
 .refine Yc (f251 g hg.jm s.p.side x.2 s.cur) ?_;simp;refine Yc (f252 { s with cur:=lM g s.p.side x.2 s.cur } _) ?_;simp;simp[iD,h]
 .refine Yc (f253 g hg s hs x.2) ?_;simp;simp[iD,h]
 .refine Yc (f252 s _) ?_;simp;simp[iD,h,j]
 .refine Yc (f252 s _) ?_;simp;have h1:=aeV (by assumption) a;simp[iD, *]
 .refine Yc (f252 s _) ?_;simp;have h1:=Ql (by assumption) a;simp[iD, *]
 .refine Yc (f252 s _) ?_;simp;simp[iD, *]
 .refine Yc (f252 s _) ?_;simp;have h1:=Ql (by assumption) a;simp[iD, *]
 .refine Yc (f254 g hg s hs) ?_;simp;simp[iD, *]
 .refine Yc (f255 g hg s hs x.2) ?_;simp;simp[iD, *]
 .simp[iD, *]
 .refine Yt (f252 s _) ?_;simp;have k:=Dc c.1 (by omega);have b:=X1 (r:=s.p.gj) (n:=x.2) e.1 (by omega) (by omega) (by omega);simp[iD,b, *]
 .have k:=Dc c.1 (by omega);have b:=X3 (r:=s.p.gj) (n:=x.2) e.1 (by omega) (by omega) (by omega);simp[iD,b, *]
def lO(a:List fQ):List fQ->List fQ
 | []=>a
 | x::r=>lO (if x∈a then a else a ++ [x]) r
theorem D5:∀ {b a:List fQ} {x:fQ},x∈lO a b↔x∈a\/x∈b
 | [],a,x=>by simp[lO]
 | y::r,a,x=>by
  unfold lO;rw[D5];split<;>simp
  .constructor
   .rintro(h|h)<;>simp[h]
   .rintro(h|rfl|h)<;>simp[*]
  .constructor
   .rintro((h|h)|h)<;>simp[h]
   .rintro(h|rfl|h)<;>simp[*]
theorem D4:∀ {b a:List fQ},(lO a b).length<=a.length+b.length
 | [],a=>by simp[lO]
 | y::r,a=>by unfold lO;refine Nat.le_trans D4 ?_;split<;>simp<;>omega
theorem akO{H:U}{v:Nat}{o:Ob}(h:H[v]? = some o):H=H.set v o:=by
 refine bN λi=>?_;rw[bM];split
 .rename_i e;subst e;rw[if_pos (WJ h),h]
 .rfl
theorem GH.of{H:U}{v:Nat}{o:Ob}(a:H[v]? = some o)(b:jO H.length H):GH H v:=⟨WJ a,b⟩
theorem f227(v gen:Nat)(a b:List fQ)(H:U)(n:H[v]? = some (.row 373 gen (cl fQ.cells a)))(t:jO H.length H)(r:∀s∈a,Small s.p)(o:∀s∈b,Small s.p)(hl:a.length+b.length<2 ^ 39):Wf T 283 [.fy v gen 8 0 a.length,jX b] H (λd H'=>∃q,d = .fy v q 8 0 (lO a b).length/\H'=H.set v (.row 373 q (cl fQ.cells (lO a b)))):=by
 have hg:=GH.of n t;have z:=hg.lt;refine Yg Jb ?_;simp[Jb];refine fO.j ((0,gen,a):Int×Nat×List fQ) (λx=>[(0,.fy v x.2.1 8 0 x.2.2.length),(1,jX b),(5,.i x.1)]) (λx=>H.set v (.row 373 x.2.1 (cl fQ.cells x.2.2))) (λx=>0<=x.1/\x.1<=b.length/\x.2.2.length<=a.length+x.1.toNat/\(∀s∈x.2.2,Small s.p)/\lO x.2.2 (b.drop x.1.toNat)=lO a b) (λx=>b.length-x.1.toNat) ?_ (by simp) (akO n) rfl ?_
 .simp;exact r
 rintro⟨i,p,l⟩ ⟨h0,h1,u,f,c⟩;dsimp only at h0 h1 u f c ⊢;simp;refine jF ?_ ?_<;>intro h
 .refine fO.j ((0,false):Int×Bool) (λx=>[(0,.fy v p 8 0 l.length),(1,jX b),(5,.i i),(6,.b x.2),(7,.i x.1)]) (λx=>H.set v (.row 373 p (cl fQ.cells l))) (λx=>0<=x.1/\x.1<=l.length/\x.2=decide (gt b i∈l.take x.1.toNat)) (λx=>l.length-x.1.toNat) ?_ (by simp) rfl rfl ?_
  .simp
  rintro⟨k,m⟩ ⟨g,w,j⟩;dsimp only at g w j ⊢;simp[hg];(with_reducible repeat' first|refine Xk ?_<;>try simp[hg]|refine Xs ?_ ?_<;>intro h<;>(try intro A)<;>(try simp[h,hg])<;>try omega|refine Xg ?_|omega)
  .rw[iO g (by assumption)];simp_all
  .refine Yt (f250 _ _ (f _ (fZ g (by assumption))) (o _ (fZ h0 (by assumption)))) ?_;simp;simp only[h,cond_false];refine qy ⟨k+1,?_⟩;rw[iO g (by assumption)]
   by_cases e:gt l k=gt b i
   .right;simp[e];omega
   .left;simp_all;exact gx (λy=>e y.symm)
  .refine⟨i+1,l,rfl,rfl,rfl,by omega,by omega,by omega,by omega,f,?_⟩;rw[<-c,nb h0 (by assumption),lO,show(i+1).toNat=i.toNat+1 by omega];rw[if_pos];rw[j,kG (by omega)]at h;simpa using h
  .refine⟨i+1,l ++ [gt b i],by simp,rfl,by simp,by omega,by omega,by omega,by simp;omega,?_,?_⟩
   .intro s hs;simp at hs;rcases hs with hs|rfl
    .exact f s hs
    .exact o _ (fZ h0 (by assumption))
   .rw[<-c,nb h0 (by assumption),lO,show(i+1).toNat=i.toNat+1 by omega];rw[if_neg];rw[j,kG (by omega)]at h;simpa using h
 .rw[bp (by omega)]at c;have e:lO l []=l:=rfl;rw[e]at c;rw[<-c];exact⟨rfl,rfl⟩
end Go.Proofs.YtmehofoficaelaaGreatDoor
namespace Go.AL
open Go Classical
theorem iQ{α:Type}{f:α->List D}(a:α):cl f [a]=f a:=by rw[mi,aad,ax]
theorem fO.e{T:ia}{live:List Nat}{a:IR}{s:St}{K:iE}{α:Type}(b:α)(E:α->Env)(c:α->U)(P:α->Prop)(d:α->Nat)(h0:P b)
  (h:∀x,P x->XC T a { env:=E x,H:=c x } (xq s.H.length live ((E b).map (·.1)) (LJ E c [] false (λe=>d e<d x/\P e) .mk) K))
  (l:forget ((E b).map (·.1)) s.env=E b:=by simp) (j:s.H=c b:=by first|rfl|(simp[iQ];done)|(simp[*];done)) (i:s.marks = []:=by exact rfl) (g:s.ik=false:=by exact rfl) (f:(((E b).map (·.1)).all λk=>live.contains k)=true:=by exact rfl):fO T live a s K .mk:=fO.k b E c P d h0 l j i g f h
theorem kr.pw{l:List Pos}(h:kr l):l.Pairwise λx y=>ib x y<0:=by refine bA.2 λi j hi a b=>?_;have:=h.le (i:=(i:Int)) (j:=(j:Int)) (by omega) (by omega) (by omega);rwa [Lf hi,Lf a]at this
theorem kr.of{r:List Pos}(h:r.Pairwise λx y=>ib x y<0):kr r:=by intro i h1 a;rw[jc (by omega) (by omega),jc (by omega) (by omega)];exact bA.1 h _ _ _ _ (by omega)
theorem XD:∀ {a b:List Pos},(a.Pairwise λx y=>ib x y<0)->(b.Pairwise λx y=>ib x y<0)->(∀q,q∈a↔q∈b)->a=b
 | [],[],_,_,_=>rfl
 | [],y::b,_,_,h=>by have:=(h y).2 (by simp);cases this
 | x::a,[],_,_,h=>by have:=(h x).1 (by simp);cases this
 | x::a,y::b,ha,hb,h=>by
  have g:=bf.1 ha;have d:=bf.1 hb
  have e:x=y:=by
   rcases aw.1 ((h x).1 (by simp))with e|e
   .exact e
   rcases aw.1 ((h y).2 (by simp))with f|f
   .exact f.symm
   have h1:=d.1 x e;have i:=g.1 y f;rw[ui]at h1;omega
  subst e;rw[XD g.2 d.2 λq=>?_];constructor
  .intro c;rcases aw.1 ((h q).1 (by simp[c]))with e|e
   .subst e;have:=g.1 q c;rw[uh]at this;omega
   .exact e
  .intro c;rcases aw.1 ((h q).2 (by simp[c]))with e|e
   .subst e;have:=d.1 q c;rw[uh]at this;omega
   .exact e
theorem GR{a b:List Pos}(d:kr a)(c:kr b)(h:∀q,q∈a↔q∈b):a=b:=XD d.pw c.pw h
theorem aaq{x y:Pos}(h:x≠y)(a:¬ib x y<0):ib y x<0:=by have:ib x y≠0:=λe=>h (qh.1 e);rw[ui];omega
theorem V2(x:Pos):∀r:List Pos,(r.Pairwise λx y=>ib x y<0)->∃b:List Pos,(b.Pairwise λx y=>ib x y<0)/\∀q,q∈b↔q=x\/q∈r
 | [],_=>⟨[x],by simp,by simp⟩
 | y::r,h=>by
  have c:=bf.1 h
  by_cases e:x=y
  .subst e;exact⟨x::r,h,by simp⟩
  by_cases hl:ib x y<0
  .refine⟨x::y::r,bf.2 ⟨λz a=>?_,h⟩,by simp⟩;rcases aw.1 a with rfl|a
   .exact hl
   .exact yi hl (c.1 z a)
  .obtain⟨b,h1,d⟩:=V2 x r c.2;refine⟨y::b,bf.2 ⟨λz a=>?_,h1⟩,λq=>?_⟩
   .rcases(d z).1 a with rfl|a
    .exact aaq e hl
    .exact c.1 z a
   .simp only[aw,d];constructor
    .rintro(h|h|h)<;>simp[h]
    .rintro(h|h|h)<;>simp[h]
theorem MV:∀l:List Pos,∃r,kr r/\∀q,q∈r↔q∈l
 | []=>⟨[],λi h1 a=>by simp at a;omega,by simp⟩
 | x::l=>by obtain⟨r,h1,a⟩:=MV l;obtain⟨b,d,c⟩:=V2 x r h1.pw;exact⟨b,kr.of d,λq=>by rw[c,a,aw]⟩
noncomputable def ka(l:List Pos):List Pos:=Classical.choose (MV l)
theorem Br(l:List Pos):kr (ka l):=(cA (MV l)).1
@[simp] theorem u9{l:List Pos}{q:Pos}:q∈ka l↔q∈l:=(cA (MV l)).2 q
theorem Yw{l r:List Pos}(h:kr r)(a:∀q,q∈r↔q∈l):r=ka l:=GR h (Br l) λq=>by rw[a,u9]
theorem Gc{α:Type}[DecidableEq α]:∀ {l m:List α},l.Nodup->(∀x∈l,x∈m)->l.length<=m.length
 | [],m,_,_=>by simp
 | a::l,m,b,h=>by
  have b:=cY.1 b
  have h1:l.length<=(m.erase a).length:=Gc b.2 λx c=>by refine(List.mem_erase_of_ne ?_).2 (h x (by simp[c]));rintro rfl;exact b.1 c
  rw[eX (h a (by simp))]at h1;have:0<m.length:=fe (h a (by simp));simp;omega
theorem kr.nodup{l:List Pos}(h:kr l):l.Nodup:=h.pw.imp λ{a b} c e=>by subst e;rw[uh]at c;omega
theorem MU(l:List Pos):(ka l).length<=l.length:=Gc (kr.nodup (Br l)) λx a=>u9.1 a
def ended(g:fH)(p:Pos):Prop:=∃c∈g.clauses,kz p c
theorem Gd{g:fH}{p:Pos}(h:¬ended g p):∀c∈g.clauses,¬kz p c:=λc a hl=>h ⟨c,a,hl⟩
def KG(g:fH)(p:Pos):List Pos:=(upto g.kinds.length).flatMap λk=>(upto p.cs.length).map λc=>jL p k c
theorem z7{α c:Type}{f:α->List c}{n:Nat}:∀ {l:List α},(∀a∈l,(f a).length<=n)->(l.flatMap f).length<=l.length*n
 | [],_=>by simp
 | a::l,h=>by rw[List.flatMap_cons,au,aG,b7];have:=h a (by simp);have:=z7 (l:=l) λb d=>h b (by simp[d]);omega
theorem Yh{g:fH}:∀ {l:List fE} {a:List fQ},(sq g l a).length<=10 ^ l.length*a.length
 | [],a=>by simp[sq]
 | x::r,a=>by rw[sq];refine Nat.le_trans Yh ?_;rw[aG,dZ,ft];refine ei _ ?_;rw[dz];exact z7 λs _=>Du
theorem ajS{g:fH}(hg:gF g){p:Pos}(a:gT g p):(pD g p).length<=3600000000:=by
 have i:=a.size;have j:=hg.jm.size
 have:(pD g p).length<=(upto p.cs.length).length*400000000:=by
  refine z7 λc d=>?_;rw[jj]at d;unfold pa;split
  .rename_i e;have f:=GY hg a d.1 (by omega) e;have b:=hg.iS _ (fZ (l:=g.kinds) f.kind.1 f.kind.2)
   have m:((gt g.kinds (gi (gt p.cs c))).iS.flatMap (tM g p c)).length<=(gt g.kinds (gi (gt p.cs c))).iS.length*100000000:=by refine z7 λl hl=>?_;have h:=(b.2 l hl).len;refine Nat.le_trans (eY _ _) (Nat.le_trans Yh ?_);have:10 ^ l.length<=10 ^ 8:=cE (by decide) h.2;simpa using this
   have k:(gt g.kinds (gi (gt p.cs c))).iS.length<=4:=b.1;omega
  .simp
 have e:(upto p.cs.length).length=p.cs.length:=by simp[upto]
 rw[e]at this;omega
theorem aaW{g:fH}(hg:gF g){p:Pos}(a:gT g p):(KG g p).length<=18:=by
 have b:=a.size;have d:=hg.jm.size;have c:=hg.kinds
 have:(KG g p).length<=(upto g.kinds.length).length*9:=z7 λk _=>by simp[upto];omega
 have e:(upto g.kinds.length).length=g.kinds.length:=by simp[upto]
 rw[e]at this;omega
theorem ae6{g:fH}{p q:Pos}(h:qd g p q):q∈(pD g p).map (·.p)++KG g p:=by
 obtain⟨_,h⟩:=h;split at h
 .exact List.mem_append.2 (.inl (aq.2 ⟨_,h,rfl⟩))
 .rcases h with⟨o,h,rfl⟩|⟨k,c,h1,d,b,a,_,_,rfl⟩
  .exact List.mem_append.2 (.inl (aq.2 ⟨_,h,rfl⟩))
  .exact List.mem_append.2 (.inr (bC.2 ⟨k,jj.2 ⟨h1,d⟩,aq.2 ⟨c,jj.2 ⟨b,a⟩,rfl⟩⟩))
noncomputable def iz(g:fH)(p:Pos):List Pos:=ka (((pD g p).map (·.p)++KG g p).filter λq=>decide (qd g p q))
theorem ae7(g:fH)(p:Pos):kr (iz g p):=Br _
@[simp] theorem A3{g:fH}{p q:Pos}:q∈iz g p↔qd g p q:=by unfold iz;rw[u9,aO];simp only[decide_eq_true_eq];exact⟨λh=>h.2,λh=>⟨ae6 h,h⟩⟩
theorem QC{g:fH}{p:Pos}{r:List Pos}(h:kr r)(a:∀q,q∈r↔qd g p q):r=iz g p:=GR h (ae7 g p) λq=>by rw[a,A3]
theorem Me{g:fH}{p:Pos}(h:ended g p):iz g p = []:=by refine aS.2 λq a=>?_;obtain⟨c,b,hl⟩:=h;exact(A3.1 a).1 c b hl
@[irreducible] noncomputable def s8(g:fH)(p:Pos):D:=if ended g p then .fJ else gJ (iz g p)
theorem Md(g:fH)(p:Pos):(s8 g p = .fJ/\iz g p = [])\/s8 g p=gJ (iz g p):=by
 unfold s8;split
 .rename_i h;exact .inl ⟨rfl,Me h⟩
 .exact .inr rfl
theorem y8{g:fH}(hg:gF g){p:Pos}(a:gT g p):(iz g p).length<=4000000000:=by refine Nat.le_trans (MU _) (Nat.le_trans (List.length_filter_le _ _) ?_);have:=ajS hg a;have:=aaW hg a;simp;omega
section
variable{g:fH}{p:Pos}{n:Int}{k:IntKind}{P:D->Prop}{H:U}
@[simp] theorem aan:closed (s8 g p)=true:=by rcases Md g p with⟨h,_⟩|h<;>rw[h]<;>simp
@[simp] theorem asA:mM .slice (s8 g p) H=some (.i (iz g p).length):=by rcases Md g p with⟨h,e⟩|h<;>rw[h]<;>simp[*]
@[simp] theorem av9:ko 5 H (s8 g p)=some (cl Pos.cells (iz g p),(iz g p).length):=by rcases Md g p with⟨h,e⟩|h<;>rw[h]<;>simp[*]
@[simp] theorem awx(n:Nat):iT n (s8 g p) = []:=M7 n aan
@[simp] theorem att:oA (ma 5 (s8 g p) (.val (.int k n))) P .mk=((0<=n/\n<(iz g p).length)/\P (.fV (gt (iz g p) n).cells)):=by
 rcases Md g p with⟨h,e⟩|h
 .rw[h,e];simp only[ma,W7,cM];refine propext ⟨λh=>h.elim,λ⟨h,_⟩=>?_⟩;have:=h.1;have:=h.2;simp at this;omega
 .rw[h];exact xy
end
noncomputable def tw(g:fH)(p:Pos):Int:=if ended g p then(g.clauses.findIdx λc=>decide (kz p c):Nat)else -1
theorem NV{g:fH}{p:Pos}(h:ended g p):0<=tw g p/\tw g p<g.clauses.length/\gt g.clauses (tw g p)∈g.clauses:=by
 unfold tw;rw[if_pos h]
 have:(g.clauses.findIdx λc=>decide (kz p c))<g.clauses.length:=by rw[List.findIdx_lt_length];obtain⟨c,a,hl⟩:=h;exact⟨c,a,by simpa using hl⟩
 exact qy (fZ (by omega) (by omega))
theorem TF{g:fH}{p:Pos}(h:¬ended g p):tw g p = -1:=by unfold tw;rw[if_neg h]
theorem KL{g:fH}{p:Pos}:0<=tw g p↔ended g p:=by
 by_cases h:ended g p
 .exact⟨λ_=>h,λ_=>(NV h).1⟩
 .rw[TF h];simp[h]
noncomputable def stat(g:fH)(p:Pos):Int×Bool:=(if ended g p then(gt g.clauses (tw g p)).out else if iz g p = []then g.blocked else 0,decide (iz g p = []))
theorem alq{g:fH}(hg:gF g){p:Pos}(h:(stat g p).2=true):1<=(stat g p).1/\(stat g p).1<=3:=by
 unfold stat at *;simp only[decide_eq_true_eq]at h ⊢;split
 .rename_i a;exact(hg.clause _ (NV a).2.2).out
 .exact hg.blocked
end Go.AL
namespace Go.Proofs.YtmehofoficaelaaGreatDoor
open Go Go.AL Classical
set_option maxRecDepth 10000
set_option maxHeartbeats 1000000
theorem Ua(p:Pos)(a:Small p):Wf T 205 [dP p] [] (λd H=>d = .agg [.fy 0 1 1 0 p.cs.length,dI p.h0,dI p.h1,.i p.gj,.i p.side]/\H = [.row 3 1 (cl f1 p.cs)]):=by obtain⟨h1,c,b⟩:=a;refine Wf.xo 3 (fn:=xU) rfl (by simp[xU]) ?_;simp[xU];exact mE
@[irreducible] def fA(a:List fQ):List D:=[jX a]
theorem zX(a:List fQ):fA a = [jX a]:=by unfold fA;rfl
instance:Fl fA 1:=⟨λ_=>by simp[zX],λ_=>by simp[zX,gh]⟩
@[simp] theorem apv(l:List (List fQ))(x:List fQ):cl fA l ++ [jX x]=cl fA (l ++ [x]):=by rw[<-ph,zX]
theorem Z4(x:List fQ) : [jX x]=cl fA [x]:=by rw[mi,zX];simp
def nY(g:fH)(x:fE)(now:List fQ):List fQ:=now.foldl (λa s=>lO a (iD g s x)) []
def oO(g:fH):List fE->List fQ->List (List fQ)
 | [],_=>[]
 | x::r,now=>nY g x now::oO g r (nY g x now)
theorem Ut{g:fH}{x:fE}{t:fQ}:∀ {now a:List fQ},t∈now.foldl (λa s=>lO a (iD g s x)) a↔t∈a\/t∈now.flatMap λs=>iD g s x
 | [],a=>by simp
 | s::r,a=>by rw[bW,Ut,D5,List.flatMap_cons,List.mem_append,or_assoc]
theorem Mh{g:fH}{x:fE}{now:List fQ}{t:fQ}:t∈nY g x now↔t∈now.flatMap λs=>iD g s x:=by unfold nY;rw[Ut];simp
theorem Us{g:fH}{x:fE}:∀ {now c:List fQ},(now.foldl (λc s=>lO c (iD g s x)) c).length<=c.length+10*now.length
 | [],c=>by simp
 | s::r,c=>by rw[bW];refine Nat.le_trans Us ?_;have:=D4 (a:=c) (b:=iD g s x);have:=Du (g:=g) (s:=s) (x:=x);rw[aG];omega
theorem Ga{g:fH}{x:fE}{now:List fQ}:(nY g x now).length<=10*now.length:=by unfold nY;refine Nat.le_trans Us ?_;simp
theorem YB{g:fH}:∀ {l:List fE} {now:List fQ},(oO g l now).length=l.length
 | [],_=>rfl
 | x::r,now=>by rw[oO,aG,YB,aG]
theorem f194(g:fH)(hg:gF g)(p:Pos)(m:gT g p)(c i:Int)(o:0<=c/\c<g.size)(r:jD (gt p.cs c)=p.side)(hi:0<=i/\i<(gt g.kinds (gi (gt p.cs c))).iS.length) :
  Wf T 254 [dG g,dP p,.i c,.i i] [] (Is (.agg [.sl 1 (([kN p c]::oO g (gt (gt g.kinds (gi (gt p.cs c))).iS i) [kN p c]).map fA),.i 0])):=by
 have H:=m.size;have w:=m.small hg;have y:=m.cs _ (fZ o.1 (by omega));have z:=m.side;obtain⟨m1,m2,m3,m4⟩:=F4 z.1 r;have A:gi (gt p.cs c)<g.kinds.length:=xt y.2 hg.kinds.1;refine Yz DO (iB 117 [10] DO.body) ?_;simp[DO,iB,jN,mw,mz,mH,lq];refine Yc (f65 g p hg m) ?_;simp;(with_reducible repeat' first|refine Xk ?_<;>try simp|refine Xs ?_ ?_<;>intro h<;>(try intro C)<;>(try simp[h])<;>try omega|refine Xg ?_|omega);refine Yc (f51 _) ?_;simp;(with_reducible repeat' first|refine Xk ?_<;>try simp|refine Xs ?_ ?_<;>intro h<;>(try intro C)<;>(try simp[h])<;>try omega|refine Xg ?_|omega)
 rotate_right
 refine vt.n rfl rfl (Ua p w) (by simp) (by simp) ?_;simp;refine fD ?_;refine fO.fz [0,1,3,4,5,6,8] rfl ?_;have q0:=iq (l:=p.cs) (n:=c) (v:=0) o.1 (by omega);have E:jQ g (kN p c):=GY hg m o.1 o.2 r;have F:=hg.iS _ (fZ (l:=g.kinds) m1 A);generalize u:gt (gt g.kinds (gi (gt p.cs c))).iS i=prog at *;have q:wB g prog:=F.2 _ (u▸fZ hi.1 hi.2);have I:=q.len
 refine fO.k ((0,[[kN p c]],[kN p c]):Int×List (List fQ)×List fQ) (λx=>[(4,.fV g.cells),(8,.ptr 2 0 0),(11,.ptr 9 0 0),(12,jX x.2.2),(13,gY prog),(14,.i x.1)]) (λx=>[.dead,.dead,.row 369 0 [.fJ,.i 0],.dead,.dead,.dead,.dead,.row 371 x.1.toNat (cl fA x.2.1),.dead,.row 369 0 [.fy 7 x.1.toNat 1 0 x.2.1.length,.i 0]])
  (λx=>0<=x.1/\x.1<=prog.length/\x.2.1.length=x.1.toNat+1/\(∀s∈x.2.2,jQ g s)/\x.2.2.length<=10 ^ x.1.toNat/\[kN p c]::oO g prog [kN p c]=x.2.1++oO g (prog.drop x.1.toNat) x.2.2) (λx=>prog.length-x.1.toNat) ?_ ?_ ?_ rfl rfl (by simp) ?_
 .simp;exact E
 .simp[kN,q0]
 .simp[kN,<-Z4,q0]
 rintro⟨k,steps,now⟩ ⟨k0,k1,k2,k3,k4,k5⟩;dsimp only at k0 k1 k2 k3 k4 k5 ⊢;simp;refine jF ?_ ?_<;>intro h
 .refine fO.e ((0,0,[]):Int×Nat×List fQ) (λx=>[(4,.fV g.cells),(8,.ptr 2 0 0),(11,.ptr 9 0 0),(12,jX now),(13,gY prog),(14,.i k),(15,.fy 10 x.2.1 8 0 x.2.2.length),(16,.i x.1)]) (λx=>[.dead,.dead,.row 369 0 [.fJ,.i 0],.dead,.dead,.dead,.dead,.row 371 k.toNat (cl fA steps),.dead,.row 369 0 [.fy 7 k.toNat 1 0 steps.length,.i 0],.row 373 x.2.1 (cl fQ.cells x.2.2)]) (λx=>0<=x.1/\x.1<=now.length/\(∀s∈x.2.2,jQ g s)/\x.2.2.length<=10*x.1.toNat/\nY g (gt prog k) now=(now.drop x.1.toNat).foldl (λf s=>lO f (iD g s (gt prog k))) x.2.2) (λx=>now.length-x.1.toNat) ?_ ?_
  .simp[nY]
  rintro⟨j,D,f⟩ ⟨j0,j1,j2,j3,j4⟩;dsimp only at j0 j1 j2 j3 j4 ⊢;simp;refine jF ?_ ?_<;>intro h
  .refine Yt (f228 g hg _ (k3 _ (fZ j0 ‹_›)) _ (q.steps _ (fZ k0 ‹_›))) ?_;simp;have fG:=k3 _ (fZ j0 ‹_›);refine fY.lW rfl rfl (f227 10 D f (iD g (gt now j) (gt prog k)) _ rfl (by simp) (λs hs=>(j2 s hs).p.small hg) (λs hs=>(Bu hg fG (q.steps _ (fZ k0 ‹_›)) hs).p.small hg) ?_) ?_
   .have h1:=Du (g:=g) (s:=gt now j) (x:=gt prog k);have B:10 ^ k.toNat<=10 ^ 8:=cE (by decide) (by omega);omega
   rintro d H' ⟨G,rfl,rfl⟩;simp;have B:10 ^ k.toNat<=10 ^ 8:=cE (by decide) (by omega);refine fD ?_;refine LJ.e (j+1,G,lO f (iD g (gt now j) (gt prog k))) ?_;refine⟨by dsimp only;omega,by dsimp only;omega,by dsimp only;omega,λs hs=>?_,?_,?_⟩
   .rcases D5.1 hs with hs|hs
    .exact j2 s hs
    .exact Bu hg fG (q.steps _ (fZ k0 ‹_›)) hs
   .have h1:=Du (g:=g) (s:=gt now j) (x:=gt prog k);have t:=D4 (a:=f) (b:=iD g (gt now j) (gt prog k));dsimp only;omega
   .rw[j4,nb j0 ‹_›,bW,show(j+1).toNat=j.toNat+1 by omega]
  .have e:nY g (gt prog k) now=f:=by rw[j4,bp (by omega)];rfl
   refine fD ?_;refine LJ.i (k+1,steps ++ [f],f) (by first|rfl|simp[show(k+1).toNat=k.toNat+1 by omega]) (by first|rfl|simp[show(k+1).toNat=k.toNat+1 by omega]) rfl rfl ?_;refine⟨by dsimp only;omega,by dsimp only;omega,by dsimp only;omega,by simp;omega,j2,?_,?_⟩
   .have t:=Ga (g:=g) (x:=gt prog k) (now:=now);rw[e]at t;dsimp only;rw[show(k+1).toNat=k.toNat+1 by omega,dZ];omega
   .rw[k5,nb k0 ‹_›,oO,e,show(k+1).toNat=k.toNat+1 by omega];simp
 .rw[bp (by omega),oO,ax]at k5;rw[<-k5];simp
theorem aeF{a b:gy}(h1:¬FZ a b)(c:¬FZ b a):a=b:=by
 unfold FZ at *;have e:=ui a.p b.p
 have h:ib a.p b.p=0:=by
  by_cases h:ib a.p b.p=0
  .exact h
  .exfalso
   by_cases d:ib a.p b.p<0
   .exact h1 (.inl d)
   .exact c (.inl (by omega))
 have f:ib b.p a.p=0:=by omega
 simp[h,f]at h1 c;have:=qh.1 h;cases a;cases b;simp_all;rename_i x y _;cases x<;>cases y<;>simp_all
structure J3(l:List gy)(x:gy)(i:Int)(d:Bool)(out:List gy):Prop where
 i0:0<=i/\i<=l.length
 dn:d=true->x∈out
 sub:∀o∈out,o∈l.take i.toNat\/o=x
 sup:∀o∈l.take i.toNat,o∈out
 len:out.length<=i.toNat+(if d then 1 else 0)
theorem J3.step{l:List gy}{x:gy}{i:Int}{d d':Bool}{out:List gy}(h:J3 l x i d out)(hi:i<l.length)(xs:List gy)(b:∀o∈xs,o=x)(c:d'=true->d=true\/x∈xs\/gt l i=x)(hl:xs.length+(if d then 1 else 0)<=(if d' then 1 else 0)):J3 l x (i+1) d' (out++xs ++ [gt l i]):=by
 have h0:=h.i0;refine⟨by omega,λe=>?_,λo a=>?_,λo a=>?_,?_⟩
 .rcases c e with e|e|e
  .have:=h.dn e;simp[this]
  .simp[e]
  .simp[e]
 .rw[iO h0.1 hi];simp at a ⊢;rcases a with a|a|a
  .rcases h.sub o a with h|h
   .exact .inl (.inl h)
   .exact .inr h
  .exact .inr (b o a)
  .exact .inl (.inr a)
 .rw[iO h0.1 hi]at a;simp at a ⊢;rcases a with a|a
  .exact .inl (h.sup o a)
  .exact .inr (.inr a)
 .have:=h.len;simp;omega
theorem f195(l:List gy)(x:gy)(hl:l.length<2 ^ 39)(hs:∀o∈l,Small o.p)(k:Small x.p):Wf T 255 [na l,.agg x.cells] [] (Ex na λr=>(∀o,o∈r↔o∈l\/o=x)/\r.length<=l.length+1):=by
 refine Yg I0 ?_;simp[I0];refine fO.e ((0,false,[]):Int×Bool×List gy) (λy=>[(0,na l),(3,.ptr 0 0 0),(5,.fy 1 y.2.2.length 6 0 y.2.2.length),(6,.b y.2.1),(7,.i y.1)]) (λy=>[.row 259 0 x.cells,.row 259 y.2.2.length (cl gy.cells y.2.2)]) (λy=>J3 l x y.1 y.2.1 y.2.2) (λy=>l.length-y.1.toNat) ?_ ?_
 .exact⟨by simp,by simp,by simp,by simp,by simp⟩
 rintro⟨i,done,out⟩ c;have h0:=c.i0;have j:=c.len;have m:(if done=true then 1 else 0)<=1:=by split<;>omega
 dsimp only at c h0 j ⊢;simp;(with_reducible repeat' first|refine Xk ?_<;>try simp|refine Xs ?_ ?_<;>intro h<;>(try intro n)<;>(try simp[h])<;>try omega|refine Xg ?_|omega)
 .refine LJ.e (i+1,true,out ++ [gt l i]) ?_;subst h;have:=c.step ‹_› [] (d':=true) (by simp) (by simp) (by simp);simp at this;exact⟨by simp;omega,this⟩
 .have d:=h;refine Yt (f229 _ _ (hs _ (fZ h0.1 ‹_›)) k) ?_;simp[h];refine J7 d ?_ ?_<;>intro h
  .subst d;have:=c.step ‹_› [] (d':=false) (by simp) (by simp) (by simp);simp at this;refine LJ.e (i+1,false,out ++ [gt l i]) ?_;exact⟨by simp;omega,this⟩
  .refine Yt (f229 _ _ k (hs _ (fZ h0.1 ‹_›))) ?_;simp[d];refine J7 d ?_ ?_<;>intro h
   .subst d;have:=c.step ‹_› [x] (d':=true) (by simp) (by simp) (by simp);refine LJ.e (i+1,true,out ++ [x] ++ [gt l i]) ?_;exact⟨by simp;omega,this⟩
   .subst d;have e:=aeF (a:=gt l i) (b:=x) ‹_› ‹_›;have:=c.step ‹_› [] (d':=true) (by simp) (by simp[e]) (by simp);simp at this;refine LJ.e (i+1,true,out ++ [gt l i]) ?_;exact⟨by simp;omega,this⟩
 .subst h;have g:=c.sub;have f:=c.sup;rw[kG (by omega)]at g f;refine⟨out,rfl,λo=>⟨g o,λh=>?_⟩,by simp at j;omega⟩;rcases h with h|h
  .exact f o h
  .rw[h];exact c.dn rfl
 .subst h;have g:=c.sub;have f:=c.sup;rw[kG (by omega)]at g f;refine⟨out ++ [x],by simp[na],λo=>?_,by simp at j;simp;omega⟩;simp;constructor
  .rintro(h|h)
   .exact g o h
   .exact .inr h
  .rintro(h|h)
   .exact .inl (f o h)
   .exact .inr h
theorem Ws{g:fH}:∀ {l:List fE} {now:List fQ} {t:fQ},t∈gt (now::oO g l now) l.length↔t∈sq g l now
 | [],now,t=>by simp[oO,sq,gt]
 | x::r,now,t=>by
  have e:gt (now::oO g (x::r) now) (x::r).length=gt (nY g x now::oO g r (nY g x now)) r.length:=by rw[oO];unfold gt;simp only[aG,bU,List.getD_cons_succ]
  rw[e,Ws,sq];exact Yf (λs=>Mh) t
theorem Wr{g:fH}:∀ {l:List fE} {now:List fQ},(gt (now::oO g l now) l.length).length<=10 ^ l.length*now.length
 | [],now=>by simp[oO,gt]
 | x::r,now=>by
  have e:gt (now::oO g (x::r) now) (x::r).length=gt (nY g x now::oO g r (nY g x now)) r.length:=by rw[oO];unfold gt;simp only[aG,bU,List.getD_cons_succ]
  rw[e];refine Nat.le_trans Wr ?_;rw[aG,dZ,ft];exact ei _ Ga
theorem f154(g:fH)(hg:gF g)(p:Pos)(b:gT g p)(c i:Int)(f:0<=c/\c<g.size)(m:jD (gt p.cs c)=p.side)(hi:0<=i/\i<(gt g.kinds (gi (gt p.cs c))).iS.length) :
  Wf T 204 [dG g,dP p,.i c,.i i] [] (Ex (λr=>.tup [na r,.i 0]) λr=>(∀o,o∈r↔o∈tM g p c (gt (gt g.kinds (gi (gt p.cs c))).iS i))/\r.length<=10 ^ 8):=by
 have I:=b.cs _ (fZ f.1 (by have:=b.size;omega));have a:=b.side;obtain⟨m1,m2,m3,m4⟩:=F4 a.1 m;have J:gi (gt p.cs c)<g.kinds.length:=xt I.2 hg.kinds.1;have M:jQ g (kN p c):=GY hg b f.1 f.2 m;have P:=hg.iS _ (fZ (l:=g.kinds) m1 J);have N:=f194 g hg p b c i f m hi;generalize G:gt (gt g.kinds (gi (gt p.cs c))).iS i=prog at *;have D:wB g prog:=P.2 _ (G▸fZ hi.1 hi.2);have O:=D.len;have z:∀t,t∈gt ([kN p c]::oO g prog [kN p c]) prog.length↔t∈sq g prog [kN p c]:=λt=>Ws;have Q:=Wr (g:=g) (l:=prog) (now:=[kN p c]);have X:10 ^ prog.length<=10 ^ 8:=cE (by decide) O.2;have F:=YB (g:=g) (l:=prog) (now:=[kN p c]);generalize hS : [kN p c]::oO g prog [kN p c]=S at *;have U:S.length=prog.length+1:=by rw[<-hS];simp[F]
 refine Yz DN (iB 70 [5] DN.body) ?_;simp[DN,iB,jN,mw,mz,mH,lq];refine Yc (N) ?_;simp;(with_reducible repeat' first|refine Xk ?_<;>try simp[zX]|refine Xs ?_ ?_<;>intro h<;>(try intro Y)<;>(try simp[h,zX])<;>try omega|refine Xg ?_|omega);rw[show(S.length:Int)-1=prog.length by omega];generalize gt S (prog.length:Int)=L at *;have fG:∀s∈L,jQ g s:=λs hs=>MF hg D.steps (λt e=>by rw[List.mem_singleton]at e;subst e;exact M) s ((z s).1 hs);have Z:L.length<=100000000:=by simp at Q;omega
 simp[zX];refine fD ?_;refine fO.fz [0,2,3] rfl ?_;refine fO.e ((0,[]):Int×List gy) (λy=>[(5,.ptr 1 0 0),(11,na y.2),(12,jX L),(13,.i y.1)]) (λy=>[.dead,.row 46 0 p.cells,.dead,.dead]) (λy=>0<=y.1/\y.1<=L.length/\(∀o,o∈y.2↔o∈(L.take y.1.toNat).filterMap (nA p.side))/\y.2.length<=y.1.toNat) (λy=>L.length-y.1.toNat) ?_ ?_
 .simp
 rintro⟨j,out⟩ ⟨j0,j1,j2,j3⟩;dsimp only at j0 j1 j2 j3 ⊢;simp;refine jF ?_ ?_<;>intro h
 .have hs:=fG _ (fZ j0 ‹_›);have R:=hs.p.small hg;have W:=hs.p.size;have w:=hs.cur;have u:=hs.kind;have V:=hg.kinds;generalize C:gt L j=s at *;refine jF ?_ ?_<;>intro h
  .have q:=iq (l:=s.p.cs) (n:=s.cur) (v:=1+2*s.kind+p.side) w.1 (by omega);refine Yn (Ua s.p R) ?_;simp;refine Yt (f156 (k:=s.kind) (s:=p.side) u.1 (by omega) a.1 a.2) ?_;simp[q];refine jw q ?_;generalize d:({ p:=⟨pt s.p.cs s.cur (1+2*s.kind+p.side),s.p.h0,s.p.h1,s.p.gj,1-p.side⟩,jq:=s.jq }:gy)=o;have A:nA p.side s=some o:=by rw[nA,if_pos ‹_›,<-d];rfl
   have E:Small o.p:=gT.small hg (KZ hs a.1 a.2 A)
   have H:∀o∈out,Small o.p:=λo d=>by obtain⟨t,e,K⟩:=cK.1 ((j2 o).1 d);exact gT.small hg (KZ (fG t (aN e)) a.1 a.2 K)
   have c2:=f195 out o (by omega) H E;rw[<-d]at c2;refine fY.q rfl rfl c2 (by simp) (λ_=>by simp) ?_;intro r B;simp;rw[d]at B;refine fD ?_;refine LJ.e (j+1,r) ?_;refine⟨by dsimp only;omega,by dsimp only;omega,by dsimp only;omega,λx=>?_,by dsimp only;omega⟩;rw[B.1,j2,iO j0 ‹_›,C];simp[A,eq_comm]
  .refine fD ?_;refine LJ.e (j+1,out) ?_;refine⟨by dsimp only;omega,by dsimp only;omega,by dsimp only;omega,λx=>?_,by dsimp only;omega⟩;rw[j2,iO j0 ‹_›,C];have:nA p.side s=none:=by rw[nA,if_neg ‹_›]
   simp[this]
 .rw[kG (by omega)]at j2;refine⟨out,rfl,λo=>?_,?_⟩
  .rw[j2,tM];simp only[cK,z]
  .omega
