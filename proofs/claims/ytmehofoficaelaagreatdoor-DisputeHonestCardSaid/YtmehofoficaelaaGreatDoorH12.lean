/- Part 12 of DisputeHonest. -/
import Derived.Test.YtmehofoficaelaaGreatDoorH11
set_option linter.all false
namespace Go.Proofs.YtmehofoficaelaaGreatDoor
open Go Go.AL Classical
set_option maxRecDepth 10000
set_option maxHeartbeats 1000000
theorem Kr(p:Pos)(a:Small p):Wf T 205 [dP p] [] (λd H=>d = .agg [.fm 0 1 1 0 p.cs.length,.fm 1 1 1 0 p.h0.length,.fm 2 1 1 0 p.h1.length,.i p.fY,.i p.side]/\H = [.row 3 1 (cl f1 p.cs),.row 3 1 (cl f1 p.h0),.row 3 1 (cl f1 p.h1)]):=by
 obtain⟨h1,c,b⟩:=a;refine Wf.xo 2 (fn:=xv) rfl (by simp[xv]) ?_;simp[xv];exact lZ
 all_goals trace_state
theorem f250(a b:fF)(d:Small a.p)(c:Small b.p):Wf T 294 [.agg a.cells,.agg b.cells] [] (Is (.b (decide (a=b)))):=by
 have e:(a=b)↔a.p=b.p/\a.kind=b.kind/\a.cur=b.cur/\a.je=b.je:=by cases a;cases b;simp
 have f:decide (a=b)=decide (a.p=b.p/\a.kind=b.kind/\a.cur=b.cur/\a.je=b.je):=decide_eq_decide.2 e;rw[f];refine Yg IT ?_;simp[IT];(with_reducible repeat' first|refine Xk ?_<;>try simp|refine Xs ?_ ?_<;>intro h<;>(try intro g)<;>(try simp[h])<;>try omega|refine Xg ?_|omega)
 .refine Yc (f50 _ _ d c) ?_;simp;simp_all [pU]
 all_goals (intros;simp_all)
theorem f252(s:fF)(b:Bool):Wf T 296 [.agg s.cells,.b b] [] (Is (jN (if b then [s]else []))):=by refine Yg IV ?_;simp[IV];exact lZ
def Fs(a b:gh):Prop:=gP a.p b.p<0\/(gP a.p b.p=0/\a.je=false/\b.je=true)
theorem f229(a b:gh)(d:Small a.p)(c:Small b.p):Wf T 285 [.agg a.cells,.agg b.cells] [] (Is (.b (decide (Fs a b)))):=by
 refine Yg IK ?_;simp[IK];refine Yc (f50 _ _ d c) ?_;simp;(with_reducible repeat' first|refine Xk ?_<;>try simp|refine Xs ?_ ?_<;>intro h<;>(try intro f)<;>(try simp[h])<;>try omega|refine Xg ?_|omega)
 all_goals by_cases e:gP a.p b.p<0<;>simp[*,Fs]at *
theorem f263(g:fu)(hg:nv g)(s d c:Int):Wf T 321 [g.jb,.i s,.i d,.i c] [] (Is (dI (kA g s d c))):=by
 have o:=hg.size;refine Yg I0 ?_;simp[I0];refine Yc (f251 g hg s d c) ?_;simp;refine fE.j ((0,ly g s d c,[]):Nat×Int×List Int) (λx=>[(1,.i s),(2,.i d),(3,.i c),(4,.ptr 0 0 0),(9,.fm 1 x.2.2.length 1 0 x.2.2.length),(10,.i x.2.1)]) (λx=>[.row 39 0 [.i g.size,.sl 1 (g.next.map fI),dI g.iO],.row 3 x.2.2.length (cl f1 x.2.2)]) (λx=>x.1=x.2.2.length/\x.2.1<g.size/\x.2.2.Nodup/\(∀y∈x.2.2,0<=y/\y<g.size)/\kA g s d c=sG g s d c (10-x.1) x.2.1 x.2.2) (λx=>10-x.1) ?_ (by simp) (by first|rfl|simp) rfl ?_
 .have:=hg.to s d c;simp[kA];omega
 rintro⟨m,x,out⟩ ⟨h0,h1,f,b,j⟩;dsimp only at h0 h1 f b j ⊢;have n:out.length<=9:=AB 9 out f (λy a=>by have:=b y a;omega);have e:=j;rw[show 10-m=(9-m)+1 by omega,sG]at e;simp;(with_reducible repeat' first|refine Xk ?_<;>try simp|refine Xs ?_ ?_<;>intro h<;>(try intro p)<;>(try simp[h])<;>try omega|refine Xg ?_|omega)
 .rw[e,if_neg (by omega)]
 .refine fL.r rfl rfl (f25 out x (by omega)) (by simp) rfl (by simp) ?_;simp;refine ju ?_ ?_<;>intro h
  .rw[e,if_neg (by rintro⟨_,_,k⟩;exact k ‹_›)]
  .refine Yc (f251 g hg s d x) ?_;simp;refine⟨out.length+1,_,out ++ [x],by simp,rfl,by simp,rfl,by omega,by simp,(hg.to _ _ _).2,?_,?_,?_⟩
   .rw[cZ];refine⟨f,by simp,λy a z i=>?_⟩;simp at i;subst i;intro l;subst l;exact absurd a ‹_›
   .intro y a;simp at a;rcases a with a|rfl
    .exact b y a
    .omega
   .rw[e,if_pos (qe (by assumption)),h0,show 9-out.length=10-(out.length+1)by omega]
 .rw[e,if_neg (by omega)]
theorem f253(g:fu)(hg:gu g)(s:fF)(hs:jE g s)(n:Int):Wf T 297 [dG g,.agg s.cells,.i n] [] (Is (jN (pe s (kA g s.p.side n s.cur)))):=by
 have hl:=PL (g:=g) (s:=s.p.side) (d:=n) (c:=s.cur);have k:=hs.p.size;refine Yg IW ?_;simp[IW];refine Yc (f263 g hg.jb s.p.side n s.cur) ?_;simp;generalize f:kA g s.p.side n s.cur=L at *;have fZ:∀y∈L,0<=y/\y<g.size:=λy e=>PK hg.jb (f▸e);refine fE.j ((0,[]):Int×List fF) (λx=>[(4,.ptr 1 0 0),(7,.fm 2 x.2.length 8 0 x.2.length),(8,dI L),(9,.i x.1)]) (λx=>[.row 43 0 g.cells,.row 373 0 s.cells,.row 373 x.2.length (cl fF.cells x.2)]) (λx=>0<=x.1/\x.1<=L.length/\x.2.length=x.1.toNat/\pe s L=x.2++pe s (L.drop x.1.toNat)) (λx=>L.length-x.1.toNat) ?_ (by simp) (by first|rfl|simp) rfl ?_
 .simp
 rintro⟨i,out⟩ ⟨h0,h1,b,a⟩;dsimp only at h0 h1 b a ⊢;simp;refine ju ?_ ?_<;>intro h
 .have j:=fZ _ (fM h0 ‹_›);rw[mP h0 ‹_›,pe]at a;refine ju ?_ ?_<;>intro h
  .refine⟨i+1,out ++ [{ s with cur:=gt L i }],by simp,rfl,by simp,by rw[<-oZ],by omega,by omega,by omega,by simp[b];omega,?_⟩;rw[a,if_pos ‹_›,show(i+1).toNat=i.toNat+1 by omega];simp
  .rw[if_neg ‹_›]at a;rw[a];simp[jN]
 .rw[bn (by omega)]at a;rw[a];simp[pe]
theorem Wd{n s:Int}(_:0<=n)(a:0<=fX n)(h:jr n≠s)(hs:0<=s/\s<=1):jr n=1-s:=by
 unfold fX jr at *;split at a
 .rename_i e;rw[if_pos e]at h ⊢;omega
 .omega
theorem f254(g:fu)(hg:gu g)(s:fF)(hs:jE g s):Wf T 298 [dG g,.agg s.cells] [] (Is (jN (rS g s))):=by
 have u:=hs.p.size;have d:=hs.cur;have j:=hs.p.small hg;refine Yg IX ?_;simp[IX];refine fo ?_;refine Yc (f51 _) ?_;simp;have b:=hs.p.cs _ (fM d.1 (by omega));have i:=hg.kinds;have f:=hs.p.side;(with_reducible repeat' first|refine Xk ?_<;>try simp|refine Xs ?_ ?_<;>intro h<;>(try intro t)<;>(try simp[h])<;>try omega|refine Xg ?_|omega)
 .rw[rS,if_pos];unfold fX at *;unfold jr;split at h<;>rename_i m
  .omega
  .rw[if_neg m];omega
 .rw[rS,if_pos (by omega)]
 .have r:fX (gt s.p.cs s.cur)<g.kinds.length:=wY b.2 i.1;have o:s.p.side=0\/s.p.side=1:=by omega
  have q:=hs.p.h0.len;have p:=hs.p.h1.len;have q0:=ig (l:=s.p.cs) (n:=s.cur) (v:=0) d.1 (by omega);refine Yn (Kr s.p j) ?_;simp;refine JE q0 ?_ ?_<;>intro h
  .have a:jr (gt s.p.cs s.cur)=1-s.p.side:=Wd b.1 (by omega) (by assumption) f;have c:=h;rcases o with e|e
   .have k:=hs.p.h0.at_ _ (by omega) (show fX (gt s.p.cs s.cur)<s.p.h0.length by omega);have q1:=BK (l:=s.p.h0) (n:=fX (gt s.p.cs s.cur)) (v:=gt s.p.h0 (fX (gt s.p.cs s.cur))+1) (by omega) (by omega);have q2:=ig (l:=s.p.h0) (n:=fX (gt s.p.cs s.cur)) (v:=gt s.p.h0 (fX (gt s.p.cs s.cur))+1) (by omega) (by omega);simp[e,q1,q2];refine ju ?_ ?_<;>intro h
    all_goals simp[rS,a,c,Pos.hand,Pos.mc,e,q0,q2]
    .rw[if_neg (by omega)]
    .rw[if_pos (by omega)]
   .have k:=hs.p.h1.at_ _ (by omega) (show fX (gt s.p.cs s.cur)<s.p.h1.length by omega);have q1:=BK (l:=s.p.h1) (n:=fX (gt s.p.cs s.cur)) (v:=gt s.p.h1 (fX (gt s.p.cs s.cur))+1) (by omega) (by omega);have q2:=ig (l:=s.p.h1) (n:=fX (gt s.p.cs s.cur)) (v:=gt s.p.h1 (fX (gt s.p.cs s.cur))+1) (by omega) (by omega);simp[e,q1,q2];refine ju ?_ ?_<;>intro h
    all_goals simp[rS,a,c,Pos.hand,Pos.mc,e,q0,q2]
    .rw[if_neg (by omega)]
    .rw[if_pos (by omega)]
  .have a:jr (gt s.p.cs s.cur)=1-s.p.side:=Wd b.1 (by omega) (by assumption) f;simp[rS,a,h,q0]
theorem f255(g:fu)(hg:gu g)(s:fF)(hs:jE g s)(n:Int):Wf T 299 [dG g,.agg s.cells,.i n] [] (Is (jN (sO g s n))):=by
 have e:=hs.p.size;have a:=hs.cur;have b:=hs.p.small hg;have c:=hg.jb.to s.p.side n s.cur;refine Yg IY ?_;simp[IY];refine Yc (f251 g hg.jb s.p.side n s.cur) ?_;simp;(with_reducible repeat' first|refine Xk ?_<;>try simp|refine Xs ?_ ?_<;>intro h<;>(try intro d)<;>(try simp[h])<;>try omega|refine Xg ?_|omega)
 .rw[sO,if_pos (by simp_all)]
 .rw[sO,if_pos (by simp_all)]
 .have q0:=ig (l:=s.p.cs) (n:=ly g s.p.side n s.cur) (v:=gt s.p.cs s.cur) (by omega) (by omega);have q1:=ig (l:=pt s.p.cs (ly g s.p.side n s.cur) (gt s.p.cs s.cur)) (n:=s.cur) (v:=0) a.1 (by omega);refine Yn (Kr s.p b) ?_;simp;refine kl q0 q1 ?_;simp[sO, *]
 .rw[sO,if_pos (by simp_all)]
end Go.Proofs.YtmehofoficaelaaGreatDoor
namespace Go.AL
open Go
def mi(n:Nat):D->Bool
 | .fm v _ _ _ _ | .ptr v _ _ | .fV v | .iw v=>decide (v<n)
 | d=>closed d
def kh(n:Nat):D->Bool
 | .agg cs | .tup cs | .fH cs=>cs.all (mi n)
 | .fn _ a b=>a.all (mi n)&&b.all (mi n)
 | d=>mi n d
def nP(n:Nat):Ob->Bool
 | .row _ _ cs=>cs.all (kh n)
 | .map _ es=>es.all λx=>kh n x.2
 | .gM _ env _=>env.all λx=>kh n x.2
 | .q' _ _=>true
 | .iM m _ _=>mi n m
 | .km=>true
 | .dead=>true
 | .kR=>false
def jC(n:Nat)(H:U):Prop:=∀o∈H,nP n o=true
theorem QQ{ρ:Nat->Option Nat}{H:U}{n k:Nat}(a:∀u,u<n->ρ u=some u){d:D}(h:mi n d=true):fy ρ H (k+1) d=d:=by
 cases d with
 | fm v g sz off len=>simp only[mi,decide_eq_true_eq]at h;rw[QP,a v h,akd]
 | ptr v g off=>simp only[mi,decide_eq_true_eq]at h;rw[aki,a v h,ake]
 | fV v=>simp only[mi,decide_eq_true_eq]at h;rw[akh,a v h,akc]
 | iw v=>
  simp only[mi,decide_eq_true_eq]at h;rw[fy,if_neg (by simp)];rw[a v h]
 | _=>exact pj h
theorem Fy{ρ:Nat->Option Nat}{H:U}{n k:Nat}(a:∀u,u<n->ρ u=some u){cs:List D}(h:cs.all (mi n)=true):cs.map (fy ρ H (k+1))=cs:=by
 conv=>rhs;rw[<-aS cs]
 exact ao λd b=>QQ a (List.all_eq_true.1 h d b)
theorem CQ{ρ:Nat->Option Nat}{H:U}{n k:Nat}(c:∀u,u<n->ρ u=some u){d:D}(h:kh n d=true):fy ρ H (k+2) d=d:=by
 cases d with
 | agg cs=>rw[akg,Fy c h]
 | tup cs=>rw[akj,Fy c h]
 | fH cs=>
  by_cases e:closed (.fH cs)=true
  .simp_all
  .rw[fy,if_neg e,Fy c h]
 | fn f a b=>
  simp only[kh,Bool.and_eq_true]at h
  by_cases e:closed (.fn f a b)=true
  .simp_all
  .rw[fy,if_neg e,Fy c h.1,Fy c h.2]
 | _=>exact QQ c h
theorem akf{ρ:Nat->Option Nat}{H:U}{n:Nat}(a:∀u,u<n->ρ u=some u){o:Ob}(h:nP n o=true):oy ρ H o=o:=by
 have key:∀ {α:Type} (l:List (α×D)),(l.all λx=>kh n x.2)=true->(l.map λx=>(x.1,fy ρ H 40 x.2))=l:=by
  intro α l hl
  conv=>rhs;rw[<-aS l]
  exact ao λx b=>by have:=List.all_eq_true.1 hl x b;rw[CQ a this];rfl
 cases o with
 | row t g cs=>
  simp only[oy];congr 1
  conv=>rhs;rw[<-aS cs]
  exact ao λd c=>CQ a (List.all_eq_true.1 h d c)
 | map kk es=>simp only[oy];rw[key es h]
 | gM rf env st=>simp only[oy];rw[key env h]
 | q'=>rfl
 | iM m since seen=>simp only[oy];rw[QQ a h]
 | km=>rfl
 | dead=>rfl
 | kR=>cases h
theorem CM{n u:Nat}(h:u<n):gX (iv n []) u=some u:=by unfold gX iv;rw[List.map_nil,ay];rw[dB];refine⟨by simpa using h,by simp,λj a=>by simp;omega⟩
theorem Gb{n:Nat}{H G:U}(b:H.length=n)(h:jC n H):pJ (iv n []) (H++G)=H:=by
 unfold pJ;refine bL λi=>?_;rw[aq];unfold iv;rw[List.map_nil,ay,aq]
 by_cases hi:i<n
 .rw[bC hi];simp only[aD,if_true];rw[ah (by omega),List.getElem?_eq_getElem (by omega)];simp only;congr 1;have e:((List.range n).map λv=>(v,true))=iv n []:=by unfold iv;simp
  rw[e];exact akf (λu a=>CM a) (h _ (bI _))
 .grind
theorem MG{n:Nat}{d:D}(h:kh n d=true):iH n d = []:=by cases d<;>first|rfl|(simp only[kh,mi,decide_eq_true_eq]at h;simp only[iH];rw[if_neg (by omega)])
theorem flatten_nil{α c:Type}{f:α->List c}:∀ {l:List α},(∀a∈l,f a = [])->(l.map f).flatten = []
 | [],_=>rfl
 | a::l,h=>by rw[List.map_cons,aP,h a (by simp),flatten_nil λb d=>h b (by simp[d])];rfl
theorem Qd{n:Nat}{o:Ob}(h:nP n o=true):nN n o = []:=by
 cases o with
 | row t g cs=>exact flatten_nil λd b=>MG (List.all_eq_true.1 h d b)
 | map kk es=>exact flatten_nil λx a=>MG (List.all_eq_true.1 h x a)
 | _=>rfl
theorem Z6{n:Nat}{live:List Nat}{env:Env}{H G:U}{m:List Nat}{r:Bool}(j:Az live=false)(h:H.length=n)(e:jC n H)(d:((forget live env).all λp=>kh n p.2)=true)(i:(m.all λv=>decide (v<n))=true) :
  cut n live { env:=env,H:=H++G,marks:=m,gW:=r } = { env:=forget live env,H:=H,marks:=m,gW:=r }:=by
 by_cases hg:(H++G).length<=n
 .have:G = []:=by
   cases G with
   | nil=>rfl
   | cons a l=>simp at hg;omega
  subst this;rw[ay];exact S1 (by show H.length<=n;omega)
 .unfold cut;dsimp only;rw[if_neg (by rw[j];simpa using hg)];have t:((forget live env).map λp=>iH n p.2).flatten = []:=flatten_nil λp b=>MG (List.all_eq_true.1 d p b)
  have s:(((H++G).take n).map (nN n)).flatten = []:=flatten_nil λo c=>by rw[aT (by omega),af (by omega)]at c;exact Qd (e o c)
  have q:m.filter (n<=·) = []:=by simp_all
  rw[t,s,q];have k:dedup (([] ++ [] ++ []:List Nat).filter (· < (H++G).length)) = []:=rfl;rw[k,Gb h e];congr 1
  .conv=>rhs;rw[<-aS (forget live env)]
   exact ao λp b=>by rw[CQ (λu g=>CM g) (List.all_eq_true.1 d p b)];rfl
  .conv=>rhs;rw[<-aS m]
   exact ao λv f=>by have:=List.all_eq_true.1 i v f;rw[CM (by simpa using this)];rfl
theorem adR{n:Nat}{H G:U}{d:D}(f:H.length=n)(c:jC n H)(g:kh n d=true):leave 0 n (H++G) d=(d,H):=by
 by_cases hg:(H++G).length<=n
 .have:G = []:=by
   cases G with
   | nil=>rfl
   | cons a l=>simp at hg;omega
  subst this;rw[ay];exact V1 (by omega) 0
 .unfold leave;rw[if_neg (by omega)]
  have i:(((H++G).take n).map (nN n)).flatten = []:=flatten_nil λo b=>by rw[aT (by omega),af (by omega)]at b;exact Qd (c o b)
  simp only;rw[i];have h:dedup (([] ++ []:List Nat).filter (· < (H++G).length)) = []:=rfl;rw[h,Gb f c,CQ (λu e=>CM e) g]
theorem AE{n v:Nat}{H:U}{o:Ob}(h:jC n H)(b:nP n o=true):jC n (H.set v o):=λx a=>by
 rcases dm a with a|rfl
 .exact h x a
 .exact b
theorem CR{n:Nat}{d:D}(h:closed d=true):mi n d=true:=by cases d<;>first|exact h|(cases h;done)|(simp only[closed]at h;cases h)
theorem Mp{n:Nat}{d:D}(h:closed d=true):kh n d=true:=by
 cases d with
 | agg cs=>exact List.all_eq_true.2 λd c=>CR (lD (by simpa using h) d c)
 | tup cs=>exact List.all_eq_true.2 λd c=>CR (lD (by simpa using h) d c)
 | fH cs=>exact List.all_eq_true.2 λd c=>CR (lD (by simpa using h) d c)
 | fn f a b=>
  simp only[SK,Bool.and_eq_true]at h;simp only[kh,Bool.and_eq_true];exact⟨List.all_eq_true.2 λd c=>CR (lD h.1 d c),List.all_eq_true.2 λd c=>CR (lD h.2 d c)⟩
 | _=>exact CR (n:=n) h
@[simp] theorem auR{n:Nat}{d:D}(h:closed d=true):kh n d=true:=Mp h
@[simp] theorem auV(n v g sz off len:Nat):kh n (.fm v g sz off len)=decide (v<n):=rfl
@[simp] theorem auW(n v g off:Nat):kh n (.ptr v g off)=decide (v<n):=rfl
@[simp] theorem auU(n v:Nat):kh n (.fV v)=decide (v<n):=rfl
@[simp] theorem auQ(n:Nat)(cs:List D):kh n (.agg cs)=cs.all (mi n):=rfl
@[simp] theorem auX(n:Nat)(cs:List D):kh n (.tup cs)=cs.all (mi n):=rfl
@[simp] theorem auZ(n v g sz off len:Nat):mi n (.fm v g sz off len)=decide (v<n):=rfl
@[simp] theorem au0(n v g off:Nat):mi n (.ptr v g off)=decide (v<n):=rfl
@[simp] theorem auS(n:Nat)(f:Fn)(a b:List D):kh n (.fn f a b)=(a.all (mi n)&&b.all (mi n)):=rfl
@[simp] theorem FM{n t g:Nat}{α:Type}{f:α->List D}{sz:Nat}[F:Fl f sz](l:List α):nP n (.row t g (cl f l))=true:=
 List.all_eq_true.2 λd a=>Mp (lD (tL l) d a)
@[simp high] theorem adN{α:Type}[Inhabited α]{f:α->List D}{sz:Nat}[F:Fl f sz]{l:List α}{t:TypeId}{n:Int}(a:0<sz):tm sz (n.toNat*sz) (some (t,cl f l))=if n.toNat<l.length then some (.agg (f (gt l n)))else none:=by
 have h:=aex (f:=f) (l:=l) (t:=t) (n:=n) (P:=λd=>d = .agg (f (gt l n))) a;simp only[and_true]at h
 by_cases b:n.toNat<l.length
 .simp_all
 .rw[if_neg b];unfold tm;dsimp only;rw[if_neg];rw[s5,<-bZ,eQ a];omega
section
variable{T:gO}{a b:IR}{s:St}{K:iq}{id n:Nat}{live:List Nat}
@[simp ↓] theorem asB:LS T b K (.norm s)=Wc T b s K:=(rfl)
@[simp ↓] theorem asA:LS T b K (.exit id s)=K (.exit id s):=(rfl)
@[simp ↓] theorem asC:LS T b K (.ret s)=K (.ret s):=(rfl)
end
def LJ{α:Type}(E:α->Env)(b:α->U)(ms:List Nat)(rd:Bool)(Q:α->Prop)(_:Tag (E,b,ms,rd,Q))(e:Env)(H:U)(m:List Nat)(r:Bool):Prop:=
 ∃a,e=E a/\H=b a/\m=ms/\r=rd/\Q a
theorem LJ.e{α:Type}{E:α->Env}{b:α->U}{ms:List Nat}{rd:Bool}{Q:α->Prop}{t:Tag (E,b,ms,rd,Q)}{e:Env}{H:U}{m:List Nat}{r:Bool}(a:α)(c:Q a)(h1:e=E a:=by first|rfl|simp)(g:H=b a:=by first|rfl|simp)(f:m=ms:=by exact rfl)(d:r=rd:=by exact rfl):LJ E b ms rd Q t e H m r:=⟨a,h1,g,f,d,c⟩
theorem LJ.i{α:Type}{E:α->Env}{b:α->U}{ms:List Nat}{rd:Bool}{Q:α->Prop}{t:Tag (E,b,ms,rd,Q)}{e:Env}{H:U}{m:List Nat}{r:Bool}(a:α)(h1:e=E a)(g:H=b a)(f:m=ms)(d:r=rd)(c:Q a):LJ E b ms rd Q t e H m r:=⟨a,h1,g,f,d,c⟩
section
variable{T:gO}{live:List Nat}{a:IR}{s:St}{K:iq}{α:Type}
theorem fE.k(b:α)(E:α->Env)(c:α->U)(P:α->Prop)(d:α->Nat)
  (h0:P b) (l:forget ((E b).map (·.1)) s.env=E b) (j:s.H=c b) (i:s.marks = []) (g:s.gW=false) (f:(((E b).map (·.1)).all λk=>live.contains k)=true)
  (h:∀x,P x->XC T a { env:=E x,H:=c x } (wX s.H.length live ((E b).map (·.1)) (LJ E c [] false (λe=>d e<d x/\P e) .mk) K)):fE T live a s K .mk:=
 fE.j b E c P d h0 l j f (by rw[i,g];exact h)
end
@[simp] theorem ao3{α:Type}{f:α->List D}[Fl f 1](l:List α)(n:Nat):(cl f l).take n=cl f (l.take n):=by simpa using vZ (f:=f) l n
@[simp] theorem ao0{α:Type}{f:α->List D}[Fl f 1](l:List α)(n:Nat):(cl f l).drop n=cl f (l.drop n):=by simpa using tM (f:=f) l n
@[simp] theorem aq9(K:List Nat):iv 5 K=(0,true)::(1,true)::(2,true)::(3,true)::(4,true)::K.map λv=>(v,true):=rfl
@[simp] theorem ara(K:List Nat):iv 6 K=(0,true)::(1,true)::(2,true)::(3,true)::(4,true)::(5,true)::K.map λv=>(v,true):=rfl
@[simp] theorem arb(K:List Nat):iv 7 K=(0,true)::(1,true)::(2,true)::(3,true)::(4,true)::(5,true)::(6,true)::K.map λv=>(v,true):=rfl
@[simp] theorem arc(K:List Nat):iv 8 K=(0,true)::(1,true)::(2,true)::(3,true)::(4,true)::(5,true)::(6,true)::(7,true)::K.map λv=>(v,true):=rfl
@[simp] theorem ard(K:List Nat):iv 9 K=(0,true)::(1,true)::(2,true)::(3,true)::(4,true)::(5,true)::(6,true)::(7,true)::(8,true)::K.map λv=>(v,true):=rfl
@[simp] theorem aqS(K:List Nat):iv 10 K=(0,true)::(1,true)::(2,true)::(3,true)::(4,true)::(5,true)::(6,true)::(7,true)::(8,true)::(9,true)::K.map λv=>(v,true):=rfl
@[simp] theorem aqT(K:List Nat):iv 11 K=(0,true)::(1,true)::(2,true)::(3,true)::(4,true)::(5,true)::(6,true)::(7,true)::(8,true)::(9,true)::(10,true)::K.map λv=>(v,true):=rfl
@[simp] theorem aqU(K:List Nat):iv 12 K=(0,true)::(1,true)::(2,true)::(3,true)::(4,true)::(5,true)::(6,true)::(7,true)::(8,true)::(9,true)::(10,true)::(11,true)::K.map λv=>(v,true):=rfl
@[simp] theorem aqV(K:List Nat):iv 13 K=(0,true)::(1,true)::(2,true)::(3,true)::(4,true)::(5,true)::(6,true)::(7,true)::(8,true)::(9,true)::(10,true)::(11,true)::(12,true)::K.map λv=>(v,true):=rfl
@[simp] theorem aqW(K:List Nat):iv 14 K=(0,true)::(1,true)::(2,true)::(3,true)::(4,true)::(5,true)::(6,true)::(7,true)::(8,true)::(9,true)::(10,true)::(11,true)::(12,true)::(13,true)::K.map λv=>(v,true):=rfl
@[simp] theorem aqX(K:List Nat):iv 15 K=(0,true)::(1,true)::(2,true)::(3,true)::(4,true)::(5,true)::(6,true)::(7,true)::(8,true)::(9,true)::(10,true)::(11,true)::(12,true)::(13,true)::(14,true)::K.map λv=>(v,true):=rfl
@[simp] theorem aqY(K:List Nat):iv 16 K=(0,true)::(1,true)::(2,true)::(3,true)::(4,true)::(5,true)::(6,true)::(7,true)::(8,true)::(9,true)::(10,true)::(11,true)::(12,true)::(13,true)::(14,true)::(15,true)::K.map λv=>(v,true):=rfl
@[simp] theorem aqZ(K:List Nat):iv 17 K=(0,true)::(1,true)::(2,true)::(3,true)::(4,true)::(5,true)::(6,true)::(7,true)::(8,true)::(9,true)::(10,true)::(11,true)::(12,true)::(13,true)::(14,true)::(15,true)::(16,true)::K.map λv=>(v,true):=rfl
@[simp] theorem aq0(K:List Nat):iv 18 K=(0,true)::(1,true)::(2,true)::(3,true)::(4,true)::(5,true)::(6,true)::(7,true)::(8,true)::(9,true)::(10,true)::(11,true)::(12,true)::(13,true)::(14,true)::(15,true)::(16,true)::(17,true)::K.map λv=>(v,true):=rfl
@[simp] theorem aq1(K:List Nat):iv 19 K=(0,true)::(1,true)::(2,true)::(3,true)::(4,true)::(5,true)::(6,true)::(7,true)::(8,true)::(9,true)::(10,true)::(11,true)::(12,true)::(13,true)::(14,true)::(15,true)::(16,true)::(17,true)::(18,true)::K.map λv=>(v,true):=rfl
@[simp] theorem aq3(K:List Nat):iv 20 K=(0,true)::(1,true)::(2,true)::(3,true)::(4,true)::(5,true)::(6,true)::(7,true)::(8,true)::(9,true)::(10,true)::(11,true)::(12,true)::(13,true)::(14,true)::(15,true)::(16,true)::(17,true)::(18,true)::(19,true)::K.map λv=>(v,true):=rfl
@[simp] theorem aq4(K:List Nat):iv 21 K=(0,true)::(1,true)::(2,true)::(3,true)::(4,true)::(5,true)::(6,true)::(7,true)::(8,true)::(9,true)::(10,true)::(11,true)::(12,true)::(13,true)::(14,true)::(15,true)::(16,true)::(17,true)::(18,true)::(19,true)::(20,true)::K.map λv=>(v,true):=rfl
@[simp] theorem aq5(K:List Nat):iv 22 K=(0,true)::(1,true)::(2,true)::(3,true)::(4,true)::(5,true)::(6,true)::(7,true)::(8,true)::(9,true)::(10,true)::(11,true)::(12,true)::(13,true)::(14,true)::(15,true)::(16,true)::(17,true)::(18,true)::(19,true)::(20,true)::(21,true)::K.map λv=>(v,true):=rfl
@[simp] theorem aq6(K:List Nat):iv 23 K=(0,true)::(1,true)::(2,true)::(3,true)::(4,true)::(5,true)::(6,true)::(7,true)::(8,true)::(9,true)::(10,true)::(11,true)::(12,true)::(13,true)::(14,true)::(15,true)::(16,true)::(17,true)::(18,true)::(19,true)::(20,true)::(21,true)::(22,true)::K.map λv=>(v,true):=rfl
@[simp] theorem avz{α:Type}{l:List α}{n:Nat}(h:l.length=n):l.take n=l:=af (by omega)
@[simp] theorem au5(a b:List Pos):D.sl 5 (a.map Pos.cells++b.map Pos.cells)=gC (a++b):=by unfold gC;rw[List.map_append]
def Ey{α:Type}(g:α->D)(Q:α->Prop)(d:D)(H:U):Prop:=Ex g Q d H
theorem Ey.i{α:Type}{g:α->D}{Q:α->Prop}{d:D}{H:U}(x:α)(h1:d=g x)(b:H = [])(a:Q x):Ey g Q d H:=⟨x,h1,b,a⟩
def NV(ρ:Nat->Option Nat)(H:U)(k off:Nat):Option (TypeId×List D)->D
 | some (_,cs)=>.fH ((cs.drop off).map (fy ρ H k))
 | none=>.any
@[simp] theorem auA(H:U)(k:Nat)(ρ:Nat->Option Nat)(v g off:Nat):Ga H k ρ v g off none=NV ρ H k off (rowAt H v g):=by unfold Ga NV;rfl
@[simp] theorem ap8(ρ:Nat->Option Nat)(H:U)(k off:Nat)(t:TypeId)(cs:List D):NV ρ H k off (some (t,cs)) = .fH ((cs.drop off).map (fy ρ H k)):=rfl
structure GH(H:U)(v:Nat):Prop where
 lt:v<H.length
 ok:jC H.length H
section
variable{H G:U}{v:Nat}{o o':Ob}
@[simp] theorem GH.get(h:GH H v):(H.set v o)[v]? = some o:=aX h.lt
@[simp] theorem GH.ln(h:GH H v):(H.set v o++G)[v]? = some o:=by rw[ah (by rw[aF];exact h.lt)];exact h.get
@[simp] theorem GH.ab6(_:GH H v):(H.set v o++G)[H.length]? = G[0]? := by grind
@[simp] theorem GH.akb(_:GH H v):(H.set v o++G).set H.length o'=H.set v o++G.set 0 o':=by grind
@[simp high] theorem GH.cut(h:GH H v){live:List Nat}{env:Env}{r:Bool}(c:Az live=false)(a:nP H.length o=true)(b:((forget live env).all λp=>kh H.length p.2)=true) :
  Go.AL.cut H.length live { env:=env,H:=H.set v o++G,marks:=[],gW:=r } = { env:=forget live env,H:=H.set v o,marks:=[],gW:=r }:=Z6 c (aF ..) (AE h.ok a) b rfl
@[simp] theorem GH.lt_eq(h:GH H v):(v<H.length)=True:=eq_true h.lt
end
@[simp] theorem atf(n:Nat):jC n []=True:=eq_true λ_ h=>by cases h
@[simp] theorem ate(n:Nat)(o:Ob)(r:U):jC n (o::r)=(nP n o=true/\jC n r):=propext ⟨λh=>⟨h o (by simp),λx a=>h x (by simp[a])⟩,λh x a=>by
 rcases aw.1 a with rfl|a
 .exact h.1
 .exact h.2 x a⟩
@[simp] theorem atk(n t g:Nat)(cs:List D):nP n (.row t g cs)=cs.all (kh n):=rfl
@[simp] theorem atg(n:Nat):nP n .dead=true:=rfl
@[simp] theorem ati(n:Nat)(kk:KK)(es:List (Value×D)):nP n (.map kk es)=es.all λx=>kh n x.2:=rfl
@[simp] theorem anp{n:Nat}{α:Type}{f:α->List D}{sz:Nat}[F:Fl f sz](l:List α):(cl f l).all (kh n)=true:=
 List.all_eq_true.2 λd a=>Mp (lD (tL l) d a)
section
variable{H G:U}{v k:Nat}{o:Ob}
@[simp] theorem YQ:(H++G)[H.length+k]? = G[k]? := by rw[ai (by omega)];congr 1;omega
@[simp] theorem anu:(H++G)[H.length]? = G[0]? := by rw[ai (by omega)];congr 1;omega
theorem Wb(h:H[v]? = some o):v<H.length:=by grind
end
end Go.AL
namespace Go.Proofs.YtmehofoficaelaaGreatDoor
open Go Go.AL Classical
set_option maxRecDepth 10000
set_option maxHeartbeats 1000000
theorem aec{n:Int}{k:Nat}(h0:0<=n)(h1:n<=2*k)(a:k<=2):fX n<0↔n=0:=by unfold fX;split<;>omega
theorem aed{n s:Int}(h:0<=fX n)(hs:0<=s/\s<=1):jr n=1-s↔¬jr n=s:=by
 unfold fX at h;unfold jr;split at h
 .rename_i e;rw[if_pos e];omega
 .omega
theorem PT{n s:Int}(h:¬ 0<=fX n)(hs:0<=s/\s<=1):¬jr n=1-s/\¬jr n=s:=by
 unfold fX at h;unfold jr;split at h
 .omega
 .rename_i e;rw[if_neg e];omega
theorem f228(g:fu)(hg:gu g)(s:fF)(hs:jE g s)(x:fq)(i:Dv g x):Wf T 284 [dG g,.agg s.cells,.agg [.i x.1,.i x.2]] [] (Is (jN (im g s x))):=by
 have q:=hs.p.size;have f:=hs.cur;have m:=hs.p.small hg;have o:=hg.jb.to s.p.side x.2 s.cur;have d:=hs.p.cs _ (fM f.1 (by omega));have a:=hs.p.side;have j:=aec d.1 d.2 hg.kinds.2;have e:=hs.p.fY;have c:=hg.fY;have l:=i.ok;refine Yg IJ ?_;simp[IJ];refine fo ?_;refine Yc (f51 _) ?_;simp;(with_reducible repeat' first|refine Xk ?_<;>try simp|refine Xs ?_ ?_<;>intro h<;>(try intro p)<;>(try simp[h])<;>try omega|refine Xg ?_|omega)
 .refine Yc (f251 g hg.jb s.p.side x.2 s.cur) ?_;simp;refine Yc (f252 { s with cur:=ly g s.p.side x.2 s.cur } _) ?_;simp;simp[im,h]
 .refine Yc (f253 g hg s hs x.2) ?_;simp;simp[im,h]
 .refine Yc (f252 s _) ?_;simp;simp[im,h,j]
 .refine Yc (f252 s _) ?_;simp;have h1:=aed (by assumption) a;simp[im, *]
 .refine Yc (f252 s _) ?_;simp;have h1:=PT (by assumption) a;simp[im, *]
 .refine Yc (f252 s _) ?_;simp;simp[im, *]
 .refine Yc (f252 s _) ?_;simp;have h1:=PT (by assumption) a;simp[im, *]
 .refine Yc (f254 g hg s hs) ?_;simp;simp[im, *]
 .refine Yc (f255 g hg s hs x.2) ?_;simp;simp[im, *]
 .simp[im, *]
 .refine Yt (f252 s _) ?_;simp;have k:=CF c.1 (by omega);have b:=Xr (r:=s.p.fY) (n:=x.2) e.1 (by omega) (by omega) (by omega);simp[im,b, *]
 .have k:=CF c.1 (by omega);have b:=Xt (r:=s.p.fY) (n:=x.2) e.1 (by omega) (by omega) (by omega);simp[im,b, *]
def lA(a:List fF):List fF->List fF
 | []=>a
 | x::r=>lA (if x∈a then a else a ++ [x]) r
theorem Dx:∀ {b a:List fF} {x:fF},x∈lA a b↔x∈a\/x∈b
 | [],a,x=>by simp[lA]
 | y::r,a,x=>by
  unfold lA;rw[Dx];split<;>simp
  .constructor
   .rintro(h|h)<;>simp[h]
   .rintro(h|rfl|h)<;>simp[*]
  .constructor
   .rintro((h|h)|h)<;>simp[h]
   .rintro(h|rfl|h)<;>simp[*]
theorem Dw:∀ {b a:List fF},(lA a b).length<=a.length+b.length
 | [],a=>by simp[lA]
 | y::r,a=>by unfold lA;refine Nat.le_trans Dw ?_;split<;>simp<;>omega
theorem aj9{H:U}{v:Nat}{o:Ob}(h:H[v]? = some o):H=H.set v o:=by
 refine bL λi=>?_;rw[bK];split
 .rename_i e;subst e;rw[if_pos (Wb h),h]
 .rfl
theorem GH.of{H:U}{v:Nat}{o:Ob}(a:H[v]? = some o)(b:jC H.length H):GH H v:=⟨Wb a,b⟩
theorem f227(v gen:Nat)(a b:List fF)(H:U)(n:H[v]? = some (.row 373 gen (cl fF.cells a)))(t:jC H.length H)(r:∀s∈a,Small s.p)(o:∀s∈b,Small s.p)(hl:a.length+b.length<2 ^ 39):Wf T 283 [.fm v gen 8 0 a.length,jN b] H (λd H'=>∃q,d = .fm v q 8 0 (lA a b).length/\H'=H.set v (.row 373 q (cl fF.cells (lA a b)))):=by
 have hg:=GH.of n t;have z:=hg.lt;refine Yg II ?_;simp[II];refine fE.j ((0,gen,a):Int×Nat×List fF) (λx=>[(0,.fm v x.2.1 8 0 x.2.2.length),(1,jN b),(5,.i x.1)]) (λx=>H.set v (.row 373 x.2.1 (cl fF.cells x.2.2))) (λx=>0<=x.1/\x.1<=b.length/\x.2.2.length<=a.length+x.1.toNat/\(∀s∈x.2.2,Small s.p)/\lA x.2.2 (b.drop x.1.toNat)=lA a b) (λx=>b.length-x.1.toNat) ?_ (by simp) (aj9 n) rfl ?_
 .simp;exact r
 rintro⟨i,p,l⟩ ⟨h0,h1,u,f,c⟩;dsimp only at h0 h1 u f c ⊢;simp;refine ju ?_ ?_<;>intro h
 .refine fE.j ((0,false):Int×Bool) (λx=>[(0,.fm v p 8 0 l.length),(1,jN b),(5,.i i),(6,.b x.2),(7,.i x.1)]) (λx=>H.set v (.row 373 p (cl fF.cells l))) (λx=>0<=x.1/\x.1<=l.length/\x.2=decide (gt b i∈l.take x.1.toNat)) (λx=>l.length-x.1.toNat) ?_ (by simp) rfl rfl ?_
  .simp
  rintro⟨k,m⟩ ⟨g,w,j⟩;dsimp only at g w j ⊢;simp[hg];(with_reducible repeat' first|refine Xk ?_<;>try simp[hg]|refine Xs ?_ ?_<;>intro h<;>(try intro A)<;>(try simp[h,hg])<;>try omega|refine Xg ?_|omega)
  .rw[iD g (by assumption)];simp_all
  .refine Yt (f250 _ _ (f _ (fM g (by assumption))) (o _ (fM h0 (by assumption)))) ?_;simp;simp only[h,cond_false];refine qe ⟨k+1,?_⟩;rw[iD g (by assumption)]
   by_cases e:gt l k=gt b i
   .right;simp[e];omega
   .left;simp_all;exact gg (λy=>e y.symm)
  .refine⟨i+1,l,rfl,rfl,rfl,by omega,by omega,by omega,by omega,f,?_⟩;rw[<-c,mP h0 (by assumption),lA,show(i+1).toNat=i.toNat+1 by omega];rw[if_pos];rw[j,kq (by omega)]at h;simpa using h
  .refine⟨i+1,l ++ [gt b i],by simp,rfl,by simp,by omega,by omega,by omega,by simp;omega,?_,?_⟩
   .intro s hs;simp at hs;rcases hs with hs|rfl
    .exact f s hs
    .exact o _ (fM h0 (by assumption))
   .rw[<-c,mP h0 (by assumption),lA,show(i+1).toNat=i.toNat+1 by omega];rw[if_neg];rw[j,kq (by omega)]at h;simpa using h
 .rw[bn (by omega)]at c;have e:lA l []=l:=rfl;rw[e]at c;rw[<-c];exact⟨rfl,rfl⟩
end Go.Proofs.YtmehofoficaelaaGreatDoor
namespace Go.AL
open Go Classical
theorem iF{α:Type}{f:α->List D}(a:α):cl f [a]=f a:=by rw[mm,ZB,ay]
theorem fE.e{T:gO}{live:List Nat}{a:IR}{s:St}{K:iq}{α:Type}(b:α)(E:α->Env)(c:α->U)(P:α->Prop)(d:α->Nat)(h0:P b)
  (h:∀x,P x->XC T a { env:=E x,H:=c x } (wX s.H.length live ((E b).map (·.1)) (LJ E c [] false (λe=>d e<d x/\P e) .mk) K))
  (l:forget ((E b).map (·.1)) s.env=E b:=by simp) (j:s.H=c b:=by first|rfl|(simp[iF];done)|(simp[*];done)) (i:s.marks = []:=by exact rfl) (g:s.gW=false:=by exact rfl) (f:(((E b).map (·.1)).all λk=>live.contains k)=true:=by exact rfl):fE T live a s K .mk:=fE.k b E c P d h0 l j i g f h
theorem kd.pw{l:List Pos}(h:kd l):l.Pairwise λx y=>gP x y<0:=by refine bh.2 λi j hi a b=>?_;have:=h.le (i:=(i:Int)) (j:=(j:Int)) (by omega) (by omega) (by omega);rwa [KL hi,KL a]at this
theorem kd.of{r:List Pos}(h:r.Pairwise λx y=>gP x y<0):kd r:=by intro i h1 a;rw[jh (by omega) (by omega),jh (by omega) (by omega)];exact bh.1 h _ _ _ _ (by omega)
theorem W6:∀ {a b:List Pos},(a.Pairwise λx y=>gP x y<0)->(b.Pairwise λx y=>gP x y<0)->(∀q,q∈a↔q∈b)->a=b
 | [],[],_,_,_=>rfl
 | [],y::b,_,_,h=>by have:=(h y).2 (by simp);cases this
 | x::a,[],_,_,h=>by have:=(h x).1 (by simp);cases this
 | x::a,y::b,ha,hb,h=>by
  have g:=a8.1 ha;have d:=a8.1 hb
  have e:x=y:=by
   rcases aw.1 ((h x).1 (by simp))with e|e
   .exact e
   rcases aw.1 ((h y).2 (by simp))with f|f
   .exact f.symm
   have h1:=d.1 x e;have i:=g.1 y f;rw[tO]at h1;omega
  subst e;rw[W6 g.2 d.2 λq=>?_];constructor
  .intro c;rcases aw.1 ((h q).1 (by simp[c]))with e|e
   .subst e;have:=g.1 q c;rw[tN]at this;omega
   .exact e
  .intro c;rcases aw.1 ((h q).2 (by simp[c]))with e|e
   .subst e;have:=d.1 q c;rw[tN]at this;omega
   .exact e
theorem Gi{a b:List Pos}(d:kd a)(c:kd b)(h:∀q,q∈a↔q∈b):a=b:=W6 d.pw c.pw h
theorem ZO{x y:Pos}(h:x≠y)(a:¬gP x y<0):gP y x<0:=by have:gP x y≠0:=λe=>h (pU.1 e);rw[tO];omega
theorem Vx(x:Pos):∀r:List Pos,(r.Pairwise λx y=>gP x y<0)->∃b:List Pos,(b.Pairwise λx y=>gP x y<0)/\∀q,q∈b↔q=x\/q∈r
 | [],_=>⟨[x],by simp,by simp⟩
 | y::r,h=>by
  have c:=a8.1 h
  by_cases e:x=y
  .subst e;exact⟨x::r,h,by simp⟩
  by_cases hl:gP x y<0
  .refine⟨x::y::r,a8.2 ⟨λz a=>?_,h⟩,by simp⟩;rcases aw.1 a with rfl|a
   .exact hl
   .exact xM hl (c.1 z a)
  .obtain⟨b,h1,d⟩:=Vx x r c.2;refine⟨y::b,a8.2 ⟨λz a=>?_,h1⟩,λq=>?_⟩
   .rcases(d z).1 a with rfl|a
    .exact ZO e hl
    .exact c.1 z a
   .simp only[aw,d];constructor
    .rintro(h|h|h)<;>simp[h]
    .rintro(h|h|h)<;>simp[h]
theorem Mu:∀l:List Pos,∃r,kd r/\∀q,q∈r↔q∈l
 | []=>⟨[],λi h1 a=>by simp at a;omega,by simp⟩
 | x::l=>by obtain⟨r,h1,a⟩:=Mu l;obtain⟨b,d,c⟩:=Vx x r h1.pw;exact⟨b,kd.of d,λq=>by rw[c,a,aw]⟩
noncomputable def jR(l:List Pos):List Pos:=Classical.choose (Mu l)
theorem AX(l:List Pos):kd (jR l):=(cz (Mu l)).1
@[simp] theorem uI{l:List Pos}{q:Pos}:q∈jR l↔q∈l:=(cz (Mu l)).2 q
theorem XW{l r:List Pos}(h:kd r)(a:∀q,q∈r↔q∈l):r=jR l:=Gi h (AX l) λq=>by rw[a,uI]
theorem FG{α:Type}[DecidableEq α]:∀ {l m:List α},l.Nodup->(∀x∈l,x∈m)->l.length<=m.length
 | [],m,_,_=>by simp
 | a::l,m,b,h=>by
  have b:=cV.1 b
  have h1:l.length<=(m.erase a).length:=FG b.2 λx c=>by refine(List.mem_erase_of_ne ?_).2 (h x (by simp[c]));rintro rfl;exact b.1 c
  rw[eR (h a (by simp))]at h1;have:0<m.length:=eW (h a (by simp));simp;omega
theorem kd.nodup{l:List Pos}(h:kd l):l.Nodup:=h.pw.imp λ{a b} c e=>by subst e;rw[tN]at c;omega
theorem Mt(l:List Pos):(jR l).length<=l.length:=FG (kd.nodup (AX l)) λx a=>uI.1 a
def ended(g:fu)(p:Pos):Prop:=∃c∈g.clauses,kf p c
theorem FH{g:fu}{p:Pos}(h:¬ended g p):∀c∈g.clauses,¬kf p c:=λc a hl=>h ⟨c,a,hl⟩
def Ke(g:fu)(p:Pos):List Pos:=(upto g.kinds.length).flatMap λk=>(upto p.cs.length).map λc=>jA p k c
theorem zx{α c:Type}{f:α->List c}{n:Nat}:∀ {l:List α},(∀a∈l,(f a).length<=n)->(l.flatMap f).length<=l.length*n
 | [],_=>by simp
 | a::l,h=>by rw[List.flatMap_cons,ar,aG,bZ];have:=h a (by simp);have:=zx (l:=l) λb d=>h b (by simp[d]);omega
theorem XJ{g:fu}:∀ {l:List fq} {a:List fF},(rQ g l a).length<=10 ^ l.length*a.length
 | [],a=>by simp[rQ]
 | x::r,a=>by rw[rQ];refine Nat.le_trans XJ ?_;rw[aG,dW,fg];refine ea _ ?_;rw[du];exact zx λs _=>CW
theorem ajd{g:fu}(hg:gu g){p:Pos}(a:gJ g p):(pg g p).length<=3600000000:=by
 have i:=a.size;have j:=hg.jb.size
 have:(pg g p).length<=(upto p.cs.length).length*400000000:=by
  refine zx λc d=>?_;rw[js]at d;unfold oU;split
  .rename_i e;have f:=Gm hg a d.1 (by omega) e;have b:=hg.iG _ (fM (l:=g.kinds) f.kind.1 f.kind.2)
   have m:((gt g.kinds (fX (gt p.cs c))).iG.flatMap (tq g p c)).length<=(gt g.kinds (fX (gt p.cs c))).iG.length*100000000:=by refine zx λl hl=>?_;have h:=(b.2 l hl).len;refine Nat.le_trans (eS _ _) (Nat.le_trans XJ ?_);have:10 ^ l.length<=10 ^ 8:=cE (by decide) h.2;simpa using this
   have k:(gt g.kinds (fX (gt p.cs c))).iG.length<=4:=b.1;omega
  .simp
 have e:(upto p.cs.length).length=p.cs.length:=by simp[upto]
 rw[e]at this;omega
theorem aaj{g:fu}(hg:gu g){p:Pos}(a:gJ g p):(Ke g p).length<=18:=by
 have b:=a.size;have d:=hg.jb.size;have c:=hg.kinds
 have:(Ke g p).length<=(upto g.kinds.length).length*9:=zx λk _=>by simp[upto];omega
 have e:(upto g.kinds.length).length=g.kinds.length:=by simp[upto]
 rw[e]at this;omega
theorem aeo{g:fu}{p q:Pos}(h:pP g p q):q∈(pg g p).map (·.p)++Ke g p:=by
 obtain⟨_,h⟩:=h;split at h
 .exact List.mem_append.2 (.inl (au.2 ⟨_,h,rfl⟩))
 .rcases h with⟨o,h,rfl⟩|⟨k,c,h1,d,b,a,_,_,rfl⟩
  .exact List.mem_append.2 (.inl (au.2 ⟨_,h,rfl⟩))
  .exact List.mem_append.2 (.inr (bB.2 ⟨k,js.2 ⟨h1,d⟩,au.2 ⟨c,js.2 ⟨b,a⟩,rfl⟩⟩))
noncomputable def ic(g:fu)(p:Pos):List Pos:=jR (((pg g p).map (·.p)++Ke g p).filter λq=>decide (pP g p q))
theorem aep(g:fu)(p:Pos):kd (ic g p):=AX _
@[simp] theorem Ax{g:fu}{p q:Pos}:q∈ic g p↔pP g p q:=by unfold ic;rw[uI,aV];simp only[decide_eq_true_eq];exact⟨λh=>h.2,λh=>⟨aeo h,h⟩⟩
theorem Qa{g:fu}{p:Pos}{r:List Pos}(h:kd r)(a:∀q,q∈r↔pP g p q):r=ic g p:=Gi h (aep g p) λq=>by rw[a,Ax]
theorem LK{g:fu}{p:Pos}(h:ended g p):ic g p = []:=by refine aR.2 λq a=>?_;obtain⟨c,b,hl⟩:=h;exact(Ax.1 a).1 c b hl
@[irreducible] noncomputable def sK(g:fu)(p:Pos):D:=if ended g p then .fw else gC (ic g p)
theorem LI(g:fu)(p:Pos):(sK g p = .fw/\ic g p = [])\/sK g p=gC (ic g p):=by
 unfold sK;split
 .rename_i h;exact .inl ⟨rfl,LK h⟩
 .exact .inr rfl
theorem Aw{g:fu}(hg:gu g){p:Pos}(a:gJ g p):(ic g p).length<=4000000000:=by refine Nat.le_trans (Mt _) (Nat.le_trans (List.length_filter_le _ _) ?_);have:=ajd hg a;have:=aaj hg a;simp;omega
section
variable{g:fu}{p:Pos}{n:Int}{k:IntKind}{P:D->Prop}{H:U}
@[simp] theorem ZL:closed (sK g p)=true:=by rcases LI g p with⟨h,_⟩|h<;>rw[h]<;>simp
@[simp] theorem arU:mB .slice (sK g p) H=some (.i (ic g p).length):=by rcases LI g p with⟨h,e⟩|h<;>rw[h]<;>simp[*]
@[simp] theorem avs:ki 5 H (sK g p)=some (cl Pos.cells (ic g p),(ic g p).length):=by rcases LI g p with⟨h,e⟩|h<;>rw[h]<;>simp[*]
@[simp] theorem avQ(n:Nat):iH n (sK g p) = []:=MF n ZL
@[simp] theorem asO:oA (lV 5 (sK g p) (.val (.int k n))) P .mk=((0<=n/\n<(ic g p).length)/\P (.fH (gt (ic g p) n).cells)):=by
 rcases LI g p with⟨h,e⟩|h
 .rw[h,e];simp only[lV,WC,cM];refine propext ⟨λh=>h.elim,λ⟨h,_⟩=>?_⟩;have:=h.1;have:=h.2;simp at this;omega
 .rw[h];exact w8
end
noncomputable def s6(g:fu)(p:Pos):Int:=if ended g p then(g.clauses.findIdx λc=>decide (kf p c):Nat)else -1
theorem Nv{g:fu}{p:Pos}(h:ended g p):0<=s6 g p/\s6 g p<g.clauses.length/\gt g.clauses (s6 g p)∈g.clauses:=by
 unfold s6;rw[if_pos h]
 have:(g.clauses.findIdx λc=>decide (kf p c))<g.clauses.length:=by rw[List.findIdx_lt_length];obtain⟨c,a,hl⟩:=h;exact⟨c,a,by simpa using hl⟩
 exact qe (fM (by omega) (by omega))
theorem Td{g:fu}{p:Pos}(h:¬ended g p):s6 g p = -1:=by unfold s6;rw[if_neg h]
theorem Kh{g:fu}{p:Pos}:0<=s6 g p↔ended g p:=by
 by_cases h:ended g p
 .exact⟨λ_=>h,λ_=>(Nv h).1⟩
 .rw[Td h];simp[h]
noncomputable def stat(g:fu)(p:Pos):Int×Bool:=(if ended g p then(gt g.clauses (s6 g p)).out else if ic g p = []then g.blocked else 0,decide (ic g p = []))
theorem akK{g:fu}(hg:gu g){p:Pos}(h:(stat g p).2=true):1<=(stat g p).1/\(stat g p).1<=3:=by
 unfold stat at *;simp only[decide_eq_true_eq]at h ⊢;split
 .rename_i a;exact(hg.clause _ (Nv a).2.2).out
 .exact hg.blocked
end Go.AL
namespace Go.Proofs.YtmehofoficaelaaGreatDoor
open Go Go.AL Classical
set_option maxRecDepth 10000
set_option maxHeartbeats 1000000
theorem TH(p:Pos)(a:Small p):Wf T 205 [dP p] [] (λd H=>d = .agg [.fm 0 1 1 0 p.cs.length,dI p.h0,dI p.h1,.i p.fY,.i p.side]/\H = [.row 3 1 (cl f1 p.cs)]):=by obtain⟨h1,c,b⟩:=a;refine Wf.xo 3 (fn:=xv) rfl (by simp[xv]) ?_;simp[xv];exact lZ
@[irreducible] def fA(a:List fF):List D:=[jN a]
theorem zr(a:List fF):fA a = [jN a]:=by unfold fA;rfl
instance:Fl fA 1:=⟨λ_=>by simp[zr],λ_=>by simp[zr,fR]⟩
@[simp] theorem aoP(l:List (List fF))(x:List fF):cl fA l ++ [jN x]=cl fA (l ++ [x]):=by rw[<-oZ,zr]
theorem Zt(x:List fF) : [jN x]=cl fA [x]:=by rw[mm,zr];simp
def nM(g:fu)(x:fq)(now:List fF):List fF:=now.foldl (λa s=>lA a (im g s x)) []
def oz(g:fu):List fq->List fF->List (List fF)
 | [],_=>[]
 | x::r,now=>nM g x now::oz g r (nM g x now)
theorem T0{g:fu}{x:fq}{t:fF}:∀ {now a:List fF},t∈now.foldl (λa s=>lA a (im g s x)) a↔t∈a\/t∈now.flatMap λs=>im g s x
 | [],a=>by simp
 | s::r,a=>by rw[bT,T0,Dx,List.flatMap_cons,List.mem_append,or_assoc]
theorem LN{g:fu}{x:fq}{now:List fF}{t:fF}:t∈nM g x now↔t∈now.flatMap λs=>im g s x:=by unfold nM;rw[T0];simp
theorem TZ{g:fu}{x:fq}:∀ {now c:List fF},(now.foldl (λc s=>lA c (im g s x)) c).length<=c.length+10*now.length
 | [],c=>by simp
 | s::r,c=>by rw[bT];refine Nat.le_trans TZ ?_;have:=Dw (a:=c) (b:=im g s x);have:=CW (g:=g) (s:=s) (x:=x);rw[aG];omega
theorem FE{g:fu}{x:fq}{now:List fF}:(nM g x now).length<=10*now.length:=by unfold nM;refine Nat.le_trans TZ ?_;simp
theorem X1{g:fu}:∀ {l:List fq} {now:List fF},(oz g l now).length=l.length
 | [],_=>rfl
 | x::r,now=>by rw[oz,aG,X1,aG]
theorem f194(g:fu)(hg:gu g)(p:Pos)(m:gJ g p)(c i:Int)(o:0<=c/\c<g.size)(r:jr (gt p.cs c)=p.side)(hi:0<=i/\i<(gt g.kinds (fX (gt p.cs c))).iG.length) :
  Wf T 254 [dG g,dP p,.i c,.i i] [] (Is (.agg [.sl 1 (([kC p c]::oz g (gt (gt g.kinds (fX (gt p.cs c))).iG i) [kC p c]).map fA),.i 0])):=by
 have H:=m.size;have w:=m.small hg;have z:=m.cs _ (fM o.1 (by omega));have y:=m.side;obtain⟨m1,m2,m3,m4⟩:=Fw y.1 r;have A:fX (gt p.cs c)<g.kinds.length:=wY z.2 hg.kinds.1;refine Yz De (ik 117 [10] De.body) ?_;simp[De,ik,jG,me,mg,mq,kQ];refine Yc (f65 g p hg m) ?_;simp;(with_reducible repeat' first|refine Xk ?_<;>try simp|refine Xs ?_ ?_<;>intro h<;>(try intro C)<;>(try simp[h])<;>try omega|refine Xg ?_|omega);refine Yc (f51 _) ?_;simp;(with_reducible repeat' first|refine Xk ?_<;>try simp|refine Xs ?_ ?_<;>intro h<;>(try intro C)<;>(try simp[h])<;>try omega|refine Xg ?_|omega)
 rotate_right
 refine uW.n rfl rfl (TH p w) (by simp) (by simp) ?_;simp;refine fo ?_;refine fE.fz [0,1,3,4,5,6,8] rfl ?_;have q0:=ig (l:=p.cs) (n:=c) (v:=0) o.1 (by omega);have E:jE g (kC p c):=Gm hg m o.1 o.2 r;have F:=hg.iG _ (fM (l:=g.kinds) m1 A);generalize u:gt (gt g.kinds (fX (gt p.cs c))).iG i=prog at *;have q:vQ g prog:=F.2 _ (u▸fM hi.1 hi.2);have I:=q.len
 refine fE.k ((0,[[kC p c]],[kC p c]):Int×List (List fF)×List fF) (λx=>[(4,.fH g.cells),(8,.ptr 2 0 0),(11,.ptr 9 0 0),(12,jN x.2.2),(13,gQ prog),(14,.i x.1)]) (λx=>[.dead,.dead,.row 369 0 [.fw,.i 0],.dead,.dead,.dead,.dead,.row 371 x.1.toNat (cl fA x.2.1),.dead,.row 369 0 [.fm 7 x.1.toNat 1 0 x.2.1.length,.i 0]])
  (λx=>0<=x.1/\x.1<=prog.length/\x.2.1.length=x.1.toNat+1/\(∀s∈x.2.2,jE g s)/\x.2.2.length<=10 ^ x.1.toNat/\[kC p c]::oz g prog [kC p c]=x.2.1++oz g (prog.drop x.1.toNat) x.2.2) (λx=>prog.length-x.1.toNat) ?_ ?_ ?_ rfl rfl (by simp) ?_
 .simp;exact E
 .simp[kC,q0]
 .simp[kC,<-Zt,q0]
 rintro⟨k,steps,now⟩ ⟨k0,k1,k2,k3,k4,k5⟩;dsimp only at k0 k1 k2 k3 k4 k5 ⊢;simp;refine ju ?_ ?_<;>intro h
 .refine fE.e ((0,0,[]):Int×Nat×List fF) (λx=>[(4,.fH g.cells),(8,.ptr 2 0 0),(11,.ptr 9 0 0),(12,jN now),(13,gQ prog),(14,.i k),(15,.fm 10 x.2.1 8 0 x.2.2.length),(16,.i x.1)]) (λx=>[.dead,.dead,.row 369 0 [.fw,.i 0],.dead,.dead,.dead,.dead,.row 371 k.toNat (cl fA steps),.dead,.row 369 0 [.fm 7 k.toNat 1 0 steps.length,.i 0],.row 373 x.2.1 (cl fF.cells x.2.2)]) (λx=>0<=x.1/\x.1<=now.length/\(∀s∈x.2.2,jE g s)/\x.2.2.length<=10*x.1.toNat/\nM g (gt prog k) now=(now.drop x.1.toNat).foldl (λf s=>lA f (im g s (gt prog k))) x.2.2) (λx=>now.length-x.1.toNat) ?_ ?_
  .simp[nM]
  rintro⟨j,D,f⟩ ⟨j0,j1,j2,j3,j4⟩;dsimp only at j0 j1 j2 j3 j4 ⊢;simp;refine ju ?_ ?_<;>intro h
  .refine Yt (f228 g hg _ (k3 _ (fM j0 ‹_›)) _ (q.steps _ (fM k0 ‹_›))) ?_;simp;have ft:=k3 _ (fM j0 ‹_›);refine fL.lG rfl rfl (f227 10 D f (im g (gt now j) (gt prog k)) _ rfl (by simp) (λs hs=>(j2 s hs).p.small hg) (λs hs=>(A0 hg ft (q.steps _ (fM k0 ‹_›)) hs).p.small hg) ?_) ?_
   .have h1:=CW (g:=g) (s:=gt now j) (x:=gt prog k);have B:10 ^ k.toNat<=10 ^ 8:=cE (by decide) (by omega);omega
   rintro d H' ⟨G,rfl,rfl⟩;simp;have B:10 ^ k.toNat<=10 ^ 8:=cE (by decide) (by omega);refine fo ?_;refine LJ.e (j+1,G,lA f (im g (gt now j) (gt prog k))) ?_;refine⟨by dsimp only;omega,by dsimp only;omega,by dsimp only;omega,λs hs=>?_,?_,?_⟩
   .rcases Dx.1 hs with hs|hs
    .exact j2 s hs
    .exact A0 hg ft (q.steps _ (fM k0 ‹_›)) hs
   .have h1:=CW (g:=g) (s:=gt now j) (x:=gt prog k);have t:=Dw (a:=f) (b:=im g (gt now j) (gt prog k));dsimp only;omega
   .rw[j4,mP j0 ‹_›,bT,show(j+1).toNat=j.toNat+1 by omega]
  .have e:nM g (gt prog k) now=f:=by rw[j4,bn (by omega)];rfl
   refine fo ?_;refine LJ.i (k+1,steps ++ [f],f) (by first|rfl|simp[show(k+1).toNat=k.toNat+1 by omega]) (by first|rfl|simp[show(k+1).toNat=k.toNat+1 by omega]) rfl rfl ?_;refine⟨by dsimp only;omega,by dsimp only;omega,by dsimp only;omega,by simp;omega,j2,?_,?_⟩
   .have t:=FE (g:=g) (x:=gt prog k) (now:=now);rw[e]at t;dsimp only;rw[show(k+1).toNat=k.toNat+1 by omega,dW];omega
   .rw[k5,mP k0 ‹_›,oz,e,show(k+1).toNat=k.toNat+1 by omega];simp
 .rw[bn (by omega),oz,ay]at k5;rw[<-k5];simp
theorem adX{a b:gh}(h1:¬Fs a b)(c:¬Fs b a):a=b:=by
 unfold Fs at *;have e:=tO a.p b.p
 have h:gP a.p b.p=0:=by
  by_cases h:gP a.p b.p=0
  .exact h
  .exfalso
   by_cases d:gP a.p b.p<0
   .exact h1 (.inl d)
   .exact c (.inl (by omega))
 have f:gP b.p a.p=0:=by omega
 simp[h,f]at h1 c;have:=pU.1 h;cases a;cases b;simp_all;rename_i x y _;cases x<;>cases y<;>simp_all
structure JA(l:List gh)(x:gh)(i:Int)(d:Bool)(out:List gh):Prop where
 i0:0<=i/\i<=l.length
 dn:d=true->x∈out
 sub:∀o∈out,o∈l.take i.toNat\/o=x
 sup:∀o∈l.take i.toNat,o∈out
 len:out.length<=i.toNat+(if d then 1 else 0)
theorem JA.step{l:List gh}{x:gh}{i:Int}{d d':Bool}{out:List gh}(h:JA l x i d out)(hi:i<l.length)(xs:List gh)(b:∀o∈xs,o=x)(c:d'=true->d=true\/x∈xs\/gt l i=x)(hl:xs.length+(if d then 1 else 0)<=(if d' then 1 else 0)):JA l x (i+1) d' (out++xs ++ [gt l i]):=by
 have h0:=h.i0;refine⟨by omega,λe=>?_,λo a=>?_,λo a=>?_,?_⟩
 .rcases c e with e|e|e
  .have:=h.dn e;simp[this]
  .simp[e]
  .simp[e]
 .rw[iD h0.1 hi];simp at a ⊢;rcases a with a|a|a
  .rcases h.sub o a with h|h
   .exact .inl (.inl h)
   .exact .inr h
  .exact .inr (b o a)
  .exact .inl (.inr a)
 .rw[iD h0.1 hi]at a;simp at a ⊢;rcases a with a|a
  .exact .inl (h.sup o a)
  .exact .inr (.inr a)
 .have:=h.len;simp;omega
theorem f195(l:List gh)(x:gh)(hl:l.length<2 ^ 39)(hs:∀o∈l,Small o.p)(k:Small x.p):Wf T 255 [mO l,.agg x.cells] [] (Ex mO λr=>(∀o,o∈r↔o∈l\/o=x)/\r.length<=l.length+1):=by
 refine Yg Iw ?_;simp[Iw];refine fE.e ((0,false,[]):Int×Bool×List gh) (λy=>[(0,mO l),(3,.ptr 0 0 0),(5,.fm 1 y.2.2.length 6 0 y.2.2.length),(6,.b y.2.1),(7,.i y.1)]) (λy=>[.row 259 0 x.cells,.row 259 y.2.2.length (cl gh.cells y.2.2)]) (λy=>JA l x y.1 y.2.1 y.2.2) (λy=>l.length-y.1.toNat) ?_ ?_
 .exact⟨by simp,by simp,by simp,by simp,by simp⟩
 rintro⟨i,done,out⟩ c;have h0:=c.i0;have j:=c.len;have m:(if done=true then 1 else 0)<=1:=by split<;>omega
 dsimp only at c h0 j ⊢;simp;(with_reducible repeat' first|refine Xk ?_<;>try simp|refine Xs ?_ ?_<;>intro h<;>(try intro n)<;>(try simp[h])<;>try omega|refine Xg ?_|omega)
 .refine LJ.e (i+1,true,out ++ [gt l i]) ?_;subst h;have:=c.step ‹_› [] (d':=true) (by simp) (by simp) (by simp);simp at this;exact⟨by simp;omega,this⟩
 .have d:=h;refine Yt (f229 _ _ (hs _ (fM h0.1 ‹_›)) k) ?_;simp[h];refine JE d ?_ ?_<;>intro h
  .subst d;have:=c.step ‹_› [] (d':=false) (by simp) (by simp) (by simp);simp at this;refine LJ.e (i+1,false,out ++ [gt l i]) ?_;exact⟨by simp;omega,this⟩
  .refine Yt (f229 _ _ k (hs _ (fM h0.1 ‹_›))) ?_;simp[d];refine JE d ?_ ?_<;>intro h
   .subst d;have:=c.step ‹_› [x] (d':=true) (by simp) (by simp) (by simp);refine LJ.e (i+1,true,out ++ [x] ++ [gt l i]) ?_;exact⟨by simp;omega,this⟩
   .subst d;have e:=adX (a:=gt l i) (b:=x) ‹_› ‹_›;have:=c.step ‹_› [] (d':=true) (by simp) (by simp[e]) (by simp);simp at this;refine LJ.e (i+1,true,out ++ [gt l i]) ?_;exact⟨by simp;omega,this⟩
 .subst h;have g:=c.sub;have f:=c.sup;rw[kq (by omega)]at g f;refine⟨out,rfl,λo=>⟨g o,λh=>?_⟩,by simp at j;omega⟩;rcases h with h|h
  .exact f o h
  .rw[h];exact c.dn rfl
 .subst h;have g:=c.sub;have f:=c.sup;rw[kq (by omega)]at g f;refine⟨out ++ [x],by simp[mO],λo=>?_,by simp at j;simp;omega⟩;simp;constructor
  .rintro(h|h)
   .exact g o h
   .exact .inr h
  .rintro(h|h)
   .exact .inl (f o h)
   .exact .inr h
theorem VX{g:fu}:∀ {l:List fq} {now:List fF} {t:fF},t∈gt (now::oz g l now) l.length↔t∈rQ g l now
 | [],now,t=>by simp[oz,rQ,gt]
 | x::r,now,t=>by
  have e:gt (now::oz g (x::r) now) (x::r).length=gt (nM g x now::oz g r (nM g x now)) r.length:=by rw[oz];unfold gt;simp only[aG,b9,List.getD_cons_succ]
  rw[e,VX,rQ];exact XI (λs=>LN) t
theorem VW{g:fu}:∀ {l:List fq} {now:List fF},(gt (now::oz g l now) l.length).length<=10 ^ l.length*now.length
 | [],now=>by simp[oz,gt]
 | x::r,now=>by
  have e:gt (now::oz g (x::r) now) (x::r).length=gt (nM g x now::oz g r (nM g x now)) r.length:=by rw[oz];unfold gt;simp only[aG,b9,List.getD_cons_succ]
  rw[e];refine Nat.le_trans VW ?_;rw[aG,dW,fg];exact ea _ FE
theorem f154(g:fu)(hg:gu g)(p:Pos)(b:gJ g p)(c i:Int)(f:0<=c/\c<g.size)(m:jr (gt p.cs c)=p.side)(hi:0<=i/\i<(gt g.kinds (fX (gt p.cs c))).iG.length) :
  Wf T 204 [dG g,dP p,.i c,.i i] [] (Ex (λr=>.tup [mO r,.i 0]) λr=>(∀o,o∈r↔o∈tq g p c (gt (gt g.kinds (fX (gt p.cs c))).iG i))/\r.length<=10 ^ 8):=by
 have H:=b.cs _ (fM f.1 (by have:=b.size;omega));have a:=b.side;obtain⟨m1,m2,m3,m4⟩:=Fw a.1 m;have I:fX (gt p.cs c)<g.kinds.length:=wY H.2 hg.kinds.1;have K:jE g (kC p c):=Gm hg b f.1 f.2 m;have O:=hg.iG _ (fM (l:=g.kinds) m1 I);have M:=f194 g hg p b c i f m hi;generalize F:gt (gt g.kinds (fX (gt p.cs c))).iG i=prog at *;have C:vQ g prog:=O.2 _ (F▸fM hi.1 hi.2);have N:=C.len;have w:∀t,t∈gt ([kC p c]::oz g prog [kC p c]) prog.length↔t∈rQ g prog [kC p c]:=λt=>VX;have P:=VW (g:=g) (l:=prog) (now:=[kC p c]);have X:10 ^ prog.length<=10 ^ 8:=cE (by decide) N.2;have E:=X1 (g:=g) (l:=prog) (now:=[kC p c]);generalize hS : [kC p c]::oz g prog [kC p c]=S at *;have U:S.length=prog.length+1:=by rw[<-hS];simp[E]
 refine Yz Dd (ik 70 [5] Dd.body) ?_;simp[Dd,ik,jG,me,mg,mq,kQ];refine Yc (M) ?_;simp;(with_reducible repeat' first|refine Xk ?_<;>try simp[zr]|refine Xs ?_ ?_<;>intro h<;>(try intro Y)<;>(try simp[h,zr])<;>try omega|refine Xg ?_|omega);rw[show(S.length:Int)-1=prog.length by omega];generalize gt S (prog.length:Int)=L at *;have ft:∀s∈L,jE g s:=λs hs=>Me hg C.steps (λt e=>by rw[List.mem_singleton]at e;subst e;exact K) s ((w s).1 hs);have Z:L.length<=100000000:=by simp at P;omega
 simp[zr];refine fo ?_;refine fE.fz [0,2,3] rfl ?_;refine fE.e ((0,[]):Int×List gh) (λy=>[(5,.ptr 1 0 0),(11,mO y.2),(12,jN L),(13,.i y.1)]) (λy=>[.dead,.row 46 0 p.cells,.dead,.dead]) (λy=>0<=y.1/\y.1<=L.length/\(∀o,o∈y.2↔o∈(L.take y.1.toNat).filterMap (nc p.side))/\y.2.length<=y.1.toNat) (λy=>L.length-y.1.toNat) ?_ ?_
 .simp
 rintro⟨j,out⟩ ⟨j0,j1,j2,j3⟩;dsimp only at j0 j1 j2 j3 ⊢;simp;refine ju ?_ ?_<;>intro h
 .have hs:=ft _ (fM j0 ‹_›);have R:=hs.p.small hg;have W:=hs.p.size;have u:=hs.cur;have Q:=hs.kind;have V:=hg.kinds;generalize B:gt L j=s at *;refine ju ?_ ?_<;>intro h
  .have q:=ig (l:=s.p.cs) (n:=s.cur) (v:=1+2*s.kind+p.side) u.1 (by omega);refine Yn (TH s.p R) ?_;simp;refine Yt (f156 (k:=s.kind) (s:=p.side) Q.1 (by omega) a.1 a.2) ?_;simp[q];refine ja q ?_;generalize d:({ p:=⟨pt s.p.cs s.cur (1+2*s.kind+p.side),s.p.h0,s.p.h1,s.p.fY,1-p.side⟩,je:=s.je }:gh)=o;have z:nc p.side s=some o:=by rw[nc,if_pos ‹_›,<-d];rfl
   have D:Small o.p:=gJ.small hg (Kt hs a.1 a.2 z)
   have G:∀o∈out,Small o.p:=λo d=>by obtain⟨t,e,J⟩:=cK.1 ((j2 o).1 d);exact gJ.small hg (Kt (ft t (aN e)) a.1 a.2 J)
   have c2:=f195 out o (by omega) G D;rw[<-d]at c2;refine fL.q rfl rfl c2 (by simp) (λ_=>by simp) ?_;intro r A;simp;rw[d]at A;refine fo ?_;refine LJ.e (j+1,r) ?_;refine⟨by dsimp only;omega,by dsimp only;omega,by dsimp only;omega,λx=>?_,by dsimp only;omega⟩;rw[A.1,j2,iD j0 ‹_›,B];simp[z,eq_comm]
  .refine fo ?_;refine LJ.e (j+1,out) ?_;refine⟨by dsimp only;omega,by dsimp only;omega,by dsimp only;omega,λx=>?_,by dsimp only;omega⟩;rw[j2,iD j0 ‹_›,B];have:nc p.side s=none:=by rw[nc,if_neg ‹_›]
   simp[this]
 .rw[kq (by omega)]at j2;refine⟨out,rfl,λo=>?_,?_⟩
  .rw[j2,tq];simp only[cK,w]
  .omega
