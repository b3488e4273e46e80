/- Part 12 of DisputeMatchesReference. -/
import Derived.Test.YtmehofoficaelaaGreatDoorM11
set_option linter.all false
open Bool renaming true→aE,false→cp
open List renaming all_eq_true→bb,getD_cons_succ→cj,flatMap_cons→di,map_nil→dr,length→List.l
open Nat renaming le_trans→bs
open Option renaming some→b4
open Int renaming toNat→Int.n
namespace Go.Proofs.YtmehofoficaelaaGreatDoor
open Go Go.AL Classical
set_option maxRecDepth 10000
set_option maxHeartbeats 1000000
def f253(g:gv)(hg:gZ g)(s:gG)(hs:kU g s)(n:Int):Wf T 297 [dG g,.agg s.cells,.i n] [] (Is (lr (sf s (mb g s.p.side n s.cur)))):=by
 have hl:=TY (g:=g) (s:=s.p.side) (d:=n) (c:=s.cur);have j:=hs.p.size;refine Yg MI ?_;simp[MI];refine Yc (f263 g hg.ki s.p.side n s.cur) ?_;simp;generalize f:mb g s.p.side n s.cur=L at *;have gQ:∀y∈L,0<=y/\y<g.size:=λy e=>TX hg.ki (f▸e);refine gx.j ((0,[]):Int×List gG) (λx=>[(4,.ptr 1 0 0),(7,.gh 2 x.2.l 8 0 x.2.l),(8,dI L),(9,.i x.1)]) (λx=>[.row 43 0 g.cells,.row 373 0 s.cells,.row 373 x.2.l (cl gG.cells x.2)]) (λx=>0<=x.1/\x.1<=L.l/\x.2.l=x.1.n/\sf s L=x.2++sf s (L.drop x.1.n)) (λx=>L.l-x.1.n) ?_ gf sw rfl ?_
 .simp
 rintro⟨i,out⟩ ⟨h0,h1,b,a⟩;dsimp only at h0 h1 b a ⊢;simp;refine kz ?_ ?_<;>intro h
 .have k:=gQ _ (gF h0 ‹_›);rw[o7 h0 ‹_›,sf]at a;refine kz ?_ ?_<;>intro h
  .refine⟨i+1,out ++ [{ s with cur:=gt L i }],gf,rfl,gf,by rw[<-rK],U,U,U,by simp[b];omega,?_⟩;rw[a,if_pos ‹_›,(U:(i+1).n=i.n+1)];simp
  .rw[if_neg ‹_›]at a;rw[a];simp[lr]
 .rw[bF U]at a;rw[a];simp[sf]
def aa6{n s:Int}(_:0<=n)(a:0<=gV n)(h:kE n≠s)(hs:0<=s/\s<=1):kE n=1-s:=by
 unfold gV kE at *;split at a
 .rename_i e;rw[if_pos e]at h ⊢;omega
 .omega
def f254(g:gv)(hg:gZ g)(s:gG)(hs:kU g s):Wf T 298 [dG g,.agg s.cells] [] (Is (lr (uN g s))):=by
 have r:=hs.p.size;have d:=hs.cur;have j:=hs.p.small hg;refine Yg MJ ?_;simp[MJ];refine gi ?_;refine Yc (f51 _) ?_;simp;have b:=hs.p.cs _ (gF d.1 U);have i:=hg.kinds;have f:=hs.p.side;(with_reducible repeat' first|refine Xk ?_<;>try simp|refine Xs ?_ ?_<;>intro h<;>(try intro u)<;>(try simp[h])<;>try omega|refine Xg ?_|omega)
 .rw[uN,if_pos];unfold gV at *;unfold kE;split at h<;>rename_i m
  .omega
  .rw[if_neg m];omega
 .rw[uN,if_pos U]
 .have t:gV (gt s.p.cs s.cur)<g.kinds.l:=zN b.2 i.1;have o:s.p.side=0\/s.p.side=1:=U;have q:=hs.p.h0.len;have p:=hs.p.h1.len;have q0:=jg (l:=s.p.cs) (n:=s.cur) (v:=0) d.1 U;refine Yn (Oj s.p j) ?_;simp;refine G6 q0 ?_ ?_<;>intro h
  .have a:kE (gt s.p.cs s.cur)=1-s.p.side:=aa6 b.1 U jX f;have c:=h;rcases o with e|e
   .have k:=hs.p.h0.at_ _ U (U:gV (gt s.p.cs s.cur)<s.p.h0.l);have q1:=ES (l:=s.p.h0) (n:=gV (gt s.p.cs s.cur)) (v:=gt s.p.h0 (gV (gt s.p.cs s.cur))+1) U U;have q2:=jg (l:=s.p.h0) (n:=gV (gt s.p.cs s.cur)) (v:=gt s.p.h0 (gV (gt s.p.cs s.cur))+1) U U;simp[e,q1,q2];refine kz ?_ ?_<;>intro h
    all_goals simp[uN,a,c,Pos.hand,Pos.oe,e,q0,q2]
    .rw[if_neg U]
    .rw[if_pos U]
   .have k:=hs.p.h1.at_ _ U (U:gV (gt s.p.cs s.cur)<s.p.h1.l);have q1:=ES (l:=s.p.h1) (n:=gV (gt s.p.cs s.cur)) (v:=gt s.p.h1 (gV (gt s.p.cs s.cur))+1) U U;have q2:=jg (l:=s.p.h1) (n:=gV (gt s.p.cs s.cur)) (v:=gt s.p.h1 (gV (gt s.p.cs s.cur))+1) U U;simp[e,q1,q2];refine kz ?_ ?_<;>intro h
    all_goals simp[uN,a,c,Pos.hand,Pos.oe,e,q0,q2]
    .rw[if_neg U]
    .rw[if_pos U]
  .have a:kE (gt s.p.cs s.cur)=1-s.p.side:=aa6 b.1 U jX f;simp[uN,a,h,q0]
def f255(g:gv)(hg:gZ g)(s:gG)(hs:kU g s)(n:Int):Wf T 299 [dG g,.agg s.cells,.i n] [] (Is (lr (vE g s n))):=by
 have c:=hs.p.size;have a:=hs.cur;have b:=hs.p.small hg;have d:=hg.ki.to s.p.side n s.cur;refine Yg MK ?_;simp[MK];refine Yc (f251 g hg.ki s.p.side n s.cur) ?_;simp;(with_reducible repeat' first|refine Xk ?_<;>try simp|refine Xs ?_ ?_<;>intro h<;>(try intro e)<;>(try simp[h])<;>try omega|refine Xg ?_|omega)
 .rw[vE,if_pos oh]
 .rw[vE,if_pos oh]
 .have q0:=jg (l:=s.p.cs) (n:=mX g s.p.side n s.cur) (v:=gt s.p.cs s.cur) U U;have q1:=jg (l:=pt s.p.cs (mX g s.p.side n s.cur) (gt s.p.cs s.cur)) (n:=s.cur) (v:=0) a.1 U;refine Yn (Oj s.p b) ?_;simp;refine jT q0 q1 ?_;simp[vE, *]
 .rw[vE,if_pos oh]
end Go.Proofs.YtmehofoficaelaaGreatDoor
namespace Go.AL
open Go
def oC(n:Nat):D->Bool
 | .gh v _ _ _ _ | .ptr v _ _ | .gM v | .jt v=>decide (v<n)
 | d=>closed d
def jW(n:Nat):D->Bool
 | .agg cs | .tup cs | .gH cs=>cs.all (oC n)
 | .fn _ a b=>a.all (oC n)&&b.all (oC n)
 | d=>oC n d
def oO(n:Nat):Ob->Bool
 | .row _ _ cs=>cs.all (jW n)
 | .map _ es=>es.all λx=>jW n x.2
 | .iE _ env _=>env.all λx=>jW n x.2
 | .ua _ _=>aE
 | .jG m _ _=>oC n m
 | .ka=>aE
 | .dead=>aE
 | .mF=>cp
def jM(n:Nat)(H:gg):Prop:=∀o∈H,oO n o=aE
def U4{ρ:Nat->Option Nat}{H:gg}{n k:Nat}(a:∀u,u<n->ρ u=b4 u){d:D}(h:oC n d=aE):gA ρ H (k+1) d=d:=by
 cases d with
 | gh v g sz off len=>simp only[oC,decide_eq_true_eq]at h;rw[U3,a v h,apv]
 | ptr v g off=>simp only[oC,decide_eq_true_eq]at h;rw[apA,a v h,apw]
 | gM v=>simp only[oC,decide_eq_true_eq]at h;rw[apz,a v h,apu]
 | jt v=>
  simp only[oC,decide_eq_true_eq]at h;rw[gA,if_neg gf];rw[a v h]
 | _=>exact sq h
def Jn{ρ:Nat->Option Nat}{H:gg}{n k:Nat}(a:∀u,u<n->ρ u=b4 u){cs:List D}(h:cs.all (oC n)=aE):cs.map (gA ρ H (k+1))=cs:=by
 conv=>rhs;rw[<-bf cs]
 exact aw λd b=>U4 a (bb.1 h d b)
def Ge{ρ:Nat->Option Nat}{H:gg}{n k:Nat}(c:∀u,u<n->ρ u=b4 u){d:D}(h:jW n d=aE):gA ρ H (k+2) d=d:=by
 cases d with
 | agg cs=>rw[apy,Jn c h]
 | tup cs=>rw[apB,Jn c h]
 | gH cs=>
  by_cases e:closed (.gH cs)=aE
  .simp_all
  .rw[gA,if_neg e,Jn c h]
 | fn f a b=>
  simp only[jW,ai]at h
  by_cases e:closed (.fn f a b)=aE
  .simp_all
  .rw[gA,if_neg e,Jn c h.1,Jn c h.2]
 | _=>exact U4 c h
def apx{ρ:Nat->Option Nat}{H:gg}{n:Nat}(a:∀u,u<n->ρ u=b4 u){o:Ob}(h:oO n o=aE):qv ρ H o=o:=by
 have key:∀ {α:Type} (l:List (α×D)),(l.all λx=>jW n x.2)=aE->(l.map λx=>(x.1,gA ρ H 40 x.2))=l:=by
  intro α l hl
  conv=>rhs;rw[<-bf l]
  exact aw λx b=>by have:=bb.1 hl x b;rw[Ge a this];rfl
 cases o with
 | row t g cs=>
  simp only[qv];congr 1
  conv=>rhs;rw[<-bf cs]
  exact aw λd c=>Ge a (bb.1 h d c)
 | map kk es=>simp only[qv];rw[key es h]
 | iE rf env st=>simp only[qv];rw[key env h]
 | ua=>rfl
 | jG m since seen=>simp only[qv];rw[U4 a h]
 | ka=>rfl
 | dead=>rfl
 | mF=>cases h
def Ga{n u:Nat}(h:u<n):jc (jC n []) u=b4 u:=by unfold jc jC;rw[dr,aD];rw[ey];refine⟨by simpa using h,gf,λj a=>gO⟩
def JT{n:Nat}{H G:gg}(b:H.l=n)(h:jM n H):sV (jC n []) (H++G)=H:=by
 unfold sV;refine bY λi=>?_;rw[ax];unfold jC;rw[dr,aD,ax]
 by_cases hi:i<n
 .rw[bW hi];simp only[aK,if_true];rw[ah U,List.getElem?_eq_getElem U];simp only;congr 1;have e:((List.range n).map λv=>(v,aE))=jC n []:=by unfold jC;simp
  rw[e];exact apx (λu a=>Ga a) (h _ (bU _))
 .grind
def QJ{n:Nat}{d:D}(h:jW n d=aE):jP n d = []:=by cases d<;>first|rfl|(simp only[jW,oC,decide_eq_true_eq]at h;simp only[jP];rw[if_neg U])
theorem flatten_nil{α c:Type}{f:α->List c}:∀ {l:List α},(∀a∈l,f a = [])->(l.map f).flatten = []
 | [],_=>rfl
 | a::l,h=>by rw[List.map_cons,a8,h a gf,flatten_nil λb d=>h b (by simp[d])];rfl
def Ur{n:Nat}{o:Ob}(h:oO n o=aE):pZ n o = []:=by
 cases o with
 | row t g cs=>exact flatten_nil λd b=>QJ (bb.1 h d b)
 | map kk es=>exact flatten_nil λx a=>QJ (bb.1 h x a)
 | _=>rfl
def aeH{n:Nat}{live:List Nat}{env:Env}{H G:gg}{m:List Nat}{r:Bool}(j:Dx live=cp)(h:H.l=n)(e:jM n H)(d:((forget live env).all λp=>jW n p.2)=aE)(i:(m.all λv=>decide (v<n))=aE) :
  cut n live { env:=env,H:=H++G,marks:=m,iM:=r } = { env:=forget live env,H:=H,marks:=m,iM:=r }:=by
 by_cases hg:(H++G).l<=n
 .have:G = []:=by
   cases G with
   | nil=>rfl
   | cons a l=>simp at hg;omega
  subst this;rw[aD];exact W8 (by show H.l<=n;omega)
 .unfold cut;dsimp only;rw[if_neg (by rw[j];simpa using hg)];have t:((forget live env).map λp=>jP n p.2).flatten = []:=flatten_nil λp b=>QJ (bb.1 d p b)
  have s:(((H++G).take n).map (pZ n)).flatten = []:=flatten_nil λo c=>by rw[aZ U,af U]at c;exact Ur (e o c)
  have q:m.filter (n<=·) = []:=oh;rw[t,s,q];have k:dedup (([] ++ [] ++ []:List Nat).filter (· < (H++G).l)) = []:=rfl;rw[k,JT h e];congr 1
  .conv=>rhs;rw[<-bf (forget live env)]
   exact aw λp b=>by rw[Ge (λu g=>Ga g) (bb.1 d p b)];rfl
  .conv=>rhs;rw[<-bf m]
   exact aw λv f=>by have:=bb.1 i v f;rw[Ga (by simpa using this)];rfl
def aiB{n:Nat}{H G:gg}{d:D}(f:H.l=n)(c:jM n H)(g:jW n d=aE):leave 0 n (H++G) d=(d,H):=by
 by_cases hg:(H++G).l<=n
 .have:G = []:=by
   cases G with
   | nil=>rfl
   | cons a l=>simp at hg;omega
  subst this;rw[aD];exact aaN U 0
 .unfold leave;rw[if_neg U]
  have i:(((H++G).take n).map (pZ n)).flatten = []:=flatten_nil λo b=>by rw[aZ U,af U]at b;exact Ur (c o b)
  simp only;rw[i];have h:dedup (([] ++ []:List Nat).filter (· < (H++G).l)) = []:=rfl;rw[h,JT f c,Ge (λu e=>Ga e) g]
def rE{n v:Nat}{H:gg}{o:Ob}(h:jM n H)(b:oO n o=aE):jM n (H.set v o):=λx a=>by
 rcases dT a with a|rfl
 .exact h x a
 .exact b
def Gg{n:Nat}{d:D}(h:closed d=aE):oC n d=true:=by cases d<;>first|exact h|(cases h;done)|(simp only[closed]at h;cases h)
def DS{n:Nat}{d:D}(h:closed d=aE):jW n d=true:=by
 cases d with
 | agg cs=>exact bb.2 λd c=>Gg (mL (by simpa using h) d c)
 | tup cs=>exact bb.2 λd c=>Gg (mL (by simpa using h) d c)
 | gH cs=>exact bb.2 λd c=>Gg (mL (by simpa using h) d c)
 | fn f a b=>
  simp only[WT,ai]at h;simp only[jW,ai];exact⟨bb.2 λd c=>Gg (mL h.1 d c),bb.2 λd c=>Gg (mL h.2 d c)⟩
 | _=>exact Gg (n:=n) h
@[simp] theorem az9{n:Nat}{d:D}(h:closed d=aE):jW n d=true:=DS h
@[simp] theorem aAd(n v g sz off len:Nat):jW n (.gh v g sz off len)=decide (v<n):=rfl
@[simp] theorem aAe(n v g off:Nat):jW n (.ptr v g off)=decide (v<n):=rfl
@[simp] theorem aAc(n v:Nat):jW n (.gM v)=decide (v<n):=rfl
@[simp] theorem az8(n:Nat)(cs:List D):jW n (.agg cs)=cs.all (oC n):=rfl
@[simp] theorem aAf(n:Nat)(cs:List D):jW n (.tup cs)=cs.all (oC n):=rfl
@[simp] theorem aAh(n v g sz off len:Nat):oC n (.gh v g sz off len)=decide (v<n):=rfl
@[simp] theorem aAi(n v g off:Nat):oC n (.ptr v g off)=decide (v<n):=rfl
@[simp] theorem aAa(n:Nat)(f:Fn)(a b:List D):jW n (.fn f a b)=(a.all (oC n)&&b.all (oC n)):=rfl
@[simp] theorem BD{n t g:Nat}{α:Type}{f:α->List D}{sz:Nat}[F:Fl f sz](l:List α):oO n (.row t g (cl f l))=true:=
 bb.2 λd a=>DS (mL (vW l) d a)
@[simp high] theorem aix{α:Type}[Inhabited α]{f:α->List D}{sz:Nat}[F:Fl f sz]{l:List α}{t:TypeId}{n:Int}(a:0<sz):wD sz (n.n*sz) (b4 (t,cl f l))=if n.n<l.l then b4 (.agg (f (gt l n)))else none:=by
 have h:=ajk (f:=f) (l:=l) (t:=t) (n:=n) (P:=λd=>d = .agg (f (gt l n))) a;simp only[and_true]at h
 by_cases b:n.n<l.l
 .simp_all
 .rw[if_neg b];unfold wD;dsimp only;rw[if_neg];rw[rJ,<-cN,fu a];omega
section
variable{T:iL}{a b:IR}{s:St}{K:ju}{id n:Nat}{live:List Nat}
@[simp ↓] theorem ax0:PW T b K (.norm s)=Wc T b s K:=(rfl)
@[simp ↓] theorem axZ:PW T b K (.exit id s)=K (.exit id s):=(rfl)
@[simp ↓] theorem ax1:PW T b K (.ret s)=K (.ret s):=(rfl)
end
def LJ{α:Type}(E:α->Env)(b:α->gg)(ms:List Nat)(rd:Bool)(Q:α->Prop)(_:Tag (E,b,ms,rd,Q))(e:Env)(H:gg)(m:List Nat)(r:Bool):Prop:=
 ∃a,e=E a/\H=b a/\m=ms/\r=rd/\Q a
theorem LJ.e{α:Type}{E:α->Env}{b:α->gg}{ms:List Nat}{rd:Bool}{Q:α->Prop}{t:Tag (E,b,ms,rd,Q)}{e:Env}{H:gg}{m:List Nat}{r:Bool}(a:α)(c:Q a)(h1:e=E a:=by first|rfl|simp)(g:H=b a:=by first|rfl|simp)(f:m=ms:=by exact rfl)(d:r=rd:=by exact rfl):LJ E b ms rd Q t e H m r:=⟨a,h1,g,f,d,c⟩
def LJ.i{α:Type}{E:α->Env}{b:α->gg}{ms:List Nat}{rd:Bool}{Q:α->Prop}{t:Tag (E,b,ms,rd,Q)}{e:Env}{H:gg}{m:List Nat}{r:Bool}(a:α)(h1:e=E a)(g:H=b a)(f:m=ms)(d:r=rd)(c:Q a):LJ E b ms rd Q t e H m r:=⟨a,h1,g,f,d,c⟩
section
variable{T:iL}{live:List Nat}{a:IR}{s:St}{K:ju}{α:Type}
theorem gx.k(b:α)(E:α->Env)(c:α->gg)(P:α->Prop)(d:α->Nat)
  (h0:P b) (l:forget ((E b).map (·.1)) s.env=E b) (j:s.H=c b) (i:s.marks = []) (g:s.iM=cp) (f:(((E b).map (·.1)).all λk=>live.contains k)=aE)
  (h:∀x,P x->XC T a { env:=E x,H:=c x } (xI s.H.l live ((E b).map (·.1)) (LJ E c [] cp (λe=>d e<d x/\P e) .mk) K)):gx T live a s K .mk:=
 gx.j b E c P d h0 l j f (by rw[i,g];exact h)
end
@[simp] theorem auw{α:Type}{f:α->List D}[Fl f 1](l:List α)(n:Nat):(cl f l).take n=cl f (l.take n):=by simpa using y9 (f:=f) l n
@[simp] theorem aut{α:Type}{f:α->List D}[Fl f 1](l:List α)(n:Nat):(cl f l).drop n=cl f (l.drop n):=by simpa using vX (f:=f) l n
@[simp] theorem awC(K:List Nat):jC 5 K=(0,aE)::(1,aE)::(2,aE)::(3,aE)::(4,aE)::K.map λv=>(v,aE):=rfl
@[simp] theorem awD(K:List Nat):jC 6 K=(0,aE)::(1,aE)::(2,aE)::(3,aE)::(4,aE)::(5,aE)::K.map λv=>(v,aE):=rfl
@[simp] theorem awE(K:List Nat):jC 7 K=(0,aE)::(1,aE)::(2,aE)::(3,aE)::(4,aE)::(5,aE)::(6,aE)::K.map λv=>(v,aE):=rfl
@[simp] theorem awF(K:List Nat):jC 8 K=(0,aE)::(1,aE)::(2,aE)::(3,aE)::(4,aE)::(5,aE)::(6,aE)::(7,aE)::K.map λv=>(v,aE):=rfl
@[simp] theorem awG(K:List Nat):jC 9 K=(0,aE)::(1,aE)::(2,aE)::(3,aE)::(4,aE)::(5,aE)::(6,aE)::(7,aE)::(8,aE)::K.map λv=>(v,aE):=rfl
@[simp] theorem awl(K:List Nat):jC 10 K=(0,aE)::(1,aE)::(2,aE)::(3,aE)::(4,aE)::(5,aE)::(6,aE)::(7,aE)::(8,aE)::(9,aE)::K.map λv=>(v,aE):=rfl
@[simp] theorem awm(K:List Nat):jC 11 K=(0,aE)::(1,aE)::(2,aE)::(3,aE)::(4,aE)::(5,aE)::(6,aE)::(7,aE)::(8,aE)::(9,aE)::(10,aE)::K.map λv=>(v,aE):=rfl
@[simp] theorem awn(K:List Nat):jC 12 K=(0,aE)::(1,aE)::(2,aE)::(3,aE)::(4,aE)::(5,aE)::(6,aE)::(7,aE)::(8,aE)::(9,aE)::(10,aE)::(11,aE)::K.map λv=>(v,aE):=rfl
@[simp] theorem awo(K:List Nat):jC 13 K=(0,aE)::(1,aE)::(2,aE)::(3,aE)::(4,aE)::(5,aE)::(6,aE)::(7,aE)::(8,aE)::(9,aE)::(10,aE)::(11,aE)::(12,aE)::K.map λv=>(v,aE):=rfl
@[simp] theorem awp(K:List Nat):jC 14 K=(0,aE)::(1,aE)::(2,aE)::(3,aE)::(4,aE)::(5,aE)::(6,aE)::(7,aE)::(8,aE)::(9,aE)::(10,aE)::(11,aE)::(12,aE)::(13,aE)::K.map λv=>(v,aE):=rfl
@[simp] theorem awq(K:List Nat):jC 15 K=(0,aE)::(1,aE)::(2,aE)::(3,aE)::(4,aE)::(5,aE)::(6,aE)::(7,aE)::(8,aE)::(9,aE)::(10,aE)::(11,aE)::(12,aE)::(13,aE)::(14,aE)::K.map λv=>(v,aE):=rfl
@[simp] theorem awr(K:List Nat):jC 16 K=(0,aE)::(1,aE)::(2,aE)::(3,aE)::(4,aE)::(5,aE)::(6,aE)::(7,aE)::(8,aE)::(9,aE)::(10,aE)::(11,aE)::(12,aE)::(13,aE)::(14,aE)::(15,aE)::K.map λv=>(v,aE):=rfl
@[simp] theorem aws(K:List Nat):jC 17 K=(0,aE)::(1,aE)::(2,aE)::(3,aE)::(4,aE)::(5,aE)::(6,aE)::(7,aE)::(8,aE)::(9,aE)::(10,aE)::(11,aE)::(12,aE)::(13,aE)::(14,aE)::(15,aE)::(16,aE)::K.map λv=>(v,aE):=rfl
@[simp] theorem awt(K:List Nat):jC 18 K=(0,aE)::(1,aE)::(2,aE)::(3,aE)::(4,aE)::(5,aE)::(6,aE)::(7,aE)::(8,aE)::(9,aE)::(10,aE)::(11,aE)::(12,aE)::(13,aE)::(14,aE)::(15,aE)::(16,aE)::(17,aE)::K.map λv=>(v,aE):=rfl
@[simp] theorem awu(K:List Nat):jC 19 K=(0,aE)::(1,aE)::(2,aE)::(3,aE)::(4,aE)::(5,aE)::(6,aE)::(7,aE)::(8,aE)::(9,aE)::(10,aE)::(11,aE)::(12,aE)::(13,aE)::(14,aE)::(15,aE)::(16,aE)::(17,aE)::(18,aE)::K.map λv=>(v,aE):=rfl
@[simp] theorem aww(K:List Nat):jC 20 K=(0,aE)::(1,aE)::(2,aE)::(3,aE)::(4,aE)::(5,aE)::(6,aE)::(7,aE)::(8,aE)::(9,aE)::(10,aE)::(11,aE)::(12,aE)::(13,aE)::(14,aE)::(15,aE)::(16,aE)::(17,aE)::(18,aE)::(19,aE)::K.map λv=>(v,aE):=rfl
@[simp] theorem awx(K:List Nat):jC 21 K=(0,aE)::(1,aE)::(2,aE)::(3,aE)::(4,aE)::(5,aE)::(6,aE)::(7,aE)::(8,aE)::(9,aE)::(10,aE)::(11,aE)::(12,aE)::(13,aE)::(14,aE)::(15,aE)::(16,aE)::(17,aE)::(18,aE)::(19,aE)::(20,aE)::K.map λv=>(v,aE):=rfl
@[simp] theorem awy(K:List Nat):jC 22 K=(0,aE)::(1,aE)::(2,aE)::(3,aE)::(4,aE)::(5,aE)::(6,aE)::(7,aE)::(8,aE)::(9,aE)::(10,aE)::(11,aE)::(12,aE)::(13,aE)::(14,aE)::(15,aE)::(16,aE)::(17,aE)::(18,aE)::(19,aE)::(20,aE)::(21,aE)::K.map λv=>(v,aE):=rfl
@[simp] theorem awz(K:List Nat):jC 23 K=(0,aE)::(1,aE)::(2,aE)::(3,aE)::(4,aE)::(5,aE)::(6,aE)::(7,aE)::(8,aE)::(9,aE)::(10,aE)::(11,aE)::(12,aE)::(13,aE)::(14,aE)::(15,aE)::(16,aE)::(17,aE)::(18,aE)::(19,aE)::(20,aE)::(21,aE)::(22,aE)::K.map λv=>(v,aE):=rfl
@[simp] theorem aAS{α:Type}{l:List α}{n:Nat}(h:l.l=n):l.take n=l:=af U
@[simp] theorem aAn(a b:List Pos):D.sl 5 (a.map Pos.cells++b.map Pos.cells)=gT (a++b):=by unfold gT;rw[List.map_append]
def Ey{α:Type}(g:α->D)(Q:α->Prop)(d:D)(H:gg):Prop:=Ex g Q d H
def Ey.i{α:Type}{g:α->D}{Q:α->Prop}{d:D}{H:gg}(x:α)(h1:d=g x)(b:H = [])(a:Q x):Ey g Q d H:=⟨x,h1,b,a⟩
def RX(ρ:Nat->Option Nat)(H:gg)(k off:Nat):Option (TypeId×List D)->D
 | some (_,cs)=>.gH ((cs.drop off).map (gA ρ H k))
 | none=>.any
@[simp] theorem azS(H:gg)(k:Nat)(ρ:Nat->Option Nat)(v g off:Nat):JS H k ρ v g off none=RX ρ H k off (rowAt H v g):=by unfold JS RX;rfl
@[simp] theorem avC(ρ:Nat->Option Nat)(H:gg)(k off:Nat)(t:TypeId)(cs:List D):RX ρ H k off (b4 (t,cs)) = .gH ((cs.drop off).map (gA ρ H k)):=rfl
structure GH(H:gg)(v:Nat):Prop where
 lt:v<H.l
 ok:jM H.l H
section
variable{H G:gg}{v:Nat}{o o':Ob}
@[simp] theorem GH.get(h:GH H v):(H.set v o)[v]? = b4 o:=aQ h.lt
@[simp] theorem GH.iH(h:GH H v):(H.set v o++G)[v]? = b4 o:=by rw[ah (by rw[az];exact h.lt)];exact h.get
@[simp] theorem GH.agV(_:GH H v):(H.set v o++G)[H.l]? = G[0]? := jZ
@[simp] theorem GH.apt(_:GH H v):(H.set v o++G).set H.l o'=H.set v o++G.set 0 o':=jZ
@[simp high] theorem GH.cut(h:GH H v){live:List Nat}{env:Env}{r:Bool}(c:Dx live=cp)(a:oO H.l o=aE)(b:((forget live env).all λp=>jW H.l p.2)=aE) :
  Go.AL.cut H.l live { env:=env,H:=H.set v o++G,marks:=[],iM:=r } = { env:=forget live env,H:=H.set v o,marks:=[],iM:=r }:=aeH c (az ..) (rE h.ok a) b rfl
@[simp] theorem GH.lt_eq(h:GH H v):(v<H.l)=True:=eq_true h.lt
end
@[simp] theorem ayE(n:Nat):jM n []=True:=eq_true λ_ h=>by cases h
@[simp] theorem ayD(n:Nat)(o:Ob)(r:gg):jM n (o::r)=(oO n o=aE/\jM n r):=propext ⟨λh=>⟨h o gf,λx a=>h x (by simp[a])⟩,λh x a=>by
 rcases ay.1 a with rfl|a
 .exact h.1
 .exact h.2 x a⟩
@[simp] theorem ayJ(n t g:Nat)(cs:List D):oO n (.row t g cs)=cs.all (jW n):=rfl
@[simp] theorem ayF(n:Nat):oO n .dead=true:=rfl
@[simp] theorem ayH(n:Nat)(kk:KK)(es:List (Value×D)):oO n (.map kk es)=es.all λx=>jW n x.2:=rfl
@[simp] theorem asN{n:Nat}{α:Type}{f:α->List D}{sz:Nat}[F:Fl f sz](l:List α):(cl f l).all (jW n)=true:=
 bb.2 λd a=>DS (mL (vW l) d a)
section
variable{H G:gg}{v k:Nat}{o:Ob}
@[simp] theorem adz:(H++G)[H.l+k]? = G[k]? := by rw[ak U];congr 1;omega
@[simp] theorem asS:(H++G)[H.l]? = G[0]? := by rw[ak U];congr 1;omega
theorem aa5(h:H[v]? = b4 o):v<H.l:=jZ
end
end Go.AL
namespace Go.Proofs.YtmehofoficaelaaGreatDoor
open Go Go.AL Classical
set_option maxRecDepth 10000
set_option maxHeartbeats 1000000
def aiW{n:Int}{k:Nat}(h0:0<=n)(h1:n<=2*k)(a:k<=2):gV n<0↔n=0:=by unfold gV;split<;>omega
def aiX{n s:Int}(h:0<=gV n)(hs:0<=s/\s<=1):kE n=1-s↔¬kE n=s:=by
 unfold gV at h;unfold kE;split at h
 .rename_i e;rw[if_pos e];omega
 .omega
def T7{n s:Int}(h:¬ 0<=gV n)(hs:0<=s/\s<=1):¬kE n=1-s/\¬kE n=s:=by
 unfold gV at h;unfold kE;split at h
 .omega
 .rename_i e;rw[if_neg e];omega
def f228(g:gv)(hg:gZ g)(s:gG)(hs:kU g s)(x:gj)(i:G5 g x):Wf T 284 [dG g,.agg s.cells,.agg [.i x.1,.i x.2]] [] (Is (lr (jz g s x))):=by
 have o:=hs.p.size;have f:=hs.cur;have m:=hs.p.small hg;have p:=hg.ki.to s.p.side x.2 s.cur;have d:=hs.p.cs _ (gF f.1 U);have a:=hs.p.side;have j:=aiW d.1 d.2 hg.kinds.2;have e:=hs.p.gX;have c:=hg.gX;have l:=i.ok;refine Yg Mx ?_;simp[Mx];refine gi ?_;refine Yc (f51 _) ?_;simp;(with_reducible repeat' first|refine Xk ?_<;>try simp|refine Xs ?_ ?_<;>intro h<;>(try intro q)<;>(try simp[h])<;>try omega|refine Xg ?_|omega)
 .refine Yc (f251 g hg.ki s.p.side x.2 s.cur) ?_;simp;refine Yc (f252 { s with cur:=mX g s.p.side x.2 s.cur } _) ?_;simp;simp[jz,h]
 .refine Yc (f253 g hg s hs x.2) ?_;simp;simp[jz,h]
 .refine Yc (f252 s _) ?_;simp;simp[jz,h,j]
 .refine Yc (f252 s _) ?_;simp;have h1:=aiX jX a;simp[jz, *]
 .refine Yc (f252 s _) ?_;simp;have h1:=T7 jX a;simp[jz, *]
 .refine Yc (f252 s _) ?_;simp;simp[jz, *]
 .refine Yc (f252 s _) ?_;simp;have h1:=T7 jX a;simp[jz, *]
 .refine Yc (f254 g hg s hs) ?_;simp;simp[jz, *]
 .refine Yc (f255 g hg s hs x.2) ?_;simp;simp[jz, *]
 .simp[jz, *]
 .refine Yt (f252 s _) ?_;simp;have k:=F4 c.1 U;have b:=acg (r:=s.p.gX) (n:=x.2) e.1 U U U;simp[jz,b, *]
 .have k:=F4 c.1 U;have b:=ach (r:=s.p.gX) (n:=x.2) e.1 U U U;simp[jz,b, *]
def nc(a:List gG):List gG->List gG
 | []=>a
 | x::r=>nc (if x∈a then a else a ++ [x]) r
theorem G8:∀ {b a:List gG} {x:gG},x∈nc a b↔x∈a\/x∈b
 | [],a,x=>by simp[nc]
 | y::r,a,x=>by
  unfold nc;rw[G8];split<;>simp
  .constructor
   .rintro(h|h)<;>simp[h]
   .rintro(h|rfl|h)<;>simp[*]
  .constructor
   .rintro((h|h)|h)<;>simp[h]
   .rintro(h|rfl|h)<;>simp[*]
theorem G7:∀ {b a:List gG},(nc a b).l<=a.l+b.l
 | [],a=>by simp[nc]
 | y::r,a=>by unfold nc;refine bs G7 ?_;split<;>simp<;>omega
def apr{H:gg}{v:Nat}{o:Ob}(h:H[v]? = b4 o):H=H.set v o:=by
 refine bY λi=>?_;rw[bX];split
 .rename_i e;subst e;rw[if_pos (aa5 h),h]
 .rfl
def GH.of{H:gg}{v:Nat}{o:Ob}(a:H[v]? = b4 o)(b:jM H.l H):GH H v:=⟨aa5 a,b⟩
def f227(v gen:Nat)(a b:List gG)(H:gg)(n:H[v]? = b4 (.row 373 gen (cl gG.cells a)))(t:jM H.l H)(r:∀s∈a,Small s.p)(o:∀s∈b,Small s.p)(hl:a.l+b.l<2 ^ 39):Wf T 283 [.gh v gen 8 0 a.l,lr b] H (λd H'=>∃q,d = .gh v q 8 0 (nc a b).l/\H'=H.set v (.row 373 q (cl gG.cells (nc a b)))):=by
 have hg:=GH.of n t;have z:=hg.lt;refine Yg Mw ?_;simp[Mw];refine gx.j ((0,gen,a):Int×Nat×List gG) (λx=>[(0,.gh v x.2.1 8 0 x.2.2.l),(1,lr b),(5,.i x.1)]) (λx=>H.set v (.row 373 x.2.1 (cl gG.cells x.2.2))) (λx=>0<=x.1/\x.1<=b.l/\x.2.2.l<=a.l+x.1.n/\(∀s∈x.2.2,Small s.p)/\nc x.2.2 (b.drop x.1.n)=nc a b) (λx=>b.l-x.1.n) ?_ gf (apr n) rfl ?_
 .simp;exact r
 rintro⟨i,p,l⟩ ⟨h0,h1,u,f,c⟩;dsimp only at h0 h1 u f c ⊢;simp;refine kz ?_ ?_<;>intro h
 .refine gx.j ((0,cp):Int×Bool) (λx=>[(0,.gh v p 8 0 l.l),(1,lr b),(5,.i i),(6,.b x.2),(7,.i x.1)]) (λx=>H.set v (.row 373 p (cl gG.cells l))) (λx=>0<=x.1/\x.1<=l.l/\x.2=decide (gt b i∈l.take x.1.n)) (λx=>l.l-x.1.n) ?_ gf rfl rfl ?_
  .simp
  rintro⟨k,m⟩ ⟨g,w,j⟩;dsimp only at g w j ⊢;simp[hg];(with_reducible repeat' first|refine Xk ?_<;>try simp[hg]|refine Xs ?_ ?_<;>intro h<;>(try intro A)<;>(try simp[h,hg])<;>try omega|refine Xg ?_|omega)
  .rw[jI g jX];simp_all
  .refine Yt (f250 _ _ (f _ (gF g jX)) (o _ (gF h0 jX))) ?_;simp;simp only[h,cond_false];refine sk ⟨k+1,?_⟩;rw[jI g jX]
   by_cases e:gt l k=gt b i
   .right;simp[e];omega
   .left;simp_all;exact ic (λy=>e y.symm)
  .refine⟨i+1,l,rfl,rfl,rfl,U,U,U,U,f,?_⟩;rw[<-c,o7 h0 jX,nc,(U:(i+1).n=i.n+1)];rw[if_pos];rw[j,lW U]at h;simpa using h
  .refine⟨i+1,l ++ [gt b i],gf,rfl,gf,U,U,U,gO,?_,?_⟩
   .intro s hs;simp at hs;rcases hs with hs|rfl
    .exact f s hs
    .exact o _ (gF h0 jX)
   .rw[<-c,o7 h0 jX,nc,(U:(i+1).n=i.n+1)];rw[if_neg];rw[j,lW U]at h;simpa using h
 .rw[bF U]at c;have e:nc l []=l:=rfl;rw[e]at c;rw[<-c];exact⟨rfl,rfl⟩
end Go.Proofs.YtmehofoficaelaaGreatDoor
namespace Go.AL
open Go Classical
def iY{α:Type}{f:α->List D}(a:α):cl f [a]=f a:=by rw[nS,aee,aD]
def gx.e{T:iL}{live:List Nat}{a:IR}{s:St}{K:ju}{α:Type}(b:α)(E:α->Env)(c:α->gg)(P:α->Prop)(d:α->Nat)(h0:P b)
  (h:∀x,P x->XC T a { env:=E x,H:=c x } (xI s.H.l live ((E b).map (·.1)) (LJ E c [] cp (λe=>d e<d x/\P e) .mk) K))
  (l:forget ((E b).map (·.1)) s.env=E b:=by simp) (j:s.H=c b:=by first|rfl|(simp[iY];done)|(simp[*];done)) (i:s.marks = []:=by exact rfl) (g:s.iM=false:=by exact rfl) (f:(((E b).map (·.1)).all λk=>live.contains k)=true:=by exact rfl):gx T live a s K .mk:=gx.k b E c P d h0 l j i g f h
def lP.pw{l:List Pos}(h:lP l):l.Pairwise λx y=>iQ x y<0:=by refine bz.2 λi j hi a b=>?_;have:=h.le (i:=(i:Int)) (j:=(j:Int)) U U U;rwa [CF hi,CF a]at this
def lP.of{r:List Pos}(h:r.Pairwise λx y=>iQ x y<0):lP r:=by intro i h1 a;rw[iV U U,iV U U];exact bz.1 h _ _ _ _ U
theorem ab3:∀ {a b:List Pos},(a.Pairwise λx y=>iQ x y<0)->(b.Pairwise λx y=>iQ x y<0)->(∀q,q∈a↔q∈b)->a=b
 | [],[],_,_,_=>rfl
 | [],y::b,_,_,h=>by have:=(h y).2 gf;cases this
 | x::a,[],_,_,h=>by have:=(h x).1 gf;cases this
 | x::a,y::b,ha,hb,h=>by
  have g:=aW.1 ha;have d:=aW.1 hb
  have e:x=y:=by
   rcases ay.1 ((h x).1 gf)with e|e
   .exact e
   rcases ay.1 ((h y).2 gf)with f|f
   .exact f.symm
   have h1:=d.1 x e;have i:=g.1 y f;rw[w6]at h1;omega
  subst e;rw[ab3 g.2 d.2 λq=>?_];constructor
  .intro c;rcases ay.1 ((h q).1 (by simp[c]))with e|e
   .subst e;have:=g.1 q c;rw[w5]at this;omega
   .exact e
  .intro c;rcases ay.1 ((h q).2 (by simp[c]))with e|e
   .subst e;have:=d.1 q c;rw[w5]at this;omega
   .exact e
def DV{a b:List Pos}(d:lP a)(c:lP b)(h:∀q,q∈a↔q∈b):a=b:=ab3 d.pw c.pw h
def aer{x y:Pos}(h:x≠y)(a:¬iQ x y<0):iQ y x<0:=by have:iQ x y≠0:=λe=>h (s9.1 e);rw[w6];omega
theorem aah(x:Pos):∀r:List Pos,(r.Pairwise λx y=>iQ x y<0)->∃b:List Pos,(b.Pairwise λx y=>iQ x y<0)/\∀q,q∈b↔q=x\/q∈r
 | [],_=>⟨[x],gf,gf⟩
 | y::r,h=>by
  have c:=aW.1 h
  by_cases e:x=y
  .subst e;exact⟨x::r,h,gf⟩
  by_cases hl:iQ x y<0
  .refine⟨x::y::r,aW.2 ⟨λz a=>?_,h⟩,gf⟩;rcases ay.1 a with rfl|a
   .exact hl
   .exact AF hl (c.1 z a)
  .obtain⟨b,h1,d⟩:=aah x r c.2;refine⟨y::b,aW.2 ⟨λz a=>?_,h1⟩,λq=>?_⟩
   .rcases(d z).1 a with rfl|a
    .exact aer e hl
    .exact c.1 z a
   .simp only[ay,d];constructor
    .rintro(h|h|h)<;>simp[h]
    .rintro(h|h|h)<;>simp[h]
theorem Qv:∀l:List Pos,∃r,lP r/\∀q,q∈r↔q∈l
 | []=>⟨[],λi h1 a=>by simp at a;omega,gf⟩
 | x::l=>by obtain⟨r,h1,a⟩:=Qv l;obtain⟨b,d,c⟩:=aah x r h1.pw;exact⟨b,lP.of d,λq=>by rw[c,a,ay]⟩
noncomputable def lA(l:List Pos):List Pos:=Classical.choose (Qv l)
def DU(l:List Pos):lP (lA l):=(cI (Qv l)).1
@[simp] theorem xQ{l:List Pos}{q:Pos}:q∈lA l↔q∈l:=(cI (Qv l)).2 q
theorem acG{l r:List Pos}(h:lP r)(a:∀q,q∈r↔q∈l):r=lA l:=DV h (DU l) λq=>by rw[a,xQ]
theorem Jt{α:Type}[DecidableEq α]:∀ {l m:List α},l.Nodup->(∀x∈l,x∈m)->l.l<=m.l
 | [],m,_,_=>gf
 | a::l,m,b,h=>by
  have b:=cW.1 b
  have h1:l.l<=(m.erase a).l:=Jt b.2 λx c=>by refine(List.mem_erase_of_ne ?_).2 (h x (by simp[c]));rintro rfl;exact b.1 c
  rw[fw (h a gf)]at h1;have:0<m.l:=fJ (h a gf);simp;omega
def lP.nodup{l:List Pos}(h:lP l):l.Nodup:=h.pw.imp λ{a b} c e=>by subst e;rw[w5]at c;omega
def Qu(l:List Pos):(lA l).l<=l.l:=Jt (lP.nodup (DU l)) λx a=>xQ.1 a
def ended(g:gv)(p:Pos):Prop:=∃c∈g.clauses,lR p c
def Ju{g:gv}{p:Pos}(h:¬ended g p):∀c∈g.clauses,¬lR p c:=λc a hl=>h ⟨c,a,hl⟩
def N6(g:gv)(p:Pos):List Pos:=(upto g.kinds.l).flatMap λk=>(upto p.cs.l).map λc=>kP p k c
theorem CA{α c:Type}{f:α->List c}{n:Nat}:∀ {l:List α},(∀a∈l,(f a).l<=n)->(l.flatMap f).l<=l.l*n
 | [],_=>gf
 | a::l,h=>by rw[di,ar,aL,cN];have:=h a gf;have:=CA (l:=l) λb d=>h b (by simp[d]);omega
theorem acw{g:gv}:∀ {l:List gj} {a:List gG},(uL g l a).l<=10 ^ l.l*a.l
 | [],a=>by simp[uL]
 | x::r,a=>by rw[uL];refine bs acw ?_;rw[aL,eN,fY];refine eT _ ?_;rw[ea];exact CA λs _=>Gm
def aoj{g:gv}(hg:gZ g){p:Pos}(a:iI g p):(sj g p).l<=3600000000:=by
 have i:=a.size;have j:=hg.ki.size
 have:(sj g p).l<=(upto p.cs.l).l*400000000:=by
  refine CA λc d=>?_;rw[jF]at d;unfold rF;split
  .rename_i e;have f:=J3 hg a d.1 U e;have b:=hg.jN _ (gF (l:=g.kinds) f.kind.1 f.kind.2)
   have m:((gt g.kinds (gV (gt p.cs c))).jN.flatMap (wH g p c)).l<=(gt g.kinds (gV (gt p.cs c))).jN.l*100000000:=by refine CA λl hl=>?_;have h:=(b.2 l hl).len;refine bs (fy _ _) (bs acw ?_);have:10 ^ l.l<=10 ^ 8:=cY jr h.2;simpa using this
   have k:(gt g.kinds (gV (gt p.cs c))).jN.l<=4:=b.1;omega
  .simp
 have e:(upto p.cs.l).l=p.cs.l:=by simp[upto]
 rw[e]at this;omega
def aeV{g:gv}(hg:gZ g){p:Pos}(a:iI g p):(N6 g p).l<=18:=by
 have b:=a.size;have d:=hg.ki.size;have c:=hg.kinds
 have:(N6 g p).l<=(upto g.kinds.l).l*9:=CA λk _=>by simp[upto];omega
 have e:(upto g.kinds.l).l=g.kinds.l:=by simp[upto]
 rw[e]at this;omega
def ajb{g:gv}{p q:Pos}(h:s0 g p q):q∈(sj g p).map (·.p)++N6 g p:=by
 obtain⟨_,h⟩:=h;split at h
 .exact aj.2 (.inl (au.2 ⟨_,h,rfl⟩))
 .rcases h with⟨o,h,rfl⟩|⟨k,c,h1,d,b,a,_,_,rfl⟩
  .exact aj.2 (.inl (au.2 ⟨_,h,rfl⟩))
  .exact aj.2 (.inr (bN.2 ⟨k,jF.2 ⟨h1,d⟩,au.2 ⟨c,jF.2 ⟨b,a⟩,rfl⟩⟩))
noncomputable def jb(g:gv)(p:Pos):List Pos:=lA (((sj g p).map (·.p)++N6 g p).filter λq=>decide (s0 g p q))
def ajc(g:gv)(p:Pos):lP (jb g p):=DU _
@[simp] theorem Dv{g:gv}{p q:Pos}:q∈jb g p↔s0 g p q:=by unfold jb;rw[xQ,aO];simp only[decide_eq_true_eq];exact⟨λh=>h.2,λh=>⟨ajb h,h⟩⟩
def Uo{g:gv}{p:Pos}{r:List Pos}(h:lP r)(a:∀q,q∈r↔s0 g p q):r=jb g p:=DV h (ajc g p) λq=>by rw[a,Dv]
def PK{g:gv}{p:Pos}(h:ended g p):jb g p = []:=by refine bq.2 λq a=>?_;obtain⟨c,b,hl⟩:=h;exact(Dv.1 a).1 c b hl
@[irreducible] noncomputable def vz(g:gv)(p:Pos):D:=if ended g p then .gp else gT (jb g p)
theorem PJ(g:gv)(p:Pos):(vz g p = .gp/\jb g p = [])\/vz g p=gT (jb g p):=by
 unfold vz;split
 .rename_i h;exact .inl ⟨rfl,PK h⟩
 .exact .inr rfl
def wG{g:gv}(hg:gZ g){p:Pos}(a:iI g p):(jb g p).l<=4000000000:=by refine bs (Qu _) (bs (List.length_filter_le _ _) ?_);have:=aoj hg a;have:=aeV hg a;simp;omega
section
variable{g:gv}{p:Pos}{n:Int}{k:IntKind}{P:D->Prop}{H:gg}
@[simp] theorem aeo:closed (vz g p)=true:=by rcases PJ g p with⟨h,_⟩|h<;>rw[h]<;>simp
@[simp] theorem axi:oa .slice (vz g p) H=b4 (.i (jb g p).l):=by rcases PJ g p with⟨h,e⟩|h<;>rw[h]<;>simp[*]
@[simp] theorem aAL:lN 5 H (vz g p)=b4 (cl Pos.cells (jb g p),(jb g p).l):=by rcases PJ g p with⟨h,e⟩|h<;>rw[h]<;>simp[*]
@[simp] theorem aA9(n:Nat):jP n (vz g p) = []:=QI n aeo
@[simp] theorem ayd:oA (ni 5 (vz g p) (.val (.int k n))) P .mk=((0<=n/\n<(jb g p).l)/\P (.gH (gt (jb g p) n).cells)):=by
 rcases PJ g p with⟨h,e⟩|h
 .rw[h,e];simp only[ni,abz,dh];refine propext ⟨λh=>h.elim,λ⟨h,_⟩=>?_⟩;have:=h.1;have:=h.2;simp at this;omega
 .rw[h];exact zS
end
noncomputable def vZ(g:gv)(p:Pos):Int:=if ended g p then(g.clauses.findIdx λc=>decide (lR p c):Nat)else -1
def Xp{g:gv}{p:Pos}(h:ended g p):0<=vZ g p/\vZ g p<g.clauses.l/\gt g.clauses (vZ g p)∈g.clauses:=by
 unfold vZ;rw[if_pos h]
 have:(g.clauses.findIdx λc=>decide (lR p c))<g.clauses.l:=by rw[List.findIdx_lt_length];obtain⟨c,a,hl⟩:=h;exact⟨c,a,by simpa using hl⟩
 exact sk (gF U U)
def Xq{g:gv}{p:Pos}(h:¬ended g p):vZ g p = -1:=by unfold vZ;rw[if_neg h]
def N9{g:gv}{p:Pos}:0<=vZ g p↔ended g p:=by
 by_cases h:ended g p
 .exact⟨λ_=>h,λ_=>(Xp h).1⟩
 .rw[Xq h];simp[h]
noncomputable def stat(g:gv)(p:Pos):Int×Bool:=(if ended g p then(gt g.clauses (vZ g p)).out else if jb g p = []then g.blocked else 0,decide (jb g p = []))
end Go.AL
namespace Go.Proofs.YtmehofoficaelaaGreatDoor
open Go Go.AL Classical
set_option maxRecDepth 10000
set_option maxHeartbeats 1000000
def X'(p:Pos)(a:Small p):Wf T 205 [dP p] [] (λd H=>d = .agg [.gh 0 1 1 0 p.cs.l,dI p.h0,dI p.h1,.i p.gX,.i p.side]/\H = [.row 3 1 (cl f1 p.cs)]):=by obtain⟨h1,c,b⟩:=a;refine Wf.xo 3 (fn:=Ap) rfl (by simp[Ap]) ?_;simp[Ap];exact nb
@[irreducible] def fA(a:List gG):List D:=[lr a]
theorem Cu(a:List gG):fA a = [lr a]:=by unfold fA;rfl
instance:Fl fA 1:=⟨λ_=>by simp[Cu],λ_=>by simp[Cu,gN]⟩
@[simp] theorem aui(l:List (List gG))(x:List gG):cl fA l ++ [lr x]=cl fA (l ++ [x]):=by rw[<-rK,Cu]
theorem ad5(x:List gG) : [lr x]=cl fA [x]:=by rw[nS,Cu];simp
def pY(g:gv)(x:gj)(now:List gG):List gG:=now.foldl (λa s=>nc a (jz g s x)) []
def qw(g:gv):List gj->List gG->List (List gG)
 | [],_=>[]
 | x::r,now=>pY g x now::qw g r (pY g x now)
theorem YB{g:gv}{x:gj}{t:gG}:∀ {now a:List gG},t∈now.foldl (λa s=>nc a (jz g s x)) a↔t∈a\/t∈now.flatMap λs=>jz g s x
 | [],a=>gf
 | s::r,a=>by rw[cD,YB,G8,di,aj,or_assoc]
def PQ{g:gv}{x:gj}{now:List gG}{t:gG}:t∈pY g x now↔t∈now.flatMap λs=>jz g s x:=by unfold pY;rw[YB];simp
theorem YA{g:gv}{x:gj}:∀ {now c:List gG},(now.foldl (λc s=>nc c (jz g s x)) c).l<=c.l+10*now.l
 | [],c=>gf
 | s::r,c=>by rw[cD];refine bs YA ?_;have:=G7 (a:=c) (b:=jz g s x);have:=Gm (g:=g) (s:=s) (x:=x);rw[aL];omega
def Jr{g:gv}{x:gj}{now:List gG}:(pY g x now).l<=10*now.l:=by unfold pY;refine bs YA ?_;simp
theorem acM{g:gv}:∀ {l:List gj} {now:List gG},(qw g l now).l=l.l
 | [],_=>rfl
 | x::r,now=>by rw[qw,aL,acM,aL]
def f194(g:gv)(hg:gZ g)(p:Pos)(m:iI g p)(c i:Int)(o:0<=c/\c<g.size)(r:kE (gt p.cs c)=p.side)(hi:0<=i/\i<(gt g.kinds (gV (gt p.cs c))).jN.l) :
  Wf T 254 [dG g,dP p,.i c,.i i] [] (Is (.agg [.sl 1 (([mc p c]::qw g (gt (gt g.kinds (gV (gt p.cs c))).jN i) [mc p c]).map fA),.i 0])):=by
 have H:=m.size;have w:=m.small hg;have y:=m.cs _ (gF o.1 U);have z:=m.side;obtain⟨m1,m2,m3,m4⟩:=Jl z.1 r;have A:gV (gt p.cs c)<g.kinds.l:=zN y.2 hg.kinds.1;refine Yz GN (jm 117 [10] GN.body) ?_;simp[GN,jm,kS,nR,nU,oo,mm];refine Yc (f65 g p hg m) ?_;simp;(with_reducible repeat' first|refine Xk ?_<;>try simp|refine Xs ?_ ?_<;>intro h<;>(try intro C)<;>(try simp[h])<;>try omega|refine Xg ?_|omega);refine Yc (f51 _) ?_;simp;(with_reducible repeat' first|refine Xk ?_<;>try simp|refine Xs ?_ ?_<;>intro h<;>(try intro C)<;>(try simp[h])<;>try omega|refine Xg ?_|omega)
 rotate_right
 refine vQ.n rfl rfl (X' p w) gf gf ?_;simp;refine gi ?_;refine gx.fz [0,1,3,4,5,6,8] rfl ?_;have q0:=jg (l:=p.cs) (n:=c) (v:=0) o.1 U;have E:kU g (mc p c):=J3 hg m o.1 o.2 r;have F:=hg.jN _ (gF (l:=g.kinds) m1 A);generalize u:gt (gt g.kinds (gV (gt p.cs c))).jN i=prog at *;have q:yT g prog:=F.2 _ (u▸gF hi.1 hi.2);have I:=q.len
 refine gx.k ((0,[[mc p c]],[mc p c]):Int×List (List gG)×List gG) (λx=>[(4,.gH g.cells),(8,.ptr 2 0 0),(11,.ptr 9 0 0),(12,lr x.2.2),(13,iu prog),(14,.i x.1)]) (λx=>[.dead,.dead,.row 369 0 [.gp,.i 0],.dead,.dead,.dead,.dead,.row 371 x.1.n (cl fA x.2.1),.dead,.row 369 0 [.gh 7 x.1.n 1 0 x.2.1.l,.i 0]])
  (λx=>0<=x.1/\x.1<=prog.l/\x.2.1.l=x.1.n+1/\(∀s∈x.2.2,kU g s)/\x.2.2.l<=10 ^ x.1.n/\[mc p c]::qw g prog [mc p c]=x.2.1++qw g (prog.drop x.1.n) x.2.2) (λx=>prog.l-x.1.n) ?_ ?_ ?_ rfl rfl gf ?_
 .simp;exact E
 .simp[mc,q0]
 .simp[mc,<-ad5,q0]
 rintro⟨k,steps,now⟩ ⟨k0,k1,k2,k3,k4,k5⟩;dsimp only at k0 k1 k2 k3 k4 k5 ⊢;simp;refine kz ?_ ?_<;>intro h
 .refine gx.e ((0,0,[]):Int×Nat×List gG) (λx=>[(4,.gH g.cells),(8,.ptr 2 0 0),(11,.ptr 9 0 0),(12,lr now),(13,iu prog),(14,.i k),(15,.gh 10 x.2.1 8 0 x.2.2.l),(16,.i x.1)]) (λx=>[.dead,.dead,.row 369 0 [.gp,.i 0],.dead,.dead,.dead,.dead,.row 371 k.n (cl fA steps),.dead,.row 369 0 [.gh 7 k.n 1 0 steps.l,.i 0],.row 373 x.2.1 (cl gG.cells x.2.2)]) (λx=>0<=x.1/\x.1<=now.l/\(∀s∈x.2.2,kU g s)/\x.2.2.l<=10*x.1.n/\pY g (gt prog k) now=(now.drop x.1.n).foldl (λf s=>nc f (jz g s (gt prog k))) x.2.2) (λx=>now.l-x.1.n) ?_ ?_
  .simp[pY]
  rintro⟨j,D,f⟩ ⟨j0,j1,j2,j3,j4⟩;dsimp only at j0 j1 j2 j3 j4 ⊢;simp;refine kz ?_ ?_<;>intro h
  .refine Yt (f228 g hg _ (k3 _ (gF j0 ‹_›)) _ (q.steps _ (gF k0 ‹_›))) ?_;simp;have gu:=k3 _ (gF j0 ‹_›);refine gE.lU rfl rfl (f227 10 D f (jz g (gt now j) (gt prog k)) _ rfl gf (λs hs=>(j2 s hs).p.small hg) (λs hs=>(DY hg gu (q.steps _ (gF k0 ‹_›)) hs).p.small hg) ?_) ?_
   .have h1:=Gm (g:=g) (s:=gt now j) (x:=gt prog k);have B:10 ^ k.n<=10 ^ 8:=cY jr U;omega
   rintro d H' ⟨G,rfl,rfl⟩;simp;have B:10 ^ k.n<=10 ^ 8:=cY jr U;refine gi ?_;refine LJ.e (j+1,G,nc f (jz g (gt now j) (gt prog k))) ?_;refine⟨gI,gI,gI,λs hs=>?_,?_,?_⟩
   .rcases G8.1 hs with hs|hs
    .exact j2 s hs
    .exact DY hg gu (q.steps _ (gF k0 ‹_›)) hs
   .have h1:=Gm (g:=g) (s:=gt now j) (x:=gt prog k);have t:=G7 (a:=f) (b:=jz g (gt now j) (gt prog k));dsimp only;omega
   .rw[j4,o7 j0 ‹_›,cD,(U:(j+1).n=j.n+1)]
  .have e:pY g (gt prog k) now=f:=by rw[j4,bF U];rfl
   refine gi ?_;refine LJ.i (k+1,steps ++ [f],f) (by first|rfl|simp[(U:(k+1).n=k.n+1)]) (by first|rfl|simp[(U:(k+1).n=k.n+1)]) rfl rfl ?_;refine⟨gI,gI,gI,gO,j2,?_,?_⟩
   .have t:=Jr (g:=g) (x:=gt prog k) (now:=now);rw[e]at t;dsimp only;rw[(U:(k+1).n=k.n+1),eN];omega
   .rw[k5,o7 k0 ‹_›,qw,e,(U:(k+1).n=k.n+1)];simp
 .rw[bF U,qw,aD]at k5;rw[<-k5];simp
def aiH{a b:ij}(h1:¬Jh a b)(c:¬Jh b a):a=b:=by
 unfold Jh at *;have e:=w6 a.p b.p
 have h:iQ a.p b.p=0:=by
  by_cases h:iQ a.p b.p=0
  .exact h
  .exfalso
   by_cases d:iQ a.p b.p<0
   .exact h1 (.inl d)
   .exact c (.inl U)
 have f:iQ b.p a.p=0:=U;simp[h,f]at h1 c;have:=s9.1 h;cases a;cases b;simp_all;rename_i x y _;cases x<;>cases y<;>simp_all
structure Nr(l:List ij)(x:ij)(i:Int)(d:Bool)(out:List ij):Prop where
 i0:0<=i/\i<=l.l
 dn:d=aE->x∈out
 sub:∀o∈out,o∈l.take i.n\/o=x
 sup:∀o∈l.take i.n,o∈out
 len:out.l<=i.n+(if d then 1 else 0)
def Nr.step{l:List ij}{x:ij}{i:Int}{d d':Bool}{out:List ij}(h:Nr l x i d out)(hi:i<l.l)(xs:List ij)(b:∀o∈xs,o=x)(c:d'=aE->d=aE\/x∈xs\/gt l i=x)(hl:xs.l+(if d then 1 else 0)<=(if d' then 1 else 0)):Nr l x (i+1) d' (out++xs ++ [gt l i]):=by
 have h0:=h.i0;refine⟨U,λe=>?_,λo a=>?_,λo a=>?_,?_⟩
 .rcases c e with e|e|e
  .have:=h.dn e;simp[this]
  .simp[e]
  .simp[e]
 .rw[jI h0.1 hi];simp at a ⊢;rcases a with a|a|a
  .rcases h.sub o a with h|h
   .exact .inl (.inl h)
   .exact .inr h
  .exact .inr (b o a)
  .exact .inl (.inr a)
 .rw[jI h0.1 hi]at a;simp at a ⊢;rcases a with a|a
  .exact .inl (h.sup o a)
  .exact .inr (.inr a)
 .have:=h.len;simp;omega
def f195(l:List ij)(x:ij)(hl:l.l<2 ^ 39)(hs:∀o∈l,Small o.p)(k:Small x.p):Wf T 255 [o6 l,.agg x.cells] [] (Ex o6 λr=>(∀o,o∈r↔o∈l\/o=x)/\r.l<=l.l+1):=by
 refine Yg Mk ?_;simp[Mk];refine gx.e ((0,cp,[]):Int×Bool×List ij) (λy=>[(0,o6 l),(3,.ptr 0 0 0),(5,.gh 1 y.2.2.l 6 0 y.2.2.l),(6,.b y.2.1),(7,.i y.1)]) (λy=>[.row 259 0 x.cells,.row 259 y.2.2.l (cl ij.cells y.2.2)]) (λy=>Nr l x y.1 y.2.1 y.2.2) (λy=>l.l-y.1.n) ?_ ?_
 .exact⟨gf,gf,gf,gf,gf⟩
 rintro⟨i,done,out⟩ c;have h0:=c.i0;have j:=c.len;have m:(if done=aE then 1 else 0)<=1:=by split<;>omega
 dsimp only at c h0 j ⊢;simp;(with_reducible repeat' first|refine Xk ?_<;>try simp|refine Xs ?_ ?_<;>intro h<;>(try intro n)<;>(try simp[h])<;>try omega|refine Xg ?_|omega)
 .refine LJ.e (i+1,aE,out ++ [gt l i]) ?_;subst h;have:=c.step ‹_› [] (d':=aE) gf gf gf;simp at this;exact⟨gO,this⟩
 .have d:=h;refine Yt (f229 _ _ (hs _ (gF h0.1 ‹_›)) k) ?_;simp[h];refine G6 d ?_ ?_<;>intro h
  .subst d;have:=c.step ‹_› [] (d':=cp) gf gf gf;simp at this;refine LJ.e (i+1,cp,out ++ [gt l i]) ?_;exact⟨gO,this⟩
  .refine Yt (f229 _ _ k (hs _ (gF h0.1 ‹_›))) ?_;simp[d];refine G6 d ?_ ?_<;>intro h
   .subst d;have:=c.step ‹_› [x] (d':=aE) gf gf gf;refine LJ.e (i+1,aE,out ++ [x] ++ [gt l i]) ?_;exact⟨gO,this⟩
   .subst d;have e:=aiH (a:=gt l i) (b:=x) ‹_› ‹_›;have:=c.step ‹_› [] (d':=aE) gf (by simp[e]) gf;simp at this;refine LJ.e (i+1,aE,out ++ [gt l i]) ?_;exact⟨gO,this⟩
 .subst h;have g:=c.sub;have f:=c.sup;rw[lW U]at g f;refine⟨out,rfl,λo=>⟨g o,λh=>?_⟩,by simp at j;omega⟩;rcases h with h|h
  .exact f o h
  .rw[h];exact c.dn rfl
 .subst h;have g:=c.sub;have f:=c.sup;rw[lW U]at g f;refine⟨out ++ [x],by simp[o6],λo=>?_,by simp at j;simp;omega⟩;simp;constructor
  .rintro(h|h)
   .exact g o h
   .exact .inr h
  .rintro(h|h)
   .exact .inl (f o h)
   .exact .inr h
theorem aaJ{g:gv}:∀ {l:List gj} {now:List gG} {t:gG},t∈gt (now::qw g l now) l.l↔t∈uL g l now
 | [],now,t=>by simp[qw,uL,gt]
 | x::r,now,t=>by
  have e:gt (now::qw g (x::r) now) (x::r).l=gt (pY g x now::qw g r (pY g x now)) r.l:=by rw[qw];unfold gt;simp only[aL,Int.toNat_natCast,cj]
  rw[e,aaJ,uL];exact acv (λs=>PQ) t
theorem aaI{g:gv}:∀ {l:List gj} {now:List gG},(gt (now::qw g l now) l.l).l<=10 ^ l.l*now.l
 | [],now=>by simp[qw,gt]
 | x::r,now=>by
  have e:gt (now::qw g (x::r) now) (x::r).l=gt (pY g x now::qw g r (pY g x now)) r.l:=by rw[qw];unfold gt;simp only[aL,Int.toNat_natCast,cj]
  rw[e];refine bs aaI ?_;rw[aL,eN,fY];exact eT _ Jr
def f154(g:gv)(hg:gZ g)(p:Pos)(b:iI g p)(c i:Int)(f:0<=c/\c<g.size)(m:kE (gt p.cs c)=p.side)(hi:0<=i/\i<(gt g.kinds (gV (gt p.cs c))).jN.l) :
  Wf T 204 [dG g,dP p,.i c,.i i] [] (Ex (λr=>.tup [o6 r,.i 0]) λr=>(∀o,o∈r↔o∈wH g p c (gt (gt g.kinds (gV (gt p.cs c))).jN i))/\r.l<=10 ^ 8):=by
 have I:=b.cs _ (gF f.1 (by have:=b.size;omega));have a:=b.side;obtain⟨m1,m2,m3,m4⟩:=Jl a.1 m;have J:gV (gt p.cs c)<g.kinds.l:=zN I.2 hg.kinds.1;have N:kU g (mc p c):=J3 hg b f.1 f.2 m;have Q:=hg.jN _ (gF (l:=g.kinds) m1 J);have O:=f194 g hg p b c i f m hi;generalize F:gt (gt g.kinds (gV (gt p.cs c))).jN i=prog at *;have D:yT g prog:=Q.2 _ (F▸gF hi.1 hi.2);have P:=D.len;have z:∀t,t∈gt ([mc p c]::qw g prog [mc p c]) prog.l↔t∈uL g prog [mc p c]:=λt=>aaJ;have R:=aaI (g:=g) (l:=prog) (now:=[mc p c]);have Z:10 ^ prog.l<=10 ^ 8:=cY jr P.2;have H:=acM (g:=g) (l:=prog) (now:=[mc p c]);generalize hS : [mc p c]::qw g prog [mc p c]=S at *;have W:S.l=prog.l+1:=by rw[<-hS];simp[H]
 refine Yz GM (jm 70 [5] GM.body) ?_;simp[GM,jm,kS,nR,nU,oo,mm];refine Yc (O) ?_;simp;(with_reducible repeat' first|refine Xk ?_<;>try simp[Cu]|refine Xs ?_ ?_<;>intro h<;>(try intro h')<;>(try simp[h,Cu])<;>try omega|refine Xg ?_|omega);rw[(U:(S.l:Int)-1=prog.l)];generalize gt S (prog.l:Int)=L at *;have gu:∀s∈L,kU g s:=λs hs=>Qi hg D.steps (λt e=>by rw[List.mem_singleton]at e;subst e;exact N) s ((z s).1 hs);have K:L.l<=100000000:=by simp at R;omega
 simp[Cu];refine gi ?_;refine gx.fz [0,2,3] rfl ?_;refine gx.e ((0,[]):Int×List ij) (λy=>[(5,.ptr 1 0 0),(11,o6 y.2),(12,lr L),(13,.i y.1)]) (λy=>[.dead,.row 46 0 p.cells,.dead,.dead]) (λy=>0<=y.1/\y.1<=L.l/\(∀o,o∈y.2↔o∈(L.take y.1.n).filterMap (pv p.side))/\y.2.l<=y.1.n) (λy=>L.l-y.1.n) ?_ ?_
 .simp
 rintro⟨j,out⟩ ⟨j0,j1,j2,j3⟩;dsimp only at j0 j1 j2 j3 ⊢;simp;refine kz ?_ ?_<;>intro h
 .have hs:=gu _ (gF j0 ‹_›);have V:=hs.p.small hg;have Y:=hs.p.size;have w:=hs.cur;have u:=hs.kind;have X:=hg.kinds;generalize C:gt L j=s at *;refine kz ?_ ?_<;>intro h
  .have q:=jg (l:=s.p.cs) (n:=s.cur) (v:=1+2*s.kind+p.side) w.1 U;refine Yn (X' s.p V) ?_;simp;refine Yt (f156 (k:=s.kind) (s:=p.side) u.1 U a.1 a.2) ?_;simp[q];refine iU q ?_;generalize d:({ p:=⟨pt s.p.cs s.cur (1+2*s.kind+p.side),s.p.h0,s.p.h1,s.p.gX,1-p.side⟩,kn:=s.kn }:ij)=o;have A:pv p.side s=b4 o:=by rw[pv,if_pos ‹_›,<-d];rfl
   have E:Small o.p:=iI.small hg (Om hs a.1 a.2 A)
   have G:∀o∈out,Small o.p:=λo d=>by obtain⟨t,e,M⟩:=db.1 ((j2 o).1 d);exact iI.small hg (Om (gu t (aS e)) a.1 a.2 M)
   have c2:=f195 out o U G E;rw[<-d]at c2;refine gE.q rfl rfl c2 gf (λ_=>gf) ?_;intro r B;simp;rw[d]at B;refine gi ?_;refine LJ.e (j+1,r) ?_;refine⟨gI,gI,gI,λx=>?_,gI⟩;rw[B.1,j2,jI j0 ‹_›,C];simp[A,eq_comm]
  .refine gi ?_;refine LJ.e (j+1,out) ?_;refine⟨gI,gI,gI,λx=>?_,gI⟩;rw[j2,jI j0 ‹_›,C];have:pv p.side s=none:=by rw[pv,if_neg ‹_›]
   simp[this]
 .rw[lW U]at j2;refine⟨out,rfl,λo=>?_,?_⟩
  .rw[j2,wH];simp only[db,z]
  .omega
