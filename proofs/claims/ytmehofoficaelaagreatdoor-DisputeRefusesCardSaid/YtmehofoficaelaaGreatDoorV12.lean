/- 12 -/
import Derived.Test.YtmehofoficaelaaGreatDoorV11
set_option linter.all false
open Bool renaming true→aE,false→cp
open List renaming all_eq_true→bb,getD_cons_succ→cc,flatMap_cons→di,map_nil→dr,length→List.l
open Nat renaming le_trans→bs
open Option renaming some→b4
open Int renaming toNat→Int.n
namespace Go.Proofs.YtmehofoficaelaaGreatDoor
open Go Go.AL Classical
set_option maxRecDepth 10000
set_option maxHeartbeats 1000000
def f253(g:gq)(hg:gR g)(s:gD)(hs:kA g s)(n:Int):Wf T 297 [dG g,.agg s.cells,.i n] [] (Is (kL (qt s (lK g s.p.side n s.cur)))):=by
 have hl:=SA (g:=g) (s:=s.p.side) (d:=n) (c:=s.cur);have k:=hs.p.size;refine Yg Lr ?_;simp[Lr];refine Yc (f263 g hg.jU s.p.side n s.cur) ?_;simp;generalize j:lK g s.p.side n s.cur=L at *;have e:∀y∈L,0<=y/\y<g.size:=λy f=>Sz hg.jU (j▸f);refine gx.j ((0,[]):Int×List gD) (λx=>[(4,.ptr 1 0 0),(7,.gf 2 x.2.l 8 0 x.2.l),(8,dI L),(9,.i x.1)]) (λx=>[.row 43 0 g.cells,.row 373 0 s.cells,.row 373 x.2.l (cl gD.cells x.2)]) (λx=>0<=x.1/\x.1<=L.l/\x.2.l=x.1.n/\qt s L=x.2++qt s (L.drop x.1.n)) (λx=>L.l-x.1.n) ?_ fZ xJ rfl ?_
 .simp
 rintro⟨i,out⟩ ⟨h0,h1,b,a⟩;dsimp only at h0 h1 b a ⊢;simp;refine kj ?_ ?_<;>intro h
 .have l:=e _ (gF h0 ‹_›);rw[oe h0 ‹_›,qt]at a;refine kj ?_ ?_<;>intro h
  .refine⟨i+1,out ++ [{ s with cur:=gt L i }],fZ,rfl,fZ,by rw[<-qc],U,U,U,by simp[b];omega,?_⟩;rw[a,if_pos ‹_›,(U:(i+1).n=i.n+1)];simp
  .rw[if_neg ‹_›]at a;rw[a];simp[kL]
 .rw[bA U]at a;rw[a];simp[qt]
def ZC{n s:Int}(_:0<=n)(a:0<=gN n)(h:kh n≠s)(hs:0<=s/\s<=1):kh n=1-s:=by
 unfold gN kh at *;split at a
 .rename_i e;rw[if_pos e]at h ⊢;omega
 .omega
def f254(g:gq)(hg:gR g)(s:gD)(hs:kA g s):Wf T 298 [dG g,.agg s.cells] [] (Is (kL (tq g s))):=by
 have r:=hs.p.size;have d:=hs.cur;have j:=hs.p.small hg;refine Yg Ls ?_;simp[Ls];refine gh ?_;refine Yc (f51 _) ?_;simp;have b:=hs.p.cs _ (gF d.1 U);have i:=hg.kinds;have f:=hs.p.side;(with_reducible repeat' first|refine Xk ?_<;>try simp|refine Xs ?_ ?_<;>intro h<;>(try intro u)<;>(try simp[h])<;>try omega|refine Xg ?_|omega)
 .rw[tq,if_pos];unfold gN at *;unfold kh;split at h<;>rename_i m
  .omega
  .rw[if_neg m];omega
 .rw[tq,if_pos U]
 .have t:gN (gt s.p.cs s.cur)<g.kinds.l:=yI b.2 i.1;have o:s.p.side=0\/s.p.side=1:=U;have q:=hs.p.h0.len;have p:=hs.p.h1.len;have q0:=iW (l:=s.p.cs) (n:=s.cur) (v:=0) d.1 U;refine Yn (M9 s.p j) ?_;simp;refine FZ q0 ?_ ?_<;>intro h
  .have a:kh (gt s.p.cs s.cur)=1-s.p.side:=ZC b.1 U jZ f;have c:=h;rcases o with e|e
   .have k:=hs.p.h0.at_ _ U (U:gN (gt s.p.cs s.cur)<s.p.h0.l);have q1:=DN (l:=s.p.h0) (n:=gN (gt s.p.cs s.cur)) (v:=gt s.p.h0 (gN (gt s.p.cs s.cur))+1) U U;have q2:=iW (l:=s.p.h0) (n:=gN (gt s.p.cs s.cur)) (v:=gt s.p.h0 (gN (gt s.p.cs s.cur))+1) U U;simp[e,q1,q2];refine kj ?_ ?_<;>intro h
    all_goals simp[tq,a,c,Pos.hand,Pos.mZ,e,q0,q2]
    .rw[if_neg U]
    .rw[if_pos U]
   .have k:=hs.p.h1.at_ _ U (U:gN (gt s.p.cs s.cur)<s.p.h1.l);have q1:=DN (l:=s.p.h1) (n:=gN (gt s.p.cs s.cur)) (v:=gt s.p.h1 (gN (gt s.p.cs s.cur))+1) U U;have q2:=iW (l:=s.p.h1) (n:=gN (gt s.p.cs s.cur)) (v:=gt s.p.h1 (gN (gt s.p.cs s.cur))+1) U U;simp[e,q1,q2];refine kj ?_ ?_<;>intro h
    all_goals simp[tq,a,c,Pos.hand,Pos.mZ,e,q0,q2]
    .rw[if_neg U]
    .rw[if_pos U]
  .have a:kh (gt s.p.cs s.cur)=1-s.p.side:=ZC b.1 U jZ f;simp[tq,a,h,q0]
def f255(g:gq)(hg:gR g)(s:gD)(hs:kA g s)(n:Int):Wf T 299 [dG g,.agg s.cells,.i n] [] (Is (kL (uk g s n))):=by
 have c:=hs.p.size;have a:=hs.cur;have b:=hs.p.small hg;have d:=hg.jU.to s.p.side n s.cur;refine Yg Lt ?_;simp[Lt];refine Yc (f251 g hg.jU s.p.side n s.cur) ?_;simp;(with_reducible repeat' first|refine Xk ?_<;>try simp|refine Xs ?_ ?_<;>intro h<;>(try intro e)<;>(try simp[h])<;>try omega|refine Xg ?_|omega)
 .rw[uk,if_pos n9]
 .rw[uk,if_pos n9]
 .have q0:=iW (l:=s.p.cs) (n:=mr g s.p.side n s.cur) (v:=gt s.p.cs s.cur) U U;have q1:=iW (l:=pt s.p.cs (mr g s.p.side n s.cur) (gt s.p.cs s.cur)) (n:=s.cur) (v:=0) a.1 U;refine Yn (M9 s.p b) ?_;simp;refine kP q0 q1 ?_;simp[uk, *]
 .rw[uk,if_pos n9]
end Go.Proofs.YtmehofoficaelaaGreatDoor
namespace Go.AL
open Go
def nk(n:Nat):D->Bool
 | .gf v _ _ _ _ | .ptr v _ _ | .gH v | .iQ v=>decide (v<n)
 | d=>closed d
def jG(n:Nat):D->Bool
 | .agg cs | .tup cs | .gC cs=>cs.all (nk n)
 | .fn _ a b=>a.all (nk n)&&b.all (nk n)
 | d=>nk n d
def nG(n:Nat):Ob->Bool
 | .row _ _ cs=>cs.all (jG n)
 | .map _ es=>es.all λx=>jG n x.2
 | .iu _ env _=>env.all λx=>jG n x.2
 | .sh _ _=>aE
 | .jo m _ _=>nk n m
 | .jH=>aE
 | .dead=>aE
 | .lT=>cp
def jz(n:Nat)(H:gd):Prop:=∀o∈H,nG n o=aE
def TI{ρ:Nat->Option Nat}{H:gd}{n k:Nat}(a:∀u,u<n->ρ u=b4 u){d:D}(h:nk n d=aE):gw ρ H (k+1) d=d:=by
 cases d with
 | gf v g sz off len=>simp only[nk,decide_eq_true_eq]at h;rw[TH,a v h,anJ]
 | ptr v g off=>simp only[nk,decide_eq_true_eq]at h;rw[anO,a v h,anK]
 | gH v=>simp only[nk,decide_eq_true_eq]at h;rw[anN,a v h,anI]
 | iQ v=>
  simp only[nk,decide_eq_true_eq]at h;rw[gw,if_neg fZ];rw[a v h]
 | _=>exact p7 h
def Iu{ρ:Nat->Option Nat}{H:gd}{n k:Nat}(a:∀u,u<n->ρ u=b4 u){cs:List D}(h:cs.all (nk n)=aE):cs.map (gw ρ H (k+1))=cs:=by
 conv=>rhs;rw[<-aY cs]
 exact au λd b=>TI a (bb.1 h d b)
def E9{ρ:Nat->Option Nat}{H:gd}{n k:Nat}(c:∀u,u<n->ρ u=b4 u){d:D}(h:jG n d=aE):gw ρ H (k+2) d=d:=by
 cases d with
 | agg cs=>rw[anM,Iu c h]
 | tup cs=>rw[anP,Iu c h]
 | gC cs=>
  by_cases e:closed (.gC cs)=aE
  .simp_all
  .rw[gw,if_neg e,Iu c h]
 | fn f a b=>
  simp only[jG,ai]at h
  by_cases e:closed (.fn f a b)=aE
  .simp_all
  .rw[gw,if_neg e,Iu c h.1,Iu c h.2]
 | _=>exact TI c h
def anL{ρ:Nat->Option Nat}{H:gd}{n:Nat}(a:∀u,u<n->ρ u=b4 u){o:Ob}(h:nG n o=aE):pI ρ H o=o:=by
 have key:∀ {α:Type} (l:List (α×D)),(l.all λx=>jG n x.2)=aE->(l.map λx=>(x.1,gw ρ H 40 x.2))=l:=by
  intro α l hl
  conv=>rhs;rw[<-aY l]
  exact au λx b=>by have:=bb.1 hl x b;rw[E9 a this];rfl
 cases o with
 | row t g cs=>
  simp only[pI];congr 1
  conv=>rhs;rw[<-aY cs]
  exact au λd c=>E9 a (bb.1 h d c)
 | map kk es=>simp only[pI];rw[key es h]
 | iu rf env st=>simp only[pI];rw[key env h]
 | sh=>rfl
 | jo m since seen=>simp only[pI];rw[TI a h]
 | jH=>rfl
 | dead=>rfl
 | lT=>cases h
def E5{n u:Nat}(h:u<n):iR (jn n []) u=b4 u:=by unfold iR jn;rw[dr,aB];rw[ea];refine⟨by simpa using h,fZ,λj a=>gL⟩
def I2{n:Nat}{H G:gd}(b:H.l=n)(h:jz n H):rD (jn n []) (H++G)=H:=by
 unfold rD;refine bU λi=>?_;rw[ax];unfold jn;rw[dr,aB,ax]
 by_cases hi:i<n
 .rw[bS hi];simp only[aH,if_true];rw[ah U,List.getElem?_eq_getElem U];simp only;congr 1;have e:((List.range n).map λv=>(v,aE))=jn n []:=by unfold jn;simp
  rw[e];exact anL (λu a=>E5 a) (h _ (bP _))
 .grind
def Pu{n:Nat}{d:D}(h:jG n d=aE):jB n d = []:=by cases d<;>first|rfl|(simp only[jG,nk,decide_eq_true_eq]at h;simp only[jB];rw[if_neg U])
theorem flatten_nil{α c:Type}{f:α->List c}:∀ {l:List α},(∀a∈l,f a = [])->(l.map f).flatten = []
 | [],_=>rfl
 | a::l,h=>by rw[List.map_cons,a7,h a fZ,flatten_nil λb d=>h b (by simp[d])];rfl
def S5{n:Nat}{o:Ob}(h:nG n o=aE):o9 n o = []:=by
 cases o with
 | row t g cs=>exact flatten_nil λd b=>Pu (bb.1 h d b)
 | map kk es=>exact flatten_nil λx a=>Pu (bb.1 h x a)
 | _=>rfl
def ada{n:Nat}{live:List Nat}{env:Env}{H G:gd}{m:List Nat}{r:Bool}(j:Cm live=cp)(h:H.l=n)(e:jz n H)(d:((forget live env).all λp=>jG n p.2)=aE)(i:(m.all λv=>decide (v<n))=aE) :
  cut n live { env:=env,H:=H++G,marks:=m,iG:=r } = { env:=forget live env,H:=H,marks:=m,iG:=r }:=by
 by_cases hg:(H++G).l<=n
 .have:G = []:=by
   cases G with
   | nil=>rfl
   | cons a l=>simp at hg;omega
  subst this;rw[aB];exact VC (by show H.l<=n;omega)
 .unfold cut;dsimp only;rw[if_neg (by rw[j];simpa using hg)];have t:((forget live env).map λp=>jB n p.2).flatten = []:=flatten_nil λp b=>Pu (bb.1 d p b)
  have s:(((H++G).take n).map (o9 n)).flatten = []:=flatten_nil λo c=>by rw[aW U,af U]at c;exact S5 (e o c)
  have q:m.filter (n<=·) = []:=n9;rw[t,s,q];have k:dedup (([] ++ [] ++ []:List Nat).filter (· < (H++G).l)) = []:=rfl;rw[k,I2 h e];congr 1
  .conv=>rhs;rw[<-aY (forget live env)]
   exact au λp b=>by rw[E9 (λu g=>E5 g) (bb.1 d p b)];rfl
  .conv=>rhs;rw[<-aY m]
   exact au λv f=>by have:=bb.1 i v f;rw[E5 (by simpa using this)];rfl
def aha{n:Nat}{H G:gd}{d:D}(f:H.l=n)(c:jz n H)(g:jG n d=aE):leave 0 n (H++G) d=(d,H):=by
 by_cases hg:(H++G).l<=n
 .have:G = []:=by
   cases G with
   | nil=>rfl
   | cons a l=>simp at hg;omega
  subst this;rw[aB];exact Zm U 0
 .unfold leave;rw[if_neg U]
  have i:(((H++G).take n).map (o9 n)).flatten = []:=flatten_nil λo b=>by rw[aW U,af U]at b;exact S5 (c o b)
  simp only;rw[i];have h:dedup (([] ++ []:List Nat).filter (· < (H++G).l)) = []:=rfl;rw[h,I2 f c,E9 (λu e=>E5 e) g]
def p5{n v:Nat}{H:gd}{o:Ob}(h:jz n H)(b:nG n o=aE):jz n (H.set v o):=λx a=>by
 rcases dK a with a|rfl
 .exact h x a
 .exact b
def Fa{n:Nat}{d:D}(h:closed d=aE):nk n d=true:=by cases d<;>first|exact h|(cases h;done)|(simp only[closed]at h;cases h)
def CJ{n:Nat}{d:D}(h:closed d=aE):jG n d=true:=by
 cases d with
 | agg cs=>exact bb.2 λd c=>Fa (lP (by simpa using h) d c)
 | tup cs=>exact bb.2 λd c=>Fa (lP (by simpa using h) d c)
 | gC cs=>exact bb.2 λd c=>Fa (lP (by simpa using h) d c)
 | fn f a b=>
  simp only[Vm,ai]at h;simp only[jG,ai];exact⟨bb.2 λd c=>Fa (lP h.1 d c),bb.2 λd c=>Fa (lP h.2 d c)⟩
 | _=>exact Fa (n:=n) h
@[simp] theorem ayv{n:Nat}{d:D}(h:closed d=aE):jG n d=true:=CJ h
@[simp] theorem ayz(n v g sz off len:Nat):jG n (.gf v g sz off len)=decide (v<n):=rfl
@[simp] theorem ayA(n v g off:Nat):jG n (.ptr v g off)=decide (v<n):=rfl
@[simp] theorem ayy(n v:Nat):jG n (.gH v)=decide (v<n):=rfl
@[simp] theorem ayu(n:Nat)(cs:List D):jG n (.agg cs)=cs.all (nk n):=rfl
@[simp] theorem ayB(n:Nat)(cs:List D):jG n (.tup cs)=cs.all (nk n):=rfl
@[simp] theorem ayD(n v g sz off len:Nat):nk n (.gf v g sz off len)=decide (v<n):=rfl
@[simp] theorem ayE(n v g off:Nat):nk n (.ptr v g off)=decide (v<n):=rfl
@[simp] theorem ayw(n:Nat)(f:Fn)(a b:List D):jG n (.fn f a b)=(a.all (nk n)&&b.all (nk n)):=rfl
@[simp] theorem AA{n t g:Nat}{α:Type}{f:α->List D}{sz:Nat}[F:Fl f sz](l:List α):nG n (.row t g (cl f l))=true:=
 bb.2 λd a=>CJ (lP (sw l) d a)
@[simp high] theorem ag6{α:Type}[Inhabited α]{f:α->List D}{sz:Nat}[F:Fl f sz]{l:List α}{t:TypeId}{n:Int}(a:0<sz):uX sz (n.n*sz) (b4 (t,cl f l))=if n.n<l.l then b4 (.agg (f (gt l n)))else none:=by
 have h:=ahU (f:=f) (l:=l) (t:=t) (n:=n) (P:=λd=>d = .agg (f (gt l n))) a;simp only[and_true]at h
 by_cases b:n.n<l.l
 .simp_all
 .rw[if_neg b];unfold uX;dsimp only;rw[if_neg];rw[sZ,<-cH,fq a];omega
section
variable{T:iF}{a b:IR}{s:St}{K:jb}{id n:Nat}{live:List Nat}
@[simp ↓] theorem awl:IC T b K (.norm s)=Wc T b s K:=(rfl)
@[simp ↓] theorem awk:IC T b K (.exit id s)=K (.exit id s):=(rfl)
@[simp ↓] theorem awm:IC T b K (.ret s)=K (.ret s):=(rfl)
end
def LJ{α:Type}(E:α->Env)(b:α->gd)(ms:List Nat)(rd:Bool)(Q:α->Prop)(_:Tag (E,b,ms,rd,Q))(e:Env)(H:gd)(m:List Nat)(r:Bool):Prop:=
 ∃a,e=E a/\H=b a/\m=ms/\r=rd/\Q a
theorem LJ.e{α:Type}{E:α->Env}{b:α->gd}{ms:List Nat}{rd:Bool}{Q:α->Prop}{t:Tag (E,b,ms,rd,Q)}{e:Env}{H:gd}{m:List Nat}{r:Bool}(a:α)(c:Q a)(h1:e=E a:=by first|rfl|simp)(g:H=b a:=by first|rfl|simp)(f:m=ms:=by exact rfl)(d:r=rd:=by exact rfl):LJ E b ms rd Q t e H m r:=⟨a,h1,g,f,d,c⟩
def LJ.i{α:Type}{E:α->Env}{b:α->gd}{ms:List Nat}{rd:Bool}{Q:α->Prop}{t:Tag (E,b,ms,rd,Q)}{e:Env}{H:gd}{m:List Nat}{r:Bool}(a:α)(h1:e=E a)(g:H=b a)(f:m=ms)(d:r=rd)(c:Q a):LJ E b ms rd Q t e H m r:=⟨a,h1,g,f,d,c⟩
section
variable{T:iF}{live:List Nat}{a:IR}{s:St}{K:jb}{α:Type}
theorem gx.k(b:α)(E:α->Env)(c:α->gd)(P:α->Prop)(d:α->Nat)
  (h0:P b) (l:forget ((E b).map (·.1)) s.env=E b) (j:s.H=c b) (i:s.marks = []) (g:s.iG=cp) (f:(((E b).map (·.1)).all λk=>live.contains k)=aE)
  (h:∀x,P x->XC T a { env:=E x,H:=c x } (wj s.H.l live ((E b).map (·.1)) (LJ E c [] cp (λe=>d e<d x/\P e) .mk) K)):gx T live a s K .mk:=
 gx.j b E c P d h0 l j f (by rw[i,g];exact h)
end
@[simp] theorem asK{α:Type}{f:α->List D}[Fl f 1](l:List α)(n:Nat):(cl f l).take n=cl f (l.take n):=by simpa using xX (f:=f) l n
@[simp] theorem asH{α:Type}{f:α->List D}[Fl f 1](l:List α)(n:Nat):(cl f l).drop n=cl f (l.drop n):=by simpa using uH (f:=f) l n
@[simp] theorem auY(K:List Nat):jn 5 K=(0,aE)::(1,aE)::(2,aE)::(3,aE)::(4,aE)::K.map λv=>(v,aE):=rfl
@[simp] theorem auZ(K:List Nat):jn 6 K=(0,aE)::(1,aE)::(2,aE)::(3,aE)::(4,aE)::(5,aE)::K.map λv=>(v,aE):=rfl
@[simp] theorem au0(K:List Nat):jn 7 K=(0,aE)::(1,aE)::(2,aE)::(3,aE)::(4,aE)::(5,aE)::(6,aE)::K.map λv=>(v,aE):=rfl
@[simp] theorem au1(K:List Nat):jn 8 K=(0,aE)::(1,aE)::(2,aE)::(3,aE)::(4,aE)::(5,aE)::(6,aE)::(7,aE)::K.map λv=>(v,aE):=rfl
@[simp] theorem au2(K:List Nat):jn 9 K=(0,aE)::(1,aE)::(2,aE)::(3,aE)::(4,aE)::(5,aE)::(6,aE)::(7,aE)::(8,aE)::K.map λv=>(v,aE):=rfl
@[simp] theorem auH(K:List Nat):jn 10 K=(0,aE)::(1,aE)::(2,aE)::(3,aE)::(4,aE)::(5,aE)::(6,aE)::(7,aE)::(8,aE)::(9,aE)::K.map λv=>(v,aE):=rfl
@[simp] theorem auI(K:List Nat):jn 11 K=(0,aE)::(1,aE)::(2,aE)::(3,aE)::(4,aE)::(5,aE)::(6,aE)::(7,aE)::(8,aE)::(9,aE)::(10,aE)::K.map λv=>(v,aE):=rfl
@[simp] theorem auJ(K:List Nat):jn 12 K=(0,aE)::(1,aE)::(2,aE)::(3,aE)::(4,aE)::(5,aE)::(6,aE)::(7,aE)::(8,aE)::(9,aE)::(10,aE)::(11,aE)::K.map λv=>(v,aE):=rfl
@[simp] theorem auK(K:List Nat):jn 13 K=(0,aE)::(1,aE)::(2,aE)::(3,aE)::(4,aE)::(5,aE)::(6,aE)::(7,aE)::(8,aE)::(9,aE)::(10,aE)::(11,aE)::(12,aE)::K.map λv=>(v,aE):=rfl
@[simp] theorem auL(K:List Nat):jn 14 K=(0,aE)::(1,aE)::(2,aE)::(3,aE)::(4,aE)::(5,aE)::(6,aE)::(7,aE)::(8,aE)::(9,aE)::(10,aE)::(11,aE)::(12,aE)::(13,aE)::K.map λv=>(v,aE):=rfl
@[simp] theorem auM(K:List Nat):jn 15 K=(0,aE)::(1,aE)::(2,aE)::(3,aE)::(4,aE)::(5,aE)::(6,aE)::(7,aE)::(8,aE)::(9,aE)::(10,aE)::(11,aE)::(12,aE)::(13,aE)::(14,aE)::K.map λv=>(v,aE):=rfl
@[simp] theorem auN(K:List Nat):jn 16 K=(0,aE)::(1,aE)::(2,aE)::(3,aE)::(4,aE)::(5,aE)::(6,aE)::(7,aE)::(8,aE)::(9,aE)::(10,aE)::(11,aE)::(12,aE)::(13,aE)::(14,aE)::(15,aE)::K.map λv=>(v,aE):=rfl
@[simp] theorem auO(K:List Nat):jn 17 K=(0,aE)::(1,aE)::(2,aE)::(3,aE)::(4,aE)::(5,aE)::(6,aE)::(7,aE)::(8,aE)::(9,aE)::(10,aE)::(11,aE)::(12,aE)::(13,aE)::(14,aE)::(15,aE)::(16,aE)::K.map λv=>(v,aE):=rfl
@[simp] theorem auP(K:List Nat):jn 18 K=(0,aE)::(1,aE)::(2,aE)::(3,aE)::(4,aE)::(5,aE)::(6,aE)::(7,aE)::(8,aE)::(9,aE)::(10,aE)::(11,aE)::(12,aE)::(13,aE)::(14,aE)::(15,aE)::(16,aE)::(17,aE)::K.map λv=>(v,aE):=rfl
@[simp] theorem auQ(K:List Nat):jn 19 K=(0,aE)::(1,aE)::(2,aE)::(3,aE)::(4,aE)::(5,aE)::(6,aE)::(7,aE)::(8,aE)::(9,aE)::(10,aE)::(11,aE)::(12,aE)::(13,aE)::(14,aE)::(15,aE)::(16,aE)::(17,aE)::(18,aE)::K.map λv=>(v,aE):=rfl
@[simp] theorem auS(K:List Nat):jn 20 K=(0,aE)::(1,aE)::(2,aE)::(3,aE)::(4,aE)::(5,aE)::(6,aE)::(7,aE)::(8,aE)::(9,aE)::(10,aE)::(11,aE)::(12,aE)::(13,aE)::(14,aE)::(15,aE)::(16,aE)::(17,aE)::(18,aE)::(19,aE)::K.map λv=>(v,aE):=rfl
@[simp] theorem auT(K:List Nat):jn 21 K=(0,aE)::(1,aE)::(2,aE)::(3,aE)::(4,aE)::(5,aE)::(6,aE)::(7,aE)::(8,aE)::(9,aE)::(10,aE)::(11,aE)::(12,aE)::(13,aE)::(14,aE)::(15,aE)::(16,aE)::(17,aE)::(18,aE)::(19,aE)::(20,aE)::K.map λv=>(v,aE):=rfl
@[simp] theorem auU(K:List Nat):jn 22 K=(0,aE)::(1,aE)::(2,aE)::(3,aE)::(4,aE)::(5,aE)::(6,aE)::(7,aE)::(8,aE)::(9,aE)::(10,aE)::(11,aE)::(12,aE)::(13,aE)::(14,aE)::(15,aE)::(16,aE)::(17,aE)::(18,aE)::(19,aE)::(20,aE)::(21,aE)::K.map λv=>(v,aE):=rfl
@[simp] theorem auV(K:List Nat):jn 23 K=(0,aE)::(1,aE)::(2,aE)::(3,aE)::(4,aE)::(5,aE)::(6,aE)::(7,aE)::(8,aE)::(9,aE)::(10,aE)::(11,aE)::(12,aE)::(13,aE)::(14,aE)::(15,aE)::(16,aE)::(17,aE)::(18,aE)::(19,aE)::(20,aE)::(21,aE)::(22,aE)::K.map λv=>(v,aE):=rfl
@[simp] theorem azd{α:Type}{l:List α}{n:Nat}(h:l.l=n):l.take n=l:=af U
@[simp] theorem ayJ(a b:List Pos):D.sl 5 (a.map Pos.cells++b.map Pos.cells)=gP (a++b):=by unfold gP;rw[List.map_append]
def Ey{α:Type}(g:α->D)(Q:α->Prop)(d:D)(H:gd):Prop:=Ex g Q d H
def Ey.i{α:Type}{g:α->D}{Q:α->Prop}{d:D}{H:gd}(x:α)(h1:d=g x)(b:H = [])(a:Q x):Ey g Q d H:=⟨x,h1,b,a⟩
def QC(ρ:Nat->Option Nat)(H:gd)(k off:Nat):Option (TypeId×List D)->D
 | some (_,cs)=>.gC ((cs.drop off).map (gw ρ H k))
 | none=>.any
@[simp] theorem aye(H:gd)(k:Nat)(ρ:Nat->Option Nat)(v g off:Nat):I1 H k ρ v g off none=QC ρ H k off (rowAt H v g):=by unfold I1 QC;rfl
@[simp] theorem atV(ρ:Nat->Option Nat)(H:gd)(k off:Nat)(t:TypeId)(cs:List D):QC ρ H k off (b4 (t,cs)) = .gC ((cs.drop off).map (gw ρ H k)):=rfl
structure GH(H:gd)(v:Nat):Prop where
 lt:v<H.l
 ok:jz H.l H
section
variable{H G:gd}{v:Nat}{o o':Ob}
@[simp] theorem GH.get(h:GH H v):(H.set v o)[v]? = b4 o:=aN h.lt
@[simp] theorem GH.iD(h:GH H v):(H.set v o++G)[v]? = b4 o:=by rw[ah (by rw[aw];exact h.lt)];exact h.get
@[simp] theorem GH.afp(_:GH H v):(H.set v o++G)[H.l]? = G[0]? := jS
@[simp] theorem GH.anH(_:GH H v):(H.set v o++G).set H.l o'=H.set v o++G.set 0 o':=jS
@[simp high] theorem GH.cut(h:GH H v){live:List Nat}{env:Env}{r:Bool}(c:Cm live=cp)(a:nG H.l o=aE)(b:((forget live env).all λp=>jG H.l p.2)=aE) :
  Go.AL.cut H.l live { env:=env,H:=H.set v o++G,marks:=[],iG:=r } = { env:=forget live env,H:=H.set v o,marks:=[],iG:=r }:=ada c (aw ..) (p5 h.ok a) b rfl
@[simp] theorem GH.lt_eq(h:GH H v):(v<H.l)=True:=eq_true h.lt
end
@[simp] theorem awZ(n:Nat):jz n []=True:=eq_true λ_ h=>by cases h
@[simp] theorem awY(n:Nat)(o:Ob)(r:gd):jz n (o::r)=(nG n o=aE/\jz n r):=propext ⟨λh=>⟨h o fZ,λx a=>h x (by simp[a])⟩,λh x a=>by
 rcases av.1 a with rfl|a
 .exact h.1
 .exact h.2 x a⟩
@[simp] theorem aw4(n t g:Nat)(cs:List D):nG n (.row t g cs)=cs.all (jG n):=rfl
@[simp] theorem aw0(n:Nat):nG n .dead=true:=rfl
@[simp] theorem aw2(n:Nat)(kk:KK)(es:List (Value×D)):nG n (.map kk es)=es.all λx=>jG n x.2:=rfl
@[simp] theorem aq2{n:Nat}{α:Type}{f:α->List D}{sz:Nat}[F:Fl f sz](l:List α):(cl f l).all (jG n)=true:=
 bb.2 λd a=>CJ (lP (sw l) d a)
section
variable{H G:gd}{v k:Nat}{o:Ob}
@[simp] theorem abY:(H++G)[H.l+k]? = G[k]? := by rw[ak U];congr 1;omega
@[simp] theorem aq7:(H++G)[H.l]? = G[0]? := by rw[ak U];congr 1;omega
theorem ZB(h:H[v]? = b4 o):v<H.l:=jS
end
end Go.AL
namespace Go.Proofs.YtmehofoficaelaaGreatDoor
open Go Go.AL Classical
set_option maxRecDepth 10000
set_option maxHeartbeats 1000000
def ahy{n:Int}{k:Nat}(h0:0<=n)(h1:n<=2*k)(a:k<=2):gN n<0↔n=0:=by unfold gN;split<;>omega
def ahz{n s:Int}(h:0<=gN n)(hs:0<=s/\s<=1):kh n=1-s↔¬kh n=s:=by
 unfold gN at h;unfold kh;split at h
 .rename_i e;rw[if_pos e];omega
 .omega
def SG{n s:Int}(h:¬ 0<=gN n)(hs:0<=s/\s<=1):¬kh n=1-s/\¬kh n=s:=by
 unfold gN at h;unfold kh;split at h
 .omega
 .rename_i e;rw[if_neg e];omega
def f228(g:gq)(hg:gR g)(s:gD)(hs:kA g s)(x:gg)(i:FY g x):Wf T 284 [dG g,.agg s.cells,.agg [.i x.1,.i x.2]] [] (Is (kL (jj g s x))):=by
 have o:=hs.p.size;have f:=hs.cur;have m:=hs.p.small hg;have p:=hg.jU.to s.p.side x.2 s.cur;have d:=hs.p.cs _ (gF f.1 U);have a:=hs.p.side;have j:=ahy d.1 d.2 hg.kinds.2;have e:=hs.p.gO;have c:=hg.gO;have l:=i.ok;refine Yg Lf ?_;simp[Lf];refine gh ?_;refine Yc (f51 _) ?_;simp;(with_reducible repeat' first|refine Xk ?_<;>try simp|refine Xs ?_ ?_<;>intro h<;>(try intro q)<;>(try simp[h])<;>try omega|refine Xg ?_|omega)
 .refine Yc (f251 g hg.jU s.p.side x.2 s.cur) ?_;simp;refine Yc (f252 { s with cur:=mr g s.p.side x.2 s.cur } _) ?_;simp;simp[jj,h]
 .refine Yc (f253 g hg s hs x.2) ?_;simp;simp[jj,h]
 .refine Yc (f252 s _) ?_;simp;simp[jj,h,j]
 .refine Yc (f252 s _) ?_;simp;have h1:=ahz jZ a;simp[jj, *]
 .refine Yc (f252 s _) ?_;simp;have h1:=SG jZ a;simp[jj, *]
 .refine Yc (f252 s _) ?_;simp;simp[jj, *]
 .refine Yc (f252 s _) ?_;simp;have h1:=SG jZ a;simp[jj, *]
 .refine Yc (f254 g hg s hs) ?_;simp;simp[jj, *]
 .refine Yc (f255 g hg s hs x.2) ?_;simp;simp[jj, *]
 .simp[jj, *]
 .refine Yt (f252 s _) ?_;simp;have k:=EX c.1 U;have b:=aaH (r:=s.p.gO) (n:=x.2) e.1 U U U;simp[jj,b, *]
 .have k:=EX c.1 U;have b:=aaI (r:=s.p.gO) (n:=x.2) e.1 U U U;simp[jj,b, *]
def my(a:List gD):List gD->List gD
 | []=>a
 | x::r=>my (if x∈a then a else a ++ [x]) r
theorem F1:∀ {b a:List gD} {x:gD},x∈my a b↔x∈a\/x∈b
 | [],a,x=>by simp[my]
 | y::r,a,x=>by
  unfold my;rw[F1];split<;>simp
  .constructor
   .rintro(h|h)<;>simp[h]
   .rintro(h|rfl|h)<;>simp[*]
  .constructor
   .rintro((h|h)|h)<;>simp[h]
   .rintro(h|rfl|h)<;>simp[*]
theorem F0:∀ {b a:List gD},(my a b).l<=a.l+b.l
 | [],a=>by simp[my]
 | y::r,a=>by unfold my;refine bs F0 ?_;split<;>simp<;>omega
def anF{H:gd}{v:Nat}{o:Ob}(h:H[v]? = b4 o):H=H.set v o:=by
 refine bU λi=>?_;rw[bT];split
 .rename_i e;subst e;rw[if_pos (ZB h),h]
 .rfl
def GH.of{H:gd}{v:Nat}{o:Ob}(a:H[v]? = b4 o)(b:jz H.l H):GH H v:=⟨ZB a,b⟩
def f227(v gen:Nat)(a b:List gD)(H:gd)(n:H[v]? = b4 (.row 373 gen (cl gD.cells a)))(t:jz H.l H)(r:∀s∈a,Small s.p)(o:∀s∈b,Small s.p)(hl:a.l+b.l<2 ^ 39):Wf T 283 [.gf v gen 8 0 a.l,kL b] H (λd H'=>∃q,d = .gf v q 8 0 (my a b).l/\H'=H.set v (.row 373 q (cl gD.cells (my a b)))):=by
 have hg:=GH.of n t;have z:=hg.lt;refine Yg Le ?_;simp[Le];refine gx.j ((0,gen,a):Int×Nat×List gD) (λx=>[(0,.gf v x.2.1 8 0 x.2.2.l),(1,kL b),(5,.i x.1)]) (λx=>H.set v (.row 373 x.2.1 (cl gD.cells x.2.2))) (λx=>0<=x.1/\x.1<=b.l/\x.2.2.l<=a.l+x.1.n/\(∀s∈x.2.2,Small s.p)/\my x.2.2 (b.drop x.1.n)=my a b) (λx=>b.l-x.1.n) ?_ fZ (anF n) rfl ?_
 .simp;exact r
 rintro⟨i,p,l⟩ ⟨h0,h1,u,f,c⟩;dsimp only at h0 h1 u f c ⊢;simp;refine kj ?_ ?_<;>intro h
 .refine gx.j ((0,cp):Int×Bool) (λx=>[(0,.gf v p 8 0 l.l),(1,kL b),(5,.i i),(6,.b x.2),(7,.i x.1)]) (λx=>H.set v (.row 373 p (cl gD.cells l))) (λx=>0<=x.1/\x.1<=l.l/\x.2=decide (gt b i∈l.take x.1.n)) (λx=>l.l-x.1.n) ?_ fZ rfl rfl ?_
  .simp
  rintro⟨k,m⟩ ⟨g,w,j⟩;dsimp only at g w j ⊢;simp[hg];(with_reducible repeat' first|refine Xk ?_<;>try simp[hg]|refine Xs ?_ ?_<;>intro h<;>(try intro A)<;>(try simp[h,hg])<;>try omega|refine Xg ?_|omega)
  .rw[jt g jZ];simp_all
  .refine Yt (f250 _ _ (f _ (gF g jZ)) (o _ (gF h0 jZ))) ?_;simp;simp only[h,cond_false];refine pb ⟨k+1,?_⟩;rw[jt g jZ]
   by_cases e:gt l k=gt b i
   .right;simp[e];omega
   .left;simp_all;exact gX (λy=>e y.symm)
  .refine⟨i+1,l,rfl,rfl,rfl,U,U,U,U,f,?_⟩;rw[<-c,oe h0 jZ,my,(U:(i+1).n=i.n+1)];rw[if_pos];rw[j,lC U]at h;simpa using h
  .refine⟨i+1,l ++ [gt b i],fZ,rfl,fZ,U,U,U,gL,?_,?_⟩
   .intro s hs;simp at hs;rcases hs with hs|rfl
    .exact f s hs
    .exact o _ (gF h0 jZ)
   .rw[<-c,oe h0 jZ,my,(U:(i+1).n=i.n+1)];rw[if_neg];rw[j,lC U]at h;simpa using h
 .rw[bA U]at c;have e:my l []=l:=rfl;rw[e]at c;rw[<-c];exact⟨rfl,rfl⟩
end Go.Proofs.YtmehofoficaelaaGreatDoor
namespace Go.AL
open Go Classical
def je{α:Type}{f:α->List D}(a:α):cl f [a]=f a:=by rw[nb,acE,aB]
def gx.e{T:iF}{live:List Nat}{a:IR}{s:St}{K:jb}{α:Type}(b:α)(E:α->Env)(c:α->gd)(P:α->Prop)(d:α->Nat)(h0:P b)
  (h:∀x,P x->XC T a { env:=E x,H:=c x } (wj s.H.l live ((E b).map (·.1)) (LJ E c [] cp (λe=>d e<d x/\P e) .mk) K))
  (l:forget ((E b).map (·.1)) s.env=E b:=by simp) (j:s.H=c b:=by first|rfl|(simp[je];done)|(simp[*];done)) (i:s.marks = []:=by exact rfl) (g:s.iG=false:=by exact rfl) (f:(((E b).map (·.1)).all λk=>live.contains k)=true:=by exact rfl):gx T live a s K .mk:=gx.k b E c P d h0 l j i g f h
def kT.pw{l:List Pos}(h:kT l):l.Pairwise λx y=>iH x y<0:=by refine bG.2 λi j hi a b=>?_;have:=h.le (i:=(i:Int)) (j:=(j:Int)) U U U;rwa [Bv hi,Bv a]at this
def kT.of{r:List Pos}(h:r.Pairwise λx y=>iH x y<0):kT r:=by intro i h1 a;rw[iX U U,iX U U];exact bG.1 h _ _ _ _ U
theorem aas:∀ {a b:List Pos},(a.Pairwise λx y=>iH x y<0)->(b.Pairwise λx y=>iH x y<0)->(∀q,q∈a↔q∈b)->a=b
 | [],[],_,_,_=>rfl
 | [],y::b,_,_,h=>by have:=(h y).2 fZ;cases this
 | x::a,[],_,_,h=>by have:=(h x).1 fZ;cases this
 | x::a,y::b,ha,hb,h=>by
  have g:=aT.1 ha;have d:=aT.1 hb
  have e:x=y:=by
   rcases av.1 ((h x).1 fZ)with e|e
   .exact e
   rcases av.1 ((h y).2 fZ)with f|f
   .exact f.symm
   have h1:=d.1 x e;have i:=g.1 y f;rw[vj]at h1;omega
  subst e;rw[aas g.2 d.2 λq=>?_];constructor
  .intro c;rcases av.1 ((h q).1 (by simp[c]))with e|e
   .subst e;have:=g.1 q c;rw[uJ]at this;omega
   .exact e
  .intro c;rcases av.1 ((h q).2 (by simp[c]))with e|e
   .subst e;have:=d.1 q c;rw[uJ]at this;omega
   .exact e
def Ff{a b:List Pos}(d:kT a)(c:kT b)(h:∀q,q∈a↔q∈b):a=b:=aas d.pw c.pw h
def acT{x y:Pos}(h:x≠y)(a:¬iH x y<0):iH y x<0:=by have:iH x y≠0:=λe=>h (rO.1 e);rw[vj];omega
theorem YQ(x:Pos):∀r:List Pos,(r.Pairwise λx y=>iH x y<0)->∃b:List Pos,(b.Pairwise λx y=>iH x y<0)/\∀q,q∈b↔q=x\/q∈r
 | [],_=>⟨[x],fZ,fZ⟩
 | y::r,h=>by
  have c:=aT.1 h
  by_cases e:x=y
  .subst e;exact⟨x::r,h,fZ⟩
  by_cases hl:iH x y<0
  .refine⟨x::y::r,aT.2 ⟨λz a=>?_,h⟩,fZ⟩;rcases av.1 a with rfl|a
   .exact hl
   .exact zz hl (c.1 z a)
  .obtain⟨b,h1,d⟩:=YQ x r c.2;refine⟨y::b,aT.2 ⟨λz a=>?_,h1⟩,λq=>?_⟩
   .rcases(d z).1 a with rfl|a
    .exact acT e hl
    .exact c.1 z a
   .simp only[av,d];constructor
    .rintro(h|h|h)<;>simp[h]
    .rintro(h|h|h)<;>simp[h]
theorem Pf:∀l:List Pos,∃r,kT r/\∀q,q∈r↔q∈l
 | []=>⟨[],λi h1 a=>by simp at a;omega,fZ⟩
 | x::l=>by obtain⟨r,h1,a⟩:=Pf l;obtain⟨b,d,c⟩:=YQ x r h1.pw;exact⟨b,kT.of d,λq=>by rw[c,a,av]⟩
noncomputable def kN(l:List Pos):List Pos:=Classical.choose (Pf l)
def CM(l:List Pos):kT (kN l):=(cK (Pf l)).1
@[simp] theorem wB{l:List Pos}{q:Pos}:q∈kN l↔q∈l:=(cK (Pf l)).2 q
theorem aa5{l r:List Pos}(h:kT r)(a:∀q,q∈r↔q∈l):r=kN l:=Ff h (CM l) λq=>by rw[a,wB]
theorem IA{α:Type}[DecidableEq α]:∀ {l m:List α},l.Nodup->(∀x∈l,x∈m)->l.l<=m.l
 | [],m,_,_=>fZ
 | a::l,m,b,h=>by
  have b:=cN.1 b
  have h1:l.l<=(m.erase a).l:=IA b.2 λx c=>by refine(List.mem_erase_of_ne ?_).2 (h x (by simp[c]));rintro rfl;exact b.1 c
  rw[fr (h a fZ)]at h1;have:0<m.l:=fF (h a fZ);simp;omega
def kT.nodup{l:List Pos}(h:kT l):l.Nodup:=h.pw.imp λ{a b} c e=>by subst e;rw[uJ]at c;omega
def Pe(l:List Pos):(kN l).l<=l.l:=IA (kT.nodup (CM l)) λx a=>wB.1 a
def ended(g:gq)(p:Pos):Prop:=∃c∈g.clauses,ln p c
def IB{g:gq}{p:Pos}(h:¬ended g p):∀c∈g.clauses,¬ln p c:=λc a hl=>h ⟨c,a,hl⟩
def MW(g:gq)(p:Pos):List Pos:=(upto g.kinds.l).flatMap λk=>(upto p.cs.l).map λc=>kr p k c
theorem Bs{α c:Type}{f:α->List c}{n:Nat}:∀ {l:List α},(∀a∈l,(f a).l<=n)->(l.flatMap f).l<=l.l*n
 | [],_=>fZ
 | a::l,h=>by rw[di,aq,aI,cH];have:=h a fZ;have:=Bs (l:=l) λb d=>h b (by simp[d]);omega
theorem aaV{g:gq}:∀ {l:List gg} {a:List gD},(tj g l a).l<=10 ^ l.l*a.l
 | [],a=>by simp[tj]
 | x::r,a=>by rw[tj];refine bs aaV ?_;rw[aI,eE,fV];refine eJ _ ?_;rw[dS];exact Bs λs _=>Fg
def amC{g:gq}(hg:gR g){p:Pos}(a:iC g p):(qu g p).l<=3600000000:=by
 have i:=a.size;have j:=hg.jU.size
 have:(qu g p).l<=(upto p.cs.l).l*400000000:=by
  refine Bs λc d=>?_;rw[jJ]at d;unfold p6;split
  .rename_i e;have f:=Ja hg a d.1 U e;have b:=hg.jA _ (gF (l:=g.kinds) f.kind.1 f.kind.2)
   have m:((gt g.kinds (gN (gt p.cs c))).jA.flatMap (uZ g p c)).l<=(gt g.kinds (gN (gt p.cs c))).jA.l*100000000:=by refine Bs λl hl=>?_;have h:=(b.2 l hl).len;refine bs (ft _ _) (bs aaV ?_);have:10 ^ l.l<=10 ^ 8:=cO jh h.2;simpa using this
   have k:(gt g.kinds (gN (gt p.cs c))).jA.l<=4:=b.1;omega
  .simp
 have e:(upto p.cs.l).l=p.cs.l:=by simp[upto]
 rw[e]at this;omega
def adr{g:gq}(hg:gR g){p:Pos}(a:iC g p):(MW g p).l<=18:=by
 have b:=a.size;have d:=hg.jU.size;have c:=hg.kinds
 have:(MW g p).l<=(upto g.kinds.l).l*9:=Bs λk _=>by simp[upto];omega
 have e:(upto g.kinds.l).l=g.kinds.l:=by simp[upto]
 rw[e]at this;omega
def ahL{g:gq}{p q:Pos}(h:rJ g p q):q∈(qu g p).map (·.p)++MW g p:=by
 obtain⟨_,h⟩:=h;split at h
 .exact aj.2 (.inl (az.2 ⟨_,h,rfl⟩))
 .rcases h with⟨o,h,rfl⟩|⟨k,c,h1,d,b,a,_,_,rfl⟩
  .exact aj.2 (.inl (az.2 ⟨_,h,rfl⟩))
  .exact aj.2 (.inr (bJ.2 ⟨k,jJ.2 ⟨h1,d⟩,az.2 ⟨c,jJ.2 ⟨b,a⟩,rfl⟩⟩))
noncomputable def iY(g:gq)(p:Pos):List Pos:=kN (((qu g p).map (·.p)++MW g p).filter λq=>decide (rJ g p q))
def ahM(g:gq)(p:Pos):kT (iY g p):=CM _
@[simp] theorem Ck{g:gq}{p q:Pos}:q∈iY g p↔rJ g p q:=by unfold iY;rw[wB,aS];simp only[decide_eq_true_eq];exact⟨λh=>h.2,λh=>⟨ahL h,h⟩⟩
def S2{g:gq}{p:Pos}{r:List Pos}(h:kT r)(a:∀q,q∈r↔rJ g p q):r=iY g p:=Ff h (ahM g p) λq=>by rw[a,Ck]
def Ou{g:gq}{p:Pos}(h:ended g p):iY g p = []:=by refine bn.2 λq a=>?_;obtain⟨c,b,hl⟩:=h;exact(Ck.1 a).1 c b hl
@[irreducible] noncomputable def ue(g:gq)(p:Pos):D:=if ended g p then .gi else gP (iY g p)
theorem Ot(g:gq)(p:Pos):(ue g p = .gi/\iY g p = [])\/ue g p=gP (iY g p):=by
 unfold ue;split
 .rename_i h;exact .inl ⟨rfl,Ou h⟩
 .exact .inr rfl
def yN{g:gq}(hg:gR g){p:Pos}(a:iC g p):(iY g p).l<=4000000000:=by refine bs (Pe _) (bs (List.length_filter_le _ _) ?_);have:=amC hg a;have:=adr hg a;simp;omega
section
variable{g:gq}{p:Pos}{n:Int}{k:IntKind}{P:D->Prop}{H:gd}
@[simp] theorem acQ:closed (ue g p)=true:=by rcases Ot g p with⟨h,_⟩|h<;>rw[h]<;>simp
@[simp] theorem avE:mY .slice (ue g p) H=b4 (.i (iY g p).l):=by rcases Ot g p with⟨h,e⟩|h<;>rw[h]<;>simp[*]
@[simp] theorem ay6:lu 5 H (ue g p)=b4 (cl Pos.cells (iY g p),(iY g p).l):=by rcases Ot g p with⟨h,e⟩|h<;>rw[h]<;>simp[*]
@[simp] theorem azu(n:Nat):jB n (ue g p) = []:=Pt n acQ
@[simp] theorem awy:oA (mC 5 (ue g p) (.val (.int k n))) P .mk=((0<=n/\n<(iY g p).l)/\P (.gC (gt (iY g p) n).cells)):=by
 rcases Ot g p with⟨h,e⟩|h
 .rw[h,e];simp only[mC,ZX,cW];refine propext ⟨λh=>h.elim,λ⟨h,_⟩=>?_⟩;have:=h.1;have:=h.2;simp at this;omega
 .rw[h];exact yP
end
noncomputable def uL(g:gq)(p:Pos):Int:=if ended g p then(g.clauses.findIdx λc=>decide (ln p c):Nat)else -1
def VQ{g:gq}{p:Pos}(h:ended g p):0<=uL g p/\uL g p<g.clauses.l/\gt g.clauses (uL g p)∈g.clauses:=by
 unfold uL;rw[if_pos h]
 have:(g.clauses.findIdx λc=>decide (ln p c))<g.clauses.l:=by rw[List.findIdx_lt_length];obtain⟨c,a,hl⟩:=h;exact⟨c,a,by simpa using hl⟩
 exact pb (gF U U)
def VR{g:gq}{p:Pos}(h:¬ended g p):uL g p = -1:=by unfold uL;rw[if_neg h]
def MZ{g:gq}{p:Pos}:0<=uL g p↔ended g p:=by
 by_cases h:ended g p
 .exact⟨λ_=>h,λ_=>(VQ h).1⟩
 .rw[VR h];simp[h]
noncomputable def stat(g:gq)(p:Pos):Int×Bool:=(if ended g p then(gt g.clauses (uL g p)).out else if iY g p = []then g.blocked else 0,decide (iY g p = []))
end Go.AL
namespace Go.Proofs.YtmehofoficaelaaGreatDoor
open Go Go.AL Classical
set_option maxRecDepth 10000
set_option maxHeartbeats 1000000
def Wu(p:Pos)(a:Small p):Wf T 205 [dP p] [] (λd H=>d = .agg [.gf 0 1 1 0 p.cs.l,dI p.h0,dI p.h1,.i p.gO,.i p.side]/\H = [.row 3 1 (cl f1 p.cs)]):=by obtain⟨h1,c,b⟩:=a;refine Wf.xo 3 (fn:=zh) rfl (by simp[zh]) ?_;simp[zh];exact mI
@[irreducible] def fA(a:List gD):List D:=[kL a]
theorem Bo(a:List gD):fA a = [kL a]:=by unfold fA;rfl
instance:Fl fA 1:=⟨λ_=>by simp[Bo],λ_=>by simp[Bo,gK]⟩
@[simp] theorem asw(l:List (List gD))(x:List gD):cl fA l ++ [kL x]=cl fA (l ++ [x]):=by rw[<-qc,Bo]
theorem acv(x:List gD) : [kL x]=cl fA [x]:=by rw[nb,Bo];simp
def o8(g:gq)(x:gg)(now:List gD):List gD:=now.foldl (λa s=>my a (jj g s x)) []
def pJ(g:gq):List gg->List gD->List (List gD)
 | [],_=>[]
 | x::r,now=>o8 g x now::pJ g r (o8 g x now)
theorem WQ{g:gq}{x:gg}{t:gD}:∀ {now a:List gD},t∈now.foldl (λa s=>my a (jj g s x)) a↔t∈a\/t∈now.flatMap λs=>jj g s x
 | [],a=>fZ
 | s::r,a=>by rw[cj,WQ,F1,di,aj,or_assoc]
def OA{g:gq}{x:gg}{now:List gD}{t:gD}:t∈o8 g x now↔t∈now.flatMap λs=>jj g s x:=by unfold o8;rw[WQ];simp
theorem WO{g:gq}{x:gg}:∀ {now c:List gD},(now.foldl (λc s=>my c (jj g s x)) c).l<=c.l+10*now.l
 | [],c=>fZ
 | s::r,c=>by rw[cj];refine bs WO ?_;have:=F0 (a:=c) (b:=jj g s x);have:=Fg (g:=g) (s:=s) (x:=x);rw[aI];omega
def Iy{g:gq}{x:gg}{now:List gD}:(o8 g x now).l<=10*now.l:=by unfold o8;refine bs WO ?_;simp
theorem abd{g:gq}:∀ {l:List gg} {now:List gD},(pJ g l now).l=l.l
 | [],_=>rfl
 | x::r,now=>by rw[pJ,aI,abd,aI]
def f194(g:gq)(hg:gR g)(p:Pos)(m:iC g p)(c i:Int)(o:0<=c/\c<g.size)(r:kh (gt p.cs c)=p.side)(hi:0<=i/\i<(gt g.kinds (gN (gt p.cs c))).jA.l) :
  Wf T 254 [dG g,dP p,.i c,.i i] [] (Is (.agg [.sl 1 (([lL p c]::pJ g (gt (gt g.kinds (gN (gt p.cs c))).jA i) [lL p c]).map fA),.i 0])):=by
 have H:=m.size;have w:=m.small hg;have z:=m.cs _ (gF o.1 U);have y:=m.side;obtain⟨m1,m2,m3,m4⟩:=Iq y.1 r;have A:gN (gt p.cs c)<g.kinds.l:=yI z.2 hg.kinds.1;refine Yz FF (ji 117 [10] FF.body) ?_;simp[FF,ji,kK,nq,nA,nR,mm];refine Yc (f65 g p hg m) ?_;simp;(with_reducible repeat' first|refine Xk ?_<;>try simp|refine Xs ?_ ?_<;>intro h<;>(try intro C)<;>(try simp[h])<;>try omega|refine Xg ?_|omega);refine Yc (f51 _) ?_;simp;(with_reducible repeat' first|refine Xk ?_<;>try simp|refine Xs ?_ ?_<;>intro h<;>(try intro C)<;>(try simp[h])<;>try omega|refine Xg ?_|omega)
 rotate_right
 refine wT.n rfl rfl (Wu p w) fZ fZ ?_;simp;refine gh ?_;refine gx.fz [0,1,3,4,5,6,8] rfl ?_;have q0:=iW (l:=p.cs) (n:=c) (v:=0) o.1 U;have E:kA g (lL p c):=Ja hg m o.1 o.2 r;have F:=hg.jA _ (gF (l:=g.kinds) m1 A);generalize u:gt (gt g.kinds (gN (gt p.cs c))).jA i=prog at *;have q:xO g prog:=F.2 _ (u▸gF hi.1 hi.2);have I:=q.len
 refine gx.k ((0,[[lL p c]],[lL p c]):Int×List (List gD)×List gD) (λx=>[(4,.gC g.cells),(8,.ptr 2 0 0),(11,.ptr 9 0 0),(12,kL x.2.2),(13,iw prog),(14,.i x.1)]) (λx=>[.dead,.dead,.row 369 0 [.gi,.i 0],.dead,.dead,.dead,.dead,.row 371 x.1.n (cl fA x.2.1),.dead,.row 369 0 [.gf 7 x.1.n 1 0 x.2.1.l,.i 0]])
  (λx=>0<=x.1/\x.1<=prog.l/\x.2.1.l=x.1.n+1/\(∀s∈x.2.2,kA g s)/\x.2.2.l<=10 ^ x.1.n/\[lL p c]::pJ g prog [lL p c]=x.2.1++pJ g (prog.drop x.1.n) x.2.2) (λx=>prog.l-x.1.n) ?_ ?_ ?_ rfl rfl fZ ?_
 .simp;exact E
 .simp[lL,q0]
 .simp[lL,<-acv,q0]
 rintro⟨k,steps,now⟩ ⟨k0,k1,k2,k3,k4,k5⟩;dsimp only at k0 k1 k2 k3 k4 k5 ⊢;simp;refine kj ?_ ?_<;>intro h
 .refine gx.e ((0,0,[]):Int×Nat×List gD) (λx=>[(4,.gC g.cells),(8,.ptr 2 0 0),(11,.ptr 9 0 0),(12,kL now),(13,iw prog),(14,.i k),(15,.gf 10 x.2.1 8 0 x.2.2.l),(16,.i x.1)]) (λx=>[.dead,.dead,.row 369 0 [.gi,.i 0],.dead,.dead,.dead,.dead,.row 371 k.n (cl fA steps),.dead,.row 369 0 [.gf 7 k.n 1 0 steps.l,.i 0],.row 373 x.2.1 (cl gD.cells x.2.2)]) (λx=>0<=x.1/\x.1<=now.l/\(∀s∈x.2.2,kA g s)/\x.2.2.l<=10*x.1.n/\o8 g (gt prog k) now=(now.drop x.1.n).foldl (λf s=>my f (jj g s (gt prog k))) x.2.2) (λx=>now.l-x.1.n) ?_ ?_
  .simp[o8]
  rintro⟨j,D,f⟩ ⟨j0,j1,j2,j3,j4⟩;dsimp only at j0 j1 j2 j3 j4 ⊢;simp;refine kj ?_ ?_<;>intro h
  .refine Yt (f228 g hg _ (k3 _ (gF j0 ‹_›)) _ (q.steps _ (gF k0 ‹_›))) ?_;simp;have gp:=k3 _ (gF j0 ‹_›);refine gy.lr rfl rfl (f227 10 D f (jj g (gt now j) (gt prog k)) _ rfl fZ (λs hs=>(j2 s hs).p.small hg) (λs hs=>(CR hg gp (q.steps _ (gF k0 ‹_›)) hs).p.small hg) ?_) ?_
   .have h1:=Fg (g:=g) (s:=gt now j) (x:=gt prog k);have B:10 ^ k.n<=10 ^ 8:=cO jh U;omega
   rintro d H' ⟨G,rfl,rfl⟩;simp;have B:10 ^ k.n<=10 ^ 8:=cO jh U;refine gh ?_;refine LJ.e (j+1,G,my f (jj g (gt now j) (gt prog k))) ?_;refine⟨gJ,gJ,gJ,λs hs=>?_,?_,?_⟩
   .rcases F1.1 hs with hs|hs
    .exact j2 s hs
    .exact CR hg gp (q.steps _ (gF k0 ‹_›)) hs
   .have h1:=Fg (g:=g) (s:=gt now j) (x:=gt prog k);have t:=F0 (a:=f) (b:=jj g (gt now j) (gt prog k));dsimp only;omega
   .rw[j4,oe j0 ‹_›,cj,(U:(j+1).n=j.n+1)]
  .have e:o8 g (gt prog k) now=f:=by rw[j4,bA U];rfl
   refine gh ?_;refine LJ.i (k+1,steps ++ [f],f) (by first|rfl|simp[(U:(k+1).n=k.n+1)]) (by first|rfl|simp[(U:(k+1).n=k.n+1)]) rfl rfl ?_;refine⟨gJ,gJ,gJ,gL,j2,?_,?_⟩
   .have t:=Iy (g:=g) (x:=gt prog k) (now:=now);rw[e]at t;dsimp only;rw[(U:(k+1).n=k.n+1),eE];omega
   .rw[k5,oe k0 ‹_›,pJ,e,(U:(k+1).n=k.n+1)];simp
 .rw[bA U,pJ,aB]at k5;rw[<-k5];simp
def ahg{a b:gY}(h1:¬Ik a b)(c:¬Ik b a):a=b:=by
 unfold Ik at *;have e:=vj a.p b.p
 have h:iH a.p b.p=0:=by
  by_cases h:iH a.p b.p=0
  .exact h
  .exfalso
   by_cases d:iH a.p b.p<0
   .exact h1 (.inl d)
   .exact c (.inl U)
 have f:iH b.p a.p=0:=U;simp[h,f]at h1 c;have:=rO.1 h;cases a;cases b;simp_all;rename_i x y _;cases x<;>cases y<;>simp_all
structure Me(l:List gY)(x:gY)(i:Int)(d:Bool)(out:List gY):Prop where
 i0:0<=i/\i<=l.l
 dn:d=aE->x∈out
 sub:∀o∈out,o∈l.take i.n\/o=x
 sup:∀o∈l.take i.n,o∈out
 len:out.l<=i.n+(if d then 1 else 0)
def Me.step{l:List gY}{x:gY}{i:Int}{d d':Bool}{out:List gY}(h:Me l x i d out)(hi:i<l.l)(xs:List gY)(b:∀o∈xs,o=x)(c:d'=aE->d=aE\/x∈xs\/gt l i=x)(hl:xs.l+(if d then 1 else 0)<=(if d' then 1 else 0)):Me l x (i+1) d' (out++xs ++ [gt l i]):=by
 have h0:=h.i0;refine⟨U,λe=>?_,λo a=>?_,λo a=>?_,?_⟩
 .rcases c e with e|e|e
  .have:=h.dn e;simp[this]
  .simp[e]
  .simp[e]
 .rw[jt h0.1 hi];simp at a ⊢;rcases a with a|a|a
  .rcases h.sub o a with h|h
   .exact .inl (.inl h)
   .exact .inr h
  .exact .inr (b o a)
  .exact .inl (.inr a)
 .rw[jt h0.1 hi]at a;simp at a ⊢;rcases a with a|a
  .exact .inl (h.sup o a)
  .exact .inr (.inr a)
 .have:=h.len;simp;omega
def f195(l:List gY)(x:gY)(hl:l.l<2 ^ 39)(hs:∀o∈l,Small o.p)(k:Small x.p):Wf T 255 [od l,.agg x.cells] [] (Ex od λr=>(∀o,o∈r↔o∈l\/o=x)/\r.l<=l.l+1):=by
 refine Yg K1 ?_;simp[K1];refine gx.e ((0,cp,[]):Int×Bool×List gY) (λy=>[(0,od l),(3,.ptr 0 0 0),(5,.gf 1 y.2.2.l 6 0 y.2.2.l),(6,.b y.2.1),(7,.i y.1)]) (λy=>[.row 259 0 x.cells,.row 259 y.2.2.l (cl gY.cells y.2.2)]) (λy=>Me l x y.1 y.2.1 y.2.2) (λy=>l.l-y.1.n) ?_ ?_
 .exact⟨fZ,fZ,fZ,fZ,fZ⟩
 rintro⟨i,done,out⟩ c;have h0:=c.i0;have j:=c.len;have m:(if done=aE then 1 else 0)<=1:=by split<;>omega
 dsimp only at c h0 j ⊢;simp;(with_reducible repeat' first|refine Xk ?_<;>try simp|refine Xs ?_ ?_<;>intro h<;>(try intro n)<;>(try simp[h])<;>try omega|refine Xg ?_|omega)
 .refine LJ.e (i+1,aE,out ++ [gt l i]) ?_;subst h;have:=c.step ‹_› [] (d':=aE) fZ fZ fZ;simp at this;exact⟨gL,this⟩
 .have d:=h;refine Yt (f229 _ _ (hs _ (gF h0.1 ‹_›)) k) ?_;simp[h];refine FZ d ?_ ?_<;>intro h
  .subst d;have:=c.step ‹_› [] (d':=cp) fZ fZ fZ;simp at this;refine LJ.e (i+1,cp,out ++ [gt l i]) ?_;exact⟨gL,this⟩
  .refine Yt (f229 _ _ k (hs _ (gF h0.1 ‹_›))) ?_;simp[d];refine FZ d ?_ ?_<;>intro h
   .subst d;have:=c.step ‹_› [x] (d':=aE) fZ fZ fZ;refine LJ.e (i+1,aE,out ++ [x] ++ [gt l i]) ?_;exact⟨gL,this⟩
   .subst d;have e:=ahg (a:=gt l i) (b:=x) ‹_› ‹_›;have:=c.step ‹_› [] (d':=aE) fZ (by simp[e]) fZ;simp at this;refine LJ.e (i+1,aE,out ++ [gt l i]) ?_;exact⟨gL,this⟩
 .subst h;have g:=c.sub;have f:=c.sup;rw[lC U]at g f;refine⟨out,rfl,λo=>⟨g o,λh=>?_⟩,by simp at j;omega⟩;rcases h with h|h
  .exact f o h
  .rw[h];exact c.dn rfl
 .subst h;have g:=c.sub;have f:=c.sup;rw[lC U]at g f;refine⟨out ++ [x],by simp[od],λo=>?_,by simp at j;simp;omega⟩;simp;constructor
  .rintro(h|h)
   .exact g o h
   .exact .inr h
  .rintro(h|h)
   .exact .inl (f o h)
   .exact .inr h
theorem Zj{g:gq}:∀ {l:List gg} {now:List gD} {t:gD},t∈gt (now::pJ g l now) l.l↔t∈tj g l now
 | [],now,t=>by simp[pJ,tj,gt]
 | x::r,now,t=>by
  have e:gt (now::pJ g (x::r) now) (x::r).l=gt (o8 g x now::pJ g r (o8 g x now)) r.l:=by rw[pJ];unfold gt;simp only[aI,bF,cc]
  rw[e,Zj,tj];exact aaU (λs=>OA) t
theorem Zi{g:gq}:∀ {l:List gg} {now:List gD},(gt (now::pJ g l now) l.l).l<=10 ^ l.l*now.l
 | [],now=>by simp[pJ,gt]
 | x::r,now=>by
  have e:gt (now::pJ g (x::r) now) (x::r).l=gt (o8 g x now::pJ g r (o8 g x now)) r.l:=by rw[pJ];unfold gt;simp only[aI,bF,cc]
  rw[e];refine bs Zi ?_;rw[aI,eE,fV];exact eJ _ Iy
def f154(g:gq)(hg:gR g)(p:Pos)(b:iC g p)(c i:Int)(f:0<=c/\c<g.size)(m:kh (gt p.cs c)=p.side)(hi:0<=i/\i<(gt g.kinds (gN (gt p.cs c))).jA.l) :
  Wf T 204 [dG g,dP p,.i c,.i i] [] (Ex (λr=>.tup [od r,.i 0]) λr=>(∀o,o∈r↔o∈uZ g p c (gt (gt g.kinds (gN (gt p.cs c))).jA i))/\r.l<=10 ^ 8):=by
 have I:=b.cs _ (gF f.1 (by have:=b.size;omega));have a:=b.side;obtain⟨m1,m2,m3,m4⟩:=Iq a.1 m;have J:gN (gt p.cs c)<g.kinds.l:=yI I.2 hg.kinds.1;have N:kA g (lL p c):=Ja hg b f.1 f.2 m;have Q:=hg.jA _ (gF (l:=g.kinds) m1 J);have O:=f194 g hg p b c i f m hi;generalize E:gt (gt g.kinds (gN (gt p.cs c))).jA i=prog at *;have D:xO g prog:=Q.2 _ (E▸gF hi.1 hi.2);have P:=D.len;have z:∀t,t∈gt ([lL p c]::pJ g prog [lL p c]) prog.l↔t∈tj g prog [lL p c]:=λt=>Zj;have R:=Zi (g:=g) (l:=prog) (now:=[lL p c]);have Z:10 ^ prog.l<=10 ^ 8:=cO jh P.2;have G:=abd (g:=g) (l:=prog) (now:=[lL p c]);generalize hS : [lL p c]::pJ g prog [lL p c]=S at *;have W:S.l=prog.l+1:=by rw[<-hS];simp[G]
 refine Yz FE (ji 70 [5] FE.body) ?_;simp[FE,ji,kK,nq,nA,nR,mm];refine Yc (O) ?_;simp;(with_reducible repeat' first|refine Xk ?_<;>try simp[Bo]|refine Xs ?_ ?_<;>intro h<;>(try intro h')<;>(try simp[h,Bo])<;>try omega|refine Xg ?_|omega);rw[(U:(S.l:Int)-1=prog.l)];generalize gt S (prog.l:Int)=L at *;have gp:∀s∈L,kA g s:=λs hs=>O2 hg D.steps (λt e=>by rw[List.mem_singleton]at e;subst e;exact N) s ((z s).1 hs);have K:L.l<=100000000:=by simp at R;omega
 simp[Bo];refine gh ?_;refine gx.fz [0,2,3] rfl ?_;refine gx.e ((0,[]):Int×List gY) (λy=>[(5,.ptr 1 0 0),(11,od y.2),(12,kL L),(13,.i y.1)]) (λy=>[.dead,.row 46 0 p.cells,.dead,.dead]) (λy=>0<=y.1/\y.1<=L.l/\(∀o,o∈y.2↔o∈(L.take y.1.n).filterMap (oF p.side))/\y.2.l<=y.1.n) (λy=>L.l-y.1.n) ?_ ?_
 .simp
 rintro⟨j,out⟩ ⟨j0,j1,j2,j3⟩;dsimp only at j0 j1 j2 j3 ⊢;simp;refine kj ?_ ?_<;>intro h
 .have hs:=gp _ (gF j0 ‹_›);have V:=hs.p.small hg;have Y:=hs.p.size;have w:=hs.cur;have u:=hs.kind;have X:=hg.kinds;generalize C:gt L j=s at *;refine kj ?_ ?_<;>intro h
  .have q:=iW (l:=s.p.cs) (n:=s.cur) (v:=1+2*s.kind+p.side) w.1 U;refine Yn (Wu s.p V) ?_;simp;refine Yt (f156 (k:=s.kind) (s:=p.side) u.1 U a.1 a.2) ?_;simp[q];refine jT q ?_;generalize d:({ p:=⟨pt s.p.cs s.cur (1+2*s.kind+p.side),s.p.h0,s.p.h1,s.p.gO,1-p.side⟩,jY:=s.jY }:gY)=o;have A:oF p.side s=b4 o:=by rw[oF,if_pos ‹_›,<-d];rfl
   have F:Small o.p:=iC.small hg (Nb hs a.1 a.2 A)
   have H:∀o∈out,Small o.p:=λo d=>by obtain⟨t,e,M⟩:=cU.1 ((j2 o).1 d);exact iC.small hg (Nb (gp t (aX e)) a.1 a.2 M)
   have c2:=f195 out o U H F;rw[<-d]at c2;refine gy.q rfl rfl c2 fZ (λ_=>fZ) ?_;intro r B;simp;rw[d]at B;refine gh ?_;refine LJ.e (j+1,r) ?_;refine⟨gJ,gJ,gJ,λx=>?_,gJ⟩;rw[B.1,j2,jt j0 ‹_›,C];simp[A,eq_comm]
  .refine gh ?_;refine LJ.e (j+1,out) ?_;refine⟨gJ,gJ,gJ,λx=>?_,gJ⟩;rw[j2,jt j0 ‹_›,C];have:oF p.side s=none:=by rw[oF,if_neg ‹_›]
   simp[this]
 .rw[lC U]at j2;refine⟨out,rfl,λo=>?_,?_⟩
  .rw[j2,uZ];simp only[cU,z]
  .omega
