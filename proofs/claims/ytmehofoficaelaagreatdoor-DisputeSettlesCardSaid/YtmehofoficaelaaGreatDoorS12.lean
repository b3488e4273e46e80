/- Part 12 of DisputeSettles. -/
import Derived.Test.YtmehofoficaelaaGreatDoorS11
set_option linter.all false
namespace Go.AL
open Go
def nk(n:Nat):D->Bool
 | .fZ v _ _ _ _ | .ptr v _ _ | .gH v | .ja v=>decide (v<n)
 | d=>closed d
def jv(n:Nat):D->Bool
 | .agg cs | .tup cs | .gC cs=>cs.all (nk n)
 | .fn _ a b=>a.all (nk n)&&b.all (nk n)
 | d=>nk n d
def nj(n:Nat):Ob->Bool
 | .row _ _ cs=>cs.all (jv n)
 | .map _ es=>es.all λx=>jv n x.2
 | .im _ env _=>env.all λx=>jv n x.2
 | .sO _ _=>true
 | .jj m _ _=>nk n m
 | .jE=>true
 | .dead=>true
 | .lY=>false
def ju(n:Nat)(H:U):Prop:=∀o∈H,nj n o=true
def Uq{ρ:Nat->Option Nat}{H:U}{n k:Nat}(a:∀u,u<n->ρ u=some u){d:D}(h:nk n d=true):gq ρ H (k+1) d=d:=by
 cases d with
 | fZ v g sz off len=>simp only[nk,decide_eq_true_eq]at h;rw[Fg,a v h,abF]
 | ptr v g off=>simp only[nk,decide_eq_true_eq]at h;rw[aoP,a v h,aoK]
 | gH v=>simp only[nk,decide_eq_true_eq]at h;rw[aoO,a v h,aoJ]
 | ja v=>
  simp only[nk,decide_eq_true_eq]at h;rw[gq,if_neg (by simp)];rw[a v h]
 | _=>exact p6 h
def IL{ρ:Nat->Option Nat}{H:U}{n k:Nat}(a:∀u,u<n->ρ u=some u){cs:List D}(h:cs.all (nk n)=true):cs.map (gq ρ H (k+1))=cs:=by
 conv=>rhs;rw[<-aY cs]
 exact aq λd b=>Uq a (List.all_eq_true.1 h d b)
def Fh{ρ:Nat->Option Nat}{H:U}{n k:Nat}(c:∀u,u<n->ρ u=some u){d:D}(h:jv n d=true):gq ρ H (k+2) d=d:=by
 cases d with
 | agg cs=>rw[aoM,IL c h]
 | tup cs=>rw[aoQ,IL c h]
 | gC cs=>
  by_cases e:closed (.gC cs)=true
  .simp_all
  .rw[gq,if_neg e,IL c h]
 | fn f a b=>
  simp only[jv,Bool.and_eq_true]at h
  by_cases e:closed (.fn f a b)=true
  .simp_all
  .rw[gq,if_neg e,IL c h.1,IL c h.2]
 | _=>exact Uq c h
def aoL{ρ:Nat->Option Nat}{H:U}{n:Nat}(a:∀u,u<n->ρ u=some u){o:Ob}(h:nj n o=true):ot ρ H o=o:=by
 have key:∀ {α:Type} (l:List (α×D)),(l.all λx=>jv n x.2)=true->(l.map λx=>(x.1,gq ρ H 40 x.2))=l:=by
  intro α l hl
  conv=>rhs;rw[<-aY l]
  exact aq λx b=>by have:=List.all_eq_true.1 hl x b;rw[Fh a this];rfl
 cases o with
 | row t g cs=>
  simp only[ot];congr 1
  conv=>rhs;rw[<-aY cs]
  exact aq λd c=>Fh a (List.all_eq_true.1 h d c)
 | map kk es=>simp only[ot];rw[key es h]
 | im rf env st=>simp only[ot];rw[key env h]
 | sO=>rfl
 | jj m since seen=>simp only[ot];rw[Uq a h]
 | jE=>rfl
 | dead=>rfl
 | lY=>cases h
def Fb{n u:Nat}(h:u<n):iv (iI n []) u=some u:=by unfold iv iI;rw[List.map_nil,az];rw[cI];refine⟨by simpa using h,by simp,λj a=>by simp;omega⟩
def Jk{n:Nat}{H G:U}(b:H.length=n)(h:ju n H):pF (iI n []) (H++G)=H:=by
 unfold pF;refine bQ λi=>?_;rw[au];unfold iI;rw[List.map_nil,az,au]
 by_cases hi:i<n
 .rw[bO hi];simp only[aF,if_true];rw[ah (by omega),List.getElem?_eq_getElem (by omega)];simp only;congr 1;have e:((List.range n).map λv=>(v,true))=iI n []:=by unfold iI;simp
  rw[e];exact aoL (λu a=>Fb a) (h _ (bV _))
 .grind
def P2{n:Nat}{d:D}(h:jv n d=true):jk n d = []:=by cases d<;>first|rfl|(simp only[jv,nk,decide_eq_true_eq]at h;simp only[jk];rw[if_neg (by omega)])
theorem flatten_nil{α c:Type}{f:α->List c}:∀ {l:List α},(∀a∈l,f a = [])->(l.map f).flatten = []
 | [],_=>rfl
 | a::l,h=>by rw[List.map_cons,aZ,h a (by simp),flatten_nil λb d=>h b (by simp[d])];rfl
def TP{n:Nat}{o:Ob}(h:nj n o=true):oJ n o = []:=by
 cases o with
 | row t g cs=>exact flatten_nil λd b=>P2 (List.all_eq_true.1 h d b)
 | map kk es=>exact flatten_nil λx a=>P2 (List.all_eq_true.1 h x a)
 | _=>rfl
def ad6{n:Nat}{live:List Nat}{env:Env}{H G:U}{m:List Nat}{r:Bool}(j:AH live=false)(h:H.length=n)(e:ju n H)(d:((forget live env).all λp=>jv n p.2)=true)(i:(m.all λv=>decide (v<n))=true) :
  cut n live { env:=env,H:=H++G,marks:=m,ic:=r } = { env:=forget live env,H:=H,marks:=m,ic:=r }:=by
 by_cases hg:(H++G).length<=n
 .have:G = []:=by
   cases G with
   | nil=>rfl
   | cons a l=>simp at hg;omega
  subst this;rw[az];exact QK (by show H.length<=n;omega)
 .unfold cut;dsimp only;rw[if_neg (by rw[j];simpa using hg)];have t:((forget live env).map λp=>jk n p.2).flatten = []:=flatten_nil λp b=>P2 (List.all_eq_true.1 d p b)
  have s:(((H++G).take n).map (oJ n)).flatten = []:=flatten_nil λo c=>by rw[aW (by omega),af (by omega)]at c;exact TP (e o c)
  have q:m.filter (n<=·) = []:=by simp_all
  rw[t,s,q];have k:dedup (([] ++ [] ++ []:List Nat).filter (· < (H++G).length)) = []:=rfl;rw[k,Jk h e];congr 1
  .conv=>rhs;rw[<-aY (forget live env)]
   exact aq λp b=>by rw[Fh (λu g=>Fb g) (List.all_eq_true.1 d p b)];rfl
  .conv=>rhs;rw[<-aY m]
   exact aq λv f=>by have:=List.all_eq_true.1 i v f;rw[Fb (by simpa using this)];rfl
def ahX{n:Nat}{H G:U}{d:D}(f:H.length=n)(c:ju n H)(g:jv n d=true):leave 0 n (H++G) d=(d,H):=by
 by_cases hg:(H++G).length<=n
 .have:G = []:=by
   cases G with
   | nil=>rfl
   | cons a l=>simp at hg;omega
  subst this;rw[az];exact Z3 (by omega) 0
 .unfold leave;rw[if_neg (by omega)]
  have i:(((H++G).take n).map (oJ n)).flatten = []:=flatten_nil λo b=>by rw[aW (by omega),af (by omega)]at b;exact TP (c o b)
  simp only;rw[i];have h:dedup (([] ++ []:List Nat).filter (· < (H++G).length)) = []:=rfl;rw[h,Jk f c,Fh (λu e=>Fb e) g]
def pZ{n v:Nat}{H:U}{o:Ob}(h:ju n H)(b:nj n o=true):ju n (H.set v o):=λx a=>by
 rcases dO a with a|rfl
 .exact h x a
 .exact b
def Fj{n:Nat}{d:D}(h:closed d=true):nk n d=true:=by cases d<;>first|exact h|(cases h;done)|(simp only[closed]at h;cases h)
def AZ{n:Nat}{d:D}(h:closed d=true):jv n d=true:=by
 cases d with
 | agg cs=>exact List.all_eq_true.2 λd c=>Fj (lT (by simpa using h) d c)
 | tup cs=>exact List.all_eq_true.2 λd c=>Fj (lT (by simpa using h) d c)
 | gC cs=>exact List.all_eq_true.2 λd c=>Fj (lT (by simpa using h) d c)
 | fn f a b=>
  simp only[Wg,Bool.and_eq_true]at h;simp only[jv,Bool.and_eq_true];exact⟨List.all_eq_true.2 λd c=>Fj (lT h.1 d c),List.all_eq_true.2 λd c=>Fj (lT h.2 d c)⟩
 | _=>exact Fj (n:=n) h
@[simp] theorem azt{n:Nat}{d:D}(h:closed d=true):jv n d=true:=AZ h
@[simp] theorem azx(n v g sz off len:Nat):jv n (.fZ v g sz off len)=decide (v<n):=rfl
@[simp] theorem azy(n v g off:Nat):jv n (.ptr v g off)=decide (v<n):=rfl
@[simp] theorem azw(n v:Nat):jv n (.gH v)=decide (v<n):=rfl
@[simp] theorem azs(n:Nat)(cs:List D):jv n (.agg cs)=cs.all (nk n):=rfl
@[simp] theorem azz(n:Nat)(cs:List D):jv n (.tup cs)=cs.all (nk n):=rfl
@[simp] theorem azB(n v g sz off len:Nat):nk n (.fZ v g sz off len)=decide (v<n):=rfl
@[simp] theorem azC(n v g off:Nat):nk n (.ptr v g off)=decide (v<n):=rfl
@[simp] theorem azu(n:Nat)(f:Fn)(a b:List D):jv n (.fn f a b)=(a.all (nk n)&&b.all (nk n)):=rfl
@[simp] theorem yX{n t g:Nat}{α:Type}{f:α->List D}{sz:Nat}[F:Fl f sz](l:List α):nj n (.row t g (cl f l))=true:=
 List.all_eq_true.2 λd a=>AZ (lT (tG l) d a)
@[simp high] theorem ahU{α:Type}[Inhabited α]{f:α->List D}{sz:Nat}[F:Fl f sz]{l:List α}{t:TypeId}{n:Int}(a:0<sz):vf sz (n.toNat*sz) (some (t,cl f l))=if n.toNat<l.length then some (.agg (f (gt l n)))else none:=by
 have h:=aiK (f:=f) (l:=l) (t:=t) (n:=n) (P:=λd=>d = .agg (f (gt l n))) a;simp only[and_true]at h
 by_cases b:n.toNat<l.length
 .simp_all
 .rw[if_neg b];unfold vf;dsimp only;rw[if_neg];rw[rN,<-cE,ft a];omega
section
variable{T:iD}{a b:IR}{s:St}{K:iU}{id n:Nat}{live:List Nat}
@[simp ↓] theorem axl:Pb T b K (.norm s)=Wc T b s K:=(rfl)
@[simp ↓] theorem axk:Pb T b K (.exit id s)=K (.exit id s):=(rfl)
@[simp ↓] theorem axm:Pb T b K (.ret s)=K (.ret s):=(rfl)
end
def LJ{α:Type}(E:α->Env)(b:α->U)(ms:List Nat)(rd:Bool)(Q:α->Prop)(_:Tag (E,b,ms,rd,Q))(e:Env)(H:U)(m:List Nat)(r:Bool):Prop:=
 ∃a,e=E a/\H=b a/\m=ms/\r=rd/\Q a
theorem LJ.e{α:Type}{E:α->Env}{b:α->U}{ms:List Nat}{rd:Bool}{Q:α->Prop}{t:Tag (E,b,ms,rd,Q)}{e:Env}{H:U}{m:List Nat}{r:Bool}(a:α)(c:Q a)(h1:e=E a:=by first|rfl|simp)(g:H=b a:=by first|rfl|simp)(f:m=ms:=by exact rfl)(d:r=rd:=by exact rfl):LJ E b ms rd Q t e H m r:=⟨a,h1,g,f,d,c⟩
def LJ.i{α:Type}{E:α->Env}{b:α->U}{ms:List Nat}{rd:Bool}{Q:α->Prop}{t:Tag (E,b,ms,rd,Q)}{e:Env}{H:U}{m:List Nat}{r:Bool}(a:α)(h1:e=E a)(g:H=b a)(f:m=ms)(d:r=rd)(c:Q a):LJ E b ms rd Q t e H m r:=⟨a,h1,g,f,d,c⟩
section
variable{T:iD}{live:List Nat}{a:IR}{s:St}{K:iU}{α:Type}
theorem gp.k(b:α)(E:α->Env)(c:α->U)(P:α->Prop)(d:α->Nat)
  (h0:P b) (l:forget ((E b).map (·.1)) s.env=E b) (j:s.H=c b) (i:s.marks = []) (g:s.ic=false) (f:(((E b).map (·.1)).all λk=>live.contains k)=true)
  (h:∀x,P x->XC T a { env:=E x,H:=c x } (vg s.H.length live ((E b).map (·.1)) (LJ E c [] false (λe=>d e<d x/\P e) .mk) K)):gp T live a s K .mk:=
 gp.j b E c P d h0 l j f (by rw[i,g];exact h)
end
@[simp] theorem atM{α:Type}{f:α->List D}[Fl f 1](l:List α)(n:Nat):(cl f l).take n=cl f (l.take n):=by simpa using w6 (f:=f) l n
@[simp] theorem atI{α:Type}{f:α->List D}[Fl f 1](l:List α)(n:Nat):(cl f l).drop n=cl f (l.drop n):=by simpa using uQ (f:=f) l n
@[simp] theorem avZ(K:List Nat):iI 5 K=(0,true)::(1,true)::(2,true)::(3,true)::(4,true)::K.map λv=>(v,true):=rfl
@[simp] theorem av0(K:List Nat):iI 6 K=(0,true)::(1,true)::(2,true)::(3,true)::(4,true)::(5,true)::K.map λv=>(v,true):=rfl
@[simp] theorem av1(K:List Nat):iI 7 K=(0,true)::(1,true)::(2,true)::(3,true)::(4,true)::(5,true)::(6,true)::K.map λv=>(v,true):=rfl
@[simp] theorem av2(K:List Nat):iI 8 K=(0,true)::(1,true)::(2,true)::(3,true)::(4,true)::(5,true)::(6,true)::(7,true)::K.map λv=>(v,true):=rfl
@[simp] theorem av3(K:List Nat):iI 9 K=(0,true)::(1,true)::(2,true)::(3,true)::(4,true)::(5,true)::(6,true)::(7,true)::(8,true)::K.map λv=>(v,true):=rfl
@[simp] theorem avI(K:List Nat):iI 10 K=(0,true)::(1,true)::(2,true)::(3,true)::(4,true)::(5,true)::(6,true)::(7,true)::(8,true)::(9,true)::K.map λv=>(v,true):=rfl
@[simp] theorem avJ(K:List Nat):iI 11 K=(0,true)::(1,true)::(2,true)::(3,true)::(4,true)::(5,true)::(6,true)::(7,true)::(8,true)::(9,true)::(10,true)::K.map λv=>(v,true):=rfl
@[simp] theorem avK(K:List Nat):iI 12 K=(0,true)::(1,true)::(2,true)::(3,true)::(4,true)::(5,true)::(6,true)::(7,true)::(8,true)::(9,true)::(10,true)::(11,true)::K.map λv=>(v,true):=rfl
@[simp] theorem avL(K:List Nat):iI 13 K=(0,true)::(1,true)::(2,true)::(3,true)::(4,true)::(5,true)::(6,true)::(7,true)::(8,true)::(9,true)::(10,true)::(11,true)::(12,true)::K.map λv=>(v,true):=rfl
@[simp] theorem avM(K:List Nat):iI 14 K=(0,true)::(1,true)::(2,true)::(3,true)::(4,true)::(5,true)::(6,true)::(7,true)::(8,true)::(9,true)::(10,true)::(11,true)::(12,true)::(13,true)::K.map λv=>(v,true):=rfl
@[simp] theorem avN(K:List Nat):iI 15 K=(0,true)::(1,true)::(2,true)::(3,true)::(4,true)::(5,true)::(6,true)::(7,true)::(8,true)::(9,true)::(10,true)::(11,true)::(12,true)::(13,true)::(14,true)::K.map λv=>(v,true):=rfl
@[simp] theorem avO(K:List Nat):iI 16 K=(0,true)::(1,true)::(2,true)::(3,true)::(4,true)::(5,true)::(6,true)::(7,true)::(8,true)::(9,true)::(10,true)::(11,true)::(12,true)::(13,true)::(14,true)::(15,true)::K.map λv=>(v,true):=rfl
@[simp] theorem avP(K:List Nat):iI 17 K=(0,true)::(1,true)::(2,true)::(3,true)::(4,true)::(5,true)::(6,true)::(7,true)::(8,true)::(9,true)::(10,true)::(11,true)::(12,true)::(13,true)::(14,true)::(15,true)::(16,true)::K.map λv=>(v,true):=rfl
@[simp] theorem avQ(K:List Nat):iI 18 K=(0,true)::(1,true)::(2,true)::(3,true)::(4,true)::(5,true)::(6,true)::(7,true)::(8,true)::(9,true)::(10,true)::(11,true)::(12,true)::(13,true)::(14,true)::(15,true)::(16,true)::(17,true)::K.map λv=>(v,true):=rfl
@[simp] theorem avR(K:List Nat):iI 19 K=(0,true)::(1,true)::(2,true)::(3,true)::(4,true)::(5,true)::(6,true)::(7,true)::(8,true)::(9,true)::(10,true)::(11,true)::(12,true)::(13,true)::(14,true)::(15,true)::(16,true)::(17,true)::(18,true)::K.map λv=>(v,true):=rfl
@[simp] theorem avT(K:List Nat):iI 20 K=(0,true)::(1,true)::(2,true)::(3,true)::(4,true)::(5,true)::(6,true)::(7,true)::(8,true)::(9,true)::(10,true)::(11,true)::(12,true)::(13,true)::(14,true)::(15,true)::(16,true)::(17,true)::(18,true)::(19,true)::K.map λv=>(v,true):=rfl
@[simp] theorem avU(K:List Nat):iI 21 K=(0,true)::(1,true)::(2,true)::(3,true)::(4,true)::(5,true)::(6,true)::(7,true)::(8,true)::(9,true)::(10,true)::(11,true)::(12,true)::(13,true)::(14,true)::(15,true)::(16,true)::(17,true)::(18,true)::(19,true)::(20,true)::K.map λv=>(v,true):=rfl
@[simp] theorem avV(K:List Nat):iI 22 K=(0,true)::(1,true)::(2,true)::(3,true)::(4,true)::(5,true)::(6,true)::(7,true)::(8,true)::(9,true)::(10,true)::(11,true)::(12,true)::(13,true)::(14,true)::(15,true)::(16,true)::(17,true)::(18,true)::(19,true)::(20,true)::(21,true)::K.map λv=>(v,true):=rfl
@[simp] theorem avW(K:List Nat):iI 23 K=(0,true)::(1,true)::(2,true)::(3,true)::(4,true)::(5,true)::(6,true)::(7,true)::(8,true)::(9,true)::(10,true)::(11,true)::(12,true)::(13,true)::(14,true)::(15,true)::(16,true)::(17,true)::(18,true)::(19,true)::(20,true)::(21,true)::(22,true)::K.map λv=>(v,true):=rfl
@[simp] theorem aAa{α:Type}{l:List α}{n:Nat}(h:l.length=n):l.take n=l:=af (by omega)
@[simp] theorem azH(a b:List Pos):D.sl 5 (a.map Pos.cells++b.map Pos.cells)=gZ (a++b):=by unfold gZ;rw[List.map_append]
def Ey{α:Type}(g:α->D)(Q:α->Prop)(d:D)(H:U):Prop:=Ex g Q d H
def Ey.i{α:Type}{g:α->D}{Q:α->Prop}{d:D}{H:U}(x:α)(h1:d=g x)(b:H = [])(a:Q x):Ey g Q d H:=⟨x,h1,b,a⟩
def Rl(ρ:Nat->Option Nat)(H:U)(k off:Nat):Option (TypeId×List D)->D
 | some (_,cs)=>.gC ((cs.drop off).map (gq ρ H k))
 | none=>.any
@[simp] theorem azd(H:U)(k:Nat)(ρ:Nat->Option Nat)(v g off:Nat):Jj H k ρ v g off none=Rl ρ H k off (rowAt H v g):=by unfold Jj Rl;rfl
@[simp] theorem auW(ρ:Nat->Option Nat)(H:U)(k off:Nat)(t:TypeId)(cs:List D):Rl ρ H k off (some (t,cs)) = .gC ((cs.drop off).map (gq ρ H k)):=rfl
structure GH(H:U)(v:Nat):Prop where
 lt:v<H.length
 ok:ju H.length H
section
variable{H G:U}{v:Nat}{o o':Ob}
@[simp] theorem GH.get(h:GH H v):(H.set v o)[v]? = some o:=aH h.lt
@[simp] theorem GH.iy(h:GH H v):(H.set v o++G)[v]? = some o:=by rw[ah (by rw[ar];exact h.lt)];exact h.get
@[simp] theorem GH.agc(_:GH H v):(H.set v o++G)[H.length]? = G[0]? := by grind
@[simp] theorem GH.aoI(_:GH H v):(H.set v o++G).set H.length o'=H.set v o++G.set 0 o':=by grind
@[simp high] theorem GH.cut(h:GH H v){live:List Nat}{env:Env}{r:Bool}(c:AH live=false)(a:nj H.length o=true)(b:((forget live env).all λp=>jv H.length p.2)=true) :
  Go.AL.cut H.length live { env:=env,H:=H.set v o++G,marks:=[],ic:=r } = { env:=forget live env,H:=H.set v o,marks:=[],ic:=r }:=ad6 c (ar ..) (pZ h.ok a) b rfl
@[simp] theorem GH.lt_eq(h:GH H v):(v<H.length)=True:=eq_true h.lt
end
@[simp] theorem axZ(n:Nat):ju n []=True:=eq_true λ_ h=>by cases h
@[simp] theorem axY(n:Nat)(o:Ob)(r:U):ju n (o::r)=(nj n o=true/\ju n r):=propext ⟨λh=>⟨h o (by simp),λx a=>h x (by simp[a])⟩,λh x a=>by
 rcases ao.1 a with rfl|a
 .exact h.1
 .exact h.2 x a⟩
@[simp] theorem ax4(n t g:Nat)(cs:List D):nj n (.row t g cs)=cs.all (jv n):=rfl
@[simp] theorem ax0(n:Nat):nj n .dead=true:=rfl
@[simp] theorem ax2(n:Nat)(kk:KK)(es:List (Value×D)):nj n (.map kk es)=es.all λx=>jv n x.2:=rfl
@[simp] theorem ar6{n:Nat}{α:Type}{f:α->List D}{sz:Nat}[F:Fl f sz](l:List α):(cl f l).all (jv n)=true:=
 List.all_eq_true.2 λd a=>AZ (lT (tG l) d a)
section
variable{H G:U}{v k:Nat}{o:Ob}
@[simp] theorem acR:(H++G)[H.length+k]? = G[k]? := by rw[ai (by omega)];congr 1;omega
@[simp] theorem asb:(H++G)[H.length]? = G[0]? := by rw[ai (by omega)];congr 1;omega
theorem aaj(h:H[v]? = some o):v<H.length:=by grind
end
end Go.AL
namespace Go.Proofs.YtmehofoficaelaaGreatDoor
open Go Go.AL Classical
set_option maxRecDepth 10000
set_option maxHeartbeats 1000000
def aio{n:Int}{k:Nat}(h0:0<=n)(h1:n<=2*k)(a:k<=2):gI n<0↔n=0:=by unfold gI;split<;>omega
def aip{n s:Int}(h:0<=gI n)(hs:0<=s/\s<=1):jZ n=1-s↔¬jZ n=s:=by
 unfold gI at h;unfold jZ;split at h
 .rename_i e;rw[if_pos e];omega
 .omega
def Tu{n s:Int}(h:¬ 0<=gI n)(hs:0<=s/\s<=1):¬jZ n=1-s/\¬jZ n=s:=by
 unfold gI at h;unfold jZ;split at h
 .omega
 .rename_i e;rw[if_neg e];omega
def f228(g:gj)(hg:gU g)(s:gy)(hs:km g s)(x:gd)(i:F8 g x):Wf T 284 [dG g,.agg s.cells,.agg [.i x.1,.i x.2]] [] (Is (kE (je g s x))):=by
 have o:=hs.p.size;have f:=hs.cur;have m:=hs.p.small hg;have p:=hg.jJ.to s.p.side x.2 s.cur;have d:=hs.p.cs _ (gA f.1 (by omega));have a:=hs.p.side;have j:=aio d.1 d.2 hg.kinds.2;have e:=hs.p.gM;have c:=hg.gM;have l:=i.ok;refine Yg LI ?_;simp[LI];refine gf ?_;refine Yc (f51 _) ?_;simp;(with_reducible repeat' first|refine Xk ?_<;>try simp|refine Xs ?_ ?_<;>intro h<;>(try intro q)<;>(try simp[h])<;>try omega|refine Xg ?_|omega)
 .refine Yc (f251 g hg.jJ s.p.side x.2 s.cur) ?_;simp;refine Yc (f252 { s with cur:=ml g s.p.side x.2 s.cur } _) ?_;simp;simp[je,h]
 .refine Yc (f253 g hg s hs x.2) ?_;simp;simp[je,h]
 .refine Yc (f252 s _) ?_;simp;simp[je,h,j]
 .refine Yc (f252 s _) ?_;simp;have h1:=aip (by assumption) a;simp[je, *]
 .refine Yc (f252 s _) ?_;simp;have h1:=Tu (by assumption) a;simp[je, *]
 .refine Yc (f252 s _) ?_;simp;simp[je, *]
 .refine Yc (f252 s _) ?_;simp;have h1:=Tu (by assumption) a;simp[je, *]
 .refine Yc (f254 g hg s hs) ?_;simp;simp[je, *]
 .refine Yc (f255 g hg s hs x.2) ?_;simp;simp[je, *]
 .simp[je, *]
 .refine Yt (f252 s _) ?_;simp;have k:=E6 c.1 (by omega);have b:=abk (r:=s.p.gM) (n:=x.2) e.1 (by omega) (by omega) (by omega);simp[je,b, *]
 .have k:=E6 c.1 (by omega);have b:=abl (r:=s.p.gM) (n:=x.2) e.1 (by omega) (by omega) (by omega);simp[je,b, *]
def mo(a:List gy):List gy->List gy
 | []=>a
 | x::r=>mo (if x∈a then a else a ++ [x]) r
theorem Ga:∀ {b a:List gy} {x:gy},x∈mo a b↔x∈a\/x∈b
 | [],a,x=>by simp[mo]
 | y::r,a,x=>by
  unfold mo;rw[Ga];split<;>simp
  .constructor
   .rintro(h|h)<;>simp[h]
   .rintro(h|rfl|h)<;>simp[*]
  .constructor
   .rintro((h|h)|h)<;>simp[h]
   .rintro(h|rfl|h)<;>simp[*]
theorem F':∀ {b a:List gy},(mo a b).length<=a.length+b.length
 | [],a=>by simp[mo]
 | y::r,a=>by unfold mo;refine Nat.le_trans F' ?_;split<;>simp<;>omega
def aoG{H:U}{v:Nat}{o:Ob}(h:H[v]? = some o):H=H.set v o:=by
 refine bQ λi=>?_;rw[bL];split
 .rename_i e;subst e;rw[if_pos (aaj h),h]
 .rfl
def GH.of{H:U}{v:Nat}{o:Ob}(a:H[v]? = some o)(b:ju H.length H):GH H v:=⟨aaj a,b⟩
def f227(v gen:Nat)(a b:List gy)(H:U)(n:H[v]? = some (.row 373 gen (cl gy.cells a)))(t:ju H.length H)(r:∀s∈a,Small s.p)(o:∀s∈b,Small s.p)(hl:a.length+b.length<2 ^ 39):Wf T 283 [.fZ v gen 8 0 a.length,kE b] H (λd H'=>∃q,d = .fZ v q 8 0 (mo a b).length/\H'=H.set v (.row 373 q (cl gy.cells (mo a b)))):=by
 have hg:=GH.of n t;have z:=hg.lt;refine Yg LG ?_;simp[LG];refine gp.j ((0,gen,a):Int×Nat×List gy) (λx=>[(0,.fZ v x.2.1 8 0 x.2.2.length),(1,kE b),(5,.i x.1)]) (λx=>H.set v (.row 373 x.2.1 (cl gy.cells x.2.2))) (λx=>0<=x.1/\x.1<=b.length/\x.2.2.length<=a.length+x.1.toNat/\(∀s∈x.2.2,Small s.p)/\mo x.2.2 (b.drop x.1.toNat)=mo a b) (λx=>b.length-x.1.toNat) ?_ (by simp) (aoG n) rfl ?_
 .simp;exact r
 rintro⟨i,p,l⟩ ⟨h0,h1,u,f,c⟩;dsimp only at h0 h1 u f c ⊢;simp;refine jT ?_ ?_<;>intro h
 .refine gp.j ((0,false):Int×Bool) (λx=>[(0,.fZ v p 8 0 l.length),(1,kE b),(5,.i i),(6,.b x.2),(7,.i x.1)]) (λx=>H.set v (.row 373 p (cl gy.cells l))) (λx=>0<=x.1/\x.1<=l.length/\x.2=decide (gt b i∈l.take x.1.toNat)) (λx=>l.length-x.1.toNat) ?_ (by simp) rfl rfl ?_
  .simp
  rintro⟨k,m⟩ ⟨g,w,j⟩;dsimp only at g w j ⊢;simp[hg];(with_reducible repeat' first|refine Xk ?_<;>try simp[hg]|refine Xs ?_ ?_<;>intro h<;>(try intro A)<;>(try simp[h,hg])<;>try omega|refine Xg ?_|omega)
  .rw[jn g (by assumption)];simp_all
  .refine Yt (f250 _ _ (f _ (gA g (by assumption))) (o _ (gA h0 (by assumption)))) ?_;simp;simp only[h,cond_false];refine qo ⟨k+1,?_⟩;rw[jn g (by assumption)]
   by_cases e:gt l k=gt b i
   .right;simp[e];omega
   .left;simp_all;exact gJ (λy=>e y.symm)
  .refine⟨i+1,l,rfl,rfl,rfl,by omega,by omega,by omega,by omega,f,?_⟩;rw[<-c,n5 h0 (by assumption),mo,show(i+1).toNat=i.toNat+1 by omega];rw[if_pos];rw[j,lr (by omega)]at h;simpa using h
  .refine⟨i+1,l ++ [gt b i],by simp,rfl,by simp,by omega,by omega,by omega,by simp;omega,?_,?_⟩
   .intro s hs;simp at hs;rcases hs with hs|rfl
    .exact f s hs
    .exact o _ (gA h0 (by assumption))
   .rw[<-c,n5 h0 (by assumption),mo,show(i+1).toNat=i.toNat+1 by omega];rw[if_neg];rw[j,lr (by omega)]at h;simpa using h
 .rw[bF (by omega)]at c;have e:mo l []=l:=rfl;rw[e]at c;rw[<-c];exact⟨rfl,rfl⟩
end Go.Proofs.YtmehofoficaelaaGreatDoor
namespace Go.AL
open Go Classical
def iM{α:Type}{f:α->List D}(a:α):cl f [a]=f a:=by rw[mD,adA,az]
def gp.e{T:iD}{live:List Nat}{a:IR}{s:St}{K:iU}{α:Type}(b:α)(E:α->Env)(c:α->U)(P:α->Prop)(d:α->Nat)(h0:P b)
  (h:∀x,P x->XC T a { env:=E x,H:=c x } (vg s.H.length live ((E b).map (·.1)) (LJ E c [] false (λe=>d e<d x/\P e) .mk) K))
  (l:forget ((E b).map (·.1)) s.env=E b:=by simp) (j:s.H=c b:=by first|rfl|(simp[iM];done)|(simp[*];done)) (i:s.marks = []:=by exact rfl) (g:s.ic=false:=by exact rfl) (f:(((E b).map (·.1)).all λk=>live.contains k)=true:=by exact rfl):gp T live a s K .mk:=gp.k b E c P d h0 l j i g f h
def kX.pw{l:List Pos}(h:kX l):l.Pairwise λx y=>iH x y<0:=by refine bM.2 λi j hi a b=>?_;have:=h.le (i:=(i:Int)) (j:=(j:Int)) (by omega) (by omega) (by omega);rwa [zU hi,zU a]at this
def kX.of{r:List Pos}(h:r.Pairwise λx y=>iH x y<0):kX r:=by intro i h1 a;rw[iZ (by omega) (by omega),iZ (by omega) (by omega)];exact bM.1 h _ _ _ _ (by omega)
theorem aa6:∀ {a b:List Pos},(a.Pairwise λx y=>iH x y<0)->(b.Pairwise λx y=>iH x y<0)->(∀q,q∈a↔q∈b)->a=b
 | [],[],_,_,_=>rfl
 | [],y::b,_,_,h=>by have:=(h y).2 (by simp);cases this
 | x::a,[],_,_,h=>by have:=(h x).1 (by simp);cases this
 | x::a,y::b,ha,hb,h=>by
  have d:=aX.1 ha;have g:=aX.1 hb
  have e:x=y:=by
   rcases ao.1 ((h x).1 (by simp))with e|e
   .exact e
   rcases ao.1 ((h y).2 (by simp))with f|f
   .exact f.symm
   have h1:=g.1 x e;have i:=d.1 y f;rw[vH]at h1;omega
  subst e;rw[aa6 d.2 g.2 λq=>?_];constructor
  .intro c;rcases ao.1 ((h q).1 (by simp[c]))with e|e
   .subst e;have:=d.1 q c;rw[vG]at this;omega
   .exact e
  .intro c;rcases ao.1 ((h q).2 (by simp[c]))with e|e
   .subst e;have:=g.1 q c;rw[vG]at this;omega
   .exact e
def Fs{a b:List Pos}(d:kX a)(c:kX b)(h:∀q,q∈a↔q∈b):a=b:=aa6 d.pw c.pw h
def adO{x y:Pos}(h:x≠y)(a:¬iH x y<0):iH y x<0:=by have:iH x y≠0:=λe=>h (rP.1 e);rw[vH];omega
theorem ZB(x:Pos):∀r:List Pos,(r.Pairwise λx y=>iH x y<0)->∃b:List Pos,(b.Pairwise λx y=>iH x y<0)/\∀q,q∈b↔q=x\/q∈r
 | [],_=>⟨[x],by simp,by simp⟩
 | y::r,h=>by
  have c:=aX.1 h
  by_cases e:x=y
  .subst e;exact⟨x::r,h,by simp⟩
  by_cases hl:iH x y<0
  .refine⟨x::y::r,aX.2 ⟨λz a=>?_,h⟩,by simp⟩;rcases ao.1 a with rfl|a
   .exact hl
   .exact zI hl (c.1 z a)
  .obtain⟨b,h1,d⟩:=ZB x r c.2;refine⟨y::b,aX.2 ⟨λz a=>?_,h1⟩,λq=>?_⟩
   .rcases(d z).1 a with rfl|a
    .exact adO e hl
    .exact c.1 z a
   .simp only[ao,d];constructor
    .rintro(h|h|h)<;>simp[h]
    .rintro(h|h|h)<;>simp[h]
theorem PN:∀l:List Pos,∃r,kX r/\∀q,q∈r↔q∈l
 | []=>⟨[],λi h1 a=>by simp at a;omega,by simp⟩
 | x::l=>by obtain⟨r,h1,a⟩:=PN l;obtain⟨b,d,c⟩:=ZB x r h1.pw;exact⟨b,kX.of d,λq=>by rw[c,a,ao]⟩
noncomputable def kI(l:List Pos):List Pos:=Classical.choose (PN l)
def C2(l:List Pos):kX (kI l):=(cD (PN l)).1
@[simp] theorem wK{l:List Pos}{q:Pos}:q∈kI l↔q∈l:=(cD (PN l)).2 q
theorem abN{l r:List Pos}(h:kX r)(a:∀q,q∈r↔q∈l):r=kI l:=Fs h (C2 l) λq=>by rw[a,wK]
theorem EX{α:Type}[DecidableEq α]:∀ {l m:List α},l.Nodup->(∀x∈l,x∈m)->l.length<=m.length
 | [],m,_,_=>by simp
 | a::l,m,b,h=>by
  have b:=cQ.1 b
  have h1:l.length<=(m.erase a).length:=EX b.2 λx c=>by refine(List.mem_erase_of_ne ?_).2 (h x (by simp[c]));rintro rfl;exact b.1 c
  rw[fu (h a (by simp))]at h1;have:0<m.length:=fJ (h a (by simp));simp;omega
def kX.nodup{l:List Pos}(h:kX l):l.Nodup:=h.pw.imp λ{a b} c e=>by subst e;rw[vG]at c;omega
def PM(l:List Pos):(kI l).length<=l.length:=EX (kX.nodup (C2 l)) λx a=>wK.1 a
def ended(g:gj)(p:Pos):Prop:=∃c∈g.clauses,kZ p c
def IU{g:gj}{p:Pos}(h:¬ended g p):∀c∈g.clauses,¬kZ p c:=λc a hl=>h ⟨c,a,hl⟩
def Nr(g:gj)(p:Pos):List Pos:=(upto g.kinds.length).flatMap λk=>(upto p.cs.length).map λc=>kh p k c
theorem Bz{α c:Type}{f:α->List c}{n:Nat}:∀ {l:List α},(∀a∈l,(f a).length<=n)->(l.flatMap f).length<=l.length*n
 | [],_=>by simp
 | a::l,h=>by rw[List.flatMap_cons,aj,aC,cE];have:=h a (by simp);have:=Bz (l:=l) λb d=>h b (by simp[d]);omega
theorem abB{g:gj}:∀ {l:List gd} {a:List gy},(tw g l a).length<=10 ^ l.length*a.length
 | [],a=>by simp[tw]
 | x::r,a=>by rw[tw];refine Nat.le_trans abB ?_;rw[aC,eM,fV];refine eR _ ?_;rw[dT];exact Bz λs _=>Ft
def anE{g:gj}(hg:gU g){p:Pos}(a:iz g p):(qn g p).length<=3600000000:=by
 have i:=a.size;have j:=hg.jJ.size
 have:(qn g p).length<=(upto p.cs.length).length*400000000:=by
  refine Bz λc d=>?_;rw[jd]at d;unfold p5;split
  .rename_i e;have f:=Ju hg a d.1 (by omega) e;have b:=hg.jr _ (gA (l:=g.kinds) f.kind.1 f.kind.2)
   have m:((gt g.kinds (gI (gt p.cs c))).jr.flatMap (vh g p c)).length<=(gt g.kinds (gI (gt p.cs c))).jr.length*100000000:=by refine Bz λl hl=>?_;have h:=(b.2 l hl).len;refine Nat.le_trans (fw _ _) (Nat.le_trans abB ?_);have:10 ^ l.length<=10 ^ 8:=cT (by decide) h.2;simpa using this
   have k:(gt g.kinds (gI (gt p.cs c))).jr.length<=4:=b.1;omega
  .simp
 have e:(upto p.cs.length).length=p.cs.length:=by simp[upto]
 rw[e]at this;omega
def aej{g:gj}(hg:gU g){p:Pos}(a:iz g p):(Nr g p).length<=18:=by
 have b:=a.size;have d:=hg.jJ.size;have c:=hg.kinds
 have:(Nr g p).length<=(upto g.kinds.length).length*9:=Bz λk _=>by simp[upto];omega
 have e:(upto g.kinds.length).length=g.kinds.length:=by simp[upto]
 rw[e]at this;omega
def aiB{g:gj}{p q:Pos}(h:rH g p q):q∈(qn g p).map (·.p)++Nr g p:=by
 obtain⟨_,h⟩:=h;split at h
 .exact List.mem_append.2 (.inl (List.mem_map.2 ⟨_,h,rfl⟩))
 .rcases h with⟨o,h,rfl⟩|⟨k,c,h1,d,b,a,_,_,rfl⟩
  .exact List.mem_append.2 (.inl (List.mem_map.2 ⟨_,h,rfl⟩))
  .exact List.mem_append.2 (.inr (bN.2 ⟨k,jd.2 ⟨h1,d⟩,List.mem_map.2 ⟨c,jd.2 ⟨b,a⟩,rfl⟩⟩))
noncomputable def iW(g:gj)(p:Pos):List Pos:=kI (((qn g p).map (·.p)++Nr g p).filter λq=>decide (rH g p q))
def aiC(g:gj)(p:Pos):kX (iW g p):=C2 _
@[simp] theorem CD{g:gj}{p q:Pos}:q∈iW g p↔rH g p q:=by unfold iW;rw[wK,aL];simp only[decide_eq_true_eq];exact⟨λh=>h.2,λh=>⟨aiB h,h⟩⟩
def TM{g:gj}{p:Pos}{r:List Pos}(h:kX r)(a:∀q,q∈r↔rH g p q):r=iW g p:=Fs h (aiC g p) λq=>by rw[a,CD]
def O5{g:gj}{p:Pos}(h:ended g p):iW g p = []:=by refine aU.2 λq a=>?_;obtain⟨c,b,hl⟩:=h;exact(CD.1 a).1 c b hl
@[irreducible] noncomputable def uq(g:gj)(p:Pos):D:=if ended g p then .gg else gZ (iW g p)
theorem O4(g:gj)(p:Pos):(uq g p = .gg/\iW g p = [])\/uq g p=gZ (iW g p):=by
 unfold uq;split
 .rename_i h;exact .inl ⟨rfl,O5 h⟩
 .exact .inr rfl
def yT{g:gj}(hg:gU g){p:Pos}(a:iz g p):(iW g p).length<=4000000000:=by refine Nat.le_trans (PM _) (Nat.le_trans (List.length_filter_le _ _) ?_);have:=anE hg a;have:=aej hg a;simp;omega
section
variable{g:gj}{p:Pos}{n:Int}{k:IntKind}{P:D->Prop}{H:U}
@[simp] theorem adK:closed (uq g p)=true:=by rcases O4 g p with⟨h,_⟩|h<;>rw[h]<;>simp
@[simp] theorem awF:mX .slice (uq g p) H=some (.i (iW g p).length):=by rcases O4 g p with⟨h,e⟩|h<;>rw[h]<;>simp[*]
@[simp] theorem az3:kQ 5 H (uq g p)=some (cl Pos.cells (iW g p),(iW g p).length):=by rcases O4 g p with⟨h,e⟩|h<;>rw[h]<;>simp[*]
@[simp] theorem aAr(n:Nat):jk n (uq g p) = []:=Jv n adK
@[simp] theorem axz:oA (mG 5 (uq g p) (.val (.int k n))) P .mk=((0<=n/\n<(iW g p).length)/\P (.gC (gt (iW g p) n).cells)):=by
 rcases O4 g p with⟨h,e⟩|h
 .rw[h,e];simp only[mG,aaE,da];refine propext ⟨λh=>h.elim,λ⟨h,_⟩=>?_⟩;have:=h.1;have:=h.2;simp at this;omega
 .rw[h];exact yV
end
noncomputable def uR(g:gj)(p:Pos):Int:=if ended g p then(g.clauses.findIdx λc=>decide (kZ p c):Nat)else -1
def QR{g:gj}{p:Pos}(h:ended g p):0<=uR g p/\uR g p<g.clauses.length/\gt g.clauses (uR g p)∈g.clauses:=by
 unfold uR;rw[if_pos h]
 have:(g.clauses.findIdx λc=>decide (kZ p c))<g.clauses.length:=by rw[List.findIdx_lt_length];obtain⟨c,a,hl⟩:=h;exact⟨c,a,by simpa using hl⟩
 exact qo (gA (by omega) (by omega))
def WK{g:gj}{p:Pos}(h:¬ended g p):uR g p = -1:=by unfold uR;rw[if_neg h]
def Nu{g:gj}{p:Pos}:0<=uR g p↔ended g p:=by
 by_cases h:ended g p
 .exact⟨λ_=>h,λ_=>(QR h).1⟩
 .rw[WK h];simp[h]
noncomputable def stat(g:gj)(p:Pos):Int×Bool:=(if ended g p then(gt g.clauses (uR g p)).out else if iW g p = []then g.blocked else 0,decide (iW g p = []))
def abT{g:gj}(hg:gU g){p:Pos}(h:(stat g p).2=true):1<=(stat g p).1/\(stat g p).1<=3:=by
 unfold stat at *;simp only[decide_eq_true_eq]at h ⊢;split
 .rename_i a;exact(hg.clause _ (QR a).2.2).out
 .exact hg.blocked
end Go.AL
namespace Go.Proofs.YtmehofoficaelaaGreatDoor
open Go Go.AL Classical
set_option maxRecDepth 10000
set_option maxHeartbeats 1000000
def Xh(p:Pos)(a:Small p):Wf T 205 [dP p] [] (λd H=>d = .agg [.fZ 0 1 1 0 p.cs.length,dI p.h0,dI p.h1,.i p.gM,.i p.side]/\H = [.row 3 1 (cl f1 p.cs)]):=by obtain⟨h1,c,b⟩:=a;refine Wf.xo 3 (fn:=zn) rfl (by simp[zn]) ?_;simp[zn];exact mQ
@[irreducible] def fA(a:List gy):List D:=[kE a]
theorem Bu(a:List gy):fA a = [kE a]:=by unfold fA;rfl
instance:Fl fA 1:=⟨λ_=>by simp[Bu],λ_=>by simp[Bu,gG]⟩
@[simp] theorem atw(l:List (List gy))(x:List gy):cl fA l ++ [kE x]=cl fA (l ++ [x]):=by rw[<-p9,Bu]
theorem adr(x:List gy) : [kE x]=cl fA [x]:=by rw[mD,Bu];simp
def oZ(g:gj)(x:gd)(now:List gy):List gy:=now.foldl (λa s=>mo a (je g s x)) []
def pG(g:gj):List gd->List gy->List (List gy)
 | [],_=>[]
 | x::r,now=>oZ g x now::pG g r (oZ g x now)
theorem XH{g:gj}{x:gd}{t:gy}:∀ {now a:List gy},t∈now.foldl (λa s=>mo a (je g s x)) a↔t∈a\/t∈now.flatMap λs=>je g s x
 | [],a=>by simp
 | s::r,a=>by rw[cu,XH,Ga,List.flatMap_cons,List.mem_append,or_assoc]
def O7{g:gj}{x:gd}{now:List gy}{t:gy}:t∈oZ g x now↔t∈now.flatMap λs=>je g s x:=by unfold oZ;rw[XH];simp
theorem XF{g:gj}{x:gd}:∀ {now c:List gy},(now.foldl (λc s=>mo c (je g s x)) c).length<=c.length+10*now.length
 | [],c=>by simp
 | s::r,c=>by rw[cu];refine Nat.le_trans XF ?_;have:=F' (a:=c) (b:=je g s x);have:=Ft (g:=g) (s:=s) (x:=x);rw[aC];omega
def IS{g:gj}{x:gd}{now:List gy}:(oZ g x now).length<=10*now.length:=by unfold oZ;refine Nat.le_trans XF ?_;simp
theorem abV{g:gj}:∀ {l:List gd} {now:List gy},(pG g l now).length=l.length
 | [],_=>rfl
 | x::r,now=>by rw[pG,aC,abV,aC]
def f194(g:gj)(hg:gU g)(p:Pos)(m:iz g p)(c i:Int)(o:0<=c/\c<g.size)(r:jZ (gt p.cs c)=p.side)(hi:0<=i/\i<(gt g.kinds (gI (gt p.cs c))).jr.length) :
  Wf T 254 [dG g,dP p,.i c,.i i] [] (Is (.agg [.sl 1 (([lE p c]::pG g (gt (gt g.kinds (gI (gt p.cs c))).jr i) [lE p c]).map fA),.i 0])):=by
 have H:=m.size;have w:=m.small hg;have y:=m.cs _ (gA o.1 (by omega));have z:=m.side;obtain⟨m1,m2,m3,m4⟩:=IJ z.1 r;have A:gI (gt p.cs c)<g.kinds.length:=yP y.2 hg.kinds.1;refine Yz FP (iV 117 [10] FP.body) ?_;simp[FP,iV,kq,nb,ng,nD,lV];refine Yc (f65 g p hg m) ?_;simp;(with_reducible repeat' first|refine Xk ?_<;>try simp|refine Xs ?_ ?_<;>intro h<;>(try intro C)<;>(try simp[h])<;>try omega|refine Xg ?_|omega);refine Yc (f51 _) ?_;simp;(with_reducible repeat' first|refine Xk ?_<;>try simp|refine Xs ?_ ?_<;>intro h<;>(try intro C)<;>(try simp[h])<;>try omega|refine Xg ?_|omega)
 rotate_right
 refine wZ.n rfl rfl (Xh p w) (by simp) (by simp) ?_;simp;refine gf ?_;refine gp.fz [0,1,3,4,5,6,8] rfl ?_;have q0:=iC (l:=p.cs) (n:=c) (v:=0) o.1 (by omega);have D:km g (lE p c):=Ju hg m o.1 o.2 r;have F:=hg.jr _ (gA (l:=g.kinds) m1 A);generalize u:gt (gt g.kinds (gI (gt p.cs c))).jr i=prog at *;have q:xW g prog:=F.2 _ (u▸gA hi.1 hi.2);have I:=q.len
 refine gp.k ((0,[[lE p c]],[lE p c]):Int×List (List gy)×List gy) (λx=>[(4,.gC g.cells),(8,.ptr 2 0 0),(11,.ptr 9 0 0),(12,kE x.2.2),(13,iw prog),(14,.i x.1)]) (λx=>[.dead,.dead,.row 369 0 [.gg,.i 0],.dead,.dead,.dead,.dead,.row 371 x.1.toNat (cl fA x.2.1),.dead,.row 369 0 [.fZ 7 x.1.toNat 1 0 x.2.1.length,.i 0]])
  (λx=>0<=x.1/\x.1<=prog.length/\x.2.1.length=x.1.toNat+1/\(∀s∈x.2.2,km g s)/\x.2.2.length<=10 ^ x.1.toNat/\[lE p c]::pG g prog [lE p c]=x.2.1++pG g (prog.drop x.1.toNat) x.2.2) (λx=>prog.length-x.1.toNat) ?_ ?_ ?_ rfl rfl (by simp) ?_
 .simp;exact D
 .simp[lE,q0]
 .simp[lE,<-adr,q0]
 rintro⟨k,steps,now⟩ ⟨k0,k1,k2,k3,k4,k5⟩;dsimp only at k0 k1 k2 k3 k4 k5 ⊢;simp;refine jT ?_ ?_<;>intro h
 .refine gp.e ((0,0,[]):Int×Nat×List gy) (λx=>[(4,.gC g.cells),(8,.ptr 2 0 0),(11,.ptr 9 0 0),(12,kE now),(13,iw prog),(14,.i k),(15,.fZ 10 x.2.1 8 0 x.2.2.length),(16,.i x.1)]) (λx=>[.dead,.dead,.row 369 0 [.gg,.i 0],.dead,.dead,.dead,.dead,.row 371 k.toNat (cl fA steps),.dead,.row 369 0 [.fZ 7 k.toNat 1 0 steps.length,.i 0],.row 373 x.2.1 (cl gy.cells x.2.2)]) (λx=>0<=x.1/\x.1<=now.length/\(∀s∈x.2.2,km g s)/\x.2.2.length<=10*x.1.toNat/\oZ g (gt prog k) now=(now.drop x.1.toNat).foldl (λf s=>mo f (je g s (gt prog k))) x.2.2) (λx=>now.length-x.1.toNat) ?_ ?_
  .simp[oZ]
  rintro⟨j,E,f⟩ ⟨j0,j1,j2,j3,j4⟩;dsimp only at j0 j1 j2 j3 j4 ⊢;simp;refine jT ?_ ?_<;>intro h
  .refine Yt (f228 g hg _ (k3 _ (gA j0 ‹_›)) _ (q.steps _ (gA k0 ‹_›))) ?_;simp;have gi:=k3 _ (gA j0 ‹_›);refine gx.kG rfl rfl (f227 10 E f (je g (gt now j) (gt prog k)) _ rfl (by simp) (λs hs=>(j2 s hs).p.small hg) (λs hs=>(C7 hg gi (q.steps _ (gA k0 ‹_›)) hs).p.small hg) ?_) ?_
   .have h1:=Ft (g:=g) (s:=gt now j) (x:=gt prog k);have B:10 ^ k.toNat<=10 ^ 8:=cT (by decide) (by omega);omega
   rintro d H' ⟨G,rfl,rfl⟩;simp;have B:10 ^ k.toNat<=10 ^ 8:=cT (by decide) (by omega);refine gf ?_;refine LJ.e (j+1,G,mo f (je g (gt now j) (gt prog k))) ?_;refine⟨by dsimp only;omega,by dsimp only;omega,by dsimp only;omega,λs hs=>?_,?_,?_⟩
   .rcases Ga.1 hs with hs|hs
    .exact j2 s hs
    .exact C7 hg gi (q.steps _ (gA k0 ‹_›)) hs
   .have h1:=Ft (g:=g) (s:=gt now j) (x:=gt prog k);have t:=F' (a:=f) (b:=je g (gt now j) (gt prog k));dsimp only;omega
   .rw[j4,n5 j0 ‹_›,cu,show(j+1).toNat=j.toNat+1 by omega]
  .have e:oZ g (gt prog k) now=f:=by rw[j4,bF (by omega)];rfl
   refine gf ?_;refine LJ.i (k+1,steps ++ [f],f) (by first|rfl|simp[show(k+1).toNat=k.toNat+1 by omega]) (by first|rfl|simp[show(k+1).toNat=k.toNat+1 by omega]) rfl rfl ?_;refine⟨by dsimp only;omega,by dsimp only;omega,by dsimp only;omega,by simp;omega,j2,?_,?_⟩
   .have t:=IS (g:=g) (x:=gt prog k) (now:=now);rw[e]at t;dsimp only;rw[show(k+1).toNat=k.toNat+1 by omega,eM];omega
   .rw[k5,n5 k0 ‹_›,pG,e,show(k+1).toNat=k.toNat+1 by omega];simp
 .rw[bF (by omega),pG,az]at k5;rw[<-k5];simp
def ah3{a b:gQ}(h1:¬IF a b)(c:¬IF b a):a=b:=by
 unfold IF at *;have e:=vH a.p b.p
 have h:iH a.p b.p=0:=by
  by_cases h:iH a.p b.p=0
  .exact h
  .exfalso
   by_cases d:iH a.p b.p<0
   .exact h1 (.inl d)
   .exact c (.inl (by omega))
 have f:iH b.p a.p=0:=by omega
 simp[h,f]at h1 c;have:=rP.1 h;cases a;cases b;simp_all;rename_i x y _;cases x<;>cases y<;>simp_all
structure MI(l:List gQ)(x:gQ)(i:Int)(d:Bool)(out:List gQ):Prop where
 i0:0<=i/\i<=l.length
 dn:d=true->x∈out
 sub:∀o∈out,o∈l.take i.toNat\/o=x
 sup:∀o∈l.take i.toNat,o∈out
 len:out.length<=i.toNat+(if d then 1 else 0)
def MI.step{l:List gQ}{x:gQ}{i:Int}{d d':Bool}{out:List gQ}(h:MI l x i d out)(hi:i<l.length)(xs:List gQ)(b:∀o∈xs,o=x)(c:d'=true->d=true\/x∈xs\/gt l i=x)(hl:xs.length+(if d then 1 else 0)<=(if d' then 1 else 0)):MI l x (i+1) d' (out++xs ++ [gt l i]):=by
 have h0:=h.i0;refine⟨by omega,λe=>?_,λo a=>?_,λo a=>?_,?_⟩
 .rcases c e with e|e|e
  .have:=h.dn e;simp[this]
  .simp[e]
  .simp[e]
 .rw[jn h0.1 hi];simp at a ⊢;rcases a with a|a|a
  .rcases h.sub o a with h|h
   .exact .inl (.inl h)
   .exact .inr h
  .exact .inr (b o a)
  .exact .inl (.inr a)
 .rw[jn h0.1 hi]at a;simp at a ⊢;rcases a with a|a
  .exact .inl (h.sup o a)
  .exact .inr (.inr a)
 .have:=h.len;simp;omega
def f195(l:List gQ)(x:gQ)(hl:l.length<2 ^ 39)(hs:∀o∈l,Small o.p)(k:Small x.p):Wf T 255 [nZ l,.agg x.cells] [] (Ex nZ λr=>(∀o,o∈r↔o∈l\/o=x)/\r.length<=l.length+1):=by
 refine Yg Lr ?_;simp[Lr];refine gp.e ((0,false,[]):Int×Bool×List gQ) (λy=>[(0,nZ l),(3,.ptr 0 0 0),(5,.fZ 1 y.2.2.length 6 0 y.2.2.length),(6,.b y.2.1),(7,.i y.1)]) (λy=>[.row 259 0 x.cells,.row 259 y.2.2.length (cl gQ.cells y.2.2)]) (λy=>MI l x y.1 y.2.1 y.2.2) (λy=>l.length-y.1.toNat) ?_ ?_
 .exact⟨by simp,by simp,by simp,by simp,by simp⟩
 rintro⟨i,done,out⟩ c;have h0:=c.i0;have j:=c.len;have m:(if done=true then 1 else 0)<=1:=by split<;>omega
 dsimp only at c h0 j ⊢;simp;(with_reducible repeat' first|refine Xk ?_<;>try simp|refine Xs ?_ ?_<;>intro h<;>(try intro n)<;>(try simp[h])<;>try omega|refine Xg ?_|omega)
 .refine LJ.e (i+1,true,out ++ [gt l i]) ?_;subst h;have:=c.step ‹_› [] (d':=true) (by simp) (by simp) (by simp);simp at this;exact⟨by simp;omega,this⟩
 .have d:=h;refine Yt (f229 _ _ (hs _ (gA h0.1 ‹_›)) k) ?_;simp[h];refine F9 d ?_ ?_<;>intro h
  .subst d;have:=c.step ‹_› [] (d':=false) (by simp) (by simp) (by simp);simp at this;refine LJ.e (i+1,false,out ++ [gt l i]) ?_;exact⟨by simp;omega,this⟩
  .refine Yt (f229 _ _ k (hs _ (gA h0.1 ‹_›))) ?_;simp[d];refine F9 d ?_ ?_<;>intro h
   .subst d;have:=c.step ‹_› [x] (d':=true) (by simp) (by simp) (by simp);refine LJ.e (i+1,true,out ++ [x] ++ [gt l i]) ?_;exact⟨by simp;omega,this⟩
   .subst d;have e:=ah3 (a:=gt l i) (b:=x) ‹_› ‹_›;have:=c.step ‹_› [] (d':=true) (by simp) (by simp[e]) (by simp);simp at this;refine LJ.e (i+1,true,out ++ [gt l i]) ?_;exact⟨by simp;omega,this⟩
 .subst h;have g:=c.sub;have f:=c.sup;rw[lr (by omega)]at g f;refine⟨out,rfl,λo=>⟨g o,λh=>?_⟩,by simp at j;omega⟩;rcases h with h|h
  .exact f o h
  .rw[h];exact c.dn rfl
 .subst h;have g:=c.sub;have f:=c.sup;rw[lr (by omega)]at g f;refine⟨out ++ [x],by simp[nZ],λo=>?_,by simp at j;simp;omega⟩;simp;constructor
  .rintro(h|h)
   .exact g o h
   .exact .inr h
  .rintro(h|h)
   .exact .inl (f o h)
   .exact .inr h
theorem Z0{g:gj}:∀ {l:List gd} {now:List gy} {t:gy},t∈gt (now::pG g l now) l.length↔t∈tw g l now
 | [],now,t=>by simp[pG,tw,gt]
 | x::r,now,t=>by
  have e:gt (now::pG g (x::r) now) (x::r).length=gt (oZ g x now::pG g r (oZ g x now)) r.length:=by rw[pG];unfold gt;simp only[aC,bB,List.getD_cons_succ]
  rw[e,Z0,tw];exact abA (λs=>O7) t
theorem ZZ{g:gj}:∀ {l:List gd} {now:List gy},(gt (now::pG g l now) l.length).length<=10 ^ l.length*now.length
 | [],now=>by simp[pG,gt]
 | x::r,now=>by
  have e:gt (now::pG g (x::r) now) (x::r).length=gt (oZ g x now::pG g r (oZ g x now)) r.length:=by rw[pG];unfold gt;simp only[aC,bB,List.getD_cons_succ]
  rw[e];refine Nat.le_trans ZZ ?_;rw[aC,eM,fV];exact eR _ IS
def f154(g:gj)(hg:gU g)(p:Pos)(b:iz g p)(c i:Int)(f:0<=c/\c<g.size)(m:jZ (gt p.cs c)=p.side)(hi:0<=i/\i<(gt g.kinds (gI (gt p.cs c))).jr.length) :
  Wf T 204 [dG g,dP p,.i c,.i i] [] (Ex (λr=>.tup [nZ r,.i 0]) λr=>(∀o,o∈r↔o∈vh g p c (gt (gt g.kinds (gI (gt p.cs c))).jr i))/\r.length<=10 ^ 8):=by
 have I:=b.cs _ (gA f.1 (by have:=b.size;omega));have a:=b.side;obtain⟨m1,m2,m3,m4⟩:=IJ a.1 m;have J:gI (gt p.cs c)<g.kinds.length:=yP I.2 hg.kinds.1;have M:km g (lE p c):=Ju hg b f.1 f.2 m;have P:=hg.jr _ (gA (l:=g.kinds) m1 J);have N:=f194 g hg p b c i f m hi;generalize F:gt (gt g.kinds (gI (gt p.cs c))).jr i=prog at *;have D:xW g prog:=P.2 _ (F▸gA hi.1 hi.2);have O:=D.len;have z:∀t,t∈gt ([lE p c]::pG g prog [lE p c]) prog.length↔t∈tw g prog [lE p c]:=λt=>Z0;have Q:=ZZ (g:=g) (l:=prog) (now:=[lE p c]);have X:10 ^ prog.length<=10 ^ 8:=cT (by decide) O.2;have G:=abV (g:=g) (l:=prog) (now:=[lE p c]);generalize hS : [lE p c]::pG g prog [lE p c]=S at *;have U:S.length=prog.length+1:=by rw[<-hS];simp[G]
 refine Yz FO (iV 70 [5] FO.body) ?_;simp[FO,iV,kq,nb,ng,nD,lV];refine Yc (N) ?_;simp;(with_reducible repeat' first|refine Xk ?_<;>try simp[Bu]|refine Xs ?_ ?_<;>intro h<;>(try intro Y)<;>(try simp[h,Bu])<;>try omega|refine Xg ?_|omega);rw[show(S.length:Int)-1=prog.length by omega];generalize gt S (prog.length:Int)=L at *;have gi:∀s∈L,km g s:=λs hs=>Px hg D.steps (λt e=>by rw[List.mem_singleton]at e;subst e;exact M) s ((z s).1 hs);have Z:L.length<=100000000:=by simp at Q;omega
 simp[Bu];refine gf ?_;refine gp.fz [0,2,3] rfl ?_;refine gp.e ((0,[]):Int×List gQ) (λy=>[(5,.ptr 1 0 0),(11,nZ y.2),(12,kE L),(13,.i y.1)]) (λy=>[.dead,.row 46 0 p.cells,.dead,.dead]) (λy=>0<=y.1/\y.1<=L.length/\(∀o,o∈y.2↔o∈(L.take y.1.toNat).filterMap (oz p.side))/\y.2.length<=y.1.toNat) (λy=>L.length-y.1.toNat) ?_ ?_
 .simp
 rintro⟨j,out⟩ ⟨j0,j1,j2,j3⟩;dsimp only at j0 j1 j2 j3 ⊢;simp;refine jT ?_ ?_<;>intro h
 .have hs:=gi _ (gA j0 ‹_›);have R:=hs.p.small hg;have W:=hs.p.size;have w:=hs.cur;have u:=hs.kind;have V:=hg.kinds;generalize C:gt L j=s at *;refine jT ?_ ?_<;>intro h
  .have q:=iC (l:=s.p.cs) (n:=s.cur) (v:=1+2*s.kind+p.side) w.1 (by omega);refine Yn (Xh s.p R) ?_;simp;refine Yt (f156 (k:=s.kind) (s:=p.side) u.1 (by omega) a.1 a.2) ?_;simp[q];refine jD q ?_;generalize d:({ p:=⟨pt s.p.cs s.cur (1+2*s.kind+p.side),s.p.h0,s.p.h1,s.p.gM,1-p.side⟩,jM:=s.jM }:gQ)=o;have A:oz p.side s=some o:=by rw[oz,if_pos ‹_›,<-d];rfl
   have E:Small o.p:=iz.small hg (NH hs a.1 a.2 A)
   have H:∀o∈out,Small o.p:=λo d=>by obtain⟨t,e,K⟩:=cY.1 ((j2 o).1 d);exact iz.small hg (NH (gi t (aN e)) a.1 a.2 K)
   have c2:=f195 out o (by omega) H E;rw[<-d]at c2;refine gx.q rfl rfl c2 (by simp) (λ_=>by simp) ?_;intro r B;simp;rw[d]at B;refine gf ?_;refine LJ.e (j+1,r) ?_;refine⟨by dsimp only;omega,by dsimp only;omega,by dsimp only;omega,λx=>?_,by dsimp only;omega⟩;rw[B.1,j2,jn j0 ‹_›,C];simp[A,eq_comm]
  .refine gf ?_;refine LJ.e (j+1,out) ?_;refine⟨by dsimp only;omega,by dsimp only;omega,by dsimp only;omega,λx=>?_,by dsimp only;omega⟩;rw[j2,jn j0 ‹_›,C];have:oz p.side s=none:=by rw[oz,if_neg ‹_›]
   simp[this]
 .rw[lr (by omega)]at j2;refine⟨out,rfl,λo=>?_,?_⟩
  .rw[j2,vh];simp only[cY,z]
  .omega
