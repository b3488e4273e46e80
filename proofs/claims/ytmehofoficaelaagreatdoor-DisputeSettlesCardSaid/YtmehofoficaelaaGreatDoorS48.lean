/- Part 48 of DisputeSettles. -/
import Derived.Test.YtmehofoficaelaaGreatDoorS47
set_option linter.all false
namespace Go.Proofs.YtmehofoficaelaaGreatDoor
open Go.ChangeShapes Go.WideShapes Go.ChangeAt Go.RowKit Go.AL
set_option maxRecDepth 100000
def ad2{W:World}(h:laidMetH Tryz.prog Rows.disputeSettlesRow.laid W):gE (Go.Proofs.YtmehofoficaelaaGreatDoor.gl Tryz.prog) { ι:=λ_ _=>none,F:=(· < W.heap.size),RT:=(Go.Proofs.YtmehofoficaelaaGreatDoor.gl Tryz.prog).rt } [] W:=by
 obtain⟨k,s,c2,r⟩:=table h;have f:=aaD h (n:="skewer/hash.begin") (b:=1) (t:=323) (m:=8) (l:=DX) (by kernel_rfl) (by kernel_rfl) (by kernel_rfl) (by kernel_rfl) Tryz.underlying323 (by kernel_rfl) (by kernel_rfl);have c:=aaD h (n:="skewer/hash.keys") (b:=2) (t:=375) (m:=64) (l:=D7) (by kernel_rfl) (by kernel_rfl) (by kernel_rfl) (by kernel_rfl) Tryz.underlying375 (by kernel_rfl) (by kernel_rfl);have q:DX=(FE DX).map λz=>.val (.int .u32 z):=by kernel_rfl
 have p:D7=(FE D7).map λz=>.val (.int .u32 z):=by kernel_rfl
 refine⟨⟨?_,?_,?_,λb h=>h,λ_ _ _=>rfl,λ_ _ _ h=>by simp at h,λv o h=>by simp at h⟩,λg cs hg=>?_,rfl⟩
 .rintro v v' L u ⟨o,h,_⟩;simp at h
 .rintro b ⟨v,L,⟨o,h,_⟩,_⟩;simp at h
 .rintro b ⟨v,L,⟨o,h,_⟩,_⟩;simp at h
 .unfold Go.Proofs.YtmehofoficaelaaGreatDoor.gl at hg;dsimp only at hg;unfold Ro at hg;split at hg
  .rename_i e;cases hg;subst e;refine⟨rfl,.gC 0 0 _ (λi=>[Value.nilFunc,.func (.func 364) #[] #[],.func (.func 366) #[] #[],.func (.func 367) #[] #[]].getD i undef) (M1 k) (λj d a=>?_) (λj d a=>?_)⟩
   .match j,a with
    | 0,_=>exact⟨k,rfl⟩
    | 1,_=>exact⟨s,rfl⟩
    | 2,_=>exact⟨c2,rfl⟩
    | 3,_=>exact⟨r,rfl⟩
    | j+4,a=>simp at a
   .match j,a with
    | 0,a=>cases a;exact .val _
    | 1,a=>cases a;exact .fn _ [] [] _ _ rfl rfl (λi v d h=>by simp at h) (λi v d h=>by simp at h)
    | 2,a=>cases a;exact .fn _ [] [] _ _ rfl rfl (λi v d h=>by simp at h) (λi v d h=>by simp at h)
    | 3,a=>cases a;exact .fn _ [] [] _ _ rfl rfl (λi v d h=>by simp at h) (λi v d h=>by simp at h)
    | j+4,a=>simp at a
  .split at hg
   .rename_i e;cases hg;subst e;refine⟨by kernel_rfl,?_⟩;rw[q];exact abh (M1 (v:=.int .u32 1779033703) ((f 0).trans (by kernel_rfl))) f
   .split at hg
    .rename_i e;cases hg;subst e;refine⟨by kernel_rfl,?_⟩;rw[p];exact abh (M1 (v:=.int .u32 1116352408) ((c 0).trans (by kernel_rfl))) c
    .cases hg
def Vv{v:Value}{n:Nat}(h:v.cells.toList.length=n)(a:n≠1):∃cs:Array Value,v = .agg cs/\v.cells=cs:=by cases v<;>first|exact⟨_,rfl,rfl⟩|(exfalso;apply a;rw[<-h];rfl)
def called{H:Type}{enc:TypeId×Value->H}{W:World}(T:laidMetH Tryz.prog Rows.disputeSettlesRow.laid W){v0:Value}{d0:DataW H}{G:List MemPlace}{q:Value}{d1:DataW H}{E:List MemPlace}{a:Option Addr}{l2 c2:Nat}{d2:DataW H}{D:List MemPlace}
  (h0:DataW.Trod enc Tryz.prog W 0 (λ_=>true) true 32 v0 d0 G)
  (h1:DataW.Trod enc Tryz.prog W 0 (λ_=>true) true 77 q d1 E)
  (m:DataW.Trod enc Tryz.prog W 0 (λ_=>true) true 78 (.slice a l2 c2) d2 D) :
  Calls Tryz.prog 10 #[v0,q,.slice a l2 c2] W λe w=>e = .returned (.bool true)/\Below W.heap.size W w:=by
 obtain⟨m0,h0⟩:=h0;have k0:=Gv 20 32 _ ado _ _ _ h0;obtain⟨m1,h1⟩:=h1;have k1:=Gv 20 77 _ adp _ _ _ h1;obtain⟨m2,m⟩:=m;have k2:=Gv 20 78 _ adq _ _ _ m;have gi:=ad2 T;generalize C:({ ι:=λ_ _=>none,F:=(· < W.heap.size),RT:=(Go.Proofs.YtmehofoficaelaaGreatDoor.gl Tryz.prog).rt }:Ctx)=c at gi;have l:∀b,b<W.heap.size->c.F b:=λb i=>by subst C;exact i
 obtain⟨a0,f0,g⟩:=Pr (c:=c) l k0;obtain⟨n,rfl,Y⟩:=Vv k0.1.symm (by decide);rw[Y]at g;obtain⟨x,rfl,J⟩:=ac4 f0
 have B:gh c W (.agg n) (.agg x.cells):=by have:=gh.agg n.toList x.cells g.len g.one g.rep;simpa using this
 obtain⟨a',f1,f⟩:=Pr (c:=c) l k1;obtain⟨p,rfl,X⟩:=Vv k1.1.symm (by decide);rw[X]at f;obtain⟨ws,K,y,t,s,r,rfl,EH,U,R,Q,i,P⟩:=anW f1
 have A:gh c W (.agg p) (.agg [.sl 5 (ws.map f5),.val (.int .u8 K),.val (.int .u8 y),.val (.int .u8 t),.val (.int .u8 s),.val (.int .u8 r)]):=by have:=gh.agg p.toList _ f.len f.one f.rep;simpa using this
 obtain⟨Z,f2,V⟩:=Pr (c:=c) l k2;obtain⟨e2,y2,rfl,w2,z2⟩:=f2.cons;obtain rfl:=z2.done;obtain⟨u,rfl,L⟩:=ac0 w2;have z:gh c W (.slice a l2 c2) (.sl 2 (u.map zP)):=V.rep 0 _ _ rfl rfl;have I:vx Tryz.prog _ 10 _ [] _:=agd mixed apo (aex x J ws EH K y t s r U R Q i P u L);refine(I c W [.agg n,.agg p,.slice a l2 c2] gi (.cons B (.cons A (.cons z .nil)))).mono λe w O=>?_;obtain⟨v,c',d,H',rfl,S,_,sG,M,hs⟩:=O;obtain⟨d',Hd,j,rfl,rfl⟩:=S;cases j;cases M;refine⟨rfl,hs.os.1,hs.tape,hs.output,hs.size,λk N=>hs.kept k N ?_⟩;rintro⟨_,_,⟨o,h,_⟩,_⟩;simp at h
def lifted(os:Os)(a:os.Started)(H:Type)(enc:TypeId×Value->H) :
  ReturnsInHanded {} Tryz.checked os 10 .any (λw args=>(Rows.disputeSettlesSpec.pre enc Tryz.prog Tryz.f10 [] false w args/\laidMetH Tryz.prog Rows.disputeSettlesRow.laid w)/\sizedMet enc Tryz.prog Tryz.f10 (OpenSpec.ofChange Rows.disputeSettlesSpec) false w args)
   (Rows.disputeSettlesSpec.post enc Tryz.prog Tryz.f10 false true false false):=by
 refine returnsInHanded_of_change_and (C:=Tryz.checked) (X:=λw _=>laidMetH Tryz.prog Rows.disputeSettlesRow.laid w) (λ_ _ _ z h=>h.of_heap z) own a (by kernel_rfl) Tryz.func10
  (ChangeSpec.witness_shaped (enc:=enc) (C:=Tryz.checked) (os:=os) (X:=λw _=>laidMetH Tryz.prog Rows.disputeSettlesRow.laid w) false (World.doorLaid Tryz.prog 2000 os)
   #[.agg #[.int .u8 0,.int .u8 0,.int .u8 0,.slice none 0 0,.slice none 0 0,.slice none 0 0,.int .u8 0,.int .u8 0,.int .u8 0,.int .u8 0,.int .u8 0,.int .u8 0,.int .u8 0,.int .u8 0,.int .u8 0,.int .u8 0,.int .u8 0,.int .u8 0,.int .u8 0,.int .u8 0,.int .u8 0,.int .u8 0,.int .u8 0,.int .u8 0,.int .u8 0,.int .u8 0,.int .u8 0,.int .u8 0,.int .u8 0,.int .u8 0,.slice none 0 0],
    .agg #[.slice none 0 0,.int .u8 0,.int .u8 0,.int .u8 0,.int .u8 0,.int .u8 0],
    .slice none 0 0] 20 rfl (World.shaped_of_RefB (by kernel_rfl) (by kernel_rfl)) (by kernel_rfl) (by kernel_rfl) (by kernel_rfl) (aeh os _)) ?_
 intro W base args ds I d s n _ _ D _;have g:∀(j:Nat) t v,Tryz.f10.params[j]? = some t->args[j]? = some v->Value.okWide Tryz.prog W .any base t v:=s;have u:=n;obtain⟨p,q,m,hV,rfl,A,G⟩:=n;have o:DataW.TrodAll enc Tryz.prog W 0 (λ_=>true) true Tryz.f10.params.toList args.toList ds p:=m;rw[Tryz.params10]at o g;obtain⟨v0,E,y,d0,d1,d2,l,k,i,rfl,rfl,rfl,h0,h1,r⟩:=trodAll_three o;obtain⟨rfl,rfl⟩:=trodVars_none hV;obtain⟨F,l2,c2,rfl⟩:=okWide_slice Tryz.underlying78 (g 2 78 y rfl rfl);clear m s;refine(called D h0 h1 r).mono λe J ⟨B,c⟩=>?_;subst B;have f:∀x∈l++k ++ i ++ [],x.block<W.heap.size:=u.lt;refine⟨_,rfl,_,_,_,[],l++(k ++ i),[],u,trodAll_mk1 (shut_bool Tryz.underlying4 _),?_,?_,?_,λh=>by cases h⟩
 .have:=trodAll_mk3 (Below.trod laidOut (by kernel_rfl) (of_decide_eq_true (by kernel_rfl)) h0 c λx b=>f x (by simp[b]))
   (Below.trod laidOut (by kernel_rfl) (of_decide_eq_true (by kernel_rfl)) h1 c λx b=>f x (by simp[b]))
   (Below.trod laidOut (by kernel_rfl) (of_decide_eq_true (by kernel_rfl)) r c λx b=>f x (by simp[b]))
  exact this
 .rfl
 .exact c.frame _
