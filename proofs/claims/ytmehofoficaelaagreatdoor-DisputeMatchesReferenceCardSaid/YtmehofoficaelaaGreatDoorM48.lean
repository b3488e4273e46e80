/- Part 48 of DisputeMatchesReference. -/
import Derived.Test.YtmehofoficaelaaGreatDoorM47
set_option linter.all false
namespace Go.Proofs.YtmehofoficaelaaGreatDoor
open Go.ChangeShapes Go.WideShapes Go.ChangeAt Go.RowKit Go.AL
set_option maxRecDepth 100000
def aeE{W:World}(h:laidMetH Tryz.prog Rows.disputeMatchesReferenceRow.laid W):gL (Go.Proofs.YtmehofoficaelaaGreatDoor.gl Tryz.prog) { ι:=λ_ _=>none,F:=(· < W.heap.size),RT:=(Go.Proofs.YtmehofoficaelaaGreatDoor.gl Tryz.prog).rt } [] W:=by
 obtain⟨k,s,c2,r⟩:=table h;have f:=aby h (n:="skewer/hash.begin") (b:=1) (t:=323) (m:=8) (l:=EW) gw gw gw gw Tryz.underlying323 gw gw;have c:=aby h (n:="skewer/hash.keys") (b:=2) (t:=375) (m:=64) (l:=E0) gw gw gw gw Tryz.underlying375 gw gw;have q:EW=(Gy EW).map λz=>.val (.int .u32 z):=gw;have p:E0=(Gy E0).map λz=>.val (.int .u32 z):=gw;refine⟨⟨?_,?_,?_,λb h=>h,λ_ _ _=>rfl,λ_ _ _ h=>by simp at h,λv o h=>by simp at h⟩,λg cs hg=>?_,rfl⟩
 .rintro v v' L u ⟨o,h,_⟩;simp at h
 .rintro b ⟨v,L,⟨o,h,_⟩,_⟩;simp at h
 .rintro b ⟨v,L,⟨o,h,_⟩,_⟩;simp at h
 .unfold Go.Proofs.YtmehofoficaelaaGreatDoor.gl at hg;dsimp only at hg;unfold R2 at hg;split at hg
  .rename_i e;cases hg;subst e;refine⟨rfl,.gH 0 0 _ (λi=>[Value.nilFunc,.func (.func 364) #[] #[],.func (.func 366) #[] #[],.func (.func 367) #[] #[]].getD i undef) (NL k) (λj d a=>?_) (λj d a=>?_)⟩
   .match j,a with
    | 0,_=>exact⟨k,rfl⟩
    | 1,_=>exact⟨s,rfl⟩
    | 2,_=>exact⟨c2,rfl⟩
    | 3,_=>exact⟨r,rfl⟩
    | j+4,a=>simp at a
   .match j,a with
    | 0,a=>cases a;exact .val _
    | 1,a=>cases a;exact .fn _ [] [] _ _ rfl rfl (λi v d h=>by simp at h) (λi v d h=>by simp at h)
    | 2,a=>cases a;exact .fn _ [] [] _ _ rfl rfl (λi v d h=>by simp at h) (λi v d h=>by simp at h)
    | 3,a=>cases a;exact .fn _ [] [] _ _ rfl rfl (λi v d h=>by simp at h) (λi v d h=>by simp at h)
    | j+4,a=>simp at a
  .split at hg
   .rename_i e;cases hg;subst e;refine⟨gw,?_⟩;rw[q];exact acd (NL (v:=.int .u32 1779033703) ((f 0).trans gw)) f
   .split at hg
    .rename_i e;cases hg;subst e;refine⟨gw,?_⟩;rw[p];exact acd (NL (v:=.int .u32 1116352408) ((c 0).trans gw)) c
    .cases hg
def V4{v:Value}{n:Nat}(h:v.cells.toList.length=n)(a:n≠1):∃cs:Array Value,v = .agg cs/\v.cells=cs:=by cases v<;>first|exact⟨_,rfl,rfl⟩|(exfalso;apply a;rw[<-h];rfl)
def called{H:Type}{enc:TypeId×Value->H}{W:World}(T:laidMetH Tryz.prog Rows.disputeMatchesReferenceRow.laid W){v0:Value}{d0:DataW H}{G:List MemPlace}{q:Value}{d1:DataW H}{E:List MemPlace}{a:Option Addr}{l2 c2:Nat}{d2:DataW H}{D:List MemPlace}
  (h0:DataW.Trod enc Tryz.prog W 0 (λ_=>true) true 32 v0 d0 G)
  (h1:DataW.Trod enc Tryz.prog W 0 (λ_=>true) true 77 q d1 E)
  (m:DataW.Trod enc Tryz.prog W 0 (λ_=>true) true 78 (.slice a l2 c2) d2 D) :
  Calls Tryz.prog 4 #[v0,q,.slice a l2 c2] W λe w=>e = .returned (.bool true)/\Below W.heap.size W w:=by
 obtain⟨m0,h0⟩:=h0;have k0:=Hz 20 32 _ ad2 _ _ _ h0;obtain⟨m1,h1⟩:=h1;have k1:=Hz 20 77 _ ad3 _ _ _ h1;obtain⟨m2,m⟩:=m;have k2:=Hz 20 78 _ ad4 _ _ _ m;have gu:=aeE T;generalize z:({ ι:=λ_ _=>none,F:=(· < W.heap.size),RT:=(Go.Proofs.YtmehofoficaelaaGreatDoor.gl Tryz.prog).rt }:Ctx)=c at gu;have l:∀b,b<W.heap.size->c.F b:=λb i=>by subst z;exact i
 obtain⟨a0,f0,g⟩:=Qc (c:=c) l k0;obtain⟨n,rfl,Y⟩:=V4 k0.1.symm jr;rw[Y]at g;obtain⟨x,rfl,J⟩:=adM f0
 have C:gq c W (.agg n) (.agg x.cells):=by have:=gq.agg n.toList x.cells g.len g.one g.rep;simpa using this
 obtain⟨a',f1,f⟩:=Qc (c:=c) l k1;obtain⟨p,rfl,X⟩:=V4 k1.1.symm jr;rw[X]at f;obtain⟨ws,K,y,t,s,r,rfl,FJ,U,R,Q,i,P⟩:=aoD f1
 have B:gq c W (.agg p) (.agg [.sl 5 (ws.map f5),.val (.int .u8 K),.val (.int .u8 y),.val (.int .u8 t),.val (.int .u8 s),.val (.int .u8 r)]):=by have:=gq.agg p.toList _ f.len f.one f.rep;simpa using this
 obtain⟨Z,f2,V⟩:=Qc (c:=c) l k2;obtain⟨e2,y2,rfl,w2,z2⟩:=f2.cons;obtain rfl:=z2.done;obtain⟨u,rfl,L⟩:=adI w2;have A:gq c W (.slice a l2 c2) (.sl 2 (u.map AM)):=V.rep 0 _ _ rfl rfl;have I:wR Tryz.prog _ 4 _ [] _:=agW mixed ap6 (afa x J ws FJ K y t s r U R Q i P u L);refine(I c W [.agg n,.agg p,.slice a l2 c2] gu (.cons C (.cons B (.cons A .nil)))).mono λe w O=>?_;obtain⟨v,c',d,H',rfl,S,_,tS,M,hs⟩:=O;obtain⟨d',Hd,j,rfl,rfl⟩:=S;cases j;cases M;refine⟨rfl,hs.os.1,hs.tape,hs.output,hs.size,λk N=>hs.kept k N ?_⟩;rintro⟨_,_,⟨o,h,_⟩,_⟩;simp at h
def lifted(os:Os)(a:os.Started)(H:Type)(enc:TypeId×Value->H) :
  ReturnsInHanded {} Tryz.checked os 4 .any (λw args=>(Rows.disputeMatchesReferenceSpec.pre enc Tryz.prog Tryz.f4 [] false w args/\laidMetH Tryz.prog Rows.disputeMatchesReferenceRow.laid w)/\sizedMet enc Tryz.prog Tryz.f4 (OpenSpec.ofChange Rows.disputeMatchesReferenceSpec) false w args)
   (Rows.disputeMatchesReferenceSpec.post enc Tryz.prog Tryz.f4 false true false false):=by
 refine returnsInHanded_of_change_and (C:=Tryz.checked) (X:=λw _=>laidMetH Tryz.prog Rows.disputeMatchesReferenceRow.laid w) (λ_ _ _ z h=>h.of_heap z) own a gw Tryz.func4
  (ChangeSpec.witness_shaped (enc:=enc) (C:=Tryz.checked) (os:=os) (X:=λw _=>laidMetH Tryz.prog Rows.disputeMatchesReferenceRow.laid w) false (World.doorLaid Tryz.prog 2000 os)
   #[.agg #[.int .u8 0,.int .u8 0,.int .u8 0,.slice none 0 0,.slice none 0 0,.slice none 0 0,.int .u8 0,.int .u8 0,.int .u8 0,.int .u8 0,.int .u8 0,.int .u8 0,.int .u8 0,.int .u8 0,.int .u8 0,.int .u8 0,.int .u8 0,.int .u8 0,.int .u8 0,.int .u8 0,.int .u8 0,.int .u8 0,.int .u8 0,.int .u8 0,.int .u8 0,.int .u8 0,.int .u8 0,.int .u8 0,.int .u8 0,.int .u8 0,.slice none 0 0],
    .agg #[.slice none 0 0,.int .u8 0,.int .u8 0,.int .u8 0,.int .u8 0,.int .u8 0],
    .slice none 0 0] 20 rfl (World.shaped_of_RefB gw gw) gw gw gw (aeT os _)) ?_
 intro W base args ds I f c o _ _ D _;have i:∀(j:Nat) t v,Tryz.f4.params[j]? = some t->args[j]? = some v->Value.okWide Tryz.prog W .any base t v:=c;have u:=o;obtain⟨p,q,n,hV,rfl,A,G⟩:=o;have r:DataW.TrodAll enc Tryz.prog W 0 (λ_=>true) true Tryz.f4.params.toList args.toList ds p:=n;rw[Tryz.params4]at r i;obtain⟨v0,E,y,d0,d1,d2,m,l,k,rfl,rfl,rfl,h0,h1,s⟩:=trodAll_three r;obtain⟨rfl,rfl⟩:=trodVars_none hV;obtain⟨F,l2,c2,rfl⟩:=okWide_slice Tryz.underlying78 (i 2 78 y rfl rfl);clear n c;refine(called D h0 h1 s).mono λe J ⟨B,d⟩=>?_;subst B;have g:∀x∈m++l ++ k ++ [],x.block<W.heap.size:=u.lt;refine⟨_,rfl,_,_,_,[],m++(l ++ k),[],u,trodAll_mk1 (shut_bool Tryz.underlying4 _),?_,?_,?_,λh=>by cases h⟩
 .have:=trodAll_mk3 (Below.trod laidOut gw (of_decide_eq_true gw) h0 d λx b=>g x (by simp[b]))
   (Below.trod laidOut gw (of_decide_eq_true gw) h1 d λx b=>g x (by simp[b]))
   (Below.trod laidOut gw (of_decide_eq_true gw) s d λx b=>g x (by simp[b]))
  exact this
 .rfl
 .exact d.frame _
