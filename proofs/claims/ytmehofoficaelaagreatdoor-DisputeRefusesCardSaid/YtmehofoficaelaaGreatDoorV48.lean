/- 48 -/
import Derived.Test.YtmehofoficaelaaGreatDoorV47
set_option linter.all false
namespace Go.Proofs.YtmehofoficaelaaGreatDoor
open Go.ChangeShapes Go.WideShapes Go.ChangeAt Go.RowKit Go.AL
set_option maxRecDepth 100000
def ac7{W:World}(h:laidMetH Tryz.prog Rows.disputeRefusesRow.laid W):gI (Go.Proofs.YtmehofoficaelaaGreatDoor.gl Tryz.prog) { ι:=λ_ _=>none,F:=(· < W.heap.size),RT:=(Go.Proofs.YtmehofoficaelaaGreatDoor.gl Tryz.prog).rt } [] W:=by
 obtain⟨k,s,c2,r⟩:=table h;have f:=ZT h (n:="skewer/hash.begin") (b:=1) (t:=323) (m:=8) (l:=DR) gu gu gu gu Tryz.underlying323 gu gu;have c:=ZT h (n:="skewer/hash.keys") (b:=2) (t:=375) (m:=64) (l:=DY) gu gu gu gu Tryz.underlying375 gu gu;have q:DR=(Fv DR).map λz=>.val (.int .u32 z):=gu;have p:DY=(Fv DY).map λz=>.val (.int .u32 z):=gu;refine⟨⟨?_,?_,?_,λb h=>h,λ_ _ _=>rfl,λ_ _ _ h=>by simp at h,λv o h=>by simp at h⟩,λg cs hg=>?_,rfl⟩
 .rintro v v' L u ⟨o,h,_⟩;simp at h
 .rintro b ⟨v,L,⟨o,h,_⟩,_⟩;simp at h
 .rintro b ⟨v,L,⟨o,h,_⟩,_⟩;simp at h
 .unfold Go.Proofs.YtmehofoficaelaaGreatDoor.gl at hg;dsimp only at hg;unfold QF at hg;split at hg
  .rename_i e;cases hg;subst e;refine⟨rfl,.gC 0 0 _ (λi=>[Value.nilFunc,.func (.func 364) #[] #[],.func (.func 366) #[] #[],.func (.func 367) #[] #[]].getD i undef) (Mx k) (λj d a=>?_) (λj d a=>?_)⟩
   .match j,a with
    | 0,_=>exact⟨k,rfl⟩
    | 1,_=>exact⟨s,rfl⟩
    | 2,_=>exact⟨c2,rfl⟩
    | 3,_=>exact⟨r,rfl⟩
    | j+4,a=>simp at a
   .match j,a with
    | 0,a=>cases a;exact .val _
    | 1,a=>cases a;exact .fn _ [] [] _ _ rfl rfl (λi v d h=>by simp at h) (λi v d h=>by simp at h)
    | 2,a=>cases a;exact .fn _ [] [] _ _ rfl rfl (λi v d h=>by simp at h) (λi v d h=>by simp at h)
    | 3,a=>cases a;exact .fn _ [] [] _ _ rfl rfl (λi v d h=>by simp at h) (λi v d h=>by simp at h)
    | j+4,a=>simp at a
  .split at hg
   .rename_i e;cases hg;subst e;refine⟨gu,?_⟩;rw[q];exact aaE (Mx (v:=.int .u32 1779033703) ((f 0).trans gu)) f
   .split at hg
    .rename_i e;cases hg;subst e;refine⟨gu,?_⟩;rw[p];exact aaE (Mx (v:=.int .u32 1116352408) ((c 0).trans gu)) c
    .cases hg
def UI{v:Value}{n:Nat}(h:v.cells.toList.length=n)(a:n≠1):∃cs:Array Value,v = .agg cs/\v.cells=cs:=by cases v<;>first|exact⟨_,rfl,rfl⟩|(exfalso;apply a;rw[<-h];rfl)
def called{H:Type}{enc:TypeId×Value->H}{W:World}(N:laidMetH Tryz.prog Rows.disputeRefusesRow.laid W){v0:Value}{d0:DataW H}{z:List MemPlace}{m:Value}{d1:DataW H}{y:List MemPlace}{n2:Int}
  (h0:DataW.Trod enc Tryz.prog W 0 (λ_=>true) true 32 v0 d0 z)
  (h1:DataW.Trod enc Tryz.prog W 0 (λ_=>true) true 77 m d1 y)
  (P:(Lit.int .i64 n2).wf=true) :
  Calls Tryz.prog 9 #[v0,m,.int .i64 n2] W λe s=>e = .returned (.bool true)/\Below W.heap.size W s:=by
 obtain⟨m0,h0⟩:=h0;have k0:=MC 20 32 _ acs _ _ _ h0;obtain⟨m1,h1⟩:=h1;have k1:=MC 20 77 _ acu _ _ _ h1;have gp:=ac7 N;generalize A:({ ι:=λ_ _=>none,F:=(· < W.heap.size),RT:=(Go.Proofs.YtmehofoficaelaaGreatDoor.gl Tryz.prog).rt }:Ctx)=c at gp;have r:∀b,b<W.heap.size->c.F b:=λb g=>by subst A;exact g
 obtain⟨T,f0,f⟩:=To (c:=c) r k0;obtain⟨j,rfl,R⟩:=UI k0.1.symm jh;rw[R]at f;obtain⟨x,rfl,C⟩:=aca f0
 have w:gj c W (.agg j) (.agg x.cells):=by have:=gj.agg j.toList x.cells f.len f.one f.rep;simpa using this
 obtain⟨S,f1,a⟩:=To (c:=c) r k1;obtain⟨l,rfl,Q⟩:=UI k1.1.symm jh;rw[Q]at a;obtain⟨ws,K,t,q,p,n,rfl,V,O,L,J,g,I⟩:=amV f1
 have u:gj c W (.agg l) (.agg [.sl 5 (ws.map f5),.val (.int .u8 K),.val (.int .u8 t),.val (.int .u8 q),.val (.int .u8 p),.val (.int .u8 n)]):=by have:=gj.agg l.toList _ a.len a.one a.rep;simpa using this
 have U: -9223372036854775808<=n2/\n2<=9223372036854775807:=by simp only[Lit.wf,ai,decide_eq_true_eq]at P;have q1:IntKind.i64.min= -9223372036854775808:=jh;have q2:IntKind.i64.max=9223372036854775807:=jh;omega
 have B:vc Tryz.prog _ 9 _ [] _:=afq mixed aom (adF x C ws V K t q p n O L J g I n2 U);refine(B c W [.agg j,.agg l,.int .i64 n2] gp (.cons w (.cons u (.cons (.val _) .nil)))).mono λe s G=>?_;obtain⟨v,c',d,H',rfl,M,_,X,D,hs⟩:=G;obtain⟨d',Y,i,rfl,rfl⟩:=M;cases i;cases D;refine⟨rfl,hs.os.1,hs.tape,hs.output,hs.size,λk E=>hs.kept k E ?_⟩;rintro⟨_,_,⟨o,h,_⟩,_⟩;simp at h
def lifted(os:Os)(a:os.Started)(H:Type)(enc:TypeId×Value->H) :
  ReturnsInHanded {} Tryz.checked os 9 .any (λw args=>(Rows.disputeRefusesSpec.pre enc Tryz.prog Tryz.f9 [] false w args/\laidMetH Tryz.prog Rows.disputeRefusesRow.laid w)/\sizedMet enc Tryz.prog Tryz.f9 (OpenSpec.ofChange Rows.disputeRefusesSpec) false w args)
   (Rows.disputeRefusesSpec.post enc Tryz.prog Tryz.f9 false true false false):=by
 refine returnsInHanded_of_change_and (C:=Tryz.checked) (X:=λw _=>laidMetH Tryz.prog Rows.disputeRefusesRow.laid w) (λ_ _ _ u h=>h.of_heap u) own a gu Tryz.func9
  (ChangeSpec.witness_shaped (enc:=enc) (C:=Tryz.checked) (os:=os) (X:=λw _=>laidMetH Tryz.prog Rows.disputeRefusesRow.laid w) false (World.doorLaid Tryz.prog 2000 os)
   #[.agg #[.int .u8 0,.int .u8 0,.int .u8 0,.slice none 0 0,.slice none 0 0,.slice none 0 0,.int .u8 0,.int .u8 0,.int .u8 0,.int .u8 0,.int .u8 0,.int .u8 0,.int .u8 0,.int .u8 0,.int .u8 0,.int .u8 0,.int .u8 0,.int .u8 0,.int .u8 0,.int .u8 0,.int .u8 0,.int .u8 0,.int .u8 0,.int .u8 0,.int .u8 0,.int .u8 0,.int .u8 0,.int .u8 0,.int .u8 0,.int .u8 0,.slice none 0 0],
    .agg #[.slice none 0 0,.int .u8 0,.int .u8 0,.int .u8 0,.int .u8 0,.int .u8 0],
    .int .i64 0] 20 rfl (World.shaped_of_RefB gu gu) gu gu gu (adp os _)) ?_
 intro W base args ds I c r m _ _ A _;have g:∀(j:Nat) t v,Tryz.f9.params[j]? = some t->args[j]? = some v->Value.okWide Tryz.prog W .any base t v:=r;have Xz:=m;obtain⟨p,q,l,z,rfl,J,G⟩:=m;have n:DataW.TrodAll enc Tryz.prog W 0 (λ_=>true) true Tryz.f9.params.toList args.toList ds p:=l;rw[Tryz.params9]at n g;obtain⟨v0,E,s,d0,d1,d2,k,i,F,rfl,rfl,rfl,h0,h1,B⟩:=trodAll_three n;obtain⟨rfl,rfl⟩:=trodVars_none z;obtain⟨n2,rfl,rfl,rfl,w2⟩:=open_int Tryz.underlying3 (g 2 3 s rfl rfl) B;clear l r;refine(called A h0 h1 w2).mono λe D ⟨y,f⟩=>?_;subst y;have o:∀x∈k++i ++ [] ++ [],x.block<W.heap.size:=Xz.lt;refine⟨_,rfl,_,_,_,[],k++(i ++ []),[],Xz,trodAll_mk1 (shut_bool Tryz.underlying4 _),?_,?_,?_,λh=>by cases h⟩
 .have:=trodAll_mk3 (Below.trod laidOut gu (of_decide_eq_true gu) h0 f λx d=>o x (by simp[d]))
   (Below.trod laidOut gu (of_decide_eq_true gu) h1 f λx d=>o x (by simp[d]))
   (shut_int (w:=D) (spare:=λb=>decide (b<W.heap.size)) (enc:=enc) (base:=0) (held:=true) Tryz.underlying3 w2)
  exact this
 .rfl
 .exact f.frame _
