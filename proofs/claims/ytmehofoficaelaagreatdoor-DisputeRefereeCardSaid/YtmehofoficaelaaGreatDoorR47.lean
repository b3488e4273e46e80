/- Part 47 of DisputeReferee. -/
import Derived.Test.YtmehofoficaelaaGreatDoorR46
set_option linter.all false
namespace Go.Proofs.YtmehofoficaelaaGreatDoor
open Go.ChangeShapes Go.WideShapes Go.ChangeAt Go.RowKit Go.AL
set_option maxRecDepth 100000
theorem aaF{W:World}(h:laidMetH Tryz.prog Rows.disputeRefereeRow.laid W):gf (Go.Proofs.YtmehofoficaelaaGreatDoor.gl Tryz.prog) { ι:=λ_ _=>none,F:=(· < W.heap.size),RT:=(Go.Proofs.YtmehofoficaelaaGreatDoor.gl Tryz.prog).rt } [] W:=by
 obtain⟨k,s,c2,r⟩:=table h;have f:=W5 h (n:="skewer/hash.begin") (b:=1) (t:=323) (m:=8) (l:=Cj) (by kernel_rfl) (by kernel_rfl) (by kernel_rfl) (by kernel_rfl) Tryz.underlying323 (by kernel_rfl) (by kernel_rfl);have c:=W5 h (n:="skewer/hash.keys") (b:=2) (t:=375) (m:=64) (l:=Cr) (by kernel_rfl) (by kernel_rfl) (by kernel_rfl) (by kernel_rfl) Tryz.underlying375 (by kernel_rfl) (by kernel_rfl);have q:Cj=(DE Cj).map λz=>.val (.int .u32 z):=by kernel_rfl
 have p:Cr=(DE Cr).map λz=>.val (.int .u32 z):=by kernel_rfl
 refine⟨⟨?_,?_,?_,λb h=>h,λ_ _ _=>rfl,λ_ _ _ h=>by simp at h,λv o h=>by simp at h⟩,λg cs hg=>?_,rfl⟩
 .rintro v v' L u ⟨o,h,_⟩;simp at h
 .rintro b ⟨v,L,⟨o,h,_⟩,_⟩;simp at h
 .rintro b ⟨v,L,⟨o,h,_⟩,_⟩;simp at h
 .unfold Go.Proofs.YtmehofoficaelaaGreatDoor.gl at hg;dsimp only at hg;unfold Ot at hg;split at hg
  .rename_i e;cases hg;subst e;refine⟨rfl,.fV 0 0 _ (λi=>[Value.nilFunc,.func (.func 364) #[] #[],.func (.func 366) #[] #[],.func (.func 367) #[] #[]].getD i undef) (Kj k) (λj d a=>?_) (λj d a=>?_)⟩
   .match j,a with
    | 0,_=>exact⟨k,rfl⟩
    | 1,_=>exact⟨s,rfl⟩
    | 2,_=>exact⟨c2,rfl⟩
    | 3,_=>exact⟨r,rfl⟩
    | j+4,a=>simp at a
   .match j,a with
    | 0,a=>cases a;exact .val _
    | 1,a=>cases a;exact .fn _ [] [] _ _ rfl rfl (λi v d h=>by simp at h) (λi v d h=>by simp at h)
    | 2,a=>cases a;exact .fn _ [] [] _ _ rfl rfl (λi v d h=>by simp at h) (λi v d h=>by simp at h)
    | 3,a=>cases a;exact .fn _ [] [] _ _ rfl rfl (λi v d h=>by simp at h) (λi v d h=>by simp at h)
    | j+4,a=>simp at a
  .split at hg
   .rename_i e;cases hg;subst e;refine⟨by kernel_rfl,?_⟩;rw[q];exact XV (Kj (v:=.int .u32 1779033703) ((f 0).trans (by kernel_rfl))) f
   .split at hg
    .rename_i e;cases hg;subst e;refine⟨by kernel_rfl,?_⟩;rw[p];exact XV (Kj (v:=.int .u32 1116352408) ((c 0).trans (by kernel_rfl))) c
    .cases hg
theorem Sx{v:Value}{n:Nat}(h:v.cells.toList.length=n)(a:n≠1):∃cs:Array Value,v = .agg cs/\v.cells=cs:=by cases v<;>first|exact⟨_,rfl,rfl⟩|(exfalso;apply a;rw[<-h];rfl)
theorem called{H:Type}{enc:TypeId×Value->H}{W:World}(O:laidMetH Tryz.prog Rows.disputeRefereeRow.laid W){v0 m:Value}{n:Int}{d0 d1:DataW H}{C B:List MemPlace}
  (h0:DataW.Trod enc Tryz.prog W 0 (λ_=>true) true 32 v0 d0 C) (h1:DataW.Trod enc Tryz.prog W 0 (λ_=>true) true 77 m d1 B) (I:(Lit.int .u8 n).wf=true) :
  Calls Tryz.prog 7 #[v0,m,.int .u8 n] W λe w=>e = .returned (.bool true)/\Below W.heap.size W w:=by
 obtain⟨m0,h0⟩:=h0;obtain⟨m1,h1⟩:=h1;have k0:=Kp 20 32 _ Z2 _ _ _ h0;have k1:=Kp 20 77 _ Z3 _ _ _ h1;have fG:=aaF O;generalize s:({ ι:=λ_ _=>none,F:=(· < W.heap.size),RT:=(Go.Proofs.YtmehofoficaelaaGreatDoor.gl Tryz.prog).rt }:Ctx)=c at fG;have u:∀b,b<W.heap.size->c.F b:=λb t=>by subst s;exact t
 obtain⟨T,f0,f⟩:=QZ (c:=c) u k0;obtain⟨S,f1,a⟩:=QZ (c:=c) u k1;obtain⟨j,rfl,R⟩:=Sx k0.1.symm (by decide);obtain⟨l,rfl,Q⟩:=Sx k1.1.symm (by decide);rw[R]at f;rw[Q]at a;obtain⟨x,rfl,E⟩:=ZD f0;obtain⟨ws,K,y,r,q,p,rfl,U,P,M,X,t,s⟩:=aj9 f1
 have A:fF c W (.agg j) (.agg x.cells):=by have:=fF.agg j.toList x.cells f.len f.one f.rep;simpa using this
 have z:fF c W (.agg l) (.agg [.sl 5 (ws.map f5),.val (.int .u8 K),.val (.int .u8 y),.val (.int .u8 r),.val (.int .u8 q),.val (.int .u8 p)]):=by have:=fF.agg l.toList _ a.len a.one a.rep;simpa using this
 have g:0<=n/\n<256:=by
  simp only[Lit.wf,Bool.and_eq_true,decide_eq_true_eq]at I;have q1:IntKind.u8.min=0:=by decide
  have q2:IntKind.u8.max=255:=by decide
  omega
 have D:tW Tryz.prog _ 7 _ [] _:=acP mixed alu (abb x E ws U K y r q p n P M g);refine(D c W [.agg j,.agg l,.int .u8 n] fG (.cons A (.cons z (.cons (.val _) .nil)))).mono λe w L=>?_;obtain⟨v,c',d,H',rfl,N,_,V,G,hs⟩:=L;obtain⟨d',Y,i,rfl,rfl⟩:=N;cases i;cases G;refine⟨rfl,hs.os.1,hs.tape,hs.output,hs.size,λk J=>hs.kept k J ?_⟩;rintro⟨_,_,⟨o,h,_⟩,_⟩;simp at h
theorem lifted(os:Os)(a:os.Started)(H:Type)(enc:TypeId×Value->H) :
  ReturnsInHanded {} Tryz.checked os 7 .any (λw args=>(Rows.disputeRefereeSpec.pre enc Tryz.prog Tryz.f7 [] false w args/\laidMetH Tryz.prog Rows.disputeRefereeRow.laid w)/\sizedMet enc Tryz.prog Tryz.f7 (OpenSpec.ofChange Rows.disputeRefereeSpec) false w args)
   (Rows.disputeRefereeSpec.post enc Tryz.prog Tryz.f7 false true false false):=by
 refine returnsInHanded_of_change_and (C:=Tryz.checked) (X:=λw _=>laidMetH Tryz.prog Rows.disputeRefereeRow.laid w) (λ_ _ _ z h=>h.of_heap z) own a (by kernel_rfl) Tryz.func7
  (ChangeSpec.witness_shaped (enc:=enc) (C:=Tryz.checked) (os:=os) (X:=λw _=>laidMetH Tryz.prog Rows.disputeRefereeRow.laid w) false (World.doorLaid Tryz.prog 2000 os)
   #[.agg #[.int .u8 0,.int .u8 0,.int .u8 0,.slice none 0 0,.slice none 0 0,.slice none 0 0,.int .u8 0,.int .u8 0,.int .u8 0,.int .u8 0,.int .u8 0,.int .u8 0,.int .u8 0,.int .u8 0,.int .u8 0,.int .u8 0,.int .u8 0,.int .u8 0,.int .u8 0,.int .u8 0,.int .u8 0,.int .u8 0,.int .u8 0,.int .u8 0,.int .u8 0,.int .u8 0,.int .u8 0,.int .u8 0,.int .u8 0,.int .u8 0,.slice none 0 0],
    .agg #[.slice none 0 0,.int .u8 0,.int .u8 0,.int .u8 0,.int .u8 0,.int .u8 0],.int .u8 0] 20 rfl (World.shaped_of_RefB (by kernel_rfl) (by kernel_rfl)) (by kernel_rfl) (by kernel_rfl) (by kernel_rfl) (aaU os _)) ?_
 intro W base args ds K c s m _ _ D _;have g:∀(j:Nat) t v,Tryz.f7.params[j]? = some t->args[j]? = some v->Value.okWide Tryz.prog W .any base t v:=s;have u:=m;obtain⟨p,q,l,hV,rfl,A,J⟩:=m;have o:DataW.TrodAll enc Tryz.prog W 0 (λ_=>true) true Tryz.f7.params.toList args.toList ds p:=l;rw[Tryz.params7]at o g;obtain⟨v0,G,y,d0,d1,d2,k,i,I,rfl,rfl,rfl,h0,h1,E⟩:=trodAll_three o;obtain⟨rfl,rfl⟩:=trodVars_none hV;obtain⟨n,rfl,rfl,rfl,wn⟩:=open_int Tryz.underlying5 (g 2 5 y rfl rfl) E;clear l s;refine(called D h0 h1 wn).mono λe F ⟨B,f⟩=>?_;subst B;have r:∀x∈k++i ++ [] ++ [],x.block<W.heap.size:=u.lt;refine⟨_,rfl,_,_,_,[],k++(i ++ []),[],u,trodAll_mk1 (shut_bool Tryz.underlying4 _),?_,?_,?_,λh=>by cases h⟩
 .have:=trodAll_mk3 (Below.trod laidOut (by kernel_rfl) (of_decide_eq_true (by kernel_rfl)) h0 f λx d=>r x (by simp[d]))
   (Below.trod laidOut (by kernel_rfl) (of_decide_eq_true (by kernel_rfl)) h1 f λx d=>r x (by simp[d]))
   (shut_int (w:=F) (spare:=λb=>decide (b<W.heap.size)) (enc:=enc) (base:=0) (held:=true) Tryz.underlying5 wn)
  exact this
 .rfl
 .exact f.frame _
