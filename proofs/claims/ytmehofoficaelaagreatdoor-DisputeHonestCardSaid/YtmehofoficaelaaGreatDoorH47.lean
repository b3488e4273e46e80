/- Part 47 of DisputeHonest. -/
import Derived.Test.YtmehofoficaelaaGreatDoorH46
set_option linter.all false
namespace Go.Proofs.YtmehofoficaelaaGreatDoor
open Go.ChangeShapes Go.WideShapes Go.ChangeAt Go.RowKit Go.AL
set_option maxRecDepth 100000
theorem Z3{W:World}(h:laidMetH Tryz.prog Rows.disputeHonestRow.laid W):fO (Go.Proofs.YtmehofoficaelaaGreatDoor.gl Tryz.prog) { ι:=λ_ _=>none,F:=(· < W.heap.size),RT:=(Go.Proofs.YtmehofoficaelaaGreatDoor.gl Tryz.prog).rt } [] W:=by
 obtain⟨k,s,c2,r⟩:=table h;have f:=WA h (n:="skewer/hash.begin") (b:=1) (t:=323) (m:=8) (l:=BN) (by kernel_rfl) (by kernel_rfl) (by kernel_rfl) (by kernel_rfl) Tryz.underlying323 (by kernel_rfl) (by kernel_rfl);have c:=WA h (n:="skewer/hash.keys") (b:=2) (t:=375) (m:=64) (l:=BV) (by kernel_rfl) (by kernel_rfl) (by kernel_rfl) (by kernel_rfl) Tryz.underlying375 (by kernel_rfl) (by kernel_rfl);have q:BN=(C5 BN).map λz=>.val (.int .u32 z):=by kernel_rfl
 have p:BV=(C5 BV).map λz=>.val (.int .u32 z):=by kernel_rfl
 refine⟨⟨?_,?_,?_,λb h=>h,λ_ _ _=>rfl,λ_ _ _ h=>by simp at h,λv o h=>by simp at h⟩,λg cs hg=>?_,rfl⟩
 .rintro v v' L u ⟨o,h,_⟩;simp at h
 .rintro b ⟨v,L,⟨o,h,_⟩,_⟩;simp at h
 .rintro b ⟨v,L,⟨o,h,_⟩,_⟩;simp at h
 .unfold Go.Proofs.YtmehofoficaelaaGreatDoor.gl at hg;dsimp only at hg;unfold NZ at hg;split at hg
  .rename_i e;cases hg;subst e;refine⟨rfl,.fH 0 0 _ (λi=>[Value.nilFunc,.func (.func 364) #[] #[],.func (.func 366) #[] #[],.func (.func 367) #[] #[]].getD i undef) (JT k) (λj d a=>?_) (λj d a=>?_)⟩
   .match j,a with
    | 0,_=>exact⟨k,rfl⟩
    | 1,_=>exact⟨s,rfl⟩
    | 2,_=>exact⟨c2,rfl⟩
    | 3,_=>exact⟨r,rfl⟩
    | j+4,a=>simp at a
   .match j,a with
    | 0,a=>cases a;exact .val _
    | 1,a=>cases a;exact .fn _ [] [] _ _ rfl rfl (λi v d h=>by simp at h) (λi v d h=>by simp at h)
    | 2,a=>cases a;exact .fn _ [] [] _ _ rfl rfl (λi v d h=>by simp at h) (λi v d h=>by simp at h)
    | 3,a=>cases a;exact .fn _ [] [] _ _ rfl rfl (λi v d h=>by simp at h) (λi v d h=>by simp at h)
    | j+4,a=>simp at a
  .split at hg
   .rename_i e;cases hg;subst e;refine⟨by kernel_rfl,?_⟩;rw[q];exact Xm (JT (v:=.int .u32 1779033703) ((f 0).trans (by kernel_rfl))) f
   .split at hg
    .rename_i e;cases hg;subst e;refine⟨by kernel_rfl,?_⟩;rw[p];exact Xm (JT (v:=.int .u32 1116352408) ((c 0).trans (by kernel_rfl))) c
    .cases hg
theorem R6{v:Value}{n:Nat}(h:v.cells.toList.length=n)(a:n≠1):∃cs:Array Value,v = .agg cs/\v.cells=cs:=by cases v<;>first|exact⟨_,rfl,rfl⟩|(exfalso;apply a;rw[<-h];rfl)
theorem called{H:Type}{enc:TypeId×Value->H}{W:World}(M:laidMetH Tryz.prog Rows.disputeHonestRow.laid W){v0 n:Value}{d0 d1:DataW H}{A z:List MemPlace}
  (h0:DataW.Trod enc Tryz.prog W 0 (λ_=>true) true 32 v0 d0 A) (h1:DataW.Trod enc Tryz.prog W 0 (λ_=>true) true 77 n d1 z) :
  Calls Tryz.prog 5 #[v0,n] W λe t=>e = .returned (.bool true)/\Below W.heap.size W t:=by
 obtain⟨m0,h0⟩:=h0;obtain⟨m1,h1⟩:=h1;have k0:=JY 20 32 _ Zr _ _ _ h0;have k1:=JY 20 77 _ Zs _ _ _ h1;have ft:=Z3 M;generalize g:({ ι:=λ_ _=>none,F:=(· < W.heap.size),RT:=(Go.Proofs.YtmehofoficaelaaGreatDoor.gl Tryz.prog).rt }:Ctx)=c at ft;have s:∀b,b<W.heap.size->c.F b:=λb i=>by subst g;exact i
 obtain⟨R,f0,f⟩:=Qy (c:=c) s k0;obtain⟨Q,f1,a⟩:=Qy (c:=c) s k1;obtain⟨l,rfl,P⟩:=R6 k0.1.symm (by decide);obtain⟨m,rfl,O⟩:=R6 k1.1.symm (by decide);rw[P]at f;rw[O]at a;obtain⟨x,rfl,C⟩:=Y8 f0;obtain⟨ws,K,u,r,q,p,rfl,S,N,J,I,i,g⟩:=aju f1
 have y:fr c W (.agg l) (.agg x.cells):=by have:=fr.agg l.toList x.cells f.len f.one f.rep;simpa using this
 have w:fr c W (.agg m) (.agg [.sl 5 (ws.map f5),.val (.int .u8 K),.val (.int .u8 u),.val (.int .u8 r),.val (.int .u8 q),.val (.int .u8 p)]):=by have:=fr.agg m.toList _ a.len a.one a.rep;simpa using this
 have B:tE Tryz.prog _ 5 _ [] _:=ab7 mixed akN (aax x C ws S K u r q p N J I i g);refine(B c W [.agg l,.agg m] ft (.cons y (.cons w .nil))).mono λe t G=>?_;obtain⟨v,c',d,H',rfl,L,_,T,D,hs⟩:=G;obtain⟨d',U,j,rfl,rfl⟩:=L;cases j;cases D;refine⟨rfl,hs.os.1,hs.tape,hs.output,hs.size,λk E=>hs.kept k E ?_⟩;rintro⟨_,_,⟨o,h,_⟩,_⟩;simp at h
theorem lifted(os:Os)(a:os.Started)(H:Type)(enc:TypeId×Value->H) :
  ReturnsInHanded {} Tryz.checked os 5 .any (λw args=>(Rows.disputeHonestSpec.pre enc Tryz.prog Tryz.f5 [] false w args/\laidMetH Tryz.prog Rows.disputeHonestRow.laid w)/\sizedMet enc Tryz.prog Tryz.f5 (OpenSpec.ofChange Rows.disputeHonestSpec) false w args)
   (Rows.disputeHonestSpec.post enc Tryz.prog Tryz.f5 false true false false):=by
 refine returnsInHanded_of_change_and (C:=Tryz.checked) (X:=λw _=>laidMetH Tryz.prog Rows.disputeHonestRow.laid w) (λ_ _ _ s h=>h.of_heap s) own a (by kernel_rfl) Tryz.func5
  (ChangeSpec.witness_shaped (enc:=enc) (C:=Tryz.checked) (os:=os) (X:=λw _=>laidMetH Tryz.prog Rows.disputeHonestRow.laid w) false (World.doorLaid Tryz.prog 2000 os)
   #[.agg #[.int .u8 0,.int .u8 0,.int .u8 0,.slice none 0 0,.slice none 0 0,.slice none 0 0,.int .u8 0,.int .u8 0,.int .u8 0,.int .u8 0,.int .u8 0,.int .u8 0,.int .u8 0,.int .u8 0,.int .u8 0,.int .u8 0,.int .u8 0,.int .u8 0,.int .u8 0,.int .u8 0,.int .u8 0,.int .u8 0,.int .u8 0,.int .u8 0,.int .u8 0,.int .u8 0,.int .u8 0,.int .u8 0,.int .u8 0,.int .u8 0,.slice none 0 0],
    .agg #[.slice none 0 0,.int .u8 0,.int .u8 0,.int .u8 0,.int .u8 0,.int .u8 0]] 20 rfl (World.shaped_of_RefB (by kernel_rfl) (by kernel_rfl)) (by kernel_rfl) (by kernel_rfl) (by kernel_rfl) (aah os _)) ?_
 intro W base args ds D b n k _ _ z _;have r:∀(j:Nat) t v,Tryz.f5.params[j]? = some t->args[j]? = some v->Value.okWide Tryz.prog W .any base t v:=n;have o:=k;obtain⟨p,q,i,hV,rfl,u,B⟩:=k;have l:DataW.TrodAll enc Tryz.prog W 0 (λ_=>true) true Tryz.f5.params.toList args.toList ds p:=i;rw[Tryz.params5]at l r;obtain⟨v0,A,d0,d1,g,f,rfl,rfl,rfl,h0,h1⟩:=trodAll_two l;obtain⟨rfl,rfl⟩:=trodVars_none hV;clear i n;refine(called z h0 h1).mono λe E ⟨y,d⟩=>?_;subst y;have m:∀x∈g++f ++ [],x.block<W.heap.size:=o.lt;refine⟨_,rfl,_,_,_,[],g++f,[],o,trodAll_mk1 (shut_bool Tryz.underlying4 _),?_,?_,?_,λh=>by cases h⟩
 .have:=trodAll_mk2 (Below.trod laidOut (by kernel_rfl) (of_decide_eq_true (by kernel_rfl)) h0 d λx c=>m x (by simp[c]))
   (Below.trod laidOut (by kernel_rfl) (of_decide_eq_true (by kernel_rfl)) h1 d λx c=>m x (by simp[c]))
  exact this
 .rfl
 .exact d.frame _
