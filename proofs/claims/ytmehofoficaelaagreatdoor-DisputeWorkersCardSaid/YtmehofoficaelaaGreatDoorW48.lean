/- Part 48 of DisputeWorkers. -/
import Derived.Test.YtmehofoficaelaaGreatDoorW47
set_option linter.all false
namespace Go.Proofs.YtmehofoficaelaaGreatDoor
open Go.ChangeShapes Go.WideShapes Go.ChangeAt Go.RowKit Go.AL
set_option maxRecDepth 100000
theorem ac0{W:World}(h:laidMetH Tryz.prog Rows.disputeWorkersRow.laid W):gE (Go.Proofs.YtmehofoficaelaaGreatDoor.gl Tryz.prog) { ι:=λ_ _=>none,F:=(· < W.heap.size),RT:=(Go.Proofs.YtmehofoficaelaaGreatDoor.gl Tryz.prog).rt } [] W:=by
 obtain⟨k,s,c2,r⟩:=table h;have f:=ZL h (n:="skewer/hash.begin") (b:=1) (t:=323) (m:=8) (l:=DJ) (by kernel_rfl) (by kernel_rfl) (by kernel_rfl) (by kernel_rfl) Tryz.underlying323 (by kernel_rfl) (by kernel_rfl);have c:=ZL h (n:="skewer/hash.keys") (b:=2) (t:=375) (m:=64) (l:=DS) (by kernel_rfl) (by kernel_rfl) (by kernel_rfl) (by kernel_rfl) Tryz.underlying375 (by kernel_rfl) (by kernel_rfl);have q:DJ=(Ff DJ).map λz=>.val (.int .u32 z):=by kernel_rfl
 have p:DS=(Ff DS).map λz=>.val (.int .u32 z):=by kernel_rfl
 refine⟨⟨?_,?_,?_,λb h=>h,λ_ _ _=>rfl,λ_ _ _ h=>by simp at h,λv o h=>by simp at h⟩,λg cs hg=>?_,rfl⟩
 .rintro v v' L u ⟨o,h,_⟩;simp at h
 .rintro b ⟨v,L,⟨o,h,_⟩,_⟩;simp at h
 .rintro b ⟨v,L,⟨o,h,_⟩,_⟩;simp at h
 .unfold Go.Proofs.YtmehofoficaelaaGreatDoor.gl at hg;dsimp only at hg;unfold QB at hg;split at hg
  .rename_i e;cases hg;subst e;refine⟨rfl,.gu 0 0 _ (λi=>[Value.nilFunc,.func (.func 364) #[] #[],.func (.func 366) #[] #[],.func (.func 367) #[] #[]].getD i undef) (MB k) (λj d a=>?_) (λj d a=>?_)⟩
   .match j,a with
    | 0,_=>exact⟨k,rfl⟩
    | 1,_=>exact⟨s,rfl⟩
    | 2,_=>exact⟨c2,rfl⟩
    | 3,_=>exact⟨r,rfl⟩
    | j+4,a=>simp at a
   .match j,a with
    | 0,a=>cases a;exact .val _
    | 1,a=>cases a;exact .fn _ [] [] _ _ rfl rfl (λi v d h=>by simp at h) (λi v d h=>by simp at h)
    | 2,a=>cases a;exact .fn _ [] [] _ _ rfl rfl (λi v d h=>by simp at h) (λi v d h=>by simp at h)
    | 3,a=>cases a;exact .fn _ [] [] _ _ rfl rfl (λi v d h=>by simp at h) (λi v d h=>by simp at h)
    | j+4,a=>simp at a
  .split at hg
   .rename_i e;cases hg;subst e;refine⟨by kernel_rfl,?_⟩;rw[q];exact aas (MB (v:=.int .u32 1779033703) ((f 0).trans (by kernel_rfl))) f
   .split at hg
    .rename_i e;cases hg;subst e;refine⟨by kernel_rfl,?_⟩;rw[p];exact aas (MB (v:=.int .u32 1116352408) ((c 0).trans (by kernel_rfl))) c
    .cases hg
theorem abK{v:Value}{n:Nat}(h:v.cells.toList.length=n)(a:n≠1):∃cs:Array Value,v = .agg cs/\v.cells=cs:=by cases v<;>first|exact⟨_,rfl,rfl⟩|(exfalso;apply a;rw[<-h];rfl)
theorem called{H:Type}{enc:TypeId×Value->H}{W:World}(E:laidMetH Tryz.prog Rows.disputeWorkersRow.laid W){v0:Value}{d0:DataW H}{s:List MemPlace}{s1:Option Addr}{a g:Nat}{d1:DataW H}{r:List MemPlace}{n2:Int}
  (h0:DataW.Trod enc Tryz.prog W 0 (λ_=>true) true 32 v0 d0 s)
  (h1:DataW.Trod enc Tryz.prog W 0 (λ_=>true) true 33 (.slice s1 a g) d1 r)
  (G:(Lit.int .u8 n2).wf=true) :
  Calls Tryz.prog 11 #[v0,.slice s1 a g,.int .u8 n2] W λe m=>e = .returned (.bool true)/\Below W.heap.size W m:=by
 obtain⟨m0,h0⟩:=h0;have k0:=MH 20 32 _ acn _ _ _ h0;obtain⟨m1,h1⟩:=h1;have k1:=MH 20 33 _ aco _ _ _ h1;have gf:=ac0 E;generalize q:({ ι:=λ_ _=>none,F:=(· < W.heap.size),RT:=(Go.Proofs.YtmehofoficaelaaGreatDoor.gl Tryz.prog).rt }:Ctx)=c at gf;have l:∀b,b<W.heap.size->c.F b:=λb C=>by subst q;exact C
 obtain⟨L,f0,f⟩:=Tn (c:=c) l k0;obtain⟨j,rfl,J⟩:=abK k0.1.symm (by decide);rw[J]at f;obtain⟨x,rfl,w⟩:=ab4 f0
 have p:gh c W (.agg j) (.agg x.cells):=by have:=gh.agg j.toList x.cells f.len f.one f.rep;simpa using this
 obtain⟨K,f1,I⟩:=Tn (c:=c) l k1;obtain⟨P,N,rfl,w1,z1⟩:=f1.cons;obtain rfl:=z1.done;obtain⟨u,rfl,y⟩:=ab1 w1;have n:gh c W (.slice s1 a g) (.sl 5 (u.map f5)):=I.rep 0 _ _ rfl rfl
 have M:0<=n2/\n2<256:=by
  simp only[Lit.wf,Bool.and_eq_true,decide_eq_true_eq]at G;have q1:IntKind.u8.min=0:=by decide
  have q2:IntKind.u8.max=255:=by decide
  omega
 have t:vc Tryz.prog _ 11 _ [] _:=afj mixed aox (adA x w u y n2 M);refine(t c W [.agg j,.slice s1 a g,.int .u8 n2] gf (.cons p (.cons n (.cons (.val _) .nil)))).mono λe m B=>?_;obtain⟨v,c',d,H',rfl,D,_,O,z,hs⟩:=B;obtain⟨d',Q,i,rfl,rfl⟩:=D;cases i;cases z;refine⟨rfl,hs.os.1,hs.tape,hs.output,hs.size,λk A=>hs.kept k A ?_⟩;rintro⟨_,_,⟨o,h,_⟩,_⟩;simp at h
theorem lifted(os:Os)(a:os.Started)(H:Type)(enc:TypeId×Value->H) :
  ReturnsInHanded {} Tryz.checked os 11 .any (λw args=>(Rows.disputeWorkersSpec.pre enc Tryz.prog Tryz.f11 [] false w args/\laidMetH Tryz.prog Rows.disputeWorkersRow.laid w)/\sizedMet enc Tryz.prog Tryz.f11 (OpenSpec.ofChange Rows.disputeWorkersSpec) false w args)
   (Rows.disputeWorkersSpec.post enc Tryz.prog Tryz.f11 false true false false):=by
 refine returnsInHanded_of_change_and (C:=Tryz.checked) (X:=λw _=>laidMetH Tryz.prog Rows.disputeWorkersRow.laid w) (λ_ _ _ y h=>h.of_heap y) own a (by kernel_rfl) Tryz.func11
  (ChangeSpec.witness_shaped (enc:=enc) (C:=Tryz.checked) (os:=os) (X:=λw _=>laidMetH Tryz.prog Rows.disputeWorkersRow.laid w) false (World.doorLaid Tryz.prog 2000 os)
   #[.agg #[.int .u8 0,.int .u8 0,.int .u8 0,.slice none 0 0,.slice none 0 0,.slice none 0 0,.int .u8 0,.int .u8 0,.int .u8 0,.int .u8 0,.int .u8 0,.int .u8 0,.int .u8 0,.int .u8 0,.int .u8 0,.int .u8 0,.int .u8 0,.int .u8 0,.int .u8 0,.int .u8 0,.int .u8 0,.int .u8 0,.int .u8 0,.int .u8 0,.int .u8 0,.int .u8 0,.int .u8 0,.int .u8 0,.int .u8 0,.int .u8 0,.slice none 0 0],
    .slice none 0 0,
    .int .u8 0] 20 rfl (World.shaped_of_RefB (by kernel_rfl) (by kernel_rfl)) (by kernel_rfl) (by kernel_rfl) (by kernel_rfl) (adj os _)) ?_
 intro W base args ds J c r m _ _ B _;have d:∀(j:Nat) t v,Tryz.f11.params[j]? = some t->args[j]? = some v->Value.okWide Tryz.prog W .any base t v:=r;have Xo:=m;obtain⟨p,q,l,hV,rfl,z,G⟩:=m;have n:DataW.TrodAll enc Tryz.prog W 0 (λ_=>true) true Tryz.f11.params.toList args.toList ds p:=l;rw[Tryz.params11]at n d;obtain⟨v0,u,s,d0,d1,d2,k,i,F,rfl,rfl,rfl,h0,h1,D⟩:=trodAll_three n;obtain⟨rfl,rfl⟩:=trodVars_none hV;obtain⟨s1,I,K,rfl⟩:=okWide_slice Tryz.underlying33 (d 1 33 u rfl rfl);obtain⟨n2,rfl,rfl,rfl,w2⟩:=open_int Tryz.underlying5 (d 2 5 s rfl rfl) D;clear l r;refine(called B h0 h1 w2).mono λe E ⟨A,g⟩=>?_;subst A;have o:∀x∈k++i ++ [] ++ [],x.block<W.heap.size:=Xo.lt;refine⟨_,rfl,_,_,_,[],k++(i ++ []),[],Xo,trodAll_mk1 (shut_bool Tryz.underlying4 _),?_,?_,?_,λh=>by cases h⟩
 .have:=trodAll_mk3 (Below.trod laidOut (by kernel_rfl) (of_decide_eq_true (by kernel_rfl)) h0 g λx f=>o x (by simp[f]))
   (Below.trod laidOut (by kernel_rfl) (of_decide_eq_true (by kernel_rfl)) h1 g λx f=>o x (by simp[f]))
   (shut_int (w:=E) (spare:=λb=>decide (b<W.heap.size)) (enc:=enc) (base:=0) (held:=true) Tryz.underlying5 w2)
  exact this
 .rfl
 .exact g.frame _
