/- Part 48 of DisputeTruth. -/
import Derived.Test.YtmehofoficaelaaGreatDoorV47
set_option linter.all false
namespace Go.Proofs.YtmehofoficaelaaGreatDoor
open Go.ChangeShapes Go.WideShapes Go.ChangeAt Go.RowKit Go.AL
set_option maxRecDepth 100000
theorem acJ{W:World}(h:laidMetH Tryz.prog Rows.disputeTruthRow.laid W):gv (Go.Proofs.YtmehofoficaelaaGreatDoor.gl Tryz.prog) { ι:=λ_ _=>none,F:=(· < W.heap.size),RT:=(Go.Proofs.YtmehofoficaelaaGreatDoor.gl Tryz.prog).rt } [] W:=by
 obtain⟨k,s,c2,r⟩:=table h;have f:=Zn h (n:="skewer/hash.begin") (b:=1) (t:=323) (m:=8) (l:=Dd) (by kernel_rfl) (by kernel_rfl) (by kernel_rfl) (by kernel_rfl) Tryz.underlying323 (by kernel_rfl) (by kernel_rfl);have c:=Zn h (n:="skewer/hash.keys") (b:=2) (t:=375) (m:=64) (l:=Dp) (by kernel_rfl) (by kernel_rfl) (by kernel_rfl) (by kernel_rfl) Tryz.underlying375 (by kernel_rfl) (by kernel_rfl);have q:Dd=(EJ Dd).map λz=>.val (.int .u32 z):=by kernel_rfl
 have p:Dp=(EJ Dp).map λz=>.val (.int .u32 z):=by kernel_rfl
 refine⟨⟨?_,?_,?_,λb h=>h,λ_ _ _=>rfl,λ_ _ _ h=>by simp at h,λv o h=>by simp at h⟩,λg cs hg=>?_,rfl⟩
 .rintro v v' L u ⟨o,h,_⟩;simp at h
 .rintro b ⟨v,L,⟨o,h,_⟩,_⟩;simp at h
 .rintro b ⟨v,L,⟨o,h,_⟩,_⟩;simp at h
 .unfold Go.Proofs.YtmehofoficaelaaGreatDoor.gl at hg;dsimp only at hg;unfold P' at hg;split at hg
  .rename_i e;cases hg;subst e;refine⟨rfl,.gi 0 0 _ (λi=>[Value.nilFunc,.func (.func 364) #[] #[],.func (.func 366) #[] #[],.func (.func 367) #[] #[]].getD i undef) (LW k) (λj d a=>?_) (λj d a=>?_)⟩
   .match j,a with
    | 0,_=>exact⟨k,rfl⟩
    | 1,_=>exact⟨s,rfl⟩
    | 2,_=>exact⟨c2,rfl⟩
    | 3,_=>exact⟨r,rfl⟩
    | j+4,a=>simp at a
   .match j,a with
    | 0,a=>cases a;exact .val _
    | 1,a=>cases a;exact .fn _ [] [] _ _ rfl rfl (λi v d h=>by simp at h) (λi v d h=>by simp at h)
    | 2,a=>cases a;exact .fn _ [] [] _ _ rfl rfl (λi v d h=>by simp at h) (λi v d h=>by simp at h)
    | 3,a=>cases a;exact .fn _ [] [] _ _ rfl rfl (λi v d h=>by simp at h) (λi v d h=>by simp at h)
    | j+4,a=>simp at a
  .split at hg
   .rename_i e;cases hg;subst e;refine⟨by kernel_rfl,?_⟩;rw[q];exact aac (LW (v:=.int .u32 1779033703) ((f 0).trans (by kernel_rfl))) f
   .split at hg
    .rename_i e;cases hg;subst e;refine⟨by kernel_rfl,?_⟩;rw[p];exact aac (LW (v:=.int .u32 1116352408) ((c 0).trans (by kernel_rfl))) c
    .cases hg
theorem O6{v:Value}{n:Nat}(h:v.cells.toList.length=n)(a:n≠1):∃cs:Array Value,v = .agg cs/\v.cells=cs:=by cases v<;>first|exact⟨_,rfl,rfl⟩|(exfalso;apply a;rw[<-h];rfl)
theorem called{H:Type}{enc:TypeId×Value->H}{W:World}(Z:laidMetH Tryz.prog Rows.disputeTruthRow.laid W){v0:Value}{d0:DataW H}{O:List MemPlace}{u:Value}{d1:DataW H}{N:List MemPlace}{t:Value}{d2:DataW H}{M:List MemPlace}
  (h0:DataW.Trod enc Tryz.prog W 0 (λ_=>true) true 32 v0 d0 O)
  (h1:DataW.Trod enc Tryz.prog W 0 (λ_=>true) true 77 u d1 N)
  (p:DataW.Trod enc Tryz.prog W 0 (λ_=>true) true 103 t d2 M) :
  Calls Tryz.prog 6 #[v0,u,t] W λe C=>e = .returned (.bool true)/\Below W.heap.size W C:=by
 obtain⟨m0,h0⟩:=h0;have k0:=FC 20 32 _ ab4 _ _ _ h0;obtain⟨m1,h1⟩:=h1;have k1:=FC 20 77 _ ab5 _ _ _ h1;obtain⟨m2,p⟩:=p;have k2:=FC 20 103 _ ab3 _ _ _ p;have fV:=acJ Z;generalize L:({ ι:=λ_ _=>none,F:=(· < W.heap.size),RT:=(Go.Proofs.YtmehofoficaelaaGreatDoor.gl Tryz.prog).rt }:Ctx)=c at fV;have n:∀b,b<W.heap.size->c.F b:=λb l=>by subst L;exact l
 obtain⟨a5,f0,g⟩:=N' (c:=c) n k0;obtain⟨r,rfl,e0⟩:=O6 k0.1.symm (by decide);rw[e0]at g;obtain⟨x,rfl,Q⟩:=abN f0
 have J:fR c W (.agg r) (.agg x.cells):=by have:=fR.agg r.toList x.cells g.len g.one g.rep;simpa using this
 obtain⟨a4,f1,f⟩:=N' (c:=c) n k1;obtain⟨s,rfl,e1⟩:=O6 k1.1.symm (by decide);rw[e1]at f;obtain⟨ws,K,D,B,A,z,rfl,DV,hK,X,V,l,U⟩:=amr f1
 have I:fR c W (.agg s) (.agg [.sl 5 (ws.map f5),.val (.int .u8 K),.val (.int .u8 D),.val (.int .u8 B),.val (.int .u8 A),.val (.int .u8 z)]):=by have:=fR.agg s.toList _ f.len f.one f.rep;simpa using this
 obtain⟨a3,f2,a⟩:=N' (c:=c) n k2;obtain⟨q,rfl,e2⟩:=O6 k2.1.symm (by decide);rw[e2]at a;obtain⟨q0,y0,rfl,E,z0⟩:=f2.cons;obtain⟨q1,y1,rfl,w1,z1⟩:=z0.cons;obtain rfl:=z1.done;obtain⟨y,rfl,j⟩:=UC E;obtain⟨w,rfl,i⟩:=UC w1
 have G:fR c W (.agg q) (.agg [.sl 2 (y.map wB),.sl 2 (w.map wB)]):=by have:=fR.agg q.toList _ a.len a.one a.rep;simpa using this
 have P:uP Tryz.prog _ 6 _ [] _:=aeQ mixed anR (adf x Q ws DV K D B A z hK X V l U y w j i);refine(P c W [.agg r,.agg s,.agg q] fV (.cons J (.cons I (.cons G .nil)))).mono λe C T=>?_;obtain⟨v,c',d,H',rfl,Y,_,r7,R,hs⟩:=T;obtain⟨d',Hd,m,rfl,rfl⟩:=Y;cases m;cases R;refine⟨rfl,hs.os.1,hs.tape,hs.output,hs.size,λk S=>hs.kept k S ?_⟩;rintro⟨_,_,⟨o,h,_⟩,_⟩;simp at h
theorem lifted(os:Os)(a:os.Started)(H:Type)(enc:TypeId×Value->H) :
  ReturnsInHanded {} Tryz.checked os 6 .any (λw args=>(Rows.disputeTruthSpec.pre enc Tryz.prog Tryz.f6 [] false w args/\laidMetH Tryz.prog Rows.disputeTruthRow.laid w)/\sizedMet enc Tryz.prog Tryz.f6 (OpenSpec.ofChange Rows.disputeTruthSpec) false w args)
   (Rows.disputeTruthSpec.post enc Tryz.prog Tryz.f6 false true false false):=by
 refine returnsInHanded_of_change_and (C:=Tryz.checked) (X:=λw _=>laidMetH Tryz.prog Rows.disputeTruthRow.laid w) (λ_ _ _ y h=>h.of_heap y) own a (by kernel_rfl) Tryz.func6
  (ChangeSpec.witness_shaped (enc:=enc) (C:=Tryz.checked) (os:=os) (X:=λw _=>laidMetH Tryz.prog Rows.disputeTruthRow.laid w) false (World.doorLaid Tryz.prog 2000 os)
   #[.agg #[.int .u8 0,.int .u8 0,.int .u8 0,.slice none 0 0,.slice none 0 0,.slice none 0 0,.int .u8 0,.int .u8 0,.int .u8 0,.int .u8 0,.int .u8 0,.int .u8 0,.int .u8 0,.int .u8 0,.int .u8 0,.int .u8 0,.int .u8 0,.int .u8 0,.int .u8 0,.int .u8 0,.int .u8 0,.int .u8 0,.int .u8 0,.int .u8 0,.int .u8 0,.int .u8 0,.int .u8 0,.int .u8 0,.int .u8 0,.int .u8 0,.slice none 0 0],
    .agg #[.slice none 0 0,.int .u8 0,.int .u8 0,.int .u8 0,.int .u8 0,.int .u8 0],
    .agg #[.slice none 0 0,.slice none 0 0]] 20 rfl (World.shaped_of_RefB (by kernel_rfl) (by kernel_rfl)) (by kernel_rfl) (by kernel_rfl) (by kernel_rfl) (acX os _)) ?_
 intro W base args ds G d r m _ _ B _;have u:∀(j:Nat) t v,Tryz.f6.params[j]? = some t->args[j]? = some v->Value.okWide Tryz.prog W .any base t v:=r;have s:=m;obtain⟨p,q,l,hV,rfl,z,F⟩:=m;have n:DataW.TrodAll enc Tryz.prog W 0 (λ_=>true) true Tryz.f6.params.toList args.toList ds p:=l;rw[Tryz.params6]at n u;obtain⟨v0,E,D,d0,d1,d2,k,i,g,rfl,rfl,rfl,h0,h1,o⟩:=trodAll_three n;obtain⟨rfl,rfl⟩:=trodVars_none hV;clear l r;refine(called B h0 h1 o).mono λe I ⟨A,c⟩=>?_;subst A;have f:∀x∈k++i ++ g ++ [],x.block<W.heap.size:=s.lt;refine⟨_,rfl,_,_,_,[],k++(i ++ g),[],s,trodAll_mk1 (shut_bool Tryz.underlying4 _),?_,?_,?_,λh=>by cases h⟩
 .have:=trodAll_mk3 (Below.trod laidOut (by kernel_rfl) (of_decide_eq_true (by kernel_rfl)) h0 c λx b=>f x (by simp[b]))
   (Below.trod laidOut (by kernel_rfl) (of_decide_eq_true (by kernel_rfl)) h1 c λx b=>f x (by simp[b]))
   (Below.trod laidOut (by kernel_rfl) (of_decide_eq_true (by kernel_rfl)) o c λx b=>f x (by simp[b]))
  exact this
 .rfl
 .exact c.frame _
