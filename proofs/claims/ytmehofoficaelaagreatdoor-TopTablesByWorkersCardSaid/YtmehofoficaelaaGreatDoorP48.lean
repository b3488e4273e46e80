/- 48 -/
import Derived.Test.YtmehofoficaelaaGreatDoorP47
set_option linter.all false
namespace Go.Proofs.YtmehofoficaelaaGreatDoor
open Go.ChangeShapes Go.WideShapes Go.ChangeAt Go.RowKit Go.AL
set_option maxRecDepth 100000
def ag9{W:World}(h:laidMetH Tryz.prog Rows.topTablesByWorkersRow.laid W):iy (Go.Proofs.YtmehofoficaelaaGreatDoor.gl Tryz.prog) { ι:=λ_ _=>none,F:=(· < W.heap.size),RT:=(Go.Proofs.YtmehofoficaelaaGreatDoor.gl Tryz.prog).rt } [] W:=by
 obtain⟨k,s,c2,r⟩:=table h;have f:=ady h (n:="skewer/hash.begin") (b:=1) (t:=323) (m:=8) (l:=Ge) ia ia ia ia Tryz.underlying323 ia ia;have c:=ady h (n:="skewer/hash.keys") (b:=2) (t:=375) (m:=64) (l:=Gk) ia ia ia ia Tryz.underlying375 ia ia;have q:Ge=(Ii Ge).map λz=>.val (.int .u32 z):=ia;have p:Gk=(Ii Gk).map λz=>.val (.int .u32 z):=ia;refine⟨⟨?_,?_,?_,λb h=>h,λ_ _ _=>rfl,λ_ _ _ h=>by simp at h,λv o h=>by simp at h⟩,λg cs hg=>?_,rfl⟩
 .rintro v v' L u ⟨o,h,_⟩;simp at h
 .rintro b ⟨v,L,⟨o,h,_⟩,_⟩;simp at h
 .rintro b ⟨v,L,⟨o,h,_⟩,_⟩;simp at h
 .unfold Go.Proofs.YtmehofoficaelaaGreatDoor.gl at hg;dsimp only at hg;unfold Uf at hg;split at hg
  .rename_i e;cases hg;subst e;refine⟨rfl,.ie 0 0 _ (λi=>[Value.nilFunc,.func (.func 364) #[] #[],.func (.func 366) #[] #[],.func (.func 367) #[] #[]].getD i undef) (PI k) (λj d a=>?_) (λj d a=>?_)⟩
   .match j,a with
    | 0,_=>exact⟨k,rfl⟩
    | 1,_=>exact⟨s,rfl⟩
    | 2,_=>exact⟨c2,rfl⟩
    | 3,_=>exact⟨r,rfl⟩
    | j+4,a=>simp at a
   .match j,a with
    | 0,a=>cases a;exact .val _
    | 1,a=>cases a;exact .fn _ [] [] _ _ rfl rfl (λi v d h=>by simp at h) (λi v d h=>by simp at h)
    | 2,a=>cases a;exact .fn _ [] [] _ _ rfl rfl (λi v d h=>by simp at h) (λi v d h=>by simp at h)
    | 3,a=>cases a;exact .fn _ [] [] _ _ rfl rfl (λi v d h=>by simp at h) (λi v d h=>by simp at h)
    | j+4,a=>simp at a
  .split at hg
   .rename_i e;cases hg;subst e;refine⟨ia,?_⟩;rw[q];exact aec (PI (v:=.int .u32 1779033703) ((f 0).trans ia)) f
   .split at hg
    .rename_i e;cases hg;subst e;refine⟨ia,?_⟩;rw[p];exact aec (PI (v:=.int .u32 1116352408) ((c 0).trans ia)) c
    .cases hg
def Y5{v:Value}{n:Nat}(h:v.cells.toList.length=n)(a:n≠1):∃cs:Array Value,v = .agg cs/\v.cells=cs:=by cases v<;>first|exact⟨_,rfl,rfl⟩|(exfalso;apply a;rw[<-h];rfl)
def called{H:Type}{enc:TypeId×Value->H}{W:World}(P:laidMetH Tryz.prog Rows.topTablesByWorkersRow.laid W){s:Value}{d0:DataW H}{E:List MemPlace}{s1:Option Addr}{a i:Nat}{d1:DataW H}{D:List MemPlace}{r:Value}{d2:DataW H}{C:List MemPlace}
  (h0:DataW.Trod enc Tryz.prog W 0 (λ_=>true) true 32 s d0 E)
  (h1:DataW.Trod enc Tryz.prog W 0 (λ_=>true) true 33 (.slice s1 a i) d1 D)
  (l:DataW.Trod enc Tryz.prog W 0 (λ_=>true) true 34 r d2 C) :
  Calls Tryz.prog 3 #[s,.slice s1 a i,r] W λe w=>e = .returned (.bool true)/\Below W.heap.size W w:=by
 obtain⟨m0,h0⟩:=h0;have k0:=Jf 20 32 _ agu _ _ _ h0;obtain⟨m1,h1⟩:=h1;have k1:=Jf 20 33 _ agv _ _ _ h1;obtain⟨m2,l⟩:=l;have k2:=Jf 20 34 _ agw _ _ _ l;have gW:=ag9 P;generalize B:({ ι:=λ_ _=>none,F:=(· < W.heap.size),RT:=(Go.Proofs.YtmehofoficaelaaGreatDoor.gl Tryz.prog).rt }:Ctx)=c at gW;have j:∀b,b<W.heap.size->c.F b:=λb N=>by subst B;exact N
 obtain⟨U,f0,g⟩:=Sg (c:=c) j k0;obtain⟨q,rfl,R⟩:=Y5 k0.1.symm jo;rw[R]at g;obtain⟨x,rfl,I⟩:=af7 f0
 have A:gX c W (.agg q) (.agg x.cells):=by have:=gX.agg q.toList x.cells g.len g.one g.rep;simpa using this
 obtain⟨T,f1,Q⟩:=Sg (c:=c) j k1;obtain⟨Z,X,rfl,w1,z1⟩:=f1.cons;obtain rfl:=z1.done;obtain⟨u,rfl,J⟩:=af5 w1;have z:gX c W (.slice s1 a i) (.sl 5 (u.map f5)):=Q.rep 0 _ _ rfl rfl;obtain⟨S,f2,f⟩:=Sg (c:=c) j k2;obtain⟨p,rfl,e2⟩:=Y5 k2.1.symm jo;rw[e2]at f;obtain⟨n,m,rfl,t⟩:=atY f2
 have y:gX c W (.agg p) (.agg [.val (.int .u8 n),.val (.int .u8 m)]):=by have:=gX.agg p.toList _ f.len f.one f.rep;simpa using this
 have G:xA Tryz.prog _ 3 _ [] _:=ajD mixed atQ (ahR x I u J n m (t n gP) (t m gP));refine(G c W [.agg q,.slice s1 a i,.agg p] gW (.cons A (.cons z (.cons y .nil)))).mono λe w M=>?_;obtain⟨v,c',d,H',rfl,O,_,Y,K,hs⟩:=M;obtain⟨d',Hd,V,rfl,rfl⟩:=O;cases V;cases K;refine⟨rfl,hs.os.1,hs.tape,hs.output,hs.size,λk L=>hs.kept k L ?_⟩;rintro⟨_,_,⟨o,h,_⟩,_⟩;simp at h
def lifted(os:Os)(a:os.Started)(H:Type)(enc:TypeId×Value->H) :
  ReturnsInHanded {} Tryz.checked os 3 .any (λw args=>(Rows.topTablesByWorkersSpec.pre enc Tryz.prog Tryz.f3 [] false w args/\laidMetH Tryz.prog Rows.topTablesByWorkersRow.laid w)/\sizedMet enc Tryz.prog Tryz.f3 (OpenSpec.ofChange Rows.topTablesByWorkersSpec) false w args)
   (Rows.topTablesByWorkersSpec.post enc Tryz.prog Tryz.f3 false true false false):=by
 refine returnsInHanded_of_change_and (C:=Tryz.checked) (X:=λw _=>laidMetH Tryz.prog Rows.topTablesByWorkersRow.laid w) (λ_ _ _ z h=>h.of_heap z) own a ia Tryz.func3
  (ChangeSpec.witness_shaped (enc:=enc) (C:=Tryz.checked) (os:=os) (X:=λw _=>laidMetH Tryz.prog Rows.topTablesByWorkersRow.laid w) false (World.doorLaid Tryz.prog 2000 os)
   #[.agg #[.int .u8 0,.int .u8 0,.int .u8 0,.slice none 0 0,.slice none 0 0,.slice none 0 0,.int .u8 0,.int .u8 0,.int .u8 0,.int .u8 0,.int .u8 0,.int .u8 0,.int .u8 0,.int .u8 0,.int .u8 0,.int .u8 0,.int .u8 0,.int .u8 0,.int .u8 0,.int .u8 0,.int .u8 0,.int .u8 0,.int .u8 0,.int .u8 0,.int .u8 0,.int .u8 0,.int .u8 0,.int .u8 0,.int .u8 0,.int .u8 0,.slice none 0 0],
    .slice none 0 0,
    .agg #[.int .u8 0,.int .u8 0]] 20 rfl (World.shaped_of_RefB ia ia) ia ia ia (ahr os _)) ?_
 intro W base args ds J g d r _ _ D _;have k:∀(j:Nat) t v,Tryz.f3.params[j]? = some t->args[j]? = some v->Value.okWide Tryz.prog W .any base t v:=d;have c:=r;obtain⟨p,q,l,hV,rfl,A,G⟩:=r;have s:DataW.TrodAll enc Tryz.prog W 0 (λ_=>true) true Tryz.f3.params.toList args.toList ds p:=l;rw[Tryz.params3]at s k;obtain⟨F,y,E,d0,d1,d2,o,n,m,rfl,rfl,rfl,h0,h1,u⟩:=trodAll_three s;obtain⟨rfl,rfl⟩:=trodVars_none hV;obtain⟨s1,I,K,rfl⟩:=okWide_slice Tryz.underlying33 (k 1 33 y rfl rfl);clear l d;refine(called D h0 h1 u).mono λe L ⟨B,f⟩=>?_;subst B;have i:∀x∈o++n ++ m ++ [],x.block<W.heap.size:=c.lt;refine⟨_,rfl,_,_,_,[],o++(n ++ m),[],c,trodAll_mk1 (shut_bool Tryz.underlying4 _),?_,?_,?_,λh=>by cases h⟩
 .have:=trodAll_mk3 (Below.trod laidOut ia (of_decide_eq_true ia) h0 f λx b=>i x (by simp[b]))
   (Below.trod laidOut ia (of_decide_eq_true ia) h1 f λx b=>i x (by simp[b]))
   (Below.trod laidOut ia (of_decide_eq_true ia) u f λx b=>i x (by simp[b]))
  exact this
 .rfl
 .exact f.frame _
