/- 14 -/
import Derived.Test.YtmehofoficaelaaGreatDoorP13
set_option linter.all false
open Bool renaming and_eq_true→aE,true→dx,false→ej
open List renaming replicate→bf,mem_singleton→cc,getElem?_eq_getElem→di,getD_eq_getElem?_getD→eh,map_cons→er,map_nil→ez,length→List.l
open Go.IntKind renaming u8→cp,i64→ep
open Option renaming some→ek
open Int renaming toNat→Int.n
namespace Go.Proofs.YtmehofoficaelaaGreatDoor
open Go Go.AL Classical
set_option maxRecDepth 10000
set_option maxHeartbeats 1000000
def Z6{g:gY}{p:Pos}(h:¬ended g p){r:List Pos}(hs:mr r)(a:∀q,q∈r↔sP g p q):iZ r=yk g p:=by unfold yk;rw[if_neg h,WI hs a]
def f60(g:gY)(hg:iE g)(p:Pos)(n:ja g p):Wf T 85 [dG g,dP p] [] (Is (yk g p)):=by
 refine Yz IH (jY 66 [2] IH.body) ?_;simp[IH,jY,lV,po,py,pY,nQ];refine Yc (f106 g hg p n) ?_;simp;refine ma ?_ ?_<;>intro h
 .unfold yk;rw[if_pos (aak.1 ‹_›)]
 have k:¬ended g p:=λf=>h (aak.2 f);refine Yq (f107 g hg p n) λl hl=>?_;simp;have C:=hl.2;refine gZ.e ((0,ej):Int×Bool) (λy=>[(2,.ptr 0 0 0),(3,.ptr 1 0 0),(5,pS l),(6,.gR 2 0 5 0 0),(7,.b y.2),(8,.i y.1)]) (λy=>[.row 43 0 g.cells,.row 46 0 p.cells,.row 46 0 []]) (λy=>0<=y.1/\y.1<=l.l/\(y.2=dx↔g.me=dx/\∃o∈l.take y.1.n,o.kP=dx)) (λy=>l.l-y.1.n) ?_ ?_
 .simp
 rintro⟨i,me⟩ ⟨h0,h1,f⟩;dsimp only at h0 h1 f ⊢
 by_cases u:i<l.l
 .have e:∀o,o∈l.take (i+1).n↔o∈l.take i.n\/o=gt l i:=λo=>by rw[jP h0 u,ai,cc]
  cases d:g.me<;>cases me<;>simp[d,u]
  .refine gU ?_;refine LJ.i (i+1,ej) (by first|rfl|simp[d]) (by first|rfl|simp[d]) rfl rfl ?_;dsimp only;exact iQ (by simp[d])
  .grind
  .refine gU ?_;refine LJ.i (i+1,(gt l i).kP) (by first|rfl|simp[d]) (by first|rfl|simp[d]) rfl rfl ?_;dsimp only;refine iQ ?_;simp[d]at f ⊢;constructor
   .grind
   .grind
  .refine gU ?_;refine LJ.i (i+1,dx) (by first|rfl|simp[d]) (by first|rfl|simp[d]) rfl rfl ?_;dsimp only;refine iQ ?_;simp[d]at f ⊢;obtain⟨o,A,h⟩:=f;exact⟨o,(e o).2 (.inl A),h⟩
 .simp[u];rw[nf U]at f;refine gZ.e ((0,0,[]):Int×Nat×List Pos) (λy=>[(2,.ptr 0 0 0),(3,.ptr 1 0 0),(5,pS l),(6,.gR 2 y.2.1 5 0 y.2.2.l),(7,.b me),(9,.i y.1)]) (λy=>[.row 43 0 g.cells,.row 46 0 p.cells,.row 46 y.2.1 (cl Pos.cells y.2.2)]) (λy=>0<=y.1/\y.1<=l.l/\(∀q,q∈y.2.2↔∃o∈l.take y.1.n,(me=dx->o.kP=dx)/\o.p=q)/\y.2.2.l<=y.1.n) (λy=>l.l-y.1.n) ?_ ?_
  .simp
  rintro⟨j,x,out⟩ ⟨j0,j1,j2,j3⟩;dsimp only at j0 j1 j2 j3 ⊢
  by_cases v:j<l.l
  .have e:∀o,o∈l.take (j+1).n↔o∈l.take j.n\/o=gt l j:=λo=>by rw[jP j0 v,ai,cc]
   simp[v];cases me<;>simp
   .refine gU ?_;refine LJ.e (j+1,x+1,out ++ [(gt l j).p]) ?_;dsimp only;refine⟨U,U,U,λq=>?_,iz⟩;rw[ai,cc,j2];simp only[e];constructor
    .grind
    .grind
   .refine ma ?_ ?_<;>intro h
    .skip;refine LJ.e (j+1,x+1,out ++ [(gt l j).p]) ?_;dsimp only;refine⟨U,U,U,λq=>?_,iz⟩;rw[ai,cc,j2];simp only[e];constructor
     .grind
     .grind
    .refine LJ.e (j+1,x,out) ?_;dsimp only;refine⟨U,U,U,λq=>?_,U⟩;rw[j2];simp only[e];constructor
     .grind
     .grind
  .simp[v];rw[nf U]at j2
   have z:∀q∈out,Small q:=λq w=>by obtain⟨o,a,_,rfl⟩:=(j2 q).1 w;exact(R9 hg n ((hl.1 o).1 a)).small hg
   cases me<;>simp
   .have t:¬(g.me=dx/\∃o∈su g p,o.kP=dx):=by grind
    refine Yq (f108 g hg p n) λdr s=>?_;simp;refine gU ?_;refine Yq (f61 (out++dr) iz (λq w=>(ai.1 w).elim (z q) (λh=>aag hg n ((s.2.2 q).1 h)))) λr m=>?_;simp;refine Z6 k m.1 λq=>?_;rw[m.2.2,ai,s.2.2,j2];unfold sP;rw[if_neg t];simp only[Ln k,hl.1];simp;exactλ_ c B=>Ln k c B
   .have t:=f.1 rfl;refine Yq (f61 out U z) λr m=>?_;simp;refine Z6 k m.1 λq=>?_;rw[m.2.2,j2];unfold sP;simp only[hl.1]at t ⊢;rw[if_pos t];constructor
    .rintro⟨o,a,b,rfl⟩;have:=b trivial;refine⟨Ln k,?_⟩;cases o;simp_all
    .grind
def f58(g:gY)(hg:iE g)(p:Pos)(d:ja g p)(l:List Int)(hl:l.l<=100)(h0:∀n∈l,0<=n/\n<256):Wf T 99 [dG g,dP p,dI l] [] (Ey iZ λr=>(0<r.l/\r.l<=101)/\∀q∈r,ja g q):=by
 refine Yg O4 ?_;simp[O4];refine gZ.e ((0,p,0,[p]):Int×Pos×Nat×List Pos) (λy=>[(2,dI l),(3,.ptr 0 0 0),(4,.ptr 1 0 0),(7,.gR 2 y.2.2.1 5 0 y.2.2.2.l),(8,.i y.1)]) (λy=>[.row 43 0 g.cells,.row 46 0 y.2.1.cells,.row 46 y.2.2.1 (cl Pos.cells y.2.2.2)]) (λy=>0<=y.1/\y.1<=l.l/\ja g y.2.1/\(0<y.2.2.2.l/\y.2.2.2.l<=y.1.n+1)/\∀q∈y.2.2.2,ja g q) (λy=>l.l-y.1.n) ?_ ?_
 .grind
 rintro⟨i,p,m,out⟩ ⟨i0,j,d,f,b⟩;dsimp only at i0 j d f b ⊢;simp;refine ma ?_ ?_<;>intro h
 .refine Yc (f60 g hg p d) ?_;simp;have k:=h0 _ (ij i0 ‹_›)
  have e:0<(kd g p).l->0<=iu (gt l i) (kd g p).l/\iu (gt l i) (kd g p).l<(kd g p).l:=λh=>by rw[kK k.1];exact⟨bZ _ U,bR _ U⟩
  (with_reducible repeat' first|refine Xk ?_<;>try simp|refine Xs ?_ ?_<;>intro h<;>(try intro o)<;>(try simp[h])<;>try omega|refine Xg ?_|omega)
  .exact Ey.i out rfl rfl (oO b)
  .have a:0<(kd g p).l:=ay.2 ‹_›;have:=e a;omega
  .have a:0<(kd g p).l:=ay.2 ‹_›;have:=e a;refine gU ?_;have gW:=WG hg d (ED.1 (ij (l:=kd g p) this.1 this.2));refine LJ.e (i+1,gt (kd g p) (iu (gt l i) (kd g p).l),m+1,out ++ [gt (kd g p) (iu (gt l i) (kd g p).l)]) ?_;dsimp only;refine⟨U,U,U,gW,iz,λq c=>?_⟩;rcases ai.1 c with c|c
   .exact b q c
   .grind
 .exact Ey.i out rfl rfl (oO b)
structure Pu(g:gY)(p:Pos)(all last:List Pos):Prop where
 AY:mr all
 ok:∀q∈all,ja g q
 has:p∈all
 sub:∀q∈last,q∈all
 cl:∀q∈all,q ∉ last->∀m,sP g q m->m∈all
 len:all.l<=80
 alB:last.l<=all.l
def Pu.step{g:gY}(hg:iE g){p:Pos}{c last next last' all':List Pos}(h:Pu g p c last)(o:∀m,m∈next↔∃q∈last,sP g q m)(hl:∀m,m∈last'↔m∈next/\m ∉ c)
  (k:last'.Nodup) (hs:mr all') (f:∀q,q∈all'↔q∈c\/q∈last') (i:all'.l<=80):Pu g p all' last'/\(last'≠[]->c.l<all'.l)/\c.l<=all'.l:=by
 have h1:c.l+last'.l<=all'.l:=by rw[<-aq];refine wL (a8.2 ⟨h.AY.nodup,k,λa f b t e=>?_⟩) λx l=>(f x).2 (ai.1 l);subst e;exact((hl a).1 t).2 f
 refine⟨⟨hs,λq d=>?_,(f p).2 (.inl h.has),λq d=>(f q).2 (.inr d),λq d v m j=>?_,i,U⟩,λs=>?_,U⟩
 .rcases(f q).1 d with d|d
  .exact h.ok q d
  .obtain⟨r,n,j⟩:=(o q).1 ((hl q).1 d).1;exact WG hg (h.ok r (h.sub r n)) j
 .rcases(f q).1 d with d|d
  .by_cases u:q∈last
   .grind
   .exact(f m).2 (.inl (h.cl q d u m j))
  .grind
 .have:0<last'.l:=ay.2 s;omega
structure Mu(g:gY)(l:List Pos):Prop where
 AY:mr l
 ok:∀q∈l,ja g q
 cl:∀q∈l,∀m,sP g q m->m∈l
 len:0<l.l/\l.l<=80
end Go.Proofs.YtmehofoficaelaaGreatDoor
namespace Go.AL
open Go
def adP(S:List Nat):jG->Bool
 | .call f _ | .callN f _=>elem f S
 | .callv _ _=>ej
 | .nextM _=>ej
 | _=>dx
def r7(S:List Nat):List jb->Bool
 | []=>dx
 | e::r=>adP S e.op&&r7 S r
def tR(S:List Nat):IR->Bool
 | .ops l=>r7 S l
 | .np _ l=>r7 S l
 | .oH _ l es=>r7 S l&&r7 S es
 | .seq a b=>tR S a&&tR S b
 | .cond _ a b=>tR S a&&tR S b
 | .block _ _ a=>tR S a
 | .loop _ a=>tR S a
 | .qb _ _ _=>ej
 | _=>dx
def tS(S:List Nat):CR->Bool
 | .ops l _=>r7 S l
 | .code c _=>tR S c
 | .loop _ _ a _=>tR S a
 | .call f _ _=>elem f S
 | .trace l _=>r7 S l
def One(T:jt)(j:CR)(R:rW->Prop):Prop:=match j with
 | .ops _ _ | .code _ _ | .loop _ _ _ _=>∃o,R (.out o)/\Ev T j (λr=>r = .out o)
 | .call _ _ _=>∃d H,R (.val d H)/\Ev T j (λr=>r = .val d H)
 | .trace _ _=>∃rs s,R (.tr rs s)/\Ev T j (λr=>r = .tr rs s)
def One.mono{T:jt}{j:CR}{R c:rW->Prop}(h:One T j R)(hi:∀r,R r->c r):One T j c:=by
 cases j with
 | call f a H=>obtain⟨d,H',h1,b⟩:=h;exact⟨d,H',hi _ h1,b⟩
 | trace l s=>obtain⟨d,H',h1,b⟩:=h;exact⟨d,H',hi _ h1,b⟩
 | _=>obtain⟨o,h1,b⟩:=h;exact⟨o,hi _ h1,b⟩
def adQ{S:List Nat}{env:iM}{op:jG}{f:FuncId}{args:List D}(h:adP S op=dx)(a:lZ env op=ek (f,args)):elem f S=true:=by cases op<;>first|(cases a;exact h)|(cases h;done)|(cases a;done)
section
variable{T:jt}{S:List Nat}(hS:∀f fn,elem f S=dx->T.fn f=ek fn->tR S fn.body=dx)(hN:∀f,elem f S=dx->T.sort f=none/\T.vI f=ej/\T.uV f=ej)
include hS hN
theorem arR{j:CR}{R:rW->Prop}(h:Ev T j R):tS S j=dx->One T j R:=by
 induction h with
 | mono h hi m=>exactλf=>(m f).mono hi
 | sort fc l O hs=>intro f;rw[(hN _ f).1]at hs;cases hs
 | HU hs=>intro f;rw[(hN _ f).1]at hs;cases hs
 | vI l hs=>intro f;rw[(hN _ f).2.1]at hs;cases hs
 | uV l i hs=>intro f;rw[(hN _ f).2.2]at hs;cases hs
 | nil h=>exactλ_=>⟨_,h,.nil rfl⟩
 | op hg h t m=>
  intro f;simp only[tS,r7,aE]at f;obtain⟨o,h1,g⟩:=m f.2;exact⟨o,h1,.op hg h g⟩
 | E4 hg h t m=>
  intro f;simp only[tS,r7,aE]at f;obtain⟨o,h1,g⟩:=m f.2;exact⟨o,h1,.E4 hg h g⟩
 | off hg t m=>
  intro f;simp only[tS,r7,aE]at f;obtain⟨o,h1,g⟩:=m f.2;exact⟨o,h1,.off hg g⟩
 | mC H F t m=>intro f;obtain⟨o,h1,g⟩:=m f;exact⟨o,h1,.mC H F g⟩
 | JF H F t m=>intro f;obtain⟨o,h1,g⟩:=m f;exact⟨o,h1,.JF H F g⟩
 | T7 live t m=>intro f;obtain⟨o,h1,g⟩:=m f;exact⟨o,h1,.T7 live g⟩
 | F9 live t m=>intro f;obtain⟨o,h1,g⟩:=m f;exact⟨o,h1,.F9 live g⟩
 | Jb hg q u p h B t m z=>
  intro f;simp only[tS,r7,aE]at f;obtain⟨d,Hn,h1,g⟩:=m (adQ f.1 q);obtain⟨s',J⟩:=dJ.1 (B d Hn h1);obtain⟨o,w,y⟩:=z d Hn s' h1 J f.2;exact⟨o,w,.Jb hg q u p g (λd' I e=>by cases e;exact B _ _ h1) λd' I n e N=>kM⟩
 | Ja hg q u p h t m z=>
  intro f;simp only[tS,r7,aE]at f;obtain⟨d,Hn,h1,g⟩:=m (adQ f.1 q);obtain⟨o,w,y⟩:=z d Hn h1 f.2;exact⟨o,w,.Ja hg q u p g λd' I e=>by cases e;exact y⟩
 | @PF e r s v args rf env0 Rd Ra Rb R hg q=>
  intro f;simp only[tS,r7,aE]at f;exfalso;have h1:=f.1;revert q h1;cases e.op<;>intro q h1<;>first|(cases q;done)|(cases h1;done)
 | next hg C=>
  intro f;simp only[tS,r7,aE]at f;have h1:=f.1;rw[C]at h1;cases h1
 | Mg h=>exactλ_=>⟨_,_,h,.Mg rfl⟩
 | Mi hg h t k m=>
  intro f;simp only[tS,r7,aE]at f;obtain⟨rs,s',h1,g⟩:=m f.2;exact⟨_,s',k rs s' h1,.Mi hg h g λA n e=>by cases e;rfl⟩
 | Mh hg t k m=>
  intro f;simp only[tS,r7,aE]at f;obtain⟨rs,s',h1,g⟩:=m f.2;exact⟨_,s',k rs s' h1,.Mh hg g λA n e=>by cases e;rfl⟩
 | Md hg q u p h h0 D t k m z=>
  intro f;simp only[tS,r7,aE]at f;obtain⟨rs,s',h1,g⟩:=z f.2;exact⟨_,s',k rs s' h1,.Md hg q u p h h0 D g λA n e=>by cases e;rfl⟩
 | Me hg C B u p h h0 D t k m z=>
  intro f;simp only[tS,r7,aE]at f;obtain⟨rs,s',h1,g⟩:=z f.2;exact⟨_,s',k rs s' h1,.Me hg C B u p h h0 D g λA n e=>by cases e;rfl⟩
 | Mf hg C B u p G M K L h h0 D t k m z=>
  intro f;simp only[tS,r7,aE]at f;obtain⟨rs,s',h1,g⟩:=z f.2;exact⟨_,s',k rs s' h1,.Mf hg C B u p G M K L h h0 D g λA n e=>by cases e;rfl⟩
 | np t p m=>
  intro f;obtain⟨rs,s',h1,g⟩:=m f;exact⟨_,(p rs s' h1).2,.np g λA n e=>by cases e;exact⟨(p rs s' h1).1,rfl⟩⟩
 | oH t p k m E=>
  intro f;simp only[tS,tR,aE]at f;obtain⟨rs,s',h1,g⟩:=m f.1;obtain⟨o,w,y⟩:=E rs s' h1 f.2;exact⟨o,w,.oH g (λA n e=>by cases e;exact p _ _ h1) λA n e=>by cases e;exact y⟩
 | skip h=>exactλ_=>⟨_,h,.skip rfl⟩
 | Jn h m=>intro f;obtain⟨o,h1,g⟩:=m f;exact⟨o,h1,.Jn g⟩
 | seq h k hs m E=>
  intro f;simp only[tS,tR,aE]at f;obtain⟨o,h1,g⟩:=m f.1
  cases o with
  | norm s'=>
   obtain⟨o,w,y⟩:=E s' h1 f.2;exact⟨o,w,.seq g (λn e=>by cases e;exact y) λo e hs=>by cases e;cases hs⟩
  | exit id s'=>exact⟨_,hs _ h1 rfl,.seq g (λn e=>by cases e) λo e hs=>by cases e;rfl⟩
  | ret s'=>exact⟨_,hs _ h1 rfl,.seq g (λn e=>by cases e) λo e hs=>by cases e;rfl⟩
 | @cond c a b s x R q h m=>
  intro f;simp only[tS,tR,aE]at f;obtain⟨o,h1,g⟩:=m (by cases x;exact f.2;exact f.1);exact⟨o,h1,.cond q g⟩
 | block h k m=>
  intro f;obtain⟨o,h1,g⟩:=m f;exact⟨_,k o h1,.block g λo e=>by cases e;rfl⟩
 | loop h m=>intro f;obtain⟨o,h1,g⟩:=m f;exact⟨o,h1,.loop g⟩
 | Cn h k hs m E=>
  intro f;obtain⟨o,h1,g⟩:=m f
  cases o with
  | norm s'=>
   obtain⟨o,w,y⟩:=E s' h1 f;exact⟨o,w,.Cn g (λn e=>by cases e;exact y) λo e hs=>by cases e;cases hs⟩
  | exit id s'=>exact⟨_,hs _ h1 rfl,.Cn g (λn e=>by cases e) λo e hs=>by cases e;rfl⟩
  | ret s'=>exact⟨_,hs _ h1 rfl,.Cn g (λn e=>by cases e) λo e hs=>by cases e;rfl⟩
 | qb=>intro f;cases f
 | exit h=>exactλ_=>⟨_,h,.exit rfl⟩
 | ret h=>exactλ_=>⟨_,h,.ret rfl⟩
 | call own u hl h k m=>
  intro f;obtain⟨o,h1,g⟩:=m (hS _ _ f u);obtain⟨d,H',w,y⟩:=k o h1;exact⟨d,H',y,.call own u hl g λo' e=>by cases e;exact⟨d,H',w,rfl⟩⟩
end
def PK(S:List Nat):Nat->List (Option kn)->Bool
 | _,[]=>dx
 | k,a::l=>(bif elem k S then(match a with|some fn=>tR S fn.body|none=>dx)else dx)&&PK S (k+1) l
theorem Zv{S:List Nat}{fn:kn}:∀ {l:List (Option kn)} {k i:Nat},PK S k l=dx->nth l i=ek fn->elem (k+i) S=dx->tR S fn.body=dx
 | [],_,_,_,h,_=>by cases h
 | a::l,k,0,h,h2,h3=>by simp only[PK,aE]at h;cases h2;rw[cu]at h3;simpa only[h3,cond_true]using h.1
 | a::l,k,i+1,h,h2,h3=>by simp only[PK,aE]at h;exact Zv (l:=l) (k:=k+1) (i:=i) h.2 h2 (by rw[bk,dj 1 i];exact h3)
def Wf.one{T:jt}{S:List Nat}(hS:∀f fn,elem f S=dx->T.fn f=ek fn->tR S fn.body=dx)(hN:∀f,elem f S=dx->T.sort f=none/\T.vI f=ej/\T.uV f=ej){f:FuncId}{args:List D}{H:gQ}{K:D->gQ->Prop}(h:Wf T f args H K)(a:elem f S=dx) :
  ∃d H',K d H'/\Wf T f args H λd2 H2=>d2=d/\H2=H':=by
 obtain⟨d,H',⟨d2,H2,e,h1⟩,b⟩:=arR hS hN h a;cases e;exact⟨d,H',h1,Ev.mono b λr e=>⟨_,_,e,rfl,rfl⟩⟩
end Go.AL
namespace Go.Proofs.YtmehofoficaelaaGreatDoor
open Go Go.AL
def HE:List Nat:=[13,15,17,18,21,22,25,27,29,31,32,34,36,38,39,40,41,43,44,50,51,55,60,68,69,71,72,73,74,76,77,78,79,80,82,83,84,85,86,87,88,90,91,92,98,99,100,101,127,128,129,130,131,132,133,134,136,137,138,139,140,141,142,143,144,159,160,161,162,200,201,202,203,204,205,206,207,208,209,210,211,225,226,227,228,252,253,254,255,256,257,258,278,283,284,285,294,295,296,297,298,299,321]
def asi:∀f fn,elem f HE=dx->T.fn f=ek fn->tR HE fn.body=true:=λf fn h a=>
 Zv (S:=HE) (l:=fns) (k:=0) (i:=f) ia a (by rw[aR];exact h)
def asj:∀f,elem f HE=dx->T.sort f=none/\T.vI f=ej/\T.uV f=false:=λf h=>by
 by_cases h1:f=151
 .subst h1;exact absurd h jo
 by_cases d:f=261
 .subst d;exact absurd h jo
 by_cases c:f=67
 .subst c;exact absurd h jo
 by_cases b:f=66
 .subst b;exact absurd h jo
 refine⟨?_,?_,?_⟩
 .show(if f=151 then ek 5 else if f=261 then ek 6 else none)=none;rw[if_neg h1,if_neg d]
 .show Nat.beq f 67=ej
  cases a:Nat.beq f 67 with
  | false=>rfl
  | true=>exact absurd (cO a) c
 .show Nat.beq f 66=ej
  cases a:Nat.beq f 66 with
  | false=>rfl
  | true=>exact absurd (cO a) b
section
variable{f:FuncId}{args:List D}{dst:Option Nat}{s:St}{fn:kn}{R:List Fp}{Q:Rc->St->Prop}
theorem ke.q{α:Type}{g:α->D}{P:α->Prop}(e:T.fn f=ek fn)(c:fn.full=ej)(h1:elem f HE=dx)(h:Wf T f args [] (Ex g P))(i:iB args=dx)(a:∀r,closed (g r)=dx)
  (k:∀r,P r->Q ⟨R,[]⟩ { s with env:=put s.env dst (g r) }):ke T f args R dst s Q .mk:=by
 obtain⟨d,H',⟨r,rfl,rfl,b⟩,j⟩:=Wf.one asi asj h h1;exact ke.c e c j i (a r) (k r b)
end
def Yv{f:FuncId}{args:List D}{R:List Fp}{dst:Option Nat}{s:St}{Q:Rc->St->Prop}{fn:kn}{α:Type}{g:α->D}{P:α->Prop}(h:Wf T f args [] (Ex g P))(k:∀r,P r->Q ⟨R,[]⟩ { s with env:=put s.env dst (g r) })
  (c:T.fn f=ek fn:=by exact rfl) (b:fn.full=false:=by exact rfl) (h1:elem f HE=true:=by exact rfl) (d:iB args=true:=by simp) (a:∀r,closed (g r)=true:=by intro;simp):ke T f args R dst s Q .mk:=ke.q c b h1 h d a k
end Go.Proofs.YtmehofoficaelaaGreatDoor
namespace Go.AL
open Go
abbrev Kn:=Int×Int×Bool
@[irreducible] def fK(x:Kn):List D:=[.i x.1,.i x.2.1,.b x.2.2]
@[simp] theorem ay2(x:Kn):fK x = [.i x.1,.i x.2.1,.b x.2.2]:=by unfold fK;rfl
instance:Fl fK 3:=⟨λ_=>gP,λ_=>by simp[iB]⟩
@[simp] theorem agA(l:List Bool)(c:Bool):cl fB l ++ [.b c]=cl fB (l ++ [c]):=by rw[<-tE,Qi]
theorem Tt{α:Type}[Inhabited α]{f:α->List D}{sz:Nat}[F:Fl f sz]{l:List α}{n:Int}{j:Nat}(b:j<sz){P:D->Prop}:oA (cl f l)[n.n*sz+j]? P .mk=(n.n<l.l/\oA (f (gt l n))[j]? P .mk):=by
 rw[ZJ (f:=f) l n.n j b]
 by_cases a:n.n<l.l
 .rw[di a];have e:gt l n=l[n.n]:=by unfold gt;rw[eh,di a];rfl
  simp[a,e]
 .rw[aY U];simp[a]
@[simp] theorem aBQ{l:List Bool}{n:Int}{P:D->Prop}:oA (cl fB l)[n.n]? P .mk=(n.n<l.l/\P (.b (gt l n))):=by have:=Tt (f:=fB) (l:=l) (n:=n) (j:=0) jo (P:=P);simpa using this
def ZK{α:Type}{f:α->List D}{sz:Nat}[F:Fl f sz](l:List α)(n:Int)(h1:n.n<l.l)(a:α):(cl f l).take (n.n*sz)++(f a++(cl f l).drop (n.n*sz+sz))=cl f (pt l n a):=by have:=agH (f:=f) l n.n a h1;rw[aO]at this;exact this
theorem LL{α:Type}{f:α->List D}(a:α):∀n:Nat,(bf n (f a)).flatten=cl f (bf n a)
 | 0=>gP
 | n+1=>by rw[bL,bg,LL a n,bL,oG]
@[simp] theorem asn(b:Bool)(n:Nat):(bf n [D.b b]).flatten=cl fB (bf n b):=by rw[<-LL,Qi]
@[simp] theorem aso(b:Int)(n:Nat):(bf n [D.i b]).flatten=cl f1 (bf n b):=by rw[<-LL,Bw]
@[simp] theorem aDo(a b:Int)(n:Nat):(bf n [D.i a,D.i b]).flatten=cl fS (bf n (a,b)):=by rw[<-LL,z6]
@[simp] theorem aDm(b:Bool)(n:Nat):bf n (D.b b)=cl fB (bf n b):=by rw[<-asn];simp
@[simp] theorem aDn(b:Int)(n:Nat):bf n (D.i b)=cl f1 (bf n b):=by rw[<-aso];simp
end Go.AL
namespace Go.Proofs.YtmehofoficaelaaGreatDoor
open Go Go.AL Classical
set_option maxRecDepth 10000
set_option maxHeartbeats 1000000
structure qq(g:gY)(l:List Pos):Prop where
 AY:mr l
 ok:∀q∈l,ja g q
 cl:∀q∈l,∀m,sP g q m->m∈l
 len:l.l<=4000
def Mu.c2{g:gY}{l:List Pos}(h:Mu g l):qq g l:=⟨h.AY,h.ok,h.cl,by have:=h.len;omega⟩
noncomputable def iq(g:gY)(l:List Pos):List (List Int):=l.map λp=>(kd g p).map (tH l)
def wI{g:gY}{l:List Pos}(hl:qq g l){i:Int}(h0:0<=i)(h1:i<l.l):gt (iq g l) i=(kd g (gt l i)).map (tH l)/\∀k∈gt (iq g l) i,0<=k/\k<l.l:=by
 have e:gt (iq g l) i=(kd g (gt l i)).map (tH l):=by unfold iq gt;simp only[eh,aw];rw[di U];rfl
 refine⟨e,λk a=>?_⟩;rw[e]at a;obtain⟨q,b,rfl⟩:=aj.1 a;have:=JE (hl.cl _ (ij h0 h1) q (ED.1 b));exact⟨this.1,this.2.1⟩
end Go.Proofs.YtmehofoficaelaaGreatDoor
namespace Go.AL
open Go
section
variable{P:D->Prop}{a b:Int}{k:IntKind}{t:Tag P}
@[simp low] theorem aCe:oA (kW .rem k a b) P t=(b≠0/\P (.val (.int k (iu a b)))):=by
 cases t;simp only[kW]
 by_cases h:b=0<;>simp[h,iu]
def lh(k:IntKind)(a b:Int):Int:=k.wrap (a.tdiv b)
@[simp low] theorem aCc:oA (kW .quo k a b) P t=(b≠0/\P (.val (.int k (lh k a b)))):=by
 cases t;simp only[kW]
 by_cases h:b=0<;>simp[h,lh]
end
@[simp] theorem azr{ρ:Nat->Option Nat}{H:gQ}{k:Nat}{t:TypeId}{a b:Int}:oq ρ H (k+1) 1 0 2 (ek (t,[.i a,.i b]))=dI [a,b]:=by have h:=uX (f:=f1) (ρ:=ρ) (H:=H) (k:=k) (t:=t) (l:=[a,b]) (n:=2) rfl;rw[pO]at h;simp only[er,ez,Bw,bg,ea,az,bz,aS]at h;rw[h];unfold dI;simp only[er,ez,Bw]
@[irreducible] def fU(n:Int):List D:=[.val (.int .u8 n)]
@[simp] theorem By(n:Int):fU n = [.val (.int .u8 n)]:=by unfold fU;rfl
instance:Fl fU 1:=⟨λ_=>gP,λ_=>by simp[iB]⟩
def dU(l:List Int):D:=.sl 1 (l.map fU)
def zX(l:List Int):dU l = .sl 1 (l.map fU):=rfl
@[simp] theorem ayy(l:List Int):closed (dU l)=true:=by unfold dU;exact F0 l
@[simp] theorem aA5(l:List Int)(H:gQ):od .slice (dU l) H=ek (.i l.l):=by simp[dU]
@[simp] theorem aB6{l:List Int}{n:Int}{k:IntKind}{P:D->Prop}:oA (ot 1 (dU l) (.val (.int k n))) P .mk=((0<=n/\n<l.l)/\P (.ie [.val (.int .u8 (gt l n))])):=by unfold dU;rw[AJ,By]
@[simp] theorem aER(n:Nat)(l:List Int):jQ n (dU l) = []:=rfl
@[simp] theorem axQ(l:List Int):cellsOf (dU l)=ek [dU l]:=rfl
@[simp] theorem aCE(l:List Int):one (dU l)=true:=rfl
structure yL(TJ kinds iw:Int)(l:List gT):Prop where
 steps:∀x∈l,((x.1=1\/x.1=2\/x.1=7)/\0<=x.2/\x.2<TJ)\/(3<=x.1/\x.1<=6/\x.2=0)\/(x.1=8/\0<=x.2/\x.2<kinds)\/((x.1=9\/x.1=10)/\0<=x.2/\x.2<iw)
 len:l.l<=8
 wQ:oj l 6<=2
 push:oj l 7<=1
 I2:oj l 8<=1
@[simp] theorem awN(a b:Int):kW .add .u8 a b=ek (.val (.int .u8 (cp.wrap (a+b)))):=rfl
@[simp] theorem awY(a b:Int):kW .sub .u8 a b=ek (.val (.int .u8 (cp.wrap (a-b)))):=rfl
theorem afp(n:Int):0<=cp.wrap n/\cp.wrap n<256:=by simp only[IntKind.wrap,IntKind.bits,IntKind.signed];simp;omega
def Lx(a b:Int):0<=lh .u8 a b/\lh .u8 a b<256:=afp _
def ahk{ρ:Nat->Option Nat}{H:gQ}{k n:Nat}{t:TypeId}{cs:List D}(l:List Int)(h:cs=l.map λn=>D.val (.int .u8 n))(c:n=l.l):oq ρ H (k+1) 1 0 n (ek (t,cs))=dU l:=by
 subst c
 have e:cs=cl fU l:=by
  rw[h,pO];clear h
  induction l with
  | nil=>rfl
  | cons a r b=>simp[<-b]
 rw[e,uX rfl];rfl
def amt{sz:Nat}{es:List (List D)}{k:IntKind}{n:Int}{P:D->Prop}:oA (ot sz (.sl sz es) (.val (.int k n))) P .mk=((0<=n/\n<es.l)/\P (.ie (es.getD n.n []))):=by simp only[ot,true_and,EH,Cq]
def oA.i{α:Type}{x:Option α}{P:α->Prop}{t:Tag P}{a:α}(h1:x=ek a)(b:P a):oA x P t:=⟨a,h1,b⟩
end Go.AL
namespace Go.Proofs.YtmehofoficaelaaGreatDoor
open Go Go.AL Classical
set_option maxRecDepth 10000
set_option maxHeartbeats 4000000
def f192(l:List Int)(k:Int)(a:0<=k):Wf T 278 [dU l,.i k] [] (Is (.i (if k<l.l then ep.wrap (gt l k)else 0))):=by
 refine Yg Od ?_;simp[Od];exact oS
 all_goals simp[*]
def AB(d o b k r:Int):List (List gT):=[[(1,d),(3,0)],[(1,d),(4,0),(6,0)],[(2,d)],[(2,d),(4,0),(6,0)],[(1,d),(4,0),(6,0),(1,d)],[(1,d),(1,o)],[(1,d),(7,d)],[(1,d),(3,0),(8,k)],[(9,r),(1,d),(1,d),(10,r)],[(1,d),(5,0),(1,d),(3,0)],[(10,r),(1,d)],[(1,d),(4,0),(6,0),(1,b)],[(1,d),(4,0),(6,0),(1,o),(4,0),(6,0)],[(2,d),(5,0),(1,d)],[(1,d),(4,0),(6,0),(8,k)],[(1,d),(7,d),(1,o)]]
def alI(d o b k r:Int)(i:0<=d/\d<8)(f:0<=o/\o<8)(j:0<=b/\b<8)(g:0<=k/\k<6)(e:0<=r/\r<4):∀p∈AB d o b k r,yL 8 6 4 p:=by
 have c:∀p:List gT,(∀x∈p,((x.1=1\/x.1=2\/x.1=7)/\0<=x.2/\x.2<8)\/(3<=x.1/\x.1<=6/\x.2=0)\/(x.1=8/\0<=x.2/\x.2<6)\/((x.1=9\/x.1=10)/\0<=x.2/\x.2<4))->p.l<=8/\oj p 6<=2/\oj p 7<=1/\oj p 8<=1->yL 8 6 4 p:=λp a b=>⟨a,b.1,b.2.1,b.2.2.1,b.2.2.2⟩;intro p h;unfold AB at h;simp only[ak,eZ,or_false]at h;rcases h with rfl|rfl|rfl|rfl|rfl|rfl|rfl|rfl|rfl|rfl|rfl|rfl|rfl|rfl|rfl|rfl
 all_goals
  refine c _ ?_ ?_
  .simp;omega
  .simp[oj]
def alH(d o b k r m:Int)(h0:0<=m)(h1:m<16):([[D.sl 2 [[D.i 1,D.i d],[D.i 3,D.i 0]]],[D.sl 2 [[D.i 1,D.i d],[D.i 4,D.i 0],[D.i 6,D.i 0]]],[D.sl 2 [[D.i 2,D.i d]]],[D.sl 2 [[D.i 2,D.i d],[D.i 4,D.i 0],[D.i 6,D.i 0]]],[D.sl 2 [[D.i 1,D.i d],[D.i 4,D.i 0],[D.i 6,D.i 0],[D.i 1,D.i d]]],[D.sl 2 [[D.i 1,D.i d],[D.i 1,D.i o]]],[D.sl 2 [[D.i 1,D.i d],[D.i 7,D.i d]]],[D.sl 2 [[D.i 1,D.i d],[D.i 3,D.i 0],[D.i 8,D.i k]]],[D.sl 2 [[D.i 9,D.i r],[D.i 1,D.i d],[D.i 1,D.i d],[D.i 10,D.i r]]],[D.sl 2 [[D.i 1,D.i d],[D.i 5,D.i 0],[D.i 1,D.i d],[D.i 3,D.i 0]]],[D.sl 2 [[D.i 10,D.i r],[D.i 1,D.i d]]],[D.sl 2 [[D.i 1,D.i d],[D.i 4,D.i 0],[D.i 6,D.i 0],[D.i 1,D.i b]]],[D.sl 2 [[D.i 1,D.i d],[D.i 4,D.i 0],[D.i 6,D.i 0],[D.i 1,D.i o],[D.i 4,D.i 0],[D.i 6,D.i 0]]],[D.sl 2 [[D.i 2,D.i d],[D.i 5,D.i 0],[D.i 1,D.i d]]],[D.sl 2 [[D.i 1,D.i d],[D.i 4,D.i 0],[D.i 6,D.i 0],[D.i 8,D.i k]]],[D.sl 2 [[D.i 1,D.i d],[D.i 7,D.i d],[D.i 1,D.i o]]]].getD m.n [])[0]? = ek (iS (gt (AB d o b k r) m)):=by
 rcases(U:m=0\/m=1\/m=2\/m=3\/m=4\/m=5\/m=6\/m=7\/m=8\/m=9\/m=10\/m=11\/m=12\/m=13\/m=14\/m=15)with rfl|rfl|rfl|rfl|rfl|rfl|rfl|rfl|rfl|rfl|rfl|rfl|rfl|rfl|rfl|rfl
 all_goals simp[AB,gt,iS]
def f152(l:List Int)(hl:l.l=5)(h:∀n∈l,0<=n/\n<256):Wf T 228 [dU l] [] (Ey iS (yL 8 6 4)):=by
 have e:∀k:Int,0<=k->k<5->(if k<l.l then ep.wrap (gt l k)else 0)=gt l k:=λk a b=>by rw[if_pos U];have:=h _ (ij (l:=l) a U);exact qo jc
 have c:∀k:Int,0<=k->k<5->0<=gt l k:=λk a b=>(h _ (ij (l:=l) a U)).1;refine Yz Iw (jY 121 [0,1,2,3,4,5,6,7,8,9,10,11,12,13,14,15,16,17,18,19,20,21,22,23,24,25,26,27,28] Iw.body) ?_;simp[Iw,jY,lV,po,py,pY,nQ];refine Yc (f192 l 1 U) ?_;simp[e 1 U U];refine Yc (f192 l 2 U) ?_;simp[e 2 U U];refine Yc (f192 l 3 U) ?_;simp[e 3 U U];refine Yc (f192 l 4 U) ?_;simp[e 4 U U,oq,chunks];have q:=kK (a:=gt l 1) (b:=8) (c 1 U U);have p:=kK (a:=gt l 2) (b:=8) (c 2 U U);have o:=kK (a:=gt l 3) (b:=6) (c 3 U U);have j:=kK (a:=gt l 4) (b:=4) (c 4 U U);have r:=kK (a:=gt l 0) (b:=16) (c 0 U U);have i:=kK (a:=iu (gt l 1) 8+4) (b:=8) U;have d:ep.wrap (gt l 0)=gt l 0:=kM;refine gU ?_;refine Yc (f192 l 0 U) ?_;simp[hl,d,amt,oq,chunks];refine gU ?_;have f:=alI (iu (gt l 1) 8) (iu (gt l 2) 8) (iu (iu (gt l 1) 8+4) 8) (iu (gt l 3) 6) (iu (gt l 4) 4) U U U U U;have g:(AB (iu (gt l 1) 8) (iu (gt l 2) 8) (iu (iu (gt l 1) 8+4) 8) (iu (gt l 3) 6) (iu (gt l 4) 4)).l=16:=rfl;have hg:∀m:Int,0<=m->m<16->gt (AB (iu (gt l 1) 8) (iu (gt l 2) 8) (iu (iu (gt l 1) 8+4) 8) (iu (gt l 3) 6) (iu (gt l 4) 4)) m∈AB (iu (gt l 1) 8) (iu (gt l 2) 8) (iu (iu (gt l 1) 8+4) 8) (iu (gt l 3) 6) (iu (gt l 4) 4):=λm a b=>ij a U;refine oA.i (a:=iS (gt (AB (iu (gt l 1) 8) (iu (gt l 2) 8) (iu (iu (gt l 1) 8+4) 8) (iu (gt l 3) 6) (iu (gt l 4) 4)) (iu (gt l 0) 16))) ?_ ?_
 .exact alH _ _ _ _ _ _ U U
 .simp;exact Ey.i (gt (AB (iu (gt l 1) 8) (iu (gt l 2) 8) (iu (iu (gt l 1) 8+4) 8) (iu (gt l 3) 6) (iu (gt l 4) 4)) (iu (gt l 0) 16)) rfl rfl (f _ (hg _ U U))
set_option maxHeartbeats 1000000
def Jj(l:List gT)(x:gT)(op:Int):oj (l ++ [x]) op=oj l op+(if x.1=op then 1 else 0):=by unfold oj;rw[dQ];simp[b7];split<;>rfl
def uO(a kinds iw:Int)(x:gT):Prop:=((x.1=1\/x.1=2\/x.1=7)/\0<=x.2/\x.2<a)\/(3<=x.1/\x.1<=6/\x.2=0)\/(x.1=8/\0<=x.2/\x.2<kinds)\/((x.1=9\/x.1=10)/\0<=x.2/\x.2<iw)
structure CQ(p:List gT)(kinds iw:Int)(i:Int)(out:List gT):Prop where
 i0:0<=i/\i<=p.l
 steps:∀x∈out,uO 8 kinds iw x
 Tw:∀op,oj out op<=oj (p.take i.n) op
 len:out.l<=i.n
def CQ.add{p:List gT}{kinds iw i:Int}{out:List gT}(h:CQ p kinds iw i out)(hi:i<p.l){x:gT}(c:uO 8 kinds iw x)(b:x.1=(gt p i).1):CQ p kinds iw (i+1) (out ++ [x]):=by
 have h0:=h.i0;refine⟨U,λy a=>?_,λop=>?_,by have:=h.len;simp;omega⟩
 .rcases ai.1 a with a|a
  .exact h.steps y a
  .grind
 .rw[jP h0.1 hi,Jj,Jj,b];have:=h.Tw op;omega
def CQ.skip{p:List gT}{kinds iw i:Int}{out:List gT}(h:CQ p kinds iw i out)(hi:i<p.l):CQ p kinds iw (i+1) out:=by have h0:=h.i0;refine⟨U,h.steps,λop=>?_,by have:=h.len;omega⟩;rw[jP h0.1 hi,Jj];have:=h.Tw op;split<;>omega
def f151(p:List gT)(kinds iw:Int)(e:yL 8 6 4 p)(q:1<=kinds/\kinds<=6)(o:0<=iw/\iw<=4):Wf T 227 [iS p,.i 8,.i kinds,.i iw] [] (Ey iS λr=>yL 8 kinds iw r/\1<=r.l):=by
 have hl:=e.len;refine Yg NS ?_;simp[NS];refine gZ.e ((0,[]):Int×List gT) (λy=>[(0,iS p),(1,.i 8),(2,.i kinds),(3,.i iw),(9,.gR 0 y.2.l 2 0 y.2.l),(10,.i y.1)]) (λy=>[.row 173 y.2.l (cl fS y.2)]) (λy=>CQ p kinds iw y.1 y.2) (λy=>p.l-y.1.n) ?_ ?_
 .exact⟨gP,gP,gP,gP⟩
 rintro⟨i,out⟩ c;have h0:=c.i0;have k:=c.len;dsimp only at c h0 k ⊢
 by_cases hi:i<p.l
 .have n:=e.steps _ (ij h0.1 hi);have d:=λ(x:gT)=>c.add hi (x:=x)
  have a:∀b:Int,0<b->0<=(gt p i).2->0<=iu (gt p i).2 b/\iu (gt p i).2 b<b:=λb h1 l=>by rw[kK l];exact⟨bZ _ U,bR _ h1⟩
  simp[hi];(with_reducible repeat' first|refine Xk ?_<;>try simp|refine Xs ?_ ?_<;>intro h<;>(try intro s)<;>(try simp[h])<;>try omega|refine Xg ?_|omega)
  .refine LJ.e (i+1,out ++ [(1,iu (gt p i).2 8)]) ?_;have j:=a 8 U;have g:=a kinds U;exact tV (d _ (by unfold uO;dsimp only;omega) iv)
  .refine LJ.e (i+1,out ++ [(2,iu (gt p i).2 8)]) ?_;have j:=a 8 U;have g:=a kinds U;exact tV (d _ (by unfold uO;dsimp only;omega) iv)
  .refine LJ.e (i+1,out ++ [(7,iu (gt p i).2 8)]) ?_;have j:=a 8 U;have g:=a kinds U;exact tV (d _ (by unfold uO;dsimp only;omega) iv)
  .refine LJ.e (i+1,out ++ [(8,iu (gt p i).2 kinds)]) ?_;have j:=a 8 U;have g:=a kinds U;exact tV (d _ (by unfold uO;dsimp only;omega) iv)
  .refine LJ.i (i+1,out) (by first|rfl|simp[*]) (by first|rfl|simp[*]) rfl rfl ?_;exact tV (c.skip hi)
  .have m:=a iw U;refine LJ.e (i+1,out ++ [((gt p i).1,iu (gt p i).2 iw)]) ?_;exact tV (d _ (by unfold uO;dsimp only;omega) zdn)
  .refine LJ.i (i+1,out) (by first|rfl|simp[*]) (by first|rfl|simp[*]) rfl rfl ?_;exact tV (c.skip hi)
  .have m:=a iw U;refine LJ.e (i+1,out ++ [((gt p i).1,iu (gt p i).2 iw)]) ?_;exact tV (d _ (by unfold uO;dsimp only;omega) zdn)
  .refine LJ.e (i+1,out ++ [gt p i]) ?_;exact tV (d _ (by unfold uO;omega) rfl)
 .simp[hi];have f:=c.Tw;rw[nf U]at f;refine ma ?_ ?_<;>intro h
  .refine Ey.i [(3,0)] (by simp[iS]) rfl ⟨⟨gP,gP,by simp[oj],by simp[oj],by simp[oj]⟩,gP⟩
  .refine Ey.i out rfl rfl ⟨⟨c.steps,U,gO (f 6) e.wQ,gO (f 7) e.push,gO (f 8) e.I2⟩,?_⟩;exact ay.2 (by simpa using h)
def f105(n kinds iw:Int)(i:0<=n/\n<256)(d:1<=kinds/\kinds<=6)(a:0<=iw/\iw<=4):Wf T 160 [.val (.int .u8 n),.i 8,.i kinds,.i iw] [] (Ey iS λr=>yL 8 kinds iw r/\1<=r.l):=by refine Yz Il (lV 21 [0] Il.body) ?_;simp[Il,jY,lV,po,py,pY,nQ];have f:∀ρ H,oq ρ H 39 1 0 5 (ek (5,[.val (.int .u8 n),.val (.int .u8 (lh .u8 n 16)),.val (.int .u8 (cp.wrap (lh .u8 n 16+iu n 5))),.val (.int .u8 (lh .u8 n 3)),.val (.int .u8 n)]))=dU [n,lh .u8 n 16,cp.wrap (lh .u8 n 16+iu n 5),lh .u8 n 3,n]:=λρ H=>ahk _ rfl rfl;rw[f];have g:=Lx n 16;have k:=Lx n 3;have h:=afp (lh .u8 n 16+iu n 5);have e:∀m∈[n,lh .u8 n 16,cp.wrap (lh .u8 n 16+iu n 5),lh .u8 n 3,n],0<=m/\m<256:=λm j=>kM;refine Yq (f152 _ rfl e) λp c=>?_;simp;refine Yq (f151 p kinds iw c d a) λq b=>?_;simp;exact Ey.i q rfl rfl b
def EC(n:Int)(nx:List (List Int))(tn:List Int):gY:={ (default:gY)with size:=n,next:=nx,jC:=tn }
def bD(n:Int)(nx:List (List Int))(tn:List Int):D:=.agg [.i n,.sl 1 (nx.map fI),dI tn]
def f150(n:Int)(nx:List (List Int))(tn:List Int)(d:qp (EC n nx tn))(c:Int)(w:0<=c/\c<n):Wf T 226 [bD n nx tn,.i c] [] (Ey (λx:List (List Int)=>.tup [bD n x tn,.i 0]) λx=>qp (EC n x tn)):=by
 have v:1<=n/\n<=9:=d.size;have a:nx.l=8:=d.next
 have u:tn.l=8:=d.jC;have q:∀l∈nx,(l.l:Int)=n/\∀x∈l,-1<=x/\x<n:=d.row;refine Yz Iv (lV 63 [1008] Iv.body) ?_;simp[Iv,jY,lV,po,py,pY,nQ,bD];(with_reducible repeat' first|refine Xk ?_<;>try simp|refine Xs ?_ ?_<;>intro h<;>(try intro m)<;>(try simp[h])<;>try omega|refine Xg ?_|omega);refine gZ.e ((0,0,[]):Int×Nat×List (List Int)) (λy=>[(1,.i c),(2,.ptr 0 0 0),(4,.ptr 1 0 0),(6,.ptr 3 0 0),(7,.i y.1)]) (λy=>.row 39 0 [.i n,.sl 1 (nx.map fI),dI tn] :: .row 39 0 [.i 0,.gV,.gV] :: .row 3 1 (cl f1 tn) :: .row 39 0 [.i n,(if y.1=0 then .gV else .gR 4 y.2.1 1 0 y.2.2.l),.gR 2 1 1 0 tn.l]::(if y.1=0 then []else [.row 37 y.2.1 (cl fI y.2.2)])) (λy=>0<=y.1/\y.1<=8/\y.2.2.l=y.1.n/\∀l∈y.2.2,(l.l:Int)=n/\∀x∈l,-1<=x/\x<n) (λy=>8-y.1.n) ?_ ?_
 .simp
 rintro⟨i,k,out⟩ ⟨i0,s,r,g⟩;dsimp only at i0 s r g ⊢
 by_cases hi:i<nx.l
 .have e:=q _ (ij (l:=nx) i0 hi)
  by_cases b:i=0
  .have p:out = []:=aA.1 U;subst b;subst p;simp[a];refine gZ.e ((0,[]):Int×List Int) (λy=>[(1,.i c),(2,.ptr 0 0 0),(4,.ptr 1 0 0),(6,.ptr 3 0 0),(7,.i 0),(8,.gR 4 y.2.l 1 0 y.2.l),(9,.i y.1)]) (λy=>[.row 39 0 [.i n,.sl 1 (nx.map fI),dI tn],.row 39 0 [.i 0,.gV,.gV],.row 3 1 (cl f1 tn),.row 39 0 [.i n,.gV,.gR 2 1 1 0 tn.l],.row 3 y.2.l (cl f1 y.2)]) (λy=>0<=y.1/\y.1<=n/\y.2.l=y.1.n/\∀x∈y.2,-1<=x/\x<n) (λy=>n.n-y.1.n) ?_ ?_
   .simp;omega
   rintro⟨j,row⟩ ⟨j0,j1,j2,j3⟩;dsimp only at j0 j1 j2 j3 ⊢
   by_cases f:j<n
   .have t:=e.2 _ (ij (l:=gt nx 0) j0 U);simp[a,f];(with_reducible repeat' first|refine Xk ?_<;>try simp|refine Xs ?_ ?_<;>intro h<;>(try intro m)<;>(try simp[h])<;>try omega|refine Xg ?_|omega)
    .refine LJ.i (j+1,row ++ [-1]) (by first|rfl|simp[*]) (by first|rfl|simp[*]) rfl rfl ?_;dsimp only;refine⟨U,U,U,iz,λx a=>?_⟩;rcases ai.1 a with a|a
     .exact j3 x a
     .grind
    .refine LJ.i (j+1,row ++ [-1]) (by first|rfl|simp[*]) (by first|rfl|simp[*]) rfl rfl ?_;dsimp only;refine⟨U,U,U,iz,λx a=>?_⟩;rcases ai.1 a with a|a
     .exact j3 x a
     .grind
    .refine LJ.e (j+1,row ++ [gt (gt nx 0) j]) ?_;dsimp only;refine⟨U,U,U,iz,λx a=>?_⟩;rcases ai.1 a with a|a
     .exact j3 x a
     .grind
   .simp[a,f];refine gU ?_;refine LJ.i (1,0,[row]) (by first|rfl|simp[jw]) (by first|rfl|simp[jw]) rfl rfl ?_;dsimp only;refine⟨U,U,U,gP,λx a=>?_⟩;have o:(row.l:Int)=n/\∀x∈row,-1<=x/\x<n:=⟨U,j3⟩;rw[cc]at a;rw[a];exact o
  .simp[hi,b];refine gZ.e ((0,[]):Int×List Int) (λy=>[(1,.i c),(2,.ptr 0 0 0),(4,.ptr 1 0 0),(6,.ptr 3 0 0),(7,.i i),(8,.gR 5 y.2.l 1 0 y.2.l),(9,.i y.1)]) (λy=>[.row 39 0 [.i n,.sl 1 (nx.map fI),dI tn],.row 39 0 [.i 0,.gV,.gV],.row 3 1 (cl f1 tn),.row 39 0 [.i n,.gR 4 k 1 0 out.l,.gR 2 1 1 0 tn.l],.row 37 k (cl fI out),.row 3 y.2.l (cl f1 y.2)]) (λy=>0<=y.1/\y.1<=n/\y.2.l=y.1.n/\∀x∈y.2,-1<=x/\x<n) (λy=>n.n-y.1.n) ?_ ?_
   .simp;omega
   rintro⟨j,row⟩ ⟨j0,j1,j2,j3⟩;dsimp only at j0 j1 j2 j3 ⊢
   by_cases f:j<n
   .have t:=e.2 _ (ij (l:=gt nx i) j0 U);simp[hi,f,b];(with_reducible repeat' first|refine Xk ?_<;>try simp[b]|refine Xs ?_ ?_<;>intro h<;>(try intro m)<;>(try simp[h,b])<;>try omega|refine Xg ?_|omega)
    .refine LJ.i (j+1,row ++ [-1]) (by first|rfl|simp[*]) (by first|rfl|simp[*]) rfl rfl ?_;dsimp only;refine⟨U,U,U,iz,λx a=>?_⟩;rcases ai.1 a with a|a
     .exact j3 x a
     .grind
    .refine LJ.i (j+1,row ++ [-1]) (by first|rfl|simp[*]) (by first|rfl|simp[*]) rfl rfl ?_;dsimp only;refine⟨U,U,U,iz,λx a=>?_⟩;rcases ai.1 a with a|a
     .exact j3 x a
     .grind
    .refine LJ.e (j+1,row ++ [gt (gt nx i) j]) ?_;dsimp only;refine⟨U,U,U,iz,λx a=>?_⟩;rcases ai.1 a with a|a
     .exact j3 x a
     .grind
   .simp[f,b];refine jM b ?_;refine LJ.i (i+1,k+1,out ++ [row]) (by first|rfl|simp[(U:¬(i+1=0))]) (by first|rfl|simp[(U:¬(i+1=0))]) rfl rfl ?_;dsimp only;refine⟨U,U,U,iz,λx a=>?_⟩;have o:(row.l:Int)=n/\∀x∈row,-1<=x/\x<n:=⟨U,j3⟩;rcases ai.1 a with a|a
    .exact g x a
    .grind
 .simp[hi,(U:¬i=0)];exact Ey.i out gP rfl ⟨d.size,by show out.l=8;omega,g,d.jC,d.turns⟩
