/- Part 14 of DisputeMatchesReference. -/
import Derived.Test.YtmehofoficaelaaGreatDoorM13
set_option linter.all false
open List renaming replicate→aE,getElem?_eq_getElem→bb,mem_singleton→b4,getD_eq_getElem?_getD→cj,map_append→dr,map_cons→dx,map_nil→eh,length→List.l
open Bool renaming true→bs,false→cp
open Option renaming some→di
open Int renaming toNat→Int.n
namespace Go.Proofs.YtmehofoficaelaaGreatDoor
open Go Go.AL Classical
set_option maxRecDepth 10000
set_option maxHeartbeats 1000000
def Xa{g:gv}{p:Pos}(h:¬ended g p){r:List Pos}(hs:lP r)(a:∀q,q∈r↔s0 g p q):gT r=vz g p:=by unfold vz;rw[if_neg h,Uo hs a]
def f60(g:gv)(hg:gZ g)(p:Pos)(n:iI g p):Wf T 85 [dG g,dP p] [] (Is (vz g p)):=by
 refine Yz GZ (jm 66 [2] GZ.body) ?_;simp[GZ,jm,kS,nR,nU,oo,mm];refine Yc (f106 g hg p n) ?_;simp;refine kz ?_ ?_<;>intro h
 .unfold vz;rw[if_pos (N9.1 ‹_›)]
 have k:¬ended g p:=λf=>h (N9.2 f);refine Yq (f107 g hg p n) λl hl=>?_;simp;have D:=hl.2;refine gx.e ((0,cp):Int×Bool) (λy=>[(2,.ptr 0 0 0),(3,.ptr 1 0 0),(5,o6 l),(6,.gh 2 0 5 0 0),(7,.b y.2),(8,.i y.1)]) (λy=>[.row 43 0 g.cells,.row 46 0 p.cells,.row 46 0 []]) (λy=>0<=y.1/\y.1<=l.l/\(y.2=bs↔g.pI=bs/\∃o∈l.take y.1.n,o.kn=bs)) (λy=>l.l-y.1.n) ?_ ?_
 .simp
 rintro⟨i,pI⟩ ⟨h0,h1,f⟩;dsimp only at h0 h1 f ⊢
 by_cases t:i<l.l
 .have e:∀o,o∈l.take (i+1).n↔o∈l.take i.n\/o=gt l i:=λo=>by rw[jI h0 t,aj,b4]
  cases d:g.pI<;>cases pI<;>simp[d,t]
  .refine gi ?_;refine LJ.i (i+1,cp) (by first|rfl|simp[d]) (by first|rfl|simp[d]) rfl rfl ?_;dsimp only;exact ic (by simp[d])
  .grind
  .refine gi ?_;refine LJ.i (i+1,(gt l i).kn) (by first|rfl|simp[d]) (by first|rfl|simp[d]) rfl rfl ?_;dsimp only;refine ic ?_;simp[d]at f ⊢;constructor
   .grind
   .grind
  .refine gi ?_;refine LJ.i (i+1,bs) (by first|rfl|simp[d]) (by first|rfl|simp[d]) rfl rfl ?_;dsimp only;refine ic ?_;simp[d]at f ⊢;obtain⟨o,A,h⟩:=f;exact⟨o,(e o).2 (.inl A),h⟩
 .simp[t];rw[lW U]at f;refine gx.e ((0,0,[]):Int×Nat×List Pos) (λy=>[(2,.ptr 0 0 0),(3,.ptr 1 0 0),(5,o6 l),(6,.gh 2 y.2.1 5 0 y.2.2.l),(7,.b pI),(9,.i y.1)]) (λy=>[.row 43 0 g.cells,.row 46 0 p.cells,.row 46 y.2.1 (cl Pos.cells y.2.2)]) (λy=>0<=y.1/\y.1<=l.l/\(∀q,q∈y.2.2↔∃o∈l.take y.1.n,(pI=bs->o.kn=bs)/\o.p=q)/\y.2.2.l<=y.1.n) (λy=>l.l-y.1.n) ?_ ?_
  .simp
  rintro⟨j,w,out⟩ ⟨j0,j1,j2,j3⟩;dsimp only at j0 j1 j2 j3 ⊢
  by_cases u:j<l.l
  .have e:∀o,o∈l.take (j+1).n↔o∈l.take j.n\/o=gt l j:=λo=>by rw[jI j0 u,aj,b4]
   simp[u];cases pI<;>simp
   .refine gi ?_;refine LJ.e (j+1,w+1,out ++ [(gt l j).p]) ?_;dsimp only;refine⟨U,U,U,λq=>?_,gO⟩;rw[aj,b4,j2];simp only[e];constructor
    .grind
    .grind
   .refine kz ?_ ?_<;>intro h
    .skip;refine LJ.e (j+1,w+1,out ++ [(gt l j).p]) ?_;dsimp only;refine⟨U,U,U,λq=>?_,gO⟩;rw[aj,b4,j2];simp only[e];constructor
     .grind
     .grind
    .refine LJ.e (j+1,w,out) ?_;dsimp only;refine⟨U,U,U,λq=>?_,U⟩;rw[j2];simp only[e];constructor
     .grind
     .grind
  .simp[u];rw[lW U]at j2
   have x:∀q∈out,Small q:=λq v=>by obtain⟨o,a,_,rfl⟩:=(j2 q).1 v;exact(P4 hg n ((hl.1 o).1 a)).small hg
   cases pI<;>simp
   .have s:¬(g.pI=bs/\∃o∈sj g p,o.kn=bs):=by grind
    refine Yq (f108 g hg p n) λC z=>?_;simp;refine gi ?_;refine Yq (f61 (out++C) gO (λq v=>(aj.1 v).elim (x q) (λh=>Xn hg n ((z.2.2 q).1 h)))) λr m=>?_;simp;refine Xa k m.1 λq=>?_;rw[m.2.2,aj,z.2.2,j2];unfold s0;rw[if_neg s];simp only[Ju k,hl.1];simp;exactλ_ c B=>Ju k c B
   .have s:=f.1 rfl;refine Yq (f61 out U x) λr m=>?_;simp;refine Xa k m.1 λq=>?_;rw[m.2.2,j2];unfold s0;simp only[hl.1]at s ⊢;rw[if_pos s];constructor
    .rintro⟨o,a,b,rfl⟩;have:=b trivial;refine⟨Ju k,?_⟩;cases o;simp_all
    .grind
def f112(g:gv)(hg:gZ g)(p:Pos)(b:iI g p):Wf T 82 [dG g,dP p] [] (Is (.agg [.i (stat g p).1,.b (stat g p).2])):=by
 refine Yg KZ ?_;simp[KZ];refine Yc (f106 g hg p b) ?_;simp;refine kz ?_ ?_<;>intro h
 .have a:=N9.1 h;have:=Xp a;refine gi ?_;simp[stat,a,PK a]
 .have a:¬ended g p:=λc=>h (N9.2 c);refine Yc (f60 g hg p b) ?_;simp;refine kz ?_ ?_<;>intro h
  all_goals simp[stat, *]
def f58(g:gv)(hg:gZ g)(p:Pos)(d:iI g p)(l:List Int)(hl:l.l<=100)(h0:∀n∈l,0<=n/\n<256):Wf T 99 [dG g,dP p,dI l] [] (Ey gT λr=>(0<r.l/\r.l<=101)/\∀q∈r,iI g q):=by
 refine Yg M3 ?_;simp[M3];refine gx.e ((0,p,0,[p]):Int×Pos×Nat×List Pos) (λy=>[(2,dI l),(3,.ptr 0 0 0),(4,.ptr 1 0 0),(7,.gh 2 y.2.2.1 5 0 y.2.2.2.l),(8,.i y.1)]) (λy=>[.row 43 0 g.cells,.row 46 0 y.2.1.cells,.row 46 y.2.2.1 (cl Pos.cells y.2.2.2)]) (λy=>0<=y.1/\y.1<=l.l/\iI g y.2.1/\(0<y.2.2.2.l/\y.2.2.2.l<=y.1.n+1)/\∀q∈y.2.2.2,iI g q) (λy=>l.l-y.1.n) ?_ ?_
 .grind
 rintro⟨i,p,m,out⟩ ⟨i0,j,d,f,b⟩;dsimp only at i0 j d f b ⊢;simp;refine kz ?_ ?_<;>intro h
 .refine Yc (f60 g hg p d) ?_;simp;have k:=h0 _ (gF i0 ‹_›)
  have e:0<(jb g p).l->0<=gJ (gt l i) (jb g p).l/\gJ (gt l i) (jb g p).l<(jb g p).l:=λh=>by rw[jO k.1];exact⟨bS _ U,bM _ U⟩
  (with_reducible repeat' first|refine Xk ?_<;>try simp|refine Xs ?_ ?_<;>intro h<;>(try intro o)<;>(try simp[h])<;>try omega|refine Xg ?_|omega)
  .exact Ey.i out rfl rfl (sk b)
  .have a:0<(jb g p).l:=ao.2 ‹_›;have:=e a;omega
  .have a:0<(jb g p).l:=ao.2 ‹_›;have:=e a;refine gi ?_;have gu:=Un hg d (Dv.1 (gF (l:=jb g p) this.1 this.2));refine LJ.e (i+1,gt (jb g p) (gJ (gt l i) (jb g p).l),m+1,out ++ [gt (jb g p) (gJ (gt l i) (jb g p).l)]) ?_;dsimp only;refine⟨U,U,U,gu,gO,λq c=>?_⟩;rcases aj.1 c with c|c
   .exact b q c
   .grind
 .exact Ey.i out rfl rfl (sk b)
structure Nw(g:gv)(p:Pos)(all last:List Pos):Prop where
 BR:lP all
 ok:∀q∈all,iI g q
 has:p∈all
 sub:∀q∈last,q∈all
 cl:∀q∈all,q ∉ last->∀m,s0 g q m->m∈all
 len:all.l<=80
 aiE:last.l<=all.l
def Nw.step{g:gv}(hg:gZ g){p:Pos}{c last next last' all':List Pos}(h:Nw g p c last)(o:∀m,m∈next↔∃q∈last,s0 g q m)(hl:∀m,m∈last'↔m∈next/\m ∉ c)
  (k:last'.Nodup) (hs:lP all') (f:∀q,q∈all'↔q∈c\/q∈last') (i:all'.l<=80):Nw g p all' last'/\(last'≠[]->c.l<all'.l)/\c.l<=all'.l:=by
 have h1:c.l+last'.l<=all'.l:=by rw[<-ar];refine Jt (cZ.2 ⟨h.BR.nodup,k,λa f b t e=>?_⟩) λx l=>(f x).2 (aj.1 l);subst e;exact((hl a).1 t).2 f
 refine⟨⟨hs,λq d=>?_,(f p).2 (.inl h.has),λq d=>(f q).2 (.inr d),λq d v m j=>?_,i,U⟩,λs=>?_,U⟩
 .rcases(f q).1 d with d|d
  .exact h.ok q d
  .obtain⟨r,n,j⟩:=(o q).1 ((hl q).1 d).1;exact Un hg (h.ok r (h.sub r n)) j
 .rcases(f q).1 d with d|d
  .by_cases u:q∈last
   .grind
   .exact(f m).2 (.inl (h.cl q d u m j))
  .grind
 .have:0<last'.l:=ao.2 s;omega
structure Kj(g:gv)(l:List Pos):Prop where
 BR:lP l
 ok:∀q∈l,iI g q
 cl:∀q∈l,∀m,s0 g q m->m∈l
 len:0<l.l/\l.l<=80
end Go.Proofs.YtmehofoficaelaaGreatDoor
namespace Go.AL
open Go
def abO(S:List Nat):jh->Bool
 | .call f _ | .callN f _=>elem f S
 | .callv _ _=>cp
 | .nextM _=>cp
 | _=>bs
def ri(S:List Nat):List iz->Bool
 | []=>bs
 | e::r=>abO S e.op&&ri S r
def tt(S:List Nat):IR->Bool
 | .ops l=>ri S l
 | .mO _ l=>ri S l
 | .nT _ l es=>ri S l&&ri S es
 | .seq a b=>tt S a&&tt S b
 | .cond _ a b=>tt S a&&tt S b
 | .block _ _ a=>tt S a
 | .loop _ a=>tt S a
 | .po _ _ _=>cp
 | _=>bs
def tu(S:List Nat):B0->Bool
 | .ops l _=>ri S l
 | .code c _=>tt S c
 | .loop _ _ a _=>tt S a
 | .call f _ _=>elem f S
 | .trace l _=>ri S l
def One(T:iL)(j:B0)(R:qy->Prop):Prop:=match j with
 | .ops _ _ | .code _ _ | .loop _ _ _ _=>∃o,R (.out o)/\Ev T j (λr=>r = .out o)
 | .call _ _ _=>∃d H,R (.val d H)/\Ev T j (λr=>r = .val d H)
 | .trace _ _=>∃rs s,R (.tr rs s)/\Ev T j (λr=>r = .tr rs s)
def One.mono{T:iL}{j:B0}{R c:qy->Prop}(h:One T j R)(hi:∀r,R r->c r):One T j c:=by
 cases j with
 | call f a H=>obtain⟨d,H',h1,b⟩:=h;exact⟨d,H',hi _ h1,b⟩
 | trace l s=>obtain⟨d,H',h1,b⟩:=h;exact⟨d,H',hi _ h1,b⟩
 | _=>obtain⟨o,h1,b⟩:=h;exact⟨o,hi _ h1,b⟩
def abP{S:List Nat}{env:il}{op:jh}{f:FuncId}{args:List D}(h:abO S op=bs)(a:lB env op=di (f,args)):elem f S=true:=by cases op<;>first|(cases a;exact h)|(cases h;done)|(cases a;done)
section
variable{T:iL}{S:List Nat}(hS:∀f fn,elem f S=bs->T.fn f=di fn->tt S fn.body=bs)(hN:∀f,elem f S=bs->T.sort f=none/\T.uM f=cp/\T.uq f=cp)
include hS hN
theorem aoe{j:B0}{R:qy->Prop}(h:Ev T j R):tu S j=bs->One T j R:=by
 induction h with
 | mono h hi m=>exactλf=>(m f).mono hi
 | sort fc l P hs=>intro f;rw[(hN _ f).1]at hs;cases hs
 | Gk hs=>intro f;rw[(hN _ f).1]at hs;cases hs
 | uM l hs=>intro f;rw[(hN _ f).2.1]at hs;cases hs
 | uq l i hs=>intro f;rw[(hN _ f).2.2]at hs;cases hs
 | nil h=>exactλ_=>⟨_,h,.nil rfl⟩
 | op hg h t m=>
  intro f;simp only[tu,ri,ai]at f;obtain⟨o,h1,g⟩:=m f.2;exact⟨o,h1,.op hg h g⟩
 | DT hg h t m=>
  intro f;simp only[tu,ri,ai]at f;obtain⟨o,h1,g⟩:=m f.2;exact⟨o,h1,.DT hg h g⟩
 | off hg t m=>
  intro f;simp only[tu,ri,ai]at f;obtain⟨o,h1,g⟩:=m f.2;exact⟨o,h1,.off hg g⟩
 | mQ I G t m=>intro f;obtain⟨o,h1,g⟩:=m f;exact⟨o,h1,.mQ I G g⟩
 | H9 I G t m=>intro f;obtain⟨o,h1,g⟩:=m f;exact⟨o,h1,.H9 I G g⟩
 | RR live t m=>intro f;obtain⟨o,h1,g⟩:=m f;exact⟨o,h1,.RR live g⟩
 | H8 live t m=>intro f;obtain⟨o,h1,g⟩:=m f;exact⟨o,h1,.H8 live g⟩
 | Hw hg u w q h C t m A=>
  intro f;simp only[tu,ri,ai]at f;obtain⟨d,Hn,h1,g⟩:=m (abP f.1 u);obtain⟨n,L⟩:=dt.1 (C d Hn h1);obtain⟨o,y,z⟩:=A d Hn n h1 L f.2;exact⟨o,y,.Hw hg u w q g (λd' J e=>by cases e;exact C _ _ h1) λd' J p e O=>jZ⟩
 | Hv hg u w q h t m A=>
  intro f;simp only[tu,ri,ai]at f;obtain⟨d,Hn,h1,g⟩:=m (abP f.1 u);obtain⟨o,y,z⟩:=A d Hn h1 f.2;exact⟨o,y,.Hv hg u w q g λd' J e=>by cases e;exact z⟩
 | @NI e r s v args rf env0 Rd Ra Rb R hg u=>
  intro f;simp only[tu,ri,ai]at f;exfalso;have h1:=f.1;revert u h1;cases e.op<;>intro u h1<;>first|(cases u;done)|(cases h1;done)
 | next hg E=>
  intro f;simp only[tu,ri,ai]at f;have h1:=f.1;rw[E]at h1;cases h1
 | J7 h=>exactλ_=>⟨_,_,h,.J7 rfl⟩
 | J9 hg h t k m=>
  intro f;simp only[tu,ri,ai]at f;obtain⟨rs,n,h1,g⟩:=m f.2;exact⟨_,n,k rs n h1,.J9 hg h g λB p e=>by cases e;rfl⟩
 | J8 hg t k m=>
  intro f;simp only[tu,ri,ai]at f;obtain⟨rs,n,h1,g⟩:=m f.2;exact⟨_,n,k rs n h1,.J8 hg g λB p e=>by cases e;rfl⟩
 | J4 hg u w q h h0 F t k m A=>
  intro f;simp only[tu,ri,ai]at f;obtain⟨rs,n,h1,g⟩:=A f.2;exact⟨_,n,k rs n h1,.J4 hg u w q h h0 F g λB p e=>by cases e;rfl⟩
 | J5 hg E C w q h h0 F t k m A=>
  intro f;simp only[tu,ri,ai]at f;obtain⟨rs,n,h1,g⟩:=A f.2;exact⟨_,n,k rs n h1,.J5 hg E C w q h h0 F g λB p e=>by cases e;rfl⟩
 | J6 hg E C w q H M K N h h0 F t k m A=>
  intro f;simp only[tu,ri,ai]at f;obtain⟨rs,n,h1,g⟩:=A f.2;exact⟨_,n,k rs n h1,.J6 hg E C w q H M K N h h0 F g λB p e=>by cases e;rfl⟩
 | mO t q m=>
  intro f;obtain⟨rs,n,h1,g⟩:=m f;exact⟨_,(q rs n h1).2,.mO g λB p e=>by cases e;exact⟨(q rs n h1).1,rfl⟩⟩
 | nT t q k m D=>
  intro f;simp only[tu,tt,ai]at f;obtain⟨rs,n,h1,g⟩:=m f.1;obtain⟨o,y,z⟩:=D rs n h1 f.2;exact⟨o,y,.nT g (λB p e=>by cases e;exact q _ _ h1) λB p e=>by cases e;exact z⟩
 | skip h=>exactλ_=>⟨_,h,.skip rfl⟩
 | HJ h m=>intro f;obtain⟨o,h1,g⟩:=m f;exact⟨o,h1,.HJ g⟩
 | seq h k hs m D=>
  intro f;simp only[tu,tt,ai]at f;obtain⟨o,h1,g⟩:=m f.1
  cases o with
  | norm n=>
   obtain⟨o,y,z⟩:=D n h1 f.2;exact⟨o,y,.seq g (λp e=>by cases e;exact z) λo e hs=>by cases e;cases hs⟩
  | exit id n=>exact⟨_,hs _ h1 rfl,.seq g (λp e=>by cases e) λo e hs=>by cases e;rfl⟩
  | ret n=>exact⟨_,hs _ h1 rfl,.seq g (λp e=>by cases e) λo e hs=>by cases e;rfl⟩
 | @cond c a b s x R u h m=>
  intro f;simp only[tu,tt,ai]at f;obtain⟨o,h1,g⟩:=m (by cases x;exact f.2;exact f.1);exact⟨o,h1,.cond u g⟩
 | block h k m=>
  intro f;obtain⟨o,h1,g⟩:=m f;exact⟨_,k o h1,.block g λo e=>by cases e;rfl⟩
 | loop h m=>intro f;obtain⟨o,h1,g⟩:=m f;exact⟨o,h1,.loop g⟩
 | Bt h k hs m D=>
  intro f;obtain⟨o,h1,g⟩:=m f
  cases o with
  | norm n=>
   obtain⟨o,y,z⟩:=D n h1 f;exact⟨o,y,.Bt g (λp e=>by cases e;exact z) λo e hs=>by cases e;cases hs⟩
  | exit id n=>exact⟨_,hs _ h1 rfl,.Bt g (λp e=>by cases e) λo e hs=>by cases e;rfl⟩
  | ret n=>exact⟨_,hs _ h1 rfl,.Bt g (λp e=>by cases e) λo e hs=>by cases e;rfl⟩
 | po=>intro f;cases f
 | exit h=>exactλ_=>⟨_,h,.exit rfl⟩
 | ret h=>exactλ_=>⟨_,h,.ret rfl⟩
 | call own w hl h k m=>
  intro f;obtain⟨o,h1,g⟩:=m (hS _ _ f w);obtain⟨d,H',y,z⟩:=k o h1;exact⟨d,H',z,.call own w hl g λo' e=>by cases e;exact⟨d,H',y,rfl⟩⟩
end
def NN(S:List Nat):Nat->List (Option jK)->Bool
 | _,[]=>bs
 | k,a::l=>(bif elem k S then(match a with|some fn=>tt S fn.body|none=>bs)else bs)&&NN S (k+1) l
theorem Wz{S:List Nat}{fn:jK}:∀ {l:List (Option jK)} {k i:Nat},NN S k l=bs->nth l i=di fn->elem (k+i) S=bs->tt S fn.body=bs
 | [],_,_,_,h,_=>by cases h
 | a::l,k,0,h,h2,h3=>by simp only[NN,ai]at h;cases h2;rw[cJ]at h3;simpa only[h3,cond_true]using h.1
 | a::l,k,i+1,h,h2,h3=>by simp only[NN,ai]at h;exact Wz (l:=l) (k:=k+1) (i:=i) h.2 h2 (by rw[bg,dB 1 i];exact h3)
def Wf.one{T:iL}{S:List Nat}(hS:∀f fn,elem f S=bs->T.fn f=di fn->tt S fn.body=bs)(hN:∀f,elem f S=bs->T.sort f=none/\T.uM f=cp/\T.uq f=cp){f:FuncId}{args:List D}{H:gg}{K:D->gg->Prop}(h:Wf T f args H K)(a:elem f S=bs) :
  ∃d H',K d H'/\Wf T f args H λd2 H2=>d2=d/\H2=H':=by
 obtain⟨d,H',⟨d2,H2,e,h1⟩,b⟩:=aoe hS hN h a;cases e;exact⟨d,H',h1,Ev.mono b λr e=>⟨_,_,e,rfl,rfl⟩⟩
end Go.AL
namespace Go.Proofs.YtmehofoficaelaaGreatDoor
open Go Go.AL
def F8:List Nat:=[13,15,17,18,21,22,25,27,29,31,32,34,36,38,39,40,41,43,44,50,51,55,60,68,69,71,72,73,74,76,77,78,79,80,82,83,84,85,86,87,88,90,91,92,98,99,100,101,127,128,129,130,131,132,133,134,136,137,138,139,140,141,142,143,144,159,160,161,162,200,201,202,203,204,205,206,207,208,209,210,211,225,226,227,228,252,253,254,255,256,257,258,278,283,284,285,294,295,296,297,298,299,321]
def aoH:∀f fn,elem f F8=bs->T.fn f=di fn->tt F8 fn.body=true:=λf fn h a=>
 Wz (S:=F8) (l:=fns) (k:=0) (i:=f) gw a (by rw[aV];exact h)
def aoI:∀f,elem f F8=bs->T.sort f=none/\T.uM f=cp/\T.uq f=false:=λf h=>by
 by_cases h1:f=151
 .subst h1;exact absurd h jr
 by_cases d:f=261
 .subst d;exact absurd h jr
 by_cases c:f=67
 .subst c;exact absurd h jr
 by_cases b:f=66
 .subst b;exact absurd h jr
 refine⟨?_,?_,?_⟩
 .show(if f=151 then di 5 else if f=261 then di 6 else none)=none;rw[if_neg h1,if_neg d]
 .show Nat.beq f 67=cp
  cases a:Nat.beq f 67 with
  | false=>rfl
  | true=>exact absurd (cF a) c
 .show Nat.beq f 66=cp
  cases a:Nat.beq f 66 with
  | false=>rfl
  | true=>exact absurd (cF a) b
section
variable{f:FuncId}{args:List D}{dst:Option Nat}{s:St}{fn:jK}{R:List Fp}{Q:Rc->St->Prop}
theorem ji.q{α:Type}{g:α->D}{P:α->Prop}(e:T.fn f=di fn)(c:fn.full=cp)(h1:elem f F8=bs)(h:Wf T f args [] (Ex g P))(i:gN args=bs)(a:∀r,closed (g r)=bs)
  (k:∀r,P r->Q ⟨R,[]⟩ { s with env:=put s.env dst (g r) }):ji T f args R dst s Q .mk:=by
 obtain⟨d,H',⟨r,rfl,rfl,b⟩,j⟩:=Wf.one aoH aoI h h1;exact ji.c e c j i (a r) (k r b)
end
def Yv{f:FuncId}{args:List D}{R:List Fp}{dst:Option Nat}{s:St}{Q:Rc->St->Prop}{fn:jK}{α:Type}{g:α->D}{P:α->Prop}(h:Wf T f args [] (Ex g P))(k:∀r,P r->Q ⟨R,[]⟩ { s with env:=put s.env dst (g r) })
  (c:T.fn f=di fn:=by exact rfl) (b:fn.full=false:=by exact rfl) (h1:elem f F8=true:=by exact rfl) (d:gN args=true:=by simp) (a:∀r,closed (g r)=true:=by intro;simp):ji T f args R dst s Q .mk:=ji.q c b h1 h d a k
end Go.Proofs.YtmehofoficaelaaGreatDoor
namespace Go.AL
open Go
abbrev Kn:=Int×Int×Bool
@[irreducible] def fK(x:Kn):List D:=[.i x.1,.i x.2.1,.b x.2.2]
@[simp] theorem EO(x:Kn):fK x = [.i x.1,.i x.2.1,.b x.2.2]:=by unfold fK;rfl
instance:Fl fK 3:=⟨λ_=>gf,λ_=>by simp[gN]⟩
@[simp] theorem aul(l:List Kn)(a b:Int)(c:Bool):cl fK l ++ [.i a,.i b,.b c]=cl fK (l ++ [(a,b,c)]):=by rw[<-rK,EO]
@[simp] theorem ad6(l:List Bool)(c:Bool):cl fB l ++ [.b c]=cl fB (l ++ [c]):=by rw[<-rK,HW]
theorem NQ{α:Type}[Inhabited α]{f:α->List D}{sz:Nat}[F:Fl f sz]{l:List α}{n:Int}{j:Nat}(b:j<sz){P:D->Prop}:oA (cl f l)[n.n*sz+j]? P .mk=(n.n<l.l/\oA (f (gt l n))[j]? P .mk):=by
 rw[WM (f:=f) l n.n j b]
 by_cases a:n.n<l.l
 .rw[bb a];have e:gt l n=l[n.n]:=by unfold gt;rw[cj,bb a];rfl
  simp[a,e]
 .rw[cG U];simp[a]
@[simp] theorem ax3{l:List Kn}{n:Int}{P:D->Prop}:oA (cl fK l)[n.n*3+2]? P .mk=(n.n<l.l/\P (.b (gt l n).2.2)):=by have:=NQ (f:=fK) (l:=l) (n:=n) (j:=2) jr (P:=P);simpa using this
@[simp] theorem ax2{l:List Bool}{n:Int}{P:D->Prop}:oA (cl fB l)[n.n]? P .mk=(n.n<l.l/\P (.b (gt l n))):=by have:=NQ (f:=fB) (l:=l) (n:=n) (j:=0) jr (P:=P);simpa using this
def WI{l:List Kn}{n:Int}(h:n.n<l.l):(cl fK l).drop (n.n*3)=fK (gt l n)++cl fK (l.drop (n.n+1)):=by rw[vX,bL h,nS];congr 1;unfold gt;rw[cj,bb h];rfl
def ad7{l:List Kn}{n:Int}(h:n.n<l.l)(a b:Int):(cl fK l).take (n.n*3) ++ .i a :: .i b::(cl fK l).drop (n.n*3+2)=cl fK (pt l n (a,b,(gt l n).2.2)):=by
 have e:(cl fK l).drop (n.n*3+2) = .b (gt l n).2.2::cl fK (l.drop (n.n+1)):=by rw[<-cz,WI h,EO];rfl
 rw[e,y9];unfold pt;rw[<-Cf,nS,EO];rfl
@[simp] theorem awV{l:List Kn}{t:TypeId}{n:Int}:wD 2 (n.n*3) (di (t,cl fK l))=if n.n<l.l then di (.agg [.i (gt l n).1,.i (gt l n).2.1])else none:=by
 unfold wD;dsimp only
 by_cases h:n.n<l.l
 .rw[if_pos h,if_pos (by rw[rJ];omega),WI h,EO];rfl
 .rw[if_neg h,if_neg (by rw[rJ];omega)]
def NR{α:Type}{f:α->List D}{sz:Nat}[F:Fl f sz](l:List α)(n:Int)(h1:n.n<l.l)(a:α):(cl f l).take (n.n*sz)++(f a++(cl f l).drop (n.n*sz+sz))=cl f (pt l n a):=by have:=aef (f:=f) l n.n a h1;rw[aN]at this;exact this
theorem JK{α:Type}{f:α->List D}(a:α):∀n:Nat,(aE n (f a)).flatten=cl f (aE n a)
 | 0=>gf
 | n+1=>by rw[bw,a8,JK a n,bw,nS]
@[simp] theorem aoK(b:Bool)(n:Nat):(aE n [D.b b]).flatten=cl fB (aE n b):=by rw[<-JK,HW]
@[simp] theorem aoL(b:Int)(n:Nat):(aE n [D.i b]).flatten=cl f1 (aE n b):=by rw[<-JK,EN]
@[simp] theorem azA(a b:Int)(n:Nat):(aE n [D.i a,D.i b]).flatten=cl fS (aE n (a,b)):=by rw[<-JK,Cv]
@[simp] theorem azy(b:Bool)(n:Nat):aE n (D.b b)=cl fB (aE n b):=by rw[<-aoK];simp
@[simp] theorem azz(b:Int)(n:Nat):aE n (D.i b)=cl f1 (aE n b):=by rw[<-aoL];simp
def v8(l:List Bool):Nat:=l.countP λb => !b
def abZ{α:Type}[Inhabited α]{l:List α}{n:Int}{a b:α}(h0:0<=n)(h:n<l.l):pt (pt l n a) n b=pt l n b:=by rw[JA (l:=pt l n a) h0 (by rw[jg h0 h];exact h),JA h0 h,JA h0 h,List.set_set]
def agG{l:List Bool}{n:Int}(h0:0<=n)(h:n<l.l)(a:gt l n=cp)(b:Bool):v8 (pt l n b)+(if b then 1 else 0)=v8 l:=by
 have e:l=l.take n.n++gt l n::l.drop (n.n+1):=by rw[<-o7 h0 h,bZ]
 unfold pt
 conv=>rhs;rw[e]
 unfold v8;rw[de,de,c8,c8,a];cases b<;>simp<;>omega
end Go.AL
namespace Go.Proofs.YtmehofoficaelaaGreatDoor
open Go Go.AL Classical
set_option maxRecDepth 10000
set_option maxHeartbeats 1000000
structure mY(g:gv)(l:List Pos):Prop where
 BR:lP l
 ok:∀q∈l,iI g q
 cl:∀q∈l,∀m,s0 g q m->m∈l
 len:l.l<=4000
def Kj.c2{g:gv}{l:List Pos}(h:Kj g l):mY g l:=⟨h.BR,h.ok,h.cl,by have:=h.len;omega⟩
noncomputable def gy(g:gv)(l:List Pos):List (List Int):=l.map λp=>(jb g p).map (rj l)
def f37(g:gv)(hg:gZ g)(l:List Pos)(hl:mY g l):Wf T 39 [dG g,gT l] [] (Is (.tup [.sl 1 ((gy g l).map fI),.b bs])):=by
 have k:=hl.len;have b:∀q∈l,Small q:=λq c=>(hl.ok q c).small hg;refine Yz GV (jm 59 [2] GV.body) ?_;simp[GV,jm,kS,nR,nU,oo,mm];(with_reducible repeat' first|refine Xk ?_<;>try simp|refine Xs ?_ ?_<;>intro h<;>(try intro o)<;>(try simp[h])<;>try omega|refine Xg ?_|omega);refine Yc (f64 l U b) ?_;simp;have hs:=hl.BR;refine gi ?_;refine gx.e ((0,0,[]):Int×Nat×List (List Int)) (λy=>[(1,gT l),(2,.ptr 0 0 0),(6,.gh 1 y.2.1 1 0 y.2.2.l),(7,.i y.1)]) (λy=>[.row 43 0 g.cells,.row 37 y.2.1 (cl fI y.2.2)]) (λy=>0<=y.1/\y.1<=l.l/\y.2.2=(l.take y.1.n).map λp=>(jb g p).map (rj l)) (λy=>l.l-y.1.n) ?_ ?_
 .simp
 rintro⟨i,e,out⟩ ⟨i0,n,a⟩;dsimp only at i0 n a ⊢;simp;have u:out.l<=4000:=by rw[a];simp;omega
 refine kz ?_ ?_<;>intro h
 .have d:=hl.ok _ (gF i0 ‹_›);refine Yt (f65 g _ hg d) ?_;simp;refine gi ?_;refine Yt (f60 g hg _ d) ?_;simp;have t:=wG hg d;have m:∀q∈jb g (gt l i),q∈l:=λq c=>hl.cl _ (gF i0 ‹_›) q (Dv.1 c);refine gx.e ((0,0,[]):Int×Nat×List Int) (λy=>[(1,gT l),(2,.ptr 0 0 0),(6,.gh 1 e 1 0 out.l),(7,.i i),(8,vz g (gt l i)),(9,.gh 2 y.2.1 1 0 y.2.2.l),(10,.i y.1)]) (λy=>[.row 43 0 g.cells,.row 37 e (cl fI out),.row 3 y.2.1 (cl f1 y.2.2)]) (λy=>0<=y.1/\y.1<=(jb g (gt l i)).l/\y.2.2=((jb g (gt l i)).take y.1.n).map (rj l)) (λy=>(jb g (gt l i)).l-y.1.n) ?_ ?_
  .simp
  rintro⟨j,gm,row⟩ ⟨j0,j1,j2⟩;dsimp only at j0 j1 j2 ⊢;have r:row.l<=j.n:=by rw[j2];simp;omega
  simp;refine kz ?_ ?_<;>intro h
  .have f:=m _ (gF j0 ‹_›);refine Yc (f27 l _ U b (b _ f) hs) ?_;simp;have s:=H7 f;(with_reducible repeat' first|refine Xk ?_<;>try simp|refine Xs ?_ ?_<;>intro h<;>(try intro o)<;>(try simp[h])<;>try omega|refine Xg ?_|omega);refine LJ.e (j+1,gm+1,row ++ [rj l (gt (jb g (gt l i)) j)]) ?_;dsimp only;refine ic ?_;rw[jI j0 ‹_›,dr,j2];rfl
  .refine gi ?_;refine LJ.e (i+1,e+1,out ++ [row]) ?_;dsimp only;refine ic ?_;rw[jI i0 ‹_›,dr,a];rw[lW U]at j2;rw[j2];rfl
 .rw[a,lW U];rfl
noncomputable def oT(g:gv)(p:Pos):Kn:=((stat g p).1,0,(stat g p).2)
def agB(g:gv)(hg:gZ g)(l:List Pos)(hl:mY g l):Wf T 128 [dG g,gT l] [] (λd H=>d = .gh 0 l.l 3 0 l.l/\H = [.row 245 l.l (cl fK (l.map (oT g)))]):=by
 have b:=hl.len;refine Wf.xo 1 (fn:=BY) rfl (by simp[BY]) ?_;simp[BY];refine gx.e ((0,[]):Int×List Kn) (λy=>[(1,gT l),(2,.ptr 0 0 0),(5,.gh 1 y.2.l 3 0 y.2.l),(6,.i y.1)]) (λy=>[.row 43 0 g.cells,.row 245 y.2.l (cl fK y.2)]) (λy=>0<=y.1/\y.1<=l.l/\y.2=(l.take y.1.n).map (oT g)) (λy=>l.l-y.1.n) ?_ ?_
 .simp
 rintro⟨i,out⟩ ⟨i0,c,a⟩;dsimp only at i0 c a ⊢;have j:out.l=i.n:=by rw[a];simp;omega
 simp;refine kz ?_ ?_<;>intro h
 .refine Yt (f112 g hg _ (hl.ok _ (gF i0 ‹_›))) ?_;simp;refine gi ?_;refine LJ.i (i+1,out ++ [oT g (gt l i)]) (by first|rfl|simp[oT]) (by first|rfl|simp[oT]) rfl rfl ?_;dsimp only;refine ic ?_;rw[jI i0 ‹_›,dr,a];rfl
 .have e:out=l.map (oT g):=by rw[a,lW U]
  have f:out.l=l.l:=by rw[e];simp
  rw[<-e]
def oN{g:gv}{l:List Pos}(hl:mY g l){i:Int}(h0:0<=i)(h1:i<l.l):gt (gy g l) i=(jb g (gt l i)).map (rj l)/\∀k∈gt (gy g l) i,0<=k/\k<l.l:=by
 have e:gt (gy g l) i=(jb g (gt l i)).map (rj l):=by unfold gy gt;simp only[cj,ax];rw[bb U];rfl
 refine⟨e,λk a=>?_⟩;rw[e]at a;obtain⟨q,b,rfl⟩:=au.1 a;have:=H7 (hl.cl _ (gF h0 h1) q (Dv.1 b));exact⟨this.1,this.2.1⟩
def f69(o s:Int)(hs:0<=s/\s<=1):Wf T 131 [.i o,.i s] [] (Is (.i (if o=1 then s else if o=3 then 1-s else -1))):=by
 refine Yg Na ?_;simp[Na];exact nb
 all_goals simp[*]
def f68(g:gv)(hg:gZ g)(l:List Pos)(hl:mY g l)(side:Int)(E:0<=side/\side<=1):Wf T 130 [dG g,gT l,.sl 1 ((gy g l).map fI),.i side] [] (Ey (λr:List Bool=>.sl 1 (r.map fB)) λr=>r.l=l.l):=by
 have s:=hl.len;have D:(gy g l).l=l.l:=by simp[gy]
 have t:=λ(i:Int) (a:0<=i) (b:i<l.l)=>oN hl a b
 have u:∀i:Int,0<=i->i<l.l->(gt (gy g l) i).l<=4000000000:=λi a b=>by rw[(t i a b).1,List.length_map];exact wG hg (hl.ok _ (gF a b))
 refine Yg M9 ?_;simp[M9];refine gi ?_;refine gx.e ((aE l.l cp,bs):List Bool×Bool) (λy=>[(1,gT l),(2,.sl 1 ((gy g l).map fI)),(3,.i side),(4,.ptr 0 0 0),(9,.gh 1 0 1 0 l.l),(10,.b y.2)]) (λy=>[.row 43 0 g.cells,.row 4 0 (cl fB y.1)]) (λy=>y.1.l=l.l) (λy=>2*v8 y.1+(if y.2 then 1 else 0)) ?_ ?_
 .simp
 rintro⟨f,ch⟩ h0;dsimp only at h0 ⊢;cases ch
 .simp[h0];exact Ey.i f rfl rfl h0
 simp;refine gx.e ((0,f,cp):Int×List Bool×Bool) (λy=>[(1,gT l),(2,.sl 1 ((gy g l).map fI)),(3,.i side),(4,.ptr 0 0 0),(9,.gh 1 0 1 0 l.l),(10,.b y.2.2),(11,.i y.1)]) (λy=>[.row 43 0 g.cells,.row 4 0 (cl fB y.2.1)]) (λy=>0<=y.1/\y.1<=l.l/\y.2.1.l=l.l/\v8 y.2.1<=v8 f/\(y.2.2=bs->v8 y.2.1<v8 f)) (λy=>l.l-y.1.n) ?_ ?_
 .grind
 rintro⟨i,w,ch⟩ ⟨i0,A,m,q,p⟩;dsimp only at i0 A m q p ⊢
 by_cases hi:i<l.l
 .have o:=hl.ok _ (gF i0 hi);simp[hi];refine kz ?_ ?_<;>intro h
  .refine LJ.e (i+1,w,ch) ?_;dsimp only;exact ic ⟨m,q,p⟩
  .refine Yt (f112 g hg _ o) ?_;simp;have z:=h;refine gx.e ((0,cp,bs):Int×Bool×Bool) (λy=>[(1,gT l),(2,.sl 1 ((gy g l).map fI)),(3,.i side),(4,.ptr 0 0 0),(9,.gh 1 0 1 0 l.l),(10,.b ch),(11,.i i),(12,.ptr 2 0 0),(13,.b y.2.1),(14,.b y.2.2),(15,.i y.1)]) (λy=>[.row 43 0 g.cells,.row 4 0 (cl fB w),.row 193 0 [.i (stat g (gt l i)).1,.b (stat g (gt l i)).2]]) (λy=>0<=y.1/\y.1<=(gt (gy g l) i).l) (λy=>(gt (gy g l) i).l-y.1.n) ?_ ?_
   .simp
   rintro⟨k,j,al⟩ ⟨k0,k1⟩;dsimp only at k0 k1 ⊢
   by_cases n:k<(gt (gy g l) i).l
   .have F:=(t i i0 hi).2 _ (gF k0 n);have G:=u i i0 hi;generalize C:gt (gt (gy g l) i) k=x at *;cases j<;>cases al<;>simp[hi,n,C]<;>refine gi ?_
    .refine LJ.e (k+1,gt w x,cp) ?_;dsimp only;omega
    .refine LJ.e (k+1,gt w x,gt w x) ?_;dsimp only;omega
    .refine LJ.e (k+1,bs,cp) ?_;dsimp only;omega
    .refine LJ.e (k+1,bs,gt w x) ?_;dsimp only;omega
   .have d:∀v,(pt w i v).l=w.l:=λv=>jg i0 U;have e:∀v,gt (pt w i v) i=v:=λv=>ES i0 U
    have c:∀b:Bool,0<=i+1/\i+1<=l.l/\(pt w i b).l=l.l/\v8 (pt w i b)<=v8 f/\((ch||b)=bs->v8 (pt w i b)<v8 f):=λb=>by
     have h1:=agG i0 U z b;refine⟨U,U,by rw[d];exact m,U,λH=>?_⟩;cases b
     .grind
     .grind
    cases ch
    .simp[hi,n];have c:∀b:Bool,_:=c;(with_reducible repeat' first|refine Xk ?_<;>try simp[d,e]|refine Xs ?_ ?_<;>intro h<;>(try intro B)<;>(try simp[h,d,e])<;>try omega|refine Xg ?_|omega)
     .refine Yt (f69 (stat g (gt l i)).1 _ o.side) ?_;simp[d,e];refine jT d e ?_;refine LJ.e (i+1,pt w i (!decide ((if (stat g (gt l i)).1=1 then(gt l i).side else if (stat g (gt l i)).1=3 then 1-(gt l i).side else -1)=1-side)),cp || !decide ((if (stat g (gt l i)).1=1 then(gt l i).side else if (stat g (gt l i)).1=3 then 1-(gt l i).side else -1)=1-side)) ?_;exact qt (c _)
     .refine LJ.e (i+1,pt w i j,cp||j) ?_;exact qt (c _)
     .refine LJ.e (i+1,pt w i al,cp||al) ?_;exact qt (c _)
    .simp[hi,n];have c:∀b:Bool,_:=c;(with_reducible repeat' first|refine Xk ?_<;>try simp[d,e]|refine Xs ?_ ?_<;>intro h<;>(try intro B)<;>(try simp[h,d,e])<;>try omega|refine Xg ?_|omega)
     .refine Yt (f69 (stat g (gt l i)).1 _ o.side) ?_;simp[d,e];refine jT d e ?_;refine LJ.e (i+1,pt w i (!decide ((if (stat g (gt l i)).1=1 then(gt l i).side else if (stat g (gt l i)).1=3 then 1-(gt l i).side else -1)=1-side)),bs || !decide ((if (stat g (gt l i)).1=1 then(gt l i).side else if (stat g (gt l i)).1=3 then 1-(gt l i).side else -1)=1-side)) ?_;exact qt (c _)
     .refine LJ.e (i+1,pt w i j,bs||j) ?_;exact qt (c _)
     .refine LJ.e (i+1,pt w i al,bs||al) ?_;exact qt (c _)
 .simp[hi];refine LJ.e (w,ch) ?_;dsimp only;refine⟨?_,m⟩;cases ch
  .simp;omega
  .grind
def f39(g:gv)(hg:gZ g)(l:List Pos)(hl:mY g l)(v:List gj)(p:v.l=l.l):Wf T 72 [dG g,gT l,.sl 1 ((gy g l).map fI),iu v] [] (Ey dI λ_=>True):=by
 have f:=hl.len;refine Yg MW ?_;simp[MW];refine gx.e ((0,[]):Int×List Int) (λy=>[(1,gT l),(2,.sl 1 ((gy g l).map fI)),(3,iu v),(4,.ptr 0 0 0),(9,.gh 1 y.2.l 1 0 y.2.l),(10,.i y.1)]) (λy=>[.row 43 0 g.cells,.row 3 y.2.l (cl f1 y.2)]) (λy=>0<=y.1/\y.1<=v.l/\y.2.l=y.1.n) (λy=>v.l-y.1.n) ?_ ?_
 .simp
 rintro⟨i,w⟩ ⟨i0,n,m⟩;dsimp only at i0 n m ⊢;simp;(with_reducible repeat' first|refine Xk ?_<;>try simp|refine Xs ?_ ?_<;>intro h<;>(try intro k)<;>(try simp[h])<;>try omega|refine Xg ?_|omega)
 .refine LJ.e (i+1,w ++ [(gt v i).1]) ?_;exact ic gO
 .exact Ey.i w rfl rfl trivial
 .have c:=f68 g hg l hl 0 U;simp only[dG,gv.cells]at c;rw[h]at c;refine gE.q rfl rfl c gf (λr=>by simp[wZ]) ?_;intro r o;simp;refine gx.e ((0,w):Int×List Int) (λy=>[(1,gT l),(3,iu v),(9,.gh 1 w.l 1 0 w.l),(11,.i 1),(12,.sl 1 (r.map fB)),(13,.i y.1)]) (λy=>[.row 43 0 g.cells,.row 3 w.l (cl f1 y.2)]) (λy=>0<=y.1/\y.1<=l.l/\y.2.l=w.l) (λy=>l.l-y.1.n) ?_ ?_
  .simp
  rintro⟨j,u⟩ ⟨j0,j1,j2⟩;dsimp only at j0 j1 j2 ⊢
  by_cases d:j<l.l
  .have a:∀x:Int,(pt u j x).l=u.l:=λx=>jg j0 U;have b:∀x y:Int,pt (pt u j x) j y=pt u j y:=λx y=>abZ j0 U;have e:=hl.ok _ (gF j0 d);simp[d];refine gi ?_;refine Yt (f69 (gt v j).1 _ e.side) ?_;simp[a,b];(with_reducible repeat' first|refine Xk ?_<;>try simp[a,b]|refine Xs ?_ ?_<;>intro h<;>(try intro k)<;>(try simp[h,a,b])<;>try omega|refine Xg ?_|omega)
   all_goals first
    | (refine LJ.i (j+1,u) rfl rfl rfl rfl (ic (by first|exact j2|(dsimp only;rw[a];exact j2)));done)
    | (refine LJ.i (j+1,pt u j 2) rfl rfl rfl rfl (ic (by first|exact j2|(dsimp only;rw[a];exact j2)));done)
    | (refine LJ.i (j+1,pt u j 1) rfl rfl rfl rfl (ic (by first|exact j2|(dsimp only;rw[a];exact j2)));done)
    | (refine LJ.i (j+1,pt u j 3) rfl rfl rfl rfl (ic (by first|exact j2|(dsimp only;rw[a];exact j2)));done)
  .simp[d];exact Ey.i u (by simp[j2]) rfl trivial
 .have c:=f68 g hg l hl 1 U;simp only[dG,gv.cells]at c;refine gE.q rfl rfl c gf (λr=>by simp[wZ]) ?_;intro r o;simp;refine gx.e ((0,w):Int×List Int) (λy=>[(1,gT l),(3,iu v),(9,.gh 1 w.l 1 0 w.l),(11,.i 0),(12,.sl 1 (r.map fB)),(13,.i y.1)]) (λy=>[.row 43 0 g.cells,.row 3 w.l (cl f1 y.2)]) (λy=>0<=y.1/\y.1<=l.l/\y.2.l=w.l) (λy=>l.l-y.1.n) ?_ ?_
  .simp
  rintro⟨j,u⟩ ⟨j0,j1,j2⟩;dsimp only at j0 j1 j2 ⊢
  by_cases d:j<l.l
  .have a:∀x:Int,(pt u j x).l=u.l:=λx=>jg j0 U;have b:∀x y:Int,pt (pt u j x) j y=pt u j y:=λx y=>abZ j0 U;have e:=hl.ok _ (gF j0 d);simp[d];refine gi ?_;refine Yt (f69 (gt v j).1 _ e.side) ?_;simp[a,b];(with_reducible repeat' first|refine Xk ?_<;>try simp[a,b]|refine Xs ?_ ?_<;>intro h<;>(try intro k)<;>(try simp[h,a,b])<;>try omega|refine Xg ?_|omega)
   all_goals first
    | (refine LJ.i (j+1,u) rfl rfl rfl rfl (ic (by first|exact j2|(dsimp only;rw[a];exact j2)));done)
    | (refine LJ.i (j+1,pt u j 2) rfl rfl rfl rfl (ic (by first|exact j2|(dsimp only;rw[a];exact j2)));done)
    | (refine LJ.i (j+1,pt u j 1) rfl rfl rfl rfl (ic (by first|exact j2|(dsimp only;rw[a];exact j2)));done)
    | (refine LJ.i (j+1,pt u j 3) rfl rfl rfl rfl (ic (by first|exact j2|(dsimp only;rw[a];exact j2)));done)
  .simp[d];exact Ey.i u (by simp[j2]) rfl trivial
end Go.Proofs.YtmehofoficaelaaGreatDoor
namespace Go.AL
open Go
section
variable{P:D->Prop}{a b:Int}{k:IntKind}{t:Tag P}
@[simp low] theorem ayr:oA (kA .rem k a b) P t=(b≠0/\P (.val (.int k (gJ a b)))):=by
 cases t;simp only[kA]
 by_cases h:b=0<;>simp[h,gJ]
def kF(k:IntKind)(a b:Int):Int:=k.wrap (a.tdiv b)
@[simp low] theorem ayp:oA (kA .quo k a b) P t=(b≠0/\P (.val (.int k (kF k a b)))):=by
 cases t;simp only[kA]
 by_cases h:b=0<;>simp[h,kF]
end
@[simp] theorem avE{ρ:Nat->Option Nat}{H:gg}{k:Nat}{t:TypeId}{a b:Int}:oj ρ H (k+1) 1 0 2 (di (t,[.i a,.i b]))=dI [a,b]:=by have h:=xd (f:=f1) (ρ:=ρ) (H:=H) (k:=k) (t:=t) (l:=[a,b]) (n:=2) rfl;rw[pN]at h;simp only[dx,eh,EN,a8,eH,aD,cy,bI]at h;rw[h];unfold dI;simp only[dx,eh,EN]
@[irreducible] def fU(n:Int):List D:=[.val (.int .u8 n)]
@[simp] theorem AO(n:Int):fU n = [.val (.int .u8 n)]:=by unfold fU;rfl
instance:Fl fU 1:=⟨λ_=>gf,λ_=>by simp[gN]⟩
def dU(l:List Int):D:=.sl 1 (l.map fU)
def zb(l:List Int):dU l = .sl 1 (l.map fU):=rfl
@[simp] theorem auQ(l:List Int):closed (dU l)=true:=by unfold dU;exact wZ l
@[simp] theorem axg(l:List Int)(H:gg):oa .slice (dU l) H=di (.i l.l):=by simp[dU]
@[simp] theorem ayj{l:List Int}{n:Int}{k:IntKind}{P:D->Prop}:oA (ni 1 (dU l) (.val (.int k n))) P .mk=((0<=n/\n<l.l)/\P (.gH [.val (.int .u8 (gt l n))])):=by unfold dU;rw[zS,AO]
@[simp] theorem aA5(n:Nat)(l:List Int):jP n (dU l) = []:=rfl
@[simp] theorem at3(l:List Int):cellsOf (dU l)=di [dU l]:=rfl
@[simp] theorem ayS(l:List Int):one (dU l)=true:=rfl
structure xZ(Rs kinds gX:Int)(l:List gj):Prop where
 steps:∀x∈l,((x.1=1\/x.1=2\/x.1=7)/\0<=x.2/\x.2<Rs)\/(3<=x.1/\x.1<=6/\x.2=0)\/(x.1=8/\0<=x.2/\x.2<kinds)\/((x.1=9\/x.1=10)/\0<=x.2/\x.2<gX)
 len:l.l<=8
 vK:pO l 6<=2
 push:pO l 7<=1
 NB:pO l 8<=1
@[simp] theorem asX(a b:Int):kA .add .u8 a b=di (.val (.int .u8 (IntKind.u8.wrap (a+b)))):=rfl
@[simp] theorem as8(a b:Int):kA .sub .u8 a b=di (.val (.int .u8 (IntKind.u8.wrap (a-b)))):=rfl
theorem ac9(n:Int):0<=IntKind.u8.wrap n/\IntKind.u8.wrap n<256:=by simp only[IntKind.wrap,IntKind.bits,IntKind.signed];simp;omega
def JE(a b:Int):0<=kF .u8 a b/\kF .u8 a b<256:=ac9 _
def aeJ{ρ:Nat->Option Nat}{H:gg}{k n:Nat}{t:TypeId}{cs:List D}(l:List Int)(h:cs=l.map λn=>D.val (.int .u8 n))(c:n=l.l):oj ρ H (k+1) 1 0 n (di (t,cs))=dU l:=by
 subst c
 have e:cs=cl fU l:=by
  rw[h,pN];clear h
  induction l with
  | nil=>rfl
  | cons a r b=>simp[<-b]
 rw[e,xd rfl];rfl
def ajj{sz:Nat}{es:List (List D)}{k:IntKind}{n:Int}{P:D->Prop}:oA (ni sz (.sl sz es) (.val (.int k n))) P .mk=((0<=n/\n<es.l)/\P (.gH (es.getD n.n []))):=by simp only[ni,true_and,Dz,BB]
def oA.i{α:Type}{x:Option α}{P:α->Prop}{t:Tag P}{a:α}(h1:x=di a)(b:P a):oA x P t:=⟨a,h1,b⟩
end Go.AL
namespace Go.Proofs.YtmehofoficaelaaGreatDoor
open Go Go.AL Classical
set_option maxRecDepth 10000
set_option maxHeartbeats 4000000
def f192(l:List Int)(k:Int)(a:0<=k):Wf T 278 [dU l,.i k] [] (Is (.i (if k<l.l then IntKind.i64.wrap (gt l k)else 0))):=by
 refine Yg Mi ?_;simp[Mi];exact nb
 all_goals simp[*]
def zL(d o b k r:Int):List (List gj):=[[(1,d),(3,0)],[(1,d),(4,0),(6,0)],[(2,d)],[(2,d),(4,0),(6,0)],[(1,d),(4,0),(6,0),(1,d)],[(1,d),(1,o)],[(1,d),(7,d)],[(1,d),(3,0),(8,k)],[(9,r),(1,d),(1,d),(10,r)],[(1,d),(5,0),(1,d),(3,0)],[(10,r),(1,d)],[(1,d),(4,0),(6,0),(1,b)],[(1,d),(4,0),(6,0),(1,o),(4,0),(6,0)],[(2,d),(5,0),(1,d)],[(1,d),(4,0),(6,0),(8,k)],[(1,d),(7,d),(1,o)]]
def aiK(d o b k r:Int)(i:0<=d/\d<8)(f:0<=o/\o<8)(j:0<=b/\b<8)(g:0<=k/\k<6)(e:0<=r/\r<4):∀p∈zL d o b k r,xZ 8 6 4 p:=by
 have c:∀p:List gj,(∀x∈p,((x.1=1\/x.1=2\/x.1=7)/\0<=x.2/\x.2<8)\/(3<=x.1/\x.1<=6/\x.2=0)\/(x.1=8/\0<=x.2/\x.2<6)\/((x.1=9\/x.1=10)/\0<=x.2/\x.2<4))->p.l<=8/\pO p 6<=2/\pO p 7<=1/\pO p 8<=1->xZ 8 6 4 p:=λp a b=>⟨a,b.1,b.2.1,b.2.2.1,b.2.2.2⟩;intro p h;unfold zL at h;simp only[ay,eG,or_false]at h;rcases h with rfl|rfl|rfl|rfl|rfl|rfl|rfl|rfl|rfl|rfl|rfl|rfl|rfl|rfl|rfl|rfl
 all_goals
  refine c _ ?_ ?_
  .simp;omega
  .simp[pO]
def aiJ(d o b k r m:Int)(h0:0<=m)(h1:m<16):([[D.sl 2 [[D.i 1,D.i d],[D.i 3,D.i 0]]],[D.sl 2 [[D.i 1,D.i d],[D.i 4,D.i 0],[D.i 6,D.i 0]]],[D.sl 2 [[D.i 2,D.i d]]],[D.sl 2 [[D.i 2,D.i d],[D.i 4,D.i 0],[D.i 6,D.i 0]]],[D.sl 2 [[D.i 1,D.i d],[D.i 4,D.i 0],[D.i 6,D.i 0],[D.i 1,D.i d]]],[D.sl 2 [[D.i 1,D.i d],[D.i 1,D.i o]]],[D.sl 2 [[D.i 1,D.i d],[D.i 7,D.i d]]],[D.sl 2 [[D.i 1,D.i d],[D.i 3,D.i 0],[D.i 8,D.i k]]],[D.sl 2 [[D.i 9,D.i r],[D.i 1,D.i d],[D.i 1,D.i d],[D.i 10,D.i r]]],[D.sl 2 [[D.i 1,D.i d],[D.i 5,D.i 0],[D.i 1,D.i d],[D.i 3,D.i 0]]],[D.sl 2 [[D.i 10,D.i r],[D.i 1,D.i d]]],[D.sl 2 [[D.i 1,D.i d],[D.i 4,D.i 0],[D.i 6,D.i 0],[D.i 1,D.i b]]],[D.sl 2 [[D.i 1,D.i d],[D.i 4,D.i 0],[D.i 6,D.i 0],[D.i 1,D.i o],[D.i 4,D.i 0],[D.i 6,D.i 0]]],[D.sl 2 [[D.i 2,D.i d],[D.i 5,D.i 0],[D.i 1,D.i d]]],[D.sl 2 [[D.i 1,D.i d],[D.i 4,D.i 0],[D.i 6,D.i 0],[D.i 8,D.i k]]],[D.sl 2 [[D.i 1,D.i d],[D.i 7,D.i d],[D.i 1,D.i o]]]].getD m.n [])[0]? = di (iu (gt (zL d o b k r) m)):=by
 rcases(U:m=0\/m=1\/m=2\/m=3\/m=4\/m=5\/m=6\/m=7\/m=8\/m=9\/m=10\/m=11\/m=12\/m=13\/m=14\/m=15)with rfl|rfl|rfl|rfl|rfl|rfl|rfl|rfl|rfl|rfl|rfl|rfl|rfl|rfl|rfl|rfl
 all_goals simp[zL,gt,iu]
def f152(l:List Int)(hl:l.l=5)(h:∀n∈l,0<=n/\n<256):Wf T 228 [dU l] [] (Ey iu (xZ 8 6 4)):=by
 have e:∀k:Int,0<=k->k<5->(if k<l.l then IntKind.i64.wrap (gt l k)else 0)=gt l k:=λk a b=>by rw[if_pos U];have:=h _ (gF (l:=l) a U);exact nH gU
 have c:∀k:Int,0<=k->k<5->0<=gt l k:=λk a b=>(h _ (gF (l:=l) a U)).1;refine Yz GL (jm 121 [0,1,2,3,4,5,6,7,8,9,10,11,12,13,14,15,16,17,18,19,20,21,22,23,24,25,26,27,28] GL.body) ?_;simp[GL,jm,kS,nR,nU,oo,mm];refine Yc (f192 l 1 U) ?_;simp[e 1 U U];refine Yc (f192 l 2 U) ?_;simp[e 2 U U];refine Yc (f192 l 3 U) ?_;simp[e 3 U U];refine Yc (f192 l 4 U) ?_;simp[e 4 U U,oj,chunks];have q:=jO (a:=gt l 1) (b:=8) (c 1 U U);have p:=jO (a:=gt l 2) (b:=8) (c 2 U U);have o:=jO (a:=gt l 3) (b:=6) (c 3 U U);have j:=jO (a:=gt l 4) (b:=4) (c 4 U U);have r:=jO (a:=gt l 0) (b:=16) (c 0 U U);have i:=jO (a:=gJ (gt l 1) 8+4) (b:=8) U;have d:IntKind.i64.wrap (gt l 0)=gt l 0:=jZ;refine gi ?_;refine Yc (f192 l 0 U) ?_;simp[hl,d,ajj,oj,chunks];refine gi ?_;have f:=aiK (gJ (gt l 1) 8) (gJ (gt l 2) 8) (gJ (gJ (gt l 1) 8+4) 8) (gJ (gt l 3) 6) (gJ (gt l 4) 4) U U U U U;have g:(zL (gJ (gt l 1) 8) (gJ (gt l 2) 8) (gJ (gJ (gt l 1) 8+4) 8) (gJ (gt l 3) 6) (gJ (gt l 4) 4)).l=16:=rfl;have hg:∀m:Int,0<=m->m<16->gt (zL (gJ (gt l 1) 8) (gJ (gt l 2) 8) (gJ (gJ (gt l 1) 8+4) 8) (gJ (gt l 3) 6) (gJ (gt l 4) 4)) m∈zL (gJ (gt l 1) 8) (gJ (gt l 2) 8) (gJ (gJ (gt l 1) 8+4) 8) (gJ (gt l 3) 6) (gJ (gt l 4) 4):=λm a b=>gF a U;refine oA.i (a:=iu (gt (zL (gJ (gt l 1) 8) (gJ (gt l 2) 8) (gJ (gJ (gt l 1) 8+4) 8) (gJ (gt l 3) 6) (gJ (gt l 4) 4)) (gJ (gt l 0) 16))) ?_ ?_
 .exact aiJ _ _ _ _ _ _ U U
 .simp;exact Ey.i (gt (zL (gJ (gt l 1) 8) (gJ (gt l 2) 8) (gJ (gJ (gt l 1) 8+4) 8) (gJ (gt l 3) 6) (gJ (gt l 4) 4)) (gJ (gt l 0) 16)) rfl rfl (f _ (hg _ U U))
set_option maxHeartbeats 1000000
def HD(l:List gj)(x:gj)(op:Int):pO (l ++ [x]) op=pO l op+(if x.1=op then 1 else 0):=by unfold pO;rw[de];simp[c8];split<;>rfl
def uf(a kinds gX:Int)(x:gj):Prop:=((x.1=1\/x.1=2\/x.1=7)/\0<=x.2/\x.2<a)\/(3<=x.1/\x.1<=6/\x.2=0)\/(x.1=8/\0<=x.2/\x.2<kinds)\/((x.1=9\/x.1=10)/\0<=x.2/\x.2<gX)
structure BZ(p:List gj)(kinds gX:Int)(i:Int)(out:List gj):Prop where
 i0:0<=i/\i<=p.l
 steps:∀x∈out,uf 8 kinds gX x
 Rh:∀op,pO out op<=pO (p.take i.n) op
 len:out.l<=i.n
def BZ.add{p:List gj}{kinds gX i:Int}{out:List gj}(h:BZ p kinds gX i out)(hi:i<p.l){x:gj}(c:uf 8 kinds gX x)(b:x.1=(gt p i).1):BZ p kinds gX (i+1) (out ++ [x]):=by
 have h0:=h.i0;refine⟨U,λy a=>?_,λop=>?_,by have:=h.len;simp;omega⟩
 .rcases aj.1 a with a|a
  .exact h.steps y a
  .grind
 .rw[jI h0.1 hi,HD,HD,b];have:=h.Rh op;omega
def BZ.skip{p:List gj}{kinds gX i:Int}{out:List gj}(h:BZ p kinds gX i out)(hi:i<p.l):BZ p kinds gX (i+1) out:=by have h0:=h.i0;refine⟨U,h.steps,λop=>?_,by have:=h.len;omega⟩;rw[jI h0.1 hi,HD];have:=h.Rh op;split<;>omega
def f151(p:List gj)(kinds gX:Int)(e:xZ 8 6 4 p)(q:1<=kinds/\kinds<=6)(o:0<=gX/\gX<=4):Wf T 227 [iu p,.i 8,.i kinds,.i gX] [] (Ey iu λr=>xZ 8 kinds gX r/\1<=r.l):=by
 have hl:=e.len;refine Yg LY ?_;simp[LY];refine gx.e ((0,[]):Int×List gj) (λy=>[(0,iu p),(1,.i 8),(2,.i kinds),(3,.i gX),(9,.gh 0 y.2.l 2 0 y.2.l),(10,.i y.1)]) (λy=>[.row 173 y.2.l (cl fS y.2)]) (λy=>BZ p kinds gX y.1 y.2) (λy=>p.l-y.1.n) ?_ ?_
 .exact⟨gf,gf,gf,gf⟩
 rintro⟨i,out⟩ c;have h0:=c.i0;have k:=c.len;dsimp only at c h0 k ⊢
 by_cases hi:i<p.l
 .have n:=e.steps _ (gF h0.1 hi);have d:=λ(x:gj)=>c.add hi (x:=x)
  have a:∀b:Int,0<b->0<=(gt p i).2->0<=gJ (gt p i).2 b/\gJ (gt p i).2 b<b:=λb h1 l=>by rw[jO l];exact⟨bS _ U,bM _ h1⟩
  simp[hi];(with_reducible repeat' first|refine Xk ?_<;>try simp|refine Xs ?_ ?_<;>intro h<;>(try intro s)<;>(try simp[h])<;>try omega|refine Xg ?_|omega)
  .refine LJ.e (i+1,out ++ [(1,gJ (gt p i).2 8)]) ?_;have j:=a 8 U;have g:=a kinds U;exact qt (d _ (by unfold uf;dsimp only;omega) gI)
  .refine LJ.e (i+1,out ++ [(2,gJ (gt p i).2 8)]) ?_;have j:=a 8 U;have g:=a kinds U;exact qt (d _ (by unfold uf;dsimp only;omega) gI)
  .refine LJ.e (i+1,out ++ [(7,gJ (gt p i).2 8)]) ?_;have j:=a 8 U;have g:=a kinds U;exact qt (d _ (by unfold uf;dsimp only;omega) gI)
  .refine LJ.e (i+1,out ++ [(8,gJ (gt p i).2 kinds)]) ?_;have j:=a 8 U;have g:=a kinds U;exact qt (d _ (by unfold uf;dsimp only;omega) gI)
  .refine LJ.i (i+1,out) (by first|rfl|simp[*]) (by first|rfl|simp[*]) rfl rfl ?_;exact qt (c.skip hi)
  .have m:=a gX U;refine LJ.e (i+1,out ++ [((gt p i).1,gJ (gt p i).2 gX)]) ?_;exact qt (d _ (by unfold uf;dsimp only;omega) zdn)
  .refine LJ.i (i+1,out) (by first|rfl|simp[*]) (by first|rfl|simp[*]) rfl rfl ?_;exact qt (c.skip hi)
  .have m:=a gX U;refine LJ.e (i+1,out ++ [((gt p i).1,gJ (gt p i).2 gX)]) ?_;exact qt (d _ (by unfold uf;dsimp only;omega) zdn)
  .refine LJ.e (i+1,out ++ [gt p i]) ?_;exact qt (d _ (by unfold uf;omega) rfl)
 .simp[hi];have f:=c.Rh;rw[lW U]at f;refine kz ?_ ?_<;>intro h
  .refine Ey.i [(3,0)] (by simp[iu]) rfl ⟨⟨gf,gf,by simp[pO],by simp[pO],by simp[pO]⟩,gf⟩
  .refine Ey.i out rfl rfl ⟨⟨c.steps,U,gd (f 6) e.vK,gd (f 7) e.push,gd (f 8) e.NB⟩,?_⟩;exact ao.2 (by simpa using h)
def f105(n kinds gX:Int)(i:0<=n/\n<256)(d:1<=kinds/\kinds<=6)(a:0<=gX/\gX<=4):Wf T 160 [.val (.int .u8 n),.i 8,.i kinds,.i gX] [] (Ey iu λr=>xZ 8 kinds gX r/\1<=r.l):=by refine Yz GF (kS 21 [0] GF.body) ?_;simp[GF,jm,kS,nR,nU,oo,mm];have f:∀ρ H,oj ρ H 39 1 0 5 (di (5,[.val (.int .u8 n),.val (.int .u8 (kF .u8 n 16)),.val (.int .u8 (IntKind.u8.wrap (kF .u8 n 16+gJ n 5))),.val (.int .u8 (kF .u8 n 3)),.val (.int .u8 n)]))=dU [n,kF .u8 n 16,IntKind.u8.wrap (kF .u8 n 16+gJ n 5),kF .u8 n 3,n]:=λρ H=>aeJ _ rfl rfl;rw[f];have g:=JE n 16;have k:=JE n 3;have h:=ac9 (kF .u8 n 16+gJ n 5);have e:∀m∈[n,kF .u8 n 16,IntKind.u8.wrap (kF .u8 n 16+gJ n 5),kF .u8 n 3,n],0<=m/\m<256:=λm j=>jZ;refine Yq (f152 _ rfl e) λp c=>?_;simp;refine Yq (f151 p kinds gX c d a) λq b=>?_;simp;exact Ey.i q rfl rfl b
def Du(n:Int)(nx:List (List Int))(tn:List Int):gv:={ (default:gv)with size:=n,next:=nx,jS:=tn }
def bD(n:Int)(nx:List (List Int))(tn:List Int):D:=.agg [.i n,.sl 1 (nx.map fI),dI tn]
def f150(n:Int)(nx:List (List Int))(tn:List Int)(d:pL (Du n nx tn))(c:Int)(w:0<=c/\c<n):Wf T 226 [bD n nx tn,.i c] [] (Ey (λx:List (List Int)=>.tup [bD n x tn,.i 0]) λx=>pL (Du n x tn)):=by
 have v:1<=n/\n<=9:=d.size;have a:nx.l=8:=d.next
 have u:tn.l=8:=d.jS;have q:∀l∈nx,(l.l:Int)=n/\∀x∈l,-1<=x/\x<n:=d.row;refine Yz GK (kS 63 [1008] GK.body) ?_;simp[GK,jm,kS,nR,nU,oo,mm,bD];(with_reducible repeat' first|refine Xk ?_<;>try simp|refine Xs ?_ ?_<;>intro h<;>(try intro k)<;>(try simp[h])<;>try omega|refine Xg ?_|omega);refine gx.e ((0,0,[]):Int×Nat×List (List Int)) (λy=>[(1,.i c),(2,.ptr 0 0 0),(4,.ptr 1 0 0),(6,.ptr 3 0 0),(7,.i y.1)]) (λy=>.row 39 0 [.i n,.sl 1 (nx.map fI),dI tn] :: .row 39 0 [.i 0,.gp,.gp] :: .row 3 1 (cl f1 tn) :: .row 39 0 [.i n,(if y.1=0 then .gp else .gh 4 y.2.1 1 0 y.2.2.l),.gh 2 1 1 0 tn.l]::(if y.1=0 then []else [.row 37 y.2.1 (cl fI y.2.2)])) (λy=>0<=y.1/\y.1<=8/\y.2.2.l=y.1.n/\∀l∈y.2.2,(l.l:Int)=n/\∀x∈l,-1<=x/\x<n) (λy=>8-y.1.n) ?_ ?_
 .simp
 rintro⟨i,g,out⟩ ⟨i0,s,r,f⟩;dsimp only at i0 s r f ⊢
 by_cases hi:i<nx.l
 .have m:=q _ (gF (l:=nx) i0 hi)
  by_cases b:i=0
  .have p:out = []:=aC.1 U;subst b;subst p;simp[a];refine gx.e ((0,[]):Int×List Int) (λy=>[(1,.i c),(2,.ptr 0 0 0),(4,.ptr 1 0 0),(6,.ptr 3 0 0),(7,.i 0),(8,.gh 4 y.2.l 1 0 y.2.l),(9,.i y.1)]) (λy=>[.row 39 0 [.i n,.sl 1 (nx.map fI),dI tn],.row 39 0 [.i 0,.gp,.gp],.row 3 1 (cl f1 tn),.row 39 0 [.i n,.gp,.gh 2 1 1 0 tn.l],.row 3 y.2.l (cl f1 y.2)]) (λy=>0<=y.1/\y.1<=n/\y.2.l=y.1.n/\∀x∈y.2,-1<=x/\x<n) (λy=>n.n-y.1.n) ?_ ?_
   .simp;omega
   rintro⟨j,row⟩ ⟨j0,j1,j2,j3⟩;dsimp only at j0 j1 j2 j3 ⊢
   by_cases e:j<n
   .have t:=m.2 _ (gF (l:=gt nx 0) j0 U);simp[a,e];(with_reducible repeat' first|refine Xk ?_<;>try simp|refine Xs ?_ ?_<;>intro h<;>(try intro k)<;>(try simp[h])<;>try omega|refine Xg ?_|omega)
    .refine LJ.i (j+1,row ++ [-1]) (by first|rfl|simp[*]) (by first|rfl|simp[*]) rfl rfl ?_;dsimp only;refine⟨U,U,U,gO,λx a=>?_⟩;rcases aj.1 a with a|a
     .exact j3 x a
     .grind
    .refine LJ.i (j+1,row ++ [-1]) (by first|rfl|simp[*]) (by first|rfl|simp[*]) rfl rfl ?_;dsimp only;refine⟨U,U,U,gO,λx a=>?_⟩;rcases aj.1 a with a|a
     .exact j3 x a
     .grind
    .refine LJ.e (j+1,row ++ [gt (gt nx 0) j]) ?_;dsimp only;refine⟨U,U,U,gO,λx a=>?_⟩;rcases aj.1 a with a|a
     .exact j3 x a
     .grind
   .simp[a,e];refine gi ?_;refine LJ.i (1,0,[row]) (by first|rfl|simp[iY]) (by first|rfl|simp[iY]) rfl rfl ?_;dsimp only;refine⟨U,U,U,gf,λx a=>?_⟩;have o:(row.l:Int)=n/\∀x∈row,-1<=x/\x<n:=⟨U,j3⟩;rw[b4]at a;rw[a];exact o
  .simp[hi,b];refine gx.e ((0,[]):Int×List Int) (λy=>[(1,.i c),(2,.ptr 0 0 0),(4,.ptr 1 0 0),(6,.ptr 3 0 0),(7,.i i),(8,.gh 5 y.2.l 1 0 y.2.l),(9,.i y.1)]) (λy=>[.row 39 0 [.i n,.sl 1 (nx.map fI),dI tn],.row 39 0 [.i 0,.gp,.gp],.row 3 1 (cl f1 tn),.row 39 0 [.i n,.gh 4 g 1 0 out.l,.gh 2 1 1 0 tn.l],.row 37 g (cl fI out),.row 3 y.2.l (cl f1 y.2)]) (λy=>0<=y.1/\y.1<=n/\y.2.l=y.1.n/\∀x∈y.2,-1<=x/\x<n) (λy=>n.n-y.1.n) ?_ ?_
   .simp;omega
   rintro⟨j,row⟩ ⟨j0,j1,j2,j3⟩;dsimp only at j0 j1 j2 j3 ⊢
   by_cases e:j<n
   .have t:=m.2 _ (gF (l:=gt nx i) j0 U);simp[hi,e,b];(with_reducible repeat' first|refine Xk ?_<;>try simp[b]|refine Xs ?_ ?_<;>intro h<;>(try intro k)<;>(try simp[h,b])<;>try omega|refine Xg ?_|omega)
    .refine LJ.i (j+1,row ++ [-1]) (by first|rfl|simp[*]) (by first|rfl|simp[*]) rfl rfl ?_;dsimp only;refine⟨U,U,U,gO,λx a=>?_⟩;rcases aj.1 a with a|a
     .exact j3 x a
     .grind
    .refine LJ.i (j+1,row ++ [-1]) (by first|rfl|simp[*]) (by first|rfl|simp[*]) rfl rfl ?_;dsimp only;refine⟨U,U,U,gO,λx a=>?_⟩;rcases aj.1 a with a|a
     .exact j3 x a
     .grind
    .refine LJ.e (j+1,row ++ [gt (gt nx i) j]) ?_;dsimp only;refine⟨U,U,U,gO,λx a=>?_⟩;rcases aj.1 a with a|a
     .exact j3 x a
     .grind
   .simp[e,b];refine iU b ?_;refine LJ.i (i+1,g+1,out ++ [row]) (by first|rfl|simp[(U:¬(i+1=0))]) (by first|rfl|simp[(U:¬(i+1=0))]) rfl rfl ?_;dsimp only;refine⟨U,U,U,gO,λx a=>?_⟩;have o:(row.l:Int)=n/\∀x∈row,-1<=x/\x<n:=⟨U,j3⟩;rcases aj.1 a with a|a
    .exact f x a
    .grind
 .simp[hi,(U:¬i=0)];exact Ey.i out gf rfl ⟨d.size,by show out.l=8;omega,f,d.jS,d.turns⟩
