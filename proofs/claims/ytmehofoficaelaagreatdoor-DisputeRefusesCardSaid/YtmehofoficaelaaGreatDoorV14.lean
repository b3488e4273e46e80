/- 14 -/
import Derived.Test.YtmehofoficaelaaGreatDoorV13
set_option linter.all false
open List renaming replicate→aE,getElem?_eq_getElem→bb,mem_singleton→b4,getD_eq_getElem?_getD→cp,map_append→dx,map_cons→ek,map_nil→en,length→List.l
open Bool renaming true→bs,false→di
open Go.IntKind renaming u8→cc,i64→eh
open Option renaming some→dr
open Int renaming toNat→Int.n
namespace Go.Proofs.YtmehofoficaelaaGreatDoor
open Go Go.AL Classical
set_option maxRecDepth 10000
set_option maxHeartbeats 1000000
def VF{g:gq}{p:Pos}(h:¬ended g p){r:List Pos}(hs:kT r)(a:∀q,q∈r↔rJ g p q):gP r=ue g p:=by unfold ue;rw[if_neg h,S2 hs a]
def f60(g:gq)(hg:gR g)(p:Pos)(n:iC g p):Wf T 85 [dG g,dP p] [] (Is (ue g p)):=by
 refine Yz FP (ji 66 [2] FP.body) ?_;simp[FP,ji,kK,nq,nA,nR,mm];refine Yc (f106 g hg p n) ?_;simp;refine kj ?_ ?_<;>intro h
 .unfold ue;rw[if_pos (MZ.1 ‹_›)]
 have k:¬ended g p:=λf=>h (MZ.2 f);refine Yq (f107 g hg p n) λl hl=>?_;simp;have D:=hl.2;refine gx.e ((0,di):Int×Bool) (λy=>[(2,.ptr 0 0 0),(3,.ptr 1 0 0),(5,od l),(6,.gf 2 0 5 0 0),(7,.b y.2),(8,.i y.1)]) (λy=>[.row 43 0 g.cells,.row 46 0 p.cells,.row 46 0 []]) (λy=>0<=y.1/\y.1<=l.l/\(y.2=bs↔g.oQ=bs/\∃o∈l.take y.1.n,o.jY=bs)) (λy=>l.l-y.1.n) ?_ ?_
 .simp
 rintro⟨i,oQ⟩ ⟨h0,h1,f⟩;dsimp only at h0 h1 f ⊢
 by_cases t:i<l.l
 .have e:∀o,o∈l.take (i+1).n↔o∈l.take i.n\/o=gt l i:=λo=>by rw[jt h0 t,aj,b4]
  cases d:g.oQ<;>cases oQ<;>simp[d,t]
  .refine gh ?_;refine LJ.i (i+1,di) (by first|rfl|simp[d]) (by first|rfl|simp[d]) rfl rfl ?_;dsimp only;exact gX (by simp[d])
  .grind
  .refine gh ?_;refine LJ.i (i+1,(gt l i).jY) (by first|rfl|simp[d]) (by first|rfl|simp[d]) rfl rfl ?_;dsimp only;refine gX ?_;simp[d]at f ⊢;constructor
   .grind
   .grind
  .refine gh ?_;refine LJ.i (i+1,bs) (by first|rfl|simp[d]) (by first|rfl|simp[d]) rfl rfl ?_;dsimp only;refine gX ?_;simp[d]at f ⊢;obtain⟨o,A,h⟩:=f;exact⟨o,(e o).2 (.inl A),h⟩
 .simp[t];rw[lC U]at f;refine gx.e ((0,0,[]):Int×Nat×List Pos) (λy=>[(2,.ptr 0 0 0),(3,.ptr 1 0 0),(5,od l),(6,.gf 2 y.2.1 5 0 y.2.2.l),(7,.b oQ),(9,.i y.1)]) (λy=>[.row 43 0 g.cells,.row 46 0 p.cells,.row 46 y.2.1 (cl Pos.cells y.2.2)]) (λy=>0<=y.1/\y.1<=l.l/\(∀q,q∈y.2.2↔∃o∈l.take y.1.n,(oQ=bs->o.jY=bs)/\o.p=q)/\y.2.2.l<=y.1.n) (λy=>l.l-y.1.n) ?_ ?_
  .simp
  rintro⟨j,w,out⟩ ⟨j0,j1,j2,j3⟩;dsimp only at j0 j1 j2 j3 ⊢
  by_cases u:j<l.l
  .have e:∀o,o∈l.take (j+1).n↔o∈l.take j.n\/o=gt l j:=λo=>by rw[jt j0 u,aj,b4]
   simp[u];cases oQ<;>simp
   .refine gh ?_;refine LJ.e (j+1,w+1,out ++ [(gt l j).p]) ?_;dsimp only;refine⟨U,U,U,λq=>?_,gL⟩;rw[aj,b4,j2];simp only[e];constructor
    .grind
    .grind
   .refine kj ?_ ?_<;>intro h
    .skip;refine LJ.e (j+1,w+1,out ++ [(gt l j).p]) ?_;dsimp only;refine⟨U,U,U,λq=>?_,gL⟩;rw[aj,b4,j2];simp only[e];constructor
     .grind
     .grind
    .refine LJ.e (j+1,w,out) ?_;dsimp only;refine⟨U,U,U,λq=>?_,U⟩;rw[j2];simp only[e];constructor
     .grind
     .grind
  .simp[u];rw[lC U]at j2
   have x:∀q∈out,Small q:=λq v=>by obtain⟨o,a,_,rfl⟩:=(j2 q).1 v;exact(OM hg n ((hl.1 o).1 a)).small hg
   cases oQ<;>simp
   .have s:¬(g.oQ=bs/\∃o∈qu g p,o.jY=bs):=by grind
    refine Yq (f108 g hg p n) λC z=>?_;simp;refine gh ?_;refine Yq (f61 (out++C) gL (λq v=>(aj.1 v).elim (x q) (λh=>VO hg n ((z.2.2 q).1 h)))) λr m=>?_;simp;refine VF k m.1 λq=>?_;rw[m.2.2,aj,z.2.2,j2];unfold rJ;rw[if_neg s];simp only[IB k,hl.1];simp;exactλ_ c B=>IB k c B
   .have s:=f.1 rfl;refine Yq (f61 out U x) λr m=>?_;simp;refine VF k m.1 λq=>?_;rw[m.2.2,j2];unfold rJ;simp only[hl.1]at s ⊢;rw[if_pos s];constructor
    .rintro⟨o,a,b,rfl⟩;have:=b trivial;refine⟨IB k,?_⟩;cases o;simp_all
    .grind
def f112(g:gq)(hg:gR g)(p:Pos)(b:iC g p):Wf T 82 [dG g,dP p] [] (Is (.agg [.i (stat g p).1,.b (stat g p).2])):=by
 refine Yg JR ?_;simp[JR];refine Yc (f106 g hg p b) ?_;simp;refine kj ?_ ?_<;>intro h
 .have a:=MZ.1 h;have:=VQ a;refine gh ?_;simp[stat,a,Ou a]
 .have a:¬ended g p:=λc=>h (MZ.2 c);refine Yc (f60 g hg p b) ?_;simp;refine kj ?_ ?_<;>intro h
  all_goals simp[stat, *]
def f58(g:gq)(hg:gR g)(p:Pos)(d:iC g p)(l:List Int)(hl:l.l<=100)(h0:∀n∈l,0<=n/\n<256):Wf T 99 [dG g,dP p,dI l] [] (Ey gP λr=>(0<r.l/\r.l<=101)/\∀q∈r,iC g q):=by
 refine Yg LO ?_;simp[LO];refine gx.e ((0,p,0,[p]):Int×Pos×Nat×List Pos) (λy=>[(2,dI l),(3,.ptr 0 0 0),(4,.ptr 1 0 0),(7,.gf 2 y.2.2.1 5 0 y.2.2.2.l),(8,.i y.1)]) (λy=>[.row 43 0 g.cells,.row 46 0 y.2.1.cells,.row 46 y.2.2.1 (cl Pos.cells y.2.2.2)]) (λy=>0<=y.1/\y.1<=l.l/\iC g y.2.1/\(0<y.2.2.2.l/\y.2.2.2.l<=y.1.n+1)/\∀q∈y.2.2.2,iC g q) (λy=>l.l-y.1.n) ?_ ?_
 .grind
 rintro⟨i,p,m,out⟩ ⟨i0,j,d,f,b⟩;dsimp only at i0 j d f b ⊢;simp;refine kj ?_ ?_<;>intro h
 .refine Yc (f60 g hg p d) ?_;simp;have k:=h0 _ (gF i0 ‹_›)
  have e:0<(iY g p).l->0<=gG (gt l i) (iY g p).l/\gG (gt l i) (iY g p).l<(iY g p).l:=λh=>by rw[jM k.1];exact⟨bY _ U,bO _ U⟩
  (with_reducible repeat' first|refine Xk ?_<;>try simp|refine Xs ?_ ?_<;>intro h<;>(try intro o)<;>(try simp[h])<;>try omega|refine Xg ?_|omega)
  .exact Ey.i out rfl rfl (pb b)
  .have a:0<(iY g p).l:=ay.2 ‹_›;have:=e a;omega
  .have a:0<(iY g p).l:=ay.2 ‹_›;have:=e a;refine gh ?_;have gp:=S1 hg d (Ck.1 (gF (l:=iY g p) this.1 this.2));refine LJ.e (i+1,gt (iY g p) (gG (gt l i) (iY g p).l),m+1,out ++ [gt (iY g p) (gG (gt l i) (iY g p).l)]) ?_;dsimp only;refine⟨U,U,U,gp,gL,λq c=>?_⟩;rcases aj.1 c with c|c
   .exact b q c
   .grind
 .exact Ey.i out rfl rfl (pb b)
structure Mh(g:gq)(p:Pos)(all last:List Pos):Prop where
 yZ:kT all
 ok:∀q∈all,iC g q
 has:p∈all
 sub:∀q∈last,q∈all
 cl:∀q∈all,q ∉ last->∀m,rJ g q m->m∈all
 len:all.l<=80
 ahd:last.l<=all.l
def Mh.step{g:gq}(hg:gR g){p:Pos}{c last next last' all':List Pos}(h:Mh g p c last)(o:∀m,m∈next↔∃q∈last,rJ g q m)(hl:∀m,m∈last'↔m∈next/\m ∉ c)
  (k:last'.Nodup) (hs:kT all') (f:∀q,q∈all'↔q∈c\/q∈last') (i:all'.l<=80):Mh g p all' last'/\(last'≠[]->c.l<all'.l)/\c.l<=all'.l:=by
 have h1:c.l+last'.l<=all'.l:=by rw[<-aq];refine IA (cP.2 ⟨h.yZ.nodup,k,λa f b t e=>?_⟩) λx l=>(f x).2 (aj.1 l);subst e;exact((hl a).1 t).2 f
 refine⟨⟨hs,λq d=>?_,(f p).2 (.inl h.has),λq d=>(f q).2 (.inr d),λq d v m j=>?_,i,U⟩,λs=>?_,U⟩
 .rcases(f q).1 d with d|d
  .exact h.ok q d
  .obtain⟨r,n,j⟩:=(o q).1 ((hl q).1 d).1;exact S1 hg (h.ok r (h.sub r n)) j
 .rcases(f q).1 d with d|d
  .by_cases u:q∈last
   .grind
   .exact(f m).2 (.inl (h.cl q d u m j))
  .grind
 .have:0<last'.l:=ay.2 s;omega
structure Jt(g:gq)(l:List Pos):Prop where
 yZ:kT l
 ok:∀q∈l,iC g q
 cl:∀q∈l,∀m,rJ g q m->m∈l
 len:0<l.l/\l.l<=80
end Go.Proofs.YtmehofoficaelaaGreatDoor
namespace Go.AL
open Go
def aaf(S:List Nat):iT->Bool
 | .call f _ | .callN f _=>elem f S
 | .callv _ _=>di
 | .nextM _=>di
 | _=>bs
def po(S:List Nat):List il->Bool
 | []=>bs
 | e::r=>aaf S e.op&&po S r
def r9(S:List Nat):IR->Bool
 | .ops l=>po S l
 | .mg _ l=>po S l
 | .mS _ l es=>po S l&&po S es
 | .seq a b=>r9 S a&&r9 S b
 | .cond _ a b=>r9 S a&&r9 S b
 | .block _ _ a=>r9 S a
 | .loop _ a=>r9 S a
 | .oD _ _ _=>di
 | _=>bs
def rp(S:List Nat):AY->Bool
 | .ops l _=>po S l
 | .code c _=>r9 S c
 | .loop _ _ a _=>r9 S a
 | .call f _ _=>elem f S
 | .trace l _=>po S l
def One(T:iF)(j:AY)(R:ph->Prop):Prop:=match j with
 | .ops _ _ | .code _ _ | .loop _ _ _ _=>∃o,R (.out o)/\Ev T j (λr=>r = .out o)
 | .call _ _ _=>∃d H,R (.val d H)/\Ev T j (λr=>r = .val d H)
 | .trace _ _=>∃rs s,R (.tr rs s)/\Ev T j (λr=>r = .tr rs s)
def One.mono{T:iF}{j:AY}{R c:ph->Prop}(h:One T j R)(hi:∀r,R r->c r):One T j c:=by
 cases j with
 | call f a H=>obtain⟨d,H',h1,b⟩:=h;exact⟨d,H',hi _ h1,b⟩
 | trace l s=>obtain⟨d,H',h1,b⟩:=h;exact⟨d,H',hi _ h1,b⟩
 | _=>obtain⟨o,h1,b⟩:=h;exact⟨o,hi _ h1,b⟩
def aag{S:List Nat}{env:gZ}{op:iT}{f:FuncId}{args:List D}(h:aaf S op=bs)(a:kC env op=dr (f,args)):elem f S=true:=by cases op<;>first|(cases a;exact h)|(cases h;done)|(cases a;done)
section
variable{T:iF}{S:List Nat}(hS:∀f fn,elem f S=bs->T.fn f=dr fn->r9 S fn.body=bs)(hN:∀f,elem f S=bs->T.sort f=none/\T.tm f=di/\T.s6 f=di)
include hS hN
theorem amx{j:AY}{R:ph->Prop}(h:Ev T j R):rp S j=bs->One T j R:=by
 induction h with
 | mono h hi m=>exactλf=>(m f).mono hi
 | sort fc l U hs=>intro f;rw[(hN _ f).1]at hs;cases hs
 | Fe hs=>intro f;rw[(hN _ f).1]at hs;cases hs
 | tm l hs=>intro f;rw[(hN _ f).2.1]at hs;cases hs
 | s6 l i hs=>intro f;rw[(hN _ f).2.2]at hs;cases hs
 | nil h=>exactλ_=>⟨_,h,.nil rfl⟩
 | op hg h t m=>
  intro f;simp only[rp,po,ai]at f;obtain⟨o,h1,g⟩:=m f.2;exact⟨o,h1,.op hg h g⟩
 | CL hg h t m=>
  intro f;simp only[rp,po,ai]at f;obtain⟨o,h1,g⟩:=m f.2;exact⟨o,h1,.CL hg h g⟩
 | off hg t m=>
  intro f;simp only[rp,po,ai]at f;obtain⟨o,h1,g⟩:=m f.2;exact⟨o,h1,.off hg g⟩
 | mj J H t m=>intro f;obtain⟨o,h1,g⟩:=m f;exact⟨o,h1,.mj J H g⟩
 | GN J H t m=>intro f;obtain⟨o,h1,g⟩:=m f;exact⟨o,h1,.GN J H g⟩
 | Qx live t m=>intro f;obtain⟨o,h1,g⟩:=m f;exact⟨o,h1,.Qx live g⟩
 | DM live t m=>intro f;obtain⟨o,h1,g⟩:=m f;exact⟨o,h1,.DM live g⟩
 | Gg hg w u q h B t m y=>
  intro f;simp only[rp,po,ai]at f;obtain⟨d,Hn,h1,g⟩:=m (aag f.1 w);obtain⟨n,M⟩:=de.1 (B d Hn h1);obtain⟨o,z,A⟩:=y d Hn n h1 M f.2;exact⟨o,z,.Gg hg w u q g (λd' K e=>by cases e;exact B _ _ h1) λd' K p e Q=>jS⟩
 | Gf hg w u q h t m y=>
  intro f;simp only[rp,po,ai]at f;obtain⟨d,Hn,h1,g⟩:=m (aag f.1 w);obtain⟨o,z,A⟩:=y d Hn h1 f.2;exact⟨o,z,.Gf hg w u q g λd' K e=>by cases e;exact A⟩
 | @Mu e r s v args rf env0 Rd Ra Rb R hg w=>
  intro f;simp only[rp,po,ai]at f;exfalso;have h1:=f.1;revert w h1;cases e.op<;>intro w h1<;>first|(cases w;done)|(cases h1;done)
 | next hg D=>
  intro f;simp only[rp,po,ai]at f;have h1:=f.1;rw[D]at h1;cases h1
 | Jg h=>exactλ_=>⟨_,_,h,.Jg rfl⟩
 | Ji hg h t k m=>
  intro f;simp only[rp,po,ai]at f;obtain⟨rs,n,h1,g⟩:=m f.2;exact⟨_,n,k rs n h1,.Ji hg h g λC p e=>by cases e;rfl⟩
 | Jh hg t k m=>
  intro f;simp only[rp,po,ai]at f;obtain⟨rs,n,h1,g⟩:=m f.2;exact⟨_,n,k rs n h1,.Jh hg g λC p e=>by cases e;rfl⟩
 | Jc hg w u q h h0 F t k m y=>
  intro f;simp only[rp,po,ai]at f;obtain⟨rs,n,h1,g⟩:=y f.2;exact⟨_,n,k rs n h1,.Jc hg w u q h h0 F g λC p e=>by cases e;rfl⟩
 | Je hg D B u q h h0 F t k m y=>
  intro f;simp only[rp,po,ai]at f;obtain⟨rs,n,h1,g⟩:=y f.2;exact⟨_,n,k rs n h1,.Je hg D B u q h h0 F g λC p e=>by cases e;rfl⟩
 | Jf hg D B u q I G N P h h0 F t k m y=>
  intro f;simp only[rp,po,ai]at f;obtain⟨rs,n,h1,g⟩:=y f.2;exact⟨_,n,k rs n h1,.Jf hg D B u q I G N P h h0 F g λC p e=>by cases e;rfl⟩
 | Pv hg D B u G O h h0 L t k m y=>
  intro f;simp only[rp,po,ai]at f;obtain⟨rs,n,h1,g⟩:=y f.2;exact⟨_,n,k rs n h1,.Pv hg D B u G O h h0 L g λC p e=>by cases e;rfl⟩
 | mg t q m=>
  intro f;obtain⟨rs,n,h1,g⟩:=m f;exact⟨_,(q rs n h1).2,.mg g λC p e=>by cases e;exact⟨(q rs n h1).1,rfl⟩⟩
 | mS t q k m E=>
  intro f;simp only[rp,r9,ai]at f;obtain⟨rs,n,h1,g⟩:=m f.1;obtain⟨o,z,A⟩:=E rs n h1 f.2;exact⟨o,z,.mS g (λC p e=>by cases e;exact q _ _ h1) λC p e=>by cases e;exact A⟩
 | skip h=>exactλ_=>⟨_,h,.skip rfl⟩
 | Gq h m=>intro f;obtain⟨o,h1,g⟩:=m f;exact⟨o,h1,.Gq g⟩
 | seq h k hs m E=>
  intro f;simp only[rp,r9,ai]at f;obtain⟨o,h1,g⟩:=m f.1
  cases o with
  | norm n=>
   obtain⟨o,z,A⟩:=E n h1 f.2;exact⟨o,z,.seq g (λp e=>by cases e;exact A) λo e hs=>by cases e;cases hs⟩
  | exit id n=>exact⟨_,hs _ h1 rfl,.seq g (λp e=>by cases e) λo e hs=>by cases e;rfl⟩
  | ret n=>exact⟨_,hs _ h1 rfl,.seq g (λp e=>by cases e) λo e hs=>by cases e;rfl⟩
 | @cond c a b s x R w h m=>
  intro f;simp only[rp,r9,ai]at f;obtain⟨o,h1,g⟩:=m (by cases x;exact f.2;exact f.1);exact⟨o,h1,.cond w g⟩
 | block h k m=>
  intro f;obtain⟨o,h1,g⟩:=m f;exact⟨_,k o h1,.block g λo e=>by cases e;rfl⟩
 | loop h m=>intro f;obtain⟨o,h1,g⟩:=m f;exact⟨o,h1,.loop g⟩
 | Aq h k hs m E=>
  intro f;obtain⟨o,h1,g⟩:=m f
  cases o with
  | norm n=>
   obtain⟨o,z,A⟩:=E n h1 f;exact⟨o,z,.Aq g (λp e=>by cases e;exact A) λo e hs=>by cases e;cases hs⟩
  | exit id n=>exact⟨_,hs _ h1 rfl,.Aq g (λp e=>by cases e) λo e hs=>by cases e;rfl⟩
  | ret n=>exact⟨_,hs _ h1 rfl,.Aq g (λp e=>by cases e) λo e hs=>by cases e;rfl⟩
 | oD=>intro f;cases f
 | exit h=>exactλ_=>⟨_,h,.exit rfl⟩
 | ret h=>exactλ_=>⟨_,h,.ret rfl⟩
 | call own u hl h k m=>
  intro f;obtain⟨o,h1,g⟩:=m (hS _ _ f u);obtain⟨d,H',z,A⟩:=k o h1;exact⟨d,H',A,.call own u hl g λo' e=>by cases e;exact⟨d,H',z,rfl⟩⟩
end
def Mz(S:List Nat):Nat->List (Option jq)->Bool
 | _,[]=>bs
 | k,a::l=>(bif elem k S then(match a with|some fn=>r9 S fn.body|none=>bs)else bs)&&Mz S (k+1) l
theorem U6{S:List Nat}{fn:jq}:∀ {l:List (Option jq)} {k i:Nat},Mz S k l=bs->nth l i=dr fn->elem (k+i) S=bs->r9 S fn.body=bs
 | [],_,_,_,h,_=>by cases h
 | a::l,k,0,h,h2,h3=>by simp only[Mz,ai]at h;cases h2;rw[cA]at h3;simpa only[h3,cond_true]using h.1
 | a::l,k,i+1,h,h2,h3=>by simp only[Mz,ai]at h;exact U6 (l:=l) (k:=k+1) (i:=i) h.2 h2 (by rw[a8,dw 1 i];exact h3)
def Wf.one{T:iF}{S:List Nat}(hS:∀f fn,elem f S=bs->T.fn f=dr fn->r9 S fn.body=bs)(hN:∀f,elem f S=bs->T.sort f=none/\T.tm f=di/\T.s6 f=di){f:FuncId}{args:List D}{H:gd}{K:D->gd->Prop}(h:Wf T f args H K)(a:elem f S=bs) :
  ∃d H',K d H'/\Wf T f args H λd2 H2=>d2=d/\H2=H':=by
 obtain⟨d,H',⟨d2,H2,e,h1⟩,b⟩:=amx hS hN h a;cases e;exact⟨d,H',h1,Ev.mono b λr e=>⟨_,_,e,rfl,rfl⟩⟩
end Go.AL
namespace Go.Proofs.YtmehofoficaelaaGreatDoor
open Go Go.AL
def Cs:List Nat:=[13,15,17,18,21,22,25,27,29,31,32,34,36,38,39,40,41,43,44,50,51,55,60,68,69,71,72,73,74,76,77,78,79,80,82,83,84,85,86,87,88,90,91,92,98,99,100,101,127,128,129,130,131,132,133,134,136,137,138,139,140,141,142,143,144,159,160,161,162,200,201,202,203,204,205,206,207,208,209,210,211,225,226,227,228,252,253,254,255,256,257,258,278,283,284,285,294,295,296,297,298,299,321]
def aay:∀f fn,elem f Cs=bs->T.fn f=dr fn->r9 Cs fn.body=true:=λf fn h a=>
 U6 (S:=Cs) (l:=fns) (k:=0) (i:=f) gu a (by rw[aR];exact h)
def aaz:∀f,elem f Cs=bs->T.sort f=none/\T.tm f=di/\T.s6 f=false:=λf h=>by
 by_cases h1:f=151
 .subst h1;exact absurd h jh
 by_cases d:f=261
 .subst d;exact absurd h jh
 by_cases c:f=67
 .subst c;exact absurd h jh
 by_cases b:f=66
 .subst b;exact absurd h jh
 refine⟨?_,?_,?_⟩
 .show(if f=151 then dr 5 else if f=261 then dr 6 else none)=none;rw[if_neg h1,if_neg d]
 .show Nat.beq f 67=di
  cases a:Nat.beq f 67 with
  | false=>rfl
  | true=>exact absurd (cu a) c
 .show Nat.beq f 66=di
  cases a:Nat.beq f 66 with
  | false=>rfl
  | true=>exact absurd (cu a) b
section
variable{f:FuncId}{args:List D}{dst:Option Nat}{s:St}{fn:jq}{R:List Fp}{Q:Rc->St->Prop}
theorem iZ.q{α:Type}{g:α->D}{P:α->Prop}(e:T.fn f=dr fn)(c:fn.full=di)(h1:elem f Cs=bs)(h:Wf T f args [] (Ex g P))(i:gK args=bs)(a:∀r,closed (g r)=bs)
  (k:∀r,P r->Q ⟨R,[]⟩ { s with env:=put s.env dst (g r) }):iZ T f args R dst s Q .mk:=by
 obtain⟨d,H',⟨r,rfl,rfl,b⟩,j⟩:=Wf.one aay aaz h h1;exact iZ.c e c j i (a r) (k r b)
end
def Yv{f:FuncId}{args:List D}{R:List Fp}{dst:Option Nat}{s:St}{Q:Rc->St->Prop}{fn:jq}{α:Type}{g:α->D}{P:α->Prop}(h:Wf T f args [] (Ex g P))(k:∀r,P r->Q ⟨R,[]⟩ { s with env:=put s.env dst (g r) })
  (c:T.fn f=dr fn:=by exact rfl) (b:fn.full=false:=by exact rfl) (h1:elem f Cs=true:=by exact rfl) (d:gK args=true:=by simp) (a:∀r,closed (g r)=true:=by intro;simp):iZ T f args R dst s Q .mk:=iZ.q c b h1 h d a k
end Go.Proofs.YtmehofoficaelaaGreatDoor
namespace Go.AL
open Go
abbrev Kn:=Int×Int×Bool
@[irreducible] def fK(x:Kn):List D:=[.i x.1,.i x.2.1,.b x.2.2]
@[simp] theorem DI(x:Kn):fK x = [.i x.1,.i x.2.1,.b x.2.2]:=by unfold fK;rfl
instance:Fl fK 3:=⟨λ_=>fZ,λ_=>by simp[gK]⟩
@[simp] theorem asz(l:List Kn)(a b:Int)(c:Bool):cl fK l ++ [.i a,.i b,.b c]=cl fK (l ++ [(a,b,c)]):=by rw[<-qc,DI]
@[simp] theorem acw(l:List Bool)(c:Bool):cl fB l ++ [.b c]=cl fB (l ++ [c]):=by rw[<-qc,GC]
theorem MF{α:Type}[Inhabited α]{f:α->List D}{sz:Nat}[F:Fl f sz]{l:List α}{n:Int}{j:Nat}(b:j<sz){P:D->Prop}:oA (cl f l)[n.n*sz+j]? P .mk=(n.n<l.l/\oA (f (gt l n))[j]? P .mk):=by
 rw[Vf (f:=f) l n.n j b]
 by_cases a:n.n<l.l
 .rw[bb a];have e:gt l n=l[n.n]:=by unfold gt;rw[cp,bb a];rfl
  simp[a,e]
 .rw[cy U];simp[a]
@[simp] theorem awo{l:List Kn}{n:Int}{P:D->Prop}:oA (cl fK l)[n.n*3+2]? P .mk=(n.n<l.l/\P (.b (gt l n).2.2)):=by have:=MF (f:=fK) (l:=l) (n:=n) (j:=2) jh (P:=P);simpa using this
@[simp] theorem awn{l:List Bool}{n:Int}{P:D->Prop}:oA (cl fB l)[n.n]? P .mk=(n.n<l.l/\P (.b (gt l n))):=by have:=MF (f:=fB) (l:=l) (n:=n) (j:=0) jh (P:=P);simpa using this
def Vb{l:List Kn}{n:Int}(h:n.n<l.l):(cl fK l).drop (n.n*3)=fK (gt l n)++cl fK (l.drop (n.n+1)):=by rw[uH,bH h,nb];congr 1;unfold gt;rw[cp,bb h];rfl
def acx{l:List Kn}{n:Int}(h:n.n<l.l)(a b:Int):(cl fK l).take (n.n*3) ++ .i a :: .i b::(cl fK l).drop (n.n*3+2)=cl fK (pt l n (a,b,(gt l n).2.2)):=by
 have e:(cl fK l).drop (n.n*3+2) = .b (gt l n).2.2::cl fK (l.drop (n.n+1)):=by rw[<-b9,Vb h,DI];rfl
 rw[e,xX];unfold pt;rw[<-Ba,nb,DI];rfl
@[simp] theorem avh{l:List Kn}{t:TypeId}{n:Int}:uX 2 (n.n*3) (dr (t,cl fK l))=if n.n<l.l then dr (.agg [.i (gt l n).1,.i (gt l n).2.1])else none:=by
 unfold uX;dsimp only
 by_cases h:n.n<l.l
 .rw[if_pos h,if_pos (by rw[sZ];omega),Vb h,DI];rfl
 .rw[if_neg h,if_neg (by rw[sZ];omega)]
def MG{α:Type}{f:α->List D}{sz:Nat}[F:Fl f sz](l:List α)(n:Int)(h1:n.n<l.l)(a:α):(cl f l).take (n.n*sz)++(f a++(cl f l).drop (n.n*sz+sz))=cl f (pt l n a):=by have:=acF (f:=f) l n.n a h1;rw[aL]at this;exact this
theorem IT{α:Type}{f:α->List D}(a:α):∀n:Nat,(aE n (f a)).flatten=cl f (aE n a)
 | 0=>fZ
 | n+1=>by rw[br,a7,IT a n,br,nb]
@[simp] theorem am0(b:Bool)(n:Nat):(aE n [D.b b]).flatten=cl fB (aE n b):=by rw[<-IT,GC]
@[simp] theorem am1(b:Int)(n:Nat):(aE n [D.i b]).flatten=cl f1 (aE n b):=by rw[<-IT,DH]
@[simp] theorem axW(a b:Int)(n:Nat):(aE n [D.i a,D.i b]).flatten=cl fS (aE n (a,b)):=by rw[<-IT,DJ]
@[simp] theorem axU(b:Bool)(n:Nat):aE n (D.b b)=cl fB (aE n b):=by rw[<-am0];simp
@[simp] theorem axV(b:Int)(n:Nat):aE n (D.i b)=cl f1 (aE n b):=by rw[<-am1];simp
def uN(l:List Bool):Nat:=l.countP λb => !b
def aap{α:Type}[Inhabited α]{l:List α}{n:Int}{a b:α}(h0:0<=n)(h:n<l.l):pt (pt l n a) n b=pt l n b:=by rw[II (l:=pt l n a) h0 (by rw[iW h0 h];exact h),II h0 h,II h0 h,List.set_set]
def ae8{l:List Bool}{n:Int}(h0:0<=n)(h:n<l.l)(a:gt l n=di)(b:Bool):uN (pt l n b)+(if b then 1 else 0)=uN l:=by
 have e:l=l.take n.n++gt l n::l.drop (n.n+1):=by rw[<-oe h0 h,bV]
 unfold pt
 conv=>rhs;rw[e]
 unfold uN;rw[cV,cV,cQ,cQ,a];cases b<;>simp<;>omega
end Go.AL
namespace Go.Proofs.YtmehofoficaelaaGreatDoor
open Go Go.AL Classical
set_option maxRecDepth 10000
set_option maxHeartbeats 1000000
structure lZ(g:gq)(l:List Pos):Prop where
 yZ:kT l
 ok:∀q∈l,iC g q
 cl:∀q∈l,∀m,rJ g q m->m∈l
 len:l.l<=4000
def Jt.c2{g:gq}{l:List Pos}(h:Jt g l):lZ g l:=⟨h.yZ,h.ok,h.cl,by have:=h.len;omega⟩
noncomputable def gE(g:gq)(l:List Pos):List (List Int):=l.map λp=>(iY g p).map (pO l)
def f37(g:gq)(hg:gR g)(l:List Pos)(hl:lZ g l):Wf T 39 [dG g,gP l] [] (Is (.tup [.sl 1 ((gE g l).map fI),.b bs])):=by
 have k:=hl.len;have b:∀q∈l,Small q:=λq c=>(hl.ok q c).small hg;refine Yz FL (ji 59 [2] FL.body) ?_;simp[FL,ji,kK,nq,nA,nR,mm];(with_reducible repeat' first|refine Xk ?_<;>try simp|refine Xs ?_ ?_<;>intro h<;>(try intro o)<;>(try simp[h])<;>try omega|refine Xg ?_|omega);refine Yc (f64 l U b) ?_;simp;have hs:=hl.yZ;refine gh ?_;refine gx.e ((0,0,[]):Int×Nat×List (List Int)) (λy=>[(1,gP l),(2,.ptr 0 0 0),(6,.gf 1 y.2.1 1 0 y.2.2.l),(7,.i y.1)]) (λy=>[.row 43 0 g.cells,.row 37 y.2.1 (cl fI y.2.2)]) (λy=>0<=y.1/\y.1<=l.l/\y.2.2=(l.take y.1.n).map λp=>(iY g p).map (pO l)) (λy=>l.l-y.1.n) ?_ ?_
 .simp
 rintro⟨i,e,out⟩ ⟨i0,n,a⟩;dsimp only at i0 n a ⊢;simp;have u:out.l<=4000:=by rw[a];simp;omega
 refine kj ?_ ?_<;>intro h
 .have d:=hl.ok _ (gF i0 ‹_›);refine Yt (f65 g _ hg d) ?_;simp;refine gh ?_;refine Yt (f60 g hg _ d) ?_;simp;have t:=yN hg d;have m:∀q∈iY g (gt l i),q∈l:=λq c=>hl.cl _ (gF i0 ‹_›) q (Ck.1 c);refine gx.e ((0,0,[]):Int×Nat×List Int) (λy=>[(1,gP l),(2,.ptr 0 0 0),(6,.gf 1 e 1 0 out.l),(7,.i i),(8,ue g (gt l i)),(9,.gf 2 y.2.1 1 0 y.2.2.l),(10,.i y.1)]) (λy=>[.row 43 0 g.cells,.row 37 e (cl fI out),.row 3 y.2.1 (cl f1 y.2.2)]) (λy=>0<=y.1/\y.1<=(iY g (gt l i)).l/\y.2.2=((iY g (gt l i)).take y.1.n).map (pO l)) (λy=>(iY g (gt l i)).l-y.1.n) ?_ ?_
  .simp
  rintro⟨j,gm,row⟩ ⟨j0,j1,j2⟩;dsimp only at j0 j1 j2 ⊢;have r:row.l<=j.n:=by rw[j2];simp;omega
  simp;refine kj ?_ ?_<;>intro h
  .have f:=m _ (gF j0 ‹_›);refine Yc (f27 l _ U b (b _ f) hs) ?_;simp;have s:=GK f;(with_reducible repeat' first|refine Xk ?_<;>try simp|refine Xs ?_ ?_<;>intro h<;>(try intro o)<;>(try simp[h])<;>try omega|refine Xg ?_|omega);refine LJ.e (j+1,gm+1,row ++ [pO l (gt (iY g (gt l i)) j)]) ?_;dsimp only;refine gX ?_;rw[jt j0 ‹_›,dx,j2];rfl
  .refine gh ?_;refine LJ.e (i+1,e+1,out ++ [row]) ?_;dsimp only;refine gX ?_;rw[jt i0 ‹_›,dx,a];rw[lC U]at j2;rw[j2];rfl
 .rw[a,lC U];rfl
noncomputable def s7(g:gq)(p:Pos):Kn:=((stat g p).1,0,(stat g p).2)
def ae3(g:gq)(hg:gR g)(l:List Pos)(hl:lZ g l):Wf T 128 [dG g,gP l] [] (λd H=>d = .gf 0 l.l 3 0 l.l/\H = [.row 245 l.l (cl fK (l.map (s7 g)))]):=by
 have b:=hl.len;refine Wf.xo 1 (fn:=FQ) rfl (by simp[FQ]) ?_;simp[FQ];refine gx.e ((0,[]):Int×List Kn) (λy=>[(1,gP l),(2,.ptr 0 0 0),(5,.gf 1 y.2.l 3 0 y.2.l),(6,.i y.1)]) (λy=>[.row 43 0 g.cells,.row 245 y.2.l (cl fK y.2)]) (λy=>0<=y.1/\y.1<=l.l/\y.2=(l.take y.1.n).map (s7 g)) (λy=>l.l-y.1.n) ?_ ?_
 .simp
 rintro⟨i,out⟩ ⟨i0,c,a⟩;dsimp only at i0 c a ⊢;have j:out.l=i.n:=by rw[a];simp;omega
 simp;refine kj ?_ ?_<;>intro h
 .refine Yt (f112 g hg _ (hl.ok _ (gF i0 ‹_›))) ?_;simp;refine gh ?_;refine LJ.i (i+1,out ++ [s7 g (gt l i)]) (by first|rfl|simp[s7]) (by first|rfl|simp[s7]) rfl rfl ?_;dsimp only;refine gX ?_;rw[jt i0 ‹_›,dx,a];rfl
 .have e:out=l.map (s7 g):=by rw[a,lC U]
  have f:out.l=l.l:=by rw[e];simp
  rw[<-e]
def pZ{g:gq}{l:List Pos}(hl:lZ g l){i:Int}(h0:0<=i)(h1:i<l.l):gt (gE g l) i=(iY g (gt l i)).map (pO l)/\∀k∈gt (gE g l) i,0<=k/\k<l.l:=by
 have e:gt (gE g l) i=(iY g (gt l i)).map (pO l):=by unfold gE gt;simp only[cp,ax];rw[bb U];rfl
 refine⟨e,λk a=>?_⟩;rw[e]at a;obtain⟨q,b,rfl⟩:=az.1 a;have:=GK (hl.cl _ (gF h0 h1) q (Ck.1 b));exact⟨this.1,this.2.1⟩
def f69(o s:Int)(hs:0<=s/\s<=1):Wf T 131 [.i o,.i s] [] (Is (.i (if o=1 then s else if o=3 then 1-s else -1))):=by
 refine Yg LX ?_;simp[LX];exact mI
 all_goals simp[*]
def f68(g:gq)(hg:gR g)(l:List Pos)(hl:lZ g l)(side:Int)(E:0<=side/\side<=1):Wf T 130 [dG g,gP l,.sl 1 ((gE g l).map fI),.i side] [] (Ey (λr:List Bool=>.sl 1 (r.map fB)) λr=>r.l=l.l):=by
 have s:=hl.len;have D:(gE g l).l=l.l:=by simp[gE]
 have t:=λ(i:Int) (a:0<=i) (b:i<l.l)=>pZ hl a b
 have u:∀i:Int,0<=i->i<l.l->(gt (gE g l) i).l<=4000000000:=λi a b=>by rw[(t i a b).1,List.length_map];exact yN hg (hl.ok _ (gF a b))
 refine Yg LW ?_;simp[LW];refine gh ?_;refine gx.e ((aE l.l di,bs):List Bool×Bool) (λy=>[(1,gP l),(2,.sl 1 ((gE g l).map fI)),(3,.i side),(4,.ptr 0 0 0),(9,.gf 1 0 1 0 l.l),(10,.b y.2)]) (λy=>[.row 43 0 g.cells,.row 4 0 (cl fB y.1)]) (λy=>y.1.l=l.l) (λy=>2*uN y.1+(if y.2 then 1 else 0)) ?_ ?_
 .simp
 rintro⟨f,ch⟩ h0;dsimp only at h0 ⊢;cases ch
 .simp[h0];exact Ey.i f rfl rfl h0
 simp;refine gx.e ((0,f,di):Int×List Bool×Bool) (λy=>[(1,gP l),(2,.sl 1 ((gE g l).map fI)),(3,.i side),(4,.ptr 0 0 0),(9,.gf 1 0 1 0 l.l),(10,.b y.2.2),(11,.i y.1)]) (λy=>[.row 43 0 g.cells,.row 4 0 (cl fB y.2.1)]) (λy=>0<=y.1/\y.1<=l.l/\y.2.1.l=l.l/\uN y.2.1<=uN f/\(y.2.2=bs->uN y.2.1<uN f)) (λy=>l.l-y.1.n) ?_ ?_
 .grind
 rintro⟨i,w,ch⟩ ⟨i0,A,m,q,p⟩;dsimp only at i0 A m q p ⊢
 by_cases hi:i<l.l
 .have o:=hl.ok _ (gF i0 hi);simp[hi];refine kj ?_ ?_<;>intro h
  .refine LJ.e (i+1,w,ch) ?_;dsimp only;exact gX ⟨m,q,p⟩
  .refine Yt (f112 g hg _ o) ?_;simp;have z:=h;refine gx.e ((0,di,bs):Int×Bool×Bool) (λy=>[(1,gP l),(2,.sl 1 ((gE g l).map fI)),(3,.i side),(4,.ptr 0 0 0),(9,.gf 1 0 1 0 l.l),(10,.b ch),(11,.i i),(12,.ptr 2 0 0),(13,.b y.2.1),(14,.b y.2.2),(15,.i y.1)]) (λy=>[.row 43 0 g.cells,.row 4 0 (cl fB w),.row 193 0 [.i (stat g (gt l i)).1,.b (stat g (gt l i)).2]]) (λy=>0<=y.1/\y.1<=(gt (gE g l) i).l) (λy=>(gt (gE g l) i).l-y.1.n) ?_ ?_
   .simp
   rintro⟨k,j,al⟩ ⟨k0,k1⟩;dsimp only at k0 k1 ⊢
   by_cases n:k<(gt (gE g l) i).l
   .have F:=(t i i0 hi).2 _ (gF k0 n);have G:=u i i0 hi;generalize C:gt (gt (gE g l) i) k=x at *;cases j<;>cases al<;>simp[hi,n,C]<;>refine gh ?_
    .refine LJ.e (k+1,gt w x,di) ?_;dsimp only;omega
    .refine LJ.e (k+1,gt w x,gt w x) ?_;dsimp only;omega
    .refine LJ.e (k+1,bs,di) ?_;dsimp only;omega
    .refine LJ.e (k+1,bs,gt w x) ?_;dsimp only;omega
   .have d:∀v,(pt w i v).l=w.l:=λv=>iW i0 U;have e:∀v,gt (pt w i v) i=v:=λv=>DN i0 U
    have c:∀b:Bool,0<=i+1/\i+1<=l.l/\(pt w i b).l=l.l/\uN (pt w i b)<=uN f/\((ch||b)=bs->uN (pt w i b)<uN f):=λb=>by
     have h1:=ae8 i0 U z b;refine⟨U,U,by rw[d];exact m,U,λH=>?_⟩;cases b
     .grind
     .grind
    cases ch
    .simp[hi,n];have c:∀b:Bool,_:=c;(with_reducible repeat' first|refine Xk ?_<;>try simp[d,e]|refine Xs ?_ ?_<;>intro h<;>(try intro B)<;>(try simp[h,d,e])<;>try omega|refine Xg ?_|omega)
     .refine Yt (f69 (stat g (gt l i)).1 _ o.side) ?_;simp[d,e];refine kP d e ?_;refine LJ.e (i+1,pt w i (!decide ((if (stat g (gt l i)).1=1 then(gt l i).side else if (stat g (gt l i)).1=3 then 1-(gt l i).side else -1)=1-side)),di || !decide ((if (stat g (gt l i)).1=1 then(gt l i).side else if (stat g (gt l i)).1=3 then 1-(gt l i).side else -1)=1-side)) ?_;exact pG (c _)
     .refine LJ.e (i+1,pt w i j,di||j) ?_;exact pG (c _)
     .refine LJ.e (i+1,pt w i al,di||al) ?_;exact pG (c _)
    .simp[hi,n];have c:∀b:Bool,_:=c;(with_reducible repeat' first|refine Xk ?_<;>try simp[d,e]|refine Xs ?_ ?_<;>intro h<;>(try intro B)<;>(try simp[h,d,e])<;>try omega|refine Xg ?_|omega)
     .refine Yt (f69 (stat g (gt l i)).1 _ o.side) ?_;simp[d,e];refine kP d e ?_;refine LJ.e (i+1,pt w i (!decide ((if (stat g (gt l i)).1=1 then(gt l i).side else if (stat g (gt l i)).1=3 then 1-(gt l i).side else -1)=1-side)),bs || !decide ((if (stat g (gt l i)).1=1 then(gt l i).side else if (stat g (gt l i)).1=3 then 1-(gt l i).side else -1)=1-side)) ?_;exact pG (c _)
     .refine LJ.e (i+1,pt w i j,bs||j) ?_;exact pG (c _)
     .refine LJ.e (i+1,pt w i al,bs||al) ?_;exact pG (c _)
 .simp[hi];refine LJ.e (w,ch) ?_;dsimp only;refine⟨?_,m⟩;cases ch
  .simp;omega
  .grind
end Go.Proofs.YtmehofoficaelaaGreatDoor
namespace Go.AL
open Go
section
variable{P:D->Prop}{a b:Int}{k:IntKind}{t:Tag P}
@[simp low] theorem awM:oA (kc .rem k a b) P t=(b≠0/\P (.val (.int k (gG a b)))):=by
 cases t;simp only[kc]
 by_cases h:b=0<;>simp[h,gG]
def ki(k:IntKind)(a b:Int):Int:=k.wrap (a.tdiv b)
@[simp low] theorem awK:oA (kc .quo k a b) P t=(b≠0/\P (.val (.int k (ki k a b)))):=by
 cases t;simp only[kc]
 by_cases h:b=0<;>simp[h,ki]
end
@[simp] theorem atX{ρ:Nat->Option Nat}{H:gd}{k:Nat}{t:TypeId}{a b:Int}:mT ρ H (k+1) 1 0 2 (dr (t,[.i a,.i b]))=dI [a,b]:=by have h:=vx (f:=f1) (ρ:=ρ) (H:=H) (k:=k) (t:=t) (l:=[a,b]) (n:=2) rfl;rw[oV]at h;simp only[ek,en,DH,a7,ew,aB,cE,bI]at h;rw[h];unfold dI;simp only[ek,en,DH]
@[irreducible] def fU(n:Int):List D:=[.val (.int .u8 n)]
@[simp] theorem zG(n:Int):fU n = [.val (.int .u8 n)]:=by unfold fU;rfl
instance:Fl fU 1:=⟨λ_=>fZ,λ_=>by simp[gK]⟩
def dU(l:List Int):D:=.sl 1 (l.map fU)
def x4(l:List Int):dU l = .sl 1 (l.map fU):=rfl
@[simp] theorem as5(l:List Int):closed (dU l)=true:=by unfold dU;exact xZ l
@[simp] theorem avC(l:List Int)(H:gd):mY .slice (dU l) H=dr (.i l.l):=by simp[dU]
@[simp] theorem awE{l:List Int}{n:Int}{k:IntKind}{P:D->Prop}:oA (mC 1 (dU l) (.val (.int k n))) P .mk=((0<=n/\n<l.l)/\P (.gC [.val (.int .u8 (gt l n))])):=by unfold dU;rw[yP,zG]
@[simp] theorem azq(n:Nat)(l:List Int):jB n (dU l) = []:=rfl
@[simp] theorem asi(l:List Int):cellsOf (dU l)=dr [dU l]:=rfl
@[simp] theorem axd(l:List Int):one (dU l)=true:=rfl
structure wP(P' kinds gO:Int)(l:List gg):Prop where
 steps:∀x∈l,((x.1=1\/x.1=2\/x.1=7)/\0<=x.2/\x.2<P')\/(3<=x.1/\x.1<=6/\x.2=0)\/(x.1=8/\0<=x.2/\x.2<kinds)\/((x.1=9\/x.1=10)/\0<=x.2/\x.2<gO)
 len:l.l<=8
 uv:oW l 6<=2
 push:oW l 7<=1
 Mm:oW l 8<=1
@[simp] theorem arc(a b:Int):kc .add .u8 a b=dr (.val (.int .u8 (cc.wrap (a+b)))):=rfl
@[simp] theorem arq(a b:Int):kc .sub .u8 a b=dr (.val (.int .u8 (cc.wrap (a-b)))):=rfl
theorem abC(n:Int):0<=cc.wrap n/\cc.wrap n<256:=by simp only[IntKind.wrap,IntKind.bits,IntKind.signed];simp;omega
def IM(a b:Int):0<=ki .u8 a b/\ki .u8 a b<256:=abC _
def adf{ρ:Nat->Option Nat}{H:gd}{k n:Nat}{t:TypeId}{cs:List D}(l:List Int)(h:cs=l.map λn=>D.val (.int .u8 n))(c:n=l.l):mT ρ H (k+1) 1 0 n (dr (t,cs))=dU l:=by
 subst c
 have e:cs=cl fU l:=by
  rw[h,oV];clear h
  induction l with
  | nil=>rfl
  | cons a r b=>simp[<-b]
 rw[e,vx rfl];rfl
def ahT{sz:Nat}{es:List (List D)}{k:IntKind}{n:Int}{P:D->Prop}:oA (mC sz (.sl sz es) (.val (.int k n))) P .mk=((0<=n/\n<es.l)/\P (.gC (es.getD n.n []))):=by simp only[mC,true_and,Cn,Ay]
def oA.i{α:Type}{x:Option α}{P:α->Prop}{t:Tag P}{a:α}(h1:x=dr a)(b:P a):oA x P t:=⟨a,h1,b⟩
end Go.AL
namespace Go.Proofs.YtmehofoficaelaaGreatDoor
open Go Go.AL Classical
set_option maxRecDepth 10000
set_option maxHeartbeats 4000000
def f192(l:List Int)(k:Int)(a:0<=k):Wf T 278 [dU l,.i k] [] (Is (.i (if k<l.l then eh.wrap (gt l k)else 0))):=by
 refine Yg KY ?_;simp[KY];exact mI
 all_goals simp[*]
def yG(d o b k r:Int):List (List gg):=[[(1,d),(3,0)],[(1,d),(4,0),(6,0)],[(2,d)],[(2,d),(4,0),(6,0)],[(1,d),(4,0),(6,0),(1,d)],[(1,d),(1,o)],[(1,d),(7,d)],[(1,d),(3,0),(8,k)],[(9,r),(1,d),(1,d),(10,r)],[(1,d),(5,0),(1,d),(3,0)],[(10,r),(1,d)],[(1,d),(4,0),(6,0),(1,b)],[(1,d),(4,0),(6,0),(1,o),(4,0),(6,0)],[(2,d),(5,0),(1,d)],[(1,d),(4,0),(6,0),(8,k)],[(1,d),(7,d),(1,o)]]
def ahi(d o b k r:Int)(i:0<=d/\d<8)(f:0<=o/\o<8)(j:0<=b/\b<8)(g:0<=k/\k<6)(e:0<=r/\r<4):∀p∈yG d o b k r,wP 8 6 4 p:=by
 have c:∀p:List gg,(∀x∈p,((x.1=1\/x.1=2\/x.1=7)/\0<=x.2/\x.2<8)\/(3<=x.1/\x.1<=6/\x.2=0)\/(x.1=8/\0<=x.2/\x.2<6)\/((x.1=9\/x.1=10)/\0<=x.2/\x.2<4))->p.l<=8/\oW p 6<=2/\oW p 7<=1/\oW p 8<=1->wP 8 6 4 p:=λp a b=>⟨a,b.1,b.2.1,b.2.2.1,b.2.2.2⟩;intro p h;unfold yG at h;simp only[av,eu,or_false]at h;rcases h with rfl|rfl|rfl|rfl|rfl|rfl|rfl|rfl|rfl|rfl|rfl|rfl|rfl|rfl|rfl|rfl
 all_goals
  refine c _ ?_ ?_
  .simp;omega
  .simp[oW]
def ahh(d o b k r m:Int)(h0:0<=m)(h1:m<16):([[D.sl 2 [[D.i 1,D.i d],[D.i 3,D.i 0]]],[D.sl 2 [[D.i 1,D.i d],[D.i 4,D.i 0],[D.i 6,D.i 0]]],[D.sl 2 [[D.i 2,D.i d]]],[D.sl 2 [[D.i 2,D.i d],[D.i 4,D.i 0],[D.i 6,D.i 0]]],[D.sl 2 [[D.i 1,D.i d],[D.i 4,D.i 0],[D.i 6,D.i 0],[D.i 1,D.i d]]],[D.sl 2 [[D.i 1,D.i d],[D.i 1,D.i o]]],[D.sl 2 [[D.i 1,D.i d],[D.i 7,D.i d]]],[D.sl 2 [[D.i 1,D.i d],[D.i 3,D.i 0],[D.i 8,D.i k]]],[D.sl 2 [[D.i 9,D.i r],[D.i 1,D.i d],[D.i 1,D.i d],[D.i 10,D.i r]]],[D.sl 2 [[D.i 1,D.i d],[D.i 5,D.i 0],[D.i 1,D.i d],[D.i 3,D.i 0]]],[D.sl 2 [[D.i 10,D.i r],[D.i 1,D.i d]]],[D.sl 2 [[D.i 1,D.i d],[D.i 4,D.i 0],[D.i 6,D.i 0],[D.i 1,D.i b]]],[D.sl 2 [[D.i 1,D.i d],[D.i 4,D.i 0],[D.i 6,D.i 0],[D.i 1,D.i o],[D.i 4,D.i 0],[D.i 6,D.i 0]]],[D.sl 2 [[D.i 2,D.i d],[D.i 5,D.i 0],[D.i 1,D.i d]]],[D.sl 2 [[D.i 1,D.i d],[D.i 4,D.i 0],[D.i 6,D.i 0],[D.i 8,D.i k]]],[D.sl 2 [[D.i 1,D.i d],[D.i 7,D.i d],[D.i 1,D.i o]]]].getD m.n [])[0]? = dr (iw (gt (yG d o b k r) m)):=by
 rcases(U:m=0\/m=1\/m=2\/m=3\/m=4\/m=5\/m=6\/m=7\/m=8\/m=9\/m=10\/m=11\/m=12\/m=13\/m=14\/m=15)with rfl|rfl|rfl|rfl|rfl|rfl|rfl|rfl|rfl|rfl|rfl|rfl|rfl|rfl|rfl|rfl
 all_goals simp[yG,gt,iw]
def f152(l:List Int)(hl:l.l=5)(h:∀n∈l,0<=n/\n<256):Wf T 228 [dU l] [] (Ey iw (wP 8 6 4)):=by
 have e:∀k:Int,0<=k->k<5->(if k<l.l then eh.wrap (gt l k)else 0)=gt l k:=λk a b=>by rw[if_pos U];have:=h _ (gF (l:=l) a U);exact n5 iM
 have c:∀k:Int,0<=k->k<5->0<=gt l k:=λk a b=>(h _ (gF (l:=l) a U)).1;refine Yz FD (ji 121 [0,1,2,3,4,5,6,7,8,9,10,11,12,13,14,15,16,17,18,19,20,21,22,23,24,25,26,27,28] FD.body) ?_;simp[FD,ji,kK,nq,nA,nR,mm];refine Yc (f192 l 1 U) ?_;simp[e 1 U U];refine Yc (f192 l 2 U) ?_;simp[e 2 U U];refine Yc (f192 l 3 U) ?_;simp[e 3 U U];refine Yc (f192 l 4 U) ?_;simp[e 4 U U,mT,chunks];have q:=jM (a:=gt l 1) (b:=8) (c 1 U U);have p:=jM (a:=gt l 2) (b:=8) (c 2 U U);have o:=jM (a:=gt l 3) (b:=6) (c 3 U U);have j:=jM (a:=gt l 4) (b:=4) (c 4 U U);have r:=jM (a:=gt l 0) (b:=16) (c 0 U U);have i:=jM (a:=gG (gt l 1) 8+4) (b:=8) U;have d:eh.wrap (gt l 0)=gt l 0:=jS;refine gh ?_;refine Yc (f192 l 0 U) ?_;simp[hl,d,ahT,mT,chunks];refine gh ?_;have f:=ahi (gG (gt l 1) 8) (gG (gt l 2) 8) (gG (gG (gt l 1) 8+4) 8) (gG (gt l 3) 6) (gG (gt l 4) 4) U U U U U;have g:(yG (gG (gt l 1) 8) (gG (gt l 2) 8) (gG (gG (gt l 1) 8+4) 8) (gG (gt l 3) 6) (gG (gt l 4) 4)).l=16:=rfl;have hg:∀m:Int,0<=m->m<16->gt (yG (gG (gt l 1) 8) (gG (gt l 2) 8) (gG (gG (gt l 1) 8+4) 8) (gG (gt l 3) 6) (gG (gt l 4) 4)) m∈yG (gG (gt l 1) 8) (gG (gt l 2) 8) (gG (gG (gt l 1) 8+4) 8) (gG (gt l 3) 6) (gG (gt l 4) 4):=λm a b=>gF a U;refine oA.i (a:=iw (gt (yG (gG (gt l 1) 8) (gG (gt l 2) 8) (gG (gG (gt l 1) 8+4) 8) (gG (gt l 3) 6) (gG (gt l 4) 4)) (gG (gt l 0) 16))) ?_ ?_
 .exact ahh _ _ _ _ _ _ U U
 .simp;exact Ey.i (gt (yG (gG (gt l 1) 8) (gG (gt l 2) 8) (gG (gG (gt l 1) 8+4) 8) (gG (gt l 3) 6) (gG (gt l 4) 4)) (gG (gt l 0) 16)) rfl rfl (f _ (hg _ U U))
set_option maxHeartbeats 1000000
def Gm(l:List gg)(x:gg)(op:Int):oW (l ++ [x]) op=oW l op+(if x.1=op then 1 else 0):=by unfold oW;rw[cV];simp[cQ];split<;>rfl
def sU(a kinds gO:Int)(x:gg):Prop:=((x.1=1\/x.1=2\/x.1=7)/\0<=x.2/\x.2<a)\/(3<=x.1/\x.1<=6/\x.2=0)\/(x.1=8/\0<=x.2/\x.2<kinds)\/((x.1=9\/x.1=10)/\0<=x.2/\x.2<gO)
structure AX(p:List gg)(kinds gO:Int)(i:Int)(out:List gg):Prop where
 i0:0<=i/\i<=p.l
 steps:∀x∈out,sU 8 kinds gO x
 P0:∀op,oW out op<=oW (p.take i.n) op
 len:out.l<=i.n
def AX.add{p:List gg}{kinds gO i:Int}{out:List gg}(h:AX p kinds gO i out)(hi:i<p.l){x:gg}(c:sU 8 kinds gO x)(b:x.1=(gt p i).1):AX p kinds gO (i+1) (out ++ [x]):=by
 have h0:=h.i0;refine⟨U,λy a=>?_,λop=>?_,by have:=h.len;simp;omega⟩
 .rcases aj.1 a with a|a
  .exact h.steps y a
  .grind
 .rw[jt h0.1 hi,Gm,Gm,b];have:=h.P0 op;omega
def AX.skip{p:List gg}{kinds gO i:Int}{out:List gg}(h:AX p kinds gO i out)(hi:i<p.l):AX p kinds gO (i+1) out:=by have h0:=h.i0;refine⟨U,h.steps,λop=>?_,by have:=h.len;omega⟩;rw[jt h0.1 hi,Gm];have:=h.P0 op;split<;>omega
def f151(p:List gg)(kinds gO:Int)(e:wP 8 6 4 p)(q:1<=kinds/\kinds<=6)(o:0<=gO/\gO<=4):Wf T 227 [iw p,.i 8,.i kinds,.i gO] [] (Ey iw λr=>wP 8 kinds gO r/\1<=r.l):=by
 have hl:=e.len;refine Yg KD ?_;simp[KD];refine gx.e ((0,[]):Int×List gg) (λy=>[(0,iw p),(1,.i 8),(2,.i kinds),(3,.i gO),(9,.gf 0 y.2.l 2 0 y.2.l),(10,.i y.1)]) (λy=>[.row 173 y.2.l (cl fS y.2)]) (λy=>AX p kinds gO y.1 y.2) (λy=>p.l-y.1.n) ?_ ?_
 .exact⟨fZ,fZ,fZ,fZ⟩
 rintro⟨i,out⟩ c;have h0:=c.i0;have k:=c.len;dsimp only at c h0 k ⊢
 by_cases hi:i<p.l
 .have n:=e.steps _ (gF h0.1 hi);have d:=λ(x:gg)=>c.add hi (x:=x)
  have a:∀b:Int,0<b->0<=(gt p i).2->0<=gG (gt p i).2 b/\gG (gt p i).2 b<b:=λb h1 l=>by rw[jM l];exact⟨bY _ U,bO _ h1⟩
  simp[hi];(with_reducible repeat' first|refine Xk ?_<;>try simp|refine Xs ?_ ?_<;>intro h<;>(try intro s)<;>(try simp[h])<;>try omega|refine Xg ?_|omega)
  .refine LJ.e (i+1,out ++ [(1,gG (gt p i).2 8)]) ?_;have j:=a 8 U;have g:=a kinds U;exact pG (d _ (by unfold sU;dsimp only;omega) gJ)
  .refine LJ.e (i+1,out ++ [(2,gG (gt p i).2 8)]) ?_;have j:=a 8 U;have g:=a kinds U;exact pG (d _ (by unfold sU;dsimp only;omega) gJ)
  .refine LJ.e (i+1,out ++ [(7,gG (gt p i).2 8)]) ?_;have j:=a 8 U;have g:=a kinds U;exact pG (d _ (by unfold sU;dsimp only;omega) gJ)
  .refine LJ.e (i+1,out ++ [(8,gG (gt p i).2 kinds)]) ?_;have j:=a 8 U;have g:=a kinds U;exact pG (d _ (by unfold sU;dsimp only;omega) gJ)
  .refine LJ.i (i+1,out) (by first|rfl|simp[*]) (by first|rfl|simp[*]) rfl rfl ?_;exact pG (c.skip hi)
  .have m:=a gO U;refine LJ.e (i+1,out ++ [((gt p i).1,gG (gt p i).2 gO)]) ?_;exact pG (d _ (by unfold sU;dsimp only;omega) zdn)
  .refine LJ.i (i+1,out) (by first|rfl|simp[*]) (by first|rfl|simp[*]) rfl rfl ?_;exact pG (c.skip hi)
  .have m:=a gO U;refine LJ.e (i+1,out ++ [((gt p i).1,gG (gt p i).2 gO)]) ?_;exact pG (d _ (by unfold sU;dsimp only;omega) zdn)
  .refine LJ.e (i+1,out ++ [gt p i]) ?_;exact pG (d _ (by unfold sU;omega) rfl)
 .simp[hi];have f:=c.P0;rw[lC U]at f;refine kj ?_ ?_<;>intro h
  .refine Ey.i [(3,0)] (by simp[iw]) rfl ⟨⟨fZ,fZ,by simp[oW],by simp[oW],by simp[oW]⟩,fZ⟩
  .refine Ey.i out rfl rfl ⟨⟨c.steps,U,fY (f 6) e.uv,fY (f 7) e.push,fY (f 8) e.Mm⟩,?_⟩;exact ay.2 (by simpa using h)
def f105(n kinds gO:Int)(i:0<=n/\n<256)(d:1<=kinds/\kinds<=6)(a:0<=gO/\gO<=4):Wf T 160 [.val (.int .u8 n),.i 8,.i kinds,.i gO] [] (Ey iw λr=>wP 8 kinds gO r/\1<=r.l):=by refine Yz Fy (kK 21 [0] Fy.body) ?_;simp[Fy,ji,kK,nq,nA,nR,mm];have f:∀ρ H,mT ρ H 39 1 0 5 (dr (5,[.val (.int .u8 n),.val (.int .u8 (ki .u8 n 16)),.val (.int .u8 (cc.wrap (ki .u8 n 16+gG n 5))),.val (.int .u8 (ki .u8 n 3)),.val (.int .u8 n)]))=dU [n,ki .u8 n 16,cc.wrap (ki .u8 n 16+gG n 5),ki .u8 n 3,n]:=λρ H=>adf _ rfl rfl;rw[f];have g:=IM n 16;have k:=IM n 3;have h:=abC (ki .u8 n 16+gG n 5);have e:∀m∈[n,ki .u8 n 16,cc.wrap (ki .u8 n 16+gG n 5),ki .u8 n 3,n],0<=m/\m<256:=λm j=>jS;refine Yq (f152 _ rfl e) λp c=>?_;simp;refine Yq (f151 p kinds gO c d a) λq b=>?_;simp;exact Ey.i q rfl rfl b
def Cj(n:Int)(nx:List (List Int))(tn:List Int):gq:={ (default:gq)with size:=n,next:=nx,jD:=tn }
def bD(n:Int)(nx:List (List Int))(tn:List Int):D:=.agg [.i n,.sl 1 (nx.map fI),dI tn]
def f150(n:Int)(nx:List (List Int))(tn:List Int)(d:oU (Cj n nx tn))(c:Int)(w:0<=c/\c<n):Wf T 226 [bD n nx tn,.i c] [] (Ey (λx:List (List Int)=>.tup [bD n x tn,.i 0]) λx=>oU (Cj n x tn)):=by
 have v:1<=n/\n<=9:=d.size;have a:nx.l=8:=d.next
 have u:tn.l=8:=d.jD;have q:∀l∈nx,(l.l:Int)=n/\∀x∈l,-1<=x/\x<n:=d.row;refine Yz FC (kK 63 [1008] FC.body) ?_;simp[FC,ji,kK,nq,nA,nR,mm,bD];(with_reducible repeat' first|refine Xk ?_<;>try simp|refine Xs ?_ ?_<;>intro h<;>(try intro k)<;>(try simp[h])<;>try omega|refine Xg ?_|omega);refine gx.e ((0,0,[]):Int×Nat×List (List Int)) (λy=>[(1,.i c),(2,.ptr 0 0 0),(4,.ptr 1 0 0),(6,.ptr 3 0 0),(7,.i y.1)]) (λy=>.row 39 0 [.i n,.sl 1 (nx.map fI),dI tn] :: .row 39 0 [.i 0,.gi,.gi] :: .row 3 1 (cl f1 tn) :: .row 39 0 [.i n,(if y.1=0 then .gi else .gf 4 y.2.1 1 0 y.2.2.l),.gf 2 1 1 0 tn.l]::(if y.1=0 then []else [.row 37 y.2.1 (cl fI y.2.2)])) (λy=>0<=y.1/\y.1<=8/\y.2.2.l=y.1.n/\∀l∈y.2.2,(l.l:Int)=n/\∀x∈l,-1<=x/\x<n) (λy=>8-y.1.n) ?_ ?_
 .simp
 rintro⟨i,g,out⟩ ⟨i0,s,r,f⟩;dsimp only at i0 s r f ⊢
 by_cases hi:i<nx.l
 .have m:=q _ (gF (l:=nx) i0 hi)
  by_cases b:i=0
  .have p:out = []:=aA.1 U;subst b;subst p;simp[a];refine gx.e ((0,[]):Int×List Int) (λy=>[(1,.i c),(2,.ptr 0 0 0),(4,.ptr 1 0 0),(6,.ptr 3 0 0),(7,.i 0),(8,.gf 4 y.2.l 1 0 y.2.l),(9,.i y.1)]) (λy=>[.row 39 0 [.i n,.sl 1 (nx.map fI),dI tn],.row 39 0 [.i 0,.gi,.gi],.row 3 1 (cl f1 tn),.row 39 0 [.i n,.gi,.gf 2 1 1 0 tn.l],.row 3 y.2.l (cl f1 y.2)]) (λy=>0<=y.1/\y.1<=n/\y.2.l=y.1.n/\∀x∈y.2,-1<=x/\x<n) (λy=>n.n-y.1.n) ?_ ?_
   .simp;omega
   rintro⟨j,row⟩ ⟨j0,j1,j2,j3⟩;dsimp only at j0 j1 j2 j3 ⊢
   by_cases e:j<n
   .have t:=m.2 _ (gF (l:=gt nx 0) j0 U);simp[a,e];(with_reducible repeat' first|refine Xk ?_<;>try simp|refine Xs ?_ ?_<;>intro h<;>(try intro k)<;>(try simp[h])<;>try omega|refine Xg ?_|omega)
    .refine LJ.i (j+1,row ++ [-1]) (by first|rfl|simp[*]) (by first|rfl|simp[*]) rfl rfl ?_;dsimp only;refine⟨U,U,U,gL,λx a=>?_⟩;rcases aj.1 a with a|a
     .exact j3 x a
     .grind
    .refine LJ.i (j+1,row ++ [-1]) (by first|rfl|simp[*]) (by first|rfl|simp[*]) rfl rfl ?_;dsimp only;refine⟨U,U,U,gL,λx a=>?_⟩;rcases aj.1 a with a|a
     .exact j3 x a
     .grind
    .refine LJ.e (j+1,row ++ [gt (gt nx 0) j]) ?_;dsimp only;refine⟨U,U,U,gL,λx a=>?_⟩;rcases aj.1 a with a|a
     .exact j3 x a
     .grind
   .simp[a,e];refine gh ?_;refine LJ.i (1,0,[row]) (by first|rfl|simp[je]) (by first|rfl|simp[je]) rfl rfl ?_;dsimp only;refine⟨U,U,U,fZ,λx a=>?_⟩;have o:(row.l:Int)=n/\∀x∈row,-1<=x/\x<n:=⟨U,j3⟩;rw[b4]at a;rw[a];exact o
  .simp[hi,b];refine gx.e ((0,[]):Int×List Int) (λy=>[(1,.i c),(2,.ptr 0 0 0),(4,.ptr 1 0 0),(6,.ptr 3 0 0),(7,.i i),(8,.gf 5 y.2.l 1 0 y.2.l),(9,.i y.1)]) (λy=>[.row 39 0 [.i n,.sl 1 (nx.map fI),dI tn],.row 39 0 [.i 0,.gi,.gi],.row 3 1 (cl f1 tn),.row 39 0 [.i n,.gf 4 g 1 0 out.l,.gf 2 1 1 0 tn.l],.row 37 g (cl fI out),.row 3 y.2.l (cl f1 y.2)]) (λy=>0<=y.1/\y.1<=n/\y.2.l=y.1.n/\∀x∈y.2,-1<=x/\x<n) (λy=>n.n-y.1.n) ?_ ?_
   .simp;omega
   rintro⟨j,row⟩ ⟨j0,j1,j2,j3⟩;dsimp only at j0 j1 j2 j3 ⊢
   by_cases e:j<n
   .have t:=m.2 _ (gF (l:=gt nx i) j0 U);simp[hi,e,b];(with_reducible repeat' first|refine Xk ?_<;>try simp[b]|refine Xs ?_ ?_<;>intro h<;>(try intro k)<;>(try simp[h,b])<;>try omega|refine Xg ?_|omega)
    .refine LJ.i (j+1,row ++ [-1]) (by first|rfl|simp[*]) (by first|rfl|simp[*]) rfl rfl ?_;dsimp only;refine⟨U,U,U,gL,λx a=>?_⟩;rcases aj.1 a with a|a
     .exact j3 x a
     .grind
    .refine LJ.i (j+1,row ++ [-1]) (by first|rfl|simp[*]) (by first|rfl|simp[*]) rfl rfl ?_;dsimp only;refine⟨U,U,U,gL,λx a=>?_⟩;rcases aj.1 a with a|a
     .exact j3 x a
     .grind
    .refine LJ.e (j+1,row ++ [gt (gt nx i) j]) ?_;dsimp only;refine⟨U,U,U,gL,λx a=>?_⟩;rcases aj.1 a with a|a
     .exact j3 x a
     .grind
   .simp[e,b];refine jT b ?_;refine LJ.i (i+1,g+1,out ++ [row]) (by first|rfl|simp[(U:¬(i+1=0))]) (by first|rfl|simp[(U:¬(i+1=0))]) rfl rfl ?_;dsimp only;refine⟨U,U,U,gL,λx a=>?_⟩;have o:(row.l:Int)=n/\∀x∈row,-1<=x/\x<n:=⟨U,j3⟩;rcases aj.1 a with a|a
    .exact f x a
    .grind
 .simp[hi,(U:¬i=0)];exact Ey.i out fZ rfl ⟨d.size,by show out.l=8;omega,f,d.jD,d.turns⟩
