/- Part 14 of DisputeSettles. -/
import Derived.Test.YtmehofoficaelaaGreatDoorS13
set_option linter.all false
namespace Go.Proofs.YtmehofoficaelaaGreatDoor
open Go Go.AL Classical
set_option maxRecDepth 10000
set_option maxHeartbeats 1000000
def Wz{g:gj}{p:Pos}(h:¬ended g p){r:List Pos}(hs:kX r)(a:∀q,q∈r↔rH g p q):gZ r=uq g p:=by unfold uq;rw[if_neg h,TM hs a]
def f60(g:gj)(hg:gU g)(p:Pos)(m:iz g p):Wf T 85 [dG g,dP p] [] (Is (uq g p)):=by
 refine Yz FZ (iV 66 [2] FZ.body) ?_;simp[FZ,iV,kq,nb,ng,nD,lV];refine Yc (f106 g hg p m) ?_;simp;refine jT ?_ ?_<;>intro h
 .unfold uq;rw[if_pos (Nu.1 ‹_›)]
 have n:¬ended g p:=λf=>h (Nu.2 f);refine Yq (f107 g hg p m) λl hl=>?_;simp;have C:=hl.2;refine gp.e ((0,false):Int×Bool) (λy=>[(2,.ptr 0 0 0),(3,.ptr 1 0 0),(5,nZ l),(6,.fZ 2 0 5 0 0),(7,.b y.2),(8,.i y.1)]) (λy=>[.row 43 0 g.cells,.row 46 0 p.cells,.row 46 0 []]) (λy=>0<=y.1/\y.1<=l.length/\(y.2=true↔g.oH=true/\∃o∈l.take y.1.toNat,o.jM=true)) (λy=>l.length-y.1.toNat) ?_ ?_
 .simp
 rintro⟨i,oH⟩ ⟨h0,h1,f⟩;dsimp only at h0 h1 f ⊢
 by_cases t:i<l.length
 .have e:∀o,o∈l.take (i+1).toNat↔o∈l.take i.toNat\/o=gt l i:=λo=>by rw[jn h0 t,List.mem_append,List.mem_singleton]
  cases d:g.oH<;>cases oH<;>simp[d,t]
  .refine gf ?_;refine LJ.i (i+1,false) (by first|rfl|simp[d]) (by first|rfl|simp[d]) rfl rfl ?_;dsimp only;exact gJ (by simp[d])
  .grind
  .refine gf ?_;refine LJ.i (i+1,(gt l i).jM) (by first|rfl|simp[d]) (by first|rfl|simp[d]) rfl rfl ?_;dsimp only;refine gJ ?_;simp[d]at f ⊢;constructor
   .grind
   .grind
  .refine gf ?_;refine LJ.i (i+1,true) (by first|rfl|simp[d]) (by first|rfl|simp[d]) rfl rfl ?_;dsimp only;refine gJ ?_;simp[d]at f ⊢;obtain⟨o,A,h⟩:=f;exact⟨o,(e o).2 (.inl A),h⟩
 .simp[t];rw[lr (by omega)]at f;refine gp.e ((0,0,[]):Int×Nat×List Pos) (λy=>[(2,.ptr 0 0 0),(3,.ptr 1 0 0),(5,nZ l),(6,.fZ 2 y.2.1 5 0 y.2.2.length),(7,.b oH),(9,.i y.1)]) (λy=>[.row 43 0 g.cells,.row 46 0 p.cells,.row 46 y.2.1 (cl Pos.cells y.2.2)]) (λy=>0<=y.1/\y.1<=l.length/\(∀q,q∈y.2.2↔∃o∈l.take y.1.toNat,(oH=true->o.jM=true)/\o.p=q)/\y.2.2.length<=y.1.toNat) (λy=>l.length-y.1.toNat) ?_ ?_
  .simp
  rintro⟨j,w,out⟩ ⟨j0,j1,j2,j3⟩;dsimp only at j0 j1 j2 j3 ⊢
  by_cases u:j<l.length
  .have e:∀o,o∈l.take (j+1).toNat↔o∈l.take j.toNat\/o=gt l j:=λo=>by rw[jn j0 u,List.mem_append,List.mem_singleton]
   simp[u];cases oH<;>simp
   .refine gf ?_;refine LJ.e (j+1,w+1,out ++ [(gt l j).p]) ?_;dsimp only;refine⟨by omega,by omega,by omega,λq=>?_,by simp;omega⟩;rw[List.mem_append,List.mem_singleton,j2];simp only[e];constructor
    .grind
    .grind
   .refine jT ?_ ?_<;>intro h
    .skip;refine LJ.e (j+1,w+1,out ++ [(gt l j).p]) ?_;dsimp only;refine⟨by omega,by omega,by omega,λq=>?_,by simp;omega⟩;rw[List.mem_append,List.mem_singleton,j2];simp only[e];constructor
     .grind
     .grind
    .refine LJ.e (j+1,w,out) ?_;dsimp only;refine⟨by omega,by omega,by omega,λq=>?_,by omega⟩;rw[j2];simp only[e];constructor
     .grind
     .grind
  .simp[u];rw[lr (by omega)]at j2
   have x:∀q∈out,Small q:=λq v=>by obtain⟨o,a,_,rfl⟩:=(j2 q).1 v;exact(Ph hg m ((hl.1 o).1 a)).small hg
   cases oH<;>simp
   .have s:¬(g.oH=true/\∃o∈qn g p,o.jM=true):=by grind
    refine Yq (f108 g hg p m) λdr z=>?_;simp;refine gf ?_;refine Yq (f61 (out++dr) (by simp;omega) (λq v=>(List.mem_append.1 v).elim (x q) (λh=>WI hg m ((z.2.2 q).1 h)))) λr k=>?_;simp;refine Wz n k.1 λq=>?_;rw[k.2.2,List.mem_append,z.2.2,j2];unfold rH;rw[if_neg s];simp only[IU n,hl.1];simp;exactλ_ c B=>IU n c B
   .have s:=f.1 rfl;refine Yq (f61 out (by omega) x) λr k=>?_;simp;refine Wz n k.1 λq=>?_;rw[k.2.2,j2];unfold rH;simp only[hl.1]at s ⊢;rw[if_pos s];constructor
    .rintro⟨o,a,b,rfl⟩;have:=b trivial;refine⟨IU n,?_⟩;cases o;simp_all
    .grind
def f112(g:gj)(hg:gU g)(p:Pos)(b:iz g p):Wf T 82 [dG g,dP p] [] (Is (.agg [.i (stat g p).1,.b (stat g p).2])):=by
 refine Yg Kc ?_;simp[Kc];refine Yc (f106 g hg p b) ?_;simp;refine jT ?_ ?_<;>intro h
 .have a:=Nu.1 h;have:=QR a;refine gf ?_;simp[stat,a,O5 a]
 .have a:¬ended g p:=λc=>h (Nu.2 c);refine Yc (f60 g hg p b) ?_;simp;refine jT ?_ ?_<;>intro h
  all_goals simp[stat, *]
def f58(g:gj)(hg:gU g)(p:Pos)(d:iz g p)(l:List Int)(hl:l.length<=100)(h0:∀n∈l,0<=n/\n<256):Wf T 99 [dG g,dP p,dI l] [] (Ey gZ λr=>(0<r.length/\r.length<=101)/\∀q∈r,iz g q):=by
 refine Yg Mm ?_;simp[Mm];refine gp.e ((0,p,0,[p]):Int×Pos×Nat×List Pos) (λy=>[(2,dI l),(3,.ptr 0 0 0),(4,.ptr 1 0 0),(7,.fZ 2 y.2.2.1 5 0 y.2.2.2.length),(8,.i y.1)]) (λy=>[.row 43 0 g.cells,.row 46 0 y.2.1.cells,.row 46 y.2.2.1 (cl Pos.cells y.2.2.2)]) (λy=>0<=y.1/\y.1<=l.length/\iz g y.2.1/\(0<y.2.2.2.length/\y.2.2.2.length<=y.1.toNat+1)/\∀q∈y.2.2.2,iz g q) (λy=>l.length-y.1.toNat) ?_ ?_
 .grind
 rintro⟨i,p,m,out⟩ ⟨i0,j,d,f,b⟩;dsimp only at i0 j d f b ⊢;simp;refine jT ?_ ?_<;>intro h
 .refine Yc (f60 g hg p d) ?_;simp;have k:=h0 _ (gA i0 ‹_›)
  have e:0<(iW g p).length->0<=gD (gt l i) (iW g p).length/\gD (gt l i) (iW g p).length<(iW g p).length:=λh=>by rw[jB k.1];exact⟨b9 _ (by omega),bT _ (by omega)⟩
  (with_reducible repeat' first|refine Xk ?_<;>try simp|refine Xs ?_ ?_<;>intro h<;>(try intro o)<;>(try simp[h])<;>try omega|refine Xg ?_|omega)
  .exact Ey.i out rfl rfl (qo b)
  .have a:0<(iW g p).length:=aw.2 ‹_›;have:=e a;omega
  .have a:0<(iW g p).length:=aw.2 ‹_›;have:=e a;refine gf ?_;have gi:=TL hg d (CD.1 (gA (l:=iW g p) this.1 this.2));refine LJ.e (i+1,gt (iW g p) (gD (gt l i) (iW g p).length),m+1,out ++ [gt (iW g p) (gD (gt l i) (iW g p).length)]) ?_;dsimp only;refine⟨by omega,by omega,by omega,gi,by simp;omega,λq c=>?_⟩;rcases List.mem_append.1 c with c|c
   .exact b q c
   .grind
 .exact Ey.i out rfl rfl (qo b)
structure MN(g:gj)(p:Pos)(all last:List Pos):Prop where
 A1:kX all
 ok:∀q∈all,iz g q
 has:p∈all
 sub:∀q∈last,q∈all
 cl:∀q∈all,q ∉ last->∀m,rH g q m->m∈all
 len:all.length<=80
 ah0:last.length<=all.length
def MN.step{g:gj}(hg:gU g){p:Pos}{c last next last' all':List Pos}(h:MN g p c last)(o:∀m,m∈next↔∃q∈last,rH g q m)(hl:∀m,m∈last'↔m∈next/\m ∉ c)
  (k:last'.Nodup) (hs:kX all') (f:∀q,q∈all'↔q∈c\/q∈last') (i:all'.length<=80):MN g p all' last'/\(last'≠[]->c.length<all'.length)/\c.length<=all'.length:=by
 have h1:c.length+last'.length<=all'.length:=by rw[<-aj];refine EX (bR.2 ⟨h.A1.nodup,k,λa f b t e=>?_⟩) λx l=>(f x).2 (List.mem_append.1 l);subst e;exact((hl a).1 t).2 f
 refine⟨⟨hs,λq d=>?_,(f p).2 (.inl h.has),λq d=>(f q).2 (.inr d),λq d v m j=>?_,i,by omega⟩,λs=>?_,by omega⟩
 .rcases(f q).1 d with d|d
  .exact h.ok q d
  .obtain⟨r,n,j⟩:=(o q).1 ((hl q).1 d).1;exact TL hg (h.ok r (h.sub r n)) j
 .rcases(f q).1 d with d|d
  .by_cases u:q∈last
   .grind
   .exact(f m).2 (.inl (h.cl q d u m j))
  .grind
 .have:0<last'.length:=aw.2 s;omega
structure JL(g:gj)(l:List Pos):Prop where
 A1:kX l
 ok:∀q∈l,iz g q
 cl:∀q∈l,∀m,rH g q m->m∈l
 len:0<l.length/\l.length<=80
end Go.Proofs.YtmehofoficaelaaGreatDoor
namespace Go.AL
open Go
def aaT(S:List Nat):iR->Bool
 | .call f _ | .callN f _=>elem f S
 | .callv _ _=>false
 | .nextM _=>false
 | _=>true
def pM(S:List Nat):List ia->Bool
 | []=>true
 | e::r=>aaT S e.op&&pM S r
def se(S:List Nat):IR->Bool
 | .ops l=>pM S l
 | .mb _ l=>pM S l
 | .mR _ l es=>pM S l&&pM S es
 | .seq a b=>se S a&&se S b
 | .cond _ a b=>se S a&&se S b
 | .block _ _ a=>se S a
 | .loop _ a=>se S a
 | .oq _ _ _=>false
 | _=>true
def sf(S:List Nat):A7->Bool
 | .ops l _=>pM S l
 | .code c _=>se S c
 | .loop _ _ a _=>se S a
 | .call f _ _=>elem f S
 | .trace l _=>pM S l
def One(T:iD)(j:A7)(R:pI->Prop):Prop:=match j with
 | .ops _ _ | .code _ _ | .loop _ _ _ _=>∃o,R (.out o)/\Ev T j (λr=>r = .out o)
 | .call _ _ _=>∃d H,R (.val d H)/\Ev T j (λr=>r = .val d H)
 | .trace _ _=>∃rs s,R (.tr rs s)/\Ev T j (λr=>r = .tr rs s)
def One.mono{T:iD}{j:A7}{R c:pI->Prop}(h:One T j R)(hi:∀r,R r->c r):One T j c:=by
 cases j with
 | call f a H=>obtain⟨d,H',h1,b⟩:=h;exact⟨d,H',hi _ h1,b⟩
 | trace l s=>obtain⟨d,H',h1,b⟩:=h;exact⟨d,H',hi _ h1,b⟩
 | _=>obtain⟨o,h1,b⟩:=h;exact⟨o,hi _ h1,b⟩
def aaU{S:List Nat}{env:gT}{op:iR}{f:FuncId}{args:List D}(h:aaT S op=true)(a:kK env op=some (f,args)):elem f S=true:=by cases op<;>first|(cases a;exact h)|(cases h;done)|(cases a;done)
section
variable{T:iD}{S:List Nat}(hS:∀f fn,elem f S=true->T.fn f=some fn->se S fn.body=true)(hN:∀f,elem f S=true->T.sort f=none/\T.tz f=false/\T.sZ f=false)
include hS hN
theorem anz{j:A7}{R:pI->Prop}(h:Ev T j R):sf S j=true->One T j R:=by
 induction h with
 | mono h hi m=>exactλf=>(m f).mono hi
 | sort fc l O hs=>intro f;rw[(hN _ f).1]at hs;cases hs
 | Fq hs=>intro f;rw[(hN _ f).1]at hs;cases hs
 | tz l hs=>intro f;rw[(hN _ f).2.1]at hs;cases hs
 | sZ l i hs=>intro f;rw[(hN _ f).2.2]at hs;cases hs
 | nil h=>exactλ_=>⟨_,h,.nil rfl⟩
 | op hg h t m=>
  intro f;simp only[sf,pM,Bool.and_eq_true]at f;obtain⟨o,h1,g⟩:=m f.2;exact⟨o,h1,.op hg h g⟩
 | C1 hg h t m=>
  intro f;simp only[sf,pM,Bool.and_eq_true]at f;obtain⟨o,h1,g⟩:=m f.2;exact⟨o,h1,.C1 hg h g⟩
 | off hg t m=>
  intro f;simp only[sf,pM,Bool.and_eq_true]at f;obtain⟨o,h1,g⟩:=m f.2;exact⟨o,h1,.off hg g⟩
 | me H F t m=>intro f;obtain⟨o,h1,g⟩:=m f;exact⟨o,h1,.me H F g⟩
 | G4 H F t m=>intro f;obtain⟨o,h1,g⟩:=m f;exact⟨o,h1,.G4 H F g⟩
 | Rg live t m=>intro f;obtain⟨o,h1,g⟩:=m f;exact⟨o,h1,.Rg live g⟩
 | G3 live t m=>intro f;obtain⟨o,h1,g⟩:=m f;exact⟨o,h1,.G3 live g⟩
 | Gs hg q u p h B t m z=>
  intro f;simp only[sf,pM,Bool.and_eq_true]at f;obtain⟨d,Hn,h1,g⟩:=m (aaU f.1 q);obtain⟨s',J⟩:=dp.1 (B d Hn h1);obtain⟨o,w,y⟩:=z d Hn s' h1 J f.2;exact⟨o,w,.Gs hg q u p g (λd' I e=>by cases e;exact B _ _ h1) λd' I n e N=>by grind⟩
 | Gr hg q u p h t m z=>
  intro f;simp only[sf,pM,Bool.and_eq_true]at f;obtain⟨d,Hn,h1,g⟩:=m (aaU f.1 q);obtain⟨o,w,y⟩:=z d Hn h1 f.2;exact⟨o,w,.Gr hg q u p g λd' I e=>by cases e;exact y⟩
 | @MY e r s v args rf env0 Rd Ra Rb R hg q=>
  intro f;simp only[sf,pM,Bool.and_eq_true]at f;exfalso;have h1:=f.1;revert q h1;cases e.op<;>intro q h1<;>first|(cases q;done)|(cases h1;done)
 | next hg D=>
  intro f;simp only[sf,pM,Bool.and_eq_true]at f;have h1:=f.1;rw[D]at h1;cases h1
 | Jz h=>exactλ_=>⟨_,_,h,.Jz rfl⟩
 | JB hg h t k m=>
  intro f;simp only[sf,pM,Bool.and_eq_true]at f;obtain⟨rs,s',h1,g⟩:=m f.2;exact⟨_,s',k rs s' h1,.JB hg h g λA n e=>by cases e;rfl⟩
 | JA hg t k m=>
  intro f;simp only[sf,pM,Bool.and_eq_true]at f;obtain⟨rs,s',h1,g⟩:=m f.2;exact⟨_,s',k rs s' h1,.JA hg g λA n e=>by cases e;rfl⟩
 | Jw hg q u p h h0 E t k m z=>
  intro f;simp only[sf,pM,Bool.and_eq_true]at f;obtain⟨rs,s',h1,g⟩:=z f.2;exact⟨_,s',k rs s' h1,.Jw hg q u p h h0 E g λA n e=>by cases e;rfl⟩
 | Jx hg D B u p h h0 E t k m z=>
  intro f;simp only[sf,pM,Bool.and_eq_true]at f;obtain⟨rs,s',h1,g⟩:=z f.2;exact⟨_,s',k rs s' h1,.Jx hg D B u p h h0 E g λA n e=>by cases e;rfl⟩
 | Jy hg D B u p G K L M h h0 E t k m z=>
  intro f;simp only[sf,pM,Bool.and_eq_true]at f;obtain⟨rs,s',h1,g⟩:=z f.2;exact⟨_,s',k rs s' h1,.Jy hg D B u p G K L M h h0 E g λA n e=>by cases e;rfl⟩
 | mb t p m=>
  intro f;obtain⟨rs,s',h1,g⟩:=m f;exact⟨_,(p rs s' h1).2,.mb g λA n e=>by cases e;exact⟨(p rs s' h1).1,rfl⟩⟩
 | mR t p k m C=>
  intro f;simp only[sf,se,Bool.and_eq_true]at f;obtain⟨rs,s',h1,g⟩:=m f.1;obtain⟨o,w,y⟩:=C rs s' h1 f.2;exact⟨o,w,.mR g (λA n e=>by cases e;exact p _ _ h1) λA n e=>by cases e;exact y⟩
 | skip h=>exactλ_=>⟨_,h,.skip rfl⟩
 | GG h m=>intro f;obtain⟨o,h1,g⟩:=m f;exact⟨o,h1,.GG g⟩
 | seq h k hs m C=>
  intro f;simp only[sf,se,Bool.and_eq_true]at f;obtain⟨o,h1,g⟩:=m f.1
  cases o with
  | norm s'=>
   obtain⟨o,w,y⟩:=C s' h1 f.2;exact⟨o,w,.seq g (λn e=>by cases e;exact y) λo e hs=>by cases e;cases hs⟩
  | exit id s'=>exact⟨_,hs _ h1 rfl,.seq g (λn e=>by cases e) λo e hs=>by cases e;rfl⟩
  | ret s'=>exact⟨_,hs _ h1 rfl,.seq g (λn e=>by cases e) λo e hs=>by cases e;rfl⟩
 | @cond c a b s x R q h m=>
  intro f;simp only[sf,se,Bool.and_eq_true]at f;obtain⟨o,h1,g⟩:=m (by cases x;exact f.2;exact f.1);exact⟨o,h1,.cond q g⟩
 | block h k m=>
  intro f;obtain⟨o,h1,g⟩:=m f;exact⟨_,k o h1,.block g λo e=>by cases e;rfl⟩
 | loop h m=>intro f;obtain⟨o,h1,g⟩:=m f;exact⟨o,h1,.loop g⟩
 | AE h k hs m C=>
  intro f;obtain⟨o,h1,g⟩:=m f
  cases o with
  | norm s'=>
   obtain⟨o,w,y⟩:=C s' h1 f;exact⟨o,w,.AE g (λn e=>by cases e;exact y) λo e hs=>by cases e;cases hs⟩
  | exit id s'=>exact⟨_,hs _ h1 rfl,.AE g (λn e=>by cases e) λo e hs=>by cases e;rfl⟩
  | ret s'=>exact⟨_,hs _ h1 rfl,.AE g (λn e=>by cases e) λo e hs=>by cases e;rfl⟩
 | oq=>intro f;cases f
 | exit h=>exactλ_=>⟨_,h,.exit rfl⟩
 | ret h=>exactλ_=>⟨_,h,.ret rfl⟩
 | call own u hl h k m=>
  intro f;obtain⟨o,h1,g⟩:=m (hS _ _ f u);obtain⟨d,H',w,y⟩:=k o h1;exact⟨d,H',y,.call own u hl g λo' e=>by cases e;exact⟨d,H',w,rfl⟩⟩
end
end Go.AL
namespace Go.AL
open Go
def M4(S:List Nat):Nat->List (Option jo)->Bool
 | _,[]=>true
 | k,a::l=>(bif elem k S then(match a with|some fn=>se S fn.body|none=>true)else true)&&M4 S (k+1) l
theorem VX{S:List Nat}{fn:jo}:∀ {l:List (Option jo)} {k i:Nat},M4 S k l=true->nth l i=some fn->elem (k+i) S=true->se S fn.body=true
 | [],_,_,_,h,_=>by cases h
 | a::l,k,0,h,h2,h3=>by simp only[M4,Bool.and_eq_true]at h;cases h2;rw[bX]at h3;simpa only[h3,cond_true]using h.1
 | a::l,k,i+1,h,h2,h3=>by simp only[M4,Bool.and_eq_true]at h;exact VX (l:=l) (k:=k+1) (i:=i) h.2 h2 (by rw[bh,dA 1 i];exact h3)
def Wf.one{T:iD}{S:List Nat}(hS:∀f fn,elem f S=true->T.fn f=some fn->se S fn.body=true)(hN:∀f,elem f S=true->T.sort f=none/\T.tz f=false/\T.sZ f=false){f:FuncId}{args:List D}{H:U}{K:D->U->Prop}(h:Wf T f args H K)(a:elem f S=true) :
  ∃d H',K d H'/\Wf T f args H λd2 H2=>d2=d/\H2=H':=by
 obtain⟨d,H',⟨d2,H2,e,h1⟩,b⟩:=anz hS hN h a;cases e;exact⟨d,H',h1,Ev.mono b λr e=>⟨_,_,e,rfl,rfl⟩⟩
end Go.AL
namespace Go.Proofs.YtmehofoficaelaaGreatDoor
open Go Go.AL
def E9:List Nat:=[13,17,18,21,22,25,27,29,31,32,34,36,38,39,40,41,43,44,50,51,60,68,69,71,72,73,74,76,77,78,79,80,82,83,84,85,86,87,88,90,91,92,98,99,100,101,127,128,129,130,131,132,133,134,136,137,138,139,140,141,142,143,144,159,160,161,162,200,201,202,203,204,205,206,207,208,209,210,211,225,226,227,228,252,253,254,255,256,257,258,278,283,284,285,294,295,296,297,298,299,321]
def an0:∀f fn,elem f E9=true->T.fn f=some fn->se E9 fn.body=true:=λf fn h a=>
 VX (S:=E9) (l:=fns) (k:=0) (i:=f) (by kernel_rfl) a (by rw[aR];exact h)
def an1:∀f,elem f E9=true->T.sort f=none/\T.tz f=false/\T.sZ f=false:=λf h=>by
 by_cases h1:f=151
 .subst h1;exact absurd h (by decide)
 by_cases d:f=261
 .subst d;exact absurd h (by decide)
 by_cases c:f=67
 .subst c;exact absurd h (by decide)
 by_cases b:f=66
 .subst b;exact absurd h (by decide)
 refine⟨?_,?_,?_⟩
 .show(if f=151 then some 5 else if f=261 then some 6 else none)=none;rw[if_neg h1,if_neg d]
 .show Nat.beq f 67=false
  cases a:Nat.beq f 67 with
  | false=>rfl
  | true=>exact absurd (cz a) c
 .show Nat.beq f 66=false
  cases a:Nat.beq f 66 with
  | false=>rfl
  | true=>exact absurd (cz a) b
section
variable{f:FuncId}{args:List D}{dst:Option Nat}{s:St}{fn:jo}{R:List Fp}{Q:Rc->St->Prop}
theorem jh.q{α:Type}{g:α->D}{P:α->Prop}(e:T.fn f=some fn)(c:fn.full=false)(h1:elem f E9=true)(h:Wf T f args [] (Ex g P))(i:gG args=true)(a:∀r,closed (g r)=true)
  (k:∀r,P r->Q ⟨R,[]⟩ { s with env:=put s.env dst (g r) }):jh T f args R dst s Q .mk:=by
 obtain⟨d,H',⟨r,rfl,rfl,b⟩,j⟩:=Wf.one an0 an1 h h1;exact jh.c e c j i (a r) (k r b)
end
def Yv{f:FuncId}{args:List D}{R:List Fp}{dst:Option Nat}{s:St}{Q:Rc->St->Prop}{fn:jo}{α:Type}{g:α->D}{P:α->Prop}(h:Wf T f args [] (Ex g P))(k:∀r,P r->Q ⟨R,[]⟩ { s with env:=put s.env dst (g r) })
  (c:T.fn f=some fn:=by exact rfl) (b:fn.full=false:=by exact rfl) (h1:elem f E9=true:=by exact rfl) (d:gG args=true:=by simp) (a:∀r,closed (g r)=true:=by intro;simp):jh T f args R dst s Q .mk:=jh.q c b h1 h d a k
end Go.Proofs.YtmehofoficaelaaGreatDoor
namespace Go.AL
open Go
abbrev Kn:=Int×Int×Bool
@[irreducible] def fK(x:Kn):List D:=[.i x.1,.i x.2.1,.b x.2.2]
@[simp] theorem DR(x:Kn):fK x = [.i x.1,.i x.2.1,.b x.2.2]:=by unfold fK;rfl
instance:Fl fK 3:=⟨λ_=>by simp,λ_=>by simp[gG]⟩
@[simp] theorem atz(l:List Kn)(a b:Int)(c:Bool):cl fK l ++ [.i a,.i b,.b c]=cl fK (l ++ [(a,b,c)]):=by rw[<-p9,DR]
@[simp] theorem ads(l:List Bool)(c:Bool):cl fB l ++ [.b c]=cl fB (l ++ [c]):=by rw[<-p9,GX]
theorem M9{α:Type}[Inhabited α]{f:α->List D}{sz:Nat}[F:Fl f sz]{l:List α}{n:Int}{j:Nat}(b:j<sz){P:D->Prop}:oA (cl f l)[n.toNat*sz+j]? P .mk=(n.toNat<l.length/\oA (f (gt l n))[j]? P .mk):=by
 rw[Wa (f:=f) l n.toNat j b]
 by_cases a:n.toNat<l.length
 .rw[List.getElem?_eq_getElem a];have e:gt l n=l[n.toNat]:=by unfold gt;rw[List.getD_eq_getElem?_getD,List.getElem?_eq_getElem a];rfl
  simp[a,e]
 .rw[bp (by omega)];simp[a]
@[simp] theorem axo{l:List Kn}{n:Int}{P:D->Prop}:oA (cl fK l)[n.toNat*3+2]? P .mk=(n.toNat<l.length/\P (.b (gt l n).2.2)):=by have:=M9 (f:=fK) (l:=l) (n:=n) (j:=2) (by decide) (P:=P);simpa using this
@[simp] theorem axn{l:List Bool}{n:Int}{P:D->Prop}:oA (cl fB l)[n.toNat]? P .mk=(n.toNat<l.length/\P (.b (gt l n))):=by have:=M9 (f:=fB) (l:=l) (n:=n) (j:=0) (by decide) (P:=P);simpa using this
def V6{l:List Kn}{n:Int}(h:n.toNat<l.length):(cl fK l).drop (n.toNat*3)=fK (gt l n)++cl fK (l.drop (n.toNat+1)):=by rw[uQ,bA h,mD];congr 1;unfold gt;rw[List.getD_eq_getElem?_getD,List.getElem?_eq_getElem h];rfl
def adt{l:List Kn}{n:Int}(h:n.toNat<l.length)(a b:Int):(cl fK l).take (n.toNat*3) ++ .i a :: .i b::(cl fK l).drop (n.toNat*3+2)=cl fK (pt l n (a,b,(gt l n).2.2)):=by
 have e:(cl fK l).drop (n.toNat*3+2) = .b (gt l n).2.2::cl fK (l.drop (n.toNat+1)):=by rw[<-bZ,V6 h,DR];rfl
 rw[e,w6];unfold pt;rw[<-zH,mD,DR];rfl
@[simp] theorem awi{l:List Kn}{t:TypeId}{n:Int}:vf 2 (n.toNat*3) (some (t,cl fK l))=if n.toNat<l.length then some (.agg [.i (gt l n).1,.i (gt l n).2.1])else none:=by
 unfold vf;dsimp only
 by_cases h:n.toNat<l.length
 .rw[if_pos h,if_pos (by rw[rN];omega),V6 h,DR];rfl
 .rw[if_neg h,if_neg (by rw[rN];omega)]
def Na{α:Type}{f:α->List D}{sz:Nat}[F:Fl f sz](l:List α)(n:Int)(h1:n.toNat<l.length)(a:α):(cl f l).take (n.toNat*sz)++(f a++(cl f l).drop (n.toNat*sz+sz))=cl f (pt l n a):=by have:=adB (f:=f) l n.toNat a h1;rw[aK]at this;exact this
theorem Ja{α:Type}{f:α->List D}(a:α):∀n:Nat,(List.replicate n (f a)).flatten=cl f (List.replicate n a)
 | 0=>by simp
 | n+1=>by rw[bz,aZ,Ja a n,bz,mD]
@[simp] theorem an3(b:Bool)(n:Nat):(List.replicate n [D.b b]).flatten=cl fB (List.replicate n b):=by rw[<-Ja,GX]
@[simp] theorem an4(b:Int)(n:Nat):(List.replicate n [D.i b]).flatten=cl f1 (List.replicate n b):=by rw[<-Ja,zO]
@[simp] theorem ayV(a b:Int)(n:Nat):(List.replicate n [D.i a,D.i b]).flatten=cl fS (List.replicate n (a,b)):=by rw[<-Ja,xd]
@[simp] theorem ayT(b:Bool)(n:Nat):List.replicate n (D.b b)=cl fB (List.replicate n b):=by rw[<-an3];simp
@[simp] theorem ayU(b:Int)(n:Nat):List.replicate n (D.i b)=cl f1 (List.replicate n b):=by rw[<-an4];simp
def uT(l:List Bool):Nat:=l.countP λb => !b
def aa3{α:Type}[Inhabited α]{l:List α}{n:Int}{a b:α}(h0:0<=n)(h:n<l.length):pt (pt l n a) n b=pt l n b:=by rw[AO (l:=pt l n a) h0 (by rw[iC h0 h];exact h),AO h0 h,AO h0 h,List.set_set]
def afV{l:List Bool}{n:Int}(h0:0<=n)(h:n<l.length)(a:gt l n=false)(b:Bool):uT (pt l n b)+(if b then 1 else 0)=uT l:=by
 have e:l=l.take n.toNat++gt l n::l.drop (n.toNat+1):=by rw[<-n5 h0 h,bY]
 unfold pt
 conv=>rhs;rw[e]
 unfold uT;rw[cZ,cZ,bJ,bJ,a];cases b<;>simp<;>omega
end Go.AL
namespace Go.Proofs.YtmehofoficaelaaGreatDoor
open Go Go.AL Classical
set_option maxRecDepth 10000
set_option maxHeartbeats 1000000
structure ox(g:gj)(l:List Pos):Prop where
 A1:kX l
 ok:∀q∈l,iz g q
 cl:∀q∈l,∀m,rH g q m->m∈l
 len:l.length<=4000
def JL.c2{g:gj}{l:List Pos}(h:JL g l):ox g l:=⟨h.A1,h.ok,h.cl,by have:=h.len;omega⟩
noncomputable def gw(g:gj)(l:List Pos):List (List Int):=l.map λp=>(iW g p).map (pN l)
def f37(g:gj)(hg:gU g)(l:List Pos)(hl:ox g l):Wf T 39 [dG g,gZ l] [] (Is (.tup [.sl 1 ((gw g l).map fI),.b true])):=by
 have k:=hl.len;have b:∀q∈l,Small q:=λq c=>(hl.ok q c).small hg;refine Yz FV (iV 59 [2] FV.body) ?_;simp[FV,iV,kq,nb,ng,nD,lV];(with_reducible repeat' first|refine Xk ?_<;>try simp|refine Xs ?_ ?_<;>intro h<;>(try intro o)<;>(try simp[h])<;>try omega|refine Xg ?_|omega);refine Yc (f64 l (by omega) b) ?_;simp;have hs:=hl.A1;refine gf ?_;refine gp.e ((0,0,[]):Int×Nat×List (List Int)) (λy=>[(1,gZ l),(2,.ptr 0 0 0),(6,.fZ 1 y.2.1 1 0 y.2.2.length),(7,.i y.1)]) (λy=>[.row 43 0 g.cells,.row 37 y.2.1 (cl fI y.2.2)]) (λy=>0<=y.1/\y.1<=l.length/\y.2.2=(l.take y.1.toNat).map λp=>(iW g p).map (pN l)) (λy=>l.length-y.1.toNat) ?_ ?_
 .simp
 rintro⟨i,e,out⟩ ⟨i0,n,a⟩;dsimp only at i0 n a ⊢;simp;have u:out.length<=4000:=by rw[a];simp;omega
 refine jT ?_ ?_<;>intro h
 .have d:=hl.ok _ (gA i0 ‹_›);refine Yt (f65 g _ hg d) ?_;simp;refine gf ?_;refine Yt (f60 g hg _ d) ?_;simp;have t:=yT hg d;have m:∀q∈iW g (gt l i),q∈l:=λq c=>hl.cl _ (gA i0 ‹_›) q (CD.1 c);refine gp.e ((0,0,[]):Int×Nat×List Int) (λy=>[(1,gZ l),(2,.ptr 0 0 0),(6,.fZ 1 e 1 0 out.length),(7,.i i),(8,uq g (gt l i)),(9,.fZ 2 y.2.1 1 0 y.2.2.length),(10,.i y.1)]) (λy=>[.row 43 0 g.cells,.row 37 e (cl fI out),.row 3 y.2.1 (cl f1 y.2.2)]) (λy=>0<=y.1/\y.1<=(iW g (gt l i)).length/\y.2.2=((iW g (gt l i)).take y.1.toNat).map (pN l)) (λy=>(iW g (gt l i)).length-y.1.toNat) ?_ ?_
  .simp
  rintro⟨j,gm,row⟩ ⟨j0,j1,j2⟩;dsimp only at j0 j1 j2 ⊢;have r:row.length<=j.toNat:=by rw[j2];simp;omega
  simp;refine jT ?_ ?_<;>intro h
  .have f:=m _ (gA j0 ‹_›);refine Yc (f27 l _ (by omega) b (b _ f) hs) ?_;simp;have s:=G2 f;(with_reducible repeat' first|refine Xk ?_<;>try simp|refine Xs ?_ ?_<;>intro h<;>(try intro o)<;>(try simp[h])<;>try omega|refine Xg ?_|omega);refine LJ.e (j+1,gm+1,row ++ [pN l (gt (iW g (gt l i)) j)]) ?_;dsimp only;refine gJ ?_;rw[jn j0 ‹_›,List.map_append,j2];rfl
  .refine gf ?_;refine LJ.e (i+1,e+1,out ++ [row]) ?_;dsimp only;refine gJ ?_;rw[jn i0 ‹_›,List.map_append,a];rw[lr (by omega)]at j2;rw[j2];rfl
 .rw[a,lr (by omega)];rfl
noncomputable def s0(g:gj)(p:Pos):Kn:=((stat g p).1,0,(stat g p).2)
def afQ(g:gj)(hg:gU g)(l:List Pos)(hl:ox g l):Wf T 128 [dG g,gZ l] [] (λd H=>d = .fZ 0 l.length 3 0 l.length/\H = [.row 245 l.length (cl fK (l.map (s0 g)))]):=by
 have b:=hl.len;refine Wf.xo 1 (fn:=F0) rfl (by simp[F0]) ?_;simp[F0];refine gp.e ((0,[]):Int×List Kn) (λy=>[(1,gZ l),(2,.ptr 0 0 0),(5,.fZ 1 y.2.length 3 0 y.2.length),(6,.i y.1)]) (λy=>[.row 43 0 g.cells,.row 245 y.2.length (cl fK y.2)]) (λy=>0<=y.1/\y.1<=l.length/\y.2=(l.take y.1.toNat).map (s0 g)) (λy=>l.length-y.1.toNat) ?_ ?_
 .simp
 rintro⟨i,out⟩ ⟨i0,c,a⟩;dsimp only at i0 c a ⊢;have j:out.length=i.toNat:=by rw[a];simp;omega
 simp;refine jT ?_ ?_<;>intro h
 .refine Yt (f112 g hg _ (hl.ok _ (gA i0 ‹_›))) ?_;simp;refine gf ?_;refine LJ.i (i+1,out ++ [s0 g (gt l i)]) (by first|rfl|simp[s0]) (by first|rfl|simp[s0]) rfl rfl ?_;dsimp only;refine gJ ?_;rw[jn i0 ‹_›,List.map_append,a];rfl
 .have e:out=l.map (s0 g):=by rw[a,lr (by omega)]
  have f:out.length=l.length:=by rw[e];simp
  rw[<-e]
def pC{g:gj}{l:List Pos}(hl:ox g l){i:Int}(h0:0<=i)(h1:i<l.length):gt (gw g l) i=(iW g (gt l i)).map (pN l)/\∀k∈gt (gw g l) i,0<=k/\k<l.length:=by
 have e:gt (gw g l) i=(iW g (gt l i)).map (pN l):=by unfold gw gt;simp only[List.getD_eq_getElem?_getD,au];rw[List.getElem?_eq_getElem (by omega)];rfl
 refine⟨e,λk a=>?_⟩;rw[e]at a;obtain⟨q,b,rfl⟩:=List.mem_map.1 a;have:=G2 (hl.cl _ (gA h0 h1) q (CD.1 b));exact⟨this.1,this.2.1⟩
def f69(o s:Int)(hs:0<=s/\s<=1):Wf T 131 [.i o,.i s] [] (Is (.i (if o=1 then s else if o=3 then 1-s else -1))):=by
 refine Yg Mt ?_;simp[Mt];exact mQ
 all_goals simp[*]
def f68(g:gj)(hg:gU g)(l:List Pos)(hl:ox g l)(side:Int)(E:0<=side/\side<=1):Wf T 130 [dG g,gZ l,.sl 1 ((gw g l).map fI),.i side] [] (Ey (λr:List Bool=>.sl 1 (r.map fB)) λr=>r.length=l.length):=by
 have s:=hl.len;have D:(gw g l).length=l.length:=by simp[gw]
 have t:=λ(i:Int) (a:0<=i) (b:i<l.length)=>pC hl a b
 have u:∀i:Int,0<=i->i<l.length->(gt (gw g l) i).length<=4000000000:=λi a b=>by rw[(t i a b).1,List.length_map];exact yT hg (hl.ok _ (gA a b))
 refine Yg Ms ?_;simp[Ms];refine gf ?_;refine gp.e ((List.replicate l.length false,true):List Bool×Bool) (λy=>[(1,gZ l),(2,.sl 1 ((gw g l).map fI)),(3,.i side),(4,.ptr 0 0 0),(9,.fZ 1 0 1 0 l.length),(10,.b y.2)]) (λy=>[.row 43 0 g.cells,.row 4 0 (cl fB y.1)]) (λy=>y.1.length=l.length) (λy=>2*uT y.1+(if y.2 then 1 else 0)) ?_ ?_
 .simp
 rintro⟨f,ch⟩ h0;dsimp only at h0 ⊢;cases ch
 .simp[h0];exact Ey.i f rfl rfl h0
 simp;refine gp.e ((0,f,false):Int×List Bool×Bool) (λy=>[(1,gZ l),(2,.sl 1 ((gw g l).map fI)),(3,.i side),(4,.ptr 0 0 0),(9,.fZ 1 0 1 0 l.length),(10,.b y.2.2),(11,.i y.1)]) (λy=>[.row 43 0 g.cells,.row 4 0 (cl fB y.2.1)]) (λy=>0<=y.1/\y.1<=l.length/\y.2.1.length=l.length/\uT y.2.1<=uT f/\(y.2.2=true->uT y.2.1<uT f)) (λy=>l.length-y.1.toNat) ?_ ?_
 .grind
 rintro⟨i,w,ch⟩ ⟨i0,A,m,q,p⟩;dsimp only at i0 A m q p ⊢
 by_cases hi:i<l.length
 .have o:=hl.ok _ (gA i0 hi);simp[hi];refine jT ?_ ?_<;>intro h
  .refine LJ.e (i+1,w,ch) ?_;dsimp only;exact gJ ⟨m,q,p⟩
  .refine Yt (f112 g hg _ o) ?_;simp;have z:=h;refine gp.e ((0,false,true):Int×Bool×Bool) (λy=>[(1,gZ l),(2,.sl 1 ((gw g l).map fI)),(3,.i side),(4,.ptr 0 0 0),(9,.fZ 1 0 1 0 l.length),(10,.b ch),(11,.i i),(12,.ptr 2 0 0),(13,.b y.2.1),(14,.b y.2.2),(15,.i y.1)]) (λy=>[.row 43 0 g.cells,.row 4 0 (cl fB w),.row 193 0 [.i (stat g (gt l i)).1,.b (stat g (gt l i)).2]]) (λy=>0<=y.1/\y.1<=(gt (gw g l) i).length) (λy=>(gt (gw g l) i).length-y.1.toNat) ?_ ?_
   .simp
   rintro⟨k,j,al⟩ ⟨k0,k1⟩;dsimp only at k0 k1 ⊢
   by_cases n:k<(gt (gw g l) i).length
   .have F:=(t i i0 hi).2 _ (gA k0 n);have G:=u i i0 hi;generalize C:gt (gt (gw g l) i) k=x at *;cases j<;>cases al<;>simp[hi,n,C]<;>refine gf ?_
    .refine LJ.e (k+1,gt w x,false) ?_;dsimp only;omega
    .refine LJ.e (k+1,gt w x,gt w x) ?_;dsimp only;omega
    .refine LJ.e (k+1,true,false) ?_;dsimp only;omega
    .refine LJ.e (k+1,true,gt w x) ?_;dsimp only;omega
   .have d:∀v,(pt w i v).length=w.length:=λv=>iC i0 (by omega);have e:∀v,gt (pt w i v) i=v:=λv=>BC i0 (by omega)
    have c:∀b:Bool,0<=i+1/\i+1<=l.length/\(pt w i b).length=l.length/\uT (pt w i b)<=uT f/\((ch||b)=true->uT (pt w i b)<uT f):=λb=>by
     have h1:=afV i0 (by omega) z b;refine⟨by omega,by omega,by rw[d];exact m,by omega,λH=>?_⟩;cases b
     .grind
     .grind
    cases ch
    .simp[hi,n];have c:∀b:Bool,_:=c;(with_reducible repeat' first|refine Xk ?_<;>try simp[d,e]|refine Xs ?_ ?_<;>intro h<;>(try intro B)<;>(try simp[h,d,e])<;>try omega|refine Xg ?_|omega)
     .refine Yt (f69 (stat g (gt l i)).1 _ o.side) ?_;simp[d,e];refine kJ d e ?_;refine LJ.e (i+1,pt w i (!decide ((if (stat g (gt l i)).1=1 then(gt l i).side else if (stat g (gt l i)).1=3 then 1-(gt l i).side else -1)=1-side)),false || !decide ((if (stat g (gt l i)).1=1 then(gt l i).side else if (stat g (gt l i)).1=3 then 1-(gt l i).side else -1)=1-side)) ?_;exact pD (c _)
     .refine LJ.e (i+1,pt w i j,false||j) ?_;exact pD (c _)
     .refine LJ.e (i+1,pt w i al,false||al) ?_;exact pD (c _)
    .simp[hi,n];have c:∀b:Bool,_:=c;(with_reducible repeat' first|refine Xk ?_<;>try simp[d,e]|refine Xs ?_ ?_<;>intro h<;>(try intro B)<;>(try simp[h,d,e])<;>try omega|refine Xg ?_|omega)
     .refine Yt (f69 (stat g (gt l i)).1 _ o.side) ?_;simp[d,e];refine kJ d e ?_;refine LJ.e (i+1,pt w i (!decide ((if (stat g (gt l i)).1=1 then(gt l i).side else if (stat g (gt l i)).1=3 then 1-(gt l i).side else -1)=1-side)),true || !decide ((if (stat g (gt l i)).1=1 then(gt l i).side else if (stat g (gt l i)).1=3 then 1-(gt l i).side else -1)=1-side)) ?_;exact pD (c _)
     .refine LJ.e (i+1,pt w i j,true||j) ?_;exact pD (c _)
     .refine LJ.e (i+1,pt w i al,true||al) ?_;exact pD (c _)
 .simp[hi];refine LJ.e (w,ch) ?_;dsimp only;refine⟨?_,m⟩;cases ch
  .simp;omega
  .grind
def f39(g:gj)(hg:gU g)(l:List Pos)(hl:ox g l)(v:List gd)(p:v.length=l.length):Wf T 72 [dG g,gZ l,.sl 1 ((gw g l).map fI),iw v] [] (Ey dI λ_=>True):=by
 have f:=hl.len;refine Yg Mf ?_;simp[Mf];refine gp.e ((0,[]):Int×List Int) (λy=>[(1,gZ l),(2,.sl 1 ((gw g l).map fI)),(3,iw v),(4,.ptr 0 0 0),(9,.fZ 1 y.2.length 1 0 y.2.length),(10,.i y.1)]) (λy=>[.row 43 0 g.cells,.row 3 y.2.length (cl f1 y.2)]) (λy=>0<=y.1/\y.1<=v.length/\y.2.length=y.1.toNat) (λy=>v.length-y.1.toNat) ?_ ?_
 .simp
 rintro⟨i,w⟩ ⟨i0,n,m⟩;dsimp only at i0 n m ⊢;simp;(with_reducible repeat' first|refine Xk ?_<;>try simp|refine Xs ?_ ?_<;>intro h<;>(try intro k)<;>(try simp[h])<;>try omega|refine Xg ?_|omega)
 .refine LJ.e (i+1,w ++ [(gt v i).1]) ?_;exact gJ (by simp;omega)
 .exact Ey.i w rfl rfl trivial
 .have c:=f68 g hg l hl 0 (by omega);simp only[dG,gj.cells]at c;rw[h]at c;refine gx.q rfl rfl c (by simp) (λr=>by simp[yd]) ?_;intro r o;simp;refine gp.e ((0,w):Int×List Int) (λy=>[(1,gZ l),(3,iw v),(9,.fZ 1 w.length 1 0 w.length),(11,.i 1),(12,.sl 1 (r.map fB)),(13,.i y.1)]) (λy=>[.row 43 0 g.cells,.row 3 w.length (cl f1 y.2)]) (λy=>0<=y.1/\y.1<=l.length/\y.2.length=w.length) (λy=>l.length-y.1.toNat) ?_ ?_
  .simp
  rintro⟨j,u⟩ ⟨j0,j1,j2⟩;dsimp only at j0 j1 j2 ⊢
  by_cases d:j<l.length
  .have a:∀x:Int,(pt u j x).length=u.length:=λx=>iC j0 (by omega);have b:∀x y:Int,pt (pt u j x) j y=pt u j y:=λx y=>aa3 j0 (by omega);have e:=hl.ok _ (gA j0 d);simp[d];refine gf ?_;refine Yt (f69 (gt v j).1 _ e.side) ?_;simp[a,b];(with_reducible repeat' first|refine Xk ?_<;>try simp[a,b]|refine Xs ?_ ?_<;>intro h<;>(try intro k)<;>(try simp[h,a,b])<;>try omega|refine Xg ?_|omega)
   all_goals first
    | (refine LJ.i (j+1,u) rfl rfl rfl rfl (gJ (by first|exact j2|(dsimp only;rw[a];exact j2)));done)
    | (refine LJ.i (j+1,pt u j 2) rfl rfl rfl rfl (gJ (by first|exact j2|(dsimp only;rw[a];exact j2)));done)
    | (refine LJ.i (j+1,pt u j 1) rfl rfl rfl rfl (gJ (by first|exact j2|(dsimp only;rw[a];exact j2)));done)
    | (refine LJ.i (j+1,pt u j 3) rfl rfl rfl rfl (gJ (by first|exact j2|(dsimp only;rw[a];exact j2)));done)
  .simp[d];exact Ey.i u (by simp[j2]) rfl trivial
 .have c:=f68 g hg l hl 1 (by omega);simp only[dG,gj.cells]at c;refine gx.q rfl rfl c (by simp) (λr=>by simp[yd]) ?_;intro r o;simp;refine gp.e ((0,w):Int×List Int) (λy=>[(1,gZ l),(3,iw v),(9,.fZ 1 w.length 1 0 w.length),(11,.i 0),(12,.sl 1 (r.map fB)),(13,.i y.1)]) (λy=>[.row 43 0 g.cells,.row 3 w.length (cl f1 y.2)]) (λy=>0<=y.1/\y.1<=l.length/\y.2.length=w.length) (λy=>l.length-y.1.toNat) ?_ ?_
  .simp
  rintro⟨j,u⟩ ⟨j0,j1,j2⟩;dsimp only at j0 j1 j2 ⊢
  by_cases d:j<l.length
  .have a:∀x:Int,(pt u j x).length=u.length:=λx=>iC j0 (by omega);have b:∀x y:Int,pt (pt u j x) j y=pt u j y:=λx y=>aa3 j0 (by omega);have e:=hl.ok _ (gA j0 d);simp[d];refine gf ?_;refine Yt (f69 (gt v j).1 _ e.side) ?_;simp[a,b];(with_reducible repeat' first|refine Xk ?_<;>try simp[a,b]|refine Xs ?_ ?_<;>intro h<;>(try intro k)<;>(try simp[h,a,b])<;>try omega|refine Xg ?_|omega)
   all_goals first
    | (refine LJ.i (j+1,u) rfl rfl rfl rfl (gJ (by first|exact j2|(dsimp only;rw[a];exact j2)));done)
    | (refine LJ.i (j+1,pt u j 2) rfl rfl rfl rfl (gJ (by first|exact j2|(dsimp only;rw[a];exact j2)));done)
    | (refine LJ.i (j+1,pt u j 1) rfl rfl rfl rfl (gJ (by first|exact j2|(dsimp only;rw[a];exact j2)));done)
    | (refine LJ.i (j+1,pt u j 3) rfl rfl rfl rfl (gJ (by first|exact j2|(dsimp only;rw[a];exact j2)));done)
  .simp[d];exact Ey.i u (by simp[j2]) rfl trivial
end Go.Proofs.YtmehofoficaelaaGreatDoor
namespace Go.AL
open Go
section
variable{P:D->Prop}{a b:Int}{k:IntKind}{t:Tag P}
@[simp low] theorem axN:oA (jU .rem k a b) P t=(b≠0/\P (.val (.int k (gD a b)))):=by
 cases t;simp only[jU]
 by_cases h:b=0<;>simp[h,gD]
def j'(k:IntKind)(a b:Int):Int:=k.wrap (a.tdiv b)
@[simp low] theorem axL:oA (jU .quo k a b) P t=(b≠0/\P (.val (.int k (j' k a b)))):=by
 cases t;simp only[jU]
 by_cases h:b=0<;>simp[h,j']
end
@[simp] theorem auY{ρ:Nat->Option Nat}{H:U}{k:Nat}{t:TypeId}{a b:Int}:mK ρ H (k+1) 1 0 2 (some (t,[.i a,.i b]))=dI [a,b]:=by have h:=tM (f:=f1) (ρ:=ρ) (H:=H) (k:=k) (t:=t) (l:=[a,b]) (n:=2) rfl;rw[nO]at h;simp only[List.map_cons,List.map_nil,zO,aZ,dJ,az,bW,aS]at h;rw[h];unfold dI;simp only[List.map_cons,List.map_nil,zO]
end Go.AL
namespace Go.AL
open Go
@[irreducible] def fU(n:Int):List D:=[.val (.int .u8 n)]
@[simp] theorem zQ(n:Int):fU n = [.val (.int .u8 n)]:=by unfold fU;rfl
instance:Fl fU 1:=⟨λ_=>by simp,λ_=>by simp[gG]⟩
def dU(l:List Int):D:=.sl 1 (l.map fU)
def ye(l:List Int):dU l = .sl 1 (l.map fU):=rfl
@[simp] theorem at7(l:List Int):closed (dU l)=true:=by unfold dU;exact yd l
@[simp] theorem awD(l:List Int)(H:U):mX .slice (dU l) H=some (.i l.length):=by simp[dU]
@[simp] theorem axF{l:List Int}{n:Int}{k:IntKind}{P:D->Prop}:oA (mG 1 (dU l) (.val (.int k n))) P .mk=((0<=n/\n<l.length)/\P (.gC [.val (.int .u8 (gt l n))])):=by unfold dU;rw[yV,zQ]
@[simp] theorem aAn(n:Nat)(l:List Int):jk n (dU l) = []:=rfl
@[simp] theorem atj(l:List Int):cellsOf (dU l)=some [dU l]:=rfl
@[simp] theorem ayd(l:List Int):one (dU l)=true:=rfl
structure wV(QO kinds gM:Int)(l:List gd):Prop where
 steps:∀x∈l,((x.1=1\/x.1=2\/x.1=7)/\0<=x.2/\x.2<QO)\/(3<=x.1/\x.1<=6/\x.2=0)\/(x.1=8/\0<=x.2/\x.2<kinds)\/((x.1=9\/x.1=10)/\0<=x.2/\x.2<gM)
 len:l.length<=8
 uF:oO l 6<=2
 push:oO l 7<=1
 MR:oO l 8<=1
@[simp] theorem ash(a b:Int):jU .add .u8 a b=some (.val (.int .u8 (IntKind.u8.wrap (a+b)))):=rfl
@[simp] theorem ast(a b:Int):jU .sub .u8 a b=some (.val (.int .u8 (IntKind.u8.wrap (a-b)))):=rfl
theorem acm(n:Int):0<=IntKind.u8.wrap n/\IntKind.u8.wrap n<256:=by simp only[IntKind.wrap,IntKind.bits,IntKind.signed];simp;omega
def I4(a b:Int):0<=j' .u8 a b/\j' .u8 a b<256:=acm _
def ad8{ρ:Nat->Option Nat}{H:U}{k n:Nat}{t:TypeId}{cs:List D}(l:List Int)(h:cs=l.map λn=>D.val (.int .u8 n))(c:n=l.length):mK ρ H (k+1) 1 0 n (some (t,cs))=dU l:=by
 subst c
 have e:cs=cl fU l:=by
  rw[h,nO];clear h
  induction l with
  | nil=>rfl
  | cons a r b=>simp[<-b]
 rw[e,tM rfl];rfl
def aiJ{sz:Nat}{es:List (List D)}{k:IntKind}{n:Int}{P:D->Prop}:oA (mG sz (.sl sz es) (.val (.int k n))) P .mk=((0<=n/\n<es.length)/\P (.gC (es.getD n.toNat []))):=by simp only[mG,true_and,CH,AJ]
def oA.i{α:Type}{x:Option α}{P:α->Prop}{t:Tag P}{a:α}(h1:x=some a)(b:P a):oA x P t:=⟨a,h1,b⟩
end Go.AL
namespace Go.Proofs.YtmehofoficaelaaGreatDoor
open Go Go.AL Classical
set_option maxRecDepth 10000
set_option maxHeartbeats 4000000
def f192(l:List Int)(k:Int)(a:0<=k):Wf T 278 [dU l,.i k] [] (Is (.i (if k<l.length then IntKind.i64.wrap (gt l k)else 0))):=by
 refine Yg Lp ?_;simp[Lp];exact mQ
 all_goals simp[*]
def yN(d o b k r:Int):List (List gd):=[[(1,d),(3,0)],[(1,d),(4,0),(6,0)],[(2,d)],[(2,d),(4,0),(6,0)],[(1,d),(4,0),(6,0),(1,d)],[(1,d),(1,o)],[(1,d),(7,d)],[(1,d),(3,0),(8,k)],[(9,r),(1,d),(1,d),(10,r)],[(1,d),(5,0),(1,d),(3,0)],[(10,r),(1,d)],[(1,d),(4,0),(6,0),(1,b)],[(1,d),(4,0),(6,0),(1,o),(4,0),(6,0)],[(2,d),(5,0),(1,d)],[(1,d),(4,0),(6,0),(8,k)],[(1,d),(7,d),(1,o)]]
def ah5(d o b k r:Int)(i:0<=d/\d<8)(f:0<=o/\o<8)(j:0<=b/\b<8)(g:0<=k/\k<6)(e:0<=r/\r<4):∀p∈yN d o b k r,wV 8 6 4 p:=by
 have c:∀p:List gd,(∀x∈p,((x.1=1\/x.1=2\/x.1=7)/\0<=x.2/\x.2<8)\/(3<=x.1/\x.1<=6/\x.2=0)\/(x.1=8/\0<=x.2/\x.2<6)\/((x.1=9\/x.1=10)/\0<=x.2/\x.2<4))->p.length<=8/\oO p 6<=2/\oO p 7<=1/\oO p 8<=1->wV 8 6 4 p:=λp a b=>⟨a,b.1,b.2.1,b.2.2.1,b.2.2.2⟩;intro p h;unfold yN at h;simp only[ao,eE,or_false]at h;rcases h with rfl|rfl|rfl|rfl|rfl|rfl|rfl|rfl|rfl|rfl|rfl|rfl|rfl|rfl|rfl|rfl
 all_goals
  refine c _ ?_ ?_
  .simp;omega
  .simp[oO]
def ah4(d o b k r m:Int)(h0:0<=m)(h1:m<16):([[D.sl 2 [[D.i 1,D.i d],[D.i 3,D.i 0]]],[D.sl 2 [[D.i 1,D.i d],[D.i 4,D.i 0],[D.i 6,D.i 0]]],[D.sl 2 [[D.i 2,D.i d]]],[D.sl 2 [[D.i 2,D.i d],[D.i 4,D.i 0],[D.i 6,D.i 0]]],[D.sl 2 [[D.i 1,D.i d],[D.i 4,D.i 0],[D.i 6,D.i 0],[D.i 1,D.i d]]],[D.sl 2 [[D.i 1,D.i d],[D.i 1,D.i o]]],[D.sl 2 [[D.i 1,D.i d],[D.i 7,D.i d]]],[D.sl 2 [[D.i 1,D.i d],[D.i 3,D.i 0],[D.i 8,D.i k]]],[D.sl 2 [[D.i 9,D.i r],[D.i 1,D.i d],[D.i 1,D.i d],[D.i 10,D.i r]]],[D.sl 2 [[D.i 1,D.i d],[D.i 5,D.i 0],[D.i 1,D.i d],[D.i 3,D.i 0]]],[D.sl 2 [[D.i 10,D.i r],[D.i 1,D.i d]]],[D.sl 2 [[D.i 1,D.i d],[D.i 4,D.i 0],[D.i 6,D.i 0],[D.i 1,D.i b]]],[D.sl 2 [[D.i 1,D.i d],[D.i 4,D.i 0],[D.i 6,D.i 0],[D.i 1,D.i o],[D.i 4,D.i 0],[D.i 6,D.i 0]]],[D.sl 2 [[D.i 2,D.i d],[D.i 5,D.i 0],[D.i 1,D.i d]]],[D.sl 2 [[D.i 1,D.i d],[D.i 4,D.i 0],[D.i 6,D.i 0],[D.i 8,D.i k]]],[D.sl 2 [[D.i 1,D.i d],[D.i 7,D.i d],[D.i 1,D.i o]]]].getD m.toNat [])[0]? = some (iw (gt (yN d o b k r) m)):=by
 rcases(show m=0\/m=1\/m=2\/m=3\/m=4\/m=5\/m=6\/m=7\/m=8\/m=9\/m=10\/m=11\/m=12\/m=13\/m=14\/m=15 by omega)with rfl|rfl|rfl|rfl|rfl|rfl|rfl|rfl|rfl|rfl|rfl|rfl|rfl|rfl|rfl|rfl
 all_goals simp[yN,gt,iw]
def f152(l:List Int)(hl:l.length=5)(h:∀n∈l,0<=n/\n<256):Wf T 228 [dU l] [] (Ey iw (wV 8 6 4)):=by
 have e:∀k:Int,0<=k->k<5->(if k<l.length then IntKind.i64.wrap (gt l k)else 0)=gt l k:=λk a b=>by rw[if_pos (by omega)];have:=h _ (gA (l:=l) a (by omega));exact np iE
 have c:∀k:Int,0<=k->k<5->0<=gt l k:=λk a b=>(h _ (gA (l:=l) a (by omega))).1;refine Yz FN (iV 121 [0,1,2,3,4,5,6,7,8,9,10,11,12,13,14,15,16,17,18,19,20,21,22,23,24,25,26,27,28] FN.body) ?_;simp[FN,iV,kq,nb,ng,nD,lV];refine Yc (f192 l 1 (by omega)) ?_;simp[e 1 (by omega) (by omega)];refine Yc (f192 l 2 (by omega)) ?_;simp[e 2 (by omega) (by omega)];refine Yc (f192 l 3 (by omega)) ?_;simp[e 3 (by omega) (by omega)];refine Yc (f192 l 4 (by omega)) ?_;simp[e 4 (by omega) (by omega),mK,chunks];have q:=jB (a:=gt l 1) (b:=8) (c 1 (by omega) (by omega));have p:=jB (a:=gt l 2) (b:=8) (c 2 (by omega) (by omega));have o:=jB (a:=gt l 3) (b:=6) (c 3 (by omega) (by omega));have j:=jB (a:=gt l 4) (b:=4) (c 4 (by omega) (by omega));have r:=jB (a:=gt l 0) (b:=16) (c 0 (by omega) (by omega));have i:=jB (a:=gD (gt l 1) 8+4) (b:=8) (by omega);have d:IntKind.i64.wrap (gt l 0)=gt l 0:=by grind
 refine gf ?_;refine Yc (f192 l 0 (by omega)) ?_;simp[hl,d,aiJ,mK,chunks];refine gf ?_;have f:=ah5 (gD (gt l 1) 8) (gD (gt l 2) 8) (gD (gD (gt l 1) 8+4) 8) (gD (gt l 3) 6) (gD (gt l 4) 4) (by omega) (by omega) (by omega) (by omega) (by omega);have g:(yN (gD (gt l 1) 8) (gD (gt l 2) 8) (gD (gD (gt l 1) 8+4) 8) (gD (gt l 3) 6) (gD (gt l 4) 4)).length=16:=rfl;have hg:∀m:Int,0<=m->m<16->gt (yN (gD (gt l 1) 8) (gD (gt l 2) 8) (gD (gD (gt l 1) 8+4) 8) (gD (gt l 3) 6) (gD (gt l 4) 4)) m∈yN (gD (gt l 1) 8) (gD (gt l 2) 8) (gD (gD (gt l 1) 8+4) 8) (gD (gt l 3) 6) (gD (gt l 4) 4):=λm a b=>gA a (by omega);refine oA.i (a:=iw (gt (yN (gD (gt l 1) 8) (gD (gt l 2) 8) (gD (gD (gt l 1) 8+4) 8) (gD (gt l 3) 6) (gD (gt l 4) 4)) (gD (gt l 0) 16))) ?_ ?_
 .exact ah4 _ _ _ _ _ _ (by omega) (by omega)
 .simp;exact Ey.i (gt (yN (gD (gt l 1) 8) (gD (gt l 2) 8) (gD (gD (gt l 1) 8+4) 8) (gD (gt l 3) 6) (gD (gt l 4) 4)) (gD (gt l 0) 16)) rfl rfl (f _ (hg _ (by omega) (by omega)))
set_option maxHeartbeats 1000000
def Gz(l:List gd)(x:gd)(op:Int):oO (l ++ [x]) op=oO l op+(if x.1=op then 1 else 0):=by unfold oO;rw[cZ];simp[bJ];split<;>rfl
def sR(a kinds gM:Int)(x:gd):Prop:=((x.1=1\/x.1=2\/x.1=7)/\0<=x.2/\x.2<a)\/(3<=x.1/\x.1<=6/\x.2=0)\/(x.1=8/\0<=x.2/\x.2<kinds)\/((x.1=9\/x.1=10)/\0<=x.2/\x.2<gM)
structure A6(p:List gd)(kinds gM:Int)(i:Int)(out:List gd):Prop where
 i0:0<=i/\i<=p.length
 steps:∀x∈out,sR 8 kinds gM x
 QC:∀op,oO out op<=oO (p.take i.toNat) op
 len:out.length<=i.toNat
def A6.add{p:List gd}{kinds gM i:Int}{out:List gd}(h:A6 p kinds gM i out)(hi:i<p.length){x:gd}(c:sR 8 kinds gM x)(b:x.1=(gt p i).1):A6 p kinds gM (i+1) (out ++ [x]):=by
 have h0:=h.i0;refine⟨by omega,λy a=>?_,λop=>?_,by have:=h.len;simp;omega⟩
 .rcases List.mem_append.1 a with a|a
  .exact h.steps y a
  .grind
 .rw[jn h0.1 hi,Gz,Gz,b];have:=h.QC op;omega
def A6.skip{p:List gd}{kinds gM i:Int}{out:List gd}(h:A6 p kinds gM i out)(hi:i<p.length):A6 p kinds gM (i+1) out:=by have h0:=h.i0;refine⟨by omega,h.steps,λop=>?_,by have:=h.len;omega⟩;rw[jn h0.1 hi,Gz];have:=h.QC op;split<;>omega
def f151(p:List gd)(kinds gM:Int)(e:wV 8 6 4 p)(q:1<=kinds/\kinds<=6)(o:0<=gM/\gM<=4):Wf T 227 [iw p,.i 8,.i kinds,.i gM] [] (Ey iw λr=>wV 8 kinds gM r/\1<=r.length):=by
 have hl:=e.len;refine Yg K6 ?_;simp[K6];refine gp.e ((0,[]):Int×List gd) (λy=>[(0,iw p),(1,.i 8),(2,.i kinds),(3,.i gM),(9,.fZ 0 y.2.length 2 0 y.2.length),(10,.i y.1)]) (λy=>[.row 173 y.2.length (cl fS y.2)]) (λy=>A6 p kinds gM y.1 y.2) (λy=>p.length-y.1.toNat) ?_ ?_
 .exact⟨by simp,by simp,by simp,by simp⟩
 rintro⟨i,out⟩ c;have h0:=c.i0;have k:=c.len;dsimp only at c h0 k ⊢
 by_cases hi:i<p.length
 .have n:=e.steps _ (gA h0.1 hi);have d:=λ(x:gd)=>c.add hi (x:=x)
  have a:∀b:Int,0<b->0<=(gt p i).2->0<=gD (gt p i).2 b/\gD (gt p i).2 b<b:=λb h1 l=>by rw[jB l];exact⟨b9 _ (by omega),bT _ h1⟩
  simp[hi];(with_reducible repeat' first|refine Xk ?_<;>try simp|refine Xs ?_ ?_<;>intro h<;>(try intro s)<;>(try simp[h])<;>try omega|refine Xg ?_|omega)
  .refine LJ.e (i+1,out ++ [(1,gD (gt p i).2 8)]) ?_;have j:=a 8 (by omega);have g:=a kinds (by omega);exact pD (d _ (by unfold sR;dsimp only;omega) (by dsimp only;omega))
  .refine LJ.e (i+1,out ++ [(2,gD (gt p i).2 8)]) ?_;have j:=a 8 (by omega);have g:=a kinds (by omega);exact pD (d _ (by unfold sR;dsimp only;omega) (by dsimp only;omega))
  .refine LJ.e (i+1,out ++ [(7,gD (gt p i).2 8)]) ?_;have j:=a 8 (by omega);have g:=a kinds (by omega);exact pD (d _ (by unfold sR;dsimp only;omega) (by dsimp only;omega))
  .refine LJ.e (i+1,out ++ [(8,gD (gt p i).2 kinds)]) ?_;have j:=a 8 (by omega);have g:=a kinds (by omega);exact pD (d _ (by unfold sR;dsimp only;omega) (by dsimp only;omega))
  .refine LJ.i (i+1,out) (by first|rfl|simp[*]) (by first|rfl|simp[*]) rfl rfl ?_;exact pD (c.skip hi)
  .have m:=a gM (by omega);refine LJ.e (i+1,out ++ [((gt p i).1,gD (gt p i).2 gM)]) ?_;exact pD (d _ (by unfold sR;dsimp only;omega) (by dsimp only))
  .refine LJ.i (i+1,out) (by first|rfl|simp[*]) (by first|rfl|simp[*]) rfl rfl ?_;exact pD (c.skip hi)
  .have m:=a gM (by omega);refine LJ.e (i+1,out ++ [((gt p i).1,gD (gt p i).2 gM)]) ?_;exact pD (d _ (by unfold sR;dsimp only;omega) (by dsimp only))
  .refine LJ.e (i+1,out ++ [gt p i]) ?_;exact pD (d _ (by unfold sR;omega) rfl)
 .simp[hi];have f:=c.QC;rw[lr (by omega)]at f;refine jT ?_ ?_<;>intro h
  .refine Ey.i [(3,0)] (by simp[iw]) rfl ⟨⟨by simp,by simp,by simp[oO],by simp[oO],by simp[oO]⟩,by simp⟩
  .refine Ey.i out rfl rfl ⟨⟨c.steps,by omega,fY (f 6) e.uF,fY (f 7) e.push,fY (f 8) e.MR⟩,?_⟩;exact aw.2 (by simpa using h)
def f105(n kinds gM:Int)(i:0<=n/\n<256)(d:1<=kinds/\kinds<=6)(a:0<=gM/\gM<=4):Wf T 160 [.val (.int .u8 n),.i 8,.i kinds,.i gM] [] (Ey iw λr=>wV 8 kinds gM r/\1<=r.length):=by
 refine Yz FH (kq 21 [0] FH.body) ?_;simp[FH,iV,kq,nb,ng,nD,lV];have f:∀ρ H,mK ρ H 39 1 0 5 (some (5,[.val (.int .u8 n),.val (.int .u8 (j' .u8 n 16)),.val (.int .u8 (IntKind.u8.wrap (j' .u8 n 16+gD n 5))),.val (.int .u8 (j' .u8 n 3)),.val (.int .u8 n)]))=dU [n,j' .u8 n 16,IntKind.u8.wrap (j' .u8 n 16+gD n 5),j' .u8 n 3,n]:=λρ H=>ad8 _ rfl rfl;rw[f];have g:=I4 n 16;have k:=I4 n 3;have h:=acm (j' .u8 n 16+gD n 5);have e:∀m∈[n,j' .u8 n 16,IntKind.u8.wrap (j' .u8 n 16+gD n 5),j' .u8 n 3,n],0<=m/\m<256:=λm j=>by grind
 refine Yq (f152 _ rfl e) λp c=>?_;simp;refine Yq (f151 p kinds gM c d a) λq b=>?_;simp;exact Ey.i q rfl rfl b
def CA(n:Int)(nx:List (List Int))(tn:List Int):gj:={ (default:gj)with size:=n,next:=nx,jw:=tn }
def bD(n:Int)(nx:List (List Int))(tn:List Int):D:=.agg [.i n,.sl 1 (nx.map fI),dI tn]
def f150(n:Int)(nx:List (List Int))(tn:List Int)(d:oM (CA n nx tn))(c:Int)(w:0<=c/\c<n):Wf T 226 [bD n nx tn,.i c] [] (Ey (λx:List (List Int)=>.tup [bD n x tn,.i 0]) λx=>oM (CA n x tn)):=by
 have v:1<=n/\n<=9:=d.size;have a:nx.length=8:=d.next
 have u:tn.length=8:=d.jw;have t:∀l∈nx,(l.length:Int)=n/\∀x∈l,-1<=x/\x<n:=d.row;refine Yz FM (kq 63 [1008] FM.body) ?_;simp[FM,iV,kq,nb,ng,nD,lV,bD];(with_reducible repeat' first|refine Xk ?_<;>try simp|refine Xs ?_ ?_<;>intro h<;>(try intro k)<;>(try simp[h])<;>try omega|refine Xg ?_|omega);refine gp.e ((0,0,[]):Int×Nat×List (List Int)) (λy=>[(1,.i c),(2,.ptr 0 0 0),(4,.ptr 1 0 0),(6,.ptr 3 0 0),(7,.i y.1)]) (λy=>.row 39 0 [.i n,.sl 1 (nx.map fI),dI tn] :: .row 39 0 [.i 0,.gg,.gg] :: .row 3 1 (cl f1 tn) :: .row 39 0 [.i n,(if y.1=0 then .gg else .fZ 4 y.2.1 1 0 y.2.2.length),.fZ 2 1 1 0 tn.length]::(if y.1=0 then []else [.row 37 y.2.1 (cl fI y.2.2)])) (λy=>0<=y.1/\y.1<=8/\y.2.2.length=y.1.toNat/\∀l∈y.2.2,(l.length:Int)=n/\∀x∈l,-1<=x/\x<n) (λy=>8-y.1.toNat) ?_ ?_
 .simp
 rintro⟨i,g,out⟩ ⟨i0,r,q,f⟩;dsimp only at i0 r q f ⊢
 by_cases hi:i<nx.length
 .have m:=t _ (gA (l:=nx) i0 hi)
  by_cases b:i=0
  .have p:out = []:=ax.1 (by omega);subst b;subst p;simp[a];refine gp.e ((0,[]):Int×List Int) (λy=>[(1,.i c),(2,.ptr 0 0 0),(4,.ptr 1 0 0),(6,.ptr 3 0 0),(7,.i 0),(8,.fZ 4 y.2.length 1 0 y.2.length),(9,.i y.1)]) (λy=>[.row 39 0 [.i n,.sl 1 (nx.map fI),dI tn],.row 39 0 [.i 0,.gg,.gg],.row 3 1 (cl f1 tn),.row 39 0 [.i n,.gg,.fZ 2 1 1 0 tn.length],.row 3 y.2.length (cl f1 y.2)]) (λy=>0<=y.1/\y.1<=n/\y.2.length=y.1.toNat/\∀x∈y.2,-1<=x/\x<n) (λy=>n.toNat-y.1.toNat) ?_ ?_
   .simp;omega
   rintro⟨j,row⟩ ⟨j0,j1,j2,j3⟩;dsimp only at j0 j1 j2 j3 ⊢
   by_cases e:j<n
   .have s:=m.2 _ (gA (l:=gt nx 0) j0 (by omega));simp[a,e];(with_reducible repeat' first|refine Xk ?_<;>try simp|refine Xs ?_ ?_<;>intro h<;>(try intro k)<;>(try simp[h])<;>try omega|refine Xg ?_|omega)
    .refine LJ.i (j+1,row ++ [-1]) (by first|rfl|simp[*]) (by first|rfl|simp[*]) rfl rfl ?_;dsimp only;refine⟨by omega,by omega,by omega,by simp;omega,λx a=>?_⟩;rcases List.mem_append.1 a with a|a
     .exact j3 x a
     .grind
    .refine LJ.i (j+1,row ++ [-1]) (by first|rfl|simp[*]) (by first|rfl|simp[*]) rfl rfl ?_;dsimp only;refine⟨by omega,by omega,by omega,by simp;omega,λx a=>?_⟩;rcases List.mem_append.1 a with a|a
     .exact j3 x a
     .grind
    .refine LJ.e (j+1,row ++ [gt (gt nx 0) j]) ?_;dsimp only;refine⟨by omega,by omega,by omega,by simp;omega,λx a=>?_⟩;rcases List.mem_append.1 a with a|a
     .exact j3 x a
     .grind
   .simp[a,e];refine gf ?_;refine LJ.i (1,0,[row]) (by first|rfl|simp[iM]) (by first|rfl|simp[iM]) rfl rfl ?_;dsimp only;refine⟨by omega,by omega,by omega,by simp,λx a=>?_⟩;have o:(row.length:Int)=n/\∀x∈row,-1<=x/\x<n:=⟨by omega,j3⟩;rw[List.mem_singleton]at a;rw[a];exact o
  .simp[hi,b];refine gp.e ((0,[]):Int×List Int) (λy=>[(1,.i c),(2,.ptr 0 0 0),(4,.ptr 1 0 0),(6,.ptr 3 0 0),(7,.i i),(8,.fZ 5 y.2.length 1 0 y.2.length),(9,.i y.1)]) (λy=>[.row 39 0 [.i n,.sl 1 (nx.map fI),dI tn],.row 39 0 [.i 0,.gg,.gg],.row 3 1 (cl f1 tn),.row 39 0 [.i n,.fZ 4 g 1 0 out.length,.fZ 2 1 1 0 tn.length],.row 37 g (cl fI out),.row 3 y.2.length (cl f1 y.2)]) (λy=>0<=y.1/\y.1<=n/\y.2.length=y.1.toNat/\∀x∈y.2,-1<=x/\x<n) (λy=>n.toNat-y.1.toNat) ?_ ?_
   .simp;omega
   rintro⟨j,row⟩ ⟨j0,j1,j2,j3⟩;dsimp only at j0 j1 j2 j3 ⊢
   by_cases e:j<n
   .have s:=m.2 _ (gA (l:=gt nx i) j0 (by omega));simp[hi,e,b];(with_reducible repeat' first|refine Xk ?_<;>try simp[b]|refine Xs ?_ ?_<;>intro h<;>(try intro k)<;>(try simp[h,b])<;>try omega|refine Xg ?_|omega)
    .refine LJ.i (j+1,row ++ [-1]) (by first|rfl|simp[*]) (by first|rfl|simp[*]) rfl rfl ?_;dsimp only;refine⟨by omega,by omega,by omega,by simp;omega,λx a=>?_⟩;rcases List.mem_append.1 a with a|a
     .exact j3 x a
     .grind
    .refine LJ.i (j+1,row ++ [-1]) (by first|rfl|simp[*]) (by first|rfl|simp[*]) rfl rfl ?_;dsimp only;refine⟨by omega,by omega,by omega,by simp;omega,λx a=>?_⟩;rcases List.mem_append.1 a with a|a
     .exact j3 x a
     .grind
    .refine LJ.e (j+1,row ++ [gt (gt nx i) j]) ?_;dsimp only;refine⟨by omega,by omega,by omega,by simp;omega,λx a=>?_⟩;rcases List.mem_append.1 a with a|a
     .exact j3 x a
     .grind
   .simp[e,b];refine jD b ?_;refine LJ.i (i+1,g+1,out ++ [row]) (by first|rfl|simp[show¬(i+1=0)by omega]) (by first|rfl|simp[show¬(i+1=0)by omega]) rfl rfl ?_;dsimp only;refine⟨by omega,by omega,by omega,by simp;omega,λx a=>?_⟩;have o:(row.length:Int)=n/\∀x∈row,-1<=x/\x<n:=⟨by omega,j3⟩;rcases List.mem_append.1 a with a|a
    .exact f x a
    .grind
 .simp[hi,show¬i=0 by omega];exact Ey.i out (by simp) rfl ⟨d.size,by show out.length=8;omega,f,d.jw,d.turns⟩
