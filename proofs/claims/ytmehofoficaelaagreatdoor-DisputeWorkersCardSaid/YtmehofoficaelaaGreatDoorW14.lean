/- Part 14 of DisputeWorkers. -/
import Derived.Test.YtmehofoficaelaaGreatDoorW13
set_option linter.all false
namespace Go.Proofs.YtmehofoficaelaaGreatDoor
open Go Go.AL Classical
set_option maxRecDepth 10000
set_option maxHeartbeats 1000000
theorem VG{g:gi}{p:Pos}(h:¬ended g p){r:List Pos}(hs:kU r)(a:∀q,q∈r↔rH g p q):gZ r=uh g p:=by unfold uh;rw[if_neg h,S1 hs a]
theorem f60(g:gi)(hg:gV g)(p:Pos)(n:iw g p):Wf T 85 [dG g,dP p] [] (Is (uh g p)):=by
 refine Yz FB (iZ 66 [2] FB.body) ?_;simp[FB,iZ,kD,np,nz,nP,ma];refine Yc (f106 g hg p n) ?_;simp;refine j' ?_ ?_<;>intro h
 .unfold uh;rw[if_pos (M1.1 ‹_›)]
 have k:¬ended g p:=λf=>h (M1.2 f);refine Yq (f107 g hg p n) λl hl=>?_;simp;have C:=hl.2;refine gj.e ((0,false):Int×Bool) (λy=>[(2,.ptr 0 0 0),(3,.ptr 1 0 0),(5,oa l),(6,.fY 2 0 5 0 0),(7,.b y.2),(8,.i y.1)]) (λy=>[.row 43 0 g.cells,.row 46 0 p.cells,.row 46 0 []]) (λy=>0<=y.1/\y.1<=l.length/\(y.2=true↔g.oK=true/\∃o∈l.take y.1.toNat,o.jN=true)) (λy=>l.length-y.1.toNat) ?_ ?_
 .simp
 rintro⟨i,oK⟩ ⟨h0,h1,f⟩;dsimp only at h0 h1 f ⊢
 by_cases t:i<l.length
 .have e:∀o,o∈l.take (i+1).toNat↔o∈l.take i.toNat\/o=gt l i:=λo=>by rw[jq h0 t,List.mem_append,List.mem_singleton]
  cases d:g.oK<;>cases oK<;>simp[d,t]
  .refine gd ?_;refine LJ.i (i+1,false) (by first|rfl|simp[d]) (by first|rfl|simp[d]) rfl rfl ?_;dsimp only;exact gO (by simp[d])
  .grind
  .refine gd ?_;refine LJ.i (i+1,(gt l i).jN) (by first|rfl|simp[d]) (by first|rfl|simp[d]) rfl rfl ?_;dsimp only;refine gO ?_;simp[d]at f ⊢;constructor
   .grind
   .grind
  .refine gd ?_;refine LJ.i (i+1,true) (by first|rfl|simp[d]) (by first|rfl|simp[d]) rfl rfl ?_;dsimp only;refine gO ?_;simp[d]at f ⊢;obtain⟨o,A,h⟩:=f;exact⟨o,(e o).2 (.inl A),h⟩
 .simp[t];rw[ln (by omega)]at f;refine gj.e ((0,0,[]):Int×Nat×List Pos) (λy=>[(2,.ptr 0 0 0),(3,.ptr 1 0 0),(5,oa l),(6,.fY 2 y.2.1 5 0 y.2.2.length),(7,.b oK),(9,.i y.1)]) (λy=>[.row 43 0 g.cells,.row 46 0 p.cells,.row 46 y.2.1 (cl Pos.cells y.2.2)]) (λy=>0<=y.1/\y.1<=l.length/\(∀q,q∈y.2.2↔∃o∈l.take y.1.toNat,(oK=true->o.jN=true)/\o.p=q)/\y.2.2.length<=y.1.toNat) (λy=>l.length-y.1.toNat) ?_ ?_
  .simp
  rintro⟨j,w,out⟩ ⟨j0,j1,j2,j3⟩;dsimp only at j0 j1 j2 j3 ⊢
  by_cases u:j<l.length
  .have e:∀o,o∈l.take (j+1).toNat↔o∈l.take j.toNat\/o=gt l j:=λo=>by rw[jq j0 u,List.mem_append,List.mem_singleton]
   simp[u];cases oK<;>simp
   .refine gd ?_;refine LJ.e (j+1,w+1,out ++ [(gt l j).p]) ?_;dsimp only;refine⟨by omega,by omega,by omega,λq=>?_,by simp;omega⟩;rw[List.mem_append,List.mem_singleton,j2];simp only[e];constructor
    .grind
    .grind
   .refine j' ?_ ?_<;>intro h
    .skip;refine LJ.e (j+1,w+1,out ++ [(gt l j).p]) ?_;dsimp only;refine⟨by omega,by omega,by omega,λq=>?_,by simp;omega⟩;rw[List.mem_append,List.mem_singleton,j2];simp only[e];constructor
     .grind
     .grind
    .refine LJ.e (j+1,w,out) ?_;dsimp only;refine⟨by omega,by omega,by omega,λq=>?_,by omega⟩;rw[j2];simp only[e];constructor
     .grind
     .grind
  .simp[u];rw[ln (by omega)]at j2
   have x:∀q∈out,Small q:=λq v=>by obtain⟨o,a,_,rfl⟩:=(j2 q).1 v;exact(OH hg n ((hl.1 o).1 a)).small hg
   cases oK<;>simp
   .have s:¬(g.oK=true/\∃o∈qp g p,o.jN=true):=by grind
    refine Yq (f108 g hg p n) λdr z=>?_;simp;refine gd ?_;refine Yq (f61 (out++dr) (by simp;omega) (λq v=>(List.mem_append.1 v).elim (x q) (λh=>VO hg n ((z.2.2 q).1 h)))) λr m=>?_;simp;refine VG k m.1 λq=>?_;rw[m.2.2,List.mem_append,z.2.2,j2];unfold rH;rw[if_neg s];simp only[Ip k,hl.1];simp;exactλ_ c B=>Ip k c B
   .have s:=f.1 rfl;refine Yq (f61 out (by omega) x) λr m=>?_;simp;refine VG k m.1 λq=>?_;rw[m.2.2,j2];unfold rH;simp only[hl.1]at s ⊢;rw[if_pos s];constructor
    .rintro⟨o,a,b,rfl⟩;have:=b trivial;refine⟨Ip k,?_⟩;cases o;simp_all
    .grind
theorem f112(g:gi)(hg:gV g)(p:Pos)(b:iw g p):Wf T 82 [dG g,dP p] [] (Is (.agg [.i (stat g p).1,.b (stat g p).2])):=by
 refine Yg JM ?_;simp[JM];refine Yc (f106 g hg p b) ?_;simp;refine j' ?_ ?_<;>intro h
 .have a:=M1.1 h;have:=P' a;refine gd ?_;simp[stat,a,Ot a]
 .have a:¬ended g p:=λc=>h (M1.2 c);refine Yc (f60 g hg p b) ?_;simp;refine j' ?_ ?_<;>intro h
  all_goals simp[stat, *]
theorem f58(g:gi)(hg:gV g)(p:Pos)(d:iw g p)(l:List Int)(hl:l.length<=100)(h0:∀n∈l,0<=n/\n<256):Wf T 99 [dG g,dP p,dI l] [] (Ey gZ λr=>(0<r.length/\r.length<=101)/\∀q∈r,iw g q):=by
 refine Yg LR ?_;simp[LR];refine gj.e ((0,p,0,[p]):Int×Pos×Nat×List Pos) (λy=>[(2,dI l),(3,.ptr 0 0 0),(4,.ptr 1 0 0),(7,.fY 2 y.2.2.1 5 0 y.2.2.2.length),(8,.i y.1)]) (λy=>[.row 43 0 g.cells,.row 46 0 y.2.1.cells,.row 46 y.2.2.1 (cl Pos.cells y.2.2.2)]) (λy=>0<=y.1/\y.1<=l.length/\iw g y.2.1/\(0<y.2.2.2.length/\y.2.2.2.length<=y.1.toNat+1)/\∀q∈y.2.2.2,iw g q) (λy=>l.length-y.1.toNat) ?_ ?_
 .grind
 rintro⟨i,p,m,out⟩ ⟨i0,j,d,f,b⟩;dsimp only at i0 j d f b ⊢;simp;refine j' ?_ ?_<;>intro h
 .refine Yc (f60 g hg p d) ?_;simp;have k:=h0 _ (gy i0 ‹_›)
  have e:0<(iS g p).length->0<=gA (gt l i) (iS g p).length/\gA (gt l i) (iS g p).length<(iS g p).length:=λh=>by rw[jH k.1];exact⟨bL _ (by omega),bE _ (by omega)⟩
  (with_reducible repeat' first|refine Xk ?_<;>try simp|refine Xs ?_ ?_<;>intro h<;>(try intro o)<;>(try simp[h])<;>try omega|refine Xg ?_|omega)
  .exact Ey.i out rfl rfl (p9 b)
  .have a:0<(iS g p).length:=ax.2 ‹_›;have:=e a;omega
  .have a:0<(iS g p).length:=ax.2 ‹_›;have:=e a;refine gd ?_;have gf:=SZ hg d (Ch.1 (gy (l:=iS g p) this.1 this.2));refine LJ.e (i+1,gt (iS g p) (gA (gt l i) (iS g p).length),m+1,out ++ [gt (iS g p) (gA (gt l i) (iS g p).length)]) ?_;dsimp only;refine⟨by omega,by omega,by omega,gf,by simp;omega,λq c=>?_⟩;rcases List.mem_append.1 c with c|c
   .exact b q c
   .grind
 .exact Ey.i out rfl rfl (p9 b)
structure Mn(g:gi)(p:Pos)(all last:List Pos):Prop where
 AN:kU all
 ok:∀q∈all,iw g q
 has:p∈all
 sub:∀q∈last,q∈all
 cl:∀q∈all,q ∉ last->∀m,rH g q m->m∈all
 len:all.length<=80
 ag8:last.length<=all.length
theorem Mn.step{g:gi}(hg:gV g){p:Pos}{c last next last' all':List Pos}(h:Mn g p c last)(o:∀m,m∈next↔∃q∈last,rH g q m)(hl:∀m,m∈last'↔m∈next/\m ∉ c)
  (k:last'.Nodup) (hs:kU all') (f:∀q,q∈all'↔q∈c\/q∈last') (i:all'.length<=80):Mn g p all' last'/\(last'≠[]->c.length<all'.length)/\c.length<=all'.length:=by
 have h1:c.length+last'.length<=all'.length:=by rw[<-ak];refine Io (cO.2 ⟨h.AN.nodup,k,λa f b t e=>?_⟩) λx l=>(f x).2 (List.mem_append.1 l);subst e;exact((hl a).1 t).2 f
 refine⟨⟨hs,λq d=>?_,(f p).2 (.inl h.has),λq d=>(f q).2 (.inr d),λq d v m j=>?_,i,by omega⟩,λs=>?_,by omega⟩
 .rcases(f q).1 d with d|d
  .exact h.ok q d
  .obtain⟨r,n,j⟩:=(o q).1 ((hl q).1 d).1;exact SZ hg (h.ok r (h.sub r n)) j
 .rcases(f q).1 d with d|d
  .by_cases u:q∈last
   .grind
   .exact(f m).2 (.inl (h.cl q d u m j))
  .grind
 .have:0<last'.length:=ax.2 s;omega
structure Ji(g:gi)(l:List Pos):Prop where
 AN:kU l
 ok:∀q∈l,iw g q
 cl:∀q∈l,∀m,rH g q m->m∈l
 len:0<l.length/\l.length<=80
end Go.Proofs.YtmehofoficaelaaGreatDoor
namespace Go.AL
open Go
def Z5(S:List Nat):iL->Bool
 | .call f _ | .callN f _=>elem f S
 | .callv _ _=>false
 | .nextM _=>false
 | _=>true
def pN(S:List Nat):List ic->Bool
 | []=>true
 | e::r=>Z5 S e.op&&pN S r
def sc(S:List Nat):IR->Bool
 | .ops l=>pN S l
 | .l6 _ l=>pN S l
 | .mR _ l es=>pN S l&&pN S es
 | .seq a b=>sc S a&&sc S b
 | .cond _ a b=>sc S a&&sc S b
 | .block _ _ a=>sc S a
 | .loop _ a=>sc S a
 | .oB _ _ _=>false
 | _=>true
def se(S:List Nat):AT->Bool
 | .ops l _=>pN S l
 | .code c _=>sc S c
 | .loop _ _ a _=>sc S a
 | .call f _ _=>elem f S
 | .trace l _=>pN S l
def One(T:iB)(j:AT)(R:pJ->Prop):Prop:=match j with
 | .ops _ _ | .code _ _ | .loop _ _ _ _=>∃o,R (.out o)/\Ev T j (λr=>r = .out o)
 | .call _ _ _=>∃d H,R (.val d H)/\Ev T j (λr=>r = .val d H)
 | .trace _ _=>∃rs s,R (.tr rs s)/\Ev T j (λr=>r = .tr rs s)
theorem One.mono{T:iB}{j:AT}{R c:pJ->Prop}(h:One T j R)(hi:∀r,R r->c r):One T j c:=by
 cases j with
 | call f a H=>obtain⟨d,H',h1,b⟩:=h;exact⟨d,H',hi _ h1,b⟩
 | trace l s=>obtain⟨d,H',h1,b⟩:=h;exact⟨d,H',hi _ h1,b⟩
 | _=>obtain⟨o,h1,b⟩:=h;exact⟨o,hi _ h1,b⟩
theorem Z6{S:List Nat}{env:gP}{op:iL}{f:FuncId}{args:List D}(h:Z5 S op=true)(a:kK env op=some (f,args)):elem f S=true:=by cases op<;>first|(cases a;exact h)|(cases h;done)|(cases a;done)
section
variable{T:iB}{S:List Nat}(hS:∀f fn,elem f S=true->T.fn f=some fn->sc S fn.body=true)(hN:∀f,elem f S=true->T.sort f=none/\T.tt f=false/\T.sZ f=false)
include hS hN
theorem amJ{j:AT}{R:pJ->Prop}(h:Ev T j R):se S j=true->One T j R:=by
 induction h with
 | mono h hi m=>exactλf=>(m f).mono hi
 | sort fc l P hs=>intro f;rw[(hN _ f).1]at hs;cases hs
 | E0 hs=>intro f;rw[(hN _ f).1]at hs;cases hs
 | tt l hs=>intro f;rw[(hN _ f).2.1]at hs;cases hs
 | sZ l i hs=>intro f;rw[(hN _ f).2.2]at hs;cases hs
 | nil h=>exactλ_=>⟨_,h,.nil rfl⟩
 | op hg h t m=>
  intro f;simp only[se,pN,Bool.and_eq_true]at f;obtain⟨o,h1,g⟩:=m f.2;exact⟨o,h1,.op hg h g⟩
 | CJ hg h t m=>
  intro f;simp only[se,pN,Bool.and_eq_true]at f;obtain⟨o,h1,g⟩:=m f.2;exact⟨o,h1,.CJ hg h g⟩
 | off hg t m=>
  intro f;simp only[se,pN,Bool.and_eq_true]at f;obtain⟨o,h1,g⟩:=m f.2;exact⟨o,h1,.off hg g⟩
 | l8 I G t m=>intro f;obtain⟨o,h1,g⟩:=m f;exact⟨o,h1,.l8 I G g⟩
 | Gz I G t m=>intro f;obtain⟨o,h1,g⟩:=m f;exact⟨o,h1,.Gz I G g⟩
 | Qt live t m=>intro f;obtain⟨o,h1,g⟩:=m f;exact⟨o,h1,.Qt live g⟩
 | Gy live t m=>intro f;obtain⟨o,h1,g⟩:=m f;exact⟨o,h1,.Gy live g⟩
 | F6 hg u w q h C t m A=>
  intro f;simp only[se,pN,Bool.and_eq_true]at f;obtain⟨d,Hn,h1,g⟩:=m (Z6 f.1 u);obtain⟨n,K⟩:=da.1 (C d Hn h1);obtain⟨o,y,z⟩:=A d Hn n h1 K f.2;exact⟨o,y,.F6 hg u w q g (λd' J e=>by cases e;exact C _ _ h1) λd' J p e O=>by grind⟩
 | F5 hg u w q h t m A=>
  intro f;simp only[se,pN,Bool.and_eq_true]at f;obtain⟨d,Hn,h1,g⟩:=m (Z6 f.1 u);obtain⟨o,y,z⟩:=A d Hn h1 f.2;exact⟨o,y,.F5 hg u w q g λd' J e=>by cases e;exact z⟩
 | @My e r s v args rf env0 Rd Ra Rb R hg u=>
  intro f;simp only[se,pN,Bool.and_eq_true]at f;exfalso;have h1:=f.1;revert u h1;cases e.op<;>intro u h1<;>first|(cases u;done)|(cases h1;done)
 | next hg E=>
  intro f;simp only[se,pN,Bool.and_eq_true]at f;have h1:=f.1;rw[E]at h1;cases h1
 | I7 h=>exactλ_=>⟨_,_,h,.I7 rfl⟩
 | I9 hg h t k m=>
  intro f;simp only[se,pN,Bool.and_eq_true]at f;obtain⟨rs,n,h1,g⟩:=m f.2;exact⟨_,n,k rs n h1,.I9 hg h g λB p e=>by cases e;rfl⟩
 | I8 hg t k m=>
  intro f;simp only[se,pN,Bool.and_eq_true]at f;obtain⟨rs,n,h1,g⟩:=m f.2;exact⟨_,n,k rs n h1,.I8 hg g λB p e=>by cases e;rfl⟩
 | I4 hg u w q h h0 F t k m A=>
  intro f;simp only[se,pN,Bool.and_eq_true]at f;obtain⟨rs,n,h1,g⟩:=A f.2;exact⟨_,n,k rs n h1,.I4 hg u w q h h0 F g λB p e=>by cases e;rfl⟩
 | I5 hg E C w q h h0 F t k m A=>
  intro f;simp only[se,pN,Bool.and_eq_true]at f;obtain⟨rs,n,h1,g⟩:=A f.2;exact⟨_,n,k rs n h1,.I5 hg E C w q h h0 F g λB p e=>by cases e;rfl⟩
 | I6 hg E C w q H L M N h h0 F t k m A=>
  intro f;simp only[se,pN,Bool.and_eq_true]at f;obtain⟨rs,n,h1,g⟩:=A f.2;exact⟨_,n,k rs n h1,.I6 hg E C w q H L M N h h0 F g λB p e=>by cases e;rfl⟩
 | l6 t q m=>
  intro f;obtain⟨rs,n,h1,g⟩:=m f;exact⟨_,(q rs n h1).2,.l6 g λB p e=>by cases e;exact⟨(q rs n h1).1,rfl⟩⟩
 | mR t q k m D=>
  intro f;simp only[se,sc,Bool.and_eq_true]at f;obtain⟨rs,n,h1,g⟩:=m f.1;obtain⟨o,y,z⟩:=D rs n h1 f.2;exact⟨o,y,.mR g (λB p e=>by cases e;exact q _ _ h1) λB p e=>by cases e;exact z⟩
 | skip h=>exactλ_=>⟨_,h,.skip rfl⟩
 | Gf h m=>intro f;obtain⟨o,h1,g⟩:=m f;exact⟨o,h1,.Gf g⟩
 | seq h k hs m D=>
  intro f;simp only[se,sc,Bool.and_eq_true]at f;obtain⟨o,h1,g⟩:=m f.1
  cases o with
  | norm n=>
   obtain⟨o,y,z⟩:=D n h1 f.2;exact⟨o,y,.seq g (λp e=>by cases e;exact z) λo e hs=>by cases e;cases hs⟩
  | exit id n=>exact⟨_,hs _ h1 rfl,.seq g (λp e=>by cases e) λo e hs=>by cases e;rfl⟩
  | ret n=>exact⟨_,hs _ h1 rfl,.seq g (λp e=>by cases e) λo e hs=>by cases e;rfl⟩
 | @cond c a b s x R u h m=>
  intro f;simp only[se,sc,Bool.and_eq_true]at f;obtain⟨o,h1,g⟩:=m (by cases x;exact f.2;exact f.1);exact⟨o,h1,.cond u g⟩
 | block h k m=>
  intro f;obtain⟨o,h1,g⟩:=m f;exact⟨_,k o h1,.block g λo e=>by cases e;rfl⟩
 | loop h m=>intro f;obtain⟨o,h1,g⟩:=m f;exact⟨o,h1,.loop g⟩
 | Aq h k hs m D=>
  intro f;obtain⟨o,h1,g⟩:=m f
  cases o with
  | norm n=>
   obtain⟨o,y,z⟩:=D n h1 f;exact⟨o,y,.Aq g (λp e=>by cases e;exact z) λo e hs=>by cases e;cases hs⟩
  | exit id n=>exact⟨_,hs _ h1 rfl,.Aq g (λp e=>by cases e) λo e hs=>by cases e;rfl⟩
  | ret n=>exact⟨_,hs _ h1 rfl,.Aq g (λp e=>by cases e) λo e hs=>by cases e;rfl⟩
 | oB=>intro f;cases f
 | exit h=>exactλ_=>⟨_,h,.exit rfl⟩
 | ret h=>exactλ_=>⟨_,h,.ret rfl⟩
 | call own w hl h k m=>
  intro f;obtain⟨o,h1,g⟩:=m (hS _ _ f w);obtain⟨d,H',y,z⟩:=k o h1;exact⟨d,H',z,.call own w hl g λo' e=>by cases e;exact⟨d,H',y,rfl⟩⟩
end
end Go.AL
namespace Go.AL
open Go
def ME(S:List Nat):Nat->List (Option jw)->Bool
 | _,[]=>true
 | k,a::l=>(bif elem k S then(match a with|some fn=>sc S fn.body|none=>true)else true)&&ME S (k+1) l
theorem U6{S:List Nat}{fn:jw}:∀ {l:List (Option jw)} {k i:Nat},ME S k l=true->nth l i=some fn->elem (k+i) S=true->sc S fn.body=true
 | [],_,_,_,h,_=>by cases h
 | a::l,k,0,h,h2,h3=>by simp only[ME,Bool.and_eq_true]at h;cases h2;rw[cy]at h3;simpa only[h3,cond_true]using h.1
 | a::l,k,i+1,h,h2,h3=>by simp only[ME,Bool.and_eq_true]at h;exact U6 (l:=l) (k:=k+1) (i:=i) h.2 h2 (by rw[a8,dt 1 i];exact h3)
theorem Wf.one{T:iB}{S:List Nat}(hS:∀f fn,elem f S=true->T.fn f=some fn->sc S fn.body=true)(hN:∀f,elem f S=true->T.sort f=none/\T.tt f=false/\T.sZ f=false){f:FuncId}{args:List D}{H:U}{K:D->U->Prop}(h:Wf T f args H K)(a:elem f S=true) :
  ∃d H',K d H'/\Wf T f args H λd2 H2=>d2=d/\H2=H':=by
 obtain⟨d,H',⟨d2,H2,e,h1⟩,b⟩:=amJ hS hN h a;cases e;exact⟨d,H',h1,Ev.mono b λr e=>⟨_,_,e,rfl,rfl⟩⟩
end Go.AL
namespace Go.Proofs.YtmehofoficaelaaGreatDoor
open Go Go.AL
def EN:List Nat:=[13,17,18,21,22,25,27,29,31,32,34,36,38,39,40,41,43,44,50,51,60,68,69,71,72,73,74,76,77,78,79,80,82,83,84,85,86,87,88,90,91,92,98,99,100,101,127,128,129,130,131,132,133,134,136,137,138,139,140,141,142,143,144,159,160,161,162,200,201,202,203,204,205,206,207,208,209,210,211,225,226,227,228,252,253,254,255,256,257,258,278,283,284,285,294,295,296,297,298,299,321]
theorem am9:∀f fn,elem f EN=true->T.fn f=some fn->sc EN fn.body=true:=λf fn h a=>
 U6 (S:=EN) (l:=fns) (k:=0) (i:=f) (by kernel_rfl) a (by rw[aQ];exact h)
theorem ana:∀f,elem f EN=true->T.sort f=none/\T.tt f=false/\T.sZ f=false:=λf h=>by
 by_cases h1:f=151
 .subst h1;exact absurd h (by decide)
 by_cases d:f=261
 .subst d;exact absurd h (by decide)
 by_cases c:f=67
 .subst c;exact absurd h (by decide)
 by_cases b:f=66
 .subst b;exact absurd h (by decide)
 refine⟨?_,?_,?_⟩
 .show(if f=151 then some 5 else if f=261 then some 6 else none)=none;rw[if_neg h1,if_neg d]
 .show Nat.beq f 67=false
  cases a:Nat.beq f 67 with
  | false=>rfl
  | true=>exact absurd (cj a) c
 .show Nat.beq f 66=false
  cases a:Nat.beq f 66 with
  | false=>rfl
  | true=>exact absurd (cj a) b
section
variable{f:FuncId}{args:List D}{dst:Option Nat}{s:St}{fn:jw}{R:List Fp}{Q:Rc->St->Prop}
theorem je.q{α:Type}{g:α->D}{P:α->Prop}(e:T.fn f=some fn)(c:fn.full=false)(h1:elem f EN=true)(h:Wf T f args [] (Ex g P))(i:gF args=true)(a:∀r,closed (g r)=true)
  (k:∀r,P r->Q ⟨R,[]⟩ { s with env:=put s.env dst (g r) }):je T f args R dst s Q .mk:=by
 obtain⟨d,H',⟨r,rfl,rfl,b⟩,j⟩:=Wf.one am9 ana h h1;exact je.c e c j i (a r) (k r b)
end
theorem Yv{f:FuncId}{args:List D}{R:List Fp}{dst:Option Nat}{s:St}{Q:Rc->St->Prop}{fn:jw}{α:Type}{g:α->D}{P:α->Prop}(h:Wf T f args [] (Ex g P))(k:∀r,P r->Q ⟨R,[]⟩ { s with env:=put s.env dst (g r) })
  (c:T.fn f=some fn:=by exact rfl) (b:fn.full=false:=by exact rfl) (h1:elem f EN=true:=by exact rfl) (d:gF args=true:=by simp) (a:∀r,closed (g r)=true:=by intro;simp):je T f args R dst s Q .mk:=je.q c b h1 h d a k
end Go.Proofs.YtmehofoficaelaaGreatDoor
namespace Go.AL
open Go
abbrev Kn:=Int×Int×Bool
@[irreducible] def fK(x:Kn):List D:=[.i x.1,.i x.2.1,.b x.2.2]
@[simp] theorem DC(x:Kn):fK x = [.i x.1,.i x.2.1,.b x.2.2]:=by unfold fK;rfl
instance:Fl fK 3:=⟨λ_=>by simp,λ_=>by simp[gF]⟩
@[simp] theorem asJ(l:List Kn)(a b:Int)(c:Bool):cl fK l ++ [.i a,.i b,.b c]=cl fK (l ++ [(a,b,c)]):=by rw[<-q',DC]
@[simp] theorem acq(l:List Bool)(c:Bool):cl fB l ++ [.b c]=cl fB (l ++ [c]):=by rw[<-q',Gt]
theorem MI{α:Type}[Inhabited α]{f:α->List D}{sz:Nat}[F:Fl f sz]{l:List α}{n:Int}{j:Nat}(b:j<sz){P:D->Prop}:oA (cl f l)[n.toNat*sz+j]? P .mk=(n.toNat<l.length/\oA (f (gt l n))[j]? P .mk):=by
 rw[Vh (f:=f) l n.toNat j b]
 by_cases a:n.toNat<l.length
 .rw[List.getElem?_eq_getElem a];have e:gt l n=l[n.toNat]:=by unfold gt;rw[List.getD_eq_getElem?_getD,List.getElem?_eq_getElem a];rfl
  simp[a,e]
 .rw[bk (by omega)];simp[a]
@[simp] theorem awx{l:List Kn}{n:Int}{P:D->Prop}:oA (cl fK l)[n.toNat*3+2]? P .mk=(n.toNat<l.length/\P (.b (gt l n).2.2)):=by have:=MI (f:=fK) (l:=l) (n:=n) (j:=2) (by decide) (P:=P);simpa using this
@[simp] theorem aww{l:List Bool}{n:Int}{P:D->Prop}:oA (cl fB l)[n.toNat]? P .mk=(n.toNat<l.length/\P (.b (gt l n))):=by have:=MI (f:=fB) (l:=l) (n:=n) (j:=0) (by decide) (P:=P);simpa using this
theorem Vd{l:List Kn}{n:Int}(h:n.toNat<l.length):(cl fK l).drop (n.toNat*3)=fK (gt l n)++cl fK (l.drop (n.toNat+1)):=by rw[uK,bK h,nM];congr 1;unfold gt;rw[List.getD_eq_getElem?_getD,List.getElem?_eq_getElem h];rfl
theorem acr{l:List Kn}{n:Int}(h:n.toNat<l.length)(a b:Int):(cl fK l).take (n.toNat*3) ++ .i a :: .i b::(cl fK l).drop (n.toNat*3+2)=cl fK (pt l n (a,b,(gt l n).2.2)):=by
 have e:(cl fK l).drop (n.toNat*3+2) = .b (gt l n).2.2::cl fK (l.drop (n.toNat+1)):=by rw[<-b6,Vd h,DC];rfl
 rw[e,xW];unfold pt;rw[<-A3,nM,DC];rfl
@[simp] theorem avq{l:List Kn}{t:TypeId}{n:Int}:uZ 2 (n.toNat*3) (some (t,cl fK l))=if n.toNat<l.length then some (.agg [.i (gt l n).1,.i (gt l n).2.1])else none:=by
 unfold uZ;dsimp only
 by_cases h:n.toNat<l.length
 .rw[if_pos h,if_pos (by rw[qJ];omega),Vd h,DC];rfl
 .rw[if_neg h,if_neg (by rw[qJ];omega)]
theorem MJ{α:Type}{f:α->List D}{sz:Nat}[F:Fl f sz](l:List α)(n:Int)(h1:n.toNat<l.length)(a:α):(cl f l).take (n.toNat*sz)++(f a++(cl f l).drop (n.toNat*sz+sz))=cl f (pt l n a):=by have:=acA (f:=f) l n.toNat a h1;rw[aL]at this;exact this
theorem II{α:Type}{f:α->List D}(a:α):∀n:Nat,(List.replicate n (f a)).flatten=cl f (List.replicate n a)
 | 0=>by simp
 | n+1=>by rw[bp,a7,II a n,bp,nM]
@[simp] theorem anc(b:Bool)(n:Nat):(List.replicate n [D.b b]).flatten=cl fB (List.replicate n b):=by rw[<-II,Gt]
@[simp] theorem ane(b:Int)(n:Nat):(List.replicate n [D.i b]).flatten=cl f1 (List.replicate n b):=by rw[<-II,DB]
@[simp] theorem ax7(a b:Int)(n:Nat):(List.replicate n [D.i a,D.i b]).flatten=cl fS (List.replicate n (a,b)):=by rw[<-II,Bi]
@[simp] theorem ax5(b:Bool)(n:Nat):List.replicate n (D.b b)=cl fB (List.replicate n b):=by rw[<-anc];simp
@[simp] theorem ax6(b:Int)(n:Nat):List.replicate n (D.i b)=cl f1 (List.replicate n b):=by rw[<-ane];simp
def uN(l:List Bool):Nat:=l.countP λb => !b
theorem aag{α:Type}[Inhabited α]{l:List α}{n:Int}{a b:α}(h0:0<=n)(h:n<l.length):pt (pt l n a) n b=pt l n b:=by rw[Ix (l:=pt l n a) h0 (by rw[iP h0 h];exact h),Ix h0 h,Ix h0 h,List.set_set]
theorem ae2{l:List Bool}{n:Int}(h0:0<=n)(h:n<l.length)(a:gt l n=false)(b:Bool):uN (pt l n b)+(if b then 1 else 0)=uN l:=by
 have e:l=l.take n.toNat++gt l n::l.drop (n.toNat+1):=by rw[<-oc h0 h,bX]
 unfold pt
 conv=>rhs;rw[e]
 unfold uN;rw[cV,cV,cP,cP,a];cases b<;>simp<;>omega
end Go.AL
namespace Go.Proofs.YtmehofoficaelaaGreatDoor
open Go Go.AL Classical
set_option maxRecDepth 10000
set_option maxHeartbeats 1000000
structure pa(g:gi)(l:List Pos):Prop where
 AN:kU l
 ok:∀q∈l,iw g q
 cl:∀q∈l,∀m,rH g q m->m∈l
 len:l.length<=4000
theorem Ji.c2{g:gi}{l:List Pos}(h:Ji g l):pa g l:=⟨h.AN,h.ok,h.cl,by have:=h.len;omega⟩
noncomputable def gC(g:gi)(l:List Pos):List (List Int):=l.map λp=>(iS g p).map (pO l)
theorem f37(g:gi)(hg:gV g)(l:List Pos)(hl:pa g l):Wf T 39 [dG g,gZ l] [] (Is (.tup [.sl 1 ((gC g l).map fI),.b true])):=by
 have k:=hl.len;have b:∀q∈l,Small q:=λq c=>(hl.ok q c).small hg;refine Yz Fy (iZ 59 [2] Fy.body) ?_;simp[Fy,iZ,kD,np,nz,nP,ma];(with_reducible repeat' first|refine Xk ?_<;>try simp|refine Xs ?_ ?_<;>intro h<;>(try intro o)<;>(try simp[h])<;>try omega|refine Xg ?_|omega);refine Yc (f64 l (by omega) b) ?_;simp;have hs:=hl.AN;refine gd ?_;refine gj.e ((0,0,[]):Int×Nat×List (List Int)) (λy=>[(1,gZ l),(2,.ptr 0 0 0),(6,.fY 1 y.2.1 1 0 y.2.2.length),(7,.i y.1)]) (λy=>[.row 43 0 g.cells,.row 37 y.2.1 (cl fI y.2.2)]) (λy=>0<=y.1/\y.1<=l.length/\y.2.2=(l.take y.1.toNat).map λp=>(iS g p).map (pO l)) (λy=>l.length-y.1.toNat) ?_ ?_
 .simp
 rintro⟨i,e,out⟩ ⟨i0,n,a⟩;dsimp only at i0 n a ⊢;simp;have u:out.length<=4000:=by rw[a];simp;omega
 refine j' ?_ ?_<;>intro h
 .have d:=hl.ok _ (gy i0 ‹_›);refine Yt (f65 g _ hg d) ?_;simp;refine gd ?_;refine Yt (f60 g hg _ d) ?_;simp;have t:=Au hg d;have m:∀q∈iS g (gt l i),q∈l:=λq c=>hl.cl _ (gy i0 ‹_›) q (Ch.1 c);refine gj.e ((0,0,[]):Int×Nat×List Int) (λy=>[(1,gZ l),(2,.ptr 0 0 0),(6,.fY 1 e 1 0 out.length),(7,.i i),(8,uh g (gt l i)),(9,.fY 2 y.2.1 1 0 y.2.2.length),(10,.i y.1)]) (λy=>[.row 43 0 g.cells,.row 37 e (cl fI out),.row 3 y.2.1 (cl f1 y.2.2)]) (λy=>0<=y.1/\y.1<=(iS g (gt l i)).length/\y.2.2=((iS g (gt l i)).take y.1.toNat).map (pO l)) (λy=>(iS g (gt l i)).length-y.1.toNat) ?_ ?_
  .simp
  rintro⟨j,gm,row⟩ ⟨j0,j1,j2⟩;dsimp only at j0 j1 j2 ⊢;have r:row.length<=j.toNat:=by rw[j2];simp;omega
  simp;refine j' ?_ ?_<;>intro h
  .have f:=m _ (gy j0 ‹_›);refine Yc (f27 l _ (by omega) b (b _ f) hs) ?_;simp;have s:=Gx f;(with_reducible repeat' first|refine Xk ?_<;>try simp|refine Xs ?_ ?_<;>intro h<;>(try intro o)<;>(try simp[h])<;>try omega|refine Xg ?_|omega);refine LJ.e (j+1,gm+1,row ++ [pO l (gt (iS g (gt l i)) j)]) ?_;dsimp only;refine gO ?_;rw[jq j0 ‹_›,List.map_append,j2];rfl
  .refine gd ?_;refine LJ.e (i+1,e+1,out ++ [row]) ?_;dsimp only;refine gO ?_;rw[jq i0 ‹_›,List.map_append,a];rw[ln (by omega)]at j2;rw[j2];rfl
 .rw[a,ln (by omega)];rfl
noncomputable def s0(g:gi)(p:Pos):Kn:=((stat g p).1,0,(stat g p).2)
theorem aeX(g:gi)(hg:gV g)(l:List Pos)(hl:pa g l):Wf T 128 [dG g,gZ l] [] (λd H=>d = .fY 0 l.length 3 0 l.length/\H = [.row 245 l.length (cl fK (l.map (s0 g)))]):=by
 have b:=hl.len;refine Wf.xo 1 (fn:=FC) rfl (by simp[FC]) ?_;simp[FC];refine gj.e ((0,[]):Int×List Kn) (λy=>[(1,gZ l),(2,.ptr 0 0 0),(5,.fY 1 y.2.length 3 0 y.2.length),(6,.i y.1)]) (λy=>[.row 43 0 g.cells,.row 245 y.2.length (cl fK y.2)]) (λy=>0<=y.1/\y.1<=l.length/\y.2=(l.take y.1.toNat).map (s0 g)) (λy=>l.length-y.1.toNat) ?_ ?_
 .simp
 rintro⟨i,out⟩ ⟨i0,c,a⟩;dsimp only at i0 c a ⊢;have j:out.length=i.toNat:=by rw[a];simp;omega
 simp;refine j' ?_ ?_<;>intro h
 .refine Yt (f112 g hg _ (hl.ok _ (gy i0 ‹_›))) ?_;simp;refine gd ?_;refine LJ.i (i+1,out ++ [s0 g (gt l i)]) (by first|rfl|simp[s0]) (by first|rfl|simp[s0]) rfl rfl ?_;dsimp only;refine gO ?_;rw[jq i0 ‹_›,List.map_append,a];rfl
 .have e:out=l.map (s0 g):=by rw[a,ln (by omega)]
  have f:out.length=l.length:=by rw[e];simp
  rw[<-e]
theorem ru{g:gi}{l:List Pos}(hl:pa g l){i:Int}(h0:0<=i)(h1:i<l.length):gt (gC g l) i=(iS g (gt l i)).map (pO l)/\∀k∈gt (gC g l) i,0<=k/\k<l.length:=by
 have e:gt (gC g l) i=(iS g (gt l i)).map (pO l):=by unfold gC gt;simp only[List.getD_eq_getElem?_getD,au];rw[List.getElem?_eq_getElem (by omega)];rfl
 refine⟨e,λk a=>?_⟩;rw[e]at a;obtain⟨q,b,rfl⟩:=ar.1 a;have:=Gx (hl.cl _ (gy h0 h1) q (Ch.1 b));exact⟨this.1,this.2.1⟩
theorem f69(o s:Int)(hs:0<=s/\s<=1):Wf T 131 [.i o,.i s] [] (Is (.i (if o=1 then s else if o=3 then 1-s else -1))):=by
 refine Yg L0 ?_;simp[L0];exact mK
 all_goals simp[*]
theorem f68(g:gi)(hg:gV g)(l:List Pos)(hl:pa g l)(side:Int)(D:0<=side/\side<=1):Wf T 130 [dG g,gZ l,.sl 1 ((gC g l).map fI),.i side] [] (Ey (λr:List Bool=>.sl 1 (r.map fB)) λr=>r.length=l.length):=by
 have t:=hl.len;have H:(gC g l).length=l.length:=by simp[gC]
 have u:=λ(i:Int) (a:0<=i) (b:i<l.length)=>ru hl a b
 have z:∀i:Int,0<=i->i<l.length->(gt (gC g l) i).length<=4000000000:=λi a b=>by rw[(u i a b).1,List.length_map];exact Au hg (hl.ok _ (gy a b))
 refine Yg LZ ?_;simp[LZ];refine gd ?_;refine gj.e ((List.replicate l.length false,true):List Bool×Bool) (λy=>[(1,gZ l),(2,.sl 1 ((gC g l).map fI)),(3,.i side),(4,.ptr 0 0 0),(9,.fY 1 0 1 0 l.length),(10,.b y.2)]) (λy=>[.row 43 0 g.cells,.row 4 0 (cl fB y.1)]) (λy=>y.1.length=l.length) (λy=>2*uN y.1+(if y.2 then 1 else 0)) ?_ ?_
 .simp
 rintro⟨f,ch⟩ h0;dsimp only at h0 ⊢;cases ch
 .simp[h0];exact Ey.i f rfl rfl h0
 simp;refine gj.e ((0,f,false):Int×List Bool×Bool) (λy=>[(1,gZ l),(2,.sl 1 ((gC g l).map fI)),(3,.i side),(4,.ptr 0 0 0),(9,.fY 1 0 1 0 l.length),(10,.b y.2.2),(11,.i y.1)]) (λy=>[.row 43 0 g.cells,.row 4 0 (cl fB y.2.1)]) (λy=>0<=y.1/\y.1<=l.length/\y.2.1.length=l.length/\uN y.2.1<=uN f/\(y.2.2=true->uN y.2.1<uN f)) (λy=>l.length-y.1.toNat) ?_ ?_
 .grind
 rintro⟨i,w,ch⟩ ⟨i0,B,m,s,q⟩;dsimp only at i0 B m s q ⊢
 by_cases hi:i<l.length
 .have p:=hl.ok _ (gy i0 hi);simp[hi];refine j' ?_ ?_<;>intro h
  .refine LJ.e (i+1,w,ch) ?_;dsimp only;exact gO ⟨m,s,q⟩
  .refine Yt (f112 g hg _ p) ?_;simp;have A:=h;refine gj.e ((0,false,true):Int×Bool×Bool) (λy=>[(1,gZ l),(2,.sl 1 ((gC g l).map fI)),(3,.i side),(4,.ptr 0 0 0),(9,.fY 1 0 1 0 l.length),(10,.b ch),(11,.i i),(12,.ptr 2 0 0),(13,.b y.2.1),(14,.b y.2.2),(15,.i y.1)]) (λy=>[.row 43 0 g.cells,.row 4 0 (cl fB w),.row 193 0 [.i (stat g (gt l i)).1,.b (stat g (gt l i)).2]]) (λy=>0<=y.1/\y.1<=(gt (gC g l) i).length) (λy=>(gt (gC g l) i).length-y.1.toNat) ?_ ?_
   .simp
   rintro⟨k,j,al⟩ ⟨k0,k1⟩;dsimp only at k0 k1 ⊢
   by_cases n:k<(gt (gC g l) i).length
   .have E:=(u i i0 hi).2 _ (gy k0 n);have F:=z i i0 hi;generalize o:gt (gt (gC g l) i) k=x at *;cases j<;>cases al<;>simp[hi,n,o]<;>refine gd ?_
    .refine LJ.e (k+1,gt w x,false) ?_;dsimp only;omega
    .refine LJ.e (k+1,gt w x,gt w x) ?_;dsimp only;omega
    .refine LJ.e (k+1,true,false) ?_;dsimp only;omega
    .refine LJ.e (k+1,true,gt w x) ?_;dsimp only;omega
   .have d:∀v,(pt w i v).length=w.length:=λv=>iP i0 (by omega);have e:∀v,gt (pt w i v) i=v:=λv=>DG i0 (by omega)
    have c:∀b:Bool,0<=i+1/\i+1<=l.length/\(pt w i b).length=l.length/\uN (pt w i b)<=uN f/\((ch||b)=true->uN (pt w i b)<uN f):=λb=>by
     have h1:=ae2 i0 (by omega) A b;refine⟨by omega,by omega,by rw[d];exact m,by omega,λG=>?_⟩;cases b
     .grind
     .grind
    cases ch
    .simp[hi,n];have c:∀b:Bool,_:=c;(with_reducible repeat' first|refine Xk ?_<;>try simp[d,e]|refine Xs ?_ ?_<;>intro h<;>(try intro C)<;>(try simp[h,d,e])<;>try omega|refine Xg ?_|omega)
     .refine Yt (f69 (stat g (gt l i)).1 _ p.side) ?_;simp[d,e];refine lh d e ?_;refine LJ.e (i+1,pt w i (!decide ((if (stat g (gt l i)).1=1 then(gt l i).side else if (stat g (gt l i)).1=3 then 1-(gt l i).side else -1)=1-side)),false || !decide ((if (stat g (gt l i)).1=1 then(gt l i).side else if (stat g (gt l i)).1=3 then 1-(gt l i).side else -1)=1-side)) ?_;exact pE (c _)
     .refine LJ.e (i+1,pt w i j,false||j) ?_;exact pE (c _)
     .refine LJ.e (i+1,pt w i al,false||al) ?_;exact pE (c _)
    .simp[hi,n];have c:∀b:Bool,_:=c;(with_reducible repeat' first|refine Xk ?_<;>try simp[d,e]|refine Xs ?_ ?_<;>intro h<;>(try intro C)<;>(try simp[h,d,e])<;>try omega|refine Xg ?_|omega)
     .refine Yt (f69 (stat g (gt l i)).1 _ p.side) ?_;simp[d,e];refine lh d e ?_;refine LJ.e (i+1,pt w i (!decide ((if (stat g (gt l i)).1=1 then(gt l i).side else if (stat g (gt l i)).1=3 then 1-(gt l i).side else -1)=1-side)),true || !decide ((if (stat g (gt l i)).1=1 then(gt l i).side else if (stat g (gt l i)).1=3 then 1-(gt l i).side else -1)=1-side)) ?_;exact pE (c _)
     .refine LJ.e (i+1,pt w i j,true||j) ?_;exact pE (c _)
     .refine LJ.e (i+1,pt w i al,true||al) ?_;exact pE (c _)
 .simp[hi];refine LJ.e (w,ch) ?_;dsimp only;refine⟨?_,m⟩;cases ch
  .simp;omega
  .grind
theorem f39(g:gi)(hg:gV g)(l:List Pos)(hl:pa g l)(v:List fZ)(p:v.length=l.length):Wf T 72 [dG g,gZ l,.sl 1 ((gC g l).map fI),gY v] [] (Ey dI λ_=>True):=by
 have f:=hl.len;refine Yg LK ?_;simp[LK];refine gj.e ((0,[]):Int×List Int) (λy=>[(1,gZ l),(2,.sl 1 ((gC g l).map fI)),(3,gY v),(4,.ptr 0 0 0),(9,.fY 1 y.2.length 1 0 y.2.length),(10,.i y.1)]) (λy=>[.row 43 0 g.cells,.row 3 y.2.length (cl f1 y.2)]) (λy=>0<=y.1/\y.1<=v.length/\y.2.length=y.1.toNat) (λy=>v.length-y.1.toNat) ?_ ?_
 .simp
 rintro⟨i,w⟩ ⟨i0,n,m⟩;dsimp only at i0 n m ⊢;simp;(with_reducible repeat' first|refine Xk ?_<;>try simp|refine Xs ?_ ?_<;>intro h<;>(try intro k)<;>(try simp[h])<;>try omega|refine Xg ?_|omega)
 .refine LJ.e (i+1,w ++ [(gt v i).1]) ?_;exact gO (by simp;omega)
 .exact Ey.i w rfl rfl trivial
 .have c:=f68 g hg l hl 0 (by omega);simp only[dG,gi.cells]at c;rw[h]at c;refine gx.q rfl rfl c (by simp) (λr=>by simp[wP]) ?_;intro r o;simp;refine gj.e ((0,w):Int×List Int) (λy=>[(1,gZ l),(3,gY v),(9,.fY 1 w.length 1 0 w.length),(11,.i 1),(12,.sl 1 (r.map fB)),(13,.i y.1)]) (λy=>[.row 43 0 g.cells,.row 3 w.length (cl f1 y.2)]) (λy=>0<=y.1/\y.1<=l.length/\y.2.length=w.length) (λy=>l.length-y.1.toNat) ?_ ?_
  .simp
  rintro⟨j,u⟩ ⟨j0,j1,j2⟩;dsimp only at j0 j1 j2 ⊢
  by_cases d:j<l.length
  .have a:∀x:Int,(pt u j x).length=u.length:=λx=>iP j0 (by omega);have b:∀x y:Int,pt (pt u j x) j y=pt u j y:=λx y=>aag j0 (by omega);have e:=hl.ok _ (gy j0 d);simp[d];refine gd ?_;refine Yt (f69 (gt v j).1 _ e.side) ?_;simp[a,b];(with_reducible repeat' first|refine Xk ?_<;>try simp[a,b]|refine Xs ?_ ?_<;>intro h<;>(try intro k)<;>(try simp[h,a,b])<;>try omega|refine Xg ?_|omega)
   all_goals first
    | (refine LJ.i (j+1,u) rfl rfl rfl rfl (gO (by first|exact j2|(dsimp only;rw[a];exact j2)));done)
    | (refine LJ.i (j+1,pt u j 2) rfl rfl rfl rfl (gO (by first|exact j2|(dsimp only;rw[a];exact j2)));done)
    | (refine LJ.i (j+1,pt u j 1) rfl rfl rfl rfl (gO (by first|exact j2|(dsimp only;rw[a];exact j2)));done)
    | (refine LJ.i (j+1,pt u j 3) rfl rfl rfl rfl (gO (by first|exact j2|(dsimp only;rw[a];exact j2)));done)
  .simp[d];exact Ey.i u (by simp[j2]) rfl trivial
 .have c:=f68 g hg l hl 1 (by omega);simp only[dG,gi.cells]at c;refine gx.q rfl rfl c (by simp) (λr=>by simp[wP]) ?_;intro r o;simp;refine gj.e ((0,w):Int×List Int) (λy=>[(1,gZ l),(3,gY v),(9,.fY 1 w.length 1 0 w.length),(11,.i 0),(12,.sl 1 (r.map fB)),(13,.i y.1)]) (λy=>[.row 43 0 g.cells,.row 3 w.length (cl f1 y.2)]) (λy=>0<=y.1/\y.1<=l.length/\y.2.length=w.length) (λy=>l.length-y.1.toNat) ?_ ?_
  .simp
  rintro⟨j,u⟩ ⟨j0,j1,j2⟩;dsimp only at j0 j1 j2 ⊢
  by_cases d:j<l.length
  .have a:∀x:Int,(pt u j x).length=u.length:=λx=>iP j0 (by omega);have b:∀x y:Int,pt (pt u j x) j y=pt u j y:=λx y=>aag j0 (by omega);have e:=hl.ok _ (gy j0 d);simp[d];refine gd ?_;refine Yt (f69 (gt v j).1 _ e.side) ?_;simp[a,b];(with_reducible repeat' first|refine Xk ?_<;>try simp[a,b]|refine Xs ?_ ?_<;>intro h<;>(try intro k)<;>(try simp[h,a,b])<;>try omega|refine Xg ?_|omega)
   all_goals first
    | (refine LJ.i (j+1,u) rfl rfl rfl rfl (gO (by first|exact j2|(dsimp only;rw[a];exact j2)));done)
    | (refine LJ.i (j+1,pt u j 2) rfl rfl rfl rfl (gO (by first|exact j2|(dsimp only;rw[a];exact j2)));done)
    | (refine LJ.i (j+1,pt u j 1) rfl rfl rfl rfl (gO (by first|exact j2|(dsimp only;rw[a];exact j2)));done)
    | (refine LJ.i (j+1,pt u j 3) rfl rfl rfl rfl (gO (by first|exact j2|(dsimp only;rw[a];exact j2)));done)
  .simp[d];exact Ey.i u (by simp[j2]) rfl trivial
end Go.Proofs.YtmehofoficaelaaGreatDoor
namespace Go.AL
open Go
section
variable{P:D->Prop}{a b:Int}{k:IntKind}{t:Tag P}
@[simp low] theorem awV:oA (jU .rem k a b) P t=(b≠0/\P (.val (.int k (gA a b)))):=by
 cases t;simp only[jU]
 by_cases h:b=0<;>simp[h,gA]
def jZ(k:IntKind)(a b:Int):Int:=k.wrap (a.tdiv b)
@[simp low] theorem awT:oA (jU .quo k a b) P t=(b≠0/\P (.val (.int k (jZ k a b)))):=by
 cases t;simp only[jU]
 by_cases h:b=0<;>simp[h,jZ]
end
@[simp] theorem at5{ρ:Nat->Option Nat}{H:U}{k:Nat}{t:TypeId}{a b:Int}:mS ρ H (k+1) 1 0 2 (some (t,[.i a,.i b]))=dI [a,b]:=by have h:=vu (f:=f1) (ρ:=ρ) (H:=H) (k:=k) (t:=t) (l:=[a,b]) (n:=2) rfl;rw[oC]at h;simp only[List.map_cons,List.map_nil,DB,a7,ew,az,bU,bq]at h;rw[h];unfold dI;simp only[List.map_cons,List.map_nil,DB]
end Go.AL
namespace Go.AL
open Go
@[irreducible] def fU(n:Int):List D:=[.val (.int .u8 n)]
@[simp] theorem zD(n:Int):fU n = [.val (.int .u8 n)]:=by unfold fU;rfl
instance:Fl fU 1:=⟨λ_=>by simp,λ_=>by simp[gF]⟩
def dU(l:List Int):D:=.sl 1 (l.map fU)
theorem xZ(l:List Int):dU l = .sl 1 (l.map fU):=rfl
@[simp] theorem atd(l:List Int):closed (dU l)=true:=by unfold dU;exact wP l
@[simp] theorem avL(l:List Int)(H:U):mX .slice (dU l) H=some (.i l.length):=by simp[dU]
@[simp] theorem awN{l:List Int}{n:Int}{k:IntKind}{P:D->Prop}:oA (mH 1 (dU l) (.val (.int k n))) P .mk=((0<=n/\n<l.length)/\P (.gu [.val (.int .u8 (gt l n))])):=by unfold dU;rw[yL,zD]
@[simp] theorem azE(n:Nat)(l:List Int):jv n (dU l) = []:=rfl
@[simp] theorem ast(l:List Int):cellsOf (dU l)=some [dU l]:=rfl
@[simp] theorem axn(l:List Int):one (dU l)=true:=rfl
structure wJ(P8 kinds gL:Int)(l:List fZ):Prop where
 steps:∀x∈l,((x.1=1\/x.1=2\/x.1=7)/\0<=x.2/\x.2<P8)\/(3<=x.1/\x.1<=6/\x.2=0)\/(x.1=8/\0<=x.2/\x.2<kinds)\/((x.1=9\/x.1=10)/\0<=x.2/\x.2<gL)
 len:l.length<=8
 uz:oO l 6<=2
 push:oO l 7<=1
 Ms:oO l 8<=1
@[simp] theorem arp(a b:Int):jU .add .u8 a b=some (.val (.int .u8 (IntKind.u8.wrap (a+b)))):=rfl
@[simp] theorem arC(a b:Int):jU .sub .u8 a b=some (.val (.int .u8 (IntKind.u8.wrap (a-b)))):=rfl
theorem abu(n:Int):0<=IntKind.u8.wrap n/\IntKind.u8.wrap n<256:=by simp only[IntKind.wrap,IntKind.bits,IntKind.signed];simp;omega
theorem IC(a b:Int):0<=jZ .u8 a b/\jZ .u8 a b<256:=abu _
theorem ac8{ρ:Nat->Option Nat}{H:U}{k n:Nat}{t:TypeId}{cs:List D}(l:List Int)(h:cs=l.map λn=>D.val (.int .u8 n))(c:n=l.length):mS ρ H (k+1) 1 0 n (some (t,cs))=dU l:=by
 subst c
 have e:cs=cl fU l:=by
  rw[h,oC];clear h
  induction l with
  | nil=>rfl
  | cons a r b=>simp[<-b]
 rw[e,vu rfl];rfl
theorem ahP{sz:Nat}{es:List (List D)}{k:IntKind}{n:Int}{P:D->Prop}:oA (mH sz (.sl sz es) (.val (.int k n))) P .mk=((0<=n/\n<es.length)/\P (.gu (es.getD n.toNat []))):=by simp only[mH,true_and,Cl,Aw]
theorem oA.i{α:Type}{x:Option α}{P:α->Prop}{t:Tag P}{a:α}(h1:x=some a)(b:P a):oA x P t:=⟨a,h1,b⟩
end Go.AL
namespace Go.Proofs.YtmehofoficaelaaGreatDoor
open Go Go.AL Classical
set_option maxRecDepth 10000
set_option maxHeartbeats 4000000
theorem f192(l:List Int)(k:Int)(a:0<=k):Wf T 278 [dU l,.i k] [] (Is (.i (if k<l.length then IntKind.i64.wrap (gt l k)else 0))):=by
 refine Yg KY ?_;simp[KY];exact mK
 all_goals simp[*]
def yE(d o b k r:Int):List (List fZ):=[[(1,d),(3,0)],[(1,d),(4,0),(6,0)],[(2,d)],[(2,d),(4,0),(6,0)],[(1,d),(4,0),(6,0),(1,d)],[(1,d),(1,o)],[(1,d),(7,d)],[(1,d),(3,0),(8,k)],[(9,r),(1,d),(1,d),(10,r)],[(1,d),(5,0),(1,d),(3,0)],[(10,r),(1,d)],[(1,d),(4,0),(6,0),(1,b)],[(1,d),(4,0),(6,0),(1,o),(4,0),(6,0)],[(2,d),(5,0),(1,d)],[(1,d),(4,0),(6,0),(8,k)],[(1,d),(7,d),(1,o)]]
theorem ahd(d o b k r:Int)(i:0<=d/\d<8)(f:0<=o/\o<8)(j:0<=b/\b<8)(g:0<=k/\k<6)(e:0<=r/\r<4):∀p∈yE d o b k r,wJ 8 6 4 p:=by
 have c:∀p:List fZ,(∀x∈p,((x.1=1\/x.1=2\/x.1=7)/\0<=x.2/\x.2<8)\/(3<=x.1/\x.1<=6/\x.2=0)\/(x.1=8/\0<=x.2/\x.2<6)\/((x.1=9\/x.1=10)/\0<=x.2/\x.2<4))->p.length<=8/\oO p 6<=2/\oO p 7<=1/\oO p 8<=1->wJ 8 6 4 p:=λp a b=>⟨a,b.1,b.2.1,b.2.2.1,b.2.2.2⟩;intro p h;unfold yE at h;simp only[av,eu,or_false]at h;rcases h with rfl|rfl|rfl|rfl|rfl|rfl|rfl|rfl|rfl|rfl|rfl|rfl|rfl|rfl|rfl|rfl
 all_goals
  refine c _ ?_ ?_
  .simp;omega
  .simp[oO]
theorem ahc(d o b k r m:Int)(h0:0<=m)(h1:m<16):([[D.sl 2 [[D.i 1,D.i d],[D.i 3,D.i 0]]],[D.sl 2 [[D.i 1,D.i d],[D.i 4,D.i 0],[D.i 6,D.i 0]]],[D.sl 2 [[D.i 2,D.i d]]],[D.sl 2 [[D.i 2,D.i d],[D.i 4,D.i 0],[D.i 6,D.i 0]]],[D.sl 2 [[D.i 1,D.i d],[D.i 4,D.i 0],[D.i 6,D.i 0],[D.i 1,D.i d]]],[D.sl 2 [[D.i 1,D.i d],[D.i 1,D.i o]]],[D.sl 2 [[D.i 1,D.i d],[D.i 7,D.i d]]],[D.sl 2 [[D.i 1,D.i d],[D.i 3,D.i 0],[D.i 8,D.i k]]],[D.sl 2 [[D.i 9,D.i r],[D.i 1,D.i d],[D.i 1,D.i d],[D.i 10,D.i r]]],[D.sl 2 [[D.i 1,D.i d],[D.i 5,D.i 0],[D.i 1,D.i d],[D.i 3,D.i 0]]],[D.sl 2 [[D.i 10,D.i r],[D.i 1,D.i d]]],[D.sl 2 [[D.i 1,D.i d],[D.i 4,D.i 0],[D.i 6,D.i 0],[D.i 1,D.i b]]],[D.sl 2 [[D.i 1,D.i d],[D.i 4,D.i 0],[D.i 6,D.i 0],[D.i 1,D.i o],[D.i 4,D.i 0],[D.i 6,D.i 0]]],[D.sl 2 [[D.i 2,D.i d],[D.i 5,D.i 0],[D.i 1,D.i d]]],[D.sl 2 [[D.i 1,D.i d],[D.i 4,D.i 0],[D.i 6,D.i 0],[D.i 8,D.i k]]],[D.sl 2 [[D.i 1,D.i d],[D.i 7,D.i d],[D.i 1,D.i o]]]].getD m.toNat [])[0]? = some (gY (gt (yE d o b k r) m)):=by
 rcases(show m=0\/m=1\/m=2\/m=3\/m=4\/m=5\/m=6\/m=7\/m=8\/m=9\/m=10\/m=11\/m=12\/m=13\/m=14\/m=15 by omega)with rfl|rfl|rfl|rfl|rfl|rfl|rfl|rfl|rfl|rfl|rfl|rfl|rfl|rfl|rfl|rfl
 all_goals simp[yE,gt,gY]
theorem f152(l:List Int)(hl:l.length=5)(h:∀n∈l,0<=n/\n<256):Wf T 228 [dU l] [] (Ey gY (wJ 8 6 4)):=by
 have e:∀k:Int,0<=k->k<5->(if k<l.length then IntKind.i64.wrap (gt l k)else 0)=gt l k:=λk a b=>by rw[if_pos (by omega)];have:=h _ (gy (l:=l) a (by omega));exact o9 iy
 have c:∀k:Int,0<=k->k<5->0<=gt l k:=λk a b=>(h _ (gy (l:=l) a (by omega))).1;refine Yz Fq (iZ 121 [0,1,2,3,4,5,6,7,8,9,10,11,12,13,14,15,16,17,18,19,20,21,22,23,24,25,26,27,28] Fq.body) ?_;simp[Fq,iZ,kD,np,nz,nP,ma];refine Yc (f192 l 1 (by omega)) ?_;simp[e 1 (by omega) (by omega)];refine Yc (f192 l 2 (by omega)) ?_;simp[e 2 (by omega) (by omega)];refine Yc (f192 l 3 (by omega)) ?_;simp[e 3 (by omega) (by omega)];refine Yc (f192 l 4 (by omega)) ?_;simp[e 4 (by omega) (by omega),mS,chunks];have q:=jH (a:=gt l 1) (b:=8) (c 1 (by omega) (by omega));have p:=jH (a:=gt l 2) (b:=8) (c 2 (by omega) (by omega));have o:=jH (a:=gt l 3) (b:=6) (c 3 (by omega) (by omega));have j:=jH (a:=gt l 4) (b:=4) (c 4 (by omega) (by omega));have r:=jH (a:=gt l 0) (b:=16) (c 0 (by omega) (by omega));have i:=jH (a:=gA (gt l 1) 8+4) (b:=8) (by omega);have d:IntKind.i64.wrap (gt l 0)=gt l 0:=by grind
 refine gd ?_;refine Yc (f192 l 0 (by omega)) ?_;simp[hl,d,ahP,mS,chunks];refine gd ?_;have f:=ahd (gA (gt l 1) 8) (gA (gt l 2) 8) (gA (gA (gt l 1) 8+4) 8) (gA (gt l 3) 6) (gA (gt l 4) 4) (by omega) (by omega) (by omega) (by omega) (by omega);have g:(yE (gA (gt l 1) 8) (gA (gt l 2) 8) (gA (gA (gt l 1) 8+4) 8) (gA (gt l 3) 6) (gA (gt l 4) 4)).length=16:=rfl;have hg:∀m:Int,0<=m->m<16->gt (yE (gA (gt l 1) 8) (gA (gt l 2) 8) (gA (gA (gt l 1) 8+4) 8) (gA (gt l 3) 6) (gA (gt l 4) 4)) m∈yE (gA (gt l 1) 8) (gA (gt l 2) 8) (gA (gA (gt l 1) 8+4) 8) (gA (gt l 3) 6) (gA (gt l 4) 4):=λm a b=>gy a (by omega);refine oA.i (a:=gY (gt (yE (gA (gt l 1) 8) (gA (gt l 2) 8) (gA (gA (gt l 1) 8+4) 8) (gA (gt l 3) 6) (gA (gt l 4) 4)) (gA (gt l 0) 16))) ?_ ?_
 .exact ahc _ _ _ _ _ _ (by omega) (by omega)
 .simp;exact Ey.i (gt (yE (gA (gt l 1) 8) (gA (gt l 2) 8) (gA (gA (gt l 1) 8+4) 8) (gA (gt l 3) 6) (gA (gt l 4) 4)) (gA (gt l 0) 16)) rfl rfl (f _ (hg _ (by omega) (by omega)))
set_option maxHeartbeats 1000000
theorem Gb(l:List fZ)(x:fZ)(op:Int):oO (l ++ [x]) op=oO l op+(if x.1=op then 1 else 0):=by unfold oO;rw[cV];simp[cP];split<;>rfl
def sR(a kinds gL:Int)(x:fZ):Prop:=((x.1=1\/x.1=2\/x.1=7)/\0<=x.2/\x.2<a)\/(3<=x.1/\x.1<=6/\x.2=0)\/(x.1=8/\0<=x.2/\x.2<kinds)\/((x.1=9\/x.1=10)/\0<=x.2/\x.2<gL)
structure AS(p:List fZ)(kinds gL:Int)(i:Int)(out:List fZ):Prop where
 i0:0<=i/\i<=p.length
 steps:∀x∈out,sR 8 kinds gL x
 PW:∀op,oO out op<=oO (p.take i.toNat) op
 len:out.length<=i.toNat
theorem AS.add{p:List fZ}{kinds gL i:Int}{out:List fZ}(h:AS p kinds gL i out)(hi:i<p.length){x:fZ}(c:sR 8 kinds gL x)(b:x.1=(gt p i).1):AS p kinds gL (i+1) (out ++ [x]):=by
 have h0:=h.i0;refine⟨by omega,λy a=>?_,λop=>?_,by have:=h.len;simp;omega⟩
 .rcases List.mem_append.1 a with a|a
  .exact h.steps y a
  .grind
 .rw[jq h0.1 hi,Gb,Gb,b];have:=h.PW op;omega
theorem AS.skip{p:List fZ}{kinds gL i:Int}{out:List fZ}(h:AS p kinds gL i out)(hi:i<p.length):AS p kinds gL (i+1) out:=by have h0:=h.i0;refine⟨by omega,h.steps,λop=>?_,by have:=h.len;omega⟩;rw[jq h0.1 hi,Gb];have:=h.PW op;split<;>omega
theorem f151(p:List fZ)(kinds gL:Int)(e:wJ 8 6 4 p)(q:1<=kinds/\kinds<=6)(o:0<=gL/\gL<=4):Wf T 227 [gY p,.i 8,.i kinds,.i gL] [] (Ey gY λr=>wJ 8 kinds gL r/\1<=r.length):=by
 have hl:=e.len;refine Yg KD ?_;simp[KD];refine gj.e ((0,[]):Int×List fZ) (λy=>[(0,gY p),(1,.i 8),(2,.i kinds),(3,.i gL),(9,.fY 0 y.2.length 2 0 y.2.length),(10,.i y.1)]) (λy=>[.row 173 y.2.length (cl fS y.2)]) (λy=>AS p kinds gL y.1 y.2) (λy=>p.length-y.1.toNat) ?_ ?_
 .exact⟨by simp,by simp,by simp,by simp⟩
 rintro⟨i,out⟩ c;have h0:=c.i0;have k:=c.len;dsimp only at c h0 k ⊢
 by_cases hi:i<p.length
 .have n:=e.steps _ (gy h0.1 hi);have d:=λ(x:fZ)=>c.add hi (x:=x)
  have a:∀b:Int,0<b->0<=(gt p i).2->0<=gA (gt p i).2 b/\gA (gt p i).2 b<b:=λb h1 l=>by rw[jH l];exact⟨bL _ (by omega),bE _ h1⟩
  simp[hi];(with_reducible repeat' first|refine Xk ?_<;>try simp|refine Xs ?_ ?_<;>intro h<;>(try intro s)<;>(try simp[h])<;>try omega|refine Xg ?_|omega)
  .refine LJ.e (i+1,out ++ [(1,gA (gt p i).2 8)]) ?_;have j:=a 8 (by omega);have g:=a kinds (by omega);exact pE (d _ (by unfold sR;dsimp only;omega) (by dsimp only;omega))
  .refine LJ.e (i+1,out ++ [(2,gA (gt p i).2 8)]) ?_;have j:=a 8 (by omega);have g:=a kinds (by omega);exact pE (d _ (by unfold sR;dsimp only;omega) (by dsimp only;omega))
  .refine LJ.e (i+1,out ++ [(7,gA (gt p i).2 8)]) ?_;have j:=a 8 (by omega);have g:=a kinds (by omega);exact pE (d _ (by unfold sR;dsimp only;omega) (by dsimp only;omega))
  .refine LJ.e (i+1,out ++ [(8,gA (gt p i).2 kinds)]) ?_;have j:=a 8 (by omega);have g:=a kinds (by omega);exact pE (d _ (by unfold sR;dsimp only;omega) (by dsimp only;omega))
  .refine LJ.i (i+1,out) (by first|rfl|simp[*]) (by first|rfl|simp[*]) rfl rfl ?_;exact pE (c.skip hi)
  .have m:=a gL (by omega);refine LJ.e (i+1,out ++ [((gt p i).1,gA (gt p i).2 gL)]) ?_;exact pE (d _ (by unfold sR;dsimp only;omega) (by dsimp only))
  .refine LJ.i (i+1,out) (by first|rfl|simp[*]) (by first|rfl|simp[*]) rfl rfl ?_;exact pE (c.skip hi)
  .have m:=a gL (by omega);refine LJ.e (i+1,out ++ [((gt p i).1,gA (gt p i).2 gL)]) ?_;exact pE (d _ (by unfold sR;dsimp only;omega) (by dsimp only))
  .refine LJ.e (i+1,out ++ [gt p i]) ?_;exact pE (d _ (by unfold sR;omega) rfl)
 .simp[hi];have f:=c.PW;rw[ln (by omega)]at f;refine j' ?_ ?_<;>intro h
  .refine Ey.i [(3,0)] (by simp[gY]) rfl ⟨⟨by simp,by simp,by simp[oO],by simp[oO],by simp[oO]⟩,by simp⟩
  .refine Ey.i out rfl rfl ⟨⟨c.steps,by omega,fX (f 6) e.uz,fX (f 7) e.push,fX (f 8) e.Ms⟩,?_⟩;exact ax.2 (by simpa using h)
theorem f105(n kinds gL:Int)(i:0<=n/\n<256)(d:1<=kinds/\kinds<=6)(a:0<=gL/\gL<=4):Wf T 160 [.val (.int .u8 n),.i 8,.i kinds,.i gL] [] (Ey gY λr=>wJ 8 kinds gL r/\1<=r.length):=by
 refine Yz Fh (kD 21 [0] Fh.body) ?_;simp[Fh,iZ,kD,np,nz,nP,ma];have f:∀ρ H,mS ρ H 39 1 0 5 (some (5,[.val (.int .u8 n),.val (.int .u8 (jZ .u8 n 16)),.val (.int .u8 (IntKind.u8.wrap (jZ .u8 n 16+gA n 5))),.val (.int .u8 (jZ .u8 n 3)),.val (.int .u8 n)]))=dU [n,jZ .u8 n 16,IntKind.u8.wrap (jZ .u8 n 16+gA n 5),jZ .u8 n 3,n]:=λρ H=>ac8 _ rfl rfl;rw[f];have g:=IC n 16;have k:=IC n 3;have h:=abu (jZ .u8 n 16+gA n 5);have e:∀m∈[n,jZ .u8 n 16,IntKind.u8.wrap (jZ .u8 n 16+gA n 5),jZ .u8 n 3,n],0<=m/\m<256:=λm j=>by grind
 refine Yq (f152 _ rfl e) λp c=>?_;simp;refine Yq (f151 p kinds gL c d a) λq b=>?_;simp;exact Ey.i q rfl rfl b
def Cg(n:Int)(nx:List (List Int))(tn:List Int):gi:={ (default:gi)with size:=n,next:=nx,jy:=tn }
def bD(n:Int)(nx:List (List Int))(tn:List Int):D:=.agg [.i n,.sl 1 (nx.map fI),dI tn]
theorem f150(n:Int)(nx:List (List Int))(tn:List Int)(d:oM (Cg n nx tn))(c:Int)(w:0<=c/\c<n):Wf T 226 [bD n nx tn,.i c] [] (Ey (λx:List (List Int)=>.tup [bD n x tn,.i 0]) λx=>oM (Cg n x tn)):=by
 have v:1<=n/\n<=9:=d.size;have a:nx.length=8:=d.next
 have u:tn.length=8:=d.jy;have t:∀l∈nx,(l.length:Int)=n/\∀x∈l,-1<=x/\x<n:=d.row;refine Yz Fo (kD 63 [1008] Fo.body) ?_;simp[Fo,iZ,kD,np,nz,nP,ma,bD];(with_reducible repeat' first|refine Xk ?_<;>try simp|refine Xs ?_ ?_<;>intro h<;>(try intro k)<;>(try simp[h])<;>try omega|refine Xg ?_|omega);refine gj.e ((0,0,[]):Int×Nat×List (List Int)) (λy=>[(1,.i c),(2,.ptr 0 0 0),(4,.ptr 1 0 0),(6,.ptr 3 0 0),(7,.i y.1)]) (λy=>.row 39 0 [.i n,.sl 1 (nx.map fI),dI tn] :: .row 39 0 [.i 0,.gg,.gg] :: .row 3 1 (cl f1 tn) :: .row 39 0 [.i n,(if y.1=0 then .gg else .fY 4 y.2.1 1 0 y.2.2.length),.fY 2 1 1 0 tn.length]::(if y.1=0 then []else [.row 37 y.2.1 (cl fI y.2.2)])) (λy=>0<=y.1/\y.1<=8/\y.2.2.length=y.1.toNat/\∀l∈y.2.2,(l.length:Int)=n/\∀x∈l,-1<=x/\x<n) (λy=>8-y.1.toNat) ?_ ?_
 .simp
 rintro⟨i,g,out⟩ ⟨i0,r,q,f⟩;dsimp only at i0 r q f ⊢
 by_cases hi:i<nx.length
 .have m:=t _ (gy (l:=nx) i0 hi)
  by_cases b:i=0
  .have p:out = []:=ay.1 (by omega);subst b;subst p;simp[a];refine gj.e ((0,[]):Int×List Int) (λy=>[(1,.i c),(2,.ptr 0 0 0),(4,.ptr 1 0 0),(6,.ptr 3 0 0),(7,.i 0),(8,.fY 4 y.2.length 1 0 y.2.length),(9,.i y.1)]) (λy=>[.row 39 0 [.i n,.sl 1 (nx.map fI),dI tn],.row 39 0 [.i 0,.gg,.gg],.row 3 1 (cl f1 tn),.row 39 0 [.i n,.gg,.fY 2 1 1 0 tn.length],.row 3 y.2.length (cl f1 y.2)]) (λy=>0<=y.1/\y.1<=n/\y.2.length=y.1.toNat/\∀x∈y.2,-1<=x/\x<n) (λy=>n.toNat-y.1.toNat) ?_ ?_
   .simp;omega
   rintro⟨j,row⟩ ⟨j0,j1,j2,j3⟩;dsimp only at j0 j1 j2 j3 ⊢
   by_cases e:j<n
   .have s:=m.2 _ (gy (l:=gt nx 0) j0 (by omega));simp[a,e];(with_reducible repeat' first|refine Xk ?_<;>try simp|refine Xs ?_ ?_<;>intro h<;>(try intro k)<;>(try simp[h])<;>try omega|refine Xg ?_|omega)
    .refine LJ.i (j+1,row ++ [-1]) (by first|rfl|simp[*]) (by first|rfl|simp[*]) rfl rfl ?_;dsimp only;refine⟨by omega,by omega,by omega,by simp;omega,λx a=>?_⟩;rcases List.mem_append.1 a with a|a
     .exact j3 x a
     .grind
    .refine LJ.i (j+1,row ++ [-1]) (by first|rfl|simp[*]) (by first|rfl|simp[*]) rfl rfl ?_;dsimp only;refine⟨by omega,by omega,by omega,by simp;omega,λx a=>?_⟩;rcases List.mem_append.1 a with a|a
     .exact j3 x a
     .grind
    .refine LJ.e (j+1,row ++ [gt (gt nx 0) j]) ?_;dsimp only;refine⟨by omega,by omega,by omega,by simp;omega,λx a=>?_⟩;rcases List.mem_append.1 a with a|a
     .exact j3 x a
     .grind
   .simp[a,e];refine gd ?_;refine LJ.i (1,0,[row]) (by first|rfl|simp[iQ]) (by first|rfl|simp[iQ]) rfl rfl ?_;dsimp only;refine⟨by omega,by omega,by omega,by simp,λx a=>?_⟩;have o:(row.length:Int)=n/\∀x∈row,-1<=x/\x<n:=⟨by omega,j3⟩;rw[List.mem_singleton]at a;rw[a];exact o
  .simp[hi,b];refine gj.e ((0,[]):Int×List Int) (λy=>[(1,.i c),(2,.ptr 0 0 0),(4,.ptr 1 0 0),(6,.ptr 3 0 0),(7,.i i),(8,.fY 5 y.2.length 1 0 y.2.length),(9,.i y.1)]) (λy=>[.row 39 0 [.i n,.sl 1 (nx.map fI),dI tn],.row 39 0 [.i 0,.gg,.gg],.row 3 1 (cl f1 tn),.row 39 0 [.i n,.fY 4 g 1 0 out.length,.fY 2 1 1 0 tn.length],.row 37 g (cl fI out),.row 3 y.2.length (cl f1 y.2)]) (λy=>0<=y.1/\y.1<=n/\y.2.length=y.1.toNat/\∀x∈y.2,-1<=x/\x<n) (λy=>n.toNat-y.1.toNat) ?_ ?_
   .simp;omega
   rintro⟨j,row⟩ ⟨j0,j1,j2,j3⟩;dsimp only at j0 j1 j2 j3 ⊢
   by_cases e:j<n
   .have s:=m.2 _ (gy (l:=gt nx i) j0 (by omega));simp[hi,e,b];(with_reducible repeat' first|refine Xk ?_<;>try simp[b]|refine Xs ?_ ?_<;>intro h<;>(try intro k)<;>(try simp[h,b])<;>try omega|refine Xg ?_|omega)
    .refine LJ.i (j+1,row ++ [-1]) (by first|rfl|simp[*]) (by first|rfl|simp[*]) rfl rfl ?_;dsimp only;refine⟨by omega,by omega,by omega,by simp;omega,λx a=>?_⟩;rcases List.mem_append.1 a with a|a
     .exact j3 x a
     .grind
    .refine LJ.i (j+1,row ++ [-1]) (by first|rfl|simp[*]) (by first|rfl|simp[*]) rfl rfl ?_;dsimp only;refine⟨by omega,by omega,by omega,by simp;omega,λx a=>?_⟩;rcases List.mem_append.1 a with a|a
     .exact j3 x a
     .grind
    .refine LJ.e (j+1,row ++ [gt (gt nx i) j]) ?_;dsimp only;refine⟨by omega,by omega,by omega,by simp;omega,λx a=>?_⟩;rcases List.mem_append.1 a with a|a
     .exact j3 x a
     .grind
   .simp[e,b];refine jP b ?_;refine LJ.i (i+1,g+1,out ++ [row]) (by first|rfl|simp[show¬(i+1=0)by omega]) (by first|rfl|simp[show¬(i+1=0)by omega]) rfl rfl ?_;dsimp only;refine⟨by omega,by omega,by omega,by simp;omega,λx a=>?_⟩;have o:(row.length:Int)=n/\∀x∈row,-1<=x/\x<n:=⟨by omega,j3⟩;rcases List.mem_append.1 a with a|a
    .exact f x a
    .grind
 .simp[hi,show¬i=0 by omega];exact Ey.i out (by simp) rfl ⟨d.size,by show out.length=8;omega,f,d.jy,d.turns⟩
