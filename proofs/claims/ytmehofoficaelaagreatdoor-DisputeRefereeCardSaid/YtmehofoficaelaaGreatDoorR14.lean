/- Part 14 of DisputeReferee. -/
import Derived.Test.YtmehofoficaelaaGreatDoorR13
set_option linter.all false
namespace Go.Proofs.YtmehofoficaelaaGreatDoor
open Go Go.AL Classical
set_option maxRecDepth 10000
set_option maxHeartbeats 1000000
theorem Tv{g:fH}{p:Pos}(h:¬ended g p){r:List Pos}(hs:kr r)(a:∀q,q∈r↔qd g p q):gJ r=s8 g p:=by unfold s8;rw[if_neg h,QC hs a]
theorem f60(g:fH)(hg:gF g)(p:Pos)(m:gT g p):Wf T 85 [dG g,dP p] [] (Is (s8 g p)):=by
 refine Yz DW (iB 66 [2] DW.body) ?_;simp[DW,iB,jN,mw,mz,mH,lq];refine Yc (f106 g hg p m) ?_;simp;refine jF ?_ ?_<;>intro h
 .unfold s8;rw[if_pos (KL.1 ‹_›)]
 have n:¬ended g p:=λf=>h (KL.2 f);refine Yq (f107 g hg p m) λl hl=>?_;simp;have C:=hl.2;refine fO.e ((0,false):Int×Bool) (λy=>[(2,.ptr 0 0 0),(3,.ptr 1 0 0),(5,na l),(6,.fy 2 0 5 0 0),(7,.b y.2),(8,.i y.1)]) (λy=>[.row 43 0 g.cells,.row 46 0 p.cells,.row 46 0 []]) (λy=>0<=y.1/\y.1<=l.length/\(y.2=true↔g.nJ=true/\∃o∈l.take y.1.toNat,o.jq=true)) (λy=>l.length-y.1.toNat) ?_ ?_
 .simp
 rintro⟨i,nJ⟩ ⟨h0,h1,f⟩;dsimp only at h0 h1 f ⊢
 by_cases t:i<l.length
 .have e:∀o,o∈l.take (i+1).toNat↔o∈l.take i.toNat\/o=gt l i:=λo=>by rw[iO h0 t,List.mem_append,List.mem_singleton]
  cases d:g.nJ<;>cases nJ<;>simp[d,t]
  .refine fD ?_;refine LJ.i (i+1,false) (by first|rfl|simp[d]) (by first|rfl|simp[d]) rfl rfl ?_;dsimp only;exact gx (by simp[d])
  .grind
  .refine fD ?_;refine LJ.i (i+1,(gt l i).jq) (by first|rfl|simp[d]) (by first|rfl|simp[d]) rfl rfl ?_;dsimp only;refine gx ?_;simp[d]at f ⊢;constructor
   .grind
   .grind
  .refine fD ?_;refine LJ.i (i+1,true) (by first|rfl|simp[d]) (by first|rfl|simp[d]) rfl rfl ?_;dsimp only;refine gx ?_;simp[d]at f ⊢;obtain⟨o,A,h⟩:=f;exact⟨o,(e o).2 (.inl A),h⟩
 .simp[t];rw[kG (by omega)]at f;refine fO.e ((0,0,[]):Int×Nat×List Pos) (λy=>[(2,.ptr 0 0 0),(3,.ptr 1 0 0),(5,na l),(6,.fy 2 y.2.1 5 0 y.2.2.length),(7,.b nJ),(9,.i y.1)]) (λy=>[.row 43 0 g.cells,.row 46 0 p.cells,.row 46 y.2.1 (cl Pos.cells y.2.2)]) (λy=>0<=y.1/\y.1<=l.length/\(∀q,q∈y.2.2↔∃o∈l.take y.1.toNat,(nJ=true->o.jq=true)/\o.p=q)/\y.2.2.length<=y.1.toNat) (λy=>l.length-y.1.toNat) ?_ ?_
  .simp
  rintro⟨j,w,out⟩ ⟨j0,j1,j2,j3⟩;dsimp only at j0 j1 j2 j3 ⊢
  by_cases u:j<l.length
  .have e:∀o,o∈l.take (j+1).toNat↔o∈l.take j.toNat\/o=gt l j:=λo=>by rw[iO j0 u,List.mem_append,List.mem_singleton]
   simp[u];cases nJ<;>simp
   .refine fD ?_;refine LJ.e (j+1,w+1,out ++ [(gt l j).p]) ?_;dsimp only;refine⟨by omega,by omega,by omega,λq=>?_,by simp;omega⟩;rw[List.mem_append,List.mem_singleton,j2];simp only[e];constructor
    .grind
    .grind
   .refine jF ?_ ?_<;>intro h
    .skip;refine LJ.e (j+1,w+1,out ++ [(gt l j).p]) ?_;dsimp only;refine⟨by omega,by omega,by omega,λq=>?_,by simp;omega⟩;rw[List.mem_append,List.mem_singleton,j2];simp only[e];constructor
     .grind
     .grind
    .refine LJ.e (j+1,w,out) ?_;dsimp only;refine⟨by omega,by omega,by omega,λq=>?_,by omega⟩;rw[j2];simp only[e];constructor
     .grind
     .grind
  .simp[u];rw[kG (by omega)]at j2
   have x:∀q∈out,Small q:=λq v=>by obtain⟨o,a,_,rfl⟩:=(j2 q).1 v;exact(Mr hg m ((hl.1 o).1 a)).small hg
   cases nJ<;>simp
   .have s:¬(g.nJ=true/\∃o∈pD g p,o.jq=true):=by grind
    refine Yq (f108 g hg p m) λdr z=>?_;simp;refine fD ?_;refine Yq (f61 (out++dr) (by simp;omega) (λq v=>(List.mem_append.1 v).elim (x q) (λh=>TD hg m ((z.2.2 q).1 h)))) λr k=>?_;simp;refine Tv n k.1 λq=>?_;rw[k.2.2,List.mem_append,z.2.2,j2];unfold qd;rw[if_neg s];simp only[Gd n,hl.1];simp;exactλ_ c B=>Gd n c B
   .have s:=f.1 rfl;refine Yq (f61 out (by omega) x) λr k=>?_;simp;refine Tv n k.1 λq=>?_;rw[k.2.2,j2];unfold qd;simp only[hl.1]at s ⊢;rw[if_pos s];constructor
    .rintro⟨o,a,b,rfl⟩;have:=b trivial;refine⟨Gd n,?_⟩;cases o;simp_all
    .grind
theorem f112(g:fH)(hg:gF g)(p:Pos)(b:gT g p):Wf T 82 [dG g,dP p] [] (Is (.agg [.i (stat g p).1,.b (stat g p).2])):=by
 refine Yg HJ ?_;simp[HJ];refine Yc (f106 g hg p b) ?_;simp;refine jF ?_ ?_<;>intro h
 .have a:=KL.1 h;have:=NV a;refine fD ?_;simp[stat,a,Me a]
 .have a:¬ended g p:=λc=>h (KL.2 c);refine Yc (f60 g hg p b) ?_;simp;refine jF ?_ ?_<;>intro h
  all_goals simp[stat, *]
theorem f58(g:fH)(hg:gF g)(p:Pos)(d:gT g p)(l:List Int)(hl:l.length<=100)(h0:∀n∈l,0<=n/\n<256):Wf T 99 [dG g,dP p,dI l] [] (Ey gJ λr=>(0<r.length/\r.length<=101)/\∀q∈r,gT g q):=by
 refine Yg JF ?_;simp[JF];refine fO.e ((0,p,0,[p]):Int×Pos×Nat×List Pos) (λy=>[(2,dI l),(3,.ptr 0 0 0),(4,.ptr 1 0 0),(7,.fy 2 y.2.2.1 5 0 y.2.2.2.length),(8,.i y.1)]) (λy=>[.row 43 0 g.cells,.row 46 0 y.2.1.cells,.row 46 y.2.2.1 (cl Pos.cells y.2.2.2)]) (λy=>0<=y.1/\y.1<=l.length/\gT g y.2.1/\(0<y.2.2.2.length/\y.2.2.2.length<=y.1.toNat+1)/\∀q∈y.2.2.2,gT g q) (λy=>l.length-y.1.toNat) ?_ ?_
 .grind
 rintro⟨i,p,m,out⟩ ⟨i0,j,d,f,b⟩;dsimp only at i0 j d f b ⊢;simp;refine jF ?_ ?_<;>intro h
 .refine Yc (f60 g hg p d) ?_;simp;have k:=h0 _ (fZ i0 ‹_›)
  have e:0<(iz g p).length->0<=fX (gt l i) (iz g p).length/\fX (gt l i) (iz g p).length<(iz g p).length:=λh=>by rw[jd k.1];exact⟨bJ _ (by omega),bB _ (by omega)⟩
  (with_reducible repeat' first|refine Xk ?_<;>try simp|refine Xs ?_ ?_<;>intro h<;>(try intro o)<;>(try simp[h])<;>try omega|refine Xg ?_|omega)
  .exact Ey.i out rfl rfl (qy b)
  .have a:0<(iz g p).length:=av.2 ‹_›;have:=e a;omega
  .have a:0<(iz g p).length:=av.2 ‹_›;have:=e a;refine fD ?_;have fG:=QB hg d (A3.1 (fZ (l:=iz g p) this.1 this.2));refine LJ.e (i+1,gt (iz g p) (fX (gt l i) (iz g p).length),m+1,out ++ [gt (iz g p) (fX (gt l i) (iz g p).length)]) ?_;dsimp only;refine⟨by omega,by omega,by omega,fG,by simp;omega,λq c=>?_⟩;rcases List.mem_append.1 c with c|c
   .exact b q c
   .grind
 .exact Ey.i out rfl rfl (qy b)
structure J6(g:fH)(p:Pos)(all last:List Pos):Prop where
 zm:kr all
 ok:∀q∈all,gT g q
 has:p∈all
 sub:∀q∈last,q∈all
 cl:∀q∈all,q ∉ last->∀m,qd g q m->m∈all
 len:all.length<=80
 aeC:last.length<=all.length
theorem J6.step{g:fH}(hg:gF g){p:Pos}{c last next last' all':List Pos}(h:J6 g p c last)(s:∀m,m∈next↔∃q∈last,qd g q m)(hl:∀m,m∈last'↔m∈next/\m ∉ c)
  (l:last'.Nodup) (hs:kr all') (f:∀q,q∈all'↔q∈c\/q∈last') (i:all'.length<=80):J6 g p all' last'/\(last'≠[]->c.length<all'.length)/\c.length<=all'.length:=by
 have h1:c.length+last'.length<=all'.length:=by rw[<-au];refine Gc (c9.2 ⟨h.zm.nodup,l,λa f b u e=>?_⟩) λx n=>(f x).2 (List.mem_append.1 n);subst e;exact((hl a).1 u).2 f
 refine⟨⟨hs,λq d=>?_,(f p).2 (.inl h.has),λq d=>(f q).2 (.inr d),λq d v m j=>?_,i,by omega⟩,λt=>?_,by omega⟩
 .rcases(f q).1 d with d|d
  .exact h.ok q d
  .obtain⟨r,o,j⟩:=(s q).1 ((hl q).1 d).1;exact QB hg (h.ok r (h.sub r o)) j
 .rcases(f q).1 d with d|d
  .by_cases k:q∈last
   .grind
   .exact(f m).2 (.inl (h.cl q d k m j))
  .grind
 .have:0<last'.length:=av.2 t;omega
structure Hh(g:fH)(l:List Pos):Prop where
 zm:kr l
 ok:∀q∈l,gT g q
 cl:∀q∈l,∀m,qd g q m->m∈l
 len:0<l.length/\l.length<=80
end Go.Proofs.YtmehofoficaelaaGreatDoor
namespace Go.AL
open Go
def Xn(S:List Nat):iu->Bool
 | .call f _ | .callN f _=>elem f S
 | .callv _ _=>false
 | .nextM _=>false
 | _=>true
def oV(S:List Nat):List gI->Bool
 | []=>true
 | e::r=>Xn S e.op&&oV S r
def qu(S:List Nat):IR->Bool
 | .ops l=>oV S l
 | .lF _ l=>oV S l
 | .mj _ l es=>oV S l&&oV S es
 | .seq a b=>qu S a&&qu S b
 | .cond _ a b=>qu S a&&qu S b
 | .block _ _ a=>qu S a
 | .loop _ a=>qu S a
 | .nv _ _ _=>false
 | _=>true
def qv(S:List Nat):zw->Bool
 | .ops l _=>oV S l
 | .code c _=>qu S c
 | .loop _ _ a _=>qu S a
 | .call f _ _=>elem f S
 | .trace l _=>oV S l
def One(T:ia)(j:zw)(R:oS->Prop):Prop:=match j with
 | .ops _ _ | .code _ _ | .loop _ _ _ _=>∃o,R (.out o)/\Ev T j (λr=>r = .out o)
 | .call _ _ _=>∃d H,R (.val d H)/\Ev T j (λr=>r = .val d H)
 | .trace _ _=>∃rs s,R (.tr rs s)/\Ev T j (λr=>r = .tr rs s)
theorem One.mono{T:ia}{j:zw}{R c:oS->Prop}(h:One T j R)(hi:∀r,R r->c r):One T j c:=by
 cases j with
 | call f a H=>obtain⟨d,H',h1,b⟩:=h;exact⟨d,H',hi _ h1,b⟩
 | trace l s=>obtain⟨d,H',h1,b⟩:=h;exact⟨d,H',hi _ h1,b⟩
 | _=>obtain⟨o,h1,b⟩:=h;exact⟨o,hi _ h1,b⟩
theorem Xo{S:List Nat}{env:gD}{op:iu}{f:FuncId}{args:List D}(h:Xn S op=true)(a:kb env op=some (f,args)):elem f S=true:=by cases op<;>first|(cases a;exact h)|(cases h;done)|(cases a;done)
section
variable{T:ia}{S:List Nat}(hS:∀f fn,elem f S=true->T.fn f=some fn->qu S fn.body=true)(hN:∀f,elem f S=true->T.sort f=none/\T.su f=false/\T.sE f=false)
include hS hN
theorem ajP{j:zw}{R:oS->Prop}(h:Ev T j R):qv S j=true->One T j R:=by
 induction h with
 | mono h hi m=>exactλf=>(m f).mono hi
 | sort fc l P hs=>intro f;rw[(hN _ f).1]at hs;cases hs
 | Dt hs=>intro f;rw[(hN _ f).1]at hs;cases hs
 | su l hs=>intro f;rw[(hN _ f).2.1]at hs;cases hs
 | sE l i hs=>intro f;rw[(hN _ f).2.2]at hs;cases hs
 | nil h=>exactλ_=>⟨_,h,.nil rfl⟩
 | op hg h t m=>
  intro f;simp only[qv,oV,Bool.and_eq_true]at f;obtain⟨o,h1,g⟩:=m f.2;exact⟨o,h1,.op hg h g⟩
 | Bq hg h t m=>
  intro f;simp only[qv,oV,Bool.and_eq_true]at f;obtain⟨o,h1,g⟩:=m f.2;exact⟨o,h1,.Bq hg h g⟩
 | off hg t m=>
  intro f;simp only[qv,oV,Bool.and_eq_true]at f;obtain⟨o,h1,g⟩:=m f.2;exact⟨o,h1,.off hg g⟩
 | lH I G t m=>intro f;obtain⟨o,h1,g⟩:=m f;exact⟨o,h1,.lH I G g⟩
 | EN I G t m=>intro f;obtain⟨o,h1,g⟩:=m f;exact⟨o,h1,.EN I G g⟩
 | Og live t m=>intro f;obtain⟨o,h1,g⟩:=m f;exact⟨o,h1,.Og live g⟩
 | K5 live t m=>intro f;obtain⟨o,h1,g⟩:=m f;exact⟨o,h1,.K5 live g⟩
 | Ej hg u w q h C t m A=>
  intro f;simp only[qv,oV,Bool.and_eq_true]at f;obtain⟨d,Hn,h1,g⟩:=m (Xo f.1 u);obtain⟨n,N⟩:=cS.1 (C d Hn h1);obtain⟨o,y,z⟩:=A d Hn n h1 N f.2;exact⟨o,y,.Ej hg u w q g (λd' J e=>by cases e;exact C _ _ h1) λd' J p e O=>by grind⟩
 | Ei hg u w q h t m A=>
  intro f;simp only[qv,oV,Bool.and_eq_true]at f;obtain⟨d,Hn,h1,g⟩:=m (Xo f.1 u);obtain⟨o,y,z⟩:=A d Hn h1 f.2;exact⟨o,y,.Ei hg u w q g λd' J e=>by cases e;exact z⟩
 | @Kg e r s v args rf env0 Rd Ra Rb R hg u=>
  intro f;simp only[qv,oV,Bool.and_eq_true]at f;exfalso;have h1:=f.1;revert u h1;cases e.op<;>intro u h1<;>first|(cases u;done)|(cases h1;done)
 | next hg E=>
  intro f;simp only[qv,oV,Bool.and_eq_true]at f;have h1:=f.1;rw[E]at h1;cases h1
 | G2 h=>exactλ_=>⟨_,_,h,.G2 rfl⟩
 | G4 hg h t k m=>
  intro f;simp only[qv,oV,Bool.and_eq_true]at f;obtain⟨rs,n,h1,g⟩:=m f.2;exact⟨_,n,k rs n h1,.G4 hg h g λB p e=>by cases e;rfl⟩
 | G3 hg t k m=>
  intro f;simp only[qv,oV,Bool.and_eq_true]at f;obtain⟨rs,n,h1,g⟩:=m f.2;exact⟨_,n,k rs n h1,.G3 hg g λB p e=>by cases e;rfl⟩
 | GZ hg u w q h h0 F t k m A=>
  intro f;simp only[qv,oV,Bool.and_eq_true]at f;obtain⟨rs,n,h1,g⟩:=A f.2;exact⟨_,n,k rs n h1,.GZ hg u w q h h0 F g λB p e=>by cases e;rfl⟩
 | G0 hg E C w q h h0 F t k m A=>
  intro f;simp only[qv,oV,Bool.and_eq_true]at f;obtain⟨rs,n,h1,g⟩:=A f.2;exact⟨_,n,k rs n h1,.G0 hg E C w q h h0 F g λB p e=>by cases e;rfl⟩
 | G1 hg E C w q H K L M h h0 F t k m A=>
  intro f;simp only[qv,oV,Bool.and_eq_true]at f;obtain⟨rs,n,h1,g⟩:=A f.2;exact⟨_,n,k rs n h1,.G1 hg E C w q H K L M h h0 F g λB p e=>by cases e;rfl⟩
 | lF t q m=>
  intro f;obtain⟨rs,n,h1,g⟩:=m f;exact⟨_,(q rs n h1).2,.lF g λB p e=>by cases e;exact⟨(q rs n h1).1,rfl⟩⟩
 | mj t q k m D=>
  intro f;simp only[qv,qu,Bool.and_eq_true]at f;obtain⟨rs,n,h1,g⟩:=m f.1;obtain⟨o,y,z⟩:=D rs n h1 f.2;exact⟨o,y,.mj g (λB p e=>by cases e;exact q _ _ h1) λB p e=>by cases e;exact z⟩
 | skip h=>exactλ_=>⟨_,h,.skip rfl⟩
 | Eu h m=>intro f;obtain⟨o,h1,g⟩:=m f;exact⟨o,h1,.Eu g⟩
 | seq h k hs m D=>
  intro f;simp only[qv,qu,Bool.and_eq_true]at f;obtain⟨o,h1,g⟩:=m f.1
  cases o with
  | norm n=>
   obtain⟨o,y,z⟩:=D n h1 f.2;exact⟨o,y,.seq g (λp e=>by cases e;exact z) λo e hs=>by cases e;cases hs⟩
  | exit id n=>exact⟨_,hs _ h1 rfl,.seq g (λp e=>by cases e) λo e hs=>by cases e;rfl⟩
  | ret n=>exact⟨_,hs _ h1 rfl,.seq g (λp e=>by cases e) λo e hs=>by cases e;rfl⟩
 | @cond c a b s x R u h m=>
  intro f;simp only[qv,qu,Bool.and_eq_true]at f;obtain⟨o,h1,g⟩:=m (by cases x;exact f.2;exact f.1);exact⟨o,h1,.cond u g⟩
 | block h k m=>
  intro f;obtain⟨o,h1,g⟩:=m f;exact⟨_,k o h1,.block g λo e=>by cases e;rfl⟩
 | loop h m=>intro f;obtain⟨o,h1,g⟩:=m f;exact⟨o,h1,.loop g⟩
 | y5 h k hs m D=>
  intro f;obtain⟨o,h1,g⟩:=m f
  cases o with
  | norm n=>
   obtain⟨o,y,z⟩:=D n h1 f;exact⟨o,y,.y5 g (λp e=>by cases e;exact z) λo e hs=>by cases e;cases hs⟩
  | exit id n=>exact⟨_,hs _ h1 rfl,.y5 g (λp e=>by cases e) λo e hs=>by cases e;rfl⟩
  | ret n=>exact⟨_,hs _ h1 rfl,.y5 g (λp e=>by cases e) λo e hs=>by cases e;rfl⟩
 | nv=>intro f;cases f
 | exit h=>exactλ_=>⟨_,h,.exit rfl⟩
 | ret h=>exactλ_=>⟨_,h,.ret rfl⟩
 | call own w hl h k m=>
  intro f;obtain⟨o,h1,g⟩:=m (hS _ _ f w);obtain⟨d,H',y,z⟩:=k o h1;exact⟨d,H',z,.call own w hl g λo' e=>by cases e;exact⟨d,H',y,rfl⟩⟩
end
end Go.AL
namespace Go.AL
open Go
def Kl(S:List Nat):Nat->List (Option iP)->Bool
 | _,[]=>true
 | k,a::l=>(bif elem k S then(match a with|some fn=>qu S fn.body|none=>true)else true)&&Kl S (k+1) l
theorem SZ{S:List Nat}{fn:iP}:∀ {l:List (Option iP)} {k i:Nat},Kl S k l=true->nth l i=some fn->elem (k+i) S=true->qu S fn.body=true
 | [],_,_,_,h,_=>by cases h
 | a::l,k,0,h,h2,h3=>by simp only[Kl,Bool.and_eq_true]at h;cases h2;rw[cd]at h3;simpa only[h3,cond_true]using h.1
 | a::l,k,i+1,h,h2,h3=>by simp only[Kl,Bool.and_eq_true]at h;exact SZ (l:=l) (k:=k+1) (i:=i) h.2 h2 (by rw[aW,da 1 i];exact h3)
theorem Wf.one{T:ia}{S:List Nat}(hS:∀f fn,elem f S=true->T.fn f=some fn->qu S fn.body=true)(hN:∀f,elem f S=true->T.sort f=none/\T.su f=false/\T.sE f=false){f:FuncId}{args:List D}{H:U}{K:D->U->Prop}(h:Wf T f args H K)(a:elem f S=true) :
  ∃d H',K d H'/\Wf T f args H λd2 H2=>d2=d/\H2=H':=by
 obtain⟨d,H',⟨d2,H2,e,h1⟩,b⟩:=ajP hS hN h a;cases e;exact⟨d,H',h1,Ev.mono b λr e=>⟨_,_,e,rfl,rfl⟩⟩
end Go.AL
namespace Go.Proofs.YtmehofoficaelaaGreatDoor
open Go Go.AL
def Df:List Nat:=[13,17,18,21,22,25,27,29,31,32,34,36,38,39,40,41,43,44,50,51,60,68,69,71,72,73,74,76,77,78,79,80,82,83,84,85,86,87,88,90,91,92,98,99,100,101,127,128,129,130,131,132,133,134,136,137,138,139,140,141,142,143,144,159,160,161,162,200,201,202,203,204,205,206,207,208,209,210,211,225,226,227,228,252,253,254,255,256,257,258,278,283,284,285,294,295,296,297,298,299,321]
theorem akd:∀f fn,elem f Df=true->T.fn f=some fn->qu Df fn.body=true:=λf fn h a=>
 SZ (S:=Df) (l:=fns) (k:=0) (i:=f) (by kernel_rfl) a (by rw[aM];exact h)
theorem ake:∀f,elem f Df=true->T.sort f=none/\T.su f=false/\T.sE f=false:=λf h=>by
 by_cases h1:f=151
 .subst h1;exact absurd h (by decide)
 by_cases d:f=261
 .subst d;exact absurd h (by decide)
 by_cases c:f=67
 .subst c;exact absurd h (by decide)
 by_cases b:f=66
 .subst b;exact absurd h (by decide)
 refine⟨?_,?_,?_⟩
 .show(if f=151 then some 5 else if f=261 then some 6 else none)=none;rw[if_neg h1,if_neg d]
 .show Nat.beq f 67=false
  cases a:Nat.beq f 67 with
  | false=>rfl
  | true=>exact absurd (bZ a) c
 .show Nat.beq f 66=false
  cases a:Nat.beq f 66 with
  | false=>rfl
  | true=>exact absurd (bZ a) b
section
variable{f:FuncId}{args:List D}{dst:Option Nat}{s:St}{fn:iP}{R:List Fp}{Q:Rc->St->Prop}
theorem iF.q{α:Type}{g:α->D}{P:α->Prop}(e:T.fn f=some fn)(c:fn.full=false)(h1:elem f Df=true)(h:Wf T f args [] (Ex g P))(i:gh args=true)(a:∀r,closed (g r)=true)
  (k:∀r,P r->Q ⟨R,[]⟩ { s with env:=put s.env dst (g r) }):iF T f args R dst s Q .mk:=by
 obtain⟨d,H',⟨r,rfl,rfl,b⟩,j⟩:=Wf.one akd ake h h1;exact iF.c e c j i (a r) (k r b)
end
theorem Yv{f:FuncId}{args:List D}{R:List Fp}{dst:Option Nat}{s:St}{Q:Rc->St->Prop}{fn:iP}{α:Type}{g:α->D}{P:α->Prop}(h:Wf T f args [] (Ex g P))(k:∀r,P r->Q ⟨R,[]⟩ { s with env:=put s.env dst (g r) })
  (c:T.fn f=some fn:=by exact rfl) (b:fn.full=false:=by exact rfl) (h1:elem f Df=true:=by exact rfl) (d:gh args=true:=by simp) (a:∀r,closed (g r)=true:=by intro;simp):iF T f args R dst s Q .mk:=iF.q c b h1 h d a k
end Go.Proofs.YtmehofoficaelaaGreatDoor
namespace Go.AL
open Go
abbrev Kn:=Int×Int×Bool
@[irreducible] def fK(x:Kn):List D:=[.i x.1,.i x.2.1,.b x.2.2]
@[simp] theorem Cc(x:Kn):fK x = [.i x.1,.i x.2.1,.b x.2.2]:=by unfold fK;rfl
instance:Fl fK 3:=⟨λ_=>by simp,λ_=>by simp[gh]⟩
@[simp] theorem apy(l:List Kn)(a b:Int)(c:Bool):cl fK l ++ [.i a,.i b,.b c]=cl fK (l ++ [(a,b,c)]):=by rw[<-ph,Cc]
@[simp] theorem Z5(l:List Bool)(c:Bool):cl fB l ++ [.b c]=cl fB (l ++ [c]):=by rw[<-ph,EI]
theorem Kq{α:Type}[Inhabited α]{f:α->List D}{sz:Nat}[F:Fl f sz]{l:List α}{n:Int}{j:Nat}(b:j<sz){P:D->Prop}:oA (cl f l)[n.toNat*sz+j]? P .mk=(n.toNat<l.length/\oA (f (gt l n))[j]? P .mk):=by
 rw[Tb (f:=f) l n.toNat j b]
 by_cases a:n.toNat<l.length
 .rw[List.getElem?_eq_getElem a];have e:gt l n=l[n.toNat]:=by unfold gt;rw[List.getD_eq_getElem?_getD,List.getElem?_eq_getElem a];rfl
  simp[a,e]
 .rw[b6 (by omega)];simp[a]
@[simp] theorem atj{l:List Kn}{n:Int}{P:D->Prop}:oA (cl fK l)[n.toNat*3+2]? P .mk=(n.toNat<l.length/\P (.b (gt l n).2.2)):=by have:=Kq (f:=fK) (l:=l) (n:=n) (j:=2) (by decide) (P:=P);simpa using this
@[simp] theorem ati{l:List Bool}{n:Int}{P:D->Prop}:oA (cl fB l)[n.toNat]? P .mk=(n.toNat<l.length/\P (.b (gt l n))):=by have:=Kq (f:=fB) (l:=l) (n:=n) (j:=0) (by decide) (P:=P);simpa using this
theorem S7{l:List Kn}{n:Int}(h:n.toNat<l.length):(cl fK l).drop (n.toNat*3)=fK (gt l n)++cl fK (l.drop (n.toNat+1)):=by rw[uf,bL h,mi];congr 1;unfold gt;rw[List.getD_eq_getElem?_getD,List.getElem?_eq_getElem h];rfl
theorem Z7{l:List Kn}{n:Int}(h:n.toNat<l.length)(a b:Int):(cl fK l).take (n.toNat*3) ++ .i a :: .i b::(cl fK l).drop (n.toNat*3+2)=cl fK (pt l n (a,b,(gt l n).2.2)):=by
 have e:(cl fK l).drop (n.toNat*3+2) = .b (gt l n).2.2::cl fK (l.drop (n.toNat+1)):=by rw[<-bT,S7 h,Cc];rfl
 rw[e,wK];unfold pt;rw[<-yg,mi,Cc];rfl
@[simp] theorem asc{l:List Kn}{t:TypeId}{n:Int}:tL 2 (n.toNat*3) (some (t,cl fK l))=if n.toNat<l.length then some (.agg [.i (gt l n).1,.i (gt l n).2.1])else none:=by
 unfold tL;dsimp only
 by_cases h:n.toNat<l.length
 .rw[if_pos h,if_pos (by rw[rO];omega),S7 h,Cc];rfl
 .rw[if_neg h,if_neg (by rw[rO];omega)]
theorem Kr{α:Type}{f:α->List D}{sz:Nat}[F:Fl f sz](l:List α)(n:Int)(h1:n.toNat<l.length)(a:α):(cl f l).take (n.toNat*sz)++(f a++(cl f l).drop (n.toNat*sz+sz))=cl f (pt l n a):=by have:=aae (f:=f) l n.toNat a h1;rw[aI]at this;exact this
theorem Gx{α:Type}{f:α->List D}(a:α):∀n:Nat,(List.replicate n (f a)).flatten=cl f (List.replicate n a)
 | 0=>by simp
 | n+1=>by rw[bt,aQ,Gx a n,bt,mi]
@[simp] theorem akg(b:Bool)(n:Nat):(List.replicate n [D.b b]).flatten=cl fB (List.replicate n b):=by rw[<-Gx,EI]
@[simp] theorem akh(b:Int)(n:Nat):(List.replicate n [D.i b]).flatten=cl f1 (List.replicate n b):=by rw[<-Gx,Ca]
@[simp] theorem auY(a b:Int)(n:Nat):(List.replicate n [D.i a,D.i b]).flatten=cl fS (List.replicate n (a,b)):=by rw[<-Gx,Cd]
@[simp] theorem auW(b:Bool)(n:Nat):List.replicate n (D.b b)=cl fB (List.replicate n b):=by rw[<-akg];simp
@[simp] theorem auX(b:Int)(n:Nat):List.replicate n (D.i b)=cl f1 (List.replicate n b):=by rw[<-akh];simp
def tA(l:List Bool):Nat:=l.countP λb => !b
theorem Xy{α:Type}[Inhabited α]{l:List α}{n:Int}{a b:α}(h0:0<=n)(h:n<l.length):pt (pt l n a) n b=pt l n b:=by rw[Gl (l:=pt l n a) h0 (by rw[iq h0 h];exact h),Gl h0 h,Gl h0 h,List.set_set]
theorem acu{l:List Bool}{n:Int}(h0:0<=n)(h:n<l.length)(a:gt l n=false)(b:Bool):tA (pt l n b)+(if b then 1 else 0)=tA l:=by
 have e:l=l.take n.toNat++gt l n::l.drop (n.toNat+1):=by rw[<-nb h0 h,bO]
 unfold pt
 conv=>rhs;rw[e]
 unfold tA;rw[cL,cL,cH,cH,a];cases b<;>simp<;>omega
end Go.AL
namespace Go.Proofs.YtmehofoficaelaaGreatDoor
open Go Go.AL Classical
set_option maxRecDepth 10000
set_option maxHeartbeats 1000000
structure oR(g:fH)(l:List Pos):Prop where
 zm:kr l
 ok:∀q∈l,gT g q
 cl:∀q∈l,∀m,qd g q m->m∈l
 len:l.length<=4000
theorem Hh.c2{g:fH}{l:List Pos}(h:Hh g l):oR g l:=⟨h.zm,h.ok,h.cl,by have:=h.len;omega⟩
noncomputable def gd(g:fH)(l:List Pos):List (List Int):=l.map λp=>(iz g p).map (oW l)
theorem f37(g:fH)(hg:gF g)(l:List Pos)(hl:oR g l):Wf T 39 [dG g,gJ l] [] (Is (.tup [.sl 1 ((gd g l).map fI),.b true])):=by
 have k:=hl.len;have b:∀q∈l,Small q:=λq c=>(hl.ok q c).small hg;refine Yz DT (iB 59 [2] DT.body) ?_;simp[DT,iB,jN,mw,mz,mH,lq];(with_reducible repeat' first|refine Xk ?_<;>try simp|refine Xs ?_ ?_<;>intro h<;>(try intro o)<;>(try simp[h])<;>try omega|refine Xg ?_|omega);refine Yc (f64 l (by omega) b) ?_;simp;have hs:=hl.zm;refine fD ?_;refine fO.e ((0,0,[]):Int×Nat×List (List Int)) (λy=>[(1,gJ l),(2,.ptr 0 0 0),(6,.fy 1 y.2.1 1 0 y.2.2.length),(7,.i y.1)]) (λy=>[.row 43 0 g.cells,.row 37 y.2.1 (cl fI y.2.2)]) (λy=>0<=y.1/\y.1<=l.length/\y.2.2=(l.take y.1.toNat).map λp=>(iz g p).map (oW l)) (λy=>l.length-y.1.toNat) ?_ ?_
 .simp
 rintro⟨i,e,out⟩ ⟨i0,n,a⟩;dsimp only at i0 n a ⊢;simp;have u:out.length<=4000:=by rw[a];simp;omega
 refine jF ?_ ?_<;>intro h
 .have d:=hl.ok _ (fZ i0 ‹_›);refine Yt (f65 g _ hg d) ?_;simp;refine fD ?_;refine Yt (f60 g hg _ d) ?_;simp;have t:=y8 hg d;have m:∀q∈iz g (gt l i),q∈l:=λq c=>hl.cl _ (fZ i0 ‹_›) q (A3.1 c);refine fO.e ((0,0,[]):Int×Nat×List Int) (λy=>[(1,gJ l),(2,.ptr 0 0 0),(6,.fy 1 e 1 0 out.length),(7,.i i),(8,s8 g (gt l i)),(9,.fy 2 y.2.1 1 0 y.2.2.length),(10,.i y.1)]) (λy=>[.row 43 0 g.cells,.row 37 e (cl fI out),.row 3 y.2.1 (cl f1 y.2.2)]) (λy=>0<=y.1/\y.1<=(iz g (gt l i)).length/\y.2.2=((iz g (gt l i)).take y.1.toNat).map (oW l)) (λy=>(iz g (gt l i)).length-y.1.toNat) ?_ ?_
  .simp
  rintro⟨j,gm,row⟩ ⟨j0,j1,j2⟩;dsimp only at j0 j1 j2 ⊢;have s:row.length<=j.toNat:=by rw[j2];simp;omega
  simp;refine jF ?_ ?_<;>intro h
  .have f:=m _ (fZ j0 ‹_›);refine Yc (f27 l _ (by omega) b (b _ f) hs) ?_;simp;have r:=EM f;(with_reducible repeat' first|refine Xk ?_<;>try simp|refine Xs ?_ ?_<;>intro h<;>(try intro o)<;>(try simp[h])<;>try omega|refine Xg ?_|omega);refine LJ.e (j+1,gm+1,row ++ [oW l (gt (iz g (gt l i)) j)]) ?_;dsimp only;refine gx ?_;rw[iO j0 ‹_›,List.map_append,j2];rfl
  .refine fD ?_;refine LJ.e (i+1,e+1,out ++ [row]) ?_;dsimp only;refine gx ?_;rw[iO i0 ‹_›,List.map_append,a];rw[kG (by omega)]at j2;rw[j2];rfl
 .rw[a,kG (by omega)];rfl
noncomputable def rS(g:fH)(p:Pos):Kn:=((stat g p).1,0,(stat g p).2)
theorem aco(g:fH)(hg:gF g)(l:List Pos)(hl:oR g l):Wf T 128 [dG g,gJ l] [] (λd H=>d = .fy 0 l.length 3 0 l.length/\H = [.row 245 l.length (cl fK (l.map (rS g)))]):=by
 have b:=hl.len;refine Wf.xo 1 (fn:=DX) rfl (by simp[DX]) ?_;simp[DX];refine fO.e ((0,[]):Int×List Kn) (λy=>[(1,gJ l),(2,.ptr 0 0 0),(5,.fy 1 y.2.length 3 0 y.2.length),(6,.i y.1)]) (λy=>[.row 43 0 g.cells,.row 245 y.2.length (cl fK y.2)]) (λy=>0<=y.1/\y.1<=l.length/\y.2=(l.take y.1.toNat).map (rS g)) (λy=>l.length-y.1.toNat) ?_ ?_
 .simp
 rintro⟨i,out⟩ ⟨i0,c,a⟩;dsimp only at i0 c a ⊢;have j:out.length=i.toNat:=by rw[a];simp;omega
 simp;refine jF ?_ ?_<;>intro h
 .refine Yt (f112 g hg _ (hl.ok _ (fZ i0 ‹_›))) ?_;simp;refine fD ?_;refine LJ.i (i+1,out ++ [rS g (gt l i)]) (by first|rfl|simp[rS]) (by first|rfl|simp[rS]) rfl rfl ?_;dsimp only;refine gx ?_;rw[iO i0 ‹_›,List.map_append,a];rfl
 .have e:out=l.map (rS g):=by rw[a,kG (by omega)]
  have f:out.length=l.length:=by rw[e];simp
  rw[<-e]
theorem qw{g:fH}{l:List Pos}(hl:oR g l){i:Int}(h0:0<=i)(h1:i<l.length):gt (gd g l) i=(iz g (gt l i)).map (oW l)/\∀k∈gt (gd g l) i,0<=k/\k<l.length:=by
 have e:gt (gd g l) i=(iz g (gt l i)).map (oW l):=by unfold gd gt;simp only[List.getD_eq_getElem?_getD,ar];rw[List.getElem?_eq_getElem (by omega)];rfl
 refine⟨e,λk a=>?_⟩;rw[e]at a;obtain⟨q,b,rfl⟩:=aq.1 a;have:=EM (hl.cl _ (fZ h0 h1) q (A3.1 b));exact⟨this.1,this.2.1⟩
theorem f69(o s:Int)(hs:0<=s/\s<=1):Wf T 131 [.i o,.i s] [] (Is (.i (if o=1 then s else if o=3 then 1-s else -1))):=by
 refine Yg JM ?_;simp[JM];exact mE
 all_goals simp[*]
theorem f68(g:fH)(hg:gF g)(l:List Pos)(hl:oR g l)(side:Int)(E:0<=side/\side<=1):Wf T 130 [dG g,gJ l,.sl 1 ((gd g l).map fI),.i side] [] (Ey (λr:List Bool=>.sl 1 (r.map fB)) λr=>r.length=l.length):=by
 have s:=hl.len;have D:(gd g l).length=l.length:=by simp[gd]
 have t:=λ(i:Int) (a:0<=i) (b:i<l.length)=>qw hl a b
 have u:∀i:Int,0<=i->i<l.length->(gt (gd g l) i).length<=4000000000:=λi a b=>by rw[(t i a b).1,List.length_map];exact y8 hg (hl.ok _ (fZ a b))
 refine Yg JL ?_;simp[JL];refine fD ?_;refine fO.e ((List.replicate l.length false,true):List Bool×Bool) (λy=>[(1,gJ l),(2,.sl 1 ((gd g l).map fI)),(3,.i side),(4,.ptr 0 0 0),(9,.fy 1 0 1 0 l.length),(10,.b y.2)]) (λy=>[.row 43 0 g.cells,.row 4 0 (cl fB y.1)]) (λy=>y.1.length=l.length) (λy=>2*tA y.1+(if y.2 then 1 else 0)) ?_ ?_
 .simp
 rintro⟨f,ch⟩ h0;dsimp only at h0 ⊢;cases ch
 .simp[h0];exact Ey.i f rfl rfl h0
 simp;refine fO.e ((0,f,false):Int×List Bool×Bool) (λy=>[(1,gJ l),(2,.sl 1 ((gd g l).map fI)),(3,.i side),(4,.ptr 0 0 0),(9,.fy 1 0 1 0 l.length),(10,.b y.2.2),(11,.i y.1)]) (λy=>[.row 43 0 g.cells,.row 4 0 (cl fB y.2.1)]) (λy=>0<=y.1/\y.1<=l.length/\y.2.1.length=l.length/\tA y.2.1<=tA f/\(y.2.2=true->tA y.2.1<tA f)) (λy=>l.length-y.1.toNat) ?_ ?_
 .grind
 rintro⟨i,w,ch⟩ ⟨i0,A,m,q,p⟩;dsimp only at i0 A m q p ⊢
 by_cases hi:i<l.length
 .have o:=hl.ok _ (fZ i0 hi);simp[hi];refine jF ?_ ?_<;>intro h
  .refine LJ.e (i+1,w,ch) ?_;dsimp only;exact gx ⟨m,q,p⟩
  .refine Yt (f112 g hg _ o) ?_;simp;have z:=h;refine fO.e ((0,false,true):Int×Bool×Bool) (λy=>[(1,gJ l),(2,.sl 1 ((gd g l).map fI)),(3,.i side),(4,.ptr 0 0 0),(9,.fy 1 0 1 0 l.length),(10,.b ch),(11,.i i),(12,.ptr 2 0 0),(13,.b y.2.1),(14,.b y.2.2),(15,.i y.1)]) (λy=>[.row 43 0 g.cells,.row 4 0 (cl fB w),.row 193 0 [.i (stat g (gt l i)).1,.b (stat g (gt l i)).2]]) (λy=>0<=y.1/\y.1<=(gt (gd g l) i).length) (λy=>(gt (gd g l) i).length-y.1.toNat) ?_ ?_
   .simp
   rintro⟨k,j,al⟩ ⟨k0,k1⟩;dsimp only at k0 k1 ⊢
   by_cases n:k<(gt (gd g l) i).length
   .have F:=(t i i0 hi).2 _ (fZ k0 n);have G:=u i i0 hi;generalize C:gt (gt (gd g l) i) k=x at *;cases j<;>cases al<;>simp[hi,n,C]<;>refine fD ?_
    .refine LJ.e (k+1,gt w x,false) ?_;dsimp only;omega
    .refine LJ.e (k+1,gt w x,gt w x) ?_;dsimp only;omega
    .refine LJ.e (k+1,true,false) ?_;dsimp only;omega
    .refine LJ.e (k+1,true,gt w x) ?_;dsimp only;omega
   .have d:∀v,(pt w i v).length=w.length:=λv=>iq i0 (by omega);have e:∀v,gt (pt w i v) i=v:=λv=>Cg i0 (by omega)
    have c:∀b:Bool,0<=i+1/\i+1<=l.length/\(pt w i b).length=l.length/\tA (pt w i b)<=tA f/\((ch||b)=true->tA (pt w i b)<tA f):=λb=>by
     have h1:=acu i0 (by omega) z b;refine⟨by omega,by omega,by rw[d];exact m,by omega,λH=>?_⟩;cases b
     .grind
     .grind
    cases ch
    .simp[hi,n];have c:∀b:Bool,_:=c;(with_reducible repeat' first|refine Xk ?_<;>try simp[d,e]|refine Xs ?_ ?_<;>intro h<;>(try intro B)<;>(try simp[h,d,e])<;>try omega|refine Xg ?_|omega)
     .refine Yt (f69 (stat g (gt l i)).1 _ o.side) ?_;simp[d,e];refine ku d e ?_;refine LJ.e (i+1,pt w i (!decide ((if (stat g (gt l i)).1=1 then(gt l i).side else if (stat g (gt l i)).1=3 then 1-(gt l i).side else -1)=1-side)),false || !decide ((if (stat g (gt l i)).1=1 then(gt l i).side else if (stat g (gt l i)).1=3 then 1-(gt l i).side else -1)=1-side)) ?_;exact pb (c _)
     .refine LJ.e (i+1,pt w i j,false||j) ?_;exact pb (c _)
     .refine LJ.e (i+1,pt w i al,false||al) ?_;exact pb (c _)
    .simp[hi,n];have c:∀b:Bool,_:=c;(with_reducible repeat' first|refine Xk ?_<;>try simp[d,e]|refine Xs ?_ ?_<;>intro h<;>(try intro B)<;>(try simp[h,d,e])<;>try omega|refine Xg ?_|omega)
     .refine Yt (f69 (stat g (gt l i)).1 _ o.side) ?_;simp[d,e];refine ku d e ?_;refine LJ.e (i+1,pt w i (!decide ((if (stat g (gt l i)).1=1 then(gt l i).side else if (stat g (gt l i)).1=3 then 1-(gt l i).side else -1)=1-side)),true || !decide ((if (stat g (gt l i)).1=1 then(gt l i).side else if (stat g (gt l i)).1=3 then 1-(gt l i).side else -1)=1-side)) ?_;exact pb (c _)
     .refine LJ.e (i+1,pt w i j,true||j) ?_;exact pb (c _)
     .refine LJ.e (i+1,pt w i al,true||al) ?_;exact pb (c _)
 .simp[hi];refine LJ.e (w,ch) ?_;dsimp only;refine⟨?_,m⟩;cases ch
  .simp;omega
  .grind
theorem f39(g:fH)(hg:gF g)(l:List Pos)(hl:oR g l)(v:List fE)(p:v.length=l.length):Wf T 72 [dG g,gJ l,.sl 1 ((gd g l).map fI),gY v] [] (Ey dI λ_=>True):=by
 have f:=hl.len;refine Yg JA ?_;simp[JA];refine fO.e ((0,[]):Int×List Int) (λy=>[(1,gJ l),(2,.sl 1 ((gd g l).map fI)),(3,gY v),(4,.ptr 0 0 0),(9,.fy 1 y.2.length 1 0 y.2.length),(10,.i y.1)]) (λy=>[.row 43 0 g.cells,.row 3 y.2.length (cl f1 y.2)]) (λy=>0<=y.1/\y.1<=v.length/\y.2.length=y.1.toNat) (λy=>v.length-y.1.toNat) ?_ ?_
 .simp
 rintro⟨i,w⟩ ⟨i0,n,m⟩;dsimp only at i0 n m ⊢;simp;(with_reducible repeat' first|refine Xk ?_<;>try simp|refine Xs ?_ ?_<;>intro h<;>(try intro k)<;>(try simp[h])<;>try omega|refine Xg ?_|omega)
 .refine LJ.e (i+1,w ++ [(gt v i).1]) ?_;exact gx (by simp;omega)
 .exact Ey.i w rfl rfl trivial
 .have c:=f68 g hg l hl 0 (by omega);simp only[dG,fH.cells]at c;rw[h]at c;refine fY.q rfl rfl c (by simp) (λr=>by simp[yh]) ?_;intro r o;simp;refine fO.e ((0,w):Int×List Int) (λy=>[(1,gJ l),(3,gY v),(9,.fy 1 w.length 1 0 w.length),(11,.i 1),(12,.sl 1 (r.map fB)),(13,.i y.1)]) (λy=>[.row 43 0 g.cells,.row 3 w.length (cl f1 y.2)]) (λy=>0<=y.1/\y.1<=l.length/\y.2.length=w.length) (λy=>l.length-y.1.toNat) ?_ ?_
  .simp
  rintro⟨j,u⟩ ⟨j0,j1,j2⟩;dsimp only at j0 j1 j2 ⊢
  by_cases d:j<l.length
  .have a:∀x:Int,(pt u j x).length=u.length:=λx=>iq j0 (by omega);have b:∀x y:Int,pt (pt u j x) j y=pt u j y:=λx y=>Xy j0 (by omega);have e:=hl.ok _ (fZ j0 d);simp[d];refine fD ?_;refine Yt (f69 (gt v j).1 _ e.side) ?_;simp[a,b];(with_reducible repeat' first|refine Xk ?_<;>try simp[a,b]|refine Xs ?_ ?_<;>intro h<;>(try intro k)<;>(try simp[h,a,b])<;>try omega|refine Xg ?_|omega)
   all_goals first
    | (refine LJ.i (j+1,u) rfl rfl rfl rfl (gx (by first|exact j2|(dsimp only;rw[a];exact j2)));done)
    | (refine LJ.i (j+1,pt u j 2) rfl rfl rfl rfl (gx (by first|exact j2|(dsimp only;rw[a];exact j2)));done)
    | (refine LJ.i (j+1,pt u j 1) rfl rfl rfl rfl (gx (by first|exact j2|(dsimp only;rw[a];exact j2)));done)
    | (refine LJ.i (j+1,pt u j 3) rfl rfl rfl rfl (gx (by first|exact j2|(dsimp only;rw[a];exact j2)));done)
  .simp[d];exact Ey.i u (by simp[j2]) rfl trivial
 .have c:=f68 g hg l hl 1 (by omega);simp only[dG,fH.cells]at c;refine fY.q rfl rfl c (by simp) (λr=>by simp[yh]) ?_;intro r o;simp;refine fO.e ((0,w):Int×List Int) (λy=>[(1,gJ l),(3,gY v),(9,.fy 1 w.length 1 0 w.length),(11,.i 0),(12,.sl 1 (r.map fB)),(13,.i y.1)]) (λy=>[.row 43 0 g.cells,.row 3 w.length (cl f1 y.2)]) (λy=>0<=y.1/\y.1<=l.length/\y.2.length=w.length) (λy=>l.length-y.1.toNat) ?_ ?_
  .simp
  rintro⟨j,u⟩ ⟨j0,j1,j2⟩;dsimp only at j0 j1 j2 ⊢
  by_cases d:j<l.length
  .have a:∀x:Int,(pt u j x).length=u.length:=λx=>iq j0 (by omega);have b:∀x y:Int,pt (pt u j x) j y=pt u j y:=λx y=>Xy j0 (by omega);have e:=hl.ok _ (fZ j0 d);simp[d];refine fD ?_;refine Yt (f69 (gt v j).1 _ e.side) ?_;simp[a,b];(with_reducible repeat' first|refine Xk ?_<;>try simp[a,b]|refine Xs ?_ ?_<;>intro h<;>(try intro k)<;>(try simp[h,a,b])<;>try omega|refine Xg ?_|omega)
   all_goals first
    | (refine LJ.i (j+1,u) rfl rfl rfl rfl (gx (by first|exact j2|(dsimp only;rw[a];exact j2)));done)
    | (refine LJ.i (j+1,pt u j 2) rfl rfl rfl rfl (gx (by first|exact j2|(dsimp only;rw[a];exact j2)));done)
    | (refine LJ.i (j+1,pt u j 1) rfl rfl rfl rfl (gx (by first|exact j2|(dsimp only;rw[a];exact j2)));done)
    | (refine LJ.i (j+1,pt u j 3) rfl rfl rfl rfl (gx (by first|exact j2|(dsimp only;rw[a];exact j2)));done)
  .simp[d];exact Ey.i u (by simp[j2]) rfl trivial
end Go.Proofs.YtmehofoficaelaaGreatDoor
namespace Go.AL
open Go
section
variable{P:D->Prop}{a b:Int}{k:IntKind}{t:Tag P}
@[simp low] theorem atI:oA (jx .rem k a b) P t=(b≠0/\P (.val (.int k (fX a b)))):=by
 cases t;simp only[jx]
 by_cases h:b=0<;>simp[h,fX]
def jE(k:IntKind)(a b:Int):Int:=k.wrap (a.tdiv b)
@[simp low] theorem atG:oA (jx .quo k a b) P t=(b≠0/\P (.val (.int k (jE k a b)))):=by
 cases t;simp only[jx]
 by_cases h:b=0<;>simp[h,jE]
end
@[simp] theorem aqP{ρ:Nat->Option Nat}{H:U}{k:Nat}{t:TypeId}{a b:Int}:ml ρ H (k+1) 1 0 2 (some (t,[.i a,.i b]))=dI [a,b]:=by have h:=uq (f:=f1) (ρ:=ρ) (H:=H) (k:=k) (t:=t) (l:=[a,b]) (n:=2) rfl;rw[mY]at h;simp only[List.map_cons,List.map_nil,Ca,aQ,dS,ax,cy,bG]at h;rw[h];unfold dI;simp only[List.map_cons,List.map_nil,Ca]
end Go.AL
namespace Go.AL
open Go
@[irreducible] def fU(n:Int):List D:=[.val (.int .u8 n)]
@[simp] theorem yq(n:Int):fU n = [.val (.int .u8 n)]:=by unfold fU;rfl
instance:Fl fU 1:=⟨λ_=>by simp,λ_=>by simp[gh]⟩
def dU(l:List Int):D:=.sl 1 (l.map fU)
theorem wM(l:List Int):dU l = .sl 1 (l.map fU):=rfl
@[simp] theorem ap2(l:List Int):closed (dU l)=true:=by unfold dU;exact yh l
@[simp] theorem asy(l:List Int)(H:U):mM .slice (dU l) H=some (.i l.length):=by simp[dU]
@[simp] theorem atz{l:List Int}{n:Int}{k:IntKind}{P:D->Prop}:oA (ma 1 (dU l) (.val (.int k n))) P .mk=((0<=n/\n<l.length)/\P (.fV [.val (.int .u8 (gt l n))])):=by unfold dU;rw[xy,yq]
@[simp] theorem awt(n:Nat)(l:List Int):iT n (dU l) = []:=rfl
@[simp] theorem aph(l:List Int):cellsOf (dU l)=some [dU l]:=rfl
@[simp] theorem auf(l:List Int):one (dU l)=true:=rfl
structure vm(NR kinds gj:Int)(l:List fE):Prop where
 steps:∀x∈l,((x.1=1\/x.1=2\/x.1=7)/\0<=x.2/\x.2<NR)\/(3<=x.1/\x.1<=6/\x.2=0)\/(x.1=8/\0<=x.2/\x.2<kinds)\/((x.1=9\/x.1=10)/\0<=x.2/\x.2<gj)
 len:l.length<=8
 th:nO l 6<=2
 push:nO l 7<=1
 Ka:nO l 8<=1
@[simp] theorem aof(a b:Int):jx .add .u8 a b=some (.val (.int .u8 (IntKind.u8.wrap (a+b)))):=rfl
@[simp] theorem aor(a b:Int):jx .sub .u8 a b=some (.val (.int .u8 (IntKind.u8.wrap (a-b)))):=rfl
theorem YX(n:Int):0<=IntKind.u8.wrap n/\IntKind.u8.wrap n<256:=by simp only[IntKind.wrap,IntKind.bits,IntKind.signed];simp;omega
theorem Gr(a b:Int):0<=jE .u8 a b/\jE .u8 a b<256:=YX _
theorem aaL{ρ:Nat->Option Nat}{H:U}{k n:Nat}{t:TypeId}{cs:List D}(l:List Int)(h:cs=l.map λn=>D.val (.int .u8 n))(c:n=l.length):ml ρ H (k+1) 1 0 n (some (t,cs))=dU l:=by
 subst c
 have e:cs=cl fU l:=by
  rw[h,mY];clear h
  induction l with
  | nil=>rfl
  | cons a r b=>simp[<-b]
 rw[e,uq rfl];rfl
theorem afe{sz:Nat}{es:List (List D)}{k:IntKind}{n:Int}{P:D->Prop}:oA (ma sz (.sl sz es) (.val (.int k n))) P .mk=((0<=n/\n<es.length)/\P (.fV (es.getD n.toNat []))):=by simp only[ma,true_and,A9,y9]
theorem oA.i{α:Type}{x:Option α}{P:α->Prop}{t:Tag P}{a:α}(h1:x=some a)(b:P a):oA x P t:=⟨a,h1,b⟩
end Go.AL
namespace Go.Proofs.YtmehofoficaelaaGreatDoor
open Go Go.AL Classical
set_option maxRecDepth 10000
set_option maxHeartbeats 4000000
theorem f192(l:List Int)(k:Int)(a:0<=k):Wf T 278 [dU l,.i k] [] (Is (.i (if k<l.length then IntKind.i64.wrap (gt l k)else 0))):=by
 refine Yg IY ?_;simp[IY];exact mE
 all_goals simp[*]
def xn(d o b k r:Int):List (List fE):=[[(1,d),(3,0)],[(1,d),(4,0),(6,0)],[(2,d)],[(2,d),(4,0),(6,0)],[(1,d),(4,0),(6,0),(1,d)],[(1,d),(1,o)],[(1,d),(7,d)],[(1,d),(3,0),(8,k)],[(9,r),(1,d),(1,d),(10,r)],[(1,d),(5,0),(1,d),(3,0)],[(10,r),(1,d)],[(1,d),(4,0),(6,0),(1,b)],[(1,d),(4,0),(6,0),(1,o),(4,0),(6,0)],[(2,d),(5,0),(1,d)],[(1,d),(4,0),(6,0),(8,k)],[(1,d),(7,d),(1,o)]]
theorem aeH(d o b k r:Int)(i:0<=d/\d<8)(f:0<=o/\o<8)(j:0<=b/\b<8)(g:0<=k/\k<6)(e:0<=r/\r<4):∀p∈xn d o b k r,vm 8 6 4 p:=by
 have c:∀p:List fE,(∀x∈p,((x.1=1\/x.1=2\/x.1=7)/\0<=x.2/\x.2<8)\/(3<=x.1/\x.1<=6/\x.2=0)\/(x.1=8/\0<=x.2/\x.2<6)\/((x.1=9\/x.1=10)/\0<=x.2/\x.2<4))->p.length<=8/\nO p 6<=2/\nO p 7<=1/\nO p 8<=1->vm 8 6 4 p:=λp a b=>⟨a,b.1,b.2.1,b.2.2.1,b.2.2.2⟩;intro p h;unfold xn at h;simp only[aw,dR,or_false]at h;rcases h with rfl|rfl|rfl|rfl|rfl|rfl|rfl|rfl|rfl|rfl|rfl|rfl|rfl|rfl|rfl|rfl
 all_goals
  refine c _ ?_ ?_
  .simp;omega
  .simp[nO]
theorem aeG(d o b k r m:Int)(h0:0<=m)(h1:m<16):([[D.sl 2 [[D.i 1,D.i d],[D.i 3,D.i 0]]],[D.sl 2 [[D.i 1,D.i d],[D.i 4,D.i 0],[D.i 6,D.i 0]]],[D.sl 2 [[D.i 2,D.i d]]],[D.sl 2 [[D.i 2,D.i d],[D.i 4,D.i 0],[D.i 6,D.i 0]]],[D.sl 2 [[D.i 1,D.i d],[D.i 4,D.i 0],[D.i 6,D.i 0],[D.i 1,D.i d]]],[D.sl 2 [[D.i 1,D.i d],[D.i 1,D.i o]]],[D.sl 2 [[D.i 1,D.i d],[D.i 7,D.i d]]],[D.sl 2 [[D.i 1,D.i d],[D.i 3,D.i 0],[D.i 8,D.i k]]],[D.sl 2 [[D.i 9,D.i r],[D.i 1,D.i d],[D.i 1,D.i d],[D.i 10,D.i r]]],[D.sl 2 [[D.i 1,D.i d],[D.i 5,D.i 0],[D.i 1,D.i d],[D.i 3,D.i 0]]],[D.sl 2 [[D.i 10,D.i r],[D.i 1,D.i d]]],[D.sl 2 [[D.i 1,D.i d],[D.i 4,D.i 0],[D.i 6,D.i 0],[D.i 1,D.i b]]],[D.sl 2 [[D.i 1,D.i d],[D.i 4,D.i 0],[D.i 6,D.i 0],[D.i 1,D.i o],[D.i 4,D.i 0],[D.i 6,D.i 0]]],[D.sl 2 [[D.i 2,D.i d],[D.i 5,D.i 0],[D.i 1,D.i d]]],[D.sl 2 [[D.i 1,D.i d],[D.i 4,D.i 0],[D.i 6,D.i 0],[D.i 8,D.i k]]],[D.sl 2 [[D.i 1,D.i d],[D.i 7,D.i d],[D.i 1,D.i o]]]].getD m.toNat [])[0]? = some (gY (gt (xn d o b k r) m)):=by
 rcases(show m=0\/m=1\/m=2\/m=3\/m=4\/m=5\/m=6\/m=7\/m=8\/m=9\/m=10\/m=11\/m=12\/m=13\/m=14\/m=15 by omega)with rfl|rfl|rfl|rfl|rfl|rfl|rfl|rfl|rfl|rfl|rfl|rfl|rfl|rfl|rfl|rfl
 all_goals simp[xn,gt,gY]
theorem f152(l:List Int)(hl:l.length=5)(h:∀n∈l,0<=n/\n<256):Wf T 228 [dU l] [] (Ey gY (vm 8 6 4)):=by
 have e:∀k:Int,0<=k->k<5->(if k<l.length then IntKind.i64.wrap (gt l k)else 0)=gt l k:=λk a b=>by rw[if_pos (by omega)];have:=h _ (fZ (l:=l) a (by omega));exact mO ic
 have c:∀k:Int,0<=k->k<5->0<=gt l k:=λk a b=>(h _ (fZ (l:=l) a (by omega))).1;refine Yz DM (iB 121 [0,1,2,3,4,5,6,7,8,9,10,11,12,13,14,15,16,17,18,19,20,21,22,23,24,25,26,27,28] DM.body) ?_;simp[DM,iB,jN,mw,mz,mH,lq];refine Yc (f192 l 1 (by omega)) ?_;simp[e 1 (by omega) (by omega)];refine Yc (f192 l 2 (by omega)) ?_;simp[e 2 (by omega) (by omega)];refine Yc (f192 l 3 (by omega)) ?_;simp[e 3 (by omega) (by omega)];refine Yc (f192 l 4 (by omega)) ?_;simp[e 4 (by omega) (by omega),ml,chunks];have q:=jd (a:=gt l 1) (b:=8) (c 1 (by omega) (by omega));have p:=jd (a:=gt l 2) (b:=8) (c 2 (by omega) (by omega));have o:=jd (a:=gt l 3) (b:=6) (c 3 (by omega) (by omega));have j:=jd (a:=gt l 4) (b:=4) (c 4 (by omega) (by omega));have r:=jd (a:=gt l 0) (b:=16) (c 0 (by omega) (by omega));have i:=jd (a:=fX (gt l 1) 8+4) (b:=8) (by omega);have d:IntKind.i64.wrap (gt l 0)=gt l 0:=by grind
 refine fD ?_;refine Yc (f192 l 0 (by omega)) ?_;simp[hl,d,afe,ml,chunks];refine fD ?_;have f:=aeH (fX (gt l 1) 8) (fX (gt l 2) 8) (fX (fX (gt l 1) 8+4) 8) (fX (gt l 3) 6) (fX (gt l 4) 4) (by omega) (by omega) (by omega) (by omega) (by omega);have g:(xn (fX (gt l 1) 8) (fX (gt l 2) 8) (fX (fX (gt l 1) 8+4) 8) (fX (gt l 3) 6) (fX (gt l 4) 4)).length=16:=rfl;have hg:∀m:Int,0<=m->m<16->gt (xn (fX (gt l 1) 8) (fX (gt l 2) 8) (fX (fX (gt l 1) 8+4) 8) (fX (gt l 3) 6) (fX (gt l 4) 4)) m∈xn (fX (gt l 1) 8) (fX (gt l 2) 8) (fX (fX (gt l 1) 8+4) 8) (fX (gt l 3) 6) (fX (gt l 4) 4):=λm a b=>fZ a (by omega);refine oA.i (a:=gY (gt (xn (fX (gt l 1) 8) (fX (gt l 2) 8) (fX (fX (gt l 1) 8+4) 8) (fX (gt l 3) 6) (fX (gt l 4) 4)) (fX (gt l 0) 16))) ?_ ?_
 .exact aeG _ _ _ _ _ _ (by omega) (by omega)
 .simp;exact Ey.i (gt (xn (fX (gt l 1) 8) (fX (gt l 2) 8) (fX (fX (gt l 1) 8+4) 8) (fX (gt l 3) 6) (fX (gt l 4) 4)) (fX (gt l 0) 16)) rfl rfl (f _ (hg _ (by omega) (by omega)))
set_option maxHeartbeats 1000000
theorem Ep(l:List fE)(x:fE)(op:Int):nO (l ++ [x]) op=nO l op+(if x.1=op then 1 else 0):=by unfold nO;rw[cL];simp[cH];split<;>rfl
def rJ(a kinds gj:Int)(x:fE):Prop:=((x.1=1\/x.1=2\/x.1=7)/\0<=x.2/\x.2<a)\/(3<=x.1/\x.1<=6/\x.2=0)\/(x.1=8/\0<=x.2/\x.2<kinds)\/((x.1=9\/x.1=10)/\0<=x.2/\x.2<gj)
structure zu(p:List fE)(kinds gj:Int)(i:Int)(out:List fE):Prop where
 i0:0<=i/\i<=p.length
 steps:∀x∈out,rJ 8 kinds gj x
 NH:∀op,nO out op<=nO (p.take i.toNat) op
 len:out.length<=i.toNat
theorem zu.add{p:List fE}{kinds gj i:Int}{out:List fE}(h:zu p kinds gj i out)(hi:i<p.length){x:fE}(c:rJ 8 kinds gj x)(b:x.1=(gt p i).1):zu p kinds gj (i+1) (out ++ [x]):=by
 have h0:=h.i0;refine⟨by omega,λy a=>?_,λop=>?_,by have:=h.len;simp;omega⟩
 .rcases List.mem_append.1 a with a|a
  .exact h.steps y a
  .grind
 .rw[iO h0.1 hi,Ep,Ep,b];have:=h.NH op;omega
theorem zu.skip{p:List fE}{kinds gj i:Int}{out:List fE}(h:zu p kinds gj i out)(hi:i<p.length):zu p kinds gj (i+1) out:=by have h0:=h.i0;refine⟨by omega,h.steps,λop=>?_,by have:=h.len;omega⟩;rw[iO h0.1 hi,Ep];have:=h.NH op;split<;>omega
theorem f151(p:List fE)(kinds gj:Int)(e:vm 8 6 4 p)(q:1<=kinds/\kinds<=6)(o:0<=gj/\gj<=4):Wf T 227 [gY p,.i 8,.i kinds,.i gj] [] (Ey gY λr=>vm 8 kinds gj r/\1<=r.length):=by
 have hl:=e.len;refine Yg IF ?_;simp[IF];refine fO.e ((0,[]):Int×List fE) (λy=>[(0,gY p),(1,.i 8),(2,.i kinds),(3,.i gj),(9,.fy 0 y.2.length 2 0 y.2.length),(10,.i y.1)]) (λy=>[.row 173 y.2.length (cl fS y.2)]) (λy=>zu p kinds gj y.1 y.2) (λy=>p.length-y.1.toNat) ?_ ?_
 .exact⟨by simp,by simp,by simp,by simp⟩
 rintro⟨i,out⟩ c;have h0:=c.i0;have k:=c.len;dsimp only at c h0 k ⊢
 by_cases hi:i<p.length
 .have n:=e.steps _ (fZ h0.1 hi);have d:=λ(x:fE)=>c.add hi (x:=x)
  have a:∀b:Int,0<b->0<=(gt p i).2->0<=fX (gt p i).2 b/\fX (gt p i).2 b<b:=λb h1 l=>by rw[jd l];exact⟨bJ _ (by omega),bB _ h1⟩
  simp[hi];(with_reducible repeat' first|refine Xk ?_<;>try simp|refine Xs ?_ ?_<;>intro h<;>(try intro s)<;>(try simp[h])<;>try omega|refine Xg ?_|omega)
  .refine LJ.e (i+1,out ++ [(1,fX (gt p i).2 8)]) ?_;have j:=a 8 (by omega);have g:=a kinds (by omega);exact pb (d _ (by unfold rJ;dsimp only;omega) (by dsimp only;omega))
  .refine LJ.e (i+1,out ++ [(2,fX (gt p i).2 8)]) ?_;have j:=a 8 (by omega);have g:=a kinds (by omega);exact pb (d _ (by unfold rJ;dsimp only;omega) (by dsimp only;omega))
  .refine LJ.e (i+1,out ++ [(7,fX (gt p i).2 8)]) ?_;have j:=a 8 (by omega);have g:=a kinds (by omega);exact pb (d _ (by unfold rJ;dsimp only;omega) (by dsimp only;omega))
  .refine LJ.e (i+1,out ++ [(8,fX (gt p i).2 kinds)]) ?_;have j:=a 8 (by omega);have g:=a kinds (by omega);exact pb (d _ (by unfold rJ;dsimp only;omega) (by dsimp only;omega))
  .refine LJ.i (i+1,out) (by first|rfl|simp[*]) (by first|rfl|simp[*]) rfl rfl ?_;exact pb (c.skip hi)
  .have m:=a gj (by omega);refine LJ.e (i+1,out ++ [((gt p i).1,fX (gt p i).2 gj)]) ?_;exact pb (d _ (by unfold rJ;dsimp only;omega) (by dsimp only))
  .refine LJ.i (i+1,out) (by first|rfl|simp[*]) (by first|rfl|simp[*]) rfl rfl ?_;exact pb (c.skip hi)
  .have m:=a gj (by omega);refine LJ.e (i+1,out ++ [((gt p i).1,fX (gt p i).2 gj)]) ?_;exact pb (d _ (by unfold rJ;dsimp only;omega) (by dsimp only))
  .refine LJ.e (i+1,out ++ [gt p i]) ?_;exact pb (d _ (by unfold rJ;omega) rfl)
 .simp[hi];have f:=c.NH;rw[kG (by omega)]at f;refine jF ?_ ?_<;>intro h
  .refine Ey.i [(3,0)] (by simp[gY]) rfl ⟨⟨by simp,by simp,by simp[nO],by simp[nO],by simp[nO]⟩,by simp⟩
  .refine Ey.i out rfl rfl ⟨⟨c.steps,by omega,fw (f 6) e.th,fw (f 7) e.push,fw (f 8) e.Ka⟩,?_⟩;exact av.2 (by simpa using h)
theorem f105(n kinds gj:Int)(i:0<=n/\n<256)(d:1<=kinds/\kinds<=6)(a:0<=gj/\gj<=4):Wf T 160 [.val (.int .u8 n),.i 8,.i kinds,.i gj] [] (Ey gY λr=>vm 8 kinds gj r/\1<=r.length):=by
 refine Yz DH (jN 21 [0] DH.body) ?_;simp[DH,iB,jN,mw,mz,mH,lq];have f:∀ρ H,ml ρ H 39 1 0 5 (some (5,[.val (.int .u8 n),.val (.int .u8 (jE .u8 n 16)),.val (.int .u8 (IntKind.u8.wrap (jE .u8 n 16+fX n 5))),.val (.int .u8 (jE .u8 n 3)),.val (.int .u8 n)]))=dU [n,jE .u8 n 16,IntKind.u8.wrap (jE .u8 n 16+fX n 5),jE .u8 n 3,n]:=λρ H=>aaL _ rfl rfl;rw[f];have g:=Gr n 16;have k:=Gr n 3;have h:=YX (jE .u8 n 16+fX n 5);have e:∀m∈[n,jE .u8 n 16,IntKind.u8.wrap (jE .u8 n 16+fX n 5),jE .u8 n 3,n],0<=m/\m<256:=λm j=>by grind
 refine Yq (f152 _ rfl e) λp c=>?_;simp;refine Yq (f151 p kinds gj c d a) λq b=>?_;simp;exact Ey.i q rfl rfl b
def A2(n:Int)(nx:List (List Int))(tn:List Int):fH:={ (default:fH)with size:=n,next:=nx,iX:=tn }
def bD(n:Int)(nx:List (List Int))(tn:List Int):D:=.agg [.i n,.sl 1 (nx.map fI),dI tn]
theorem f150(n:Int)(nx:List (List Int))(tn:List Int)(d:nM (A2 n nx tn))(c:Int)(w:0<=c/\c<n):Wf T 226 [bD n nx tn,.i c] [] (Ey (λx:List (List Int)=>.tup [bD n x tn,.i 0]) λx=>nM (A2 n x tn)):=by
 have v:1<=n/\n<=9:=d.size;have a:nx.length=8:=d.next
 have u:tn.length=8:=d.iX;have t:∀l∈nx,(l.length:Int)=n/\∀x∈l,-1<=x/\x<n:=d.row;refine Yz DL (jN 63 [1008] DL.body) ?_;simp[DL,iB,jN,mw,mz,mH,lq,bD];(with_reducible repeat' first|refine Xk ?_<;>try simp|refine Xs ?_ ?_<;>intro h<;>(try intro m)<;>(try simp[h])<;>try omega|refine Xg ?_|omega);refine fO.e ((0,0,[]):Int×Nat×List (List Int)) (λy=>[(1,.i c),(2,.ptr 0 0 0),(4,.ptr 1 0 0),(6,.ptr 3 0 0),(7,.i y.1)]) (λy=>.row 39 0 [.i n,.sl 1 (nx.map fI),dI tn] :: .row 39 0 [.i 0,.fJ,.fJ] :: .row 3 1 (cl f1 tn) :: .row 39 0 [.i n,(if y.1=0 then .fJ else .fy 4 y.2.1 1 0 y.2.2.length),.fy 2 1 1 0 tn.length]::(if y.1=0 then []else [.row 37 y.2.1 (cl fI y.2.2)])) (λy=>0<=y.1/\y.1<=8/\y.2.2.length=y.1.toNat/\∀l∈y.2.2,(l.length:Int)=n/\∀x∈l,-1<=x/\x<n) (λy=>8-y.1.toNat) ?_ ?_
 .simp
 rintro⟨i,g,out⟩ ⟨i0,r,q,f⟩;dsimp only at i0 r q f ⊢
 by_cases hi:i<nx.length
 .have o:=t _ (fZ (l:=nx) i0 hi)
  by_cases b:i=0
  .have p:out = []:=az.1 (by omega);subst b;subst p;simp[a];refine fO.e ((0,[]):Int×List Int) (λy=>[(1,.i c),(2,.ptr 0 0 0),(4,.ptr 1 0 0),(6,.ptr 3 0 0),(7,.i 0),(8,.fy 4 y.2.length 1 0 y.2.length),(9,.i y.1)]) (λy=>[.row 39 0 [.i n,.sl 1 (nx.map fI),dI tn],.row 39 0 [.i 0,.fJ,.fJ],.row 3 1 (cl f1 tn),.row 39 0 [.i n,.fJ,.fy 2 1 1 0 tn.length],.row 3 y.2.length (cl f1 y.2)]) (λy=>0<=y.1/\y.1<=n/\y.2.length=y.1.toNat/\∀x∈y.2,-1<=x/\x<n) (λy=>n.toNat-y.1.toNat) ?_ ?_
   .simp;omega
   rintro⟨j,row⟩ ⟨j0,j1,j2,j3⟩;dsimp only at j0 j1 j2 j3 ⊢
   by_cases e:j<n
   .have s:=o.2 _ (fZ (l:=gt nx 0) j0 (by omega));simp[a,e];(with_reducible repeat' first|refine Xk ?_<;>try simp|refine Xs ?_ ?_<;>intro h<;>(try intro m)<;>(try simp[h])<;>try omega|refine Xg ?_|omega)
    .refine LJ.i (j+1,row ++ [-1]) (by first|rfl|simp[*]) (by first|rfl|simp[*]) rfl rfl ?_;dsimp only;refine⟨by omega,by omega,by omega,by simp;omega,λx a=>?_⟩;rcases List.mem_append.1 a with a|a
     .exact j3 x a
     .grind
    .refine LJ.i (j+1,row ++ [-1]) (by first|rfl|simp[*]) (by first|rfl|simp[*]) rfl rfl ?_;dsimp only;refine⟨by omega,by omega,by omega,by simp;omega,λx a=>?_⟩;rcases List.mem_append.1 a with a|a
     .exact j3 x a
     .grind
    .refine LJ.e (j+1,row ++ [gt (gt nx 0) j]) ?_;dsimp only;refine⟨by omega,by omega,by omega,by simp;omega,λx a=>?_⟩;rcases List.mem_append.1 a with a|a
     .exact j3 x a
     .grind
   .simp[a,e];refine fD ?_;refine LJ.i (1,0,[row]) (by first|rfl|simp[iQ]) (by first|rfl|simp[iQ]) rfl rfl ?_;dsimp only;refine⟨by omega,by omega,by omega,by simp,λx a=>?_⟩;have k:(row.length:Int)=n/\∀x∈row,-1<=x/\x<n:=⟨by omega,j3⟩;rw[List.mem_singleton]at a;rw[a];exact k
  .simp[hi,b];refine fO.e ((0,[]):Int×List Int) (λy=>[(1,.i c),(2,.ptr 0 0 0),(4,.ptr 1 0 0),(6,.ptr 3 0 0),(7,.i i),(8,.fy 5 y.2.length 1 0 y.2.length),(9,.i y.1)]) (λy=>[.row 39 0 [.i n,.sl 1 (nx.map fI),dI tn],.row 39 0 [.i 0,.fJ,.fJ],.row 3 1 (cl f1 tn),.row 39 0 [.i n,.fy 4 g 1 0 out.length,.fy 2 1 1 0 tn.length],.row 37 g (cl fI out),.row 3 y.2.length (cl f1 y.2)]) (λy=>0<=y.1/\y.1<=n/\y.2.length=y.1.toNat/\∀x∈y.2,-1<=x/\x<n) (λy=>n.toNat-y.1.toNat) ?_ ?_
   .simp;omega
   rintro⟨j,row⟩ ⟨j0,j1,j2,j3⟩;dsimp only at j0 j1 j2 j3 ⊢
   by_cases e:j<n
   .have s:=o.2 _ (fZ (l:=gt nx i) j0 (by omega));simp[hi,e,b];(with_reducible repeat' first|refine Xk ?_<;>try simp[b]|refine Xs ?_ ?_<;>intro h<;>(try intro m)<;>(try simp[h,b])<;>try omega|refine Xg ?_|omega)
    .refine LJ.i (j+1,row ++ [-1]) (by first|rfl|simp[*]) (by first|rfl|simp[*]) rfl rfl ?_;dsimp only;refine⟨by omega,by omega,by omega,by simp;omega,λx a=>?_⟩;rcases List.mem_append.1 a with a|a
     .exact j3 x a
     .grind
    .refine LJ.i (j+1,row ++ [-1]) (by first|rfl|simp[*]) (by first|rfl|simp[*]) rfl rfl ?_;dsimp only;refine⟨by omega,by omega,by omega,by simp;omega,λx a=>?_⟩;rcases List.mem_append.1 a with a|a
     .exact j3 x a
     .grind
    .refine LJ.e (j+1,row ++ [gt (gt nx i) j]) ?_;dsimp only;refine⟨by omega,by omega,by omega,by simp;omega,λx a=>?_⟩;rcases List.mem_append.1 a with a|a
     .exact j3 x a
     .grind
   .simp[e,b];refine jw b ?_;refine LJ.i (i+1,g+1,out ++ [row]) (by first|rfl|simp[show¬(i+1=0)by omega]) (by first|rfl|simp[show¬(i+1=0)by omega]) rfl rfl ?_;dsimp only;refine⟨by omega,by omega,by omega,by simp;omega,λx a=>?_⟩;have k:(row.length:Int)=n/\∀x∈row,-1<=x/\x<n:=⟨by omega,j3⟩;rcases List.mem_append.1 a with a|a
    .exact f x a
    .grind
 .simp[hi,show¬i=0 by omega];exact Ey.i out (by simp) rfl ⟨d.size,by show out.length=8;omega,f,d.iX,d.turns⟩
