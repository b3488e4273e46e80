/- Part 14 of DisputeTruth. -/
import Derived.Test.YtmehofoficaelaaGreatDoorV13
set_option linter.all false
namespace Go.Proofs.YtmehofoficaelaaGreatDoor
open Go Go.AL Classical
set_option maxRecDepth 10000
set_option maxHeartbeats 1000000
theorem Vk{g:fY}{p:Pos}(h:¬ended g p){r:List Pos}(hs:kL r)(a:∀q,q∈r↔qy g p q):gQ r=tK g p:=by unfold tK;rw[if_neg h,Sz hs a]
theorem f60(g:fY)(hg:gN g)(p:Pos)(m:ij g p):Wf T 85 [dG g,dP p] [] (Is (tK g p)):=by
 refine Yz E4 (iO 66 [2] E4.body) ?_;simp[E4,iO,kh,mN,mQ,nf,lK];refine Yc (f106 g hg p m) ?_;simp;refine jU ?_ ?_<;>intro h
 .unfold tK;rw[if_pos (Mn.1 ‹_›)]
 have n:¬ended g p:=λf=>h (Mn.2 f);refine Yq (f107 g hg p m) λl hl=>?_;simp;have C:=hl.2;refine fZ.e ((0,false):Int×Bool) (λy=>[(2,.ptr 0 0 0),(3,.ptr 1 0 0),(5,nM l),(6,.fM 2 0 5 0 0),(7,.b y.2),(8,.i y.1)]) (λy=>[.row 43 0 g.cells,.row 46 0 p.cells,.row 46 0 []]) (λy=>0<=y.1/\y.1<=l.length/\(y.2=true↔g.oi=true/\∃o∈l.take y.1.toNat,o.jF=true)) (λy=>l.length-y.1.toNat) ?_ ?_
 .simp
 rintro⟨i,oi⟩ ⟨h0,h1,f⟩;dsimp only at h0 h1 f ⊢
 by_cases t:i<l.length
 .have e:∀o,o∈l.take (i+1).toNat↔o∈l.take i.toNat\/o=gt l i:=λo=>by rw[jd h0 t,List.mem_append,List.mem_singleton]
  cases d:g.oi<;>cases oi<;>simp[d,t]
  .refine fQ ?_;refine LJ.i (i+1,false) (by first|rfl|simp[d]) (by first|rfl|simp[d]) rfl rfl ?_;dsimp only;exact gI (by simp[d])
  .grind
  .refine fQ ?_;refine LJ.i (i+1,(gt l i).jF) (by first|rfl|simp[d]) (by first|rfl|simp[d]) rfl rfl ?_;dsimp only;refine gI ?_;simp[d]at f ⊢;constructor
   .grind
   .grind
  .refine fQ ?_;refine LJ.i (i+1,true) (by first|rfl|simp[d]) (by first|rfl|simp[d]) rfl rfl ?_;dsimp only;refine gI ?_;simp[d]at f ⊢;obtain⟨o,A,h⟩:=f;exact⟨o,(e o).2 (.inl A),h⟩
 .simp[t];rw[kW (by omega)]at f;refine fZ.e ((0,0,[]):Int×Nat×List Pos) (λy=>[(2,.ptr 0 0 0),(3,.ptr 1 0 0),(5,nM l),(6,.fM 2 y.2.1 5 0 y.2.2.length),(7,.b oi),(9,.i y.1)]) (λy=>[.row 43 0 g.cells,.row 46 0 p.cells,.row 46 y.2.1 (cl Pos.cells y.2.2)]) (λy=>0<=y.1/\y.1<=l.length/\(∀q,q∈y.2.2↔∃o∈l.take y.1.toNat,(oi=true->o.jF=true)/\o.p=q)/\y.2.2.length<=y.1.toNat) (λy=>l.length-y.1.toNat) ?_ ?_
  .simp
  rintro⟨j,w,out⟩ ⟨j0,j1,j2,j3⟩;dsimp only at j0 j1 j2 j3 ⊢
  by_cases u:j<l.length
  .have e:∀o,o∈l.take (j+1).toNat↔o∈l.take j.toNat\/o=gt l j:=λo=>by rw[jd j0 u,List.mem_append,List.mem_singleton]
   simp[u];cases oi<;>simp
   .refine fQ ?_;refine LJ.e (j+1,w+1,out ++ [(gt l j).p]) ?_;dsimp only;refine⟨by omega,by omega,by omega,λq=>?_,by simp;omega⟩;rw[List.mem_append,List.mem_singleton,j2];simp only[e];constructor
    .grind
    .grind
   .refine jU ?_ ?_<;>intro h
    .skip;refine LJ.e (j+1,w+1,out ++ [(gt l j).p]) ?_;dsimp only;refine⟨by omega,by omega,by omega,λq=>?_,by simp;omega⟩;rw[List.mem_append,List.mem_singleton,j2];simp only[e];constructor
     .grind
     .grind
    .refine LJ.e (j+1,w,out) ?_;dsimp only;refine⟨by omega,by omega,by omega,λq=>?_,by omega⟩;rw[j2];simp only[e];constructor
     .grind
     .grind
  .simp[u];rw[kW (by omega)]at j2
   have x:∀q∈out,Small q:=λq v=>by obtain⟨o,a,_,rfl⟩:=(j2 q).1 v;exact(N2 hg m ((hl.1 o).1 a)).small hg
   cases oi<;>simp
   .have s:¬(g.oi=true/\∃o∈pY g p,o.jF=true):=by grind
    refine Yq (f108 g hg p m) λdr z=>?_;simp;refine fQ ?_;refine Yq (f61 (out++dr) (by simp;omega) (λq v=>(List.mem_append.1 v).elim (x q) (λh=>Vs hg m ((z.2.2 q).1 h)))) λr k=>?_;simp;refine Vk n k.1 λq=>?_;rw[k.2.2,List.mem_append,z.2.2,j2];unfold qy;rw[if_neg s];simp only[HH n,hl.1];simp;exactλ_ c B=>HH n c B
   .have s:=f.1 rfl;refine Yq (f61 out (by omega) x) λr k=>?_;simp;refine Vk n k.1 λq=>?_;rw[k.2.2,j2];unfold qy;simp only[hl.1]at s ⊢;rw[if_pos s];constructor
    .rintro⟨o,a,b,rfl⟩;have:=b trivial;refine⟨HH n,?_⟩;cases o;simp_all
    .grind
theorem f112(g:fY)(hg:gN g)(p:Pos)(b:ij g p):Wf T 82 [dG g,dP p] [] (Is (.agg [.i (stat g p).1,.b (stat g p).2])):=by
 refine Yg Jf ?_;simp[Jf];refine Yc (f106 g hg p b) ?_;simp;refine jU ?_ ?_<;>intro h
 .have a:=Mn.1 h;have:=PF a;refine fQ ?_;simp[stat,a,NO a]
 .have a:¬ended g p:=λc=>h (Mn.2 c);refine Yc (f60 g hg p b) ?_;simp;refine jU ?_ ?_<;>intro h
  all_goals simp[stat, *]
theorem f58(g:fY)(hg:gN g)(p:Pos)(d:ij g p)(l:List Int)(hl:l.length<=100)(h0:∀n∈l,0<=n/\n<256):Wf T 99 [dG g,dP p,dI l] [] (Ey gQ λr=>(0<r.length/\r.length<=101)/\∀q∈r,ij g q):=by
 refine Yg K9 ?_;simp[K9];refine fZ.e ((0,p,0,[p]):Int×Pos×Nat×List Pos) (λy=>[(2,dI l),(3,.ptr 0 0 0),(4,.ptr 1 0 0),(7,.fM 2 y.2.2.1 5 0 y.2.2.2.length),(8,.i y.1)]) (λy=>[.row 43 0 g.cells,.row 46 0 y.2.1.cells,.row 46 y.2.2.1 (cl Pos.cells y.2.2.2)]) (λy=>0<=y.1/\y.1<=l.length/\ij g y.2.1/\(0<y.2.2.2.length/\y.2.2.2.length<=y.1.toNat+1)/\∀q∈y.2.2.2,ij g q) (λy=>l.length-y.1.toNat) ?_ ?_
 .grind
 rintro⟨i,p,m,out⟩ ⟨i0,j,d,f,b⟩;dsimp only at i0 j d f b ⊢;simp;refine jU ?_ ?_<;>intro h
 .refine Yc (f60 g hg p d) ?_;simp;have k:=h0 _ (gq i0 ‹_›)
  have e:0<(iJ g p).length->0<=gp (gt l i) (iJ g p).length/\gp (gt l i) (iJ g p).length<(iJ g p).length:=λh=>by rw[jt k.1];exact⟨bW _ (by omega),bO _ (by omega)⟩
  (with_reducible repeat' first|refine Xk ?_<;>try simp|refine Xs ?_ ?_<;>intro h<;>(try intro o)<;>(try simp[h])<;>try omega|refine Xg ?_|omega)
  .exact Ey.i out rfl rfl (pI b)
  .have a:0<(iJ g p).length:=ax.2 ‹_›;have:=e a;omega
  .have a:0<(iJ g p).length:=ax.2 ‹_›;have:=e a;refine fQ ?_;have fV:=Sy hg d (BP.1 (gq (l:=iJ g p) this.1 this.2));refine LJ.e (i+1,gt (iJ g p) (gp (gt l i) (iJ g p).length),m+1,out ++ [gt (iJ g p) (gp (gt l i) (iJ g p).length)]) ?_;dsimp only;refine⟨by omega,by omega,by omega,fV,by simp;omega,λq c=>?_⟩;rcases List.mem_append.1 c with c|c
   .exact b q c
   .grind
 .exact Ey.i out rfl rfl (pI b)
structure LC(g:fY)(p:Pos)(all last:List Pos):Prop where
 Ai:kL all
 ok:∀q∈all,ij g q
 has:p∈all
 sub:∀q∈last,q∈all
 cl:∀q∈all,q ∉ last->∀m,qy g q m->m∈all
 len:all.length<=80
 agC:last.length<=all.length
theorem LC.step{g:fY}(hg:gN g){p:Pos}{c last next last' all':List Pos}(h:LC g p c last)(o:∀m,m∈next↔∃q∈last,qy g q m)(hl:∀m,m∈last'↔m∈next/\m ∉ c)
  (k:last'.Nodup) (hs:kL all') (f:∀q,q∈all'↔q∈c\/q∈last') (i:all'.length<=80):LC g p all' last'/\(last'≠[]->c.length<all'.length)/\c.length<=all'.length:=by
 have h1:c.length+last'.length<=all'.length:=by rw[<-aj];refine HG (cN.2 ⟨h.Ai.nodup,k,λa f b t e=>?_⟩) λx l=>(f x).2 (List.mem_append.1 l);subst e;exact((hl a).1 t).2 f
 refine⟨⟨hs,λq d=>?_,(f p).2 (.inl h.has),λq d=>(f q).2 (.inr d),λq d v m j=>?_,i,by omega⟩,λs=>?_,by omega⟩
 .rcases(f q).1 d with d|d
  .exact h.ok q d
  .obtain⟨r,n,j⟩:=(o q).1 ((hl q).1 d).1;exact Sy hg (h.ok r (h.sub r n)) j
 .rcases(f q).1 d with d|d
  .by_cases u:q∈last
   .grind
   .exact(f m).2 (.inl (h.cl q d u m j))
  .grind
 .have:0<last'.length:=ax.2 s;omega
structure IL(g:fY)(l:List Pos):Prop where
 Ai:kL l
 ok:∀q∈l,ij g q
 cl:∀q∈l,∀m,qy g q m->m∈l
 len:0<l.length/\l.length<=80
end Go.Proofs.YtmehofoficaelaaGreatDoor
namespace Go.AL
open Go
def ZH(S:List Nat):iD->Bool
 | .call f _ | .callN f _=>elem f S
 | .callv _ _=>false
 | .nextM _=>false
 | _=>true
def pj(S:List Nat):List gR->Bool
 | []=>true
 | e::r=>ZH S e.op&&pj S r
def rF(S:List Nat):IR->Bool
 | .ops l=>pj S l
 | .lU _ l=>pj S l
 | .mF _ l es=>pj S l&&pj S es
 | .seq a b=>rF S a&&rF S b
 | .cond _ a b=>rF S a&&rF S b
 | .block _ _ a=>rF S a
 | .loop _ a=>rF S a
 | .nW _ _ _=>false
 | _=>true
def rG(S:List Nat):Ap->Bool
 | .ops l _=>pj S l
 | .code c _=>rF S c
 | .loop _ _ a _=>rF S a
 | .call f _ _=>elem f S
 | .trace l _=>pj S l
def One(T:il)(j:Ap)(R:pe->Prop):Prop:=match j with
 | .ops _ _ | .code _ _ | .loop _ _ _ _=>∃o,R (.out o)/\Ev T j (λr=>r = .out o)
 | .call _ _ _=>∃d H,R (.val d H)/\Ev T j (λr=>r = .val d H)
 | .trace _ _=>∃rs s,R (.tr rs s)/\Ev T j (λr=>r = .tr rs s)
theorem One.mono{T:il}{j:Ap}{R c:pe->Prop}(h:One T j R)(hi:∀r,R r->c r):One T j c:=by
 cases j with
 | call f a H=>obtain⟨d,H',h1,b⟩:=h;exact⟨d,H',hi _ h1,b⟩
 | trace l s=>obtain⟨d,H',h1,b⟩:=h;exact⟨d,H',hi _ h1,b⟩
 | _=>obtain⟨o,h1,b⟩:=h;exact⟨o,hi _ h1,b⟩
theorem ZI{S:List Nat}{env:gL}{op:iD}{f:FuncId}{args:List D}(h:ZH S op=true)(a:kA env op=some (f,args)):elem f S=true:=by cases op<;>first|(cases a;exact h)|(cases h;done)|(cases a;done)
section
variable{T:il}{S:List Nat}(hS:∀f fn,elem f S=true->T.fn f=some fn->rF S fn.body=true)(hN:∀f,elem f S=true->T.sort f=none/\T.sV f=false/\T.sD f=false)
include hS hN
theorem al4{j:Ap}{R:pe->Prop}(h:Ev T j R):rG S j=true->One T j R:=by
 induction h with
 | mono h hi m=>exactλf=>(m f).mono hi
 | sort fc l P hs=>intro f;rw[(hN _ f).1]at hs;cases hs
 | Ew hs=>intro f;rw[(hN _ f).1]at hs;cases hs
 | sV l hs=>intro f;rw[(hN _ f).2.1]at hs;cases hs
 | sD l i hs=>intro f;rw[(hN _ f).2.2]at hs;cases hs
 | nil h=>exactλ_=>⟨_,h,.nil rfl⟩
 | op hg h t m=>
  intro f;simp only[rG,pj,Bool.and_eq_true]at f;obtain⟨o,h1,g⟩:=m f.2;exact⟨o,h1,.op hg h g⟩
 | Cc hg h t m=>
  intro f;simp only[rG,pj,Bool.and_eq_true]at f;obtain⟨o,h1,g⟩:=m f.2;exact⟨o,h1,.Cc hg h g⟩
 | off hg t m=>
  intro f;simp only[rG,pj,Bool.and_eq_true]at f;obtain⟨o,h1,g⟩:=m f.2;exact⟨o,h1,.off hg g⟩
 | lW I G t m=>intro f;obtain⟨o,h1,g⟩:=m f;exact⟨o,h1,.lW I G g⟩
 | F4 I G t m=>intro f;obtain⟨o,h1,g⟩:=m f;exact⟨o,h1,.F4 I G g⟩
 | P2 live t m=>intro f;obtain⟨o,h1,g⟩:=m f;exact⟨o,h1,.P2 live g⟩
 | F3 live t m=>intro f;obtain⟨o,h1,g⟩:=m f;exact⟨o,h1,.F3 live g⟩
 | Fz hg u w q h C t m A=>
  intro f;simp only[rG,pj,Bool.and_eq_true]at f;obtain⟨d,Hn,h1,g⟩:=m (ZI f.1 u);obtain⟨n,L⟩:=c8.1 (C d Hn h1);obtain⟨o,y,z⟩:=A d Hn n h1 L f.2;exact⟨o,y,.Fz hg u w q g (λd' J e=>by cases e;exact C _ _ h1) λd' J p e O=>by grind⟩
 | Fy hg u w q h t m A=>
  intro f;simp only[rG,pj,Bool.and_eq_true]at f;obtain⟨d,Hn,h1,g⟩:=m (ZI f.1 u);obtain⟨o,y,z⟩:=A d Hn h1 f.2;exact⟨o,y,.Fy hg u w q g λd' J e=>by cases e;exact z⟩
 | @LR e r s v args rf env0 Rd Ra Rb R hg u=>
  intro f;simp only[rG,pj,Bool.and_eq_true]at f;exfalso;have h1:=f.1;revert u h1;cases e.op<;>intro u h1<;>first|(cases u;done)|(cases h1;done)
 | next hg E=>
  intro f;simp only[rG,pj,Bool.and_eq_true]at f;have h1:=f.1;rw[E]at h1;cases h1
 | Iy h=>exactλ_=>⟨_,_,h,.Iy rfl⟩
 | IA hg h t k m=>
  intro f;simp only[rG,pj,Bool.and_eq_true]at f;obtain⟨rs,n,h1,g⟩:=m f.2;exact⟨_,n,k rs n h1,.IA hg h g λB p e=>by cases e;rfl⟩
 | Iz hg t k m=>
  intro f;simp only[rG,pj,Bool.and_eq_true]at f;obtain⟨rs,n,h1,g⟩:=m f.2;exact⟨_,n,k rs n h1,.Iz hg g λB p e=>by cases e;rfl⟩
 | Iv hg u w q h h0 F t k m A=>
  intro f;simp only[rG,pj,Bool.and_eq_true]at f;obtain⟨rs,n,h1,g⟩:=A f.2;exact⟨_,n,k rs n h1,.Iv hg u w q h h0 F g λB p e=>by cases e;rfl⟩
 | Iw hg E C w q h h0 F t k m A=>
  intro f;simp only[rG,pj,Bool.and_eq_true]at f;obtain⟨rs,n,h1,g⟩:=A f.2;exact⟨_,n,k rs n h1,.Iw hg E C w q h h0 F g λB p e=>by cases e;rfl⟩
 | Ix hg E C w q H K M N h h0 F t k m A=>
  intro f;simp only[rG,pj,Bool.and_eq_true]at f;obtain⟨rs,n,h1,g⟩:=A f.2;exact⟨_,n,k rs n h1,.Ix hg E C w q H K M N h h0 F g λB p e=>by cases e;rfl⟩
 | lU t q m=>
  intro f;obtain⟨rs,n,h1,g⟩:=m f;exact⟨_,(q rs n h1).2,.lU g λB p e=>by cases e;exact⟨(q rs n h1).1,rfl⟩⟩
 | mF t q k m D=>
  intro f;simp only[rG,rF,Bool.and_eq_true]at f;obtain⟨rs,n,h1,g⟩:=m f.1;obtain⟨o,y,z⟩:=D rs n h1 f.2;exact⟨o,y,.mF g (λB p e=>by cases e;exact q _ _ h1) λB p e=>by cases e;exact z⟩
 | skip h=>exactλ_=>⟨_,h,.skip rfl⟩
 | FK h m=>intro f;obtain⟨o,h1,g⟩:=m f;exact⟨o,h1,.FK g⟩
 | seq h k hs m D=>
  intro f;simp only[rG,rF,Bool.and_eq_true]at f;obtain⟨o,h1,g⟩:=m f.1
  cases o with
  | norm n=>
   obtain⟨o,y,z⟩:=D n h1 f.2;exact⟨o,y,.seq g (λp e=>by cases e;exact z) λo e hs=>by cases e;cases hs⟩
  | exit id n=>exact⟨_,hs _ h1 rfl,.seq g (λp e=>by cases e) λo e hs=>by cases e;rfl⟩
  | ret n=>exact⟨_,hs _ h1 rfl,.seq g (λp e=>by cases e) λo e hs=>by cases e;rfl⟩
 | @cond c a b s x R u h m=>
  intro f;simp only[rG,rF,Bool.and_eq_true]at f;obtain⟨o,h1,g⟩:=m (by cases x;exact f.2;exact f.1);exact⟨o,h1,.cond u g⟩
 | block h k m=>
  intro f;obtain⟨o,h1,g⟩:=m f;exact⟨_,k o h1,.block g λo e=>by cases e;rfl⟩
 | loop h m=>intro f;obtain⟨o,h1,g⟩:=m f;exact⟨o,h1,.loop g⟩
 | zR h k hs m D=>
  intro f;obtain⟨o,h1,g⟩:=m f
  cases o with
  | norm n=>
   obtain⟨o,y,z⟩:=D n h1 f;exact⟨o,y,.zR g (λp e=>by cases e;exact z) λo e hs=>by cases e;cases hs⟩
  | exit id n=>exact⟨_,hs _ h1 rfl,.zR g (λp e=>by cases e) λo e hs=>by cases e;rfl⟩
  | ret n=>exact⟨_,hs _ h1 rfl,.zR g (λp e=>by cases e) λo e hs=>by cases e;rfl⟩
 | nW=>intro f;cases f
 | exit h=>exactλ_=>⟨_,h,.exit rfl⟩
 | ret h=>exactλ_=>⟨_,h,.ret rfl⟩
 | call own w hl h k m=>
  intro f;obtain⟨o,h1,g⟩:=m (hS _ _ f w);obtain⟨d,H',y,z⟩:=k o h1;exact⟨d,H',z,.call own w hl g λo' e=>by cases e;exact⟨d,H',y,rfl⟩⟩
end
end Go.AL
namespace Go.AL
open Go
def LY(S:List Nat):Nat->List (Option je)->Bool
 | _,[]=>true
 | k,a::l=>(bif elem k S then(match a with|some fn=>rF S fn.body|none=>true)else true)&&LY S (k+1) l
theorem UN{S:List Nat}{fn:je}:∀ {l:List (Option je)} {k i:Nat},LY S k l=true->nth l i=some fn->elem (k+i) S=true->rF S fn.body=true
 | [],_,_,_,h,_=>by cases h
 | a::l,k,0,h,h2,h3=>by simp only[LY,Bool.and_eq_true]at h;cases h2;rw[cz]at h3;simpa only[h3,cond_true]using h.1
 | a::l,k,i+1,h,h2,h3=>by simp only[LY,Bool.and_eq_true]at h;exact UN (l:=l) (k:=k+1) (i:=i) h.2 h2 (by rw[a7,dq 1 i];exact h3)
theorem Wf.one{T:il}{S:List Nat}(hS:∀f fn,elem f S=true->T.fn f=some fn->rF S fn.body=true)(hN:∀f,elem f S=true->T.sort f=none/\T.sV f=false/\T.sD f=false){f:FuncId}{args:List D}{H:U}{K:D->U->Prop}(h:Wf T f args H K)(a:elem f S=true) :
  ∃d H',K d H'/\Wf T f args H λd2 H2=>d2=d/\H2=H':=by
 obtain⟨d,H',⟨d2,H2,e,h1⟩,b⟩:=al4 hS hN h a;cases e;exact⟨d,H',h1,Ev.mono b λr e=>⟨_,_,e,rfl,rfl⟩⟩
end Go.AL
namespace Go.Proofs.YtmehofoficaelaaGreatDoor
open Go Go.AL
def Eh:List Nat:=[13,17,18,21,22,25,27,29,31,32,34,36,38,39,40,41,43,44,50,51,60,68,69,71,72,73,74,76,77,78,79,80,82,83,84,85,86,87,88,90,91,92,98,99,100,101,127,128,129,130,131,132,133,134,136,137,138,139,140,141,142,143,144,159,160,161,162,200,201,202,203,204,205,206,207,208,209,210,211,225,226,227,228,252,253,254,255,256,257,258,278,283,284,285,294,295,296,297,298,299,321]
theorem amv:∀f fn,elem f Eh=true->T.fn f=some fn->rF Eh fn.body=true:=λf fn h a=>
 UN (S:=Eh) (l:=fns) (k:=0) (i:=f) (by kernel_rfl) a (by rw[aQ];exact h)
theorem amw:∀f,elem f Eh=true->T.sort f=none/\T.sV f=false/\T.sD f=false:=λf h=>by
 by_cases h1:f=151
 .subst h1;exact absurd h (by decide)
 by_cases d:f=261
 .subst d;exact absurd h (by decide)
 by_cases c:f=67
 .subst c;exact absurd h (by decide)
 by_cases b:f=66
 .subst b;exact absurd h (by decide)
 refine⟨?_,?_,?_⟩
 .show(if f=151 then some 5 else if f=261 then some 6 else none)=none;rw[if_neg h1,if_neg d]
 .show Nat.beq f 67=false
  cases a:Nat.beq f 67 with
  | false=>rfl
  | true=>exact absurd (cd a) c
 .show Nat.beq f 66=false
  cases a:Nat.beq f 66 with
  | false=>rfl
  | true=>exact absurd (cd a) b
section
variable{f:FuncId}{args:List D}{dst:Option Nat}{s:St}{fn:je}{R:List Fp}{Q:Rc->St->Prop}
theorem iW.q{α:Type}{g:α->D}{P:α->Prop}(e:T.fn f=some fn)(c:fn.full=false)(h1:elem f Eh=true)(h:Wf T f args [] (Ex g P))(i:gw args=true)(a:∀r,closed (g r)=true)
  (k:∀r,P r->Q ⟨R,[]⟩ { s with env:=put s.env dst (g r) }):iW T f args R dst s Q .mk:=by
 obtain⟨d,H',⟨r,rfl,rfl,b⟩,j⟩:=Wf.one amv amw h h1;exact iW.c e c j i (a r) (k r b)
end
theorem Yv{f:FuncId}{args:List D}{R:List Fp}{dst:Option Nat}{s:St}{Q:Rc->St->Prop}{fn:je}{α:Type}{g:α->D}{P:α->Prop}(h:Wf T f args [] (Ex g P))(k:∀r,P r->Q ⟨R,[]⟩ { s with env:=put s.env dst (g r) })
  (c:T.fn f=some fn:=by exact rfl) (b:fn.full=false:=by exact rfl) (h1:elem f Eh=true:=by exact rfl) (d:gw args=true:=by simp) (a:∀r,closed (g r)=true:=by intro;simp):iW T f args R dst s Q .mk:=iW.q c b h1 h d a k
end Go.Proofs.YtmehofoficaelaaGreatDoor
namespace Go.AL
open Go
abbrev Kn:=Int×Int×Bool
@[irreducible] def fK(x:Kn):List D:=[.i x.1,.i x.2.1,.b x.2.2]
@[simp] theorem C7(x:Kn):fK x = [.i x.1,.i x.2.1,.b x.2.2]:=by unfold fK;rfl
instance:Fl fK 3:=⟨λ_=>by simp,λ_=>by simp[gw]⟩
@[simp] theorem ar0(l:List Kn)(a b:Int)(c:Bool):cl fK l ++ [.i a,.i b,.b c]=cl fK (l ++ [(a,b,c)]):=by rw[<-pL,C7]
@[simp] theorem ab7(l:List Bool)(c:Bool):cl fB l ++ [.b c]=cl fB (l ++ [c]):=by rw[<-pL,FV]
theorem L4{α:Type}[Inhabited α]{f:α->List D}{sz:Nat}[F:Fl f sz]{l:List α}{n:Int}{j:Nat}(b:j<sz){P:D->Prop}:oA (cl f l)[n.toNat*sz+j]? P .mk=(n.toNat<l.length/\oA (f (gt l n))[j]? P .mk):=by
 rw[U0 (f:=f) l n.toNat j b]
 by_cases a:n.toNat<l.length
 .rw[List.getElem?_eq_getElem a];have e:gt l n=l[n.toNat]:=by unfold gt;rw[List.getD_eq_getElem?_getD,List.getElem?_eq_getElem a];rfl
  simp[a,e]
 .rw[cj (by omega)];simp[a]
@[simp] theorem avP{l:List Kn}{n:Int}{P:D->Prop}:oA (cl fK l)[n.toNat*3+2]? P .mk=(n.toNat<l.length/\P (.b (gt l n).2.2)):=by have:=L4 (f:=fK) (l:=l) (n:=n) (j:=2) (by decide) (P:=P);simpa using this
@[simp] theorem avO{l:List Bool}{n:Int}{P:D->Prop}:oA (cl fB l)[n.toNat]? P .mk=(n.toNat<l.length/\P (.b (gt l n))):=by have:=L4 (f:=fB) (l:=l) (n:=n) (j:=0) (by decide) (P:=P);simpa using this
theorem UW{l:List Kn}{n:Int}(h:n.toNat<l.length):(cl fK l).drop (n.toNat*3)=fK (gt l n)++cl fK (l.drop (n.toNat+1)):=by rw[uf,bH h,mO];congr 1;unfold gt;rw[List.getD_eq_getElem?_getD,List.getElem?_eq_getElem h];rfl
theorem ab8{l:List Kn}{n:Int}(h:n.toNat<l.length)(a b:Int):(cl fK l).take (n.toNat*3) ++ .i a :: .i b::(cl fK l).drop (n.toNat*3+2)=cl fK (pt l n (a,b,(gt l n).2.2)):=by
 have e:(cl fK l).drop (n.toNat*3+2) = .b (gt l n).2.2::cl fK (l.drop (n.toNat+1)):=by rw[<-bZ,UW h,C7];rfl
 rw[e,xy];unfold pt;rw[<-AA,mO,C7];rfl
@[simp] theorem auJ{l:List Kn}{t:TypeId}{n:Int}:uE 2 (n.toNat*3) (some (t,cl fK l))=if n.toNat<l.length then some (.agg [.i (gt l n).1,.i (gt l n).2.1])else none:=by
 unfold uE;dsimp only
 by_cases h:n.toNat<l.length
 .rw[if_pos h,if_pos (by rw[rh];omega),UW h,C7];rfl
 .rw[if_neg h,if_neg (by rw[rh];omega)]
theorem L5{α:Type}{f:α->List D}{sz:Nat}[F:Fl f sz](l:List α)(n:Int)(h1:n.toNat<l.length)(a:α):(cl f l).take (n.toNat*sz)++(f a++(cl f l).drop (n.toNat*sz+sz))=cl f (pt l n a):=by have:=ach (f:=f) l n.toNat a h1;rw[aJ]at this;exact this
theorem H6{α:Type}{f:α->List D}(a:α):∀n:Nat,(List.replicate n (f a)).flatten=cl f (List.replicate n a)
 | 0=>by simp
 | n+1=>by rw[bn,aX,H6 a n,bn,mO]
@[simp] theorem amy(b:Bool)(n:Nat):(List.replicate n [D.b b]).flatten=cl fB (List.replicate n b):=by rw[<-H6,FV]
@[simp] theorem amz(b:Int)(n:Nat):(List.replicate n [D.i b]).flatten=cl f1 (List.replicate n b):=by rw[<-H6,C6]
@[simp] theorem axm(a b:Int)(n:Nat):(List.replicate n [D.i a,D.i b]).flatten=cl fS (List.replicate n (a,b)):=by rw[<-H6,AS]
@[simp] theorem axk(b:Bool)(n:Nat):List.replicate n (D.b b)=cl fB (List.replicate n b):=by rw[<-amy];simp
@[simp] theorem axl(b:Int)(n:Nat):List.replicate n (D.i b)=cl f1 (List.replicate n b):=by rw[<-amz];simp
def uj(l:List Bool):Nat:=l.countP λb => !b
theorem ZR{α:Type}[Inhabited α]{l:List α}{n:Int}{a b:α}(h0:0<=n)(h:n<l.length):pt (pt l n a) n b=pt l n b:=by rw[HP (l:=pt l n a) h0 (by rw[iH h0 h];exact h),HP h0 h,HP h0 h,List.set_set]
theorem aez{l:List Bool}{n:Int}(h0:0<=n)(h:n<l.length)(a:gt l n=false)(b:Bool):uj (pt l n b)+(if b then 1 else 0)=uj l:=by
 have e:l=l.take n.toNat++gt l n::l.drop (n.toNat+1):=by rw[<-nN h0 h,bU]
 unfold pt
 conv=>rhs;rw[e]
 unfold uj;rw[cU,cU,cP,cP,a];cases b<;>simp<;>omega
end Go.AL
namespace Go.Proofs.YtmehofoficaelaaGreatDoor
open Go Go.AL Classical
set_option maxRecDepth 10000
set_option maxHeartbeats 1000000
structure oP(g:fY)(l:List Pos):Prop where
 Ai:kL l
 ok:∀q∈l,ij g q
 cl:∀q∈l,∀m,qy g q m->m∈l
 len:l.length<=4000
theorem IL.c2{g:fY}{l:List Pos}(h:IL g l):oP g l:=⟨h.Ai,h.ok,h.cl,by have:=h.len;omega⟩
noncomputable def gu(g:fY)(l:List Pos):List (List Int):=l.map λp=>(iJ g p).map (pk l)
theorem f37(g:fY)(hg:gN g)(l:List Pos)(hl:oP g l):Wf T 39 [dG g,gQ l] [] (Is (.tup [.sl 1 ((gu g l).map fI),.b true])):=by
 have k:=hl.len;have b:∀q∈l,Small q:=λq c=>(hl.ok q c).small hg;refine Yz EZ (iO 59 [2] EZ.body) ?_;simp[EZ,iO,kh,mN,mQ,nf,lK];(with_reducible repeat' first|refine Xk ?_<;>try simp|refine Xs ?_ ?_<;>intro h<;>(try intro o)<;>(try simp[h])<;>try omega|refine Xg ?_|omega);refine Yc (f64 l (by omega) b) ?_;simp;have hs:=hl.Ai;refine fQ ?_;refine fZ.e ((0,0,[]):Int×Nat×List (List Int)) (λy=>[(1,gQ l),(2,.ptr 0 0 0),(6,.fM 1 y.2.1 1 0 y.2.2.length),(7,.i y.1)]) (λy=>[.row 43 0 g.cells,.row 37 y.2.1 (cl fI y.2.2)]) (λy=>0<=y.1/\y.1<=l.length/\y.2.2=(l.take y.1.toNat).map λp=>(iJ g p).map (pk l)) (λy=>l.length-y.1.toNat) ?_ ?_
 .simp
 rintro⟨i,e,out⟩ ⟨i0,n,a⟩;dsimp only at i0 n a ⊢;simp;have t:out.length<=4000:=by rw[a];simp;omega
 refine jU ?_ ?_<;>intro h
 .have d:=hl.ok _ (gq i0 ‹_›);refine Yt (f65 g _ hg d) ?_;simp;refine fQ ?_;refine Yt (f60 g hg _ d) ?_;simp;have Xz:=zU hg d;have m:∀q∈iJ g (gt l i),q∈l:=λq c=>hl.cl _ (gq i0 ‹_›) q (BP.1 c);refine fZ.e ((0,0,[]):Int×Nat×List Int) (λy=>[(1,gQ l),(2,.ptr 0 0 0),(6,.fM 1 e 1 0 out.length),(7,.i i),(8,tK g (gt l i)),(9,.fM 2 y.2.1 1 0 y.2.2.length),(10,.i y.1)]) (λy=>[.row 43 0 g.cells,.row 37 e (cl fI out),.row 3 y.2.1 (cl f1 y.2.2)]) (λy=>0<=y.1/\y.1<=(iJ g (gt l i)).length/\y.2.2=((iJ g (gt l i)).take y.1.toNat).map (pk l)) (λy=>(iJ g (gt l i)).length-y.1.toNat) ?_ ?_
  .simp
  rintro⟨j,gm,row⟩ ⟨j0,j1,j2⟩;dsimp only at j0 j1 j2 ⊢;have r:row.length<=j.toNat:=by rw[j2];simp;omega
  simp;refine jU ?_ ?_<;>intro h
  .have f:=m _ (gq j0 ‹_›);refine Yc (f27 l _ (by omega) b (b _ f) hs) ?_;simp;have s:=F1 f;(with_reducible repeat' first|refine Xk ?_<;>try simp|refine Xs ?_ ?_<;>intro h<;>(try intro o)<;>(try simp[h])<;>try omega|refine Xg ?_|omega);refine LJ.e (j+1,gm+1,row ++ [pk l (gt (iJ g (gt l i)) j)]) ?_;dsimp only;refine gI ?_;rw[jd j0 ‹_›,List.map_append,j2];rfl
  .refine fQ ?_;refine LJ.e (i+1,e+1,out ++ [row]) ?_;dsimp only;refine gI ?_;rw[jd i0 ‹_›,List.map_append,a];rw[kW (by omega)]at j2;rw[j2];rfl
 .rw[a,kW (by omega)];rfl
noncomputable def sE(g:fY)(p:Pos):Kn:=((stat g p).1,0,(stat g p).2)
theorem aeu(g:fY)(hg:gN g)(l:List Pos)(hl:oP g l):Wf T 128 [dG g,gQ l] [] (λd H=>d = .fM 0 l.length 3 0 l.length/\H = [.row 245 l.length (cl fK (l.map (sE g)))]):=by
 have b:=hl.len;refine Wf.xo 1 (fn:=E5) rfl (by simp[E5]) ?_;simp[E5];refine fZ.e ((0,[]):Int×List Kn) (λy=>[(1,gQ l),(2,.ptr 0 0 0),(5,.fM 1 y.2.length 3 0 y.2.length),(6,.i y.1)]) (λy=>[.row 43 0 g.cells,.row 245 y.2.length (cl fK y.2)]) (λy=>0<=y.1/\y.1<=l.length/\y.2=(l.take y.1.toNat).map (sE g)) (λy=>l.length-y.1.toNat) ?_ ?_
 .simp
 rintro⟨i,out⟩ ⟨i0,c,a⟩;dsimp only at i0 c a ⊢;have j:out.length=i.toNat:=by rw[a];simp;omega
 simp;refine jU ?_ ?_<;>intro h
 .refine Yt (f112 g hg _ (hl.ok _ (gq i0 ‹_›))) ?_;simp;refine fQ ?_;refine LJ.i (i+1,out ++ [sE g (gt l i)]) (by first|rfl|simp[sE]) (by first|rfl|simp[sE]) rfl rfl ?_;dsimp only;refine gI ?_;rw[jd i0 ‹_›,List.map_append,a];rfl
 .have e:out=l.map (sE g):=by rw[a,kW (by omega)]
  have f:out.length=l.length:=by rw[e];simp
  rw[<-e]
theorem qn{g:fY}{l:List Pos}(hl:oP g l){i:Int}(h0:0<=i)(h1:i<l.length):gt (gu g l) i=(iJ g (gt l i)).map (pk l)/\∀k∈gt (gu g l) i,0<=k/\k<l.length:=by
 have e:gt (gu g l) i=(iJ g (gt l i)).map (pk l):=by unfold gu gt;simp only[List.getD_eq_getElem?_getD,av];rw[List.getElem?_eq_getElem (by omega)];rfl
 refine⟨e,λk a=>?_⟩;rw[e]at a;obtain⟨q,b,rfl⟩:=ao.1 a;have:=F1 (hl.cl _ (gq h0 h1) q (BP.1 b));exact⟨this.1,this.2.1⟩
theorem f69(o s:Int)(hs:0<=s/\s<=1):Wf T 131 [.i o,.i s] [] (Is (.i (if o=1 then s else if o=3 then 1-s else -1))):=by
 refine Yg Lh ?_;simp[Lh];exact mE
 all_goals simp[*]
theorem f68(g:fY)(hg:gN g)(l:List Pos)(hl:oP g l)(side:Int)(E:0<=side/\side<=1):Wf T 130 [dG g,gQ l,.sl 1 ((gu g l).map fI),.i side] [] (Ey (λr:List Bool=>.sl 1 (r.map fB)) λr=>r.length=l.length):=by
 have s:=hl.len;have D:(gu g l).length=l.length:=by simp[gu]
 have t:=λ(i:Int) (a:0<=i) (b:i<l.length)=>qn hl a b
 have u:∀i:Int,0<=i->i<l.length->(gt (gu g l) i).length<=4000000000:=λi a b=>by rw[(t i a b).1,List.length_map];exact zU hg (hl.ok _ (gq a b))
 refine Yg Lg ?_;simp[Lg];refine fQ ?_;refine fZ.e ((List.replicate l.length false,true):List Bool×Bool) (λy=>[(1,gQ l),(2,.sl 1 ((gu g l).map fI)),(3,.i side),(4,.ptr 0 0 0),(9,.fM 1 0 1 0 l.length),(10,.b y.2)]) (λy=>[.row 43 0 g.cells,.row 4 0 (cl fB y.1)]) (λy=>y.1.length=l.length) (λy=>2*uj y.1+(if y.2 then 1 else 0)) ?_ ?_
 .simp
 rintro⟨f,ch⟩ h0;dsimp only at h0 ⊢;cases ch
 .simp[h0];exact Ey.i f rfl rfl h0
 simp;refine fZ.e ((0,f,false):Int×List Bool×Bool) (λy=>[(1,gQ l),(2,.sl 1 ((gu g l).map fI)),(3,.i side),(4,.ptr 0 0 0),(9,.fM 1 0 1 0 l.length),(10,.b y.2.2),(11,.i y.1)]) (λy=>[.row 43 0 g.cells,.row 4 0 (cl fB y.2.1)]) (λy=>0<=y.1/\y.1<=l.length/\y.2.1.length=l.length/\uj y.2.1<=uj f/\(y.2.2=true->uj y.2.1<uj f)) (λy=>l.length-y.1.toNat) ?_ ?_
 .grind
 rintro⟨i,w,ch⟩ ⟨i0,A,m,q,p⟩;dsimp only at i0 A m q p ⊢
 by_cases hi:i<l.length
 .have o:=hl.ok _ (gq i0 hi);simp[hi];refine jU ?_ ?_<;>intro h
  .refine LJ.e (i+1,w,ch) ?_;dsimp only;exact gI ⟨m,q,p⟩
  .refine Yt (f112 g hg _ o) ?_;simp;have z:=h;refine fZ.e ((0,false,true):Int×Bool×Bool) (λy=>[(1,gQ l),(2,.sl 1 ((gu g l).map fI)),(3,.i side),(4,.ptr 0 0 0),(9,.fM 1 0 1 0 l.length),(10,.b ch),(11,.i i),(12,.ptr 2 0 0),(13,.b y.2.1),(14,.b y.2.2),(15,.i y.1)]) (λy=>[.row 43 0 g.cells,.row 4 0 (cl fB w),.row 193 0 [.i (stat g (gt l i)).1,.b (stat g (gt l i)).2]]) (λy=>0<=y.1/\y.1<=(gt (gu g l) i).length) (λy=>(gt (gu g l) i).length-y.1.toNat) ?_ ?_
   .simp
   rintro⟨k,j,al⟩ ⟨k0,k1⟩;dsimp only at k0 k1 ⊢
   by_cases n:k<(gt (gu g l) i).length
   .have F:=(t i i0 hi).2 _ (gq k0 n);have G:=u i i0 hi;generalize C:gt (gt (gu g l) i) k=x at *;cases j<;>cases al<;>simp[hi,n,C]<;>refine fQ ?_
    .refine LJ.e (k+1,gt w x,false) ?_;dsimp only;omega
    .refine LJ.e (k+1,gt w x,gt w x) ?_;dsimp only;omega
    .refine LJ.e (k+1,true,false) ?_;dsimp only;omega
    .refine LJ.e (k+1,true,gt w x) ?_;dsimp only;omega
   .have d:∀v,(pt w i v).length=w.length:=λv=>iH i0 (by omega);have e:∀v,gt (pt w i v) i=v:=λv=>Da i0 (by omega)
    have c:∀b:Bool,0<=i+1/\i+1<=l.length/\(pt w i b).length=l.length/\uj (pt w i b)<=uj f/\((ch||b)=true->uj (pt w i b)<uj f):=λb=>by
     have h1:=aez i0 (by omega) z b;refine⟨by omega,by omega,by rw[d];exact m,by omega,λH=>?_⟩;cases b
     .grind
     .grind
    cases ch
    .simp[hi,n];have c:∀b:Bool,_:=c;(with_reducible repeat' first|refine Xk ?_<;>try simp[d,e]|refine Xs ?_ ?_<;>intro h<;>(try intro B)<;>(try simp[h,d,e])<;>try omega|refine Xg ?_|omega)
     .refine Yt (f69 (stat g (gt l i)).1 _ o.side) ?_;simp[d,e];refine kM d e ?_;refine LJ.e (i+1,pt w i (!decide ((if (stat g (gt l i)).1=1 then(gt l i).side else if (stat g (gt l i)).1=3 then 1-(gt l i).side else -1)=1-side)),false || !decide ((if (stat g (gt l i)).1=1 then(gt l i).side else if (stat g (gt l i)).1=3 then 1-(gt l i).side else -1)=1-side)) ?_;exact o9 (c _)
     .refine LJ.e (i+1,pt w i j,false||j) ?_;exact o9 (c _)
     .refine LJ.e (i+1,pt w i al,false||al) ?_;exact o9 (c _)
    .simp[hi,n];have c:∀b:Bool,_:=c;(with_reducible repeat' first|refine Xk ?_<;>try simp[d,e]|refine Xs ?_ ?_<;>intro h<;>(try intro B)<;>(try simp[h,d,e])<;>try omega|refine Xg ?_|omega)
     .refine Yt (f69 (stat g (gt l i)).1 _ o.side) ?_;simp[d,e];refine kM d e ?_;refine LJ.e (i+1,pt w i (!decide ((if (stat g (gt l i)).1=1 then(gt l i).side else if (stat g (gt l i)).1=3 then 1-(gt l i).side else -1)=1-side)),true || !decide ((if (stat g (gt l i)).1=1 then(gt l i).side else if (stat g (gt l i)).1=3 then 1-(gt l i).side else -1)=1-side)) ?_;exact o9 (c _)
     .refine LJ.e (i+1,pt w i j,true||j) ?_;exact o9 (c _)
     .refine LJ.e (i+1,pt w i al,true||al) ?_;exact o9 (c _)
 .simp[hi];refine LJ.e (w,ch) ?_;dsimp only;refine⟨?_,m⟩;cases ch
  .simp;omega
  .grind
theorem f39(g:fY)(hg:gN g)(l:List Pos)(hl:oP g l)(v:List fO)(p:v.length=l.length):Wf T 72 [dG g,gQ l,.sl 1 ((gu g l).map fI),ie v] [] (Ey dI λ_=>True):=by
 have f:=hl.len;refine Yg K3 ?_;simp[K3];refine fZ.e ((0,[]):Int×List Int) (λy=>[(1,gQ l),(2,.sl 1 ((gu g l).map fI)),(3,ie v),(4,.ptr 0 0 0),(9,.fM 1 y.2.length 1 0 y.2.length),(10,.i y.1)]) (λy=>[.row 43 0 g.cells,.row 3 y.2.length (cl f1 y.2)]) (λy=>0<=y.1/\y.1<=v.length/\y.2.length=y.1.toNat) (λy=>v.length-y.1.toNat) ?_ ?_
 .simp
 rintro⟨i,w⟩ ⟨i0,n,m⟩;dsimp only at i0 n m ⊢;simp;(with_reducible repeat' first|refine Xk ?_<;>try simp|refine Xs ?_ ?_<;>intro h<;>(try intro k)<;>(try simp[h])<;>try omega|refine Xg ?_|omega)
 .refine LJ.e (i+1,w ++ [(gt v i).1]) ?_;exact gI (by simp;omega)
 .exact Ey.i w rfl rfl trivial
 .have c:=f68 g hg l hl 0 (by omega);simp only[dG,fY.cells]at c;rw[h]at c;refine gj.q rfl rfl c (by simp) (λr=>by simp[xB]) ?_;intro r o;simp;refine fZ.e ((0,w):Int×List Int) (λy=>[(1,gQ l),(3,ie v),(9,.fM 1 w.length 1 0 w.length),(11,.i 1),(12,.sl 1 (r.map fB)),(13,.i y.1)]) (λy=>[.row 43 0 g.cells,.row 3 w.length (cl f1 y.2)]) (λy=>0<=y.1/\y.1<=l.length/\y.2.length=w.length) (λy=>l.length-y.1.toNat) ?_ ?_
  .simp
  rintro⟨j,u⟩ ⟨j0,j1,j2⟩;dsimp only at j0 j1 j2 ⊢
  by_cases d:j<l.length
  .have a:∀x:Int,(pt u j x).length=u.length:=λx=>iH j0 (by omega);have b:∀x y:Int,pt (pt u j x) j y=pt u j y:=λx y=>ZR j0 (by omega);have e:=hl.ok _ (gq j0 d);simp[d];refine fQ ?_;refine Yt (f69 (gt v j).1 _ e.side) ?_;simp[a,b];(with_reducible repeat' first|refine Xk ?_<;>try simp[a,b]|refine Xs ?_ ?_<;>intro h<;>(try intro k)<;>(try simp[h,a,b])<;>try omega|refine Xg ?_|omega)
   all_goals first
    | (refine LJ.i (j+1,u) rfl rfl rfl rfl (gI (by first|exact j2|(dsimp only;rw[a];exact j2)));done)
    | (refine LJ.i (j+1,pt u j 2) rfl rfl rfl rfl (gI (by first|exact j2|(dsimp only;rw[a];exact j2)));done)
    | (refine LJ.i (j+1,pt u j 1) rfl rfl rfl rfl (gI (by first|exact j2|(dsimp only;rw[a];exact j2)));done)
    | (refine LJ.i (j+1,pt u j 3) rfl rfl rfl rfl (gI (by first|exact j2|(dsimp only;rw[a];exact j2)));done)
  .simp[d];exact Ey.i u (by simp[j2]) rfl trivial
 .have c:=f68 g hg l hl 1 (by omega);simp only[dG,fY.cells]at c;refine gj.q rfl rfl c (by simp) (λr=>by simp[xB]) ?_;intro r o;simp;refine fZ.e ((0,w):Int×List Int) (λy=>[(1,gQ l),(3,ie v),(9,.fM 1 w.length 1 0 w.length),(11,.i 0),(12,.sl 1 (r.map fB)),(13,.i y.1)]) (λy=>[.row 43 0 g.cells,.row 3 w.length (cl f1 y.2)]) (λy=>0<=y.1/\y.1<=l.length/\y.2.length=w.length) (λy=>l.length-y.1.toNat) ?_ ?_
  .simp
  rintro⟨j,u⟩ ⟨j0,j1,j2⟩;dsimp only at j0 j1 j2 ⊢
  by_cases d:j<l.length
  .have a:∀x:Int,(pt u j x).length=u.length:=λx=>iH j0 (by omega);have b:∀x y:Int,pt (pt u j x) j y=pt u j y:=λx y=>ZR j0 (by omega);have e:=hl.ok _ (gq j0 d);simp[d];refine fQ ?_;refine Yt (f69 (gt v j).1 _ e.side) ?_;simp[a,b];(with_reducible repeat' first|refine Xk ?_<;>try simp[a,b]|refine Xs ?_ ?_<;>intro h<;>(try intro k)<;>(try simp[h,a,b])<;>try omega|refine Xg ?_|omega)
   all_goals first
    | (refine LJ.i (j+1,u) rfl rfl rfl rfl (gI (by first|exact j2|(dsimp only;rw[a];exact j2)));done)
    | (refine LJ.i (j+1,pt u j 2) rfl rfl rfl rfl (gI (by first|exact j2|(dsimp only;rw[a];exact j2)));done)
    | (refine LJ.i (j+1,pt u j 1) rfl rfl rfl rfl (gI (by first|exact j2|(dsimp only;rw[a];exact j2)));done)
    | (refine LJ.i (j+1,pt u j 3) rfl rfl rfl rfl (gI (by first|exact j2|(dsimp only;rw[a];exact j2)));done)
  .simp[d];exact Ey.i u (by simp[j2]) rfl trivial
end Go.Proofs.YtmehofoficaelaaGreatDoor
namespace Go.AL
open Go
section
variable{P:D->Prop}{a b:Int}{k:IntKind}{t:Tag P}
@[simp low] theorem awd:oA (jN .rem k a b) P t=(b≠0/\P (.val (.int k (gp a b)))):=by
 cases t;simp only[jN]
 by_cases h:b=0<;>simp[h,gp]
def jT(k:IntKind)(a b:Int):Int:=k.wrap (a.tdiv b)
@[simp low] theorem awb:oA (jN .quo k a b) P t=(b≠0/\P (.val (.int k (jT k a b)))):=by
 cases t;simp only[jN]
 by_cases h:b=0<;>simp[h,jT]
end
@[simp] theorem atj{ρ:Nat->Option Nat}{H:U}{k:Nat}{t:TypeId}{a b:Int}:mG ρ H (k+1) 1 0 2 (some (t,[.i a,.i b]))=dI [a,b]:=by have h:=u6 (f:=f1) (ρ:=ρ) (H:=H) (k:=k) (t:=t) (l:=[a,b]) (n:=2) rfl;rw[nX]at h;simp only[List.map_cons,List.map_nil,C6,aX,ei,az,bQ,bp]at h;rw[h];unfold dI;simp only[List.map_cons,List.map_nil,C6]
end Go.AL
namespace Go.AL
open Go
@[irreducible] def fU(n:Int):List D:=[.val (.int .u8 n)]
@[simp] theorem y8(n:Int):fU n = [.val (.int .u8 n)]:=by unfold fU;rfl
instance:Fl fU 1:=⟨λ_=>by simp,λ_=>by simp[gw]⟩
def dU(l:List Int):D:=.sl 1 (l.map fU)
theorem xC(l:List Int):dU l = .sl 1 (l.map fU):=rfl
@[simp] theorem asv(l:List Int):closed (dU l)=true:=by unfold dU;exact xB l
@[simp] theorem au4(l:List Int)(H:U):mK .slice (dU l) H=some (.i l.length):=by simp[dU]
@[simp] theorem av5{l:List Int}{n:Int}{k:IntKind}{P:D->Prop}:oA (mB 1 (dU l) (.val (.int k n))) P .mk=((0<=n/\n<l.length)/\P (.gi [.val (.int .u8 (gt l n))])):=by unfold dU;rw[yk,y8]
@[simp] theorem ayR(n:Nat)(l:List Int):ji n (dU l) = []:=rfl
@[simp] theorem arK(l:List Int):cellsOf (dU l)=some [dU l]:=rfl
@[simp] theorem awE(l:List Int):one (dU l)=true:=rfl
structure wg(PC kinds gD:Int)(l:List fO):Prop where
 steps:∀x∈l,((x.1=1\/x.1=2\/x.1=7)/\0<=x.2/\x.2<PC)\/(3<=x.1/\x.1<=6/\x.2=0)\/(x.1=8/\0<=x.2/\x.2<kinds)\/((x.1=9\/x.1=10)/\0<=x.2/\x.2<gD)
 len:l.length<=8
 tT:ot l 6<=2
 push:ot l 7<=1
 LK:ot l 8<=1
@[simp] theorem aqE(a b:Int):jN .add .u8 a b=some (.val (.int .u8 (IntKind.u8.wrap (a+b)))):=rfl
@[simp] theorem aqP(a b:Int):jN .sub .u8 a b=some (.val (.int .u8 (IntKind.u8.wrap (a-b)))):=rfl
theorem aa9(n:Int):0<=IntKind.u8.wrap n/\IntKind.u8.wrap n<256:=by simp only[IntKind.wrap,IntKind.bits,IntKind.signed];simp;omega
theorem HU(a b:Int):0<=jT .u8 a b/\jT .u8 a b<256:=aa9 _
theorem acO{ρ:Nat->Option Nat}{H:U}{k n:Nat}{t:TypeId}{cs:List D}(l:List Int)(h:cs=l.map λn=>D.val (.int .u8 n))(c:n=l.length):mG ρ H (k+1) 1 0 n (some (t,cs))=dU l:=by
 subst c
 have e:cs=cl fU l:=by
  rw[h,nX];clear h
  induction l with
  | nil=>rfl
  | cons a r b=>simp[<-b]
 rw[e,u6 rfl];rfl
theorem ahj{sz:Nat}{es:List (List D)}{k:IntKind}{n:Int}{P:D->Prop}:oA (mB sz (.sl sz es) (.val (.int k n))) P .mk=((0<=n/\n<es.length)/\P (.gi (es.getD n.toNat []))):=by simp only[mB,true_and,BT,zW]
theorem oA.i{α:Type}{x:Option α}{P:α->Prop}{t:Tag P}{a:α}(h1:x=some a)(b:P a):oA x P t:=⟨a,h1,b⟩
end Go.AL
namespace Go.Proofs.YtmehofoficaelaaGreatDoor
open Go Go.AL Classical
set_option maxRecDepth 10000
set_option maxHeartbeats 4000000
theorem f192(l:List Int)(k:Int)(a:0<=k):Wf T 278 [dU l,.i k] [] (Is (.i (if k<l.length then IntKind.i64.wrap (gt l k)else 0))):=by
 refine Yg Ki ?_;simp[Ki];exact mE
 all_goals simp[*]
def yd(d o b k r:Int):List (List fO):=[[(1,d),(3,0)],[(1,d),(4,0),(6,0)],[(2,d)],[(2,d),(4,0),(6,0)],[(1,d),(4,0),(6,0),(1,d)],[(1,d),(1,o)],[(1,d),(7,d)],[(1,d),(3,0),(8,k)],[(9,r),(1,d),(1,d),(10,r)],[(1,d),(5,0),(1,d),(3,0)],[(10,r),(1,d)],[(1,d),(4,0),(6,0),(1,b)],[(1,d),(4,0),(6,0),(1,o),(4,0),(6,0)],[(2,d),(5,0),(1,d)],[(1,d),(4,0),(6,0),(8,k)],[(1,d),(7,d),(1,o)]]
theorem agH(d o b k r:Int)(i:0<=d/\d<8)(f:0<=o/\o<8)(j:0<=b/\b<8)(g:0<=k/\k<6)(e:0<=r/\r<4):∀p∈yd d o b k r,wg 8 6 4 p:=by
 have c:∀p:List fO,(∀x∈p,((x.1=1\/x.1=2\/x.1=7)/\0<=x.2/\x.2<8)\/(3<=x.1/\x.1<=6/\x.2=0)\/(x.1=8/\0<=x.2/\x.2<6)\/((x.1=9\/x.1=10)/\0<=x.2/\x.2<4))->p.length<=8/\ot p 6<=2/\ot p 7<=1/\ot p 8<=1->wg 8 6 4 p:=λp a b=>⟨a,b.1,b.2.1,b.2.2.1,b.2.2.2⟩;intro p h;unfold yd at h;simp only[aw,ef,or_false]at h;rcases h with rfl|rfl|rfl|rfl|rfl|rfl|rfl|rfl|rfl|rfl|rfl|rfl|rfl|rfl|rfl|rfl
 all_goals
  refine c _ ?_ ?_
  .simp;omega
  .simp[ot]
theorem agG(d o b k r m:Int)(h0:0<=m)(h1:m<16):([[D.sl 2 [[D.i 1,D.i d],[D.i 3,D.i 0]]],[D.sl 2 [[D.i 1,D.i d],[D.i 4,D.i 0],[D.i 6,D.i 0]]],[D.sl 2 [[D.i 2,D.i d]]],[D.sl 2 [[D.i 2,D.i d],[D.i 4,D.i 0],[D.i 6,D.i 0]]],[D.sl 2 [[D.i 1,D.i d],[D.i 4,D.i 0],[D.i 6,D.i 0],[D.i 1,D.i d]]],[D.sl 2 [[D.i 1,D.i d],[D.i 1,D.i o]]],[D.sl 2 [[D.i 1,D.i d],[D.i 7,D.i d]]],[D.sl 2 [[D.i 1,D.i d],[D.i 3,D.i 0],[D.i 8,D.i k]]],[D.sl 2 [[D.i 9,D.i r],[D.i 1,D.i d],[D.i 1,D.i d],[D.i 10,D.i r]]],[D.sl 2 [[D.i 1,D.i d],[D.i 5,D.i 0],[D.i 1,D.i d],[D.i 3,D.i 0]]],[D.sl 2 [[D.i 10,D.i r],[D.i 1,D.i d]]],[D.sl 2 [[D.i 1,D.i d],[D.i 4,D.i 0],[D.i 6,D.i 0],[D.i 1,D.i b]]],[D.sl 2 [[D.i 1,D.i d],[D.i 4,D.i 0],[D.i 6,D.i 0],[D.i 1,D.i o],[D.i 4,D.i 0],[D.i 6,D.i 0]]],[D.sl 2 [[D.i 2,D.i d],[D.i 5,D.i 0],[D.i 1,D.i d]]],[D.sl 2 [[D.i 1,D.i d],[D.i 4,D.i 0],[D.i 6,D.i 0],[D.i 8,D.i k]]],[D.sl 2 [[D.i 1,D.i d],[D.i 7,D.i d],[D.i 1,D.i o]]]].getD m.toNat [])[0]? = some (ie (gt (yd d o b k r) m)):=by
 rcases(show m=0\/m=1\/m=2\/m=3\/m=4\/m=5\/m=6\/m=7\/m=8\/m=9\/m=10\/m=11\/m=12\/m=13\/m=14\/m=15 by omega)with rfl|rfl|rfl|rfl|rfl|rfl|rfl|rfl|rfl|rfl|rfl|rfl|rfl|rfl|rfl|rfl
 all_goals simp[yd,gt,ie]
theorem f152(l:List Int)(hl:l.length=5)(h:∀n∈l,0<=n/\n<256):Wf T 228 [dU l] [] (Ey ie (wg 8 6 4)):=by
 have e:∀k:Int,0<=k->k<5->(if k<l.length then IntKind.i64.wrap (gt l k)else 0)=gt l k:=λk a b=>by rw[if_pos (by omega)];have:=h _ (gq (l:=l) a (by omega));exact mV im
 have c:∀k:Int,0<=k->k<5->0<=gt l k:=λk a b=>(h _ (gq (l:=l) a (by omega))).1;refine Yz ES (iO 121 [0,1,2,3,4,5,6,7,8,9,10,11,12,13,14,15,16,17,18,19,20,21,22,23,24,25,26,27,28] ES.body) ?_;simp[ES,iO,kh,mN,mQ,nf,lK];refine Yc (f192 l 1 (by omega)) ?_;simp[e 1 (by omega) (by omega)];refine Yc (f192 l 2 (by omega)) ?_;simp[e 2 (by omega) (by omega)];refine Yc (f192 l 3 (by omega)) ?_;simp[e 3 (by omega) (by omega)];refine Yc (f192 l 4 (by omega)) ?_;simp[e 4 (by omega) (by omega),mG,chunks];have q:=jt (a:=gt l 1) (b:=8) (c 1 (by omega) (by omega));have p:=jt (a:=gt l 2) (b:=8) (c 2 (by omega) (by omega));have o:=jt (a:=gt l 3) (b:=6) (c 3 (by omega) (by omega));have j:=jt (a:=gt l 4) (b:=4) (c 4 (by omega) (by omega));have r:=jt (a:=gt l 0) (b:=16) (c 0 (by omega) (by omega));have i:=jt (a:=gp (gt l 1) 8+4) (b:=8) (by omega);have d:IntKind.i64.wrap (gt l 0)=gt l 0:=by grind
 refine fQ ?_;refine Yc (f192 l 0 (by omega)) ?_;simp[hl,d,ahj,mG,chunks];refine fQ ?_;have f:=agH (gp (gt l 1) 8) (gp (gt l 2) 8) (gp (gp (gt l 1) 8+4) 8) (gp (gt l 3) 6) (gp (gt l 4) 4) (by omega) (by omega) (by omega) (by omega) (by omega);have g:(yd (gp (gt l 1) 8) (gp (gt l 2) 8) (gp (gp (gt l 1) 8+4) 8) (gp (gt l 3) 6) (gp (gt l 4) 4)).length=16:=rfl;have hg:∀m:Int,0<=m->m<16->gt (yd (gp (gt l 1) 8) (gp (gt l 2) 8) (gp (gp (gt l 1) 8+4) 8) (gp (gt l 3) 6) (gp (gt l 4) 4)) m∈yd (gp (gt l 1) 8) (gp (gt l 2) 8) (gp (gp (gt l 1) 8+4) 8) (gp (gt l 3) 6) (gp (gt l 4) 4):=λm a b=>gq a (by omega);refine oA.i (a:=ie (gt (yd (gp (gt l 1) 8) (gp (gt l 2) 8) (gp (gp (gt l 1) 8+4) 8) (gp (gt l 3) 6) (gp (gt l 4) 4)) (gp (gt l 0) 16))) ?_ ?_
 .exact agG _ _ _ _ _ _ (by omega) (by omega)
 .simp;exact Ey.i (gt (yd (gp (gt l 1) 8) (gp (gt l 2) 8) (gp (gp (gt l 1) 8+4) 8) (gp (gt l 3) 6) (gp (gt l 4) 4)) (gp (gt l 0) 16)) rfl rfl (f _ (hg _ (by omega) (by omega)))
set_option maxHeartbeats 1000000
theorem FF(l:List fO)(x:fO)(op:Int):ot (l ++ [x]) op=ot l op+(if x.1=op then 1 else 0):=by unfold ot;rw[cU];simp[cP];split<;>rfl
def sv(a kinds gD:Int)(x:fO):Prop:=((x.1=1\/x.1=2\/x.1=7)/\0<=x.2/\x.2<a)\/(3<=x.1/\x.1<=6/\x.2=0)\/(x.1=8/\0<=x.2/\x.2<kinds)\/((x.1=9\/x.1=10)/\0<=x.2/\x.2<gD)
structure Ao(p:List fO)(kinds gD:Int)(i:Int)(out:List fO):Prop where
 i0:0<=i/\i<=p.length
 steps:∀x∈out,sv 8 kinds gD x
 Po:∀op,ot out op<=ot (p.take i.toNat) op
 len:out.length<=i.toNat
theorem Ao.add{p:List fO}{kinds gD i:Int}{out:List fO}(h:Ao p kinds gD i out)(hi:i<p.length){x:fO}(c:sv 8 kinds gD x)(b:x.1=(gt p i).1):Ao p kinds gD (i+1) (out ++ [x]):=by
 have h0:=h.i0;refine⟨by omega,λy a=>?_,λop=>?_,by have:=h.len;simp;omega⟩
 .rcases List.mem_append.1 a with a|a
  .exact h.steps y a
  .grind
 .rw[jd h0.1 hi,FF,FF,b];have:=h.Po op;omega
theorem Ao.skip{p:List fO}{kinds gD i:Int}{out:List fO}(h:Ao p kinds gD i out)(hi:i<p.length):Ao p kinds gD (i+1) out:=by have h0:=h.i0;refine⟨by omega,h.steps,λop=>?_,by have:=h.len;omega⟩;rw[jd h0.1 hi,FF];have:=h.Po op;split<;>omega
theorem f151(p:List fO)(kinds gD:Int)(e:wg 8 6 4 p)(q:1<=kinds/\kinds<=6)(o:0<=gD/\gD<=4):Wf T 227 [ie p,.i 8,.i kinds,.i gD] [] (Ey ie λr=>wg 8 kinds gD r/\1<=r.length):=by
 have hl:=e.len;refine Yg J2 ?_;simp[J2];refine fZ.e ((0,[]):Int×List fO) (λy=>[(0,ie p),(1,.i 8),(2,.i kinds),(3,.i gD),(9,.fM 0 y.2.length 2 0 y.2.length),(10,.i y.1)]) (λy=>[.row 173 y.2.length (cl fS y.2)]) (λy=>Ao p kinds gD y.1 y.2) (λy=>p.length-y.1.toNat) ?_ ?_
 .exact⟨by simp,by simp,by simp,by simp⟩
 rintro⟨i,out⟩ c;have h0:=c.i0;have k:=c.len;dsimp only at c h0 k ⊢
 by_cases hi:i<p.length
 .have n:=e.steps _ (gq h0.1 hi);have d:=λ(x:fO)=>c.add hi (x:=x)
  have a:∀b:Int,0<b->0<=(gt p i).2->0<=gp (gt p i).2 b/\gp (gt p i).2 b<b:=λb h1 l=>by rw[jt l];exact⟨bW _ (by omega),bO _ h1⟩
  simp[hi];(with_reducible repeat' first|refine Xk ?_<;>try simp|refine Xs ?_ ?_<;>intro h<;>(try intro s)<;>(try simp[h])<;>try omega|refine Xg ?_|omega)
  .refine LJ.e (i+1,out ++ [(1,gp (gt p i).2 8)]) ?_;have j:=a 8 (by omega);have g:=a kinds (by omega);exact o9 (d _ (by unfold sv;dsimp only;omega) (by dsimp only;omega))
  .refine LJ.e (i+1,out ++ [(2,gp (gt p i).2 8)]) ?_;have j:=a 8 (by omega);have g:=a kinds (by omega);exact o9 (d _ (by unfold sv;dsimp only;omega) (by dsimp only;omega))
  .refine LJ.e (i+1,out ++ [(7,gp (gt p i).2 8)]) ?_;have j:=a 8 (by omega);have g:=a kinds (by omega);exact o9 (d _ (by unfold sv;dsimp only;omega) (by dsimp only;omega))
  .refine LJ.e (i+1,out ++ [(8,gp (gt p i).2 kinds)]) ?_;have j:=a 8 (by omega);have g:=a kinds (by omega);exact o9 (d _ (by unfold sv;dsimp only;omega) (by dsimp only;omega))
  .refine LJ.i (i+1,out) (by first|rfl|simp[*]) (by first|rfl|simp[*]) rfl rfl ?_;exact o9 (c.skip hi)
  .have m:=a gD (by omega);refine LJ.e (i+1,out ++ [((gt p i).1,gp (gt p i).2 gD)]) ?_;exact o9 (d _ (by unfold sv;dsimp only;omega) (by dsimp only))
  .refine LJ.i (i+1,out) (by first|rfl|simp[*]) (by first|rfl|simp[*]) rfl rfl ?_;exact o9 (c.skip hi)
  .have m:=a gD (by omega);refine LJ.e (i+1,out ++ [((gt p i).1,gp (gt p i).2 gD)]) ?_;exact o9 (d _ (by unfold sv;dsimp only;omega) (by dsimp only))
  .refine LJ.e (i+1,out ++ [gt p i]) ?_;exact o9 (d _ (by unfold sv;omega) rfl)
 .simp[hi];have f:=c.Po;rw[kW (by omega)]at f;refine jU ?_ ?_<;>intro h
  .refine Ey.i [(3,0)] (by simp[ie]) rfl ⟨⟨by simp,by simp,by simp[ot],by simp[ot],by simp[ot]⟩,by simp⟩
  .refine Ey.i out rfl rfl ⟨⟨c.steps,by omega,fL (f 6) e.tT,fL (f 7) e.push,fL (f 8) e.LK⟩,?_⟩;exact ax.2 (by simpa using h)
theorem f105(n kinds gD:Int)(i:0<=n/\n<256)(d:1<=kinds/\kinds<=6)(a:0<=gD/\gD<=4):Wf T 160 [.val (.int .u8 n),.i 8,.i kinds,.i gD] [] (Ey ie λr=>wg 8 kinds gD r/\1<=r.length):=by
 refine Yz EM (kh 21 [0] EM.body) ?_;simp[EM,iO,kh,mN,mQ,nf,lK];have f:∀ρ H,mG ρ H 39 1 0 5 (some (5,[.val (.int .u8 n),.val (.int .u8 (jT .u8 n 16)),.val (.int .u8 (IntKind.u8.wrap (jT .u8 n 16+gp n 5))),.val (.int .u8 (jT .u8 n 3)),.val (.int .u8 n)]))=dU [n,jT .u8 n 16,IntKind.u8.wrap (jT .u8 n 16+gp n 5),jT .u8 n 3,n]:=λρ H=>acO _ rfl rfl;rw[f];have g:=HU n 16;have k:=HU n 3;have h:=aa9 (jT .u8 n 16+gp n 5);have e:∀m∈[n,jT .u8 n 16,IntKind.u8.wrap (jT .u8 n 16+gp n 5),jT .u8 n 3,n],0<=m/\m<256:=λm j=>by grind
 refine Yq (f152 _ rfl e) λp c=>?_;simp;refine Yq (f151 p kinds gD c d a) λq b=>?_;simp;exact Ey.i q rfl rfl b
def BO(n:Int)(nx:List (List Int))(tn:List Int):fY:={ (default:fY)with size:=n,next:=nx,jn:=tn }
def bD(n:Int)(nx:List (List Int))(tn:List Int):D:=.agg [.i n,.sl 1 (nx.map fI),dI tn]
theorem f150(n:Int)(nx:List (List Int))(tn:List Int)(d:oo (BO n nx tn))(c:Int)(w:0<=c/\c<n):Wf T 226 [bD n nx tn,.i c] [] (Ey (λx:List (List Int)=>.tup [bD n x tn,.i 0]) λx=>oo (BO n x tn)):=by
 have v:1<=n/\n<=9:=d.size;have a:nx.length=8:=d.next
 have u:tn.length=8:=d.jn;have t:∀l∈nx,(l.length:Int)=n/\∀x∈l,-1<=x/\x<n:=d.row;refine Yz ER (kh 63 [1008] ER.body) ?_;simp[ER,iO,kh,mN,mQ,nf,lK,bD];(with_reducible repeat' first|refine Xk ?_<;>try simp|refine Xs ?_ ?_<;>intro h<;>(try intro m)<;>(try simp[h])<;>try omega|refine Xg ?_|omega);refine fZ.e ((0,0,[]):Int×Nat×List (List Int)) (λy=>[(1,.i c),(2,.ptr 0 0 0),(4,.ptr 1 0 0),(6,.ptr 3 0 0),(7,.i y.1)]) (λy=>.row 39 0 [.i n,.sl 1 (nx.map fI),dI tn] :: .row 39 0 [.i 0,.fX,.fX] :: .row 3 1 (cl f1 tn) :: .row 39 0 [.i n,(if y.1=0 then .fX else .fM 4 y.2.1 1 0 y.2.2.length),.fM 2 1 1 0 tn.length]::(if y.1=0 then []else [.row 37 y.2.1 (cl fI y.2.2)])) (λy=>0<=y.1/\y.1<=8/\y.2.2.length=y.1.toNat/\∀l∈y.2.2,(l.length:Int)=n/\∀x∈l,-1<=x/\x<n) (λy=>8-y.1.toNat) ?_ ?_
 .simp
 rintro⟨i,g,out⟩ ⟨i0,r,q,f⟩;dsimp only at i0 r q f ⊢
 by_cases hi:i<nx.length
 .have o:=t _ (gq (l:=nx) i0 hi)
  by_cases b:i=0
  .have p:out = []:=ay.1 (by omega);subst b;subst p;simp[a];refine fZ.e ((0,[]):Int×List Int) (λy=>[(1,.i c),(2,.ptr 0 0 0),(4,.ptr 1 0 0),(6,.ptr 3 0 0),(7,.i 0),(8,.fM 4 y.2.length 1 0 y.2.length),(9,.i y.1)]) (λy=>[.row 39 0 [.i n,.sl 1 (nx.map fI),dI tn],.row 39 0 [.i 0,.fX,.fX],.row 3 1 (cl f1 tn),.row 39 0 [.i n,.fX,.fM 2 1 1 0 tn.length],.row 3 y.2.length (cl f1 y.2)]) (λy=>0<=y.1/\y.1<=n/\y.2.length=y.1.toNat/\∀x∈y.2,-1<=x/\x<n) (λy=>n.toNat-y.1.toNat) ?_ ?_
   .simp;omega
   rintro⟨j,row⟩ ⟨j0,j1,j2,j3⟩;dsimp only at j0 j1 j2 j3 ⊢
   by_cases e:j<n
   .have s:=o.2 _ (gq (l:=gt nx 0) j0 (by omega));simp[a,e];(with_reducible repeat' first|refine Xk ?_<;>try simp|refine Xs ?_ ?_<;>intro h<;>(try intro m)<;>(try simp[h])<;>try omega|refine Xg ?_|omega)
    .refine LJ.i (j+1,row ++ [-1]) (by first|rfl|simp[*]) (by first|rfl|simp[*]) rfl rfl ?_;dsimp only;refine⟨by omega,by omega,by omega,by simp;omega,λx a=>?_⟩;rcases List.mem_append.1 a with a|a
     .exact j3 x a
     .grind
    .refine LJ.i (j+1,row ++ [-1]) (by first|rfl|simp[*]) (by first|rfl|simp[*]) rfl rfl ?_;dsimp only;refine⟨by omega,by omega,by omega,by simp;omega,λx a=>?_⟩;rcases List.mem_append.1 a with a|a
     .exact j3 x a
     .grind
    .refine LJ.e (j+1,row ++ [gt (gt nx 0) j]) ?_;dsimp only;refine⟨by omega,by omega,by omega,by simp;omega,λx a=>?_⟩;rcases List.mem_append.1 a with a|a
     .exact j3 x a
     .grind
   .simp[a,e];refine fQ ?_;refine LJ.i (1,0,[row]) (by first|rfl|simp[iI]) (by first|rfl|simp[iI]) rfl rfl ?_;dsimp only;refine⟨by omega,by omega,by omega,by simp,λx a=>?_⟩;have k:(row.length:Int)=n/\∀x∈row,-1<=x/\x<n:=⟨by omega,j3⟩;rw[List.mem_singleton]at a;rw[a];exact k
  .simp[hi,b];refine fZ.e ((0,[]):Int×List Int) (λy=>[(1,.i c),(2,.ptr 0 0 0),(4,.ptr 1 0 0),(6,.ptr 3 0 0),(7,.i i),(8,.fM 5 y.2.length 1 0 y.2.length),(9,.i y.1)]) (λy=>[.row 39 0 [.i n,.sl 1 (nx.map fI),dI tn],.row 39 0 [.i 0,.fX,.fX],.row 3 1 (cl f1 tn),.row 39 0 [.i n,.fM 4 g 1 0 out.length,.fM 2 1 1 0 tn.length],.row 37 g (cl fI out),.row 3 y.2.length (cl f1 y.2)]) (λy=>0<=y.1/\y.1<=n/\y.2.length=y.1.toNat/\∀x∈y.2,-1<=x/\x<n) (λy=>n.toNat-y.1.toNat) ?_ ?_
   .simp;omega
   rintro⟨j,row⟩ ⟨j0,j1,j2,j3⟩;dsimp only at j0 j1 j2 j3 ⊢
   by_cases e:j<n
   .have s:=o.2 _ (gq (l:=gt nx i) j0 (by omega));simp[hi,e,b];(with_reducible repeat' first|refine Xk ?_<;>try simp[b]|refine Xs ?_ ?_<;>intro h<;>(try intro m)<;>(try simp[h,b])<;>try omega|refine Xg ?_|omega)
    .refine LJ.i (j+1,row ++ [-1]) (by first|rfl|simp[*]) (by first|rfl|simp[*]) rfl rfl ?_;dsimp only;refine⟨by omega,by omega,by omega,by simp;omega,λx a=>?_⟩;rcases List.mem_append.1 a with a|a
     .exact j3 x a
     .grind
    .refine LJ.i (j+1,row ++ [-1]) (by first|rfl|simp[*]) (by first|rfl|simp[*]) rfl rfl ?_;dsimp only;refine⟨by omega,by omega,by omega,by simp;omega,λx a=>?_⟩;rcases List.mem_append.1 a with a|a
     .exact j3 x a
     .grind
    .refine LJ.e (j+1,row ++ [gt (gt nx i) j]) ?_;dsimp only;refine⟨by omega,by omega,by omega,by simp;omega,λx a=>?_⟩;rcases List.mem_append.1 a with a|a
     .exact j3 x a
     .grind
   .simp[e,b];refine jH b ?_;refine LJ.i (i+1,g+1,out ++ [row]) (by first|rfl|simp[show¬(i+1=0)by omega]) (by first|rfl|simp[show¬(i+1=0)by omega]) rfl rfl ?_;dsimp only;refine⟨by omega,by omega,by omega,by simp;omega,λx a=>?_⟩;have k:(row.length:Int)=n/\∀x∈row,-1<=x/\x<n:=⟨by omega,j3⟩;rcases List.mem_append.1 a with a|a
    .exact f x a
    .grind
 .simp[hi,show¬i=0 by omega];exact Ey.i out (by simp) rfl ⟨d.size,by show out.length=8;omega,f,d.jn,d.turns⟩
