/- 38 -/
import Derived.Test.YtmehofoficaelaaGreatDoorV37
set_option linter.all false
open List renaming length→List.l
namespace Go.Proofs.YtmehofoficaelaaGreatDoor
open Go Go.AL Classical
structure tu(cl:List gV)(i:Int)(w:gg->Bool)(seen:List Nat)(out:List Int):Prop where
 nd:seen.Nodup
 lt:∀t∈seen,t<(gU cl i).l
 OJ:out.Nodup
 mem:∀k,k∈out↔∃t∈seen,∃x,(gU cl i)[t]? = some x/\w x.1=true/\k∈x.2
section
variable{cl:List gV}{i:Int}{w:gg->Bool}{seen:List Nat}{out:List Int}
theorem Nn{t:Nat}{x:gg×List Int}(h:(gU cl i)[t]? = some x):x.2=km (λc=>mR c i&&decide (mb c i=x.1)) cl cl.l/\x.2≠[]:=
 QG (List.mem_of_getElem? h)
theorem GV{t:Nat}{x:gg×List Int}{k:Int}(h:(gU cl i)[t]? = some x):k∈x.2↔(0<=k/\k<cl.l)/\mR (gt cl k) i=true/\mb (gt cl k) i=x.1:=by rw[(Nn h).1,An];simp
theorem afu{t u:Nat}{x y:gg×List Int}(h:(gU cl i)[t]? = some x)(d:(gU cl i)[u]? = some y)(e:x.1=y.1):t=u:=by
 have c:((gU cl i).map (·.1)).Nodup:=GR _;have a:((gU cl i).map (·.1))[t]? = some x.1:=by rw[ax,h];rfl
 have b:((gU cl i).map (·.1))[u]? = some x.1:=by rw[ax,d,e];rfl
 obtain⟨p,a⟩:=ae.1 a;obtain⟨q,b⟩:=ae.1 b;exact(List.getElem_inj c).1 (a.trans b.symm)
theorem tu.start:tu cl i w [] []:=⟨.nil,λ_ h=>(by cases h),.nil,λk=>fZ⟩
theorem IZ{n t:Nat}(nd:seen.Nodup)(lt:∀t∈seen,t<n)(d:t<n)(e:t ∉ seen):(seen ++ [t]).Nodup/\(∀u∈seen ++ [t],u<n)/\(seen ++ [t]).l<=n:=by have h1:(seen ++ [t]).Nodup:=jS;have a:∀u∈seen ++ [t],u<n:=λu c=>jS;have:=IA h1 (m:=List.range n) λx b=>bp.2 (a x b);rw[List.length_range]at this;exact⟨h1,a,this⟩
theorem tu.step(h:tu cl i w seen out){t:Nat}{x:gg×List Int}(j:(gU cl i)[t]? = some x)(l:t ∉ seen):tu cl i w (seen ++ [t]) (if w x.1=true then out++x.2 else out):=by
 have s:=(ae.1 j).1;obtain⟨h1,d,_⟩:=IZ h.nd h.lt s l
 have m:∀k,k∈(if w x.1=true then out++x.2 else out)↔∃u∈seen ++ [t],∃y,(gU cl i)[u]? = some y/\w y.1=true/\k∈y.2:=λk=>by
  constructor
  .intro g
   by_cases f:w x.1=true
   .rw[if_pos f,aj,h.mem]at g;rcases g with⟨u,c,y,h1,d⟩|g
    .grind
    .grind
   .rw[if_neg f,h.mem]at g;obtain⟨u,c,y,h1,d⟩:=g;exact⟨u,bz _ c,y,h1,d⟩
  .rintro⟨u,c,y,h1,d,p⟩;rcases aj.1 c with c|c
   .have:k∈out:=(h.mem k).2 ⟨u,c,y,h1,d,p⟩;split
    .grind
    .exact this
   .grind
 refine⟨h1,d,?_,m⟩
 by_cases f:w x.1=true
 .rw[if_pos f,cP];refine⟨h.OJ,?_,λa o b n e=>?_⟩
  .rw[(Nn j).1];exact(EK _ _ _).imp λh e=>U
  .subst e;obtain⟨u,c,y,q1,q2,q3⟩:=(h.mem a).1 o;have r:=((GV j).1 n).2.2;have q:=((GV q1).1 q3).2.2;have:=afu j q1 (r.symm.trans q);rw[this]at l;exact l c
 .rw[if_neg f];exact h.OJ
theorem tu.bnd(h:tu cl i w seen out):∀k∈out,0<=k/\k<cl.l:=λk a=>by obtain⟨t,_,x,h1,_,b⟩:=(h.mem k).1 a;exact((GV h1).1 b).1
theorem tu.len(h:tu cl i w seen out):out.l<=cl.l:=Ax _ _ h.OJ h.bnd
theorem tu.done(h:tu cl i w seen out)(n:∀t,t<(gU cl i).l->t∈seen):out.mergeSort (λx y=>decide (x<=y))=km (λc=>mR c i&&w (mb c i)) cl cl.l:=by
 have g:=List.mergeSort_perm out (λx y=>decide (x<=y));have j:(out.mergeSort (λx y=>decide (x<=y))).Nodup:=g.nodup_iff.2 h.OJ
 have hs:(out.mergeSort (λx y=>decide (x<=y))).Pairwise λx y=>decide (x<=y)=true:=
  fy (λa b c h1 d=>by simp only[decide_eq_true_eq]at h1 d ⊢;omega) (λa b=>by simp only[bX,decide_eq_true_eq];omega) out
 refine Ff ((hs.and j).imp λ⟨h1,d⟩=>by simp only[decide_eq_true_eq]at h1;omega) (EK _ _ _) λk=>?_;rw[g.mem_iff,h.mem,An];constructor
 .rintro⟨t,f,x,h1,d,o⟩;have:=(GV h1).1 o;exact⟨this.1,by rw[this.2.1,this.2.2,d];rfl⟩
 .rintro⟨h1,d⟩;rw[ai]at d;have m:mb (gt cl k) i∈(gU cl i).map (·.1):=x9.2 (xx.2 ⟨_,gF h1.1 h1.2,d.1,rfl⟩);obtain⟨x,l,e⟩:=az.1 m;obtain⟨t,f⟩:=aD.1 l;exact⟨t,n t (ae.1 f).1,x,f,by rw[e];exact d.2,(GV f).2 ⟨h1,d.1,e.symm⟩⟩
def wh(G:kn)(seen:List Nat):List gg:=seen.map λt=>((G[t]?).map (·.1)).getD (0,0)
theorem agZ{G:kn}{t:Nat}{x:gg×List Int}(h:G[t]? = some x):wh G (seen ++ [t])=wh G seen ++ [x.1]:=by unfold wh;rw[List.map_append,List.map_singleton,h];rfl
theorem agY(c:∀t,t<(gU cl i).l->t∈seen)(lt:∀t∈seen,t<(gU cl i).l)(r:gg):r∈wh (gU cl i) seen↔r∈sd cl i:=by
 rw[<-x9];unfold wh;rw[az,az];constructor
 .grind
 .rintro⟨x,b,e⟩;obtain⟨t,a⟩:=aD.1 b;exact⟨t,c t (ae.1 a).1,by rw[a];exact e⟩
end
theorem W3{p q:gV->Bool}{s:gV->gg}{cl:List gV}:∀ {n:Nat},(∀k:Int,0<=k->k<n->p (gt cl k)=q (gt cl k))->px p s cl n=px q s cl n
 | 0,_=>rfl
 | n+1,h=>by rw[px,px,h n U U,W3 λk k0 k1=>h k k0 U]
def hM(ad:gV->Bool)(cl:List gV)(k:Nat)(j:Nat):kn:=px (λc=>ad c&&mR c (j:Int)) (λc=>mb c (j:Int)) cl k
def hP(ad:gV->Bool)(cl:List gV)(k e:Nat)(j:Nat):kn:=
 if (gt cl (k:Int)).lo<=(j:Int)/\(j:Int)<(gt cl (k:Int)).lo+e then oi (mb (gt cl (k:Int)) (j:Int)) k (hM ad cl k j)else hM ad cl k j
section
variable{ad:gV->Bool}{cl:List gV}{k:Nat}
theorem afH:hP ad cl k 0=hM ad cl k:=funext λj=>if_neg U
theorem Xt{e:Nat}(h0:0<=(gt cl (k:Int)).lo):hP ad cl k e ((gt cl (k:Int)).lo.toNat+e)=hM ad cl k ((gt cl (k:Int)).lo.toNat+e):=if_neg U
theorem afG{e:Nat}(h0:0<=(gt cl (k:Int)).lo):hP ad cl k (e+1)=wD (hP ad cl k e) ((gt cl (k:Int)).lo.toNat+e) (oi (gt (gt cl (k:Int)).es (e:Int)) k (hP ad cl k e ((gt cl (k:Int)).lo.toNat+e))):=funext λj=>by
 unfold wD
 by_cases a:j=(gt cl (k:Int)).lo.toNat+e
 .rw[if_pos a];subst a;rw[Xt h0];unfold hP;rw[if_pos U];unfold mb;congr 2;omega
 .rw[if_neg a];unfold hP
  by_cases h:(gt cl (k:Int)).lo<=(j:Int)/\(j:Int)<(gt cl (k:Int)).lo+e
  .grind
  .grind
theorem afF(c:ad (gt cl (k:Int))=true){e:Nat}(a:(gt cl (k:Int)).hi=(gt cl (k:Int)).lo+e):hP ad cl k e=hM ad cl (k+1):=funext λj=>by
 unfold hP;show _=hM ad cl (k+1) j
 conv=>rhs;unfold hM;rw[px]
 have b:(ad (gt cl (k:Int))&&mR (gt cl (k:Int)) (j:Int))=decide ((gt cl (k:Int)).lo<=(j:Int)/\(j:Int)<(gt cl (k:Int)).lo+e):=by rw[c,eW];unfold mR;rw[a]
 rw[b]
 by_cases h:(gt cl (k:Int)).lo<=(j:Int)/\(j:Int)<(gt cl (k:Int)).lo+e
 .rw[if_pos h,if_pos (by simpa using h)];rfl
 .rw[if_neg h,if_neg (by simpa using h)];rfl
theorem afE(a:ad (gt cl (k:Int))=false):hM ad cl (k+1)=hM ad cl k:=funext λj=>by unfold hM;rw[px,if_neg (by simp[a])]
theorem afD(a:∀c∈cl,ad c=true)(j:Nat):hM ad cl cl.l j=gU cl (j:Int):=by unfold hM gU;exact W3 λk k0 k1=>by rw[a _ (gF k0 k1),eW]
