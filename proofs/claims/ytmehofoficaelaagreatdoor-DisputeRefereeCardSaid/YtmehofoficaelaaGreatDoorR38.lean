/- Part 38 of DisputeReferee. -/
import Derived.Test.YtmehofoficaelaaGreatDoorR37
set_option linter.all false
namespace Go.Proofs.YtmehofoficaelaaGreatDoor
open Go Go.AL Classical
structure sx(cl:List gp)(i:Int)(w:fE->Bool)(seen:List Nat)(out:List Int):Prop where
 nd:seen.Nodup
 lt:∀t∈seen,t<(gH cl i).length
 Mp:out.Nodup
 mem:∀k,k∈out↔∃t∈seen,∃x,(gH cl i)[t]? = some x/\w x.1=true/\k∈x.2
section
variable{cl:List gp}{i:Int}{w:fE->Bool}{seen:List Nat}{out:List Int}
theorem Ld{t:Nat}{x:fE×List Int}(h:(gH cl i)[t]? = some x):x.2=jI (λc=>ie c i&&decide (iW c i=x.1)) cl cl.length/\x.2≠[]:=
 Ou (List.mem_of_getElem? h)
theorem EP{t:Nat}{x:fE×List Int}{k:Int}(h:(gH cl i)[t]? = some x):k∈x.2↔(0<=k/\k<cl.length)/\ie (gt cl k) i=true/\iW (gt cl k) i=x.1:=by rw[(Ld h).1,yY];simp
theorem acS{t u:Nat}{x y:fE×List Int}(h:(gH cl i)[t]? = some x)(d:(gH cl i)[u]? = some y)(e:x.1=y.1):t=u:=by
 have c:((gH cl i).map (·.1)).Nodup:=EO _;have a:((gH cl i).map (·.1))[t]? = some x.1:=by rw[ar,h];rfl
 have b:((gH cl i).map (·.1))[u]? = some x.1:=by rw[ar,d,e];rfl
 obtain⟨p,a⟩:=ae.1 a;obtain⟨q,b⟩:=ae.1 b;exact(List.getElem_inj c).1 (a.trans b.symm)
theorem sx.start:sx cl i w [] []:=⟨.nil,λ_ h=>(by cases h),.nil,λk=>by simp⟩
theorem MN{n t:Nat}(nd:seen.Nodup)(lt:∀t∈seen,t<n)(d:t<n)(e:t ∉ seen):(seen ++ [t]).Nodup/\(∀u∈seen ++ [t],u<n)/\(seen ++ [t]).length<=n:=by
 have h1:(seen ++ [t]).Nodup:=by grind
 have a:∀u∈seen ++ [t],u<n:=λu c=>by grind
 have:=Gc h1 (m:=List.range n) λx b=>a8.2 (a x b);rw[List.length_range]at this;exact⟨h1,a,this⟩
theorem sx.step(h:sx cl i w seen out){t:Nat}{x:fE×List Int}(j:(gH cl i)[t]? = some x)(l:t ∉ seen):sx cl i w (seen ++ [t]) (if w x.1=true then out++x.2 else out):=by
 have m:=(ae.1 j).1;obtain⟨h1,d,_⟩:=MN h.nd h.lt m l
 have n:∀k,k∈(if w x.1=true then out++x.2 else out)↔∃u∈seen ++ [t],∃y,(gH cl i)[u]? = some y/\w y.1=true/\k∈y.2:=λk=>by
  constructor
  .intro g
   by_cases f:w x.1=true
   .rw[if_pos f,List.mem_append,h.mem]at g;rcases g with⟨u,c,y,h1,d⟩|g
    .grind
    .grind
   .rw[if_neg f,h.mem]at g;obtain⟨u,c,y,h1,d⟩:=g;exact⟨u,bz _ c,y,h1,d⟩
  .rintro⟨u,c,y,h1,d,q⟩;rcases List.mem_append.1 c with c|c
   .have:k∈out:=(h.mem k).2 ⟨u,c,y,h1,d,q⟩;split
    .grind
    .exact this
   .grind
 refine⟨h1,d,?_,n⟩
 by_cases f:w x.1=true
 .rw[if_pos f,c9];refine⟨h.Mp,?_,λa p b o e=>?_⟩
  .rw[(Ld j).1];exact(AX _ _ _).imp λh e=>by omega
  .subst e;obtain⟨u,c,y,q1,q2,q3⟩:=(h.mem a).1 p;have s:=((EP j).1 o).2.2;have r:=((EP q1).1 q3).2.2;have:=acS j q1 (s.symm.trans r);rw[this]at l;exact l c
 .rw[if_neg f];exact h.Mp
theorem sx.ZF(h:sx cl i w seen out):∀k∈out,0<=k/\k<cl.length:=λk a=>by obtain⟨t,_,x,h1,_,b⟩:=(h.mem k).1 a;exact((EP h1).1 b).1
theorem sx.len(h:sx cl i w seen out):out.length<=cl.length:=A8 _ _ h.Mp h.ZF
theorem sx.done(h:sx cl i w seen out)(n:∀t,t<(gH cl i).length->t∈seen):out.mergeSort (λx y=>decide (x<=y))=jI (λc=>ie c i&&w (iW c i)) cl cl.length:=by
 have g:=List.mergeSort_perm out (λx y=>decide (x<=y));have j:(out.mergeSort (λx y=>decide (x<=y))).Nodup:=g.nodup_iff.2 h.Mp
 have hs:(out.mergeSort (λx y=>decide (x<=y))).Pairwise λx y=>decide (x<=y)=true:=
  List.pairwise_mergeSort (λa b c h1 d=>by simp only[decide_eq_true_eq]at h1 d ⊢;omega) (λa b=>by simp only[bY,decide_eq_true_eq];omega) out
 refine GR ((hs.and j).imp λ⟨h1,d⟩=>by simp only[decide_eq_true_eq]at h1;omega) (AX _ _ _) λk=>?_;rw[g.mem_iff,h.mem,yY];constructor
 .rintro⟨t,f,x,h1,d,o⟩;have:=(EP h1).1 o;exact⟨this.1,by rw[this.2.1,this.2.2,d];rfl⟩
 .rintro⟨h1,d⟩;rw[Bool.and_eq_true]at d;have m:iW (gt cl k) i∈(gH cl i).map (·.1):=wR.2 (rA.2 ⟨_,fZ h1.1 h1.2,d.1,rfl⟩);obtain⟨x,l,e⟩:=aq.1 m;obtain⟨t,f⟩:=aA.1 l;exact⟨t,n t (ae.1 f).1,x,f,by rw[e];exact d.2,(EP f).2 ⟨h1,d.1,e.symm⟩⟩
def uV(G:jK)(seen:List Nat):List fE:=seen.map λt=>((G[t]?).map (·.1)).getD (0,0)
theorem aep{G:jK}{t:Nat}{x:fE×List Int}(h:G[t]? = some x):uV G (seen ++ [t])=uV G seen ++ [x.1]:=by unfold uV;rw[List.map_append,List.map_singleton,h];rfl
theorem aeo(c:∀t,t<(gH cl i).length->t∈seen)(lt:∀t∈seen,t<(gH cl i).length)(r:fE):r∈uV (gH cl i) seen↔r∈sd cl i:=by
 rw[<-wR];unfold uV;rw[aq,aq];constructor
 .grind
 .rintro⟨x,b,e⟩;obtain⟨t,a⟩:=aA.1 b;exact⟨t,c t (ae.1 a).1,by rw[a];exact e⟩
end
theorem UD{p q:gp->Bool}{s:gp->fE}{cl:List gp}:∀ {n:Nat},(∀k:Int,0<=k->k<n->p (gt cl k)=q (gt cl k))->oy p s cl n=oy q s cl n
 | 0,_=>rfl
 | n+1,h=>by rw[oy,oy,h n (by omega) (by omega),UD λk k0 k1=>h k k0 (by omega)]
def hM(ad:gp->Bool)(cl:List gp)(k:Nat)(j:Nat):jK:=oy (λc=>ad c&&ie c (j:Int)) (λc=>iW c (j:Int)) cl k
def hP(ad:gp->Bool)(cl:List gp)(k e:Nat)(j:Nat):jK:=
 if (gt cl (k:Int)).lo<=(j:Int)/\(j:Int)<(gt cl (k:Int)).lo+e then nf (iW (gt cl (k:Int)) (j:Int)) k (hM ad cl k j)else hM ad cl k j
section
variable{ad:gp->Bool}{cl:List gp}{k:Nat}
theorem ac5:hP ad cl k 0=hM ad cl k:=funext λj=>if_neg (by omega)
theorem US{e:Nat}(h0:0<=(gt cl (k:Int)).lo):hP ad cl k e ((gt cl (k:Int)).lo.toNat+e)=hM ad cl k ((gt cl (k:Int)).lo.toNat+e):=if_neg (by omega)
theorem ac4{e:Nat}(h0:0<=(gt cl (k:Int)).lo):hP ad cl k (e+1)=vb (hP ad cl k e) ((gt cl (k:Int)).lo.toNat+e) (nf (gt (gt cl (k:Int)).es (e:Int)) k (hP ad cl k e ((gt cl (k:Int)).lo.toNat+e))):=funext λj=>by
 unfold vb
 by_cases a:j=(gt cl (k:Int)).lo.toNat+e
 .rw[if_pos a];subst a;rw[US h0];unfold hP;rw[if_pos (by omega)];unfold iW;congr 2;omega
 .rw[if_neg a];unfold hP
  by_cases h:(gt cl (k:Int)).lo<=(j:Int)/\(j:Int)<(gt cl (k:Int)).lo+e
  .grind
  .grind
theorem ac3(a:ad (gt cl (k:Int))=true){e:Nat}(b:(gt cl (k:Int)).hi=(gt cl (k:Int)).lo+e):hP ad cl k e=hM ad cl (k+1):=funext λj=>by
 unfold hP;show _=hM ad cl (k+1) j
 conv=>rhs;unfold hM;rw[oy]
 have c:(ad (gt cl (k:Int))&&ie (gt cl (k:Int)) (j:Int))=decide ((gt cl (k:Int)).lo<=(j:Int)/\(j:Int)<(gt cl (k:Int)).lo+e):=by rw[a,eF];unfold ie;rw[b]
 rw[c]
 by_cases h:(gt cl (k:Int)).lo<=(j:Int)/\(j:Int)<(gt cl (k:Int)).lo+e
 .rw[if_pos h,if_pos (by simpa using h)];rfl
 .rw[if_neg h,if_neg (by simpa using h)];rfl
theorem ac2(a:ad (gt cl (k:Int))=false):hM ad cl (k+1)=hM ad cl k:=funext λj=>by unfold hM;rw[oy,if_neg (by simp[a])]
theorem ac1(a:∀c∈cl,ad c=true)(j:Nat):hM ad cl cl.length j=gH cl (j:Int):=by unfold hM gH;exact UD λk k0 k1=>by rw[a _ (fZ k0 k1),eF]
