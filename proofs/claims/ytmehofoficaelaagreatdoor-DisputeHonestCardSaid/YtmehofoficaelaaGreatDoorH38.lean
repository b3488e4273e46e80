/- Part 38 of DisputeHonest. -/
import Derived.Test.YtmehofoficaelaaGreatDoorH37
set_option linter.all false
namespace Go.Proofs.YtmehofoficaelaaGreatDoor
open Go Go.AL Classical
structure rU(cl:List gx)(i:Int)(w:fq->Bool)(seen:List Nat)(out:List Int):Prop where
 nd:seen.Nodup
 lt:∀t∈seen,t<(gw cl i).length
 LW:out.Nodup
 mem:∀k,k∈out↔∃t∈seen,∃x,(gw cl i)[t]? = some x/\w x.1=true/\k∈x.2
section
variable{cl:List gx}{i:Int}{w:fq->Bool}{seen:List Nat}{out:List Int}
theorem KH{t:Nat}{x:fq×List Int}(h:(gw cl i)[t]? = some x):x.2=jx (λc=>jZ c i&&decide (kb c i=x.1)) cl cl.length/\x.2≠[]:=
 N0 (List.mem_of_getElem? h)
theorem Ee{t:Nat}{x:fq×List Int}{k:Int}(h:(gw cl i)[t]? = some x):k∈x.2↔(0<=k/\k<cl.length)/\jZ (gt cl k) i=true/\kb (gt cl k) i=x.1:=by rw[(KH h).1,yy];simp
theorem aca{t u:Nat}{x y:fq×List Int}(h:(gw cl i)[t]? = some x)(d:(gw cl i)[u]? = some y)(e:x.1=y.1):t=u:=by
 have c:((gw cl i).map (·.1)).Nodup:=Ed _;have a:((gw cl i).map (·.1))[t]? = some x.1:=by rw[aq,h];rfl
 have b:((gw cl i).map (·.1))[u]? = some x.1:=by rw[aq,d,e];rfl
 obtain⟨p,a⟩:=ae.1 a;obtain⟨q,b⟩:=ae.1 b;exact(List.getElem_inj c).1 (a.trans b.symm)
theorem rU.start:rU cl i w [] []:=⟨.nil,λ_ h=>(by cases h),.nil,λk=>by simp⟩
theorem Ml{n t:Nat}(nd:seen.Nodup)(lt:∀t∈seen,t<n)(d:t<n)(e:t ∉ seen):(seen ++ [t]).Nodup/\(∀u∈seen ++ [t],u<n)/\(seen ++ [t]).length<=n:=by
 have h1:(seen ++ [t]).Nodup:=by grind
 have a:∀u∈seen ++ [t],u<n:=λu c=>by grind
 have:=FG h1 (m:=List.range n) λx b=>a7.2 (a x b);rw[List.length_range]at this;exact⟨h1,a,this⟩
theorem rU.step(h:rU cl i w seen out){t:Nat}{x:fq×List Int}(j:(gw cl i)[t]? = some x)(l:t ∉ seen):rU cl i w (seen ++ [t]) (if w x.1=true then out++x.2 else out):=by
 have m:=(ae.1 j).1;obtain⟨h1,d,_⟩:=Ml h.nd h.lt m l
 have n:∀k,k∈(if w x.1=true then out++x.2 else out)↔∃u∈seen ++ [t],∃y,(gw cl i)[u]? = some y/\w y.1=true/\k∈y.2:=λk=>by
  constructor
  .intro g
   by_cases f:w x.1=true
   .rw[if_pos f,List.mem_append,h.mem]at g;rcases g with⟨u,c,y,h1,d⟩|g
    .grind
    .grind
   .rw[if_neg f,h.mem]at g;obtain⟨u,c,y,h1,d⟩:=g;exact⟨u,bA _ c,y,h1,d⟩
  .rintro⟨u,c,y,h1,d,q⟩;rcases List.mem_append.1 c with c|c
   .have:k∈out:=(h.mem k).2 ⟨u,c,y,h1,d,q⟩;split
    .grind
    .exact this
   .grind
 refine⟨h1,d,?_,n⟩
 by_cases f:w x.1=true
 .rw[if_pos f,cZ];refine⟨h.LW,?_,λa p b o e=>?_⟩
  .rw[(KH j).1];exact(Ap _ _ _).imp λh e=>by omega
  .subst e;obtain⟨u,c,y,q1,q2,q3⟩:=(h.mem a).1 p;have s:=((Ee j).1 o).2.2;have r:=((Ee q1).1 q3).2.2;have:=aca j q1 (s.symm.trans r);rw[this]at l;exact l c
 .rw[if_neg f];exact h.LW
theorem rU.Y'(h:rU cl i w seen out):∀k∈out,0<=k/\k<cl.length:=λk a=>by obtain⟨t,_,x,h1,_,b⟩:=(h.mem k).1 a;exact((Ee h1).1 b).1
theorem rU.len(h:rU cl i w seen out):out.length<=cl.length:=AB _ _ h.LW h.Y'
theorem rU.done(h:rU cl i w seen out)(n:∀t,t<(gw cl i).length->t∈seen):out.mergeSort (λx y=>decide (x<=y))=jx (λc=>jZ c i&&w (kb c i)) cl cl.length:=by
 have g:=List.mergeSort_perm out (λx y=>decide (x<=y));have j:(out.mergeSort (λx y=>decide (x<=y))).Nodup:=g.nodup_iff.2 h.LW
 have hs:(out.mergeSort (λx y=>decide (x<=y))).Pairwise λx y=>decide (x<=y)=true:=
  List.pairwise_mergeSort (λa b c h1 d=>by simp only[decide_eq_true_eq]at h1 d ⊢;omega) (λa b=>by simp only[bV,decide_eq_true_eq];omega) out
 refine Gi ((hs.and j).imp λ⟨h1,d⟩=>by simp only[decide_eq_true_eq]at h1;omega) (Ap _ _ _) λk=>?_;rw[g.mem_iff,h.mem,yy];constructor
 .rintro⟨t,f,x,h1,d,o⟩;have:=(Ee h1).1 o;exact⟨this.1,by rw[this.2.1,this.2.2,d];rfl⟩
 .rintro⟨h1,d⟩;rw[Bool.and_eq_true]at d;have m:kb (gt cl k) i∈(gw cl i).map (·.1):=wm.2 (uA.2 ⟨_,fM h1.1 h1.2,d.1,rfl⟩);obtain⟨x,l,e⟩:=au.1 m;obtain⟨t,f⟩:=aA.1 l;exact⟨t,n t (ae.1 f).1,x,f,by rw[e];exact d.2,(Ee f).2 ⟨h1,d.1,e.symm⟩⟩
def uv(G:jz)(seen:List Nat):List fq:=seen.map λt=>((G[t]?).map (·.1)).getD (0,0)
theorem adH{G:jz}{t:Nat}{x:fq×List Int}(h:G[t]? = some x):uv G (seen ++ [t])=uv G seen ++ [x.1]:=by unfold uv;rw[List.map_append,List.map_singleton,h];rfl
theorem adG(c:∀t,t<(gw cl i).length->t∈seen)(lt:∀t∈seen,t<(gw cl i).length)(r:fq):r∈uv (gw cl i) seen↔r∈sd cl i:=by
 rw[<-wm];unfold uv;rw[au,au];constructor
 .grind
 .rintro⟨x,b,e⟩;obtain⟨t,a⟩:=aA.1 b;exact⟨t,c t (ae.1 a).1,by rw[a];exact e⟩
end
theorem Uc{p q:gx->Bool}{s:gx->fq}{cl:List gx}:∀ {n:Nat},(∀k:Int,0<=k->k<n->p (gt cl k)=q (gt cl k))->oc p s cl n=oc q s cl n
 | 0,_=>rfl
 | n+1,h=>by rw[oc,oc,h n (by omega) (by omega),Uc λk k0 k1=>h k k0 (by omega)]
def hM(ad:gx->Bool)(cl:List gx)(k:Nat)(j:Nat):jz:=oc (λc=>ad c&&jZ c (j:Int)) (λc=>kb c (j:Int)) cl k
def hP(ad:gx->Bool)(cl:List gx)(k e:Nat)(j:Nat):jz:=
 if (gt cl (k:Int)).lo<=(j:Int)/\(j:Int)<(gt cl (k:Int)).lo+e then mR (kb (gt cl (k:Int)) (j:Int)) k (hM ad cl k j)else hM ad cl k j
section
variable{ad:gx->Bool}{cl:List gx}{k:Nat}
theorem acp:hP ad cl k 0=hM ad cl k:=funext λj=>if_neg (by omega)
theorem Us{e:Nat}(h0:0<=(gt cl (k:Int)).lo):hP ad cl k e ((gt cl (k:Int)).lo.toNat+e)=hM ad cl k ((gt cl (k:Int)).lo.toNat+e):=if_neg (by omega)
theorem aco{e:Nat}(h0:0<=(gt cl (k:Int)).lo):hP ad cl k (e+1)=uJ (hP ad cl k e) ((gt cl (k:Int)).lo.toNat+e) (mR (gt (gt cl (k:Int)).es (e:Int)) k (hP ad cl k e ((gt cl (k:Int)).lo.toNat+e))):=funext λj=>by
 unfold uJ
 by_cases a:j=(gt cl (k:Int)).lo.toNat+e
 .rw[if_pos a];subst a;rw[Us h0];unfold hP;rw[if_pos (by omega)];unfold kb;congr 2;omega
 .rw[if_neg a];unfold hP
  by_cases h:(gt cl (k:Int)).lo<=(j:Int)/\(j:Int)<(gt cl (k:Int)).lo+e
  .grind
  .grind
theorem acn(c:ad (gt cl (k:Int))=true){e:Nat}(a:(gt cl (k:Int)).hi=(gt cl (k:Int)).lo+e):hP ad cl k e=hM ad cl (k+1):=funext λj=>by
 unfold hP;show _=hM ad cl (k+1) j
 conv=>rhs;unfold hM;rw[oc]
 have b:(ad (gt cl (k:Int))&&jZ (gt cl (k:Int)) (j:Int))=decide ((gt cl (k:Int)).lo<=(j:Int)/\(j:Int)<(gt cl (k:Int)).lo+e):=by rw[c,dH];unfold jZ;rw[a]
 rw[b]
 by_cases h:(gt cl (k:Int)).lo<=(j:Int)/\(j:Int)<(gt cl (k:Int)).lo+e
 .rw[if_pos h,if_pos (by simpa using h)];rfl
 .rw[if_neg h,if_neg (by simpa using h)];rfl
theorem acm(a:ad (gt cl (k:Int))=false):hM ad cl (k+1)=hM ad cl k:=funext λj=>by unfold hM;rw[oc,if_neg (by simp[a])]
theorem ack(a:∀c∈cl,ad c=true)(j:Nat):hM ad cl cl.length j=gw cl (j:Int):=by unfold hM gw;exact Uc λk k0 k1=>by rw[a _ (fM k0 k1),dH]
