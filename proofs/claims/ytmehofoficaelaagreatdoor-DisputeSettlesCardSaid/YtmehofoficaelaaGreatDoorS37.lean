/- Part 37 of DisputeSettles. -/
import Derived.Test.YtmehofoficaelaaGreatDoorS36
set_option linter.all false
namespace Go.Proofs.YtmehofoficaelaaGreatDoor
open Go Go.AL Classical
def idx(p:gK->Bool)(cl:List gK):List Int:=(upto cl.length).filter λk=>p (gt cl k)
def Cy{p:gK->Bool}{cl:List gK}{k:Int}:k∈idx p cl↔(0<=k/\k<cl.length)/\p (gt cl k)=true:=by unfold idx;rw[aL,jd]
def yK{p:gK->Bool}{cl:List gK}:idx p cl≠[]↔∃c∈cl,p c=true:=by
 constructor
 .intro h;obtain⟨k,a⟩:=cM _ h;rw[Cy]at a;exact⟨_,gA a.1.1 a.1.2,a.2⟩
 .rintro⟨c,d,b⟩ h;obtain⟨k,k0,k1,rfl⟩:=um.1 d;have:k∈idx p cl:=Cy.2 ⟨⟨k0,k1⟩,b⟩;rw[h]at this;cases this
inductive Jd where
 | v (a:Int) (l:List Int)
 | none
 | Bj
 deriving DecidableEq
def Gg(cl:List gK)(a i:Int):Int:=if mJ (sd cl i)=true/\(a<0\/mh (sd cl i)<mh (sd cl a))then i else a
def lq(cl:List gK)(n:Nat):Int:=(upto n).foldl (Gg cl) (-1)
noncomputable def ni(A:lG)(n:Nat)(ad:gK->Bool)(cl:List gK):Jd:=
 if idx (λc => !ad c) cl≠[]then .v (-1) (idx (λc => !ad c) cl)
 else if∃i∈upto n,sd cl i = []then .Bj
 else match (upto n).find? λi=>decide (idx (λc=>kA c i && !lD (kD c i)) cl≠[])with
  | some i=>.v i (idx (λc=>kA c i && !lD (kD c i)) cl)
  | Option.none=>if lq cl n<0 then .none else .v (lq cl n) (idx (rE A cl (lq cl n)) cl)
def Fy(n:Nat):upto (n+1)=upto n ++ [(n:Int)]:=by simp[upto,fH]
theorem Gf(cl:List gK):∀n:Nat,(lq cl n = -1/\∀j:Int,0<=j->j<n->mJ (sd cl j)=false) \/
  ((0<=lq cl n/\lq cl n<n)/\mJ (sd cl (lq cl n))=true/\∀j:Int,0<=j->j<n->mJ (sd cl j)=true->mh (sd cl (lq cl n))<=mh (sd cl j))
 | 0=>.inl ⟨rfl,λj h0 h1=>by omega⟩
 | n+1=>by
  have e:lq cl (n+1)=Gg cl (lq cl n) n:=by unfold lq;rw[Fy,List.foldl_append];rfl
  rw[e];generalize c:lq cl n=a;have b:=Gf cl n;rw[c]at b;unfold Gg
  by_cases d:mJ (sd cl n)=true
  .grind
  .grind
def xU(V:List gd)(ad:gK->Bool)(c:gK):Prop:=ad c=true/\∀i,kA c i=true->kD c i=gt V i
section
variable{A:lG}{V:List gd}{cl:List gK}{n:Nat}{ad:gK->Bool}
theorem ahJ(gF:∀i:Int,0<=i->i<n->∀k∈gt A.nx i,0<=k/\k<n)(hV:∀i:Int,0<=i->i<n->ke A V i)(r7:∀i:Int,0<=i->i<n->lD (gt V i)=true)
  (w:∀i:Int,0<=i->i<n->∃c∈cl,xU V ad c/\kA c i=true) (y:∀c,ad c=true->∀i,kA c i=true->0<=i/\i<n) {a:Int} {l:List Int} (h:ni A n ad cl = .v a l) :
  l≠[]/\(-1<=a/\a<n)/\∀k∈l,¬xU V ad (gt cl k):=by
 unfold ni at h;split at h
 .rename_i v;cases h;exact⟨v,by omega,λk f g=>by have:=(Cy.1 f).2;rw[g.1]at this;cases this⟩
 rename_i q;split at h
 .cases h
 have q:∀c∈cl,ad c=true:=λc u=>by
  cases e:ad c with
  | true=>rfl
  | false=>exact absurd (yK.2 ⟨c,u,by simp[e]⟩) q
 split at h
 .rename_i i hi;cases h;have h1:=List.find?_some hi;have b:=fg hi;rw[jd]at b;refine⟨by simpa using h1,by omega,λk f g=>?_⟩;have d:=(Cy.1 f).2;simp only[Bool.and_eq_true,dy]at d;rw[g.2 _ d.1,r7 _ b.1 b.2]at d;cases d.2
 .rename_i m;split at h
  .cases h
  rename_i z;cases h
  have s:∀i:Int,0<=i->i<n->∀r∈sd cl i,lD r=true:=λi i0 j r t=>by
   rw[du]at m;have:=m i (jd.2 ⟨i0,j⟩);obtain⟨c,h1,b,rfl⟩:=sK.1 t
   cases e:lD (kD c i)with
   | true=>rfl
   | false=>exact absurd (yK (p:=λc=>kA c i && !lD (kD c i)) |>.2 ⟨c,h1,by simp[b,e]⟩) (by simpa using this)
  rcases Gf cl n with⟨e,_⟩|⟨h1,b,d⟩
  .omega
  refine⟨yK.2 (acn (s _ h1.1 h1.2) b),by omega,λk f g=>?_⟩;have o:=Cy.1 f;have x:kA (gt cl k) (lq cl n)=true:=by have:=o.2;unfold rE at this;rw[Bool.and_eq_true]at this;exact this.1
  have:=apL (cl:=cl) (N:=(n:Int)) gF hV (λi i0 j=>by
   obtain⟨c,q1,q2,q3⟩:=w i i0 j
   exact sK.2 ⟨c,q1,q3,q2.2 i q3⟩) h1.1 h1.2 d (c:=gt cl k) (g.2 _ x)
  rw[o.2]at this;cases this
theorem ZH(h:ni A n ad cl = .none):(∀c∈cl,ad c=true)/\∀i:Int,0<=i->i<n->sd cl i≠[]/\mJ (sd cl i)=false:=by
 unfold ni at h;split at h
 .cases h
 rename_i d;split at h
 .cases h
 rename_i a
 refine⟨λc a=>by
  cases e:ad c with
  | true=>rfl
  | false=>exact absurd (yK.2 ⟨c,a,(by show(!ad c)=true;rw[e];rfl)⟩) d,?_⟩
 split at h
 .cases h
 split at h
 .rename_i f;rcases Gf cl n with⟨_,e⟩|⟨h1,_,_⟩
  .exact λi i0 b=>⟨λh0=>a ⟨i,jd.2 ⟨i0,b⟩,h0⟩,e i i0 b⟩
  .omega
 .cases h
theorem ahE(h:ni A n ad cl = .Bj):∃i:Int,(0<=i/\i<n)/\sd cl i = []:=by
 unfold ni at h;split at h
 .cases h
 split at h
 .rename_i a;obtain⟨i,hi,e⟩:=a;exact⟨i,jd.1 hi,e⟩
 split at h
 .cases h
 split at h<;>cases h
end
end Go.Proofs.YtmehofoficaelaaGreatDoor
namespace Go.Proofs.YtmehofoficaelaaGreatDoor
open Go Go.AL Classical
@[simp] theorem aw9(o:Int):jy [] o = []:=rfl
@[simp] theorem aw4:tv [] = -1:=rfl
@[simp] theorem aw3:yS [] = -1:=rfl
theorem aiw(l:List Int)(x:Int):tv (l ++ [x])=if l = []then x else min (tv l) x:=by
 cases l with
 | nil=>rfl
 | cons a r=>simp[tv,List.foldl_append]
def aih{l:List gd}(h:∀r∈l,r.1≠2->0<=r.2):xE l=mh l:=by
 suffices ∀(l m:List gd),(∀r∈m++l,r.1≠2->0<=r.2)->l.foldl wD (mh m)=mh (m++l)from by have:=this l [] (by simpa using h);rw[aS]at this;exact this
 intro l
 induction l with
 | nil=>intro m _;simp
 | cons a r i=>
  intro m c;rw[cu]
  have e:wD (mh m) a=mh (m ++ [a]):=by
   unfold wD;have g:=c a (by simp);unfold mh;rw[c8,List.map_append]
   by_cases d:a.1=2
   .grind
   .have g:=g d;have hs:((([a]:List gd).filter λr=>decide (r.1≠2)).map λr=>r.2) = [a.2]:=by simp[d]
    rw[hs,aiw]
    by_cases b:((m.filter λr=>decide (r.1≠2)).map λr=>r.2) = []
    .rw[if_pos b,b];rw[if_pos ⟨d,.inl (by decide)⟩]
    .rw[if_neg b];have j:=AG b;obtain⟨q,f,n⟩:=List.mem_map.1 j;rw[aL]at f;have k:=c q (by simp[f.1]) (by simpa using f.2)
     by_cases hl:a.2<tv ((m.filter λr=>decide (r.1≠2)).map λr=>r.2)
     .grind
     .grind
  rw[e,i (m ++ [a]) (by simpa using c)];simp
def yf(cl:List gK)(n j:Int):gd:=if mJ (sd cl j)=false/\(nC (sd cl j)).2<n then nC (sd cl j)else(2,0)
def aav(A:lG)(cl:List gK)(i n:Int):IQ A cl i n=(gt A.nx i).map (yf cl n):=rfl
theorem ZF{p q:gK->Bool}{cl:List gK}:∀ {n:Nat},n<=cl.length->(∀c∈cl,p c=q c)->kc p cl n=kc q cl n
 | 0,_,_=>rfl
 | n+1,h,hp=>by rw[kc,kc,ZF (by omega) hp,hp _ (gA (by omega) (by omega))]
def wA(p:gK->Bool)(cl:List gK):kc p cl cl.length=idx p cl:=by
 unfold idx
 suffices ∀n:Nat,kc p cl n=(upto n).filter λk=>p (gt cl k)from this _
 intro n
 induction n with
 | zero=>rfl
 | succ n a=>
  rw[kc,a,Fy,c8]
  by_cases h:p (gt cl (n:Int))=true
  .grind
  .grind
end Go.Proofs.YtmehofoficaelaaGreatDoor
namespace Go.Proofs.YtmehofoficaelaaGreatDoor
open Go Go.AL Classical
def mN(left ls:List Int):List Int:=((upto left.length).filter λp => !ls.contains p).map λp=>gt left p
noncomputable def C5(A:lG)(n:Nat)(ad:gK->Bool)(cl:List gK):Nat->List Int->List Int×Jd
 | 0,left=>(left,.none)
 | f+1,left=>match ni A n ad (left.map λk=>gt cl k)with
  | .v _ ls=>C5 A n ad cl f (mN left ls)
  | j=>(left,j)
def aas{left ls:List Int}{k:Int}:k∈mN left ls↔∃p:Int,(0<=p/\p<left.length)/\p ∉ ls/\gt left p=k:=by
 unfold mN;rw[List.mem_map];constructor
 .rintro⟨p,a,e⟩;rw[aL,jd]at a;exact⟨p,a.1,by simpa using a.2,e⟩
 .rintro⟨p,h1,b,e⟩;exact⟨p,aL.2 ⟨jd.2 h1,by simpa using b⟩,e⟩
def abp{left ls:List Int}{k:Int}(h:k∈mN left ls):k∈left:=by obtain⟨p,h1,_,rfl⟩:=aas.1 h;exact gA h1.1 h1.2
def pH(n:Nat):(upto n).length=n:=by simp[upto]
def abn{left ls:List Int}{p:Int}(c:p∈ls)(h0:0<=p)(h1:p<left.length):(mN left ls).length<left.length:=by
 unfold mN;rw[List.length_map];have a:=List.length_filter_le (λp => !ls.contains p) (upto left.length);rw[pH]at a;refine Nat.lt_of_le_of_ne a λe=>?_;have:(upto left.length).length=left.length:=pH _;rw[<-this]at e;rw[this]at e;have b:((upto left.length).filter λp => !ls.contains p).length=(upto left.length).length:=by rw[e,this]
 rw[eF]at b;have:=b p (jd.2 ⟨h0,h1⟩);simp[c]at this
section
variable{A:lG}{V:List gd}{cl:List gK}{n:Nat}{ad:gK->Bool}
theorem agj{left:List Int}{p:Int}(h0:0<=p)(h1:p<left.length):gt (left.map λk=>gt cl k) p=gt cl (gt left p):=by rw[iZ h0 (by rw[List.length_map];exact h1),List.getElem_map,iZ h0 h1]
theorem abR(gF:∀i:Int,0<=i->i<n->∀k∈gt A.nx i,0<=k/\k<n)(hV:∀i:Int,0<=i->i<n->ke A V i)(r7:∀i:Int,0<=i->i<n->lD (gt V i)=true)
  (t:∀c,ad c=true->∀i,kA c i=true->0<=i/\i<n) :
  ∀(f:Nat) (left:List Int),left.length<f->(∀k∈left,0<=k/\k<cl.length)->(∀i:Int,0<=i->i<n->∃k∈left,xU V ad (gt cl k)/\kA (gt cl k) i=true) ->
   (∀k:Int,0<=k->k<cl.length->xU V ad (gt cl k)->k∈left) ->
   ∃L,C5 A n ad cl f left=(L,.none)/\(∀k,k∈L↔(0<=k/\k<cl.length)/\xU V ad (gt cl k))/\(∀k∈L,k∈left)/\∀i:Int,0<=i->i<n->nC (sd (L.map λk=>gt cl k) i)=gt V i
 | 0,left,h,_,_,_=>by omega
 | f+1,left,h,o,hc,g=>by
  have u:∀i:Int,0<=i->i<n->∃c∈left.map (λk=>gt cl k),xU V ad c/\kA c i=true:=λi i0 d=>by obtain⟨k,h1,l⟩:=hc i i0 d;exact⟨_,List.mem_map.2 ⟨k,h1,rfl⟩,l⟩
  rw[C5]
  cases b:ni A n ad (left.map λk=>gt cl k)with
  | v a ls=>
   obtain⟨h1,l,C⟩:=ahJ gF hV r7 u t b;obtain⟨p,s⟩:=cM _ h1
   have H:∀p∈ls,0<=p/\p<left.length:=by
    have:∀(q:gK->Bool),∀p∈idx q (left.map λk=>gt cl k),0<=p/\p<left.length:=λq p s=>by have:=(Cy.1 s).1;rw[List.length_map]at this;exact this
    unfold ni at b;split at b
    .cases b;exact this _
    split at b
    .cases b
    split at b
    .cases b;exact this _
    split at b
    .cases b
    .cases b;exact this _
   have x:=H p s
   have keep:∀k∈left,xU V ad (gt cl k)->k∈mN left ls:=λk g j=>by obtain⟨q,q0,q1,rfl⟩:=um.1 g;refine aas.2 ⟨q,⟨q0,q1⟩,λB=>?_,rfl⟩;have:=C q B;rw[agj q0 q1]at this;exact this j
   obtain⟨L,G,F,E,D⟩:=abR gF hV r7 t f (mN left ls) (by have:=abn s x.1 x.2;omega) (λk g=>o k (abp g)) (λi i0 d=>by
    obtain⟨k,k1,k2,k3⟩:=hc i i0 d
    exact⟨k,keep k k1 k2,k2,k3⟩) (λk k0 k1 j=>keep k (g k k0 k1 j) j)
   exact⟨L,G,F,λk g=>abp (E k g),D⟩
  | none=>
   obtain⟨h1,l⟩:=ZH b
   have z:∀i:Int,0<=i->i<n->∀r∈sd (left.map λk=>gt cl k) i,r=gt V i:=λi i0 d r o=>by obtain⟨c,q1,q2,q3⟩:=u i i0 d;have y:=Nq.1 (l i i0 d).2;rw[y r o,<-q2.2 i q3];exact(y _ (sK.2 ⟨c,q1,q3,rfl⟩)).symm
   refine⟨left,rfl,λk=>⟨λm=>⟨o k m,?_,λi hi=>?_⟩,λj=>g k j.1.1 j.1.2 j.2⟩,λk g=>g,λi i0 d=>z i i0 d _ (DU (l i i0 d).1)⟩
   .exact h1 _ (List.mem_map.2 ⟨k,m,rfl⟩)
   .have w:=h1 _ (List.mem_map.2 ⟨k,m,rfl⟩);obtain⟨i0,d⟩:=t _ w i hi;exact z i i0 d _ (sK.2 ⟨_,List.mem_map.2 ⟨k,m,rfl⟩,hi,rfl⟩)
  | Bj=>
   obtain⟨i,hi,e⟩:=ahE b;obtain⟨c,q1,q2,q3⟩:=u i hi.1 hi.2;have:kD c i∈sd (left.map λk=>gt cl k) i:=sK.2 ⟨c,q1,q3,rfl⟩;rw[e]at this;cases this
end
end Go.Proofs.YtmehofoficaelaaGreatDoor
namespace Go.Proofs.YtmehofoficaelaaGreatDoor
open Go Go.AL Classical
theorem Xv{p:Int->Bool}:∀ {n:Nat} {i:Int},0<=i->i<n->p i=true->(∀j:Int,0<=j->j<i->p j=false)->(upto n).find? p=some i
 | 0,i,h0,h1,_,_=>by omega
 | n+1,i,h0,h1,hp,hn=>by
  rw[Fy,List.find?_append]
  by_cases e:i=n
  .have:(upto n).find? p=none:=du.2 λj a=>by rw[jd]at a;rw[hn j a.1 (by omega)];simp
   rw[this,e];rw[e]at hp;simp[hp]
  .rw[Xv h0 (by omega) hp hn];rfl
def af2{p:Int->Bool}{n:Nat}(h:∀j:Int,0<=j->j<n->p j=false):(upto n).find? p=none:=
 du.2 λj a=>by rw[jd]at a;rw[h j a.1 a.2];simp
section
variable{A:lG}{n:Nat}{ad:gK->Bool}{cl:List gK}
def imp(cl:List gK)(i:Int):List Int:=kc (λc=>kA c i && !lD (kD c i)) cl cl.length
theorem ahC(h:kc (λc => !ad c) cl cl.length≠[]):ni A n ad cl = .v (-1) (kc (λc => !ad c) cl cl.length):=by unfold ni;rw[wA]at h ⊢;rw[if_pos h]
theorem ahF(h:kc (λc => !ad c) cl cl.length = []){i:Int}(i0:0<=i)(a:i<n)(hi:sd cl i = []):ni A n ad cl = .Bj:=by unfold ni;rw[wA]at h;rw[if_neg (λq=>q h),if_pos ⟨i,jd.2 ⟨i0,a⟩,hi⟩]
theorem ahG(h:kc (λc => !ad c) cl cl.length = [])(hs:∀j:Int,0<=j->j<n->sd cl j≠[]){i:Int}(i0:0<=i)(b:i<n)(hi:imp cl i≠[])(a:∀j:Int,0<=j->j<i->imp cl j = []):ni A n ad cl = .v i (imp cl i):=by
 unfold ni;rw[wA]at h;rw[if_neg (λq=>q h),if_neg]
 .rw[Xv i0 b]
  .show Jd.v i _=_;unfold imp;rw[wA]
  .rw[decide_eq_true_iff,<-wA];exact hi
  .intro j j0 j1;rw[decide_eq_false_iff_not,<-wA];exactλq=>q (a j j0 j1)
 .rintro⟨j,a,e⟩;rw[jd]at a;exact hs j a.1 a.2 e
theorem ahD(h:kc (λc => !ad c) cl cl.length = [])(hs:∀j:Int,0<=j->j<n->sd cl j≠[])(a:∀j:Int,0<=j->j<n->imp cl j = []):ni A n ad cl=if lq cl n<0 then .none else .v (lq cl n) (kc (rE A cl (lq cl n)) cl cl.length):=by
 unfold ni;rw[wA]at h;rw[if_neg (λq=>q h),if_neg]
 .rw[af2 λj j0 j1=>by
   rw[decide_eq_false_iff_not,<-wA]
   exactλq=>q (a j j0 j1)]
  rw[wA]
 .rintro⟨j,a,e⟩;rw[jd]at a;exact hs j a.1 a.2 e
theorem imp_nil{i:Int}(h:imp cl i = []):∀r∈sd cl i,lD r=true:=λr a=>by
 obtain⟨c,b,h1,rfl⟩:=sK.1 a;unfold imp at h;rw[wA]at h
 cases e:lD (kD c i)with
 | true=>rfl
 | false=>exact absurd h (yK.2 ⟨c,b,by simp[h1,e]⟩)
end
end Go.Proofs.YtmehofoficaelaaGreatDoor
namespace Go.Proofs.YtmehofoficaelaaGreatDoor
open Go Go.AL Classical
abbrev kd:=List (gd×List Int)
def oc(r:gd)(k:Int):kd->kd
 | []=>[(r,[k])]
 | (q,x)::t=>if q=r then(q,x ++ [k])::t else(q,x)::oc r k t
def ph(p:gK->Bool)(s:gK->gd)(cl:List gK):Nat->kd
 | 0=>[]
 | n+1=>if p (gt cl (n:Int))=true then oc (s (gt cl (n:Int))) n (ph p s cl n)else ph p s cl n
theorem AA{p:gK->Bool}{cl:List gK}{k:Int}:∀ {n:Nat},k∈kc p cl n↔(0<=k/\k<n)/\p (gt cl k)=true
 | 0=>by simp[kc];omega
 | n+1=>by
  rw[kc]
  by_cases h:p (gt cl (n:Int))=true
  .rw[if_pos h,List.mem_append,AA,List.mem_singleton];constructor
   .grind
   .grind
  .rw[if_neg h,AA];constructor
   .grind
   .grind
theorem EP(p:gK->Bool)(cl:List gK):∀n:Nat,(kc p cl n).Pairwise (· < ·)
 | 0=>.nil
 | n+1=>by
  rw[kc]
  by_cases h:p (gt cl (n:Int))=true
  .rw[if_pos h,bn]
   exact⟨EP p cl n,List.pairwise_singleton _ _,λa d b c=>by
    rw[List.mem_singleton]at c;have:=(AA.1 d).1
    omega⟩
  .rw[if_neg h];exact EP p cl n
def uj(r:gd):kd->List Int
 | []=>[]
 | (q,x)::t=>if q=r then x else uj r t
theorem TG{r q:gd}{k:Int}:∀ {G:kd},q∈(oc r k G).map (·.1)↔q=r\/q∈G.map (·.1)
 | []=>by simp[oc]
 | (a,x)::t=>by
  rw[oc]
  by_cases h:a=r
  .grind
  .rw[if_neg h,List.map_cons,ao,TG,List.map_cons,ao];constructor
   .grind
   .grind
theorem XR{r:gd}{k:Int}:∀ {G:kd},(G.map (·.1)).Nodup->((oc r k G).map (·.1)).Nodup
 | [],_=>by simp[oc]
 | (a,x)::t,h=>by
  rw[List.map_cons,cQ]at h;rw[oc]
  by_cases e:a=r
  .grind
  .rw[if_neg e,List.map_cons,cQ];refine⟨λb=>?_,XR h.2⟩;rcases TG.1 b with h1|h1
   .exact e h1
   .exact h.1 h1
theorem aad{r q:gd}{k:Int}:∀ {G:kd},uj q (oc r k G)=if q=r then uj q G ++ [k]else uj q G
 | []=>by
  by_cases h:q=r
  .subst h;simp[oc,uj]
  .rw[if_neg h];simp[oc,uj,cA h]
 | (a,x)::t=>by
  rw[oc]
  by_cases e:a=r
  .subst e;rw[if_pos rfl]
   by_cases h:q=a
   .subst h;simp[uj]
   .rw[if_neg h];simp[uj,cA h]
  .rw[if_neg e,uj,uj,aad]
   by_cases h:a=q
   .grind
   .grind
theorem aae{q:gd}{x:List Int}:∀ {G:kd},(G.map (·.1)).Nodup->((q,x)∈G↔q∈G.map (·.1)/\x=uj q G)
 | [],_=>by simp
 | (a,y)::t,h=>by
  rw[List.map_cons,cQ]at h;rw[ao,aae h.2,List.map_cons,ao,uj]
  by_cases e:a=q
  .grind
  .grind
section
variable{p:gK->Bool}{s:gK->gd}{cl:List gK}
theorem G6:∀n:Nat,((ph p s cl n).map (·.1)).Nodup
 | 0=>.nil
 | n+1=>by
  rw[ph];split
  .exact XR (G6 n)
  .exact G6 n
theorem XX{q:gd}:∀n:Nat,uj q (ph p s cl n)=kc (λc=>p c&&decide (s c=q)) cl n
 | 0=>rfl
 | n+1=>by
  rw[ph,kc,<-XX n]
  by_cases h:p (gt cl (n:Int))=true
  .rw[if_pos h,aad]
   by_cases e:q=s (gt cl (n:Int))
   .grind
   .grind
  .grind
theorem NR{q:gd}:∀ {n:Nat},q∈(ph p s cl n).map (·.1)↔∃k:Int,(0<=k/\k<n)/\p (gt cl k)=true/\s (gt cl k)=q
 | 0=>by
  constructor
  .intro h;simp[ph]at h
  .grind
 | n+1=>by
  rw[ph]
  by_cases h:p (gt cl (n:Int))=true
  .rw[if_pos h,TG,NR];constructor
   .grind
   .grind
  .rw[if_neg h,NR];constructor
   .grind
   .grind
theorem Rp{q:gd}{x:List Int}{n:Nat}(h:(q,x)∈ph p s cl n):x=kc (λc=>p c&&decide (s c=q)) cl n/\x≠[]:=by
 have h1:=(aae (G6 n)).1 h;rw[XX]at h1;refine⟨h1.2,λe=>?_⟩;obtain⟨k,d,b,a⟩:=NR.1 h1.1;have:k∈x:=by rw[h1.2];exact AA.2 ⟨d,by simp[b,a]⟩
 rw[e]at this;cases this
end
def gN(cl:List gK)(i:Int):kd:=ph (λc=>kA c i) (λc=>kD c i) cl cl.length
def yi{cl:List gK}{i:Int}{q:gd}:q∈(gN cl i).map (·.1)↔q∈sd cl i:=by
 unfold gN;rw[NR,sK];constructor
 .rintro⟨k,h1,b,a⟩;exact⟨_,gA h1.1 h1.2,b,a⟩
 .rintro⟨c,h1,b,a⟩;obtain⟨k,k0,k1,rfl⟩:=um.1 h1;exact⟨k,⟨k0,k1⟩,b,a⟩
def NT{cl:List gK}{i:Int}:(gN cl i).length=0↔sd cl i = []:=by
 rw[ax];constructor
 .intro h;refine aU.2 λq b=>?_;have:=yi.2 b;rw[h]at this;cases this
 .intro h
  cases e:gN cl i with
  | nil=>rfl
  | cons a t=>
   have:a.1∈sd cl i:=yi.1 (by rw[e];simp);rw[h]at this;cases this
def G7{cl:List gK}{i:Int}:1<(gN cl i).length↔mJ (sd cl i)=true:=by
 have f:((gN cl i).map (·.1)).Nodup:=G6 _;constructor
 .intro h
  cases c:mJ (sd cl i)with
  | true=>rfl
  | false=>
   have c:=Nq.1 c
   match e:gN cl i,h with
   | a::b::t,_=>
    rw[e]at f;have k:a.1∈sd cl i:=yi.1 (by rw[e];simp);have j:b.1∈sd cl i:=yi.1 (by rw[e];simp);simp only[List.map_cons,cQ,ao,not_or]at f;exact absurd ((c _ k).trans (c _ j).symm) f.1.1
 .intro h;unfold mJ at h;rw[List.any_eq_true]at h;obtain⟨r,d,h1⟩:=h;have h1:r≠nC (sd cl i):=by simpa using h1
  have g:nC (sd cl i)∈sd cl i:=DU λe=>by rw[e]at d;cases d
  have a:=yi.2 d;have b:=yi.2 g
  match e:gN cl i with
  | []=>rw[e]at a;cases a
  | [x]=>
   rw[e]at a b;simp only[List.map_cons,List.map_nil,List.mem_singleton]at a b;exact absurd (a.trans b.symm) h1
  | x::y::t=>simp
def XY{cl:List gK}{i:Int}{x:gd×List Int}(h:gN cl i = [x]):x.1=nC (sd cl i):=by
 have h1:x.1∈sd cl i:=yi.1 (by rw[h];simp)
 have a:mJ (sd cl i)=false:=by
  cases e:mJ (sd cl i)with
  | false=>rfl
  | true=>
   have:=G7.2 e;rw[h]at this;simp at this
 exact Nq.1 a _ h1
def aik{a b:List gd}(h:∀r,r∈a↔r∈b):mh a=mh b:=by
 unfold mh;have c:∀n,n∈(a.filter λr=>decide (r.1≠2)).map (λr=>r.2)↔n∈(b.filter λr=>decide (r.1≠2)).map (λr=>r.2):=λn=>by simp_all
 obtain⟨A,g⟩:∃A,(a.filter λr=>decide (r.1≠2)).map (λr=>r.2)=A:=⟨_,rfl⟩;obtain⟨B,f⟩:∃B,(b.filter λr=>decide (r.1≠2)).map (λr=>r.2)=B:=⟨_,rfl⟩;rw[g,f]at c ⊢
 by_cases e:A = []
 .have:B = []:=aU.2 λn d=>by grind
  rw[e,this]
 .have i:B≠[]:=λq=>e (aU.2 λn d=>by grind);exact Int.le_antisymm (Cz ((c _).2 (AG i))) (Cz ((c _).1 (AG e)))
theorem Fs:∀ {a b:List Int},a.Pairwise (· < ·)->b.Pairwise (· < ·)->(∀k,k∈a↔k∈b)->a=b
 | [],[],_,_,_=>rfl
 | [],y::t,_,_,h=>by have:=(h y).2 (by simp);cases this
 | x::t,[],_,_,h=>by have:=(h x).1 (by simp);cases this
 | x::s,y::t,ha,hb,h=>by
  rw[aX]at ha hb
  have e:x=y:=by
   rcases ao.1 ((h x).1 (by simp))with e|e
   .exact e
   .rcases ao.1 ((h y).2 (by simp))with c|c
    .exact c.symm
    .grind
  subst e;congr 1;refine Fs ha.2 hb.2 λk=>?_;have:=h k;rw[ao,ao]at this;constructor
  .grind
  .grind
end Go.Proofs.YtmehofoficaelaaGreatDoor
namespace Go.Proofs.YtmehofoficaelaaGreatDoor
open Go Go.AL Classical
def KS:KK:=.ints [.i64,.i64]
def lB(r:gd):Value:=.agg #[.int .i64 r.1,.int .i64 r.2]
def oI(v:Nat)(x:List Int):D:=.fZ v (x.length-1) 1 0 x.length
def rz(x:List Int):Ob:=.row 3 (x.length-1) (cl f1 x)
def iY(Q:Nat->Nat):Nat->kd->List (Value×D)
 | _,[]=>[]
 | i,(q,x)::t=>(lB q,oI (Q i) x)::iY Q (i+1) t
def od(r:gd):kd->Option (Nat×List Int)
 | []=>none
 | (q,x)::t=>if q=r then some (0,x)else(od r t).map λp=>(p.1+1,p.2)
def ZS(a b:gd):nW (lB a) (lB b)=decide (a=b):=by
 obtain⟨f,e⟩:=a;obtain⟨d,b2⟩:=b;unfold lB nW
 by_cases h1:f=d
 .by_cases c:e=b2
  .simp_all
  .simp[c]
 .simp[h1]
theorem TB(Q:Nat->Nat)(r:gd):∀(G:kd) (i j:Nat),yR (lB r) (iY Q i G) j=(od r G).map λp=>(j+p.1,oI (Q (i+p.1)) p.2)
 | [],_,_=>rfl
 | (q,x)::t,i,j=>by
  rw[iY,yR,ZS,od]
  by_cases h:q=r
  .subst h;simp
  .rw[if_neg (by simpa using cA h),if_neg h,TB Q r t (i+1) (j+1)]
   cases od r t with
   | none=>rfl
   | some p=>simp[bh,dA 1]
theorem TE(Q:Nat->Nat)(r:gd)(d:D):∀(G:kd) (i:Nat),mz (iY Q i G) (lB r) d=match od r G with
  | some p=>(iY Q i G).set p.1 (lB r,d)
  | none=>iY Q i G ++ [(lB r,d)]
 | [],_=>rfl
 | (q,x)::t,i=>by
  rw[iY,mz,ZS,od]
  by_cases h:q=r
  .subst h;simp
  .rw[if_neg (by simpa using cA h),if_neg h,TE Q r d t (i+1)]
   cases od r t with
   | none=>rfl
   | some p=>simp
theorem zT{r:gd}{k:Int}:∀ {G:kd} {t:Nat} {x:List Int},od r G=some (t,x)->G[t]? = some (r,x)/\oc r k G=G.set t (r,x ++ [k])
 | [],_,_,h=>by cases h
 | (q,y)::g,t,x,h=>by
  rw[od]at h;rw[oc]
  by_cases e:q=r
  .grind
  .rw[if_neg e]at h ⊢
   cases a:od r g with
   | none=>rw[a]at h;cases h
   | some p=>
    rw[a]at h;cases h;obtain⟨h1,b⟩:=zT (k:=k) (t:=p.1) (x:=p.2) a;exact⟨by simpa using h1,by rw[b];simp⟩
theorem XS{r:gd}{k:Int}:∀ {G:kd},od r G=none->oc r k G=G ++ [(r,[k])]
 | [],_=>rfl
 | (q,y)::g,h=>by
  rw[od]at h;rw[oc]
  by_cases e:q=r
  .grind
  .rw[if_neg e]at h ⊢
   cases a:od r g with
   | none=>rw[XS a];rfl
   | some p=>rw[a]at h;cases h
@[simp] theorem Br(Q:Nat->Nat):∀(G:kd) (i:Nat),(iY Q i G).length=G.length
 | [],_=>rfl
 | (q,x)::t,i=>by rw[iY,aC,Br Q t,aC]
theorem vL(Q:Nat->Nat):∀(G:kd) (i t:Nat),(iY Q i G)[t]? = (G[t]?).map λx=>(lB x.1,oI (Q (i+t)) x.2)
 | [],_,_=>rfl
 | (q,x)::g,i,0=>rfl
 | (q,x)::g,i,t+1=>by rw[iY,cV,cV,vL Q g (i+1) t,bh,dA 1]
theorem WW{Q Q':Nat->Nat}:∀ {G:kd} {i:Nat},(∀t,t<G.length->Q (i+t)=Q' (i+t))->iY Q i G=iY Q' i G
 | [],_,_=>rfl
 | (q,x)::g,i,h=>by
  have h0:=h 0 (by simp);rw[bX]at h0
  rw[iY,iY,h0,WW (Q:=Q) (Q':=Q') λt a=>by
   have:=h (t+1) (by simp;omega);rw[show i+(t+1)=i+1+t by omega]at this
   exact this]
theorem WX(Q:Nat->Nat){r:gd}{y:List Int}:∀(G:kd) (i t:Nat),t<G.length->iY Q i (G.set t (r,y))=(iY Q i G).set t (lB r,oI (Q (i+t)) y)
 | [],_,_,h=>by simp at h
 | (q,x)::g,i,0,_=>rfl
 | (q,x)::g,i,t+1,h=>by rw[List.set_cons_succ,iY,iY,List.set_cons_succ,WX Q g (i+1) t (by simpa using h),show i+1+t=i+(t+1)by omega]
theorem WY(Q:Nat->Nat){r:gd}{y:List Int}:∀(G:kd) (i:Nat),iY Q i (G ++ [(r,y)])=iY Q i G ++ [(lB r,oI (Q (i+G.length)) y)]
 | [],_=>rfl
 | (q,x)::g,i=>by rw[bW,iY,iY,WY Q g (i+1),bW,aC,show i+1+g.length=i+(g.length+1)by omega]
structure mn(H:U)(ck sr n:Nat)(M:Nat->kd)(ow:Nat->Nat×Nat×Nat)(P:Nat->Nat)(Q:Nat->Nat->Nat):Prop where
 fc:ow ck=(0,0,0)
 fs:ow sr=(1,0,0)
 row:H[sr]? = some (.row 170 0 ((List.range n).map λj=>D.gH (P j)))
 mp:∀j,j<n->H[P j]? = some (.map KS (iY (Q j) 0 (M j)))/\ow (P j)=(2,j,0)
 ls:∀j,j<n->∀t x,(M j)[t]? = some x->H[Q j t]? = some (rz x.2)/\ow (Q j t)=(3,j,t)
section
variable{H H':U}{ck sr n:Nat}{M:Nat->kd}{ow:Nat->Nat×Nat×Nat}{P:Nat->Nat}{Q:Nat->Nat->Nat}
theorem mn.mono(h:mn H ck sr n M ow P Q)(b:∀v o,H[v]? = some o->v≠ck->H'[v]? = some o):mn H' ck sr n M ow P Q:=by
 have ne:∀v,ow v≠(0,0,0)->v≠ck:=λv f e=>f (by rw[e];exact h.fc);refine⟨h.fc,h.fs,b _ _ h.row (ne _ (by rw[h.fs];simp)),λj c=>?_,λj c t x d=>?_⟩
 .obtain⟨h1,a⟩:=h.mp j c;exact⟨b _ _ h1 (ne _ (by rw[a];simp)),a⟩
 .obtain⟨h1,a⟩:=h.ls j c t x d;exact⟨b _ _ h1 (ne _ (by rw[a];simp)),a⟩
def wM(M:Nat->kd)(j:Nat)(G:kd):Nat->kd:=λi=>if i=j then G else M i
theorem mn.old(h:mn H ck sr n M ow P Q){j t:Nat}{r:gd}{x:List Int}{k:Int}(g:j<n)(s:od r (M j)=some (t,x))
  (h1:H'[P j]? = some (.map KS ((iY (Q j) 0 (M j)).set t (lB r,oI (Q j t) (x ++ [k]))))) (A:H'[Q j t]? = some (rz (x ++ [k])))
  (f:∀v o,H[v]? = some o->v≠P j->v≠Q j t->ow v≠(0,0,0)->H'[v]? = some o):mn H' ck sr n (wM M j (oc r k (M j))) ow P Q:=by
 obtain⟨m,l⟩:=zT (k:=k) s;have z:t<(M j).length:=(ae.1 m).1;have lt:=(h.ls j g t _ m).2;have d:=(h.mp j g).2;have ne:∀v w,ow v≠ow w->v≠w:=λv w q e=>q (by rw[e]);refine⟨h.fc,h.fs,f _ _ h.row (ne _ _ (by rw[h.fs,d];simp)) (ne _ _ (by rw[h.fs,lt];simp)) (by rw[h.fs];simp),λi hi=>?_,λi hi u y b=>?_⟩
 .obtain⟨c,a⟩:=h.mp i hi;refine⟨?_,a⟩;unfold wM
  by_cases e:i=j
  .subst e;rw[if_pos rfl,h1,l,WX _ _ _ _ z,aR]
  .grind
 .unfold wM at b
  by_cases e:i=j
  .subst e;rw[if_pos rfl,l,bL]at b
   by_cases p:t=u
   .grind
   .rw[if_neg p]at b;obtain⟨c,a⟩:=h.ls i hi u y b;exact⟨f _ _ c (ne _ _ (by rw[a,d];simp)) (ne _ _ (by rw[a,lt];simp[cA p])) (by rw[a];simp),a⟩
  .rw[if_neg e]at b;obtain⟨c,a⟩:=h.ls i hi u y b;exact⟨f _ _ c (ne _ _ (by rw[a,d];simp)) (ne _ _ (by rw[a,lt];simp[e])) (by rw[a];simp),a⟩
theorem mn.new(h:mn H ck sr n M ow P Q){j v:Nat}{r:gd}{k:Int}(z:j<n)(t:od r (M j)=none)(C:ck<v)(q:H.length<=v)
  (h1:H'[P j]? = some (.map KS (iY (Q j) 0 (M j) ++ [(lB r,oI v [k])]))) (E:H'[v]? = some (rz [k]))
  (f:∀w o,H[w]? = some o->w≠P j->ow w≠(0,0,0)->H'[w]? = some o) :
  ∃b Q',mn H' ck sr n (wM M j (oc r k (M j))) b P Q'/\∀w,w≠v->b w=ow w:=by
 have B:=XS (k:=k) t;have d:=(h.mp j z).2;have ne:∀v w,ow v≠ow w->v≠w:=λv w q e=>q (by rw[e]);have lv:∀w o,H[w]? = some o->w≠v:=λw o p=>by grind
 let b:Nat->Nat×Nat×Nat:=λw=>if w=v then(3,j,(M j).length)else ow w
 let Q':Nat->Nat->Nat:=λi u=>if i=j/\u=(M j).length then v else Q i u
 have hP:∀i,i<n->P i≠v:=λi hi=>lv _ _ (h.mp i hi).1;have A:∀i u x,i<n->(M i)[u]? = some x->Q i u≠v:=λi u x hi s=>lv _ _ (h.ls i hi u x s).1;have hs:sr≠v:=lv _ _ h.row;refine⟨b,Q',⟨?_,?_,f _ _ h.row (ne _ _ (by rw[h.fs,d];simp)) (by rw[h.fs];simp),λi hi=>?_,λi hi u y c=>?_⟩,λw p=>if_neg p⟩
 .show(if ck=v then _ else _)=_;rw[if_neg (by omega)];exact h.fc
 .show(if sr=v then _ else _)=_;rw[if_neg hs];exact h.fs
 .obtain⟨m,a⟩:=h.mp i hi;refine⟨?_,?_⟩
  .unfold wM
   by_cases e:i=j
   .subst e;rw[if_pos rfl,h1,B,WY,aR];have l:iY (Q' i) 0 (M i)=iY (Q i) 0 (M i):=WW λu D=>by grind
    have g:Q' i (M i).length=v:=by grind
    rw[l,g]
   .rw[if_neg e];have l:Q' i=Q i:=funext λu=>by grind
    rw[l];exact f _ _ m (ne _ _ (by rw[a,d];simp[e])) (by rw[a];simp)
  .grind
 .unfold wM at c
  by_cases e:i=j/\u=(M j).length
  .grind
  .have c:(M i)[u]? = some y:=by grind
   obtain⟨m,a⟩:=h.ls i hi u y c;have g:Q' i u=Q i u:=by grind
   rw[g];refine⟨f _ _ m (ne _ _ (by rw[a,d];simp)) (by rw[a];simp),?_⟩;show(if Q i u=v then _ else _)=_;rw[if_neg (A i u y hi c)];exact a
end
end Go.Proofs.YtmehofoficaelaaGreatDoor
namespace Go.Proofs.YtmehofoficaelaaGreatDoor
open Go Go.AL Classical
structure tB(cl:List gK)(i:Int)(w:gd->Bool)(seen:List Nat)(out:List Int):Prop where
 nd:seen.Nodup
 lt:∀t∈seen,t<(gN cl i).length
 Pf:out.Nodup
 mem:∀k,k∈out↔∃t∈seen,∃x,(gN cl i)[t]? = some x/\w x.1=true/\k∈x.2
section
variable{cl:List gK}{i:Int}{w:gd->Bool}{seen:List Nat}{out:List Int}
theorem NS{t:Nat}{x:gd×List Int}(h:(gN cl i)[t]? = some x):x.2=kc (λc=>kA c i&&decide (kD c i=x.1)) cl cl.length/\x.2≠[]:=
 Rp (List.mem_of_getElem? h)
theorem G8{t:Nat}{x:gd×List Int}{k:Int}(h:(gN cl i)[t]? = some x):k∈x.2↔(0<=k/\k<cl.length)/\kA (gt cl k) i=true/\kD (gt cl k) i=x.1:=by rw[(NS h).1,AA];simp
theorem agh{t u:Nat}{x y:gd×List Int}(h:(gN cl i)[t]? = some x)(d:(gN cl i)[u]? = some y)(e:x.1=y.1):t=u:=by
 have c:((gN cl i).map (·.1)).Nodup:=G6 _;have a:((gN cl i).map (·.1))[t]? = some x.1:=by rw[au,h];rfl
 have b:((gN cl i).map (·.1))[u]? = some x.1:=by rw[au,d,e];rfl
 obtain⟨p,a⟩:=ae.1 a;obtain⟨q,b⟩:=ae.1 b;exact(List.getElem_inj c).1 (a.trans b.symm)
theorem tB.start:tB cl i w [] []:=⟨.nil,λ_ h=>(by cases h),.nil,λk=>by simp⟩
theorem Jh{n t:Nat}(nd:seen.Nodup)(lt:∀t∈seen,t<n)(d:t<n)(e:t ∉ seen):(seen ++ [t]).Nodup/\(∀u∈seen ++ [t],u<n)/\(seen ++ [t]).length<=n:=by
 have h1:(seen ++ [t]).Nodup:=by grind
 have a:∀u∈seen ++ [t],u<n:=λu c=>by grind
 have:=EX h1 (m:=List.range n) λx b=>a8.2 (a x b);rw[List.length_range]at this;exact⟨h1,a,this⟩
theorem tB.step(h:tB cl i w seen out){t:Nat}{x:gd×List Int}(j:(gN cl i)[t]? = some x)(l:t ∉ seen):tB cl i w (seen ++ [t]) (if w x.1=true then out++x.2 else out):=by
 have s:=(ae.1 j).1;obtain⟨h1,d,_⟩:=Jh h.nd h.lt s l
 have m:∀k,k∈(if w x.1=true then out++x.2 else out)↔∃u∈seen ++ [t],∃y,(gN cl i)[u]? = some y/\w y.1=true/\k∈y.2:=λk=>by
  constructor
  .intro g
   by_cases f:w x.1=true
   .rw[if_pos f,List.mem_append,h.mem]at g;rcases g with⟨u,c,y,h1,d⟩|g
    .grind
    .grind
   .rw[if_neg f,h.mem]at g;obtain⟨u,c,y,h1,d⟩:=g;exact⟨u,bk _ c,y,h1,d⟩
  .rintro⟨u,c,y,h1,d,p⟩;rcases List.mem_append.1 c with c|c
   .have:k∈out:=(h.mem k).2 ⟨u,c,y,h1,d,p⟩;split
    .grind
    .exact this
   .grind
 refine⟨h1,d,?_,m⟩
 by_cases f:w x.1=true
 .rw[if_pos f,bR];refine⟨h.Pf,?_,λa o b n e=>?_⟩
  .rw[(NS j).1];exact(EP _ _ _).imp λh e=>by omega
  .subst e;obtain⟨u,c,y,q1,q2,q3⟩:=(h.mem a).1 o;have r:=((G8 j).1 n).2.2;have q:=((G8 q1).1 q3).2.2;have:=agh j q1 (r.symm.trans q);rw[this]at l;exact l c
 .rw[if_neg f];exact h.Pf
theorem tB.bnd(h:tB cl i w seen out):∀k∈out,0<=k/\k<cl.length:=λk a=>by obtain⟨t,_,x,h1,_,b⟩:=(h.mem k).1 a;exact((G8 h1).1 b).1
theorem tB.len(h:tB cl i w seen out):out.length<=cl.length:=AI _ _ h.Pf h.bnd
theorem tB.done(h:tB cl i w seen out)(n:∀t,t<(gN cl i).length->t∈seen):out.mergeSort (λx y=>decide (x<=y))=kc (λc=>kA c i&&w (kD c i)) cl cl.length:=by
 have g:=List.mergeSort_perm out (λx y=>decide (x<=y));have j:(out.mergeSort (λx y=>decide (x<=y))).Nodup:=g.nodup_iff.2 h.Pf
 have hs:(out.mergeSort (λx y=>decide (x<=y))).Pairwise λx y=>decide (x<=y)=true:=
  fE (λa b c h1 d=>by simp only[decide_eq_true_eq]at h1 d ⊢;omega) (λa b=>by simp only[b7,decide_eq_true_eq];omega) out
 refine Fs ((hs.and j).imp λ⟨h1,d⟩=>by simp only[decide_eq_true_eq]at h1;omega) (EP _ _ _) λk=>?_;rw[g.mem_iff,h.mem,AA];constructor
 .rintro⟨t,f,x,h1,d,o⟩;have:=(G8 h1).1 o;exact⟨this.1,by rw[this.2.1,this.2.2,d];rfl⟩
 .rintro⟨h1,d⟩;rw[Bool.and_eq_true]at d;have m:kD (gt cl k) i∈(gN cl i).map (·.1):=yi.2 (sK.2 ⟨_,gA h1.1 h1.2,d.1,rfl⟩);obtain⟨x,l,e⟩:=List.mem_map.1 m;obtain⟨t,f⟩:=aB.1 l;exact⟨t,n t (ae.1 f).1,x,f,by rw[e];exact d.2,(G8 f).2 ⟨h1,d.1,e.symm⟩⟩
def wB(G:kd)(seen:List Nat):List gd:=seen.map λt=>((G[t]?).map (·.1)).getD (0,0)
theorem ahO{G:kd}{t:Nat}{x:gd×List Int}(h:G[t]? = some x):wB G (seen ++ [t])=wB G seen ++ [x.1]:=by unfold wB;rw[List.map_append,List.map_singleton,h];rfl
theorem ahN(c:∀t,t<(gN cl i).length->t∈seen)(lt:∀t∈seen,t<(gN cl i).length)(r:gd):r∈wB (gN cl i) seen↔r∈sd cl i:=by
 rw[<-yi];unfold wB;rw[List.mem_map,List.mem_map];constructor
 .grind
 .rintro⟨x,b,e⟩;obtain⟨t,a⟩:=aB.1 b;exact⟨t,c t (ae.1 a).1,by rw[a];exact e⟩
end
theorem XW{p q:gK->Bool}{s:gK->gd}{cl:List gK}:∀ {n:Nat},(∀k:Int,0<=k->k<n->p (gt cl k)=q (gt cl k))->ph p s cl n=ph q s cl n
 | 0,_=>rfl
 | n+1,h=>by rw[ph,ph,h n (by omega) (by omega),XW λk k0 k1=>h k k0 (by omega)]
def hM(ad:gK->Bool)(cl:List gK)(k:Nat)(j:Nat):kd:=ph (λc=>ad c&&kA c (j:Int)) (λc=>kD c (j:Int)) cl k
def hP(ad:gK->Bool)(cl:List gK)(k e:Nat)(j:Nat):kd:=
 if (gt cl (k:Int)).lo<=(j:Int)/\(j:Int)<(gt cl (k:Int)).lo+e then oc (kD (gt cl (k:Int)) (j:Int)) k (hM ad cl k j)else hM ad cl k j
section
variable{ad:gK->Bool}{cl:List gK}{k:Nat}
theorem agv:hP ad cl k 0=hM ad cl k:=funext λj=>if_neg (by omega)
theorem Yi{e:Nat}(h0:0<=(gt cl (k:Int)).lo):hP ad cl k e ((gt cl (k:Int)).lo.toNat+e)=hM ad cl k ((gt cl (k:Int)).lo.toNat+e):=if_neg (by omega)
theorem agu{e:Nat}(h0:0<=(gt cl (k:Int)).lo):hP ad cl k (e+1)=wM (hP ad cl k e) ((gt cl (k:Int)).lo.toNat+e) (oc (gt (gt cl (k:Int)).es (e:Int)) k (hP ad cl k e ((gt cl (k:Int)).lo.toNat+e))):=funext λj=>by
 unfold wM
 by_cases a:j=(gt cl (k:Int)).lo.toNat+e
 .rw[if_pos a];subst a;rw[Yi h0];unfold hP;rw[if_pos (by omega)];unfold kD;congr 2;omega
 .rw[if_neg a];unfold hP
  by_cases h:(gt cl (k:Int)).lo<=(j:Int)/\(j:Int)<(gt cl (k:Int)).lo+e
  .grind
  .grind
theorem agt(a:ad (gt cl (k:Int))=true){e:Nat}(b:(gt cl (k:Int)).hi=(gt cl (k:Int)).lo+e):hP ad cl k e=hM ad cl (k+1):=funext λj=>by
 unfold hP;show _=hM ad cl (k+1) j
 conv=>rhs;unfold hM;rw[ph]
 have c:(ad (gt cl (k:Int))&&kA (gt cl (k:Int)) (j:Int))=decide ((gt cl (k:Int)).lo<=(j:Int)/\(j:Int)<(gt cl (k:Int)).lo+e):=by rw[a,eA];unfold kA;rw[b]
 rw[c]
 by_cases h:(gt cl (k:Int)).lo<=(j:Int)/\(j:Int)<(gt cl (k:Int)).lo+e
 .rw[if_pos h,if_pos (by simpa using h)];rfl
 .rw[if_neg h,if_neg (by simpa using h)];rfl
theorem ags(a:ad (gt cl (k:Int))=false):hM ad cl (k+1)=hM ad cl k:=funext λj=>by unfold hM;rw[ph,if_neg (by simp[a])]
theorem agr(a:∀c∈cl,ad c=true)(j:Nat):hM ad cl cl.length j=gN cl (j:Int):=by unfold hM gN;exact XW λk k0 k1=>by rw[a _ (gA k0 k1),eA]
