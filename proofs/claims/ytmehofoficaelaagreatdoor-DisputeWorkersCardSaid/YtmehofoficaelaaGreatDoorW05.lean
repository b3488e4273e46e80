/- Part 5 of DisputeWorkers. -/
import Derived.Test.YtmehofoficaelaaGreatDoorW04
set_option linter.all false
namespace Go.AL
open Go
section
variable{P:Program}{G:GT}{c c2:Ctx}{H Hn:U}{w w2:World}{N:Nat}
theorem mo{ds:List D}(h:gF ds=true):∀d∈ds,closed d=true:=λd a=>by obtain⟨i,hi⟩:=aC.1 a;exact xX h hi
theorem qt{ρ:Nat->Option Nat}{k:Nat}{d:D}(h:closed d=true):gq ρ H k d=d:=by cases k<;>(unfold gq;simp[h])
def Ctx.join(c c2:Ctx)(n:Nat)(F:Nat->Prop):Ctx where
 ι:=λv g=>if v<n then c.ι v g else c2.ι (v-n) g
 F:=F
 RT:=c.RT
theorem HX{F:Nat->Prop}{v:Nat}{L:Loc}(h:lY (c.join c2 H.length F) (H++Hn) v L):(v<H.length/\lY c H v L)\/(H.length<=v/\lY c2 Hn (v-H.length) L):=by
 obtain⟨o,b,e,d⟩:=h;rcases bH v H.length with a|a
 .rw[ah a]at b;simp only[Ctx.join,if_pos a]at d;exact .inl ⟨a,o,b,e,d⟩
 .rw[ai a]at b;simp only[Ctx.join,if_neg (fQ.2 a)]at d;exact .inr ⟨a,o,b,e,d⟩
theorem ia.Zy{c c':Ctx}{w:World}{L:Option Loc}{kk:KK}{es:List (Value×D)}(h:ia c w L (.map kk es))(k:∀x∈es,∀u,gh c w u x.2->gh c' w u x.2):ia c' w L (.map kk es):=by
 cases L with
 | none=>simp[ia]at h
 | some L=>
  obtain⟨h1,n,arr,f,m,g⟩:=h;exact⟨h1,n,arr,f,m,g.1,λi e x l j=>let ⟨a,b,d⟩:=g.2.1 i e x l j;⟨a,k x (List.mem_of_getElem? j) _ b,d⟩,g.2.2⟩
structure zh(G:GT)(c c2:Ctx)(H Hn:U)(w w2:World)(F:Nat->Prop):Prop where
 gf:gE G c H w
 ng:gE G c2 Hn w2
 pQ:kj w w2
 fresh:∀b,mh c2 Hn b->w.heap.size<=b
 le:∀b,c.F b->F b
 lt:∀b,F b->b<w2.heap.size
 n1:∀b,F b->¬mh c H b
 n2:∀b,F b->¬mh c2 Hn b
 new:∀b,F b->c.F b\/w.heap.size<=b
 rows:∀(v:Nat) (o:Ob),Hn[v]? = some o->(∃t g cs,o = .row t g cs/\∀d∈cs,∀u,gh c2 w2 u d->gh (c.join c2 H.length F) w2 u d)\/∃kk es,o = .map kk es/\∀x∈es,∀u,gh c2 w2 u x.2->gh (c.join c2 H.length F) w2 u x.2
variable{F:Nat->Prop}
theorem YJ(j:zh G c c2 H Hn w w2 F){u:Value}{d:D}(h:gh c w u d):gh (c.join c2 H.length F) w2 u d:=by
 refine h.carry (λv k L a=>?_) j.le (λb o f=>F8 (j.pQ.kept b (j.gf.kO b f)))
 have e:v<H.length:=by
  rcases bH v H.length with h|h
  .exact h
  .rw[j.gf.out v k h]at a;cases a
 simp only[Ctx.join,if_pos e];exact a
theorem N'(j:zh G c c2 H Hn w w2 F):gE G (c.join c2 H.length F) (H++Hn) w2 where
 inj v v' L L' h1 p n m he:=by
  rcases HX h1 with⟨a,b⟩|⟨a,b⟩<;>rcases HX p with⟨I,q⟩|⟨I,q⟩
  .exact j.gf.inj v v' L L' b q n m he
  .have:=j.gf.lt _ ⟨v,L,b,n,rfl⟩;have:=j.fresh _ ⟨_,L',q,m,rfl⟩;omega
  .have:=j.gf.lt _ ⟨v',L',q,m,rfl⟩;have:=j.fresh _ ⟨_,L,b,n,rfl⟩;omega
  .have:=j.ng.inj _ _ L L' b q n m he;omega
 lt b hb:=by
  obtain⟨v,L,hl,f,e⟩:=hb;rcases HX hl with⟨_,hl⟩|⟨_,hl⟩
  .exact aO (j.gf.lt b ⟨v,L,hl,f,e⟩) j.pQ.size
  .exact j.ng.lt b ⟨_,L,hl,f,e⟩
 nF b hb hF:=by
  obtain⟨v,L,hl,f,e⟩:=hb;rcases HX hl with⟨_,hl⟩|⟨_,hl⟩
  .exact j.n1 b hF ⟨v,L,hl,f,e⟩
  .exact j.n2 b hF ⟨_,L,hl,f,e⟩
 kO b hb:=j.lt b hb
 out v k f:=by simp only[ak]at f;simp only[Ctx.join,if_neg (show¬v<H.length by omega)];exact j.ng.out _ k (by omega)
 mD v o k ho hk:=by
  rcases bH v H.length with f|f
  .rw[ah f]at ho;simp only[Ctx.join,if_pos f];exact j.gf.mD v o k ho hk
  .rw[ai f]at ho;simp only[Ctx.join,if_neg (fQ.2 f)];exact j.ng.mD _ o k ho hk
 ob v o ho:=by
  rcases bH v H.length with f|f
  .rw[ah f]at ho;simp only[Ctx.join,if_pos f];exact ia.keep (c:=c) (c':=c.join c2 H.length F) rfl (λ_ _ h=>YJ j h) (λl hl B r=>j.pQ.kept _ (j.gf.lt _ ⟨v,l,⟨o,ho,r,hl⟩,B,rfl⟩)) (j.gf.ob v o ho)
  .rw[ai f]at ho;simp only[Ctx.join,if_neg (fQ.2 f)];have h0:=j.ng.ob _ o ho;rcases j.rows _ o ho with⟨t,g,cs,rfl,s⟩|⟨kk,es,rfl,s⟩
   rotate_left
   .exact ia.Zy h0 λx D u E=>s x D u E
   simp only[Ob.gen]at h0 ⊢
   cases y:c2.ι (v-H.length) g with
   | none=>rw[y]at h0;simp[ia]at h0
   | some L=>
    rw[y]at h0;simp only[ia]at h0 ⊢;split
    .grind
    .rename_i z;simp only[z]at h0;obtain⟨arr,h1,p,n,m⟩:=h0;refine⟨arr,h1,p,n,λi d r=>?_⟩;obtain⟨x,A,C,J⟩:=m i d r;exact⟨x,A,C,s d (List.mem_of_getElem? r) _ J⟩
 gl g cs hg:=by obtain⟨h1,p⟩:=j.gf.gl g cs hg;exact⟨h1,YJ j p⟩
 rt:=j.gf.rt
theorem Oa(j:zh G c c2 H Hn w w2 F):Step H.length c H w (c.join c2 H.length F) (H++Hn) w2 where
 os:=j.pQ.os
 tape:=j.pQ.tape
 output:=j.pQ.output
 size:=j.pQ.size
 RT:=rfl
 Fm b hb:=j.le b hb
 Fn b hb:=(j.new b hb).imp id .inl
 kept b hb _:=j.pQ.kept b hb
 old v k L a h:=by simp only[Ctx.join,if_pos a];exact h
 own b hb:=by
  obtain⟨v,L,hl,a,e⟩:=hb;rcases HX hl with⟨_,hl⟩|⟨_,hl⟩
  .exact .inr ⟨v,L,hl,a,e⟩
  .exact .inl (j.fresh b ⟨_,L,hl,a,e⟩)
theorem OR(j:zh G c c2 H Hn w w2 F){p:D->Bool}(m:∀d u,p d=true->gh c2 w2 u d->gh (c.join c2 H.length F) w2 u d){u:Value}{r:D}
  (b:gh c2 w2 u r) (h:xt p r=true):gh (c.join c2 H.length F) w2 u (kE H.length r):=by
 have n:∀v g sz off len u,gh c2 w2 u (.fY v g sz off len)->gh (c.join c2 H.length F) w2 u (.fY (v+H.length) g sz off len):=by
  intro v g sz off len u b
  cases b with
  | fY _ _ _ _ _ cap L l e q s o=>exact .fY _ g sz off len cap L (by simp only[Ctx.join];rw[if_neg (by omega),eW];exact l) e q s o
  | mw _ _ _ _ L l a=>exact .mw _ g sz off L (by simp only[Ctx.join];rw[if_neg (by omega),eW];exact l) a
 have h1:∀(d:D) (u:Value),yM p d=true->gh c2 w2 u d->gh (c.join c2 H.length F) w2 u (yF H.length d):=by intro d u f b;cases d<;>first|exact n _ _ _ _ _ _ b|exact m _ _ f b
 cases r with
 | gD v=>
  cases b with
  | gD _ L l e=>exact .gD _ L (by simp only[Ctx.join];rw[if_neg (by omega),eW];exact l) e
 | tup ds=>
  cases b with
  | tup vs _ hl r7=>
   simp only[kE];refine .tup vs _ (by simpa using hl) λi v d e f=>?_;simp only[au,aj]at f;obtain⟨d0,k,rfl⟩:=f;exact h1 d0 v (List.all_eq_true.1 h d0 (List.mem_of_getElem? k)) (r7 i v d0 e k)
 | agg ds=>
  cases b with
  | agg vs _ hl t r7=>
   simp only[kE];refine .agg vs _ (by simpa using hl) t λi v d e f=>?_;simp only[au,aj]at f;obtain⟨d0,k,rfl⟩:=f;exact h1 d0 v (List.all_eq_true.1 h d0 (List.mem_of_getElem? k)) (r7 i v d0 e k)
 | fY v g sz off len=>exact n _ _ _ _ _ _ b
 | _=>exact m _ _ h b
def Ctx.data(c:Ctx)(F:Nat->Prop):Ctx where
 ι:=λ_ _=>none
 F:=F
 RT:=c.RT
theorem MR(h:gE G c H w):gE G (c.data c.F) [] w where
 inj v v' L L' h1:=by obtain⟨o,a,_⟩:=h1;simp at a
 lt b d:=by obtain⟨v,L,⟨o,a,_⟩,_⟩:=d;simp at a
 nF b d:=by obtain⟨v,L,⟨o,a,_⟩,_⟩:=d;simp at a
 kO b d:=h.kO b d
 out _ _ _:=rfl
 mD _ _ _ _ _:=rfl
 ob v o a:=by simp at a
 gl g cs hg:=by obtain⟨h1,e⟩:=h.gl g cs hg;exact⟨h1,gh.closed (c:=c) (c':=c.data c.F) (λb d=>d) e (by simpa[AL.closed]using h1)⟩
 rt:=h.rt
theorem uj{c:Ctx}{b:Nat}:¬mh c [] b:=by rintro⟨v,L,⟨o,a,_⟩,_⟩;simp at a
theorem Bn{n:Nat}{c:Ctx}(hs:Step n c [] w c2 Hn w2):kj w w2:=
 ⟨hs.os,hs.tape,hs.output,hs.size,λb a=>hs.kept b a uj⟩
theorem Vi{o:Ob}(h:n5 o=true):(∃t g cs,o = .row t g cs/\∀d∈cs,closed d=true)\/∃kk es,o = .map kk es/\∀x∈es,closed x.2=true:=by
 cases o<;>simp only[n5]at h<;>first|cases h;done|skip
 .exact .inl ⟨_,_,_,rfl,mo h⟩
 .exact .inr ⟨_,_,rfl,List.all_eq_true.1 h⟩
theorem Vj(h:Hn.all n5=true){v:Nat}{o:Ob}(a:Hn[v]? = some o):(∃t g cs,o = .row t g cs/\∀d∈cs,closed d=true)\/∃kk es,o = .map kk es/\∀x∈es,closed x.2=true:=
 Vi (List.all_eq_true.1 h o (List.mem_of_getElem? a))
theorem WG(h:Hn.all pP=true){v:Nat}{o:Ob}(a:Hn[v]? = some o):∃t g cs,o = .row t g cs/\∀d∈cs,flat d=true:=by
 have:=List.all_eq_true.1 h o (List.mem_of_getElem? a);cases o<;>simp only[pP]at this<;>first|cases this;done|skip
 refine⟨_,_,_,rfl,λd b=>?_⟩;obtain⟨i,hi⟩:=aC.1 b;exact DE this hi
def y5(P:Program)(G:GT)(f:FuncId)(args:List D)(H:U)(d:D)(H':U):Prop:=
 ∀(c:Ctx) (w:World) (vs:List Value),gE G c H w->jC c w vs args ->
  Calls P f vs.toArray w λe w'=>∃v c',e = .returned v/\gE G c' H' w'/\gh c' w' v d/\Step H.length c H w c' H' w'
def vc(P:Program)(G:GT)(f:FuncId)(args:List D)(H:U)(R:D->U->Prop):Prop:=
 ∀(c:Ctx) (w:World) (vs:List Value),gE G c H w->jC c w vs args ->
  Calls P f vs.toArray w λe w'=>∃v c' d H',e = .returned v/\R d H'/\H.length<=H'.length/\gE G c' H' w'/\gh c' w' v d/\Step H.length c H w c' H' w'
theorem vc.one{f:FuncId}{args:List D}{H:U}{R:D->U->Prop}{d:D}{H':U}(h:vc P G f args H R)(h1:∀d' Hn,R d' Hn->d'=d/\Hn=H'):y5 P G f args H d H':=
 λc w vs i g=>(h c w vs i g).mono λ_ _ ⟨v,c',_,_,j,k,_,a,b,e⟩=>by grind
theorem TD:gq (λ_=>none) H 40=gq (iI []) H 40:=rfl
theorem jC.map{c c':Ctx}{f:D->D}(b:∀v d,gh c w v d->gh c' w v (f d)){vs:List Value}{ds:List D}(h:jC c w vs ds):jC c' w vs (ds.map f):=by
 induction h with
 | nil=>exact .nil
 | cons h _ a=>exact .cons (b _ _ h) a
theorem aah(gf:gE G c H w){f:FuncId}{vs:List Value}{args:List D}{d:D}(F:jC c w vs args)(A:y5 P G f (args.map (gq (λ_=>none) H 40)) [] d Hn)
  (n:(if gF args then mO d&&Hn.all n5 else o3 d&&Hn.all pP)=true) :
  Calls P f vs.toArray w λe w'=>∃v c',e = .returned v/\gE G c' (H++Hn) w'/\gh c' w' v (kE H.length d)/\Step H.length c H w c' (H++Hn) w':=by
 by_cases s:gF args=true
 .rw[if_pos s]at n;simp only[Bool.and_eq_true]at n
  have e:args.map (gq (λ_=>none) H 40)=args:=by
   conv=>rhs;rw[<-bf args]
   exact aw λd m=>qt (mo s d m)
  rw[e]at A
  have B:jC (c.data c.F) w vs args:=by
   clear A n e
   induction F with
   | nil=>exact .nil
   | cons h _ J=>
    simp only[gF,Bool.and_eq_true]at s;exact .cons (gh.closed (c:=c) (c':=c.data c.F) (λb a=>a) h s.1) (J s.2)
  refine(A _ w vs (MR gf) B).mono ?_;rintro e w' ⟨v,c2,E,z,C,r⟩;have hg:=Bn r
  have I:∀b,c2.F b->c.F b\/w.heap.size<=b:=λb a=>by
   rcases r.Fn b a with h|h|h
   .exact .inl h
   .exact .inr h
   .exact absurd h uj
  have j:zh G c c2 H Hn w w' c2.F:={
   gf:=gf
   ng:=z
   pQ:=hg
   fresh:=λb a=>by
    rcases r.own b a with h|h
    .exact h
    .exact absurd h uj
   le:=λb a=>r.Fm b a
   lt:=z.kO
   n1:=λb a k=>by
    rcases I b a with h|h
    .exact gf.nF b k h
    .have:=gf.lt b k;omega
   n2:=λb a k=>z.nF b k a
   new:=I
   rows:=λv o k=>by
    rcases Vj n.2 k with⟨t,g,cs,rfl,y⟩|⟨kk,es,rfl,y⟩
    .exact .inl ⟨t,g,cs,rfl,λd m u l=>gh.closed (c:=c2) (c':=c.join c2 H.length c2.F) (λb a=>a) l (y d m)⟩
    .exact .inr ⟨kk,es,rfl,λx K u l=>gh.closed (c:=c2) (c':=c.join c2 H.length c2.F) (λb a=>a) l (y x K)⟩ }
  exact⟨v,_,E,N' j,OR j (p:=AL.closed) (λd u m l=>gh.closed (c:=c2) (c':=c.join c2 H.length c2.F) (λb a=>a) l m) C n.1,Oa j⟩
 .rw[if_neg s]at n;simp only[Bool.and_eq_true]at n
  have B:jC (c.gq [] H) w vs (args.map (gq (λ_=>none) H 40)):=F.map λv d h=>by rw[TD];exact AD gf 40 h
  have M:gE G (c.gq [] H) [] w:=EU (ks:=[]) gf (λi j p q L=>by simp at L);refine(A _ w vs M B).mono ?_;rintro e w' ⟨v,c2,E,z,C,r⟩;have hg:=Bn r
  have j:zh G c c2 H Hn w w' c.F:={
   gf:=gf
   ng:=z
   pQ:=hg
   fresh:=λb a=>by
    rcases r.own b a with h|h
    .exact h
    .exact absurd h uj
   le:=λb a=>a
   lt:=λb a=>aO (gf.kO b a) hg.size
   n1:=λb a k=>gf.nF b k a
   n2:=λb a k=>by
    rcases r.own b k with h|h
    .have:=gf.kO b a;omega
    .exact absurd h uj
   new:=λb a=>.inl a
   rows:=λv o k=>by
    obtain⟨t,g,cs,rfl,y⟩:=WG n.2 k
    exact .inl ⟨t,g,cs,rfl,λd m u l=>gh.flat l (y d m)⟩ }
  exact⟨v,_,E,N' j,OR j (p:=AL.flat) (λd u m l=>gh.flat l m) C n.1,Oa j⟩
theorem am0(gf:gE G c H w){f:FuncId}{vs:List Value}{args:List D}{R:D->U->Prop}(I:jC c w vs args)(B:vc P G f (args.map (gq (λ_=>none) H 40)) [] R)
  (l:∀d Hn,R d Hn->(if gF args then mO d&&Hn.all n5 else o3 d&&Hn.all pP)=true) :
  Calls P f vs.toArray w λe w'=>∃v c' d Hn,e = .returned v/\R d Hn/\gE G c' (H++Hn) w'/\gh c' w' v (kE H.length d)/\Step H.length c H w c' (H++Hn) w':=by
 by_cases s:gF args=true
 .simp only[if_pos s,Bool.and_eq_true]at l
  have e:args.map (gq (λ_=>none) H 40)=args:=by
   conv=>rhs;rw[<-bf args]
   exact aw λd n=>qt (mo s d n)
  rw[e]at B
  have C:jC (c.data c.F) w vs args:=by
   clear B l e
   induction I with
   | nil=>exact .nil
   | cons h _ K=>
    simp only[gF,Bool.and_eq_true]at s;exact .cons (gh.closed (c:=c) (c':=c.data c.F) (λb a=>a) h s.1) (K s.2)
  refine(B _ w vs (MR gf) C).mono ?_;rintro e w' ⟨v,c2,d,Hn,F,z,_,A,E,r⟩;have l:=l d Hn z;have hg:=Bn r
  have J:∀b,c2.F b->c.F b\/w.heap.size<=b:=λb a=>by
   rcases r.Fn b a with h|h|h
   .exact .inl h
   .exact .inr h
   .exact absurd h uj
  have j:zh G c c2 H Hn w w' c2.F:={
   gf:=gf
   ng:=A
   pQ:=hg
   fresh:=λb a=>by
    rcases r.own b a with h|h
    .exact h
    .exact absurd h uj
   le:=λb a=>r.Fm b a
   lt:=A.kO
   n1:=λb a k=>by
    rcases J b a with h|h
    .exact gf.nF b k h
    .have:=gf.lt b k;omega
   n2:=λb a k=>A.nF b k a
   new:=J
   rows:=λv o k=>by
    rcases Vj l.2 k with⟨t,g,cs,rfl,y⟩|⟨kk,es,rfl,y⟩
    .exact .inl ⟨t,g,cs,rfl,λd n u m=>gh.closed (c:=c2) (c':=c.join c2 H.length c2.F) (λb a=>a) m (y d n)⟩
    .exact .inr ⟨kk,es,rfl,λx L u m=>gh.closed (c:=c2) (c':=c.join c2 H.length c2.F) (λb a=>a) m (y x L)⟩ }
  exact⟨v,_,d,Hn,F,z,N' j,OR j (p:=AL.closed) (λd u n m=>gh.closed (c:=c2) (c':=c.join c2 H.length c2.F) (λb a=>a) m n) E l.1,Oa j⟩
 .simp only[if_neg s,Bool.and_eq_true]at l
  have C:jC (c.gq [] H) w vs (args.map (gq (λ_=>none) H 40)):=I.map λv d h=>by rw[TD];exact AD gf 40 h
  have N:gE G (c.gq [] H) [] w:=EU (ks:=[]) gf (λi j p q M=>by simp at M);refine(B _ w vs N C).mono ?_;rintro e w' ⟨v,c2,d,Hn,F,z,_,A,E,r⟩;have l:=l d Hn z;have hg:=Bn r
  have j:zh G c c2 H Hn w w' c.F:={
   gf:=gf
   ng:=A
   pQ:=hg
   fresh:=λb a=>by
    rcases r.own b a with h|h
    .exact h
    .exact absurd h uj
   le:=λb a=>a
   lt:=λb a=>aO (gf.kO b a) hg.size
   n1:=λb a k=>gf.nF b k a
   n2:=λb a k=>by
    rcases r.own b k with h|h
    .have:=gf.kO b a;omega
    .exact absurd h uj
   new:=λb a=>.inl a
   rows:=λv o k=>by
    obtain⟨t,g,cs,rfl,y⟩:=WG l.2 k
    exact .inl ⟨t,g,cs,rfl,λd n u m=>gh.flat m (y d n)⟩ }
  exact⟨v,_,d,Hn,F,z,N' j,OR j (p:=AL.flat) (λd u n m=>gh.flat m n) E l.1,Oa j⟩
def Ctx.oz(c c2:Ctx)(n:Nat)(F:Nat->Prop):Ctx where
 ι:=λv g=>if v=n then c2.ι 0 g else c.ι v g
 F:=F
 RT:=c.RT
theorem IA{n:Nat}{ob:Ob}(f:H[n]? = some .lT){F:Nat->Prop}{v:Nat}{L:Loc}(h:lY (c.oz c2 n F) (H.set n ob) v L):(v≠n/\lY c H v L)\/(v=n/\lY c2 [ob] 0 L):=by
 obtain⟨o,a,e,d⟩:=h;rw[sM (ae.1 f).1]at a
 by_cases b:v=n
 .subst b;rw[if_pos rfl]at a;cases a;simp only[Ctx.oz,if_true]at d;exact .inr ⟨rfl,ob,rfl,e,d⟩
 .rw[if_neg b]at a;simp only[Ctx.oz,if_neg b]at d;exact .inl ⟨b,o,a,e,d⟩
theorem amZ(gf:gE G c H w){f:FuncId}{vs:List Value}{args:List D}{d:D}{ob:Ob}{n:Nat}(z:jC c w vs args)(X:y5 P G f (args.map (gq (λ_=>none) H 40)) [] d [ob])
  (K:(if gF args then mO d&&n5 ob else o3 d&&pP ob)=true) (J:H[n]? = some .lT) :
  Calls P f vs.toArray w λe w'=>∃v c',e = .returned v/\gE G c' (H.set n ob) w'/\gh c' w' v (kE n d)/\Step H.length c H w c' (H.set n ob) w':=by
 have gG:=(ae.1 J).1;have Xw:∀k,c.ι n k=none:=λk=>gf.mD n _ k J (.inl rfl)
 have E:∀(c2:Ctx) (w':World) (v:Value) (F:Nat->Prop),gE G c2 [ob] w'->gh c2 w' v d->kj w w'->(∀b,mh c2 [ob] b->w.heap.size<=b)->(∀b,c.F b->F b)->(∀b,F b->b<w'.heap.size) ->
   (∀b,F b->¬mh c H b)->(∀b,F b->¬mh c2 [ob] b)->(∀b,F b->c.F b\/w.heap.size<=b)->∀(p:D->Bool),(∀d u,p d=true->gh c2 w' u d->gh (c.oz c2 n F) w' u d)->xt p d=true ->
   ((∃t g cs,ob = .row t g cs/\∀d∈cs,p d=true)\/∃kk es,ob = .map kk es/\∀x∈es,p x.2=true) ->
   gE G (c.oz c2 n F) (H.set n ob) w'/\gh (c.oz c2 n F) w' v (kE n d)/\Step H.length c H w (c.oz c2 n F) (H.set n ob) w':=by
  intro c2 w' v F ng m hg Rt T a2 yp Hm mV p N y ij
  have carry:∀ {u:Value} {d:D},gh c w u d->gh (c.oz c2 n F) w' u d:=λh=>by
   refine h.carry (λv k L C=>?_) T (λb o M=>F8 (hg.kept b (gf.kO b M)));have ie:v≠n:=λe=>by rw[e,Xw]at C;cases C
   simp only[Ctx.oz,if_neg ie];exact C
  have Hu:∀v g sz off len u,gh c2 w' u (.fY v g sz off len)->(v=0)->gh (c.oz c2 n F) w' u (.fY (v+n) g sz off len):=by
   intro v g sz off len u z h0;subst h0
   cases z with
   | fY _ _ _ _ _ cap L B m ka jb mG=>exact .fY _ g sz off len cap L (by simp only[Ctx.oz,aQ,if_true];exact B) m ka jb mG
   | mw _ _ _ _ L B a=>exact .mw _ g sz off L (by simp only[Ctx.oz,aQ,if_true];exact B) a
  have hz:∀v g sz off len u,gh c2 w' u (.fY v g sz off len)->v=0:=by
   intro v g sz off len u z
   have:∃L,c2.ι v g=some L:=by
    cases z with
    | fY _ _ _ _ _ cap L B=>exact⟨L,B⟩
    | mw _ _ _ _ L B=>exact⟨L,B⟩
   obtain⟨L,C⟩:=this;rcases dM v with h|h
   .exact h
   .rw[ng.out v g (by show 1<=v;exact h)]at C;cases C
  have a3:∀v u,gh c2 w' u (.gD v)->gh (c.oz c2 n F) w' u (.gD (v+n)):=by
   intro v u z
   cases z with
   | gD _ L B m=>
    have h0:v=0:=by
     rcases dM v with h|h
     .exact h
     .rw[ng.out v 0 (by show 1<=v;exact h)]at B;cases B
    subst h0;exact .gD _ L (by simp only[Ctx.oz,aQ,if_true];exact B) m
  have h1:∀(d:D) (u:Value),yM p d=true->gh c2 w' u d->gh (c.oz c2 n F) w' u (yF n d):=by intro d u y z;cases d<;>first|exact Hu _ _ _ _ _ _ z (hz _ _ _ _ _ _ z)|exact N _ _ y z
  refine⟨{
   inj:=λv v' L L' h1 A W V U=>by
    rcases IA J h1 with⟨a,b⟩|⟨a,b⟩<;>rcases IA J A with⟨a',Y⟩|⟨a',Y⟩
    .exact gf.inj v v' L L' b Y W V U
    .have:=gf.lt _ ⟨v,L,b,W,rfl⟩;have:=Rt _ ⟨_,L',Y,V,rfl⟩;omega
    .have:=gf.lt _ ⟨v',L',Y,V,rfl⟩;have:=Rt _ ⟨_,L,b,W,rfl⟩;omega
    .rw[a,a']
   lt:=λb r=>by
    obtain⟨v,L,hl,m,e⟩:=r;rcases IA J hl with⟨_,hl⟩|⟨_,hl⟩
    .exact aO (gf.lt b ⟨v,L,hl,m,e⟩) hg.size
    .exact ng.lt b ⟨_,L,hl,m,e⟩
   nF:=λb r M=>by
    obtain⟨v,L,hl,m,e⟩:=r;rcases IA J hl with⟨_,hl⟩|⟨_,hl⟩
    .exact yp b M ⟨v,L,hl,m,e⟩
    .exact Hm b M ⟨_,L,hl,m,e⟩
   kO:=a2
   out:=λv k m=>by simp only[ao]at m;simp only[Ctx.oz,if_neg (show¬v=n by omega)];exact gf.out _ k m
   mD:=λv o k s hk=>by
    rw[sM gG]at s
    by_cases m:v=n
    .subst m;rw[if_pos rfl]at s;cases s;simp only[Ctx.oz,if_true];exact ng.mD 0 _ k rfl hk
    .rw[if_neg m]at s;simp only[Ctx.oz,if_neg m];exact gf.mD v o k s hk
   ob:=λv o s=>by
    rw[sM gG]at s
    by_cases m:v=n
    .subst m;rw[if_pos rfl]at s;cases s;simp only[Ctx.oz,if_true];have h0:=ng.ob 0 _ rfl;rcases ij with⟨t,g,cs,rfl,jk⟩|⟨kk,es,rfl,jk⟩
     rotate_left
     .exact ia.Zy h0 λx hx u S=>N _ _ (jk x hx) S
     simp only[Ob.gen]at h0 ⊢
     cases C:c2.ι 0 g with
     | none=>rw[C]at h0;simp[ia]at h0
     | some L=>
      rw[C]at h0;simp only[ia]at h0 ⊢;split
      .grind
      .rename_i oH;simp only[oH]at h0;obtain⟨arr,h1,A,W,V⟩:=h0;refine⟨arr,h1,A,W,λi d y=>?_⟩;obtain⟨x,lW,kM,B6⟩:=V i d y;exact⟨x,lW,kM,N d _ (jk d (List.mem_of_getElem? y)) B6⟩
    .rw[if_neg m]at s;simp only[Ctx.oz,if_neg m];exact ia.keep (c:=c) (c':=c.oz c2 n F) rfl (λ_ _ h=>carry h) (λl hl lV y=>hg.kept _ (gf.lt _ ⟨v,l,⟨o,s,y,hl⟩,lV,rfl⟩)) (gf.ob v o s)
   gl:=λg cs hg=>by obtain⟨h1,A⟩:=gf.gl g cs hg;exact⟨h1,carry A⟩
   rt:=gf.rt },?_,?_⟩
  .cases d with
   | tup ds=>
    cases m with
    | tup vs _ hl r7=>
     simp only[kE];refine .tup vs _ (by simpa using hl) λi v d m R=>?_;simp only[au,aj]at R;obtain⟨d0,Q,rfl⟩:=R;exact h1 d0 v (List.all_eq_true.1 y d0 (List.mem_of_getElem? Q)) (r7 i v d0 m Q)
   | agg ds=>
    cases m with
    | agg vs _ hl s r7=>
     simp only[kE];refine .agg vs _ (by simpa using hl) s λi v d m R=>?_;simp only[au,aj]at R;obtain⟨d0,Q,rfl⟩:=R;exact h1 d0 v (List.all_eq_true.1 y d0 (List.mem_of_getElem? Q)) (r7 i v d0 m Q)
   | fY v g sz off len=>exact Hu _ _ _ _ _ _ m (hz _ _ _ _ _ _ m)
   | gD v=>exact a3 _ _ m
   | _=>exact N _ _ y m
  .exact{
    os:=hg.os
    tape:=hg.tape
    output:=hg.output
    size:=hg.size
    RT:=rfl
    Fm:=T
    Fn:=λb r=>(mV b r).imp id .inl
    kept:=λb r _=>hg.kept b r
    old:=λv k L m h=>by
     have ie:v≠n:=λe=>by rw[e,Xw]at h;cases h
     simp only[Ctx.oz,if_neg ie];exact h
    own:=λb r=>by
     obtain⟨v,L,hl,m,e⟩:=r;rcases IA J hl with⟨_,hl⟩|⟨_,hl⟩
     .exact .inr ⟨v,L,hl,m,e⟩
     .exact .inl (Rt b ⟨_,L,hl,m,e⟩) }
 by_cases O:gF args=true
 .simp only[if_pos O,Bool.and_eq_true]at K
  have e:args.map (gq (λ_=>none) H 40)=args:=by
   conv=>rhs;rw[<-bf args]
   exact aw λd y=>qt (mo O d y)
  rw[e]at X
  have Z:jC (c.data c.F) w vs args:=by
   clear X K e
   induction z with
   | nil=>exact .nil
   | cons h _ ih=>
    simp only[gF,Bool.and_eq_true]at O;exact .cons (gh.closed (c:=c) (c':=c.data c.F) (λb r=>r) h O.1) (ih O.2)
  refine(X _ w vs (MR gf) Z).mono ?_;rintro e w' ⟨v,c2,U,A,m,I⟩;have hg:=Bn I
  have M:∀b,c2.F b->c.F b\/w.heap.size<=b:=λb r=>by
   rcases I.Fn b r with h|h|h
   .exact .inl h
   .exact .inr h
   .exact absurd h uj
  obtain⟨m1,m2,m3⟩:=E c2 w' v c2.F A m hg (λb r=>by
    rcases I.own b r with h|h
    .exact h
    .exact absurd h uj) (λb r=>I.Fm b r) A.kO (λb r s=>by
    rcases M b r with h|h
    .exact gf.nF b s h
    .have:=gf.lt b s;omega) (λb r s=>A.nF b s r) M AL.closed (λd u y S=>gh.closed (c:=c2) (c':=c.oz c2 n c2.F) (λb r=>r) S y) K.1 (by
    exact Vi K.2)
  exact⟨v,_,U,m1,m2,m3⟩
 .simp only[if_neg O,Bool.and_eq_true]at K
  have Z:jC (c.gq [] H) w vs (args.map (gq (λ_=>none) H 40)):=z.map λv d h=>by rw[TD];exact AD gf 40 h
  have Hq:gE G (c.gq [] H) [] w:=EU (ks:=[]) gf (λi j p q N=>by simp at N);refine(X _ w vs Hq Z).mono ?_;rintro e w' ⟨v,c2,U,A,m,I⟩;have hg:=Bn I
  obtain⟨m1,m2,m3⟩:=E c2 w' v c.F A m hg (λb r=>by
    rcases I.own b r with h|h
    .exact h
    .exact absurd h uj) (λb r=>r) (λb r=>aO (gf.kO b r) hg.size) (λb r s=>gf.nF b s r) (λb r s=>by
    rcases I.own b s with h|h
    .have:=gf.kO b r;omega
    .exact absurd h uj) (λb r=>.inl r) AL.flat (λd u y S=>gh.flat S y) K.1 (by
    have:=K.2;cases ob<;>simp only[pP]at this<;>first|(cases this;done)|skip
    refine .inl ⟨_,_,_,rfl,λd y=>?_⟩;obtain⟨i,hi⟩:=aC.1 y
    exact DE this hi)
  exact⟨v,_,U,m1,m2,m3⟩
theorem anl{S:List Nat}{v:Nat}(c:v∈S):iI (mC H S) v=none:=by
 unfold iI mC;rw[dF];intro p b;obtain⟨u,_,rfl⟩:=ar.1 b
 by_cases a:u=v
 .grind
 .simp[a]
theorem aaR{v:Nat}:∀(k:Nat) (d:D),(∀u∈iC H k d,u=v)->AL.gq (iI (mC H [v])) H k d=AL.gq (λ_=>none) H k d
 | 0,d,_=>rfl
 | k+1,d,h=>by
  have i:iI (mC H [v]) v=none:=anl (by simp)
  have b:∀(ds:List D),(∀u∈(ds.map (iC H k)).flatten,u=v)->ds.map (AL.gq (iI (mC H [v])) H k)=ds.map (AL.gq (λ_=>none) H k):=λds o=>
   aw λd f=>aaR k d λu a=>o u (bh.2 ⟨_,ar.2 ⟨d,f,rfl⟩,a⟩)
  unfold iC at h;unfold AL.gq
  by_cases r:AL.closed d=true
  .grind
  .simp only[if_neg r]at h ⊢
   cases d with
   | agg cs=>simp only[b cs h]
   | tup cs=>simp only[b cs h]
   | gu cs=>simp only[b cs h]
   | sl sz es=>
    have:es.map (λx=>x.map (AL.gq (iI (mC H [v])) H k))=es.map (λx=>x.map (AL.gq (λ_=>none) H k)):=aw λe q=>b e λu a=>h u (bh.2 ⟨_,ar.2 ⟨e,q,rfl⟩,a⟩);simp only[this]
   | fn g x y=>
    have h1:=b x λu a=>h u (bA _ a);have s:=b y λu a=>h u (bG _ a);simp only[h1,s]
   | fY u g sz off len=>
    have a:u=v:=h u (by simp);subst a;simp only[i]
    cases c:rowsOf H u with
    | none=>simp only[AG,c]
    | some p=>
     obtain⟨t,n,cs⟩:=p;simp only[AG,c]
     by_cases hg:n=g
     .simp only[hg,if_true]
      have:=b (cs.drop (off*sz)) λw m=>by obtain⟨l,hl,j⟩:=bh.1 m;obtain⟨d,f,rfl⟩:=ar.1 hl;exact h w (by simp only[c];exact aX _ (bh.2 ⟨_,ar.2 ⟨d,bw f,rfl⟩,j⟩))
      rw[this]
     .grind
   | ptr u g off=>
    have a:u=v:=h u (by simp);subst a;simp only[i]
    cases c:rowsOf H u with
    | none=>simp only[AG,c]
    | some p=>
     obtain⟨t,n,cs⟩:=p;simp only[AG,c]
     by_cases hg:n=g
     .simp only[hg,if_true]
      have:=b (cs.drop off) λw m=>by obtain⟨l,hl,j⟩:=bh.1 m;obtain⟨d,f,rfl⟩:=ar.1 hl;exact h w (by simp only[c];exact aX _ (bh.2 ⟨_,ar.2 ⟨d,bw f,rfl⟩,j⟩))
      rw[this]
     .grind
   | gD u=>
    have a:u=v:=h u (by simp);subst a;simp only[i]
   | iT u=>
    have a:u=v:=h u (by simp);subst a;simp only[i]
   | _=>rfl
theorem agX(h:gE G c H w){v:Nat}{t:TypeId}{g:Nat}{cs:List D}(p:H[v]? = some (.row t g cs)) :
  ∃c',gE G c' (H.set v .dead) w/\Step H.length c H w c' (H.set v .dead) w/\(∀u d,gh c w u d->gh c' w u d)/\∀b,(c.gq (mC H [v]) H).F b->c'.F b:=by
 have E:=(ae.1 p).1
 have y:∀c':Ctx,(∀u k,c'.ι u k=c.ι u k)->∀u l,lY c' (H.set v .dead) u l->u≠v/\lY c H u l:=by
  rintro c' n u l ⟨o,i,z,hi⟩;rw[sM E]at i;split at i
  .cases i;cases z
  .rename_i m;exact⟨m,o,i,z,by rw[<-n];exact hi⟩
 let c':Ctx:={ c with F:=λb=>c.F b\/∃L,c.ι v g=some L/\L.jO=false/\L.b=b }
 have n:∀u k,c'.ι u k=c.ι u k:=λ_ _=>rfl;have B:∀u d,gh c w u d->gh c' w u d:=λu d R=>gh.carry (c:=c) (c':=c') (w:=w) (w':=w) (λ_ _ _ h=>h) (λb f=>Or.inl f) (λ_ _ _=>rfl) R;have J:∀b,mh c' (H.set v .dead) b->mh c H b:=λb ⟨u,l,hl,r⟩=>⟨u,l,(y c' n u l hl).2,r⟩
 refine⟨c',{
  inj:=λu O l Q h1 S=>h.inj u O l Q (y c' n _ _ h1).2 (y c' n _ _ S).2
  lt:=λb f=>h.lt b (J b f)
  nF:=λb f C=>by
   obtain⟨u,l,hl,M,e⟩:=f;obtain⟨m,K⟩:=y c' n u l hl;rcases C with C|⟨L,x,j,s⟩
   .exact h.nF b ⟨u,l,K,M,e⟩ C
   .exact m (h.inj u v l L K ⟨_,p,rfl,x⟩ M j (e.trans s.symm))
  kO:=λb f=>by
   rcases f with f|⟨L,x,j,s⟩
   .exact h.kO b f
   .exact s▸h.lt _ ⟨v,L,⟨_,p,rfl,x⟩,j,rfl⟩
  out:=λu k A=>h.out u k (by simpa using A)
  mD:=λu o k i q=>by
   rw[sM E]at i;split at i
   .cases i;rcases q with q|⟨q,_⟩<;>cases q
   .exact h.mD u o k i q
  ob:=λu o i=>by
   rw[sM E]at i;split at i
   .cases i;simp[ia]
   .exact ia.keep (c:=c) (c':=c') rfl B (λ_ _ _ _=>rfl) (h.ob u o i)
  gl:=λg cs hg=>let ⟨a,b⟩:=h.gl g cs hg;⟨a,B _ _ b⟩
  rt:=h.rt },?_,B,λb f=>?_⟩
 .exact{
   os:=⟨rfl,Nat.le_refl _⟩,tape:=rfl,output:=rfl,size:=Nat.le_refl _,RT:=rfl
   Fm:=λb f=>Or.inl f
   Fn:=λb f=>by
    rcases f with f|⟨L,x,j,s⟩
    .exact .inl f
    .exact .inr (.inr ⟨v,L,⟨_,p,rfl,x⟩,j,s⟩)
   kept:=λ_ _ _=>rfl
   old:=λ_ _ _ _ h=>h
   own:=λb f=>.inr (J b f) }
 .rcases f with f|⟨u,L,⟨o,i,z,I⟩,N,j,e⟩
  .exact .inl f
  .have A:u=v:=by
    by_cases m:u=v
    .exact m
    .exfalso;have P:=(ae.1 i).1
     have:iI (mC H [v]) u=some u:=Tr WQ (by
      unfold mC
      simp[P,m])
     rw[this]at N;cases N
   subst A;rw[p]at i;cases i;exact .inr ⟨L,I,j,e⟩
theorem amY(gf:gE G c H w){f:FuncId}{vs:List Value}{args:List D}{d:D}{v:Nat}(o:jC c w vs args)(hS:∀u∈(args.map (iC H 40)).flatten,u=v)(m:(rowsOf H v).isSome=true)
  (n:y5 P G f (args.map (AL.gq (λ_=>none) H 40)) [] d []) (j:gF (args.map (AL.gq (λ_=>none) H 40))=true) (a:AL.closed d=true) :
  Calls P f vs.toArray w λe w'=>∃u c',e = .returned u/\gE G c' (H.set v .dead) w'/\gh c' w' u d/\Step H.length c H w c' (H.set v .dead) w':=by
 have k:∃t g cs,H[v]? = some (.row t g cs):=by
  unfold rowsOf at m;split at m
  .grind
  .cases m
 obtain⟨t,g,cs,k⟩:=k;obtain⟨p,k1,k2,k3,k4⟩:=agX gf k
 have l:jC p w vs (args.map (AL.gq (λ_=>none) H 40)):=by
  have e:args.map (AL.gq (λ_=>none) H 40)=args.map (AL.gq (iI (mC H [v])) H 40):=
   aw λd a=>(aaR 40 d λu s=>hS u (bh.2 ⟨_,ar.2 ⟨d,a,rfl⟩,s⟩)).symm
  have i:=j;rw[e]at i ⊢;have h0:=o.map (c':=c.gq (mC H [v]) H) (f:=AL.gq (iI (mC H [v])) H 40) λ_ _ h=>AD gf 40 h;generalize args.map (AL.gq (iI (mC H [v])) H 40)=as at h0 i;clear e j hS n o
  induction h0 with
  | nil=>exact .nil
  | cons h _ r=>
   simp only[gF,Bool.and_eq_true]at i;exact .cons (gh.closed (c:=c.gq (mC H [v]) H) (c':=p) k4 h i.1) (r i.2)
 have z:(args.map (AL.gq (λ_=>none) H 40)).map (AL.gq (λ_=>none) (H.set v .dead) 40)=args.map (AL.gq (λ_=>none) H 40):=by
  conv=>rhs;rw[<-bf (args.map (AL.gq (λ_=>none) H 40))]
  exact aw λd a=>qt (mo j d a)
 have q:mO d=true/\kE (H.set v .dead).length d=d:=by
  cases d<;>first|(cases a;done)|skip
  case tup ds=>
   simp only[AL.closed]at a;refine⟨?_,?_⟩
   .simp only[mO,xt,List.all_eq_true];intro x b;have:=mo a x b;cases x<;>first|rfl|exact this
   .simp only[kE];congr 1
    conv=>rhs;rw[<-bf ds]
    refine aw λx b=>?_;have:=mo a x b;cases x<;>first|rfl|(cases this;done)
  case agg ds=>
   simp only[AL.closed]at a;refine⟨?_,?_⟩
   .simp only[mO,xt,List.all_eq_true];intro x b;have:=mo a x b;cases x<;>first|rfl|exact this
   .simp only[kE];congr 1
    conv=>rhs;rw[<-bf ds]
    refine aw λx b=>?_;have:=mo a x b;cases x<;>first|rfl|(cases this;done)
  all_goals exact⟨a,rfl⟩
 refine(aah k1 l (by rw[z];exact n) (by rw[if_pos j];simp[q.1])).mono ?_;rintro e w' ⟨u,c2,y,m1,m2,m3⟩;rw[az]at m1 m3;rw[q.2]at m2;exact⟨u,c2,y,m1,m2,k2.trans m3 (by simp)⟩
end
end Go.AL
namespace Go.AL
open Go
def sP(o:Nat)(xs cs:List D):List D:=cs.take o++xs++cs.drop (o+xs.length)
theorem TO{o:Nat}{xs cs:List D}(h:o+xs.length<=cs.length):(sP o xs cs).length=cs.length:=by simp[sP];omega
theorem IZ{o:Nat}{xs cs:List D}(h:o+xs.length<=cs.length)(i:Nat):(sP o xs cs)[i]? = if o<=i/\i<o+xs.length then xs[i-o]? else cs[i]? := by
 unfold sP;have hl:(cs.take o).length=o:=by simp;omega
 by_cases h1:i<o
 .grind
 .grind
def yW(n:Nat):Dl->Option Nat
 | .no=>none
 | .cells v _ _=>some v
 | .obj v _=>some v
 | .new _=>some n
def TS:Dl->Ob->Ob
 | .no,o=>o
 | .cells _ o xs,.row t g cs=>.row t g (sP o xs cs)
 | .cells _ _ _,o=>o
 | .obj _ ob,_=>ob
 | .new ob,_=>ob
abbrev lG(n:Nat)(δ:Dl)(H:U):U:=δ.app H (Al.lT H n)
theorem Dm(n:Nat)(δ:Dl)(H:U)(x:Nat):(lG n δ H)[x]? = if yW n δ=some x then(H[x]?).map (TS δ)else H[x]? := by
 have a:∀(v:Nat) (ob:Ob) (f:Ob->Ob),(∀o,f o=ob)->(H.set v ob)[x]? = if some v=some x then(H[x]?).map f else H[x]? := by grind
 cases δ with
 | no=>simp[lG,Dl.app,yW]
 | obj v ob=>exact a v ob _ λ_=>rfl
 | new ob=>exact a n ob _ λ_=>rfl
 | cells v o xs=>
  have c:yW n (.cells v o xs)=some v:=rfl
  by_cases e:v=x
  .subst e;rw[if_pos c];simp only[lG,Dl.app];split
   .rename_i t g cs b;rw[bW,if_pos rfl,if_pos (ae.1 b).1,b];rfl
   .rename_i d
    cases h:H[v]? with
    | none=>rfl
    | some ob=>
     cases ob<;>first|rfl|skip
     exact absurd h (d _ _ _)
  .rw[if_neg (by rw[c];simpa using e)];simp only[lG,Dl.app];split
   .grind
   .rfl
def Fits(n:Nat)(δ:Dl)(H:U):Prop:=match δ with
 | .cells v o xs=>∃t g cs,H[v]? = some (.row t g cs)/\o+xs.length<=cs.length
 | .new _=>H[n]? = some .lT
 | _=>True
theorem zk{a b:List Fp}(h:uH a b=true){x y:Fp}(d:x∈a)(c:y∈b):uG x y=true:=
 List.all_eq_true.1 (List.all_eq_true.1 h x d) y c
theorem UL{n:Nat}{δ:Dl}{H:U}{j:List Fp}(s:Fits n δ H)(h:uH (jV n δ) j=true):uA j (lG n δ H) H:=by
 intro x b;obtain⟨u,r⟩:=x
 have z:∀v q,(v,q)∈jV n δ->yW n δ=some v:=by intro v q d;cases δ<;>simp only[jV,List.mem_singleton,eu]at d<;>first|(cases d;rfl)|cases d
 have c:yW n δ≠some u->(lG n δ H)[u]? = H[u]? := λk=>by rw[Dm,if_neg k]
 by_cases a:yW n δ=some u
 .cases r with
  | none=>
   exfalso
   cases δ with
   | no=>cases a
   | cells v o xs=>cases a;have:=zk h (x:=(u,some (o,xs.length))) (by simp[jV]) b;simp[uG]at this
   | obj v ob=>cases a;have:=zk h (x:=(u,none)) (by simp[jV]) b;simp[uG]at this
   | new ob=>cases a;have:=zk h (x:=(n,none)) (by simp[jV]) b;simp[uG]at this
  | some q=>
   obtain⟨p,m⟩:=q
   cases δ with
   | no=>cases a
   | obj v ob=>cases a;exfalso;have:=zk h (x:=(u,none)) (by simp[jV]) b;simp[uG]at this
   | new ob=>cases a;exfalso;have:=zk h (x:=(n,none)) (by simp[jV]) b;simp[uG]at this
   | cells v o xs=>
    cases a;obtain⟨t,g,cs,h1,f⟩:=s;have w:=zk h (x:=(u,some (o,xs.length))) (by simp[jV]) b;simp only[uG,bne_self_eq_false,Bool.false_or,bQ,decide_eq_true_eq]at w;refine .inr ⟨t,g,sP o xs cs,cs,?_,h1,TO f,λi l y=>?_⟩
    .simp[Dm,yW,h1,TS]
    .rw[IZ f,if_neg (by omega)]
 .have e:=c a
  cases r with
  | none=>exact e
  | some q=>exact .inl e
theorem aon{o p:Nat}{xs c cs:List D}(h1:o+xs.length<=cs.length)(d:p+c.length<=cs.length)(h:o+xs.length<=p\/p+c.length<=o) :
  sP o xs (sP p c cs)=sP p c (sP o xs cs):=by
 apply bI;intro i;rw[IZ (by rw[TO d];exact h1),IZ d,IZ (by rw[TO h1];exact d),IZ h1]
 by_cases a:o<=i/\i<o+xs.length<;>by_cases b:p<=i/\i<p+c.length
 .omega
 .grind
 .grind
 .grind
theorem aoT{n m:Nat}{δ c:Dl}{H:U}(j:Fits n δ H)(hg:Fits m c H)(h:uH (jV n δ) (jV m c)=true):lG m c (lG n δ H)=lG n δ (lG m c H):=by
 apply bI;intro x;rw[Dm,Dm,Dm,Dm]
 by_cases a:yW n δ=some x<;>by_cases b:yW m c=some x
 .rw[if_pos a,if_pos b,if_pos b,if_pos a]
  have bad:∀ {P:Prop},(∃q r,(x,q)∈jV n δ/\(x,r)∈jV m c/\(q=none\/r=none))->P:=by
   rintro P ⟨q,r,h1,d,k⟩;have:=zk h h1 d;rcases k with rfl|rfl
   .simp[uG]at this
   .cases q<;>simp[uG]at this
  cases δ with
  | no=>cases a
  | obj v ob=>
   cases a
   cases c with
   | no=>cases b
   | cells v o xs=>cases b;exact bad ⟨none,some (o,xs.length),by simp[jV],by simp[jV],.inl rfl⟩
   | obj v ob=>cases b;exact bad ⟨none,none,by simp[jV],by simp[jV],.inl rfl⟩
   | new ob=>cases b;exact bad ⟨none,none,by simp[jV],by simp[jV],.inl rfl⟩
  | new ob=>
   cases a
   cases c with
   | no=>cases b
   | cells v o xs=>cases b;exact bad ⟨none,some (o,xs.length),by simp[jV],by simp[jV],.inl rfl⟩
   | obj v ob=>cases b;exact bad ⟨none,none,by simp[jV],by simp[jV],.inl rfl⟩
   | new ob=>cases b;exact bad ⟨none,none,by simp[jV],by simp[jV],.inl rfl⟩
  | cells v o xs=>
   cases a
   cases c with
   | no=>cases b
   | obj v ob=>cases b;exact bad ⟨some (o,xs.length),none,by simp[jV],by simp[jV],.inr rfl⟩
   | new ob=>cases b;exact bad ⟨some (o,xs.length),none,by simp[jV],by simp[jV],.inr rfl⟩
   | cells v p i=>
    cases b;obtain⟨t,g,cs,h1,d⟩:=j;obtain⟨s,w,u,e,l⟩:=hg;rw[h1]at e;cases e;have f:=zk h (x:=(x,some (o,xs.length))) (y:=(x,some (p,i.length))) (by simp[jV]) (by simp[jV]);simp only[uG,bne_self_eq_false,Bool.false_or,bQ,decide_eq_true_eq]at f;simp only[h1,aH,TS];rw[aon d l f]
 .grind
 .grind
 .grind
structure Rc where
 R:List Fp
 W:List Fp
inductive Out where
 | norm (s:St)
 | exit (id:Nat) (s:St)
 | ret (s:St)
inductive AT where
 | ops (l:List ic) (s:St)
 | code (c:IR) (s:St)
 | loop (n:Nat) (live:List Nat) (a:IR) (s:St)
 | call (f:FuncId) (args:List D) (H:U)
 | trace (l:List ic) (s:St)
inductive pJ where
 | out (o:Out)
 | tr (rs:List Rc) (s:St)
 | val (d:D) (H:U)
def Out.stop:Out->Bool
 | .norm _=>false
 | _=>true
def wu(c:List (Nat×Nat))(rs:List Rc):Bool:=c.all λp=>match rs[p.1]?,rs[p.2]? with
 | some a,some b=>uH a.W (b.R++b.W)&&uH b.W (a.R++a.W)
 | _,_=>false
def yieldOf(env:gP):iL->Option (Nat×List D)
 | .callv f args=>match ev env f with
  | .iT v=>some (v,args.map (ev env))
  | _=>none
 | _=>none
def Out.st:Out->St
 | .norm s=>s
 | .exit _ s=>s
 | .ret s=>s
def Out.AH:Out->qx
 | .norm _=>.ready
 | .exit id _=>.zA id
 | .ret _=>.A7
def AA(s:St):qx->Option Out
 | .ready=>some (.norm s)
 | .busy=>none
 | .A7=>some (.ret s)
 | .zA id=>some (.exit id s)
def kill:List Nat->U->Option U
 | [],H=>some H
 | v::vs,H=>match H[v]? with
  | some .ja=>kill vs (H.set v .dead)
  | _=>none
def finish(fn:jw)(own n:Nat):Out->Option (D×U)
 | .norm s | .ret s=>match kill s.marks s.H with
  | some H=>match results fn { s with H:=H }with
   | some d=>some (leave own n H d)
   | none=>none
  | none=>none
 | .exit _ _=>none
def lP(id n:Nat)(live:List Nat):Out->Out
 | .norm s=>.norm (cut n live s)
 | .exit a s=>if a=id then .norm (cut n live s)else .exit a s
 | .ret s=>.ret s
inductive Ev(T:iB):AT->(pJ->Prop)->Prop
 | mono {j R R'} (h:Ev T j R) (hi:∀r,R r->R' r):Ev T j R'
 | nil {s R} (h:R (.out (.norm s))):Ev T (.ops [] s) R
 | op {e r s d δ R} (hg:guardOf s.env.get e.guard=some true) (h:gN s.env.get s.H s.H.length e.op=some (d,δ))
   (t:Ev T (.ops r { s with env:=put s.env e.dst d,H:=δ.app s.H (Al.last s.H) }) R):Ev T (.ops (e::r) s) R
 | CJ {e r s d δ R} (hg:guardOf s.env.get e.guard=some true) (h:mz s.env.get s.H s.H.length e.op=some (d,δ))
   (t:Ev T (.ops r { s with env:=put s.env e.dst d,H:=δ.app s.H (Al.last s.H) }) R):Ev T (.ops (e::r) s) R
 | off {e r s R} (hg:guardOf s.env.get e.guard=some false) (t:Ev T (.ops r { s with env:=put s.env e.dst (.val undef) }) R):Ev T (.ops (e::r) s) R
 | l8 {l s R} (S:List Nat) (hm:s.marks.all (λv => !S.contains v)=true) (t:Ev T (.ops l (l8 S s)) R):Ev T (.ops l s) R
 | Gz {c s R} (S:List Nat) (hm:s.marks.all (λv => !S.contains v)=true) (t:Ev T (.code c (l8 S s)) R):Ev T (.code c s) R
 | Qt {l s R} (live:List Nat) (t:Ev T (.ops l { s with env:=forget live s.env }) R):Ev T (.ops l s) R
 | Gy {c s R} (live:List Nat) (t:Ev T (.code c { s with env:=forget live s.env }) R):Ev T (.code c s) R
 | F6 {e r s f args fn R1 R} (hg:guardOf s.env.get e.guard=some true) (hc:kK s.env.get e.op=some (f,args)) (hf:T.fn f=some fn) (hp:fn.full=false)
   (h:Ev T (.call f (args.map (gq (λ_=>none) s.H 40)) []) R1) (ha:∀d Hn,R1 (.val d Hn)->(after s e.dst args d Hn).isSome=true)
   (t:∀d Hn s',R1 (.val d Hn)->after s e.dst args d Hn=some s'->Ev T (.ops r s') R):Ev T (.ops (e::r) s) R
 | F5 {e r s f args fn R1 R} (hg:guardOf s.env.get e.guard=some true) (hc:kK s.env.get e.op=some (f,args)) (hf:T.fn f=some fn) (hp:fn.full=true)
   (h:Ev T (.call f args s.H) R1) (t:∀d H',R1 (.val d H')->Ev T (.ops r { s with env:=put s.env e.dst d,H:=H' }) R):Ev T (.ops (e::r) s) R
 | My {e r s v args rf env0 Rd Ra Rb R} (hg:guardOf s.env.get e.guard=some true) (hc:yieldOf s.env.get e.op=some (v,args)) (hv:s.H[v]? = some (.ib rf env0 .ready)) (hR:T.round rf=some Rd) (hl:args.length=Rd.params.length)
   (ha:Ev T (.code Rd.a { env:=uw Rd.params args env0,H:=s.H,iD:=true }) Ra) (hn:∀o,Ra (.out o)->o.stop=false/\∃lu,o.st.H[v]? = some (.ib rf lu .ready))
   (hb:∀s1 lu,Ra (.out (.norm s1))->s1.H[v]? = some (.ib rf lu .ready)->Ev T (.code Rd.b { s1 with H:=s1.H.set v (.ib rf lu .busy) }) Rb)
   (hm:∀o,Rb (.out o)->∃lH,o.st.H[v]? = some (.ib rf lH .busy))
   (t:∀o lH,Rb (.out o)->o.st.H[v]? = some (.ib rf lH .busy)->Ev T (.ops r { s with env:=put s.env e.dst (.b !o.stop),H:=o.st.H.set v (.ib rf lH o.AH) }) R):Ev T (.ops (e::r) s) R
 | next {e r s x v m since seen kk es R} (hg:guardOf s.env.get e.guard=some true) (iG:e.op = .nextM x) (hx:ev s.env.get x = .ptr v 0 0) (hv:s.H[v]? = some (.jl (.gD m) since seen)) (hm:s.H[m]? = some (.map kk es)) (hs:es.length=since)
   (h0:(∀i,i<es.length->i∈seen)->Ev T (.ops r { s with env:=put s.env e.dst (.tup [.b false]) }) R)
   (h1:∀i k d,es[i]? = some (k,d)->i ∉ seen->Ev T (.ops r { s with env:=put s.env e.dst (.tup [.b true,sJ k,d]),H:=s.H.set v (.jl (.gD m) since (seen ++ [i])) }) R):Ev T (.ops (e::r) s) R
 | I7 {s R} (h:R (.tr [] s)):Ev T (.trace [] s) R
 | I9 {e r s d δ R1 R} (hg:guardOf s.env.get e.guard=some true) (h:gN s.env.get s.H s.H.length e.op=some (d,δ))
   (t:Ev T (.trace r { s with env:=put s.env e.dst d,H:=δ.app s.H (Al.last s.H) }) R1) (k:∀rs s',R1 (.tr rs s')->R (.tr (⟨gT s.env.get s.H e.op,jV s.H.length δ⟩::rs) s')):Ev T (.trace (e::r) s) R
 | I8 {e r s R1 R} (hg:guardOf s.env.get e.guard=some false) (t:Ev T (.trace r { s with env:=put s.env e.dst (.val undef) }) R1) (k:∀rs s',R1 (.tr rs s')->R (.tr (⟨[],[]⟩::rs) s')):Ev T (.trace (e::r) s) R
 | I4 {e r s f args fn d R0 R1 R} (hg:guardOf s.env.get e.guard=some true) (hc:kK s.env.get e.op=some (f,args)) (hf:T.fn f=some fn) (hp:fn.full=false)
   (h:Ev T (.call f (args.map (gq (λ_=>none) s.H 40)) []) R0) (h0:∀d' Hn,R0 (.val d' Hn)->d'=d/\Hn = []) (hr:(if gF args then closed d else flat d)=true)
   (t:Ev T (.trace r { s with env:=put s.env e.dst d }) R1) (k:∀rs s',R1 (.tr rs s')->R (.tr (⟨gT s.env.get s.H e.op,[]⟩::rs) s')):Ev T (.trace (e::r) s) R
 | I5 {e r s f as args fn d ob R0 R1 R} (hg:guardOf s.env.get e.guard=some true) (iG:e.op = .callN f as) (ha:args=as.map (ev s.env.get)) (hf:T.fn f=some fn) (hp:fn.full=false)
   (h:Ev T (.call f (args.map (gq (λ_=>none) s.H 40)) []) R0) (h0:∀d' Hn,R0 (.val d' Hn)->d'=d/\Hn = [ob]) (hr:(if gF args then mO d&&n5 ob else o3 d&&pP ob)=true)
   (t:Ev T (.trace r { s with env:=put s.env e.dst (kE s.H.length d),H:=s.H ++ [ob] }) R1) (k:∀rs s',R1 (.tr rs s')->R (.tr (⟨gT s.env.get s.H e.op,[(s.H.length,none)]⟩::rs) s')):Ev T (.trace (e::r) s) R
 | I6 {e r s f as args fn d v R0 R1 R} (hg:guardOf s.env.get e.guard=some true) (iG:e.op = .callN f as) (ha:args=as.map (ev s.env.get)) (hf:T.fn f=some fn) (hp:fn.full=false)
   (hS:∀u∈(args.map (iC s.H 40)).flatten,u=v) (hv:v∈(args.map (iC s.H 40)).flatten) (gX:(rowsOf s.H v).isSome=true) (gI:gF (args.map (gq (λ_=>none) s.H 40))=true)
   (h:Ev T (.call f (args.map (gq (λ_=>none) s.H 40)) []) R0) (h0:∀d' Hn,R0 (.val d' Hn)->d'=d/\Hn = []) (hr:closed d=true)
   (t:Ev T (.trace r { s with env:=put s.env e.dst d,H:=s.H.set v .dead }) R1) (k:∀rs s',R1 (.tr rs s')->R (.tr (⟨gT s.env.get s.H e.op,[(v,none)]⟩::rs) s')):Ev T (.trace (e::r) s) R
 | l6 {jG l s R1 R} (t:Ev T (.trace l s) R1) (hp:∀rs s',R1 (.tr rs s')->wu jG rs=true/\R (.out (.norm s'))):Ev T (.code (.l6 jG l) s) R
 | mR {jG l es s R1 R} (t:Ev T (.trace l s) R1) (hp:∀rs s',R1 (.tr rs s')->wu jG rs=true) (k:∀rs s',R1 (.tr rs s')->Ev T (.ops es s') R):Ev T (.code (.mR jG l es) s) R
 | skip {s R} (h:R (.out (.norm s))):Ev T (.code .skip s) R
 | Gf {l s R} (h:Ev T (.ops l s) R):Ev T (.code (.ops l) s) R
 | seq {a b s R1 R} (h:Ev T (.code a s) R1) (k:∀s',R1 (.out (.norm s'))->Ev T (.code b s') R) (hs:∀o,R1 (.out o)->o.stop=true->R (.out o)):Ev T (.code (.seq a b) s) R
 | cond {c a b s x R} (hc:ev s.env.get c = .val (.bool x)) (h:Ev T (.code (if x then a else b) s) R):Ev T (.code (.cond c a b) s) R
 | block {id live a s R1 R} (h:Ev T (.code a s) R1) (k:∀o,R1 (.out o)->R (.out (lP id s.H.length live o))):Ev T (.code (.block id live a) s) R
 | loop {live a s R} (h:Ev T (.loop s.H.length live a { s with env:=forget live s.env }) R):Ev T (.code (.loop live a) s) R
 | Aq {n live a s R1 R} (h:Ev T (.code a s) R1) (k:∀s',R1 (.out (.norm s'))->Ev T (.loop n live a (cut n live s')) R) (hs:∀o,R1 (.out o)->o.stop=true->R (.out o)):Ev T (.loop n live a s) R
 | oB {rf live x s f first cap fn R1 R} (hr:s.iD=false) (hx:ev s.env.get x = .fn (.func f) first cap) (hf:T.fn f=some fn) (hp:fn.full=true)
   (h:Ev T (.call f (first ++ [.iT (s.H.length+1)]++cap) (s.H ++ [.ja,.ib rf (forget live s.env) .ready])) R1)
   (k:∀d H',R1 (.val d H')->∃env st o,H'[s.H.length+1]? = some (.ib rf env st)/\AA { s with H:=H'.set (s.H.length+1) .dead,marks:=s.H.length::s.marks } st=some o/\R (.out o)):Ev T (.code (.oB rf live x) s) R
 | exit {id s R} (h:R (.out (.exit id s))):Ev T (.code (.exit id) s) R
 | ret {s R} (h:R (.out (.ret s))):Ev T (.code .ret s) R
 | call {f args H fn R1 R} (own:Nat) (hf:T.fn f=some fn) (hl:args.length<=fn.ntmps) (h:Ev T (.code fn.body { env:=uf args,H:=H }) R1)
   (k:∀o,R1 (.out o)->∃d H',finish fn own H.length o=some (d,H')/\R (.val d H')):Ev T (.call f args H) R
 | sort {f g fn sz v gen t H R} {α:Type} (fc:α->List D) (l:List α) (cf:α->α->Int) (hs:T.sort f=some sz) (hg:T.fn g=some fn) (hl:∀a∈l,(fc a).length=sz) (gI:∀a∈l,gF (fc a)=true) (h0:0<l.length) (wZ:l.length<4611686018427387904)
   (Ew:∀x∈l,¬cf x x<0) (tr:∀x∈l,∀y∈l,∀z∈l,cf x y<0->cf y z<0->cf x z<0) (nt:∀x∈l,∀y∈l,∀z∈l,¬cf x y<0->¬cf y z<0->¬cf x z<0)
   (hc:∀x∈l,∀y∈l,Ev T (.call g [.agg (fc x),.agg (fc y)] []) (λr=>∃H',r = .val (.i (cf x y)) H')) (hv:H[v]? = some (.row t gen (l.map fc).flatten))
   (k:∀l':List α,l'.Perm l->l'.Pairwise (λx y=>¬cf y x<0)->R (.val (.tup []) (H.set v (.row t gen (l'.map fc).flatten)))):Ev T (.call f [.fY v gen sz 0 l.length,.fn (.func g) [] []] H) R
 | E0 {f sz x H R} (hs:T.sort f=some sz) (k:R (.val (.tup []) H)):Ev T (.call f [.gg,x] H) R
 | tt {f v gen t H R} (l:List Int) (hs:T.tt f=true) (h0:0<l.length) (wZ:l.length<4611686018427387904) (hv:H[v]? = some (.row t gen (l.map λn=>D.i n)))
   (k:R (.val (.tup []) (H.set v (.row t gen ((l.mergeSort λx y=>decide (x<=y)).map λn=>D.i n))))):Ev T (.call f [.fY v gen 1 0 l.length] H) R
 | sZ {f v gen t zs H R} (l:List Int) (i:Nat) (hs:T.sZ f=true) (hi:i<l.length) (hv:H[v]? = some (.row t gen (l.map (λn=>D.i n)++zs)))
   (k:R (.val (.fY v gen 1 0 (l.length-1)) (H.set v (.row t gen ((l.take i++l.drop (i+1) ++ [0]).map (λn=>D.i n)++zs))))):Ev T (.call f [.fY v gen 1 0 l.length,.i i,.i ((i:Int)+1)] H) R
end Go.AL
namespace Go.AL
open Go
def mQ(f:gP):Option Nat->D->gP
 | some k,d=>λt=>if k=t then d else f t
 | none,_=>f
theorem IB(env:Env)(dst:Option Nat)(d:D):(put env dst d).get=mQ env.get dst d:=by
 cases dst with
 | none=>rfl
 | some k=>funext t;simp[put,Env.wW,mQ]
def QE:Option (Nat×Bool)->List Nat
 | some (t,_)=>[t]
 | none=>[]
def looks(e:ic):List Nat:=ik e.op++QE e.guard
inductive Ef(C:FuncId->List D->D->U->Prop)(f:gP)(H:U)(e:ic)(n:Nat):Rc->D->Dl->Prop
 | op {d δ} (hg:guardOf f e.guard=some true) (h:gN f H n e.op=some (d,δ)) (hf:Fits n δ H):Ef C f H e n ⟨gT f H e.op,jV n δ⟩ d δ
 | off (hg:guardOf f e.guard=some false):Ef C f H e n ⟨[],[]⟩ (.val undef) .no
 | call {g args d} (hg:guardOf f e.guard=some true) (hc:kK f e.op=some (g,args))
   (h:C g (args.map (gq (λ_=>none) H 40)) d []) (hr:(if gF args then closed d else flat d)=true):Ef C f H e n ⟨gT f H e.op,[]⟩ d .no
 | callN {g as args d ob} (hg:guardOf f e.guard=some true) (iG:e.op = .callN g as) (ha:args=as.map (ev f))
   (h:C g (args.map (gq (λ_=>none) H 40)) d [ob]) (hr:(if gF args then mO d&&n5 ob else o3 d&&pP ob)=true) (hf:Fits n (.new ob) H):Ef C f H e n ⟨gT f H e.op,jV n (.new ob)⟩ (kE n d) (.new ob)
 | A2 {g as args d v} (hg:guardOf f e.guard=some true) (iG:e.op = .callN g as) (ha:args=as.map (ev f)) (hS:∀u∈(args.map (iC H 40)).flatten,u=v) (hv:v∈(args.map (iC H 40)).flatten) (gX:(rowsOf H v).isSome=true)
   (h:C g (args.map (gq (λ_=>none) H 40)) d []) (gI:gF (args.map (gq (λ_=>none) H 40))=true) (hr:closed d=true):Ef C f H e n ⟨gT f H e.op,[(v,none)]⟩ d (.obj v .dead)
theorem guard_congr{f f':gP}{g:Option (Nat×Bool)}(h:∀t∈QE g,f t=f' t):guardOf f g=guardOf f' g:=by
 cases g with
 | none=>rfl
 | some p=>simp only[guardOf,h p.1 (by simp[QE])]
theorem abL{x:Fp}{H1 H2:U}(h:Alike x H1 H2):Alike x H2 H1:=by
 obtain⟨v,r⟩:=x
 cases r with
 | none=>exact h.symm
 | some q=>
  rcases h with h|⟨t,g,cs,ds,h1,e,d,c⟩
  .exact .inl h.symm
  .exact .inr ⟨t,g,ds,cs,e,h1,d.symm,λi a b=>(c i a b).symm⟩
theorem WE{n:Nat}{δ:Dl}{H H':U}(h:uA (jV n δ) H H')(a:Fits n δ H):Fits n δ H':=by
 cases δ with
 | no=>trivial
 | obj v ob=>trivial
 | new ob=>
  have e:H[n]? = H'[n]? := h (n,none) (by simp[jV]);show H'[n]? = some .lT;rw[<-e];exact a
 | cells v o xs=>
  obtain⟨t,g,cs,h1,d⟩:=a;rcases h (v,some (o,xs.length)) (by simp[jV])with h|⟨f,l,i,ds,b,c,k,j⟩
  .exact⟨t,g,cs,h▸h1,d⟩
  .rw[h1]at b;cases b;exact⟨t,g,ds,c,by omega⟩
theorem OV{H H':U}{v:Nat}(h:Alike (v,none) H H'):rowsOf H v=rowsOf H' v:=by have e:H[v]? = H'[v]? := h;simp only[rowsOf,e]
theorem PM{f:gP}{H:U}{op:iL}{g:FuncId}{args:List D}(i:kK f op=some (g,args)){H':U}(h:uA (gT f H op) H H') :
  gT f H' op=gT f H op/\args.map (gq (λ_=>none) H' 40)=args.map (gq (λ_=>none) H 40):=by
 have key:∀args:List D,(∀v∈(args.map (iC H 40)).flatten,rowsOf H v=rowsOf H' v)->args.map (iC H' 40)=args.map (iC H 40)/\args.map (gq (λ_=>none) H' 40)=args.map (gq (λ_=>none) H 40):=by intro args j;have h1:∀d∈args,∀v∈iC H 40 d,rowsOf H v=rowsOf H' v:=λd e v c=>j v (bh.2 ⟨_,ar.2 ⟨d,e,rfl⟩,c⟩);exact⟨aw λd e=>(IG 40 d (h1 d e)).1,aw λd e=>(IG 40 d (h1 d e)).2⟩
 cases op<;>first|(cases i;done)|skip
 case call k as=>
  cases i;obtain⟨a,b⟩:=key (as.map (ev f)) λv c=>OV (h (v,none) (ar.2 ⟨v,c,rfl⟩));exact⟨by simp only[gT,a],b⟩
 case callN k as=>
  cases i;obtain⟨a,b⟩:=key (as.map (ev f)) λv c=>OV (h (v,none) (ar.2 ⟨v,c,rfl⟩));exact⟨by simp only[gT,a],b⟩
 case callv k as=>
  simp only[gT,i]at h ⊢;obtain⟨a,b⟩:=key args λv c=>OV (h (v,none) (ar.2 ⟨v,c,rfl⟩));exact⟨by rw[a],b⟩
theorem afd{f:gP}{H H':U}{op:iL}(a:kK f op=none):gT f H' op=gT f H op:=by
 cases op<;>first|rfl|(cases a;done)|skip
 case callv=>simp only[gT,a]
 case len k x=>cases k<;>rfl
theorem ach{f:gP}{H:U}{n:Nat}{op:iL}{r:D×Dl}(h:gN f H n op=some r):kK f op=none:=by cases op<;>first|rfl|cases h
variable{C:FuncId->List D->D->U->Prop}
theorem Ef.local{f f':gP}{H H':U}{e:ic}{n:Nat}{rc:Rc}{d:D}{δ:Dl}(h:Ef C f H e n rc d δ)(E:∀t∈looks e,f t=f' t)(j:uA (rc.R++rc.W) H H'):Ef C f' H' e n rc d δ:=by
 have h1:∀t∈ik e.op,f t=f' t:=λt u=>E t (bA _ u);have p:guardOf f e.guard=guardOf f' e.guard:=guard_congr λt u=>E t (bG _ u)
 cases h with
 | op hg B s=>
  have k:gT f H e.op=gT f' H' e.op:=by rw[Nj h1,afd (ach (by rw[<-UQ h1];exact B))]
  rw[k];refine .op (p▸hg) ?_ (WE j.right s);rw[<-UQ h1,<-abM (H1:=H) j.left];exact B
 | off hg=>exact .off (p▸hg)
 | call hg i l o=>
  obtain⟨a,b⟩:=PM i j.left;have k:gT f H e.op=gT f' H' e.op:=by rw[<-a,Nj h1]
  rw[k];exact .call (p▸hg) (by rw[<-MA h1];exact i) (by rw[b];exact l) o
 | @callN g w args _ _ hg c q l o s=>
  have i:kK f e.op=some (g,args):=by rw[c,q];rfl
  obtain⟨a,b⟩:=PM i j.left;have k:gT f H e.op=gT f' H' e.op:=by rw[<-a,Nj h1]
  rw[k];have m:kK f' e.op=some (g,args):=by rw[<-MA h1];exact i
  have r:args=w.map (ev f'):=by rw[c]at m;cases m;rfl
  exact .callN (p▸hg) c r (by rw[b];exact l) o (WE j.right s)
 | @A2 g w args _ v hg c q hS F G l I o=>
  have i:kK f e.op=some (g,args):=by rw[c,q];rfl
  obtain⟨a,b⟩:=PM i j.left;have k:gT f H e.op=gT f' H' e.op:=by rw[<-a,Nj h1]
  rw[k];have m:kK f' e.op=some (g,args):=by rw[<-MA h1];exact i
  have r:args=w.map (ev f'):=by rw[c]at m;cases m;rfl
  have A:(args.map (iC H' 40)).flatten=(args.map (iC H 40)).flatten:=by have z:=a;rw[c]at z;simp only[gT,<-q]at z;exact(List.map_inj_right (λx y h=>(Prod.mk.inj h).1)).1 z
  have J:rowsOf H v=rowsOf H' v:=OV (j.right (v,none) (by simp));exact .A2 (p▸hg) c r (by rw[A];exact hS) (by rw[A];exact F) (by rw[<-J];exact G) (by rw[b];exact l) (by rw[b];exact I) o
theorem Ef.fits{f:gP}{H:U}{e:ic}{n:Nat}{rc:Rc}{d:D}{δ:Dl}(h:Ef C f H e n rc d δ):Fits n δ H/\rc.W=jV n δ:=by
 cases h with
 | op _ _ a=>exact⟨a,rfl⟩
 | off=>exact⟨trivial,rfl⟩
 | call=>exact⟨trivial,rfl⟩
 | callN _ _ _ _ _ a=>exact⟨a,rfl⟩
 | A2=>exact⟨trivial,rfl⟩
def yU(a b:ic):Bool:=
 (match a.dst with|some k => !(looks b).contains k&&b.dst != some k|none=>true)&&(match b.dst with|some k => !(looks a).contains k|none=>true)
def wx(a b:Rc):Bool:=uH a.W (b.R++b.W)&&uH b.W (a.R++a.W)
theorem abf{f:gP}{dst:Option Nat}{d:D}{l:List Nat}(h:∀k,dst=some k->k ∉ l):∀t∈l,mQ f dst d t=f t:=by
 intro t a
 cases dst with
 | none=>rfl
 | some k=>
  simp only[mQ];rw[if_neg];rintro rfl;exact h _ rfl a
theorem aoC{f:gP}{a b:Option Nat}{x y:D}(h:∀k,a=some k->b≠some k):mQ (mQ f a x) b y=mQ (mQ f b y) a x:=by
 cases a with
 | none=>rfl
 | some k=>
  cases b with
  | none=>rfl
  | some j=>
   have d:j≠k:=λe=>h k rfl (by rw[e]);funext t;simp only[mQ]
   by_cases h1:j=t<;>by_cases c:k=t<;>simp[h1,c]
   exact absurd (h1.trans c.symm) d
theorem an8{a b:ic}(h:yU a b=true):(∀k,a.dst=some k->k ∉ looks b)/\(∀k,b.dst=some k->k ∉ looks a)/\(∀k,a.dst=some k->b.dst≠some k):=by
 unfold yU at h;simp only[Bool.and_eq_true]at h;refine⟨λk c=>?_,λk c=>?_,λk c=>?_⟩
 .have:=h.1;rw[c]at this;simp at this;exact this.1
 .have:=h.2;rw[c]at this;simpa using this
 .have:=h.1;rw[c]at this;simp at this;exact this.2
theorem swap{f:gP}{H:U}{a b:ic}{n m:Nat}{g e:Rc}{x y:D}{δ c:Dl}(l:Ef C f H a n g x δ)(w:Ef C (mQ f a.dst x) (lG n δ H) b m e y c)
  (hs:yU a b=true) (d:wx g e=true) :
  Ef C f H b m e y c/\Ef C (mQ f b.dst y) (lG m c H) a n g x δ/\mQ (mQ f a.dst x) b.dst y=mQ (mQ f b.dst y) a.dst x/\lG m c (lG n δ H)=lG n δ (lG m c H):=by
 obtain⟨s1,r,q⟩:=an8 hs;simp only[wx,Bool.and_eq_true]at d;obtain⟨p,j⟩:=l.fits;have k:Ef C f H b m e y c:=w.local (abf s1) (UL p (by rw[<-j];exact d.1));obtain⟨o,i⟩:=k.fits;refine⟨k,l.local (λt v=>(abf r t v).symm) λz h=>abL (UL o (by rw[<-i];exact d.2) z h),aoC q,aoT p o ?_⟩;rw[<-j,<-i];simp only[uH,List.all_eq_true]at d ⊢;exactλu s z h=>d.1 u s z (bG _ h)
theorem Sx{o:Option D}{d:D}{δ:Dl}(h:lift o=some (d,δ)):δ = .no:=by cases o<;>simp[lift]at h;exact h.2.symm
theorem Td{f:gP}{H:U}{e:ic}{n:Nat}{rc:Rc}{d:D}{δ:Dl}(h:Ef C f H e n rc d δ)(a:Iz e.op=true):rc.R = []/\rc.W = []:=by
 cases h with
 | op hg c j=>
  cases b:e.op<;>rw[b]at c a<;>simp only[gN]at c<;>first|(cases a;done)|skip
  case len k x=>
   have:=Sx c;subst this;cases k<;>first|(cases a;done)|exact⟨rfl,rfl⟩
  all_goals
   have:=Sx c;subst this;exact⟨rfl,rfl⟩
 | off hg=>exact⟨rfl,rfl⟩
 | call hg g h i=>cases b:e.op<;>rw[b]at g a<;>first|(cases a;done)|(cases g;done)
 | callN _ b=>rw[b]at a;cases a
 | A2 _ b=>rw[b]at a;cases a
theorem aao{f:gP}{H:U}{e:ic}{n:Nat}{rc:Rc}{d:D}{δ:Dl}(h:Ef C f H e n rc d δ)(a:Tj e.op=true):rc.W = []:=by
 by_cases g:Iz e.op=true
 .exact(Td h g).2
 .cases h with
  | op hg c i=>
   cases b:e.op<;>rw[b]at c a g<;>simp only[gN]at c<;>first|(cases a;done)|(exact absurd rfl g)|skip
   case call=>cases c
   case callv=>cases c
   all_goals
    have:=Sx c;subst this;rfl
  | off hg=>rfl
  | call=>rfl
  | callN _ b=>rw[b]at a;cases a
  | A2 _ b=>rw[b]at a;cases a
theorem aa3{f f':gP}{H H':U}{a b:ic}{n m:Nat}{g e:Rc}{x y:D}{δ k:Dl}(j:Ef C f H a n g x δ)(i:Ef C f' H' b m e y k)(h:Pb a.op b.op=true):wx g e=true:=by
 simp only[Pb,bQ,Bool.and_eq_true]at h;rcases h with(h|h)|⟨h1,l⟩
 .obtain⟨d,c⟩:=Td j h;simp[wx,d,c,uH]
 .obtain⟨d,c⟩:=Td i h;simp[wx,d,c,uH]
 .simp[wx,aao j h1,aao i l,uH]
structure mJ where
 k:Nat
 e:ic
 n:Nat
 rc:Rc
inductive Tx(C:FuncId->List D->D->U->Prop):gP->U->List mJ->gP->U->Prop
 | nil {f H}:Tx C f H [] f H
 | cons {f H it r d δ f' H'} (h:Ef C f H it.e it.n it.rc d δ) (t:Tx C (mQ f it.e.dst d) (lG it.n δ H) r f' H'):Tx C f H (it::r) f' H'
theorem Tx.each{f:gP}{H:U}{l:List mJ}{f':gP}{H':U}(h:Tx C f H l f' H'):∀a∈l,∃f H d δ,Ef C f H a.e a.n a.rc d δ:=by
 induction h with
 | nil=>intro a b;cases b
 | cons h t c=>
  intro a b;rcases av.1 b with rfl|b
  .exact⟨_,_,_,_,h⟩
  .exact c a b
theorem Tx.front{a:mJ}{post:List mJ}{f':gP}{H':U}:∀ {pre:List mJ} {f:gP} {H:U},Tx C f H (pre++a::post) f' H'->(∀p∈pre,yU p.e a.e=true/\wx p.rc a.rc=true) ->
  ∃d δ,Ef C f H a.e a.n a.rc d δ/\Tx C (mQ f a.e.dst d) (lG a.n δ H) (pre++post) f' H'
 | [],f,H,h,_=>by
  cases h with
  | cons h t=>exact⟨_,_,h,t⟩
 | p::pre,f,H,h,ha=>by
  cases h with
  | @cons _ _ _ _ d δ _ _ h t=>
   obtain⟨y,b,i,j⟩:=Tx.front (pre:=pre) t λq k=>ha q (by simp[k]);obtain⟨s1,g,e,c⟩:=swap h i (ha p (by simp)).1 (ha p (by simp)).2;refine⟨y,b,s1,.cons g ?_⟩;rw[<-e,<-c];exact j
end Go.AL
namespace Go.AL
open Go
structure SX(G:GT)(N:Nat)(c:Ctx)(w:World)(f:gP)(H:U)(ms:List Nat)(a:Act):Prop where
 gf:gE G c H w
 env:kT c w f a
 size:N<=a.tmps.size
 marks:sq c ms a.defers
section
variable{P:Program}{G:GT}{c:Ctx}{w:World}{f:gP}{H:U}{ms:List Nat}{a:Act}{N:Nat}
theorem am1{f:gP}{a:Act}{c:Ctx}{w:World}(b:kT c w f a)(hN:N<=a.tmps.size){dst:Option Tmp}(g:tD N dst=true){v:Value}{d:D}(i:gh c w v d) :
  kT c w (mQ f dst d) (a.put dst v):=by
 cases dst with
 | none=>exact b
 | some t=>
  have h:t<a.tmps.size:=aO (by simpa[tD]using g) hN;intro k;simp only[mQ,Act.put];split
  .simp_all
  .rename_i e;have:(a.tmps.setIfInBounds t v).getD k undef=a.tmps.getD k undef:=by simp_all
   rw[this];exact b k
theorem SX.next{c':Ctx}{w':World}{H':U}(hs:SX G N c w f H ms a)(gf:gE G c' H' w')(e:Step H.length c H w c' H' w'){dst:Option Tmp}(i:tD N dst=true)
  {v:Value} {d:D} (g:gh c' w' v d):SX G N c' w' (mQ f dst d) H' ms (a.put dst v) where
 gf:=gf
 env:=am1 (kT.carry (λ_ _ h=>h.qb hs.gf.toHeapOK e) hs.env) hs.size i g
 size:=by rw[aai];exact hs.size
 marks:=by
  rw[put_defers];refine hs.marks.mono λv L h=>e.old v 0 L ?_ h;rcases bH v H.length with b|b
  .exact b
  .rw[hs.gf.out v 0 b]at h;cases h
theorem abN{op:iL}{n b:Nat}{d:D}{δ:Dl}(h:gN f H n op=some (d,δ))(a:∀ob,δ≠.new ob):gN f H b op=some (d,δ):=by
 cases op<;>simp only[gN]at h ⊢ <;> first|exact h|skip
 case box=>
  unfold rK at h;split at h
  .grind
  .cases h
 case alloc=>cases h;exact absurd rfl (a _)
 case buildSl=>
  unfold zn at h;split at h
  .grind
  .cases h
 case mkmap=>cases h;exact absurd rfl (a _)
 case mksl=>
  unfold EC at h;split at h
  .grind
  .cases h
 case app=>
  unfold sW at h ⊢;split at h
  .grind
  .cases h
theorem F'{d:D}(h:closed d=true):mO d=true/\kE H.length d=d:=by
 cases d<;>first|(cases h;done)|skip
 case tup ds=>
  have b:=mo h;refine⟨?_,?_⟩
  .simp only[mO,xt,List.all_eq_true];intro d a;have:=b d a;cases d<;>first|rfl|exact this
  .simp only[kE];congr 1
   conv=>rhs;rw[<-bf ds]
   refine aw λd a=>?_;have:=b d a;cases d<;>first|(cases this;done)|rfl
 case agg ds=>
  have b:=mo h;refine⟨?_,?_⟩
  .simp only[mO,xt,List.all_eq_true];intro d a;have:=b d a;cases d<;>first|rfl|exact this
  .simp only[kE];congr 1
   conv=>rhs;rw[<-bf ds]
   refine aw λd a=>?_;have:=b d a;cases d<;>first|(cases this;done)|rfl
 all_goals exact⟨h,rfl⟩
theorem Qs{d:D}(h:flat d=true):o3 d=true/\kE H.length d=d:=by
 cases d<;>first|(cases h;done)|skip
 case tup ds=>
  have b:∀d∈ds,flat d=true:=λd a=>by obtain⟨i,hi⟩:=aC.1 a;exact DE h hi
  refine⟨?_,?_⟩
  .simp only[o3,xt,List.all_eq_true];intro d a;have:=b d a;cases d<;>first|rfl|exact this
  .simp only[kE];congr 1
   conv=>rhs;rw[<-bf ds]
   refine aw λd a=>?_;have:=b d a;cases d<;>first|(cases this;done)|rfl
 case agg ds=>
  have b:∀d∈ds,flat d=true:=λd a=>by obtain⟨i,hi⟩:=aC.1 a;exact DE h hi
  refine⟨?_,?_⟩
  .simp only[o3,xt,List.all_eq_true];intro d a;have:=b d a;cases d<;>first|rfl|exact this
  .simp only[kE];congr 1
   conv=>rhs;rw[<-bf ds]
   refine aw λd a=>?_;have:=b d a;cases d<;>first|(cases this;done)|rfl
 all_goals exact⟨h,rfl⟩
variable{C:FuncId->List D->D->U->Prop}
theorem VP(X:∀g args d Hn,C g args d Hn->s5 P g=true/\y5 P G g args [] d Hn)(hs:SX G N c w f H ms a){A:Array Oper}{o:Oper}{e:ic}{i:Nat}(hA:A[i]? = some o)
  (ho:wQ P G N A o=some e) {n:Nat} {rc:Rc} {d:D} {δ:Dl} (hE:Ef C f H e n rc d δ) {x:Option Nat} {m:Nat} {Q:Exit->Act->World->Prop} {K:Act->World->Prop}
  (k:∀c' w' a',SX G N c' w' (mQ f e.dst d) (lG n δ H) ms a'->Step H.length c H w c' (lG n δ H) w'->K a' w'):wpOpIn (FW x) m P A Q i K a w:=by
 obtain⟨s1,p,B,z⟩:=zx ho;unfold wpOpIn;simp only[hA]
 cases hE with
 | op hg h R=>
  have r:=u9 hs.env z hg;have s1:=Vr s1 h;simp only[r,if_true]
  have s:∀ {al:Al},nk H al->gN f H al.1 e.op=some (d,δ)->δ.app H al=lG n δ H->o.wpIn (FW x) m P a w K Q:=by
   intro al iq h T;obtain⟨v,w',M,d',H',c',⟨rfl,rfl⟩,gf,q,l⟩:=aaf (P:=P) (K:=λd' H'=>d'=d/\H'=δ.app H al) hs.gf hs.env iq s1 (UR h ⟨rfl,rfl⟩);refine⟨λ_ _=>trivial,?_⟩;rw[Oper.semAt_plain (FW x) a.eval o (Ck s1)];rw[T]at gf l;have j:=hs.next gf l B q
   rw[<-p]at j;have V:=k c' w' _ j l;rw[p]at V;rcases M with M|⟨M,rfl⟩
   .rw[M];exact V
   .rw[M];exact V
  by_cases Z:∃ob,δ = .new ob
  .obtain⟨ob,rfl⟩:=Z;exact s (al:=Al.lT H n) (nk.lT R) h rfl
  .have Y:∀ob,δ≠.new ob:=λob e=>Z ⟨ob,e⟩;refine s (al:=Al.last H) (nk.last H) (abN h Y) ?_;cases δ<;>first|rfl|exact absurd rfl (Y _)
 | off hg=>
  have r:=u9 hs.env z hg;simp only[r,bC,if_false];refine⟨λ_ _=>trivial,?_⟩;have j:=hs.next hs.gf (Step.refl _ _ _ _) B (v:=undef) (d:=.val undef) (.val _)
  rw[<-p]at j;have:=k c w _ j (Step.refl _ _ _ _);rw[p]at this;exact this
 | @call g args d hg t h q=>
  have r:=u9 hs.env z hg;have s1:=Gc s1 t;simp only[r,if_true];obtain⟨F,I⟩:=X _ _ _ _ h;obtain⟨vs,J,L⟩:=O0 hs.gf hs.env s1 t F
  have jx:(if gF args then mO d&&([]:U).all n5 else o3 d&&([]:U).all pP)=true/\kE H.length d=d:=by
   by_cases O:gF args=true
   .rw[if_pos O]at q ⊢;obtain⟨a,b⟩:=F' (H:=H) q;exact⟨by simp[a],b⟩
   .rw[if_neg O]at q ⊢;obtain⟨a,b⟩:=Qs (H:=H) q;exact⟨by simp[a],b⟩
  have y:=aah hs.gf L I jx.1;rw[jx.2,az]at y;refine⟨λ_ _=>trivial,?_⟩;rw[Oper.semAt_plain (FW x) a.eval o (Ck s1),J];refine⟨λh=>by simp[Fence.wide]at h,F7.2 (y.mono ?_)⟩;rintro e' w' ⟨v,c',rfl,gf,E,l⟩;have j:=hs.next gf l B E
  rw[<-p]at j;have:=k c' w' _ j l;rw[p]at this;exact this
 | @callN g as args d ob hg S W h q R=>
  have r:=u9 hs.env z hg;simp only[r,if_true];have t:kK f e.op=some (g,args):=by rw[S,W];rfl
  have s1:=Gc s1 t;obtain⟨F,I⟩:=X _ _ _ _ h;obtain⟨vs,J,L⟩:=O0 hs.gf hs.env s1 t F;have y:=amZ hs.gf L I q R;refine⟨λ_ _=>trivial,?_⟩;rw[Oper.semAt_plain (FW x) a.eval o (Ck s1),J];refine⟨λh=>by simp[Fence.wide]at h,F7.2 (y.mono ?_)⟩;rintro e' w' ⟨v,c',rfl,gf,E,l⟩;have j:=hs.next gf l B E
  rw[<-p]at j;have:=k c' w' _ j l;rw[p]at this;exact this
 | @A2 g as args d v hg S W hS hv gX h O q=>
  have r:=u9 hs.env z hg;simp only[r,if_true];have t:kK f e.op=some (g,args):=by rw[S,W];rfl
  have s1:=Gc s1 t;obtain⟨F,I⟩:=X _ _ _ _ h;obtain⟨vs,J,L⟩:=O0 hs.gf hs.env s1 t F;have y:=amY hs.gf L hS gX I O q;refine⟨λ_ _=>trivial,?_⟩;rw[Oper.semAt_plain (FW x) a.eval o (Ck s1),J];refine⟨λh=>by simp[Fence.wide]at h,F7.2 (y.mono ?_)⟩;rintro e' w' ⟨u,c',rfl,gf,E,l⟩;have j:=hs.next gf l B E
  rw[<-p]at j;have:=k c' w' _ j l;rw[p]at this;exact this
end
end Go.AL
namespace Go.AL
open Go
def zB(A:Array Oper):Bool:=(List.range A.size).all λi=>match A[i]? with
 | some o=>o.after.all λe => !Region.binds .any e||decide (e.on<i)
 | none=>true
def yO(A:Array Oper)(ord:List (List Nat)):Bool:=(List.range A.size).all λi=>match A[i]? with
 | some o=>(ord.getD i []).all λk=>o.after.any λe=>Region.binds .any e&&(e.on == k||(ord.getD e.on []).contains k)
 | none=>true
def S9(l:List ic)(ord:List (List Nat))(c:List (Nat×Nat)):Bool:=(List.range l.length).all λi=>(List.range i).all λk=>
 (ord.getD i []).contains k||(match l[k]?,l[i]? with
  | some a,some b=>yU a b&&(c.contains (k,i)||Pb a.op b.op)
  | _,_=>false)
section
variable{P:Program}{G:GT}{A:Array Oper}{ord:List (List Nat)}
theorem adn(h:zB A=true){i:Nat}{o:Oper}(hi:A[i]? = some o){e:Edge}(a:e∈o.after)(b:Region.binds .any e=true):e.on<i:=by have:=List.all_eq_true.1 h i (bj.2 (aP.1 hi).1);simp only[hi]at this;have:=cF.1 this e a;simpa[b]using this
theorem Z7(h:yO A ord=true){i:Nat}{o:Oper}(hi:A[i]? = some o){k:Nat}(b:k∈ord.getD i []):∃e∈o.after,Region.binds .any e=true/\(e.on=k\/k∈ord.getD e.on []):=by have:=List.all_eq_true.1 h i (bj.2 (aP.1 hi).1);simp only[hi]at this;have:=List.all_eq_true.1 this k b;obtain⟨e,c,a⟩:=Array.any_eq_true'.1 this;simp only[Bool.and_eq_true,bQ,beq_iff_eq,dw]at a;exact⟨e,c,a.1,a.2⟩
structure Left(A:Array Oper)(ord:List (List Nat))(rem:List mJ)(listed:Array Bool):Prop where
 size:listed.size=A.size
 iff:∀j,j<A.size->(listed.getD j true=false↔∃it∈rem,it.k=j)
 sorted:rem.Pairwise λp q=>p.k<q.k
 lt:∀it∈rem,it.k<A.size
 down:∀i,i<A.size->listed.getD i false=true->∀k∈ord.getD i [],listed.getD k false=true
theorem ahe{rem:List mJ}{a:Array Bool}(h:Left A ord rem a){j:Nat}(c:j<A.size):a.getD j false=true\/∃e∈rem,e.k=j:=by
 have d:j<a.size:=by rw[h.size];exact c
 cases b:a.getD j true with
 | false=>exact .inr ((h.iff j c).1 b)
 | true=>left;simp[d]at b ⊢;exact b
theorem ahN{rem:List mJ}{a:Array Bool}(h:Left A ord rem a){b:mJ}(c:b∈rem):a.getD b.k false=false:=by
 have d:=h.lt b c;have:=(h.iff b.k d).2 ⟨b,c,rfl⟩;have e:b.k<a.size:=by rw[h.size];exact d
 simp[e]at this ⊢;exact this
theorem Tk(j:zB A=true){b:mJ}{rem:List mJ}{a:Array Bool}(h:Left A ord (b::rem) a):b.k∈Region.ready .any A a:=by
 rw[mem_ready];have d:=h.lt b (by simp);refine⟨(h.iff b.k d).2 ⟨b,by simp,rfl⟩,A[b.k],by simp[d],λe g k=>?_⟩;have l:=adn j (i:=b.k) (o:=A[b.k]) (by simp[d]) g k;rcases ahe h (show e.on<A.size by omega)with hl|⟨q,c,f⟩
 .exact hl
 .exfalso;rcases av.1 c with rfl|c
  .omega
  .have:=(aS.1 h.sorted).1 q c;omega
theorem OP(k:yO A ord=true){rem:List mJ}{a:Array Bool}(h:Left A ord rem a){i:Nat}(hi:i∈Region.ready .any A a){q:mJ}(j:q∈rem):q.k ∉ ord.getD i []:=by
 intro m;obtain⟨_,o,r,g⟩:=mem_ready.1 hi;obtain⟨e,l,n,b⟩:=Z7 k r m;have c:=g e l n;have f:=ahN h j;rcases b with b|b
 .grind
 .have p:e.on<A.size:=by
   rcases bH e.on A.size with d|d
   .exact d
   .have:a.getD e.on false=false:=by
     have:a.size<=e.on:=by rw[h.size];exact d
     simp[dZ this]
    rw[this]at c;cases c
  have:=h.down e.on p c q.k b;rw[this]at f;cases f
theorem Og(r:yO A ord=true){pre post:List mJ}{b:mJ}{a:Array Bool}(h:Left A ord (pre++b::post) a)(hi:b.k∈Region.ready .any A a) :
  Left A ord (pre++post) (a.setIfInBounds b.k true):=by
 have l:(pre++post).Sublist (pre++b::post):=dO (ea b post) pre
 have x:∀q∈pre++post,q.k≠b.k:=by
  intro q c;have:=bR.1 h.sorted;rcases List.mem_append.1 c with c|c
  .grind
  .have:=(aS.1 this.2.1).1 q c;omega
 have n:=h.lt b (by simp);refine⟨by simp[h.size],λj t=>?_,h.sorted.sublist l,λq c=>h.lt q (l.subset c),λi w hl k m=>?_⟩
 .by_cases e:b.k=j
  .simp_all
  .rw[getD_set_ne true e,h.iff j t];constructor
   .grind
   .grind
 .by_cases e:b.k=i
  .subst e;obtain⟨_,o,v,p⟩:=mem_ready.1 hi;obtain⟨e,s,u,f⟩:=Z7 r v m;have d:=p e s u;rcases f with rfl|f
   .exact getD_set_true d
   .have n:e.on<A.size:=by
     rcases bH e.on A.size with g|g
     .exact g
     .have:a.getD e.on false=false:=by
       have:a.size<=e.on:=by rw[h.size];exact g
       simp[dZ this]
      rw[this]at d;cases d
    exact getD_set_true (h.down e.on n d k f)
  .rw[getD_set_ne false e]at hl;exact getD_set_true (h.down i w hl k m)
variable{C:FuncId->List D->D->U->Prop}{N:Nat}
theorem US(n:Nat)(δ:Dl)(H:U):(lG n δ H).length=H.length:=by
 cases δ with
 | no=>rfl
 | cells v o xs=>simp only[lG,Dl.app];split<;>simp
 | obj v ob=>simp[lG,Dl.app]
 | new ob=>simp[lG,Dl.app,Al.lT]
theorem UN(y:∀g args d Hn,C g args d Hn->s5 P g=true/\y5 P G g args [] d Hn)(x:zB A=true)(t:yO A ord=true){z:Option Nat}{m:Nat}{Q:Exit->Act->World->Prop}{ms:List Nat}{f':gP}{H':U} :
  ∀(fuel:Nat) (rem:List mJ) (b:Array Bool) (c:Ctx) (w:World) (f:gP) (H:U) (a:Act),rem.length=fuel->Left A ord rem b->SX G N c w f H ms a->Tx C f H rem f' H' ->
   (∀e∈rem,∃o,A[e.k]? = some o/\wQ P G N A o=some e.e) ->
   (∀p∈rem,∀q∈rem,p.k<q.k->p.k∈ord.getD q.k []\/(yU p.e q.e=true/\wx p.rc q.rc=true)) ->
   (∀c' w' n,SX G N c' w' f' H' ms n->Step H.length c H w c' H' w'->Q .normal n w')->wpAnyIn (FW z) m P .any A Q fuel b a w
 | 0,rem,b,c,w,f,H,a,hl,mc,hs,ht,_,_,hQ=>by have:rem = []:=aU hl;subst this;cases ht;refine⟨?_,hQ c w a hs (Step.refl _ _ _ _)⟩;refine aT.2 λj E=>?_;obtain⟨h1,o,u,_⟩:=mem_ready.1 E;obtain⟨e,s,_⟩:=(mc.iff j (aP.1 u).1).1 h1;cases s
 | fuel+1,rem,b,c,w,f,H,a,hl,mc,hs,ht,yh,Hv,hQ=>by
  refine⟨λh0=>?_,λi hi=>?_⟩
  .cases rem with
   | nil=>cases hl
   | cons e rem=>
    have:=Tk x mc;rw[h0]at this;cases this
  .obtain⟨h1,o,u,_⟩:=mem_ready.1 hi;obtain⟨e,s,rfl⟩:=(mc.iff i (aP.1 u).1).1 h1;obtain⟨pre,post,rfl⟩:=List.append_of_mem s
   have O:∀p∈pre,yU p.e e.e=true/\wx p.rc e.rc=true:=by
    intro p l;have K:p.k<e.k:=(bR.1 mc.sorted).2.2 p l e (by simp);rcases Hv p (bA _ l) e (by simp) K with h|h
    .exact absurd h (OP t mc hi (bA _ l))
    .exact h
   obtain⟨d,δ,I,F⟩:=ht.front O;obtain⟨o',R,M⟩:=yh e (by simp);have r:∀q∈pre++post,q∈pre++e::post:=λq k=>(dO (ea e post) pre).subset k;refine VP y hs R M I λc' w' n D J=>?_;refine UN y x t fuel (pre++post) _ c' w' _ _ n (by simp at hl ⊢;omega) (Og t mc hi) D F (λq k=>yh q (r q k)) (λp l q k=>Hv p (r p l) q (r q k)) λc2 w2 L B v=>?_;rw[US]at v;exact hQ c2 w2 L B (J.trans v (Nat.le_refl _))
def OC(x:Operand)(e:Option Tmp):Bool:=match x with
 | .tmp t=>e != some t
 | _=>true
def OJ:Op->Option Operand
 | .extract x _=>some x
 | .move x | .assign x=>some x
 | _=>none
def Pd(p q:Oper):Bool:=match OJ p.op,OJ q.op with
 | some x,some y=>p.guard.isNone&&q.guard.isNone&&OC x q.dst&&OC y p.dst&&(p.dst != q.dst)
 | _,_=>false
def E6(A:Array Oper)(k i:Nat):Bool:=match A[k]?,A[i]? with
 | some p,some q=>Pd p q
 | _,_=>false
theorem ZP{x:Operand}{e:Option Tmp}(h:OC x e=true)(a:Act)(v:Value):(a.put e v).eval x=a.eval x:=Act.eval_put λd c b=>by subst b c;simp[OC]at h
theorem V6{F:Fence}{m:Nat}{P:Program}{Q:Exit->Act->World->Prop}{o:Oper}{x:Operand}{a:Act}{w:World}{K:Act->World->Prop}(d:OJ o.op=some x)(h:o.wpIn F m P a w K Q) :
  ∃v,K (a.put o.dst v) w/\∀(b:Act) (l:Act->World->Prop),b.eval x=a.eval x->l (b.put o.dst v) w->o.wpIn F m P b w l Q:=by
 have g:=h.2;have n:∀c,o.op≠.defer c:=λc e=>by rw[e]at d;cases d
 have p:∀c,o.op≠.call c:=λc e=>by rw[e]at d;cases d
 have s:∀b:Act,o.about P w b.eval=none:=λb=>by
  unfold Oper.about;split
  .rename_i c B;exact absurd B (p c)
  .rfl
 rw[Oper.semAt_eq _ _ _ n]at g;unfold OJ at d;split at d
 .rename_i y i j;cases d
  by_cases t:∃vs v,a.eval x = .tuple vs/\vs[i]? = some v
  .obtain⟨vs,v,z,u⟩:=t;refine⟨v,by simpa[execOp,j,z,u,Instr.extract,Oper.uponIn]using g,λb l q r=>⟨λf k=>(by rw[s b]at k;cases k),?_⟩⟩;rw[Oper.semAt_eq _ _ _ n];simpa[execOp,j,q,z,u,Instr.extract,Oper.uponIn]using r
  .exfalso;simp only[execOp,j]at g;unfold Instr.extract at g;split at g
   .rename_i vs A
    cases hi:vs[i]? with
    | some v=>exact t ⟨vs,v,A,hi⟩
    | none=>simp[hi,Oper.uponIn]at g
   .simp[Oper.uponIn]at g
 all_goals first
  | (rename_i y j;cases d;refine⟨a.eval x,by simpa[execOp,j,Oper.uponIn]using g,λb l q r=>⟨λf k=>(by rw[s b]at k;cases k),?_⟩⟩;rw[Oper.semAt_eq _ _ _ n];simpa[execOp,j,q,Oper.uponIn]using r)
  | cases d
theorem aov{F:Fence}{m:Nat}{P:Program}{A:Array Oper}{Q:Exit->Act->World->Prop}{p q:Oper}{ops:List Oper}{a:Act}{w:World}(hs:Pd p q=true)(h:wpListIn F m P A Q (p::q::ops) a w):wpListIn F m P A Q (q::p::ops) a w:=by
 unfold Pd at hs;split at hs
 .rename_i x y g f;simp only[Bool.and_eq_true,bne_iff_ne,ne_eq,Option.isNone_iff_eq_none]at hs;obtain⟨⟨⟨⟨k,j⟩,c⟩,b⟩,i⟩:=hs;simp only[wpListIn,Region.wanted,k,j,if_true]at h ⊢;obtain⟨v,h,kv⟩:=V6 g h;obtain⟨u,h,e⟩:=V6 f h;refine e a _ (ZP b a v).symm (kv _ _ (ZP c a u) ?_);rw[<-Act.put_comm a v u λd n l=>i (n.trans l.symm)];exact h
 .cases hs
theorem UP(C:zB A=true)(n:yO A ord=true){F:Fence}{m:Nat}{Q:Exit->Act->World->Prop} :
  ∀(fuel:Nat) (lasts:List mJ) (ops:List Oper) (b:Array Bool) (a:Act) (w:World),lasts.length=fuel->Left A ord lasts b ->
   (∀q∈lasts,∀k,k<q.k->k∈ord.getD q.k []\/((∃p∈lasts,p.k=k)->k+1=q.k/\E6 A k q.k=true))->lasts.map (λq=>A[q.k]?)=ops.map some ->
   wpListIn F m P A Q ops a w->wpAnyIn F m P .any A Q fuel b a w
 | 0,lasts,ops,b,a,w,c,mc,_,g,h=>by
  have h0:lasts = []:=aU c;subst h0;have:ops = []:=by simpa using g.symm
  subst this;refine⟨aT.2 λj K=>?_,h⟩;obtain⟨h1,o,s,_⟩:=mem_ready.1 K;obtain⟨d,l,_⟩:=(mc.iff j (aP.1 s).1).1 h1;cases l
 | fuel+1,agZ,ops,b,a,w,c,mc,hl,g,h=>by
  cases agZ with
  | nil=>cases c
  | cons q lasts=>
  cases ops with
  | nil=>simp at g
  | cons o ops=>
   simp only[List.map_cons,cY]at g;refine⟨λh0=>?_,λi hi=>?_⟩
   .have:=Tk C mc;rw[h0]at this;cases this
   .obtain⟨h1,o',s,_⟩:=mem_ready.1 hi;obtain⟨d,l,rfl⟩:=(mc.iff i (aP.1 s).1).1 h1
    have key:∀(d:mJ) (o:Oper) (lasts:List mJ) (ops:List Oper),A[d.k]? = some o->lasts.length=fuel->Left A ord lasts (b.setIfInBounds d.k true)->(∀q∈lasts,∀k,k<q.k->k∈ord.getD q.k []\/((∃p∈lasts,p.k=k)->k+1=q.k/\E6 A k q.k=true)) ->
      lasts.map (λq=>A[q.k]?)=ops.map some->wpListIn F m P A Q (o::ops) a w->wpOpIn F m P A Q d.k (wpAnyIn F m P .any A Q fuel (b.setIfInBounds d.k true)) a w:=λd o lasts ops v c J hl g h=>by
     have E:∀a w,wpListIn F m P A Q ops a w->wpAnyIn F m P .any A Q fuel (b.setIfInBounds d.k true) a w:=λa w h=>UP C n fuel lasts ops _ a w c J hl g h;unfold wpOpIn;simp only[v];simp only[wpListIn]at h;split
     .rename_i H;simp only[H,if_true]at h;exact Oper.wpIn_mono E h
     .grind
    rcases av.1 l with e|l
    .subst e;exact key d o lasts ops g.1 (by simpa using c) (Og (pre:=[]) (post:=lasts) n mc hi) (λq I k y=>(hl q (aX _ I) k y).imp id λf ⟨p,u,e⟩=>f ⟨p,aX _ u,e⟩) g.2 h
    .have L:q.k<d.k:=(aS.1 mc.sorted).1 d l;have z:q.k ∉ ord.getD d.k []:=OP n mc hi (q:=q) (by simp);have M:=((hl d (aX _ l) q.k L).resolve_left z) ⟨q,by simp,rfl⟩
     cases lasts with
     | nil=>cases l
     | cons r lasts=>
      have t:r=d:=by
       rcases av.1 l with e|t
       .exact e.symm
       .have h1:q.k<r.k:=(aS.1 mc.sorted).1 r (by simp);have s:r.k<d.k:=(aS.1 (aS.1 mc.sorted).2).1 d t;omega
      subst t
      cases ops with
      | nil=>simp at g
      | cons B ops=>
       simp only[List.map_cons,cY]at g
       have D:Pd o B=true:=by have:=M.2;unfold E6 at this;rw[g.1,g.2.1]at this;exact this
       refine key r B (q::lasts) (o::ops) g.2.1 (by simpa using c) (Og (pre:=[q]) (post:=lasts) n mc hi) (λx G k y=>?_) (by simp[g.1,g.2.2]) (aov D h)
       have N:x∈q::r::lasts:=by
        rcases av.1 G with e|e
        .simp[e]
        .simp[e]
       refine(hl x N k y).imp id λf ⟨p,u,e⟩=>f ⟨p,?_,e⟩;rcases av.1 u with e|e
       .simp[e]
       .simp[e]
theorem UO(I:∀g args d Hn,C g args d Hn->s5 P g=true/\y5 P G g args [] d Hn)(x:zB A=true)(s:yO A ord=true){D:Option Nat}{m:Nat}{Q:Exit->Act->World->Prop}{ms:List Nat}{f':gP}{H':U}{lasts:List mJ}{ops:List Oper}
  (z:∀q∈lasts,∀k,k<q.k->k∈ord.getD q.k []\/((∃p∈lasts,p.k=k)/\k+1=q.k/\E6 A k q.k=true)) (E:lasts.map (λq=>A[q.k]?)=ops.map some) :
  ∀(fuel:Nat) (rem:List mJ) (b:Array Bool) (c:Ctx) (w:World) (f:gP) (H:U) (a:Act),rem.length=fuel->Left A ord (rem++lasts) b->SX G N c w f H ms a->Tx C f H rem f' H' ->
   (∀j∈rem,∃o,A[j.k]? = some o/\wQ P G N A o=some j.e) ->
   (∀p∈rem,∀q∈rem,p.k<q.k->p.k∈ord.getD q.k []\/(yU p.e q.e=true/\wx p.rc q.rc=true)) ->
   (∀c' w' t,SX G N c' w' f' H' ms t->Step H.length c H w c' H' w'->wpListIn (FW D) m P A Q ops t w')->wpAnyIn (FW D) m P .any A Q (fuel+lasts.length) b a w
 | 0,rem,b,c,w,f,H,a,hl,mc,hs,ht,_,_,hQ=>by have:rem = []:=aU hl;subst this;cases ht;rw[aQ];exact UP x s _ lasts ops b a w rfl mc (λq n k L=>(z q n k L).imp id λh _=>h.2) E (hQ c w a hs (Step.refl _ _ _ _))
 | fuel+1,rem,b,c,w,f,H,a,hl,mc,hs,ht,yh,Hv,hQ=>by
  have F:∀q∈rem,∀l∈lasts,q.k<l.k:=λq n l hl=>(bR.1 mc.sorted).2.2 q n l hl;rw[show fuel+1+lasts.length=(fuel+lasts.length)+1 by omega];refine⟨λh0=>?_,λi hi=>?_⟩
  .cases rem with
   | nil=>cases hl
   | cons j rem=>
    have:=Tk (rem:=rem++lasts) x mc;rw[h0]at this;cases this
  .obtain⟨h1,o,R,_⟩:=mem_ready.1 hi;obtain⟨j,v,rfl⟩:=(mc.iff i (aP.1 R).1).1 h1
   have v:j∈rem:=by
    rcases List.mem_append.1 v with h|h
    .exact h
    .cases rem with
     | nil=>cases hl
     | cons q rem=>
      rcases z j h q.k (F q (by simp) j h)with h1|⟨⟨p,r,e⟩,_⟩
      .exact absurd h1 (OP s mc hi (q:=q) (by simp))
      .have:=F q (by simp) p r;omega
   obtain⟨pre,post,rfl⟩:=List.append_of_mem v;have y:Left A ord (pre++j::(post++lasts)) b:=by simpa using mc
   have X:∀p∈pre,yU p.e j.e=true/\wx p.rc j.rc=true:=by
    intro p r;have T:p.k<j.k:=(bR.1 y.sorted).2.2 p r j (by simp);rcases Hv p (bA _ r) j (by simp) T with h|h
    .exact absurd h (OP s y hi (bA _ r))
    .exact h
   obtain⟨d,δ,O,M⟩:=ht.front X;obtain⟨o',Y,W⟩:=yh j (by simp);have u:∀q∈pre++post,q∈pre++j::post:=λq n=>(dO (ea j post) pre).subset n;refine VP I hs Y W O λc' w' t K S=>?_;refine UO I x s z E fuel (pre++post) _ c' w' _ _ t (by simp at hl ⊢;omega) (by simpa using Og s y hi) K M (λq n=>yh q (u q n)) (λp r q n=>Hv p (u p r) q (u q n)) λc2 w2 V J B=>?_;rw[US]at B;exact hQ c2 w2 V J (S.trans B (Nat.le_refl _))
