/- 5 -/
import Derived.Test.YtmehofoficaelaaGreatDoorP04
set_option linter.all false
open Option renaming some→aE,none→eh
open List renaming all_eq_true→bf,mem_of_getElem?→di,range→hY,map_cons→j',length→List.l
open Bool renaming true→cc,and_eq_true→cp,false→eB,false_or→jX
open Go renaming World→dx,Value→ej,FuncId→ek,Oper→ep,Act→er,mem_ready→ez,wpListIn→eL,Program→fb,getD_set_true→fp,wpAnyIn→ga,Calls→gb,execOp→hU,Operand→iK,Exit→iN,wpOpIn→jA,getD_set_ne→jI
open Go.Oper renaming uponIn→eK,semAt_plain→fa,semAt_eq→fx
open Nat renaming le_refl→hI
namespace Go.AL
open Go
section
variable{P:fb}{G:GT}{c c2:Ctx}{H Hn:gQ}{w w2:dx}{N:Nat}
theorem nP{ds:List D}(h:iB ds=cc):∀d∈ds,closed d=true:=λd a=>by obtain⟨i,hi⟩:=aG.1 a;exact zW h hi
theorem qn{ρ:Nat->Option Nat}{k:Nat}{d:D}(h:closed d=cc):ib ρ H k d=d:=by cases k<;>(unfold ib;simp[h])
def Ctx.join(c c2:Ctx)(n:Nat)(F:Nat->Prop):Ctx where
 ι:=λv g=>if v<n then c.ι v g else c2.ι (v-n) g
 F:=F
 RT:=c.RT
theorem K1{F:Nat->Prop}{v:Nat}{L:Loc}(h:nh (c.join c2 H.l F) (H++Hn) v L):(v<H.l/\nh c H v L)\/(H.l<=v/\nh c2 Hn (v-H.l) L):=by
 obtain⟨o,d,e,b⟩:=h;rcases bU v H.l with a|a
 .rw[ah a]at d;simp only[Ctx.join,if_pos a]at b;exact .inl ⟨a,o,d,e,b⟩
 .rw[ao a]at d;simp only[Ctx.join,if_neg (gL.2 a)]at b;exact .inr ⟨a,o,d,e,b⟩
theorem iY.adh{c c':Ctx}{w:dx}{L:Option Loc}{kk:KK}{es:List (ej×D)}(h:iY c w L (.map kk es))(k:∀x∈es,∀u,gX c w u x.2->gX c' w u x.2):iY c' w L (.map kk es):=by
 cases L with
 | none=>simp[iY]at h
 | some L=>
  obtain⟨h1,n,arr,f,m,g⟩:=h;exact⟨h1,n,arr,f,m,g.1,λi e x l j=>let ⟨a,b,d⟩:=g.2.1 i e x l j;⟨a,k x (di j) _ b,d⟩,g.2.2⟩
structure Bf(G:GT)(c c2:Ctx)(H Hn:gQ)(w w2:dx)(F:Nat->Prop):Prop where
 gW:iy G c H w
 o5:iy G c2 Hn w2
 r9:ly w w2
 fresh:∀b,nH c2 Hn b->w.heap.size<=b
 le:∀b,c.F b->F b
 lt:∀b,F b->b<w2.heap.size
 n1:∀b,F b->¬nH c H b
 n2:∀b,F b->¬nH c2 Hn b
 new:∀b,F b->c.F b\/w.heap.size<=b
 rows:∀(v:Nat) (o:Ob),Hn[v]? = aE o->(∃t g cs,o = .row t g cs/\∀d∈cs,∀u,gX c2 w2 u d->gX (c.join c2 H.l F) w2 u d)\/∃kk es,o = .map kk es/\∀x∈es,∀u,gX c2 w2 u x.2->gX (c.join c2 H.l F) w2 u x.2
variable{F:Nat->Prop}
theorem acn(j:Bf G c c2 H Hn w w2 F){u:ej}{d:D}(h:gX c w u d):gX (c.join c2 H.l F) w2 u d:=by
 refine h.carry (λv k L a=>?_) j.le (λb o f=>Je (j.r9.kept b (j.gW.l9 b f)))
 have e:v<H.l:=by
  rcases bU v H.l with h|h
  .exact h
  .rw[j.gW.out v k h]at a;cases a
 simp only[Ctx.join,if_pos e];exact a
theorem Rx(j:Bf G c c2 H Hn w w2 F):iy G (c.join c2 H.l F) (H++Hn) w2 where
 inj v v' L L' h1 p n m he:=by
  rcases K1 h1 with⟨a,b⟩|⟨a,b⟩<;>rcases K1 p with⟨I,q⟩|⟨I,q⟩
  .exact j.gW.inj v v' L L' b q n m he
  .have:=j.gW.lt _ ⟨v,L,b,n,rfl⟩;have:=j.fresh _ ⟨_,L',q,m,rfl⟩;omega
  .have:=j.gW.lt _ ⟨v',L',q,m,rfl⟩;have:=j.fresh _ ⟨_,L,b,n,rfl⟩;omega
  .have:=j.o5.inj _ _ L L' b q n m he;omega
 lt b hb:=by
  obtain⟨v,L,hl,f,e⟩:=hb;rcases K1 hl with⟨_,hl⟩|⟨_,hl⟩
  .exact aW (j.gW.lt b ⟨v,L,hl,f,e⟩) j.r9.size
  .exact j.o5.lt b ⟨_,L,hl,f,e⟩
 nF b hb hF:=by
  obtain⟨v,L,hl,f,e⟩:=hb;rcases K1 hl with⟨_,hl⟩|⟨_,hl⟩
  .exact j.n1 b hF ⟨v,L,hl,f,e⟩
  .exact j.n2 b hF ⟨_,L,hl,f,e⟩
 l9 b hb:=j.lt b hb
 out v k f:=by simp only[aq]at f;simp only[Ctx.join,if_neg (U:¬v<H.l)];exact j.o5.out _ k U
 n5 v o k ho hk:=by
  rcases bU v H.l with f|f
  .rw[ah f]at ho;simp only[Ctx.join,if_pos f];exact j.gW.n5 v o k ho hk
  .rw[ao f]at ho;simp only[Ctx.join,if_neg (gL.2 f)];exact j.o5.n5 _ o k ho hk
 ob v o ho:=by
  rcases bU v H.l with f|f
  .rw[ah f]at ho;simp only[Ctx.join,if_pos f];exact iY.keep (c:=c) (c':=c.join c2 H.l F) rfl (λ_ _ h=>acn j h) (λl hl B r=>j.r9.kept _ (j.gW.lt _ ⟨v,l,⟨o,ho,r,hl⟩,B,rfl⟩)) (j.gW.ob v o ho)
  .rw[ao f]at ho;simp only[Ctx.join,if_neg (gL.2 f)];have h0:=j.o5.ob _ o ho;rcases j.rows _ o ho with⟨t,g,cs,rfl,s⟩|⟨kk,es,rfl,s⟩
   rotate_left
   .exact iY.adh h0 λx D u E=>s x D u E
   simp only[Ob.gen]at h0 ⊢
   cases y:c2.ι (v-H.l) g with
   | none=>rw[y]at h0;simp[iY]at h0
   | some L=>
    rw[y]at h0;simp only[iY]at h0 ⊢;split
    .grind
    .rename_i z;simp only[z]at h0;obtain⟨arr,h1,p,n,m⟩:=h0;refine⟨arr,h1,p,n,λi d r=>?_⟩;obtain⟨x,A,C,J⟩:=m i d r;exact⟨x,A,C,s d (di r) _ J⟩
 gl g cs hg:=by obtain⟨h1,p⟩:=j.gW.gl g cs hg;exact⟨h1,acn j p⟩
 rt:=j.gW.rt
theorem Ry(j:Bf G c c2 H Hn w w2 F):Step H.l c H w (c.join c2 H.l F) (H++Hn) w2 where
 os:=j.r9.os
 tape:=j.r9.tape
 output:=j.r9.output
 size:=j.r9.size
 RT:=rfl
 Fm b hb:=j.le b hb
 Fn b hb:=(j.new b hb).imp id .inl
 kept b hb _:=j.r9.kept b hb
 old v k L a h:=by simp only[Ctx.join,if_pos a];exact h
 own b hb:=by
  obtain⟨v,L,hl,a,e⟩:=hb;rcases K1 hl with⟨_,hl⟩|⟨_,hl⟩
  .exact .inr ⟨v,L,hl,a,e⟩
  .exact .inl (j.fresh b ⟨_,L,hl,a,e⟩)
theorem Sh(j:Bf G c c2 H Hn w w2 F){p:D->Bool}(m:∀d u,p d=cc->gX c2 w2 u d->gX (c.join c2 H.l F) w2 u d){u:ej}{r:D}
  (b:gX c2 w2 u r) (h:zu p r=cc):gX (c.join c2 H.l F) w2 u (lL H.l r):=by
 have n:∀v g sz off len u,gX c2 w2 u (.gR v g sz off len)->gX (c.join c2 H.l F) w2 u (.gR (v+H.l) g sz off len):=by
  intro v g sz off len u b
  cases b with
  | gR _ _ _ _ _ cap L l e q s o=>exact .gR _ g sz off len cap L (by simp only[Ctx.join];rw[if_neg U,fE];exact l) e q s o
  | nU _ _ _ _ L l a=>exact .nU _ g sz off L (by simp only[Ctx.join];rw[if_neg U,fE];exact l) a
 have h1:∀(d:D) (u:ej),AK p d=cc->gX c2 w2 u d->gX (c.join c2 H.l F) w2 u (AD H.l d):=by intro d u f b;cases d<;>first|exact n _ _ _ _ _ _ b|exact m _ _ f b
 cases r with
 | im v=>
  cases b with
  | im _ L l e=>exact .im _ L (by simp only[Ctx.join];rw[if_neg U,fE];exact l) e
 | tup ds=>
  cases b with
  | tup vs _ hl tO=>
   simp only[lL];refine .tup vs _ (by simpa using hl) λi v d e f=>?_;simp only[aw,ar]at f;obtain⟨d0,k,rfl⟩:=f;exact h1 d0 v (bf.1 h d0 (di k)) (tO i v d0 e k)
 | agg ds=>
  cases b with
  | agg vs _ hl t tO=>
   simp only[lL];refine .agg vs _ (by simpa using hl) t λi v d e f=>?_;simp only[aw,ar]at f;obtain⟨d0,k,rfl⟩:=f;exact h1 d0 v (bf.1 h d0 (di k)) (tO i v d0 e k)
 | gR v g sz off len=>exact n _ _ _ _ _ _ b
 | _=>exact m _ _ h b
def Ctx.data(c:Ctx)(F:Nat->Prop):Ctx where
 ι:=λ_ _=>eh
 F:=F
 RT:=c.RT
theorem P1(h:iy G c H w):iy G (c.data c.F) [] w where
 inj v v' L L' h1:=by obtain⟨o,a,_⟩:=h1;simp at a
 lt b d:=by obtain⟨v,L,⟨o,a,_⟩,_⟩:=d;simp at a
 nF b d:=by obtain⟨v,L,⟨o,a,_⟩,_⟩:=d;simp at a
 l9 b d:=h.l9 b d
 out _ _ _:=rfl
 n5 _ _ _ _ _:=rfl
 ob v o a:=by simp at a
 gl g cs hg:=by obtain⟨h1,e⟩:=h.gl g cs hg;exact⟨h1,gX.closed (c:=c) (c':=c.data c.F) (λb d=>d) e (by simpa[AL.closed]using h1)⟩
 rt:=h.rt
theorem wK{c:Ctx}{b:Nat}:¬nH c [] b:=by rintro⟨v,L,⟨o,a,_⟩,_⟩;simp at a
theorem Dw{n:Nat}{c:Ctx}(hs:Step n c [] w c2 Hn w2):ly w w2:=
 ⟨hs.os,hs.tape,hs.output,hs.size,λb a=>hs.kept b a wK⟩
theorem ZM{o:Ob}(h:pP o=cc):(∃t g cs,o = .row t g cs/\∀d∈cs,closed d=cc)\/∃kk es,o = .map kk es/\∀x∈es,closed x.2=true:=by
 cases o<;>simp only[pP]at h<;>first|cases h;done|skip
 .exact .inl ⟨_,_,_,rfl,nP h⟩
 .exact .inr ⟨_,_,rfl,bf.1 h⟩
theorem ZN(h:Hn.all pP=cc){v:Nat}{o:Ob}(a:Hn[v]? = aE o):(∃t g cs,o = .row t g cs/\∀d∈cs,closed d=cc)\/∃kk es,o = .map kk es/\∀x∈es,closed x.2=true:=
 ZM (bf.1 h o (di a))
theorem abe(h:Hn.all r8=cc){v:Nat}{o:Ob}(a:Hn[v]? = aE o):∃t g cs,o = .row t g cs/\∀d∈cs,flat d=true:=by
 have:=bf.1 h o (di a);cases o<;>simp only[r8]at this<;>first|cases this;done|skip
 refine⟨_,_,_,rfl,λd b=>?_⟩;obtain⟨i,hi⟩:=aG.1 b;exact F7 this hi
def A4(P:fb)(G:GT)(f:ek)(args:List D)(H:gQ)(d:D)(H':gQ):Prop:=
 ∀(c:Ctx) (w:dx) (vs:List ej),iy G c H w->kF c w vs args ->
  gb P f vs.toArray w λe w'=>∃v c',e = .returned v/\iy G c' H' w'/\gX c' w' v d/\Step H.l c H w c' H' w'
def xA(P:fb)(G:GT)(f:ek)(args:List D)(H:gQ)(R:D->gQ->Prop):Prop:=
 ∀(c:Ctx) (w:dx) (vs:List ej),iy G c H w->kF c w vs args ->
  gb P f vs.toArray w λe w'=>∃v c' d H',e = .returned v/\R d H'/\H.l<=H'.l/\iy G c' H' w'/\gX c' w' v d/\Step H.l c H w c' H' w'
theorem xA.one{f:ek}{args:List D}{H:gQ}{R:D->gQ->Prop}{d:D}{H':gQ}(h:xA P G f args H R)(h1:∀d' Hn,R d' Hn->d'=d/\Hn=H'):A4 P G f args H d H':=
 λc w vs i g=>(h c w vs i g).mono λ_ _ ⟨v,c',_,_,j,k,_,a,b,e⟩=>kM
theorem Xj:ib (λ_=>eh) H 40=ib (iP []) H 40:=rfl
theorem kF.map{c c':Ctx}{f:D->D}(b:∀v d,gX c w v d->gX c' w v (f d)){vs:List ej}{ds:List D}(h:kF c w vs ds):kF c' w vs (ds.map f):=by
 induction h with
 | nil=>exact .nil
 | cons h _ a=>exact .cons (b _ _ h) a
theorem ad1(gW:iy G c H w){f:ek}{vs:List ej}{args:List D}{d:D}(F:kF c w vs args)(A:A4 P G f (args.map (ib (λ_=>eh) H 40)) [] d Hn)
  (n:(if iB args then oC d&&Hn.all pP else rl d&&Hn.all r8)=cc) :
  gb P f vs.toArray w λe w'=>∃v c',e = .returned v/\iy G c' (H++Hn) w'/\gX c' w' v (lL H.l d)/\Step H.l c H w c' (H++Hn) w':=by
 by_cases s:iB args=cc
 .rw[if_pos s]at n;simp only[cp]at n
  have e:args.map (ib (λ_=>eh) H 40)=args:=by
   conv=>rhs;rw[<-bn args]
   exact au λd m=>qn (nP s d m)
  rw[e]at A
  have B:kF (c.data c.F) w vs args:=by
   clear A n e
   induction F with
   | nil=>exact .nil
   | cons h _ J=>
    simp only[iB,cp]at s;exact .cons (gX.closed (c:=c) (c':=c.data c.F) (λb a=>a) h s.1) (J s.2)
  refine(A _ w vs (P1 gW) B).mono ?_;rintro e w' ⟨v,c2,E,z,C,r⟩;have hg:=Dw r
  have I:∀b,c2.F b->c.F b\/w.heap.size<=b:=λb a=>by
   rcases r.Fn b a with h|h|h
   .exact .inl h
   .exact .inr h
   .exact absurd h wK
  have j:Bf G c c2 H Hn w w' c2.F:={
   gW:=gW
   o5:=z
   r9:=hg
   fresh:=λb a=>by
    rcases r.own b a with h|h
    .exact h
    .exact absurd h wK
   le:=λb a=>r.Fm b a
   lt:=z.l9
   n1:=λb a k=>by
    rcases I b a with h|h
    .exact gW.nF b k h
    .have:=gW.lt b k;omega
   n2:=λb a k=>z.nF b k a
   new:=I
   rows:=λv o k=>by
    rcases ZN n.2 k with⟨t,g,cs,rfl,y⟩|⟨kk,es,rfl,y⟩
    .exact .inl ⟨t,g,cs,rfl,λd m u l=>gX.closed (c:=c2) (c':=c.join c2 H.l c2.F) (λb a=>a) l (y d m)⟩
    .exact .inr ⟨kk,es,rfl,λx K u l=>gX.closed (c:=c2) (c':=c.join c2 H.l c2.F) (λb a=>a) l (y x K)⟩ }
  exact⟨v,_,E,Rx j,Sh j (p:=AL.closed) (λd u m l=>gX.closed (c:=c2) (c':=c.join c2 H.l c2.F) (λb a=>a) l m) C n.1,Ry j⟩
 .rw[if_neg s]at n;simp only[cp]at n
  have B:kF (c.ib [] H) w vs (args.map (ib (λ_=>eh) H 40)):=F.map λv d h=>by rw[Xj];exact Cx gW 40 h
  have M:iy G (c.ib [] H) [] w:=HO (ks:=[]) gW (λi j p q L=>by simp at L);refine(A _ w vs M B).mono ?_;rintro e w' ⟨v,c2,E,z,C,r⟩;have hg:=Dw r
  have j:Bf G c c2 H Hn w w' c.F:={
   gW:=gW
   o5:=z
   r9:=hg
   fresh:=λb a=>by
    rcases r.own b a with h|h
    .exact h
    .exact absurd h wK
   le:=λb a=>a
   lt:=λb a=>aW (gW.l9 b a) hg.size
   n1:=λb a k=>gW.nF b k a
   n2:=λb a k=>by
    rcases r.own b k with h|h
    .have:=gW.l9 b a;omega
    .exact absurd h wK
   new:=λb a=>.inl a
   rows:=λv o k=>by
    obtain⟨t,g,cs,rfl,y⟩:=abe n.2 k
    exact .inl ⟨t,g,cs,rfl,λd m u l=>gX.flat l (y d m)⟩ }
  exact⟨v,_,E,Rx j,Sh j (p:=AL.flat) (λd u m l=>gX.flat l m) C n.1,Ry j⟩
theorem asa(gW:iy G c H w){f:ek}{vs:List ej}{args:List D}{R:D->gQ->Prop}(I:kF c w vs args)(B:xA P G f (args.map (ib (λ_=>eh) H 40)) [] R)
  (l:∀d Hn,R d Hn->(if iB args then oC d&&Hn.all pP else rl d&&Hn.all r8)=cc) :
  gb P f vs.toArray w λe w'=>∃v c' d Hn,e = .returned v/\R d Hn/\iy G c' (H++Hn) w'/\gX c' w' v (lL H.l d)/\Step H.l c H w c' (H++Hn) w':=by
 by_cases s:iB args=cc
 .simp only[if_pos s,cp]at l
  have e:args.map (ib (λ_=>eh) H 40)=args:=by
   conv=>rhs;rw[<-bn args]
   exact au λd n=>qn (nP s d n)
  rw[e]at B
  have C:kF (c.data c.F) w vs args:=by
   clear B l e
   induction I with
   | nil=>exact .nil
   | cons h _ K=>
    simp only[iB,cp]at s;exact .cons (gX.closed (c:=c) (c':=c.data c.F) (λb a=>a) h s.1) (K s.2)
  refine(B _ w vs (P1 gW) C).mono ?_;rintro e w' ⟨v,c2,d,Hn,F,z,_,A,E,r⟩;have l:=l d Hn z;have hg:=Dw r
  have J:∀b,c2.F b->c.F b\/w.heap.size<=b:=λb a=>by
   rcases r.Fn b a with h|h|h
   .exact .inl h
   .exact .inr h
   .exact absurd h wK
  have j:Bf G c c2 H Hn w w' c2.F:={
   gW:=gW
   o5:=A
   r9:=hg
   fresh:=λb a=>by
    rcases r.own b a with h|h
    .exact h
    .exact absurd h wK
   le:=λb a=>r.Fm b a
   lt:=A.l9
   n1:=λb a k=>by
    rcases J b a with h|h
    .exact gW.nF b k h
    .have:=gW.lt b k;omega
   n2:=λb a k=>A.nF b k a
   new:=J
   rows:=λv o k=>by
    rcases ZN l.2 k with⟨t,g,cs,rfl,y⟩|⟨kk,es,rfl,y⟩
    .exact .inl ⟨t,g,cs,rfl,λd n u m=>gX.closed (c:=c2) (c':=c.join c2 H.l c2.F) (λb a=>a) m (y d n)⟩
    .exact .inr ⟨kk,es,rfl,λx L u m=>gX.closed (c:=c2) (c':=c.join c2 H.l c2.F) (λb a=>a) m (y x L)⟩ }
  exact⟨v,_,d,Hn,F,z,Rx j,Sh j (p:=AL.closed) (λd u n m=>gX.closed (c:=c2) (c':=c.join c2 H.l c2.F) (λb a=>a) m n) E l.1,Ry j⟩
 .simp only[if_neg s,cp]at l
  have C:kF (c.ib [] H) w vs (args.map (ib (λ_=>eh) H 40)):=I.map λv d h=>by rw[Xj];exact Cx gW 40 h
  have N:iy G (c.ib [] H) [] w:=HO (ks:=[]) gW (λi j p q M=>by simp at M);refine(B _ w vs N C).mono ?_;rintro e w' ⟨v,c2,d,Hn,F,z,_,A,E,r⟩;have l:=l d Hn z;have hg:=Dw r
  have j:Bf G c c2 H Hn w w' c.F:={
   gW:=gW
   o5:=A
   r9:=hg
   fresh:=λb a=>by
    rcases r.own b a with h|h
    .exact h
    .exact absurd h wK
   le:=λb a=>a
   lt:=λb a=>aW (gW.l9 b a) hg.size
   n1:=λb a k=>gW.nF b k a
   n2:=λb a k=>by
    rcases r.own b k with h|h
    .have:=gW.l9 b a;omega
    .exact absurd h wK
   new:=λb a=>.inl a
   rows:=λv o k=>by
    obtain⟨t,g,cs,rfl,y⟩:=abe l.2 k
    exact .inl ⟨t,g,cs,rfl,λd n u m=>gX.flat m (y d n)⟩ }
  exact⟨v,_,d,Hn,F,z,Rx j,Sh j (p:=AL.flat) (λd u n m=>gX.flat m n) E l.1,Ry j⟩
def Ctx.p9(c c2:Ctx)(n:Nat)(F:Nat->Prop):Ctx where
 ι:=λv g=>if v=n then c2.ι 0 g else c.ι v g
 F:=F
 RT:=c.RT
theorem Lv{n:Nat}{ob:Ob}(f:H[n]? = aE .na){F:Nat->Prop}{v:Nat}{L:Loc}(h:nh (c.p9 c2 n F) (H.set n ob) v L):(v≠n/\nh c H v L)\/(v=n/\nh c2 [ob] 0 L):=by
 obtain⟨o,a,e,b⟩:=h;rw[uG (ae.1 f).1]at a
 by_cases d:v=n
 .subst d;rw[if_pos rfl]at a;cases a;simp only[Ctx.p9,if_true]at b;exact .inr ⟨rfl,ob,rfl,e,b⟩
 .rw[if_neg d]at a;simp only[Ctx.p9,if_neg d]at b;exact .inl ⟨d,o,a,e,b⟩
theorem ar9(gW:iy G c H w){f:ek}{vs:List ej}{args:List D}{d:D}{ob:Ob}{n:Nat}(z:kF c w vs args)(Z:A4 P G f (args.map (ib (λ_=>eh) H 40)) [] d [ob])
  (K:(if iB args then oC d&&pP ob else rl d&&r8 ob)=cc) (J:H[n]? = aE .na) :
  gb P f vs.toArray w λe w'=>∃v c',e = .returned v/\iy G c' (H.set n ob) w'/\gX c' w' v (lL n d)/\Step H.l c H w c' (H.set n ob) w':=by
 have iA:=(ae.1 J).1;have W:∀k,c.ι n k=none:=λk=>gW.n5 n _ k J (.inl rfl)
 have E:∀(c2:Ctx) (w':dx) (v:ej) (F:Nat->Prop),iy G c2 [ob] w'->gX c2 w' v d->ly w w'->(∀b,nH c2 [ob] b->w.heap.size<=b)->(∀b,c.F b->F b)->(∀b,F b->b<w'.heap.size) ->
   (∀b,F b->¬nH c H b)->(∀b,F b->¬nH c2 [ob] b)->(∀b,F b->c.F b\/w.heap.size<=b)->∀(p:D->Bool),(∀d u,p d=cc->gX c2 w' u d->gX (c.p9 c2 n F) w' u d)->zu p d=cc ->
   ((∃t g cs,ob = .row t g cs/\∀d∈cs,p d=cc)\/∃kk es,ob = .map kk es/\∀x∈es,p x.2=cc) ->
   iy G (c.p9 c2 n F) (H.set n ob) w'/\gX (c.p9 c2 n F) w' v (lL n d)/\Step H.l c H w (c.p9 c2 n F) (H.set n ob) w':=by
  intro c2 w' v F o5 m hg U1 T a5 D4 Vi o4 p O y je
  have carry:∀ {u:ej} {d:D},gX c w u d->gX (c.p9 c2 n F) w' u d:=λh=>by
   refine h.carry (λv k L C=>?_) T (λb o M=>Je (hg.kept b (gW.l9 b M)));have iU:v≠n:=λe=>by rw[e,W]at C;cases C
   simp only[Ctx.p9,if_neg iU];exact C
  have Ku:∀v g sz off len u,gX c2 w' u (.gR v g sz off len)->(v=0)->gX (c.p9 c2 n F) w' u (.gR (v+n) g sz off len):=by
   intro v g sz off len u z h0;subst h0
   cases z with
   | gR _ _ _ _ _ cap L A m lk jW mS=>exact .gR _ g sz off len cap L (by simp only[Ctx.p9,aR,if_true];exact A) m lk jW mS
   | nU _ _ _ _ L A a=>exact .nU _ g sz off L (by simp only[Ctx.p9,aR,if_true];exact A) a
  have hz:∀v g sz off len u,gX c2 w' u (.gR v g sz off len)->v=0:=by
   intro v g sz off len u z
   have:∃L,c2.ι v g=aE L:=by
    cases z with
    | gR _ _ _ _ _ cap L A=>exact⟨L,A⟩
    | nU _ _ _ _ L A=>exact⟨L,A⟩
   obtain⟨L,C⟩:=this;rcases ey v with h|h
   .exact h
   .rw[o5.out v g (by show 1<=v;exact h)]at C;cases C
  have a4:∀v u,gX c2 w' u (.im v)->gX (c.p9 c2 n F) w' u (.im (v+n)):=by
   intro v u z
   cases z with
   | im _ L A m=>
    have h0:v=0:=by
     rcases ey v with h|h
     .exact h
     .rw[o5.out v 0 (by show 1<=v;exact h)]at A;cases A
    subst h0;exact .im _ L (by simp only[Ctx.p9,aR,if_true];exact A) m
  have h1:∀(d:D) (u:ej),AK p d=cc->gX c2 w' u d->gX (c.p9 c2 n F) w' u (AD n d):=by intro d u y z;cases d<;>first|exact Ku _ _ _ _ _ _ z (hz _ _ _ _ _ _ z)|exact O _ _ y z
  refine⟨{
   inj:=λv v' L L' h1 B Y X V=>by
    rcases Lv J h1 with⟨a,b⟩|⟨a,b⟩<;>rcases Lv J B with⟨a',b'⟩|⟨a',b'⟩
    .exact gW.inj v v' L L' b b' Y X V
    .have:=gW.lt _ ⟨v,L,b,Y,rfl⟩;have:=U1 _ ⟨_,L',b',X,rfl⟩;omega
    .have:=gW.lt _ ⟨v',L',b',X,rfl⟩;have:=U1 _ ⟨_,L,b,Y,rfl⟩;omega
    .rw[a,a']
   lt:=λb r=>by
    obtain⟨v,L,hl,m,e⟩:=r;rcases Lv J hl with⟨_,hl⟩|⟨_,hl⟩
    .exact aW (gW.lt b ⟨v,L,hl,m,e⟩) hg.size
    .exact o5.lt b ⟨_,L,hl,m,e⟩
   nF:=λb r M=>by
    obtain⟨v,L,hl,m,e⟩:=r;rcases Lv J hl with⟨_,hl⟩|⟨_,hl⟩
    .exact D4 b M ⟨v,L,hl,m,e⟩
    .exact Vi b M ⟨_,L,hl,m,e⟩
   l9:=a5
   out:=λv k m=>by simp only[av]at m;simp only[Ctx.p9,if_neg (U:¬v=n)];exact gW.out _ k m
   n5:=λv o k s hk=>by
    rw[uG iA]at s
    by_cases m:v=n
    .subst m;rw[if_pos rfl]at s;cases s;simp only[Ctx.p9,if_true];exact o5.n5 0 _ k rfl hk
    .rw[if_neg m]at s;simp only[Ctx.p9,if_neg m];exact gW.n5 v o k s hk
   ob:=λv o s=>by
    rw[uG iA]at s
    by_cases m:v=n
    .subst m;rw[if_pos rfl]at s;cases s;simp only[Ctx.p9,if_true];have h0:=o5.ob 0 _ rfl;rcases je with⟨t,g,cs,rfl,ka⟩|⟨kk,es,rfl,ka⟩
     rotate_left
     .exact iY.adh h0 λx hx u S=>O _ _ (ka x hx) S
     simp only[Ob.gen]at h0 ⊢
     cases C:c2.ι 0 g with
     | none=>rw[C]at h0;simp[iY]at h0
     | some L=>
      rw[C]at h0;simp only[iY]at h0 ⊢;split
      .grind
      .rename_i qj;simp only[qj]at h0;obtain⟨arr,h1,B,Y,X⟩:=h0;refine⟨arr,h1,B,Y,λi d y=>?_⟩;obtain⟨x,nS,l6,Eh⟩:=X i d y;exact⟨x,nS,l6,O d _ (ka d (di y)) Eh⟩
    .rw[if_neg m]at s;simp only[Ctx.p9,if_neg m];exact iY.keep (c:=c) (c':=c.p9 c2 n F) rfl (λ_ _ h=>carry h) (λl hl mG y=>hg.kept _ (gW.lt _ ⟨v,l,⟨o,s,y,hl⟩,mG,rfl⟩)) (gW.ob v o s)
   gl:=λg cs hg=>by obtain⟨h1,B⟩:=gW.gl g cs hg;exact⟨h1,carry B⟩
   rt:=gW.rt },?_,?_⟩
  .cases d with
   | tup ds=>
    cases m with
    | tup vs _ hl tO=>
     simp only[lL];refine .tup vs _ (by simpa using hl) λi v d m Q=>?_;simp only[aw,ar]at Q;obtain⟨d0,R,rfl⟩:=Q;exact h1 d0 v (bf.1 y d0 (di R)) (tO i v d0 m R)
   | agg ds=>
    cases m with
    | agg vs _ hl s tO=>
     simp only[lL];refine .agg vs _ (by simpa using hl) s λi v d m Q=>?_;simp only[aw,ar]at Q;obtain⟨d0,R,rfl⟩:=Q;exact h1 d0 v (bf.1 y d0 (di R)) (tO i v d0 m R)
   | gR v g sz off len=>exact Ku _ _ _ _ _ _ m (hz _ _ _ _ _ _ m)
   | im v=>exact a4 _ _ m
   | _=>exact O _ _ y m
  .exact{
    os:=hg.os
    tape:=hg.tape
    output:=hg.output
    size:=hg.size
    RT:=rfl
    Fm:=T
    Fn:=λb r=>(o4 b r).imp id .inl
    kept:=λb r _=>hg.kept b r
    old:=λv k L m h=>by
     have iU:v≠n:=λe=>by rw[e,W]at h;cases h
     simp only[Ctx.p9,if_neg iU];exact h
    own:=λb r=>by
     obtain⟨v,L,hl,m,e⟩:=r;rcases Lv J hl with⟨_,hl⟩|⟨_,hl⟩
     .exact .inr ⟨v,L,hl,m,e⟩
     .exact .inl (U1 b ⟨_,L,hl,m,e⟩) }
 by_cases N:iB args=cc
 .simp only[if_pos N,cp]at K
  have e:args.map (ib (λ_=>eh) H 40)=args:=by
   conv=>rhs;rw[<-bn args]
   exact au λd y=>qn (nP N d y)
  rw[e]at Z
  have xZ:kF (c.data c.F) w vs args:=by
   clear Z K e
   induction z with
   | nil=>exact .nil
   | cons h _ ih=>
    simp only[iB,cp]at N;exact .cons (gX.closed (c:=c) (c':=c.data c.F) (λb r=>r) h N.1) (ih N.2)
  refine(Z _ w vs (P1 gW) xZ).mono ?_;rintro e w' ⟨v,c2,V,B,m,I⟩;have hg:=Dw I
  have M:∀b,c2.F b->c.F b\/w.heap.size<=b:=λb r=>by
   rcases I.Fn b r with h|h|h
   .exact .inl h
   .exact .inr h
   .exact absurd h wK
  obtain⟨m1,m2,m3⟩:=E c2 w' v c2.F B m hg (λb r=>by
    rcases I.own b r with h|h
    .exact h
    .exact absurd h wK) (λb r=>I.Fm b r) B.l9 (λb r s=>by
    rcases M b r with h|h
    .exact gW.nF b s h
    .have:=gW.lt b s;omega) (λb r s=>B.nF b s r) M AL.closed (λd u y S=>gX.closed (c:=c2) (c':=c.p9 c2 n c2.F) (λb r=>r) S y) K.1 (by
    exact ZM K.2)
  exact⟨v,_,V,m1,m2,m3⟩
 .simp only[if_neg N,cp]at K
  have xZ:kF (c.ib [] H) w vs (args.map (ib (λ_=>eh) H 40)):=z.map λv d h=>by rw[Xj];exact Cx gW 40 h
  have Kp:iy G (c.ib [] H) [] w:=HO (ks:=[]) gW (λi j p q O=>by simp at O);refine(Z _ w vs Kp xZ).mono ?_;rintro e w' ⟨v,c2,V,B,m,I⟩;have hg:=Dw I
  obtain⟨m1,m2,m3⟩:=E c2 w' v c.F B m hg (λb r=>by
    rcases I.own b r with h|h
    .exact h
    .exact absurd h wK) (λb r=>r) (λb r=>aW (gW.l9 b r) hg.size) (λb r s=>gW.nF b s r) (λb r s=>by
    rcases I.own b s with h|h
    .have:=gW.l9 b r;omega
    .exact absurd h wK) (λb r=>.inl r) AL.flat (λd u y S=>gX.flat S y) K.1 (by
    have:=K.2;cases ob<;>simp only[r8]at this<;>first|(cases this;done)|skip
    refine .inl ⟨_,_,_,rfl,λd y=>?_⟩;obtain⟨i,hi⟩:=aG.1 y
    exact F7 this hi)
  exact⟨v,_,V,m1,m2,m3⟩
theorem asv{S:List Nat}{v:Nat}(c:v∈S):iP (nv H S) v=none:=by
 unfold iP nv;rw[cM];intro p b;obtain⟨u,_,rfl⟩:=aj.1 b
 by_cases a:u=v
 .grind
 .simp[a]
theorem aeK{v:Nat}:∀(k:Nat) (d:D),(∀u∈jq H k d,u=v)->AL.ib (iP (nv H [v])) H k d=AL.ib (λ_=>eh) H k d
 | 0,d,_=>rfl
 | k+1,d,h=>by
  have i:iP (nv H [v]) v=none:=asv gP
  have b:∀(ds:List D),(∀u∈(ds.map (jq H k)).flatten,u=v)->ds.map (AL.ib (iP (nv H [v])) H k)=ds.map (AL.ib (λ_=>eh) H k):=λds o=>
   au λd f=>aeK k d λu a=>o u (bq.2 ⟨_,aj.2 ⟨d,f,rfl⟩,a⟩)
  unfold jq at h;unfold AL.ib
  by_cases r:AL.closed d=cc
  .grind
  .simp only[if_neg r]at h ⊢
   cases d with
   | agg cs=>simp only[b cs h]
   | tup cs=>simp only[b cs h]
   | ie cs=>simp only[b cs h]
   | sl sz es=>
    have:es.map (λx=>x.map (AL.ib (iP (nv H [v])) H k))=es.map (λx=>x.map (AL.ib (λ_=>eh) H k)):=au λe q=>b e λu a=>h u (bq.2 ⟨_,aj.2 ⟨e,q,rfl⟩,a⟩);simp only[this]
   | fn g x y=>
    have h1:=b x λu a=>h u (bp _ a);have s:=b y λu a=>h u (bK _ a);simp only[h1,s]
   | gR u g sz off len=>
    have a:u=v:=h u gP;subst a;simp only[i]
    cases c:rowsOf H u with
    | none=>simp only[CA,c]
    | some p=>
     obtain⟨t,n,cs⟩:=p;simp only[CA,c]
     by_cases hg:n=g
     .simp only[hg,if_true]
      have:=b (cs.drop (off*sz)) λw m=>by obtain⟨l,hl,j⟩:=bq.1 m;obtain⟨d,f,rfl⟩:=aj.1 hl;exact h w (by simp only[c];exact bt _ (bq.2 ⟨_,aj.2 ⟨d,bO f,rfl⟩,j⟩))
      rw[this]
     .grind
   | ptr u g off=>
    have a:u=v:=h u gP;subst a;simp only[i]
    cases c:rowsOf H u with
    | none=>simp only[CA,c]
    | some p=>
     obtain⟨t,n,cs⟩:=p;simp only[CA,c]
     by_cases hg:n=g
     .simp only[hg,if_true]
      have:=b (cs.drop off) λw m=>by obtain⟨l,hl,j⟩:=bq.1 m;obtain⟨d,f,rfl⟩:=aj.1 hl;exact h w (by simp only[c];exact bt _ (bq.2 ⟨_,aj.2 ⟨d,bO f,rfl⟩,j⟩))
      rw[this]
     .grind
   | im u=>
    have a:u=v:=h u gP;subst a;simp only[i]
   | jF u=>
    have a:u=v:=h u gP;subst a;simp only[i]
   | _=>rfl
theorem alp(h:iy G c H w){v:Nat}{t:TypeId}{g:Nat}{cs:List D}(p:H[v]? = aE (.row t g cs)) :
  ∃c',iy G c' (H.set v .dead) w/\Step H.l c H w c' (H.set v .dead) w/\(∀u d,gX c w u d->gX c' w u d)/\∀b,(c.ib (nv H [v]) H).F b->c'.F b:=by
 have B:=(ae.1 p).1
 have z:∀c':Ctx,(∀u k,c'.ι u k=c.ι u k)->∀u l,nh c' (H.set v .dead) u l->u≠v/\nh c H u l:=by
  rintro c' m u l ⟨o,i,A,hi⟩;rw[uG B]at i;split at i
  .cases i;cases A
  .rename_i n;exact⟨n,o,i,A,by rw[<-m];exact hi⟩
 let c':Ctx:={ c with F:=λb=>c.F b\/∃L,c.ι v g=aE L/\L.kQ=eB/\L.b=b }
 have m:∀u k,c'.ι u k=c.ι u k:=λ_ _=>rfl;have E:∀u d,gX c w u d->gX c' w u d:=λu d R=>gX.carry (c:=c) (c':=c') (w:=w) (w':=w) (λ_ _ _ h=>h) (λb f=>Or.inl f) (λ_ _ _=>rfl) R;have K:∀b,nH c' (H.set v .dead) b->nH c H b:=λb ⟨u,l,hl,r⟩=>⟨u,l,(z c' m u l hl).2,r⟩
 refine⟨c',{
  inj:=λu O l Q h1 S=>h.inj u O l Q (z c' m _ _ h1).2 (z c' m _ _ S).2
  lt:=λb f=>h.lt b (K b f)
  nF:=λb f I=>by
   obtain⟨u,l,hl,N,e⟩:=f;obtain⟨n,M⟩:=z c' m u l hl;rcases I with I|⟨L,y,j,s⟩
   .exact h.nF b ⟨u,l,M,N,e⟩ I
   .exact n (h.inj u v l L M ⟨_,p,rfl,y⟩ N j (e.trans s.symm))
  l9:=λb f=>by
   rcases f with f|⟨L,y,j,s⟩
   .exact h.l9 b f
   .exact s▸h.lt _ ⟨v,L,⟨_,p,rfl,y⟩,j,rfl⟩
  out:=λu k C=>h.out u k (by simpa using C)
  n5:=λu o k i q=>by
   rw[uG B]at i;split at i
   .cases i;rcases q with q|⟨q,_⟩<;>cases q
   .exact h.n5 u o k i q
  ob:=λu o i=>by
   rw[uG B]at i;split at i
   .cases i;simp[iY]
   .exact iY.keep (c:=c) (c':=c') rfl E (λ_ _ _ _=>rfl) (h.ob u o i)
  gl:=λg cs hg=>let ⟨a,b⟩:=h.gl g cs hg;⟨a,E _ _ b⟩
  rt:=h.rt },?_,E,λb f=>?_⟩
 .exact{
   os:=⟨rfl,hI _⟩,tape:=rfl,output:=rfl,size:=hI _,RT:=rfl
   Fm:=λb f=>Or.inl f
   Fn:=λb f=>by
    rcases f with f|⟨L,y,j,s⟩
    .exact .inl f
    .exact .inr (.inr ⟨v,L,⟨_,p,rfl,y⟩,j,s⟩)
   kept:=λ_ _ _=>rfl
   old:=λ_ _ _ _ h=>h
   own:=λb f=>.inr (K b f) }
 .rcases f with f|⟨u,L,⟨o,i,A,J⟩,x,j,e⟩
  .exact .inl f
  .have C:u=v:=by
    by_cases n:u=v
    .exact n
    .exfalso;have P:=(ae.1 i).1
     have:iP (nv H [v]) u=aE u:=W7 abl (by
      unfold nv
      simp[P,n])
     rw[this]at x;cases x
   subst C;rw[p]at i;cases i;exact .inr ⟨L,J,j,e⟩
theorem ar8(gW:iy G c H w){f:ek}{vs:List ej}{args:List D}{d:D}{v:Nat}(o:kF c w vs args)(hS:∀u∈(args.map (jq H 40)).flatten,u=v)(k:(rowsOf H v).isSome=cc)
  (n:A4 P G f (args.map (AL.ib (λ_=>eh) H 40)) [] d []) (j:iB (args.map (AL.ib (λ_=>eh) H 40))=cc) (a:AL.closed d=cc) :
  gb P f vs.toArray w λe w'=>∃u c',e = .returned u/\iy G c' (H.set v .dead) w'/\gX c' w' u d/\Step H.l c H w c' (H.set v .dead) w':=by
 have l:∃t g cs,H[v]? = aE (.row t g cs):=by
  unfold rowsOf at k;split at k
  .grind
  .cases k
 obtain⟨t,g,cs,l⟩:=l;obtain⟨p,k1,k2,k3,k4⟩:=alp gW l
 have m:kF p w vs (args.map (AL.ib (λ_=>eh) H 40)):=by
  have e:args.map (AL.ib (λ_=>eh) H 40)=args.map (AL.ib (iP (nv H [v])) H 40):=
   au λd a=>(aeK 40 d λu s=>hS u (bq.2 ⟨_,aj.2 ⟨d,a,rfl⟩,s⟩)).symm
  have i:=j;rw[e]at i ⊢;have h0:=o.map (c':=c.ib (nv H [v]) H) (f:=AL.ib (iP (nv H [v])) H 40) λ_ _ h=>Cx gW 40 h;generalize args.map (AL.ib (iP (nv H [v])) H 40)=as at h0 i;clear e j hS n o
  induction h0 with
  | nil=>exact .nil
  | cons h _ r=>
   simp only[iB,cp]at i;exact .cons (gX.closed (c:=c.ib (nv H [v]) H) (c':=p) k4 h i.1) (r i.2)
 have e2:(args.map (AL.ib (λ_=>eh) H 40)).map (AL.ib (λ_=>eh) (H.set v .dead) 40)=args.map (AL.ib (λ_=>eh) H 40):=by
  conv=>rhs;rw[<-bn (args.map (AL.ib (λ_=>eh) H 40))]
  exact au λd a=>qn (nP j d a)
 have q:oC d=cc/\lL (H.set v .dead).l d=d:=by
  cases d<;>first|(cases a;done)|skip
  case tup ds=>
   simp only[AL.closed]at a;refine⟨?_,?_⟩
   .simp only[oC,zu,bf];intro x b;have:=nP a x b;cases x<;>first|rfl|exact this
   .simp only[lL];congr 1
    conv=>rhs;rw[<-bn ds]
    refine au λx b=>?_;have:=nP a x b;cases x<;>first|rfl|(cases this;done)
  case agg ds=>
   simp only[AL.closed]at a;refine⟨?_,?_⟩
   .simp only[oC,zu,bf];intro x b;have:=nP a x b;cases x<;>first|rfl|exact this
   .simp only[lL];congr 1
    conv=>rhs;rw[<-bn ds]
    refine au λx b=>?_;have:=nP a x b;cases x<;>first|rfl|(cases this;done)
  all_goals exact⟨a,rfl⟩
 refine(ad1 k1 m (by rw[e2];exact n) (by rw[if_pos j];simp[q.1])).mono ?_;rintro e w' ⟨u,c2,y,m1,m2,m3⟩;rw[az]at m1 m3;rw[q.2]at m2;exact⟨u,c2,y,m1,m2,k2.trans m3 gP⟩
end
def uJ(o:Nat)(xs cs:List D):List D:=cs.take o++xs++cs.drop (o+xs.l)
def Xv{o:Nat}{xs cs:List D}(h:o+xs.l<=cs.l):(uJ o xs cs).l=cs.l:=by simp[uJ];omega
def L9{o:Nat}{xs cs:List D}(h:o+xs.l<=cs.l)(i:Nat):(uJ o xs cs)[i]? = if o<=i/\i<o+xs.l then xs[i-o]? else cs[i]? := by
 unfold uJ;have hl:(cs.take o).l=o:=iz
 by_cases h1:i<o
 .grind
 .grind
def A0(n:Nat):Dl->Option Nat
 | .no=>eh
 | .cells v _ _=>aE v
 | .obj v _=>aE v
 | .new _=>aE n
def XD:Dl->Ob->Ob
 | .no,o=>o
 | .cells _ o xs,.row t g cs=>.row t g (uJ o xs cs)
 | .cells _ _ _,o=>o
 | .obj _ ob,_=>ob
 | .new ob,_=>ob
abbrev mN(n:Nat)(δ:Dl)(H:gQ):gQ:=δ.app H (Al.na H n)
def FN(n:Nat)(δ:Dl)(H:gQ)(x:Nat):(mN n δ H)[x]? = if A0 n δ=aE x then(H[x]?).map (XD δ)else H[x]? := by
 have a:∀(v:Nat) (ob:Ob) (f:Ob->Ob),(∀o,f o=ob)->(H.set v ob)[x]? = if aE v=aE x then(H[x]?).map f else H[x]? := kM
 cases δ with
 | no=>simp[mN,Dl.app,A0]
 | obj v ob=>exact a v ob _ λ_=>rfl
 | new ob=>exact a n ob _ λ_=>rfl
 | cells v o xs=>
  have c:A0 n (.cells v o xs)=aE v:=rfl
  by_cases e:v=x
  .subst e;rw[if_pos c];simp only[mN,Dl.app];split
   .rename_i t g cs b;rw[bI,if_pos rfl,if_pos (ae.1 b).1,b];rfl
   .rename_i d
    cases h:H[v]? with
    | none=>rfl
    | some ob=>
     cases ob<;>first|rfl|skip
     exact absurd h (d _ _ _)
  .rw[if_neg (by rw[c];simpa using e)];simp only[mN,Dl.app];split
   .grind
   .rfl
def Fits(n:Nat)(δ:Dl)(H:gQ):Prop:=match δ with
 | .cells v o xs=>∃t g cs,H[v]? = aE (.row t g cs)/\o+xs.l<=cs.l
 | .new _=>H[n]? = aE .na
 | _=>True
def Bi{a b:List Fp}(h:wY a b=cc){x y:Fp}(d:x∈a)(c:y∈b):wX x y=true:=
 bf.1 (bf.1 h x d) y c
def Y7{n:Nat}{δ:Dl}{H:gQ}{j:List Fp}(s:Fits n δ H)(h:wY (kX n δ) j=cc):wS j (mN n δ H) H:=by
 intro x b;obtain⟨u,r⟩:=x
 have z:∀v q,(v,q)∈kX n δ->A0 n δ=aE v:=by intro v q d;cases δ<;>simp only[kX,List.mem_singleton,eZ]at d<;>first|(cases d;rfl)|cases d
 have c:A0 n δ≠aE u->(mN n δ H)[u]? = H[u]? := λk=>by rw[FN,if_neg k]
 by_cases a:A0 n δ=aE u
 .cases r with
  | none=>
   exfalso
   cases δ with
   | no=>cases a
   | cells v o xs=>cases a;have:=Bi h (x:=(u,aE (o,xs.l))) (by simp[kX]) b;simp[wX]at this
   | obj v ob=>cases a;have:=Bi h (x:=(u,eh)) (by simp[kX]) b;simp[wX]at this
   | new ob=>cases a;have:=Bi h (x:=(n,eh)) (by simp[kX]) b;simp[wX]at this
  | some q=>
   obtain⟨p,m⟩:=q
   cases δ with
   | no=>cases a
   | obj v ob=>cases a;exfalso;have:=Bi h (x:=(u,eh)) (by simp[kX]) b;simp[wX]at this
   | new ob=>cases a;exfalso;have:=Bi h (x:=(n,eh)) (by simp[kX]) b;simp[wX]at this
   | cells v o xs=>
    cases a;obtain⟨t,g,cs,h1,f⟩:=s;have w:=Bi h (x:=(u,aE (o,xs.l))) (by simp[kX]) b;simp only[wX,bne_self_eq_false,jX,bM,decide_eq_true_eq]at w;refine .inr ⟨t,g,uJ o xs cs,cs,?_,h1,Xv f,λi l y=>?_⟩
    .simp[FN,A0,h1,XD]
    .rw[L9 f,if_neg U]
 .have e:=c a
  cases r with
  | none=>exact e
  | some q=>exact .inl e
def atD{o p:Nat}{xs c cs:List D}(h1:o+xs.l<=cs.l)(d:p+c.l<=cs.l)(h:o+xs.l<=p\/p+c.l<=o) :
  uJ o xs (uJ p c cs)=uJ p c (uJ o xs cs):=by
 apply bN;intro i;rw[L9 (by rw[Xv d];exact h1),L9 d,L9 (by rw[Xv h1];exact d),L9 h1]
 by_cases a:o<=i/\i<o+xs.l<;>by_cases b:p<=i/\i<p+c.l
 .omega
 .grind
 .grind
 .grind
def aul{n m:Nat}{δ c:Dl}{H:gQ}(j:Fits n δ H)(hg:Fits m c H)(h:wY (kX n δ) (kX m c)=cc):mN m c (mN n δ H)=mN n δ (mN m c H):=by
 apply bN;intro x;rw[FN,FN,FN,FN]
 by_cases a:A0 n δ=aE x<;>by_cases b:A0 m c=aE x
 .rw[if_pos a,if_pos b,if_pos b,if_pos a]
  have bad:∀ {P:Prop},(∃q r,(x,q)∈kX n δ/\(x,r)∈kX m c/\(q=eh\/r=eh))->P:=by
   rintro P ⟨q,r,h1,d,k⟩;have:=Bi h h1 d;rcases k with rfl|rfl
   .simp[wX]at this
   .cases q<;>simp[wX]at this
  cases δ with
  | no=>cases a
  | obj v ob=>
   cases a
   cases c with
   | no=>cases b
   | cells v o xs=>cases b;exact bad ⟨eh,aE (o,xs.l),by simp[kX],by simp[kX],.inl rfl⟩
   | obj v ob=>cases b;exact bad ⟨eh,eh,by simp[kX],by simp[kX],.inl rfl⟩
   | new ob=>cases b;exact bad ⟨eh,eh,by simp[kX],by simp[kX],.inl rfl⟩
  | new ob=>
   cases a
   cases c with
   | no=>cases b
   | cells v o xs=>cases b;exact bad ⟨eh,aE (o,xs.l),by simp[kX],by simp[kX],.inl rfl⟩
   | obj v ob=>cases b;exact bad ⟨eh,eh,by simp[kX],by simp[kX],.inl rfl⟩
   | new ob=>cases b;exact bad ⟨eh,eh,by simp[kX],by simp[kX],.inl rfl⟩
  | cells v o xs=>
   cases a
   cases c with
   | no=>cases b
   | obj v ob=>cases b;exact bad ⟨aE (o,xs.l),eh,by simp[kX],by simp[kX],.inr rfl⟩
   | new ob=>cases b;exact bad ⟨aE (o,xs.l),eh,by simp[kX],by simp[kX],.inr rfl⟩
   | cells v p i=>
    cases b;obtain⟨t,g,cs,h1,d⟩:=j;obtain⟨s,w,u,e,l⟩:=hg;rw[h1]at e;cases e;have f:=Bi h (x:=(x,aE (o,xs.l))) (y:=(x,aE (p,i.l))) (by simp[kX]) (by simp[kX]);simp only[wX,bne_self_eq_false,jX,bM,decide_eq_true_eq]at f;simp only[h1,aK,XD];rw[atD d l f]
 .grind
 .grind
 .grind
structure Rc where
 R:List Fp
 W:List Fp
inductive Out where
 | norm (s:St)
 | exit (id:Nat) (s:St)
 | ret (s:St)
inductive CR where
 | ops (l:List jb) (s:St)
 | code (c:IR) (s:St)
 | loop (n:Nat) (live:List Nat) (a:IR) (s:St)
 | call (f:ek) (args:List D) (H:gQ)
 | trace (l:List jb) (s:St)
inductive rW where
 | out (o:Out)
 | tr (rs:List Rc) (s:St)
 | val (d:D) (H:gQ)
def Out.stop:Out->Bool
 | .norm _=>eB
 | _=>cc
def ym(c:List (Nat×Nat))(rs:List Rc):Bool:=c.all λp=>match rs[p.1]?,rs[p.2]? with
 | some a,aE b=>wY a.W (b.R++b.W)&&wY b.W (a.R++a.W)
 | _,_=>eB
def yieldOf(env:iM):jG->Option (Nat×List D)
 | .callv f args=>match ev env f with
  | .jF v=>aE (v,args.map (ev env))
  | _=>eh
 | _=>eh
def Out.st:Out->St
 | .norm s=>s
 | .exit _ s=>s
 | .ret s=>s
def Out.CD:Out->sx
 | .norm _=>.ready
 | .exit id _=>.Bu id
 | .ret _=>.Df
def Cu(s:St):sx->Option Out
 | .ready=>aE (.norm s)
 | .busy=>eh
 | .Df=>aE (.ret s)
 | .Bu id=>aE (.exit id s)
def kill:List Nat->gQ->Option gQ
 | [],H=>aE H
 | v::vs,H=>match H[v]? with
  | some .jJ=>kill vs (H.set v .dead)
  | _=>eh
def finish(fn:kn)(own n:Nat):Out->Option (D×gQ)
 | .norm s | .ret s=>match kill s.marks s.H with
  | some H=>match results fn { s with H:=H }with
   | some d=>aE (leave own n H d)
   | none=>eh
  | none=>eh
 | .exit _ _=>eh
def mX(id n:Nat)(live:List Nat):Out->Out
 | .norm s=>.norm (cut n live s)
 | .exit a s=>if a=id then .norm (cut n live s)else .exit a s
 | .ret s=>.ret s
inductive Ev(T:jt):CR->(rW->Prop)->Prop
 | mono {j R R'} (h:Ev T j R) (hi:∀r,R r->R' r):Ev T j R'
 | nil {s R} (h:R (.out (.norm s))):Ev T (.ops [] s) R
 | op {e r s d δ R} (hg:guardOf s.env.get e.guard=aE cc) (h:iL s.env.get s.H s.H.l e.op=aE (d,δ))
   (t:Ev T (.ops r { s with env:=put s.env e.dst d,H:=δ.app s.H (Al.last s.H) }) R):Ev T (.ops (e::r) s) R
 | E4 {e r s d δ R} (hg:guardOf s.env.get e.guard=aE cc) (h:nW s.env.get s.H s.H.l e.op=aE (d,δ))
   (t:Ev T (.ops r { s with env:=put s.env e.dst d,H:=δ.app s.H (Al.last s.H) }) R):Ev T (.ops (e::r) s) R
 | off {e r s R} (hg:guardOf s.env.get e.guard=aE eB) (t:Ev T (.ops r { s with env:=put s.env e.dst (.val undef) }) R):Ev T (.ops (e::r) s) R
 | mC {l s R} (S:List Nat) (hm:s.marks.all (λv => !S.contains v)=cc) (t:Ev T (.ops l (mC S s)) R):Ev T (.ops l s) R
 | JF {c s R} (S:List Nat) (hm:s.marks.all (λv => !S.contains v)=cc) (t:Ev T (.code c (mC S s)) R):Ev T (.code c s) R
 | T7 {l s R} (live:List Nat) (t:Ev T (.ops l { s with env:=forget live s.env }) R):Ev T (.ops l s) R
 | F9 {c s R} (live:List Nat) (t:Ev T (.code c { s with env:=forget live s.env }) R):Ev T (.code c s) R
 | Jb {e r s f args fn R1 R} (hg:guardOf s.env.get e.guard=aE cc) (hc:lZ s.env.get e.op=aE (f,args)) (hf:T.fn f=aE fn) (hp:fn.full=eB)
   (h:Ev T (.call f (args.map (ib (λ_=>eh) s.H 40)) []) R1) (ha:∀d Hn,R1 (.val d Hn)->(after s e.dst args d Hn).isSome=cc)
   (t:∀d Hn s',R1 (.val d Hn)->after s e.dst args d Hn=aE s'->Ev T (.ops r s') R):Ev T (.ops (e::r) s) R
 | Ja {e r s f args fn R1 R} (hg:guardOf s.env.get e.guard=aE cc) (hc:lZ s.env.get e.op=aE (f,args)) (hf:T.fn f=aE fn) (hp:fn.full=cc)
   (h:Ev T (.call f args s.H) R1) (t:∀d H',R1 (.val d H')->Ev T (.ops r { s with env:=put s.env e.dst d,H:=H' }) R):Ev T (.ops (e::r) s) R
 | PF {e r s v args rf env0 Rd Ra Rb R} (hg:guardOf s.env.get e.guard=aE cc) (hc:yieldOf s.env.get e.op=aE (v,args)) (hv:s.H[v]? = aE (.iV rf env0 .ready)) (hR:T.round rf=aE Rd) (hl:args.l=Rd.params.l)
   (ha:Ev T (.code Rd.a { env:=wP Rd.params args env0,H:=s.H,iI:=cc }) Ra) (hn:∀o,Ra (.out o)->o.stop=eB/\∃mB,o.st.H[v]? = aE (.iV rf mB .ready))
   (hb:∀s1 mB,Ra (.out (.norm s1))->s1.H[v]? = aE (.iV rf mB .ready)->Ev T (.code Rd.b { s1 with H:=s1.H.set v (.iV rf mB .busy) }) Rb)
   (hm:∀o,Rb (.out o)->∃mO,o.st.H[v]? = aE (.iV rf mO .busy))
   (t:∀o mO,Rb (.out o)->o.st.H[v]? = aE (.iV rf mO .busy)->Ev T (.ops r { s with env:=put s.env e.dst (.b !o.stop),H:=o.st.H.set v (.iV rf mO o.CD) }) R):Ev T (.ops (e::r) s) R
 | next {e r s x v m since seen kk es R} (hg:guardOf s.env.get e.guard=aE cc) (jB:e.op = .nextM x) (hx:ev s.env.get x = .ptr v 0 0) (hv:s.H[v]? = aE (.jO (.im m) since seen)) (hm:s.H[m]? = aE (.map kk es)) (hs:es.l=since)
   (h0:(∀i,i<es.l->i∈seen)->Ev T (.ops r { s with env:=put s.env e.dst (.tup [.b eB]) }) R)
   (h1:∀i k d,es[i]? = aE (k,d)->i ∉ seen->Ev T (.ops r { s with env:=put s.env e.dst (.tup [.b cc,uC k,d]),H:=s.H.set v (.jO (.im m) since (seen ++ [i])) }) R):Ev T (.ops (e::r) s) R
 | Mg {s R} (h:R (.tr [] s)):Ev T (.trace [] s) R
 | Mi {e r s d δ R1 R} (hg:guardOf s.env.get e.guard=aE cc) (h:iL s.env.get s.H s.H.l e.op=aE (d,δ))
   (t:Ev T (.trace r { s with env:=put s.env e.dst d,H:=δ.app s.H (Al.last s.H) }) R1) (k:∀rs s',R1 (.tr rs s')->R (.tr (⟨iO s.env.get s.H e.op,kX s.H.l δ⟩::rs) s')):Ev T (.trace (e::r) s) R
 | Mh {e r s R1 R} (hg:guardOf s.env.get e.guard=aE eB) (t:Ev T (.trace r { s with env:=put s.env e.dst (.val undef) }) R1) (k:∀rs s',R1 (.tr rs s')->R (.tr (⟨[],[]⟩::rs) s')):Ev T (.trace (e::r) s) R
 | Md {e r s f args fn d R0 R1 R} (hg:guardOf s.env.get e.guard=aE cc) (hc:lZ s.env.get e.op=aE (f,args)) (hf:T.fn f=aE fn) (hp:fn.full=eB)
   (h:Ev T (.call f (args.map (ib (λ_=>eh) s.H 40)) []) R0) (h0:∀d' Hn,R0 (.val d' Hn)->d'=d/\Hn = []) (hr:(if iB args then closed d else flat d)=cc)
   (t:Ev T (.trace r { s with env:=put s.env e.dst d }) R1) (k:∀rs s',R1 (.tr rs s')->R (.tr (⟨iO s.env.get s.H e.op,[]⟩::rs) s')):Ev T (.trace (e::r) s) R
 | Me {e r s f as args fn d ob R0 R1 R} (hg:guardOf s.env.get e.guard=aE cc) (jB:e.op = .callN f as) (ha:args=as.map (ev s.env.get)) (hf:T.fn f=aE fn) (hp:fn.full=eB)
   (h:Ev T (.call f (args.map (ib (λ_=>eh) s.H 40)) []) R0) (h0:∀d' Hn,R0 (.val d' Hn)->d'=d/\Hn = [ob]) (hr:(if iB args then oC d&&pP ob else rl d&&r8 ob)=cc)
   (t:Ev T (.trace r { s with env:=put s.env e.dst (lL s.H.l d),H:=s.H ++ [ob] }) R1) (k:∀rs s',R1 (.tr rs s')->R (.tr (⟨iO s.env.get s.H e.op,[(s.H.l,eh)]⟩::rs) s')):Ev T (.trace (e::r) s) R
 | Mf {e r s f as args fn d v R0 R1 R} (hg:guardOf s.env.get e.guard=aE cc) (jB:e.op = .callN f as) (ha:args=as.map (ev s.env.get)) (hf:T.fn f=aE fn) (hp:fn.full=eB)
   (hS:∀u∈(args.map (jq s.H 40)).flatten,u=v) (hv:v∈(args.map (jq s.H 40)).flatten) (iX:(rowsOf s.H v).isSome=cc) (iD:iB (args.map (ib (λ_=>eh) s.H 40))=cc)
   (h:Ev T (.call f (args.map (ib (λ_=>eh) s.H 40)) []) R0) (h0:∀d' Hn,R0 (.val d' Hn)->d'=d/\Hn = []) (hr:closed d=cc)
   (t:Ev T (.trace r { s with env:=put s.env e.dst d,H:=s.H.set v .dead }) R1) (k:∀rs s',R1 (.tr rs s')->R (.tr (⟨iO s.env.get s.H e.op,[(v,eh)]⟩::rs) s')):Ev T (.trace (e::r) s) R
 | np {kJ l s R1 R} (t:Ev T (.trace l s) R1) (hp:∀rs s',R1 (.tr rs s')->ym kJ rs=cc/\R (.out (.norm s'))):Ev T (.code (.np kJ l) s) R
 | oH {kJ l es s R1 R} (t:Ev T (.trace l s) R1) (hp:∀rs s',R1 (.tr rs s')->ym kJ rs=cc) (k:∀rs s',R1 (.tr rs s')->Ev T (.ops es s') R):Ev T (.code (.oH kJ l es) s) R
 | skip {s R} (h:R (.out (.norm s))):Ev T (.code .skip s) R
 | Jn {l s R} (h:Ev T (.ops l s) R):Ev T (.code (.ops l) s) R
 | seq {a b s R1 R} (h:Ev T (.code a s) R1) (k:∀s',R1 (.out (.norm s'))->Ev T (.code b s') R) (hs:∀o,R1 (.out o)->o.stop=cc->R (.out o)):Ev T (.code (.seq a b) s) R
 | cond {c a b s x R} (hc:ev s.env.get c = .val (.bool x)) (h:Ev T (.code (if x then a else b) s) R):Ev T (.code (.cond c a b) s) R
 | block {id live a s R1 R} (h:Ev T (.code a s) R1) (k:∀o,R1 (.out o)->R (.out (mX id s.H.l live o))):Ev T (.code (.block id live a) s) R
 | loop {live a s R} (h:Ev T (.loop s.H.l live a { s with env:=forget live s.env }) R):Ev T (.code (.loop live a) s) R
 | Cn {n live a s R1 R} (h:Ev T (.code a s) R1) (k:∀s',R1 (.out (.norm s'))->Ev T (.loop n live a (cut n live s')) R) (hs:∀o,R1 (.out o)->o.stop=cc->R (.out o)):Ev T (.loop n live a s) R
 | qb {rf live x s f first cap fn R1 R} (hr:s.iI=eB) (hx:ev s.env.get x = .fn (.func f) first cap) (hf:T.fn f=aE fn) (hp:fn.full=cc)
   (h:Ev T (.call f (first ++ [.jF (s.H.l+1)]++cap) (s.H ++ [.jJ,.iV rf (forget live s.env) .ready])) R1)
   (k:∀d H',R1 (.val d H')->∃env st o,H'[s.H.l+1]? = aE (.iV rf env st)/\Cu { s with H:=H'.set (s.H.l+1) .dead,marks:=s.H.l::s.marks } st=aE o/\R (.out o)):Ev T (.code (.qb rf live x) s) R
 | exit {id s R} (h:R (.out (.exit id s))):Ev T (.code (.exit id) s) R
 | ret {s R} (h:R (.out (.ret s))):Ev T (.code .ret s) R
 | call {f args H fn R1 R} (own:Nat) (hf:T.fn f=aE fn) (hl:args.l<=fn.ntmps) (h:Ev T (.code fn.body { env:=wH args,H:=H }) R1)
   (k:∀o,R1 (.out o)->∃d H',finish fn own H.l o=aE (d,H')/\R (.val d H')):Ev T (.call f args H) R
 | sort {f g fn sz v gen t H R} {α:Type} (fc:α->List D) (l:List α) (cf:α->α->Int) (hs:T.sort f=aE sz) (hg:T.fn g=aE fn) (hl:∀a∈l,(fc a).l=sz) (iD:∀a∈l,iB (fc a)=cc) (h0:0<l.l) (y7:l.l<4611686018427387904)
   (G6:∀x∈l,¬cf x x<0) (tr:∀x∈l,∀y∈l,∀z∈l,cf x y<0->cf y z<0->cf x z<0) (nt:∀x∈l,∀y∈l,∀z∈l,¬cf x y<0->¬cf y z<0->¬cf x z<0)
   (hc:∀x∈l,∀y∈l,Ev T (.call g [.agg (fc x),.agg (fc y)] []) (λr=>∃H',r = .val (.i (cf x y)) H')) (hv:H[v]? = aE (.row t gen (l.map fc).flatten))
   (k:∀l':List α,l'.Perm l->l'.Pairwise (λx y=>¬cf y x<0)->R (.val (.tup []) (H.set v (.row t gen (l'.map fc).flatten)))):Ev T (.call f [.gR v gen sz 0 l.l,.fn (.func g) [] []] H) R
 | HU {f sz x H R} (hs:T.sort f=aE sz) (k:R (.val (.tup []) H)):Ev T (.call f [.gV,x] H) R
 | vI {f v gen t H R} (l:List Int) (hs:T.vI f=cc) (h0:0<l.l) (y7:l.l<4611686018427387904) (hv:H[v]? = aE (.row t gen (l.map λn=>D.i n)))
   (k:R (.val (.tup []) (H.set v (.row t gen ((l.mergeSort λx y=>decide (x<=y)).map λn=>D.i n))))):Ev T (.call f [.gR v gen 1 0 l.l] H) R
 | uV {f v gen t zs H R} (l:List Int) (i:Nat) (hs:T.uV f=cc) (hi:i<l.l) (hv:H[v]? = aE (.row t gen (l.map (λn=>D.i n)++zs)))
   (k:R (.val (.gR v gen 1 0 (l.l-1)) (H.set v (.row t gen ((l.take i++l.drop (i+1) ++ [0]).map (λn=>D.i n)++zs))))):Ev T (.call f [.gR v gen 1 0 l.l,.i i,.i ((i:Int)+1)] H) R
def oE(f:iM):Option Nat->D->iM
 | some k,d=>λt=>if k=t then d else f t
 | none,_=>f
def Lw(env:Env)(dst:Option Nat)(d:D):(put env dst d).get=oE env.get dst d:=by
 cases dst with
 | none=>rfl
 | some k=>funext t;simp[put,Env.y4,oE]
def Uh:Option (Nat×Bool)->List Nat
 | some (t,_)=>[t]
 | none=>[]
def looks(e:jb):List Nat:=jg e.op++Uh e.guard
inductive Ef(C:ek->List D->D->gQ->Prop)(f:iM)(H:gQ)(e:jb)(n:Nat):Rc->D->Dl->Prop
 | op {d δ} (hg:guardOf f e.guard=aE cc) (h:iL f H n e.op=aE (d,δ)) (hf:Fits n δ H):Ef C f H e n ⟨iO f H e.op,kX n δ⟩ d δ
 | off (hg:guardOf f e.guard=aE eB):Ef C f H e n ⟨[],[]⟩ (.val undef) .no
 | call {g args d} (hg:guardOf f e.guard=aE cc) (hc:lZ f e.op=aE (g,args))
   (h:C g (args.map (ib (λ_=>eh) H 40)) d []) (hr:(if iB args then closed d else flat d)=cc):Ef C f H e n ⟨iO f H e.op,[]⟩ d .no
 | callN {g as args d ob} (hg:guardOf f e.guard=aE cc) (jB:e.op = .callN g as) (ha:args=as.map (ev f))
   (h:C g (args.map (ib (λ_=>eh) H 40)) d [ob]) (hr:(if iB args then oC d&&pP ob else rl d&&r8 ob)=cc) (hf:Fits n (.new ob) H):Ef C f H e n ⟨iO f H e.op,kX n (.new ob)⟩ (lL n d) (.new ob)
 | C' {g as args d v} (hg:guardOf f e.guard=aE cc) (jB:e.op = .callN g as) (ha:args=as.map (ev f)) (hS:∀u∈(args.map (jq H 40)).flatten,u=v) (hv:v∈(args.map (jq H 40)).flatten) (iX:(rowsOf H v).isSome=cc)
   (h:C g (args.map (ib (λ_=>eh) H 40)) d []) (iD:iB (args.map (ib (λ_=>eh) H 40))=cc) (hr:closed d=cc):Ef C f H e n ⟨iO f H e.op,[(v,eh)]⟩ d (.obj v .dead)
def guard_congr{f f':iM}{g:Option (Nat×Bool)}(h:∀t∈Uh g,f t=f' t):guardOf f g=guardOf f' g:=by
 cases g with
 | none=>rfl
 | some p=>simp only[guardOf,h p.1 (by simp[Uh])]
def afO{x:Fp}{H1 H2:gQ}(h:Alike x H1 H2):Alike x H2 H1:=by
 obtain⟨v,r⟩:=x
 cases r with
 | none=>exact h.symm
 | some q=>
  rcases h with h|⟨t,g,cs,ds,h1,e,d,c⟩
  .exact .inl h.symm
  .exact .inr ⟨t,g,ds,cs,e,h1,d.symm,λi a b=>(c i a b).symm⟩
def abb{n:Nat}{δ:Dl}{H H':gQ}(h:wS (kX n δ) H H')(a:Fits n δ H):Fits n δ H':=by
 cases δ with
 | no=>trivial
 | obj v ob=>trivial
 | new ob=>
  have e:H[n]? = H'[n]? := h (n,eh) (by simp[kX]);show H'[n]? = aE .na;rw[<-e];exact a
 | cells v o xs=>
  obtain⟨t,g,cs,h1,d⟩:=a;rcases h (v,aE (o,xs.l)) (by simp[kX])with h|⟨f,l,i,ds,b,c,k,j⟩
  .exact⟨t,g,cs,h▸h1,d⟩
  .rw[h1]at b;cases b;exact⟨t,g,ds,c,U⟩
def Sk{H H':gQ}{v:Nat}(h:Alike (v,eh) H H'):rowsOf H v=rowsOf H' v:=by have e:H[v]? = H'[v]? := h;simp only[rowsOf,e]
def Tk{f:iM}{H:gQ}{op:jG}{g:ek}{args:List D}(i:lZ f op=aE (g,args)){H':gQ}(h:wS (iO f H op) H H') :
  iO f H' op=iO f H op/\args.map (ib (λ_=>eh) H' 40)=args.map (ib (λ_=>eh) H 40):=by
 have key:∀args:List D,(∀v∈(args.map (jq H 40)).flatten,rowsOf H v=rowsOf H' v)->args.map (jq H' 40)=args.map (jq H 40)/\args.map (ib (λ_=>eh) H' 40)=args.map (ib (λ_=>eh) H 40):=by intro args j;have h1:∀d∈args,∀v∈jq H 40 d,rowsOf H v=rowsOf H' v:=λd e v c=>j v (bq.2 ⟨_,aj.2 ⟨d,e,rfl⟩,c⟩);exact⟨au λd e=>(LI 40 d (h1 d e)).1,au λd e=>(LI 40 d (h1 d e)).2⟩
 cases op<;>first|(cases i;done)|skip
 case call k as=>
  cases i;obtain⟨a,b⟩:=key (as.map (ev f)) λv c=>Sk (h (v,eh) (aj.2 ⟨v,c,rfl⟩));exact⟨by simp only[iO,a],b⟩
 case callN k as=>
  cases i;obtain⟨a,b⟩:=key (as.map (ev f)) λv c=>Sk (h (v,eh) (aj.2 ⟨v,c,rfl⟩));exact⟨by simp only[iO,a],b⟩
 case callv k as=>
  simp only[iO,i]at h ⊢;obtain⟨a,b⟩:=key args λv c=>Sk (h (v,eh) (aj.2 ⟨v,c,rfl⟩));exact⟨by rw[a],b⟩
def ajw{f:iM}{H H':gQ}{op:jG}(a:lZ f op=eh):iO f H' op=iO f H op:=by
 cases op<;>first|rfl|(cases a;done)|skip
 case callv=>simp only[iO,a]
 case len k x=>cases k<;>rfl
def agn{f:iM}{H:gQ}{n:Nat}{op:jG}{r:D×Dl}(h:iL f H n op=aE r):lZ f op=none:=by cases op<;>first|rfl|cases h
variable{C:ek->List D->D->gQ->Prop}
theorem Ef.local{f f':iM}{H H':gQ}{e:jb}{n:Nat}{rc:Rc}{d:D}{δ:Dl}(h:Ef C f H e n rc d δ)(E:∀t∈looks e,f t=f' t)(j:wS (rc.R++rc.W) H H'):Ef C f' H' e n rc d δ:=by
 have h1:∀t∈jg e.op,f t=f' t:=λt u=>E t (bp _ u);have p:guardOf f e.guard=guardOf f' e.guard:=guard_congr λt u=>E t (bK _ u)
 cases h with
 | op hg B s=>
  have k:iO f H e.op=iO f' H' e.op:=by rw[Qq h1,ajw (agn (by rw[<-Zd h1];exact B))]
  rw[k];refine .op (p▸hg) ?_ (abb j.right s);rw[<-Zd h1,<-afQ (H1:=H) j.left];exact B
 | off hg=>exact .off (p▸hg)
 | call hg i l o=>
  obtain⟨a,b⟩:=Tk i j.left;have k:iO f H e.op=iO f' H' e.op:=by rw[<-a,Qq h1]
  rw[k];exact .call (p▸hg) (by rw[<-PH h1];exact i) (by rw[b];exact l) o
 | @callN g w args _ _ hg c q l o s=>
  have i:lZ f e.op=aE (g,args):=by rw[c,q];rfl
  obtain⟨a,b⟩:=Tk i j.left;have k:iO f H e.op=iO f' H' e.op:=by rw[<-a,Qq h1]
  rw[k];have m:lZ f' e.op=aE (g,args):=by rw[<-PH h1];exact i
  have r:args=w.map (ev f'):=by rw[c]at m;cases m;rfl
  exact .callN (p▸hg) c r (by rw[b];exact l) o (abb j.right s)
 | @C' g w args _ v hg c q hS I F l G o=>
  have i:lZ f e.op=aE (g,args):=by rw[c,q];rfl
  obtain⟨a,b⟩:=Tk i j.left;have k:iO f H e.op=iO f' H' e.op:=by rw[<-a,Qq h1]
  rw[k];have m:lZ f' e.op=aE (g,args):=by rw[<-PH h1];exact i
  have r:args=w.map (ev f'):=by rw[c]at m;cases m;rfl
  have A:(args.map (jq H' 40)).flatten=(args.map (jq H 40)).flatten:=by have z:=a;rw[c]at z;simp only[iO,<-q]at z;exact(List.map_inj_right (λx y h=>(Prod.mk.inj h).1)).1 z
  have J:rowsOf H v=rowsOf H' v:=Sk (j.right (v,eh) gP);exact .C' (p▸hg) c r (by rw[A];exact hS) (by rw[A];exact I) (by rw[<-J];exact F) (by rw[b];exact l) (by rw[b];exact G) o
theorem Ef.fits{f:iM}{H:gQ}{e:jb}{n:Nat}{rc:Rc}{d:D}{δ:Dl}(h:Ef C f H e n rc d δ):Fits n δ H/\rc.W=kX n δ:=by
 cases h with
 | op _ _ a=>exact⟨a,rfl⟩
 | off=>exact⟨trivial,rfl⟩
 | call=>exact⟨trivial,rfl⟩
 | callN _ _ _ _ _ a=>exact⟨a,rfl⟩
 | C'=>exact⟨trivial,rfl⟩
def AX(a b:jb):Bool:=
 (match a.dst with|some k => !(looks b).contains k&&b.dst != aE k|none=>cc)&&(match b.dst with|some k => !(looks a).contains k|none=>cc)
def yp(a b:Rc):Bool:=wY a.W (b.R++b.W)&&wY b.W (a.R++a.W)
theorem ae7{f:iM}{dst:Option Nat}{d:D}{l:List Nat}(h:∀k,dst=aE k->k ∉ l):∀t∈l,oE f dst d t=f t:=by
 intro t a
 cases dst with
 | none=>rfl
 | some k=>
  simp only[oE];rw[if_neg];rintro rfl;exact h _ rfl a
theorem at0{f:iM}{a b:Option Nat}{x y:D}(h:∀k,a=aE k->b≠aE k):oE (oE f a x) b y=oE (oE f b y) a x:=by
 cases a with
 | none=>rfl
 | some k=>
  cases b with
  | none=>rfl
  | some j=>
   have d:j≠k:=λe=>h k rfl (by rw[e]);funext t;simp only[oE]
   by_cases h1:j=t<;>by_cases c:k=t<;>simp[h1,c]
   exact absurd (h1.trans c.symm) d
theorem ato{a b:jb}(h:AX a b=cc):(∀k,a.dst=aE k->k ∉ looks b)/\(∀k,b.dst=aE k->k ∉ looks a)/\(∀k,a.dst=aE k->b.dst≠aE k):=by
 unfold AX at h;simp only[cp]at h;refine⟨λk c=>?_,λk c=>?_,λk c=>?_⟩
 .have:=h.1;rw[c]at this;simp at this;exact this.1
 .have:=h.2;rw[c]at this;simpa using this
 .have:=h.1;rw[c]at this;simp at this;exact this.2
theorem swap{f:iM}{H:gQ}{a b:jb}{n m:Nat}{g e:Rc}{x y:D}{δ c:Dl}(l:Ef C f H a n g x δ)(w:Ef C (oE f a.dst x) (mN n δ H) b m e y c)
  (hs:AX a b=cc) (d:yp g e=cc) :
  Ef C f H b m e y c/\Ef C (oE f b.dst y) (mN m c H) a n g x δ/\oE (oE f a.dst x) b.dst y=oE (oE f b.dst y) a.dst x/\mN m c (mN n δ H)=mN n δ (mN m c H):=by
 obtain⟨s1,r,q⟩:=ato hs;simp only[yp,cp]at d;obtain⟨p,j⟩:=l.fits;have k:Ef C f H b m e y c:=w.local (ae7 s1) (Y7 p (by rw[<-j];exact d.1));obtain⟨o,i⟩:=k.fits;refine⟨k,l.local (λt v=>(ae7 r t v).symm) λz h=>afO (Y7 o (by rw[<-i];exact d.2) z h),at0 q,aul p o ?_⟩;rw[<-j,<-i];simp only[wY,bf]at d ⊢;exactλu s z h=>d.1 u s z (bK _ h)
theorem V8{o:Option D}{d:D}{δ:Dl}(h:lift o=aE (d,δ)):δ = .no:=by cases o<;>simp[lift]at h;exact h.2.symm
theorem WW{f:iM}{H:gQ}{e:jb}{n:Nat}{rc:Rc}{d:D}{δ:Dl}(h:Ef C f H e n rc d δ)(a:Lu e.op=cc):rc.R = []/\rc.W = []:=by
 cases h with
 | op hg c j=>
  cases b:e.op<;>rw[b]at c a<;>simp only[iL]at c<;>first|(cases a;done)|skip
  case len k x=>
   have:=V8 c;subst this;cases k<;>first|(cases a;done)|exact⟨rfl,rfl⟩
  all_goals
   have:=V8 c;subst this;exact⟨rfl,rfl⟩
 | off hg=>exact⟨rfl,rfl⟩
 | call hg g h i=>cases b:e.op<;>rw[b]at g a<;>first|(cases a;done)|(cases g;done)
 | callN _ b=>rw[b]at a;cases a
 | C' _ b=>rw[b]at a;cases a
theorem ad8{f:iM}{H:gQ}{e:jb}{n:Nat}{rc:Rc}{d:D}{δ:Dl}(h:Ef C f H e n rc d δ)(a:W2 e.op=cc):rc.W = []:=by
 by_cases g:Lu e.op=cc
 .exact(WW h g).2
 .cases h with
  | op hg c i=>
   cases b:e.op<;>rw[b]at c a g<;>simp only[iL]at c<;>first|(cases a;done)|(exact absurd rfl g)|skip
   case call=>cases c
   case callv=>cases c
   all_goals
    have:=V8 c;subst this;rfl
  | off hg=>rfl
  | call=>rfl
  | callN _ b=>rw[b]at a;cases a
  | C' _ b=>rw[b]at a;cases a
theorem aeY{f f':iM}{H H':gQ}{a b:jb}{n m:Nat}{e d:Rc}{x y:D}{δ j:Dl}(i:Ef C f H a n e x δ)(g:Ef C f' H' b m d y j)(h:SF a.op b.op=cc):yp e d=true:=by
 simp only[SF,bM,cp]at h;rcases h with(h|h)|⟨h1,k⟩
 .obtain⟨c,e2⟩:=WW i h;simp[yp,c,e2,wY]
 .obtain⟨c,e2⟩:=WW g h;simp[yp,c,e2,wY]
 .simp[yp,ad8 i h1,ad8 g k,wY]
structure oh where
 k:Nat
 e:jb
 n:Nat
 rc:Rc
inductive Tx(C:ek->List D->D->gQ->Prop):iM->gQ->List oh->iM->gQ->Prop
 | nil {f H}:Tx C f H [] f H
 | cons {f H it r d δ f' H'} (h:Ef C f H it.e it.n it.rc d δ) (t:Tx C (oE f it.e.dst d) (mN it.n δ H) r f' H'):Tx C f H (it::r) f' H'
theorem Tx.each{f:iM}{H:gQ}{l:List oh}{f':iM}{H':gQ}(h:Tx C f H l f' H'):∀a∈l,∃f H d δ,Ef C f H a.e a.n a.rc d δ:=by
 induction h with
 | nil=>intro a b;cases b
 | cons h t c=>
  intro a b;rcases ak.1 b with rfl|b
  .exact⟨_,_,_,_,h⟩
  .exact c a b
theorem Tx.front{a:oh}{post:List oh}{f':iM}{H':gQ}:∀ {pre:List oh} {f:iM} {H:gQ},Tx C f H (pre++a::post) f' H'->(∀p∈pre,AX p.e a.e=cc/\yp p.rc a.rc=cc) ->
  ∃d δ,Ef C f H a.e a.n a.rc d δ/\Tx C (oE f a.e.dst d) (mN a.n δ H) (pre++post) f' H'
 | [],f,H,h,_=>by
  cases h with
  | cons h t=>exact⟨_,_,h,t⟩
 | p::pre,f,H,h,ha=>by
  cases h with
  | @cons _ _ _ _ d δ _ _ h t=>
   obtain⟨y,b,i,j⟩:=Tx.front (pre:=pre) t λq k=>ha q (by simp[k]);obtain⟨s1,g,e,c⟩:=swap h i (ha p gP).1 (ha p gP).2;refine⟨y,b,s1,.cons g ?_⟩;rw[<-e,<-c];exact j
end Go.AL
namespace Go.AL
open Go
structure SX(G:GT)(N:Nat)(c:Ctx)(w:dx)(f:iM)(H:gQ)(ms:List Nat)(a:er):Prop where
 gW:iy G c H w
 env:mg c w f a
 size:N<=a.tmps.size
 marks:oF c ms a.defers
section
variable{P:fb}{G:GT}{c:Ctx}{w:dx}{f:iM}{H:gQ}{ms:List Nat}{a:er}{N:Nat}
theorem asb{f:iM}{a:er}{c:Ctx}{w:dx}(b:mg c w f a)(hN:N<=a.tmps.size){dst:Option Tmp}(g:vQ N dst=cc){v:ej}{d:D}(i:gX c w v d) :
  mg c w (oE f dst d) (a.put dst v):=by
 cases dst with
 | none=>exact b
 | some t=>
  have h:t<a.tmps.size:=aW (by simpa[vQ]using g) hN;intro k;simp only[oE,Act.put];split
  .simp_all
  .rename_i e;have:(a.tmps.setIfInBounds t v).getD k undef=a.tmps.getD k undef:=pK;rw[this];exact b k
theorem SX.next{c':Ctx}{w':dx}{H':gQ}(hs:SX G N c w f H ms a)(gW:iy G c' H' w')(e:Step H.l c H w c' H' w'){dst:Option Tmp}(i:vQ N dst=cc)
  {v:ej} {d:D} (g:gX c' w' v d):SX G N c' w' (oE f dst d) H' ms (a.put dst v) where
 gW:=gW
 env:=asb (mg.carry (λ_ _ h=>h.sv hs.gW.toHeapOK e) hs.env) hs.size i g
 size:=by rw[ad2];exact hs.size
 marks:=by
  rw[put_defers];refine hs.marks.mono λv L h=>e.old v 0 L ?_ h;rcases bU v H.l with b|b
  .exact b
  .rw[hs.gW.out v 0 b]at h;cases h
theorem afR{op:jG}{n b:Nat}{d:D}{δ:Dl}(h:iL f H n op=aE (d,δ))(a:∀ob,δ≠.new ob):iL f H b op=aE (d,δ):=by
 cases op<;>simp only[iL]at h ⊢ <;> first|exact h|skip
 case box=>
  unfold sU at h;split at h
  .grind
  .cases h
 case alloc=>cases h;exact absurd rfl (a _)
 case buildSl=>
  unfold Bl at h;split at h
  .grind
  .cases h
 case mkmap=>cases h;exact absurd rfl (a _)
 case mksl=>
  unfold Hl at h;split at h
  .grind
  .cases h
 case app=>
  unfold tC at h ⊢;split at h
  .grind
  .cases h
theorem Jh{d:D}(h:closed d=cc):oC d=cc/\lL H.l d=d:=by
 cases d<;>first|(cases h;done)|skip
 case tup ds=>
  have b:=nP h;refine⟨?_,?_⟩
  .simp only[oC,zu,bf];intro d a;have:=b d a;cases d<;>first|rfl|exact this
  .simp only[lL];congr 1
   conv=>rhs;rw[<-bn ds]
   refine au λd a=>?_;have:=b d a;cases d<;>first|(cases this;done)|rfl
 case agg ds=>
  have b:=nP h;refine⟨?_,?_⟩
  .simp only[oC,zu,bf];intro d a;have:=b d a;cases d<;>first|rfl|exact this
  .simp only[lL];congr 1
   conv=>rhs;rw[<-bn ds]
   refine au λd a=>?_;have:=b d a;cases d<;>first|(cases this;done)|rfl
 all_goals exact⟨h,rfl⟩
theorem T6{d:D}(h:flat d=cc):rl d=cc/\lL H.l d=d:=by
 cases d<;>first|(cases h;done)|skip
 case tup ds=>
  have b:∀d∈ds,flat d=true:=λd a=>by obtain⟨i,hi⟩:=aG.1 a;exact F7 h hi
  refine⟨?_,?_⟩
  .simp only[rl,zu,bf];intro d a;have:=b d a;cases d<;>first|rfl|exact this
  .simp only[lL];congr 1
   conv=>rhs;rw[<-bn ds]
   refine au λd a=>?_;have:=b d a;cases d<;>first|(cases this;done)|rfl
 case agg ds=>
  have b:∀d∈ds,flat d=true:=λd a=>by obtain⟨i,hi⟩:=aG.1 a;exact F7 h hi
  refine⟨?_,?_⟩
  .simp only[rl,zu,bf];intro d a;have:=b d a;cases d<;>first|rfl|exact this
  .simp only[lL];congr 1
   conv=>rhs;rw[<-bn ds]
   refine au λd a=>?_;have:=b d a;cases d<;>first|(cases this;done)|rfl
 all_goals exact⟨h,rfl⟩
variable{C:ek->List D->D->gQ->Prop}
theorem aah(W:∀g args d Hn,C g args d Hn->uW P g=cc/\A4 P G g args [] d Hn)(hs:SX G N c w f H ms a){A:Array ep}{o:ep}{e:jb}{i:Nat}(hA:A[i]? = aE o)
  (ho:yT P G N A o=aE e) {n:Nat} {rc:Rc} {d:D} {δ:Dl} (hE:Ef C f H e n rc d δ) {x:Option Nat} {m:Nat} {Q:iN->er->dx->Prop} {K:er->dx->Prop}
  (k:∀c' w' a',SX G N c' w' (oE f e.dst d) (mN n δ H) ms a'->Step H.l c H w c' (mN n δ H) w'->K a' w'):jA (FW x) m P A Q i K a w:=by
 obtain⟨s1,p,B,z⟩:=Br ho;unfold jA;simp only[hA]
 cases hE with
 | op hg h R=>
  have r:=xx hs.env z hg;have s1:=ZT s1 h;simp only[r,if_true]
  have s:∀ {al:Al},o7 H al->iL f H al.1 e.op=aE (d,δ)->δ.app H al=mN n δ H->o.wpIn (FW x) m P a w K Q:=by
   intro al jj h T;obtain⟨v,w',M,d',H',c',⟨rfl,rfl⟩,gW,q,l⟩:=adZ (P:=P) (K:=λd' H'=>d'=d/\H'=δ.app H al) hs.gW hs.env jj s1 (Ze h ⟨rfl,rfl⟩);refine⟨λ_ _=>trivial,?_⟩;rw[fa (FW x) a.eval o (EG s1)];rw[T]at gW l;have j:=hs.next gW l B q
   rw[<-p]at j;have U:=k c' w' _ j l;rw[p]at U;rcases M with M|⟨M,rfl⟩
   .rw[M];exact U
   .rw[M];exact U
  by_cases X:∃ob,δ = .new ob
  .obtain⟨ob,rfl⟩:=X;exact s (al:=Al.na H n) (o7.na R) h rfl
  .have B7:∀ob,δ≠.new ob:=λob e=>X ⟨ob,e⟩;refine s (al:=Al.last H) (o7.last H) (afR h B7) ?_;cases δ<;>first|rfl|exact absurd rfl (B7 _)
 | off hg=>
  have r:=xx hs.env z hg;simp only[r,bQ,if_false];refine⟨λ_ _=>trivial,?_⟩;have j:=hs.next hs.gW (Step.refl _ _ _ _) B (v:=undef) (d:=.val undef) (.val _)
  rw[<-p]at j;have:=k c w _ j (Step.refl _ _ _ _);rw[p]at this;exact this
 | @call g args d hg t h q=>
  have r:=xx hs.env z hg;have s1:=Jk s1 t;simp only[r,if_true];obtain⟨F,I⟩:=W _ _ _ _ h;obtain⟨vs,J,L⟩:=Sq hs.gW hs.env s1 t F
  have Y:(if iB args then oC d&&([]:gQ).all pP else rl d&&([]:gQ).all r8)=cc/\lL H.l d=d:=by
   by_cases O:iB args=cc
   .rw[if_pos O]at q ⊢;obtain⟨a,b⟩:=Jh (H:=H) q;exact⟨by simp[a],b⟩
   .rw[if_neg O]at q ⊢;obtain⟨a,b⟩:=T6 (H:=H) q;exact⟨by simp[a],b⟩
  have y:=ad1 hs.gW L I Y.1;rw[Y.2,az]at y;refine⟨λ_ _=>trivial,?_⟩;rw[fa (FW x) a.eval o (EG s1),J];refine⟨λh=>by simp[Fence.wide]at h,Jc.2 (y.mono ?_)⟩;rintro Z w' ⟨v,c',rfl,gW,E,l⟩;have j:=hs.next gW l B E
  rw[<-p]at j;have:=k c' w' _ j l;rw[p]at this;exact this
 | @callN g as args d ob hg S V h q R=>
  have r:=xx hs.env z hg;simp only[r,if_true];have t:lZ f e.op=aE (g,args):=by rw[S,V];rfl
  have s1:=Jk s1 t;obtain⟨F,I⟩:=W _ _ _ _ h;obtain⟨vs,J,L⟩:=Sq hs.gW hs.env s1 t F;have y:=ar9 hs.gW L I q R;refine⟨λ_ _=>trivial,?_⟩;rw[fa (FW x) a.eval o (EG s1),J];refine⟨λh=>by simp[Fence.wide]at h,Jc.2 (y.mono ?_)⟩;rintro Z w' ⟨v,c',rfl,gW,E,l⟩;have j:=hs.next gW l B E
  rw[<-p]at j;have:=k c' w' _ j l;rw[p]at this;exact this
 | @C' g as args d v hg S V hS hv iX h O q=>
  have r:=xx hs.env z hg;simp only[r,if_true];have t:lZ f e.op=aE (g,args):=by rw[S,V];rfl
  have s1:=Jk s1 t;obtain⟨F,I⟩:=W _ _ _ _ h;obtain⟨vs,J,L⟩:=Sq hs.gW hs.env s1 t F;have y:=ar8 hs.gW L hS iX I O q;refine⟨λ_ _=>trivial,?_⟩;rw[fa (FW x) a.eval o (EG s1),J];refine⟨λh=>by simp[Fence.wide]at h,Jc.2 (y.mono ?_)⟩;rintro Z w' ⟨u,c',rfl,gW,E,l⟩;have j:=hs.next gW l B E
  rw[<-p]at j;have:=k c' w' _ j l;rw[p]at this;exact this
end
def Bv(A:Array ep):Bool:=(hY A.size).all λi=>match A[i]? with
 | some o=>o.after.all λe => !Region.binds .any e||decide (e.on<i)
 | none=>cc
def AM(A:Array ep)(ord:List (List Nat)):Bool:=(hY A.size).all λi=>match A[i]? with
 | some o=>(ord.getD i []).all λk=>o.after.any λe=>Region.binds .any e&&(e.on == k||(ord.getD e.on []).contains k)
 | none=>cc
def WR(l:List jb)(ord:List (List Nat))(c:List (Nat×Nat)):Bool:=(hY l.l).all λi=>(hY i).all λk=>
 (ord.getD i []).contains k||(match l[k]?,l[i]? with
  | some a,aE b=>AX a b&&(c.contains (k,i)||SF a.op b.op)
  | _,_=>eB)
section
variable{P:fb}{G:GT}{A:Array ep}{ord:List (List Nat)}
theorem ahv(h:Bv A=cc){i:Nat}{o:ep}(hi:A[i]? = aE o){e:Edge}(a:e∈o.after)(b:Region.binds .any e=cc):e.on<i:=by have:=bf.1 h i (aZ.2 (aX.1 hi).1);simp only[hi]at this;have:=cW.1 this e a;simpa[b]using this
theorem adR(h:AM A ord=cc){i:Nat}{o:ep}(hi:A[i]? = aE o){k:Nat}(b:k∈ord.getD i []):∃e∈o.after,Region.binds .any e=cc/\(e.on=k\/k∈ord.getD e.on []):=by have:=bf.1 h i (aZ.2 (aX.1 hi).1);simp only[hi]at this;have:=bf.1 this k b;obtain⟨e,c,a⟩:=Array.any_eq_true'.1 this;simp only[cp,bM,beq_iff_eq,dX]at a;exact⟨e,c,a.1,a.2⟩
structure Left(A:Array ep)(ord:List (List Nat))(rem:List oh)(listed:Array Bool):Prop where
 size:listed.size=A.size
 iff:∀j,j<A.size->(listed.getD j cc=eB↔∃it∈rem,it.k=j)
 sorted:rem.Pairwise λp q=>p.k<q.k
 lt:∀it∈rem,it.k<A.size
 down:∀i,i<A.size->listed.getD i eB=cc->∀k∈ord.getD i [],listed.getD k eB=cc
theorem alJ{rem:List oh}{a:Array Bool}(h:Left A ord rem a){j:Nat}(c:j<A.size):a.getD j eB=cc\/∃e∈rem,e.k=j:=by
 have d:j<a.size:=by rw[h.size];exact c
 cases b:a.getD j cc with
 | false=>exact .inr ((h.iff j c).1 b)
 | true=>left;simp[d]at b ⊢;exact b
theorem amr{rem:List oh}{a:Array Bool}(h:Left A ord rem a){b:oh}(c:b∈rem):a.getD b.k eB=false:=by
 have d:=h.lt b c;have:=(h.iff b.k d).2 ⟨b,c,rfl⟩;have e:b.k<a.size:=by rw[h.size];exact d
 simp[e]at this ⊢;exact this
theorem W3(g:Bv A=cc){b:oh}{rem:List oh}{a:Array Bool}(h:Left A ord (b::rem) a):b.k∈Region.ready .any A a:=by
 rw[ez];have c:=h.lt b gP;refine⟨(h.iff b.k c).2 ⟨b,gP,rfl⟩,A[b.k],by simp[c],λe f j=>?_⟩;have l:=ahv g (i:=b.k) (o:=A[b.k]) (by simp[c]) f j;rcases alJ h (U:e.on<A.size)with hl|⟨q,d,k⟩
 .exact hl
 .exfalso;rcases ak.1 d with rfl|d
  .omega
  .have:=(aI.1 h.sorted).1 q d;omega
theorem Sf(l:AM A ord=cc){rem:List oh}{a:Array Bool}(h:Left A ord rem a){i:Nat}(hi:i∈Region.ready .any A a){q:oh}(k:q∈rem):q.k ∉ ord.getD i []:=by
 intro n;obtain⟨_,o,r,g⟩:=ez.1 hi;obtain⟨e,m,p,b⟩:=adR l r n;have c:=g e m p;have f:=amr h k;rcases b with b|b
 .grind
 .have j:e.on<A.size:=by
   rcases bU e.on A.size with d|d
   .exact d
   .have:a.getD e.on eB=false:=by
     have:a.size<=e.on:=by rw[h.size];exact d
     simp[eQ this]
    rw[this]at c;cases c
  have:=h.down e.on j c q.k b;rw[this]at f;cases f
theorem RE(r:AM A ord=cc){pre post:List oh}{b:oh}{a:Array Bool}(h:Left A ord (pre++b::post) a)(hi:b.k∈Region.ready .any A a) :
  Left A ord (pre++post) (a.setIfInBounds b.k cc):=by
 have l:(pre++post).Sublist (pre++b::post):=eA (eR b post) pre
 have x:∀q∈pre++post,q.k≠b.k:=by
  intro q c;have:=bw.1 h.sorted;rcases ai.1 c with c|c
  .grind
  .have:=(aI.1 this.2.1).1 q c;omega
 have m:=h.lt b gP;refine⟨by simp[h.size],λj t=>?_,h.sorted.sublist l,λq c=>h.lt q (l.subset c),λi w hl k n=>?_⟩
 .by_cases e:b.k=j
  .simp_all
  .rw[jI cc e,h.iff j t];constructor
   .grind
   .grind
 .by_cases e:b.k=i
  .subst e;obtain⟨_,o,v,p⟩:=ez.1 hi;obtain⟨e,s,u,f⟩:=adR r v n;have d:=p e s u;rcases f with rfl|f
   .exact fp d
   .have m:e.on<A.size:=by
     rcases bU e.on A.size with g|g
     .exact g
     .have:a.getD e.on eB=false:=by
       have:a.size<=e.on:=by rw[h.size];exact g
       simp[eQ this]
      rw[this]at d;cases d
    exact fp (h.down e.on m d k f)
  .rw[jI eB e]at hl;exact fp (h.down i w hl k n)
variable{C:ek->List D->D->gQ->Prop}{N:Nat}
theorem Zf(n:Nat)(δ:Dl)(H:gQ):(mN n δ H).l=H.l:=by
 cases δ with
 | no=>rfl
 | cells v o xs=>simp only[mN,Dl.app];split<;>simp
 | obj v ob=>simp[mN,Dl.app]
 | new ob=>simp[mN,Dl.app,Al.na]
theorem Y9(y:∀g args d Hn,C g args d Hn->uW P g=cc/\A4 P G g args [] d Hn)(x:Bv A=cc)(t:AM A ord=cc){z:Option Nat}{m:Nat}{Q:iN->er->dx->Prop}{ms:List Nat}{f':iM}{H':gQ} :
  ∀(fuel:Nat) (rem:List oh) (b:Array Bool) (c:Ctx) (w:dx) (f:iM) (H:gQ) (a:er),rem.l=fuel->Left A ord rem b->SX G N c w f H ms a->Tx C f H rem f' H' ->
   (∀e∈rem,∃o,A[e.k]? = aE o/\yT P G N A o=aE e.e) ->
   (∀p∈rem,∀q∈rem,p.k<q.k->p.k∈ord.getD q.k []\/(AX p.e q.e=cc/\yp p.rc q.rc=cc)) ->
   (∀c' w' n,SX G N c' w' f' H' ms n->Step H.l c H w c' H' w'->Q .normal n w')->ga (FW z) m P .any A Q fuel b a w
 | 0,rem,b,c,w,f,H,a,hl,ny,hs,ht,_,_,hQ=>by have:rem = []:=bj hl;subst this;cases ht;refine⟨?_,hQ c w a hs (Step.refl _ _ _ _)⟩;refine a7.2 λj I=>?_;obtain⟨h1,o,u,_⟩:=ez.1 I;obtain⟨e,s,_⟩:=(ny.iff j (aX.1 u).1).1 h1;cases s
 | fuel+1,rem,b,c,w,f,H,a,hl,ny,hs,ht,Af,Kv,hQ=>by
  refine⟨λh0=>?_,λi hi=>?_⟩
  .cases rem with
   | nil=>cases hl
   | cons e rem=>
    have:=W3 x ny;rw[h0]at this;cases this
  .obtain⟨h1,o,u,_⟩:=ez.1 hi;obtain⟨e,s,rfl⟩:=(ny.iff i (aX.1 u).1).1 h1;obtain⟨pre,post,rfl⟩:=fF s
   have M:∀p∈pre,AX p.e e.e=cc/\yp p.rc e.rc=true:=by
    intro p l;have F:p.k<e.k:=(bw.1 ny.sorted).2.2 p l e gP;rcases Kv p (bp _ l) e gP F with h|h
    .exact absurd h (Sf t ny hi (bp _ l))
    .exact h
   obtain⟨d,δ,K,J⟩:=ht.front M;obtain⟨o',O,R⟩:=Af e gP;have r:∀q∈pre++post,q∈pre++e::post:=λq k=>(eA (eR e post) pre).subset k;refine aah y hs O R K λc' w' n D E=>?_;refine Y9 y x t fuel (pre++post) _ c' w' _ _ n (by simp at hl ⊢;omega) (RE t ny hi) D J (λq k=>Af q (r q k)) (λp l q k=>Kv p (r p l) q (r q k)) λc2 w2 L B v=>?_;rw[Zf]at v;exact hQ c2 w2 L B (E.trans v (hI _))
def R3(x:iK)(e:Option Tmp):Bool:=match x with
 | .tmp t=>e != aE t
 | _=>cc
def Sb:Op->Option iK
 | .extract x _=>aE x
 | .move x | .assign x=>aE x
 | _=>eh
def SH(p q:ep):Bool:=match Sb p.op,Sb q.op with
 | some x,aE y=>p.guard.isNone&&q.guard.isNone&&R3 x q.dst&&R3 y p.dst&&(p.dst != q.dst)
 | _,_=>eB
def H7(A:Array ep)(k i:Nat):Bool:=match A[k]?,A[i]? with
 | some p,aE q=>SH p q
 | _,_=>eB
theorem adC{x:iK}{e:Option Tmp}(h:R3 x e=cc)(a:er)(v:ej):(a.put e v).eval x=a.eval x:=Act.eval_put λd c b=>by subst b c;simp[R3]at h
theorem aaD{F:Fence}{m:Nat}{P:fb}{Q:iN->er->dx->Prop}{o:ep}{x:iK}{a:er}{w:dx}{K:er->dx->Prop}(d:Sb o.op=aE x)(h:o.wpIn F m P a w K Q) :
  ∃v,K (a.put o.dst v) w/\∀(b:er) (l:er->dx->Prop),b.eval x=a.eval x->l (b.put o.dst v) w->o.wpIn F m P b w l Q:=by
 have g:=h.2;have n:∀c,o.op≠.defer c:=λc e=>by rw[e]at d;cases d
 have p:∀c,o.op≠.call c:=λc e=>by rw[e]at d;cases d
 have s:∀b:er,o.about P w b.eval=none:=λb=>by
  unfold Oper.about;split
  .rename_i c A;exact absurd A (p c)
  .rfl
 rw[fx _ _ _ n]at g;unfold Sb at d;split at d
 .rename_i y i j;cases d
  by_cases t:∃vs v,a.eval x = .tuple vs/\vs[i]? = aE v
  .obtain⟨vs,v,u,e2⟩:=t;refine⟨v,by simpa[hU,j,u,e2,Instr.extract,eK]using g,λb l q r=>⟨λf k=>(by rw[s b]at k;cases k),?_⟩⟩;rw[fx _ _ _ n];simpa[hU,j,q,u,e2,Instr.extract,eK]using r
  .exfalso;simp only[hU,j]at g;unfold Instr.extract at g;split at g
   .rename_i vs z
    cases hi:vs[i]? with
    | some v=>exact t ⟨vs,v,z,hi⟩
    | none=>simp[hi,eK]at g
   .simp[eK]at g
 all_goals first
  | (rename_i y j;cases d;refine⟨a.eval x,by simpa[hU,j,eK]using g,λb l q r=>⟨λf k=>(by rw[s b]at k;cases k),?_⟩⟩;rw[fx _ _ _ n];simpa[hU,j,q,eK]using r)
  | cases d
theorem atO{F:Fence}{m:Nat}{P:fb}{A:Array ep}{Q:iN->er->dx->Prop}{p q:ep}{ops:List ep}{a:er}{w:dx}(hs:SH p q=cc)(h:eL F m P A Q (p::q::ops) a w):eL F m P A Q (q::p::ops) a w:=by
 unfold SH at hs;split at hs
 .rename_i x y g f;simp only[cp,bne_iff_ne,ne_eq,Option.isNone_iff_eq_none]at hs;obtain⟨⟨⟨⟨k,j⟩,c⟩,b⟩,i⟩:=hs;simp only[eL,Region.wanted,k,j,if_true]at h ⊢;obtain⟨v,h,kv⟩:=aaD g h;obtain⟨u,h,e⟩:=aaD f h;refine e a _ (adC b a v).symm (kv _ _ (adC c a u) ?_);rw[<-Act.put_comm a v u λd l e2=>i (l.trans e2.symm)];exact h
 .cases hs
theorem Za(C:Bv A=cc)(n:AM A ord=cc){F:Fence}{m:Nat}{Q:iN->er->dx->Prop} :
  ∀(fuel:Nat) (lasts:List oh) (ops:List ep) (b:Array Bool) (a:er) (w:dx),lasts.l=fuel->Left A ord lasts b ->
   (∀q∈lasts,∀k,k<q.k->k∈ord.getD q.k []\/((∃p∈lasts,p.k=k)->k+1=q.k/\H7 A k q.k=cc))->lasts.map (λq=>A[q.k]?)=ops.map aE ->
   eL F m P A Q ops a w->ga F m P .any A Q fuel b a w
 | 0,lasts,ops,b,a,w,c,ny,_,g,h=>by
  have h0:lasts = []:=bj c;subst h0;have:ops = []:=by simpa using g.symm
  subst this;refine⟨a7.2 λj L=>?_,h⟩;obtain⟨h1,o,s,_⟩:=ez.1 L;obtain⟨d,l,_⟩:=(ny.iff j (aX.1 s).1).1 h1;cases l
 | fuel+1,alr,ops,b,a,w,c,ny,hl,g,h=>by
  cases alr with
  | nil=>cases c
  | cons q lasts=>
  cases ops with
  | nil=>simp at g
  | cons o ops=>
   simp only[j',cN]at g;refine⟨λh0=>?_,λi hi=>?_⟩
   .have:=W3 C ny;rw[h0]at this;cases this
   .obtain⟨h1,o',s,_⟩:=ez.1 hi;obtain⟨d,l,rfl⟩:=(ny.iff i (aX.1 s).1).1 h1
    have key:∀(d:oh) (o:ep) (lasts:List oh) (ops:List ep),A[d.k]? = aE o->lasts.l=fuel->Left A ord lasts (b.setIfInBounds d.k cc)->(∀q∈lasts,∀k,k<q.k->k∈ord.getD q.k []\/((∃p∈lasts,p.k=k)->k+1=q.k/\H7 A k q.k=cc)) ->
      lasts.map (λq=>A[q.k]?)=ops.map aE->eL F m P A Q (o::ops) a w->jA F m P A Q d.k (ga F m P .any A Q fuel (b.setIfInBounds d.k cc)) a w:=λd o lasts ops v c K hl g h=>by
     have E:∀a w,eL F m P A Q ops a w->ga F m P .any A Q fuel (b.setIfInBounds d.k cc) a w:=λa w h=>Za C n fuel lasts ops _ a w c K hl g h;unfold jA;simp only[v];simp only[eL]at h;split
     .rename_i I;simp only[I,if_true]at h;exact Oper.wpIn_mono E h
     .grind
    rcases ak.1 l with e|l
    .subst e;exact key d o lasts ops g.1 (by simpa using c) (RE (pre:=[]) (post:=lasts) n ny hi) (λq J k y=>(hl q (bt _ J) k y).imp id λf ⟨p,u,e⟩=>f ⟨p,bt _ u,e⟩) g.2 h
    .have G:q.k<d.k:=(aI.1 ny.sorted).1 d l;have z:q.k ∉ ord.getD d.k []:=Sf n ny hi (q:=q) gP;have M:=((hl d (bt _ l) q.k G).resolve_left z) ⟨q,gP,rfl⟩
     cases lasts with
     | nil=>cases l
     | cons r lasts=>
      have t:r=d:=by
       rcases ak.1 l with e|t
       .exact e.symm
       .have h1:q.k<r.k:=(aI.1 ny.sorted).1 r gP;have s:r.k<d.k:=(aI.1 (aI.1 ny.sorted).2).1 d t;omega
      subst t
      cases ops with
      | nil=>simp at g
      | cons B ops=>
       simp only[j',cN]at g
       have D:SH o B=true:=by have:=M.2;unfold H7 at this;rw[g.1,g.2.1]at this;exact this
       refine key r B (q::lasts) (o::ops) g.2.1 (by simpa using c) (RE (pre:=[q]) (post:=lasts) n ny hi) (λx H k y=>?_) (by simp[g.1,g.2.2]) (atO D h)
       have N:x∈q::r::lasts:=by
        rcases ak.1 H with e|e
        .simp[e]
        .simp[e]
       refine(hl x N k y).imp id λf ⟨p,u,e⟩=>f ⟨p,?_,e⟩;rcases ak.1 u with e|e
       .simp[e]
       .simp[e]
theorem Y'(I:∀g args d Hn,C g args d Hn->uW P g=cc/\A4 P G g args [] d Hn)(x:Bv A=cc)(s:AM A ord=cc){E:Option Nat}{m:Nat}{Q:iN->er->dx->Prop}{ms:List Nat}{f':iM}{H':gQ}{lasts:List oh}{ops:List ep}
  (z:∀q∈lasts,∀k,k<q.k->k∈ord.getD q.k []\/((∃p∈lasts,p.k=k)/\k+1=q.k/\H7 A k q.k=cc)) (D:lasts.map (λq=>A[q.k]?)=ops.map aE) :
  ∀(fuel:Nat) (rem:List oh) (b:Array Bool) (c:Ctx) (w:dx) (f:iM) (H:gQ) (a:er),rem.l=fuel->Left A ord (rem++lasts) b->SX G N c w f H ms a->Tx C f H rem f' H' ->
   (∀j∈rem,∃o,A[j.k]? = aE o/\yT P G N A o=aE j.e) ->
   (∀p∈rem,∀q∈rem,p.k<q.k->p.k∈ord.getD q.k []\/(AX p.e q.e=cc/\yp p.rc q.rc=cc)) ->
   (∀c' w' t,SX G N c' w' f' H' ms t->Step H.l c H w c' H' w'->eL (FW E) m P A Q ops t w')->ga (FW E) m P .any A Q (fuel+lasts.l) b a w
 | 0,rem,b,c,w,f,H,a,hl,ny,hs,ht,_,_,hQ=>by have:rem = []:=bj hl;subst this;cases ht;rw[aR];exact Za x s _ lasts ops b a w rfl ny (λq n k O=>(z q n k O).imp id λh _=>h.2) D (hQ c w a hs (Step.refl _ _ _ _))
 | fuel+1,rem,b,c,w,f,H,a,hl,ny,hs,ht,Af,Kv,hQ=>by
  have F:∀q∈rem,∀l∈lasts,q.k<l.k:=λq n l hl=>(bw.1 ny.sorted).2.2 q n l hl;rw[(U:fuel+1+lasts.l=(fuel+lasts.l)+1)];refine⟨λh0=>?_,λi hi=>?_⟩
  .cases rem with
   | nil=>cases hl
   | cons j rem=>
    have:=W3 (rem:=rem++lasts) x ny;rw[h0]at this;cases this
  .obtain⟨h1,o,T,_⟩:=ez.1 hi;obtain⟨j,v,rfl⟩:=(ny.iff i (aX.1 T).1).1 h1
   have v:j∈rem:=by
    rcases ai.1 v with h|h
    .exact h
    .cases rem with
     | nil=>cases hl
     | cons q rem=>
      rcases z j h q.k (F q gP j h)with h1|⟨⟨p,r,e⟩,_⟩
      .exact absurd h1 (Sf s ny hi (q:=q) gP)
      .have:=F q gP p r;omega
   obtain⟨pre,post,rfl⟩:=fF v;have y:Left A ord (pre++j::(post++lasts)) b:=by simpa using ny
   have W:∀p∈pre,AX p.e j.e=cc/\yp p.rc j.rc=true:=by
    intro p r;have M:p.k<j.k:=(bw.1 y.sorted).2.2 p r j gP;rcases Kv p (bp _ r) j gP M with h|h
    .exact absurd h (Sf s y hi (bp _ r))
    .exact h
   obtain⟨d,δ,S,R⟩:=ht.front W;obtain⟨o',X,Y⟩:=Af j gP;have u:∀q∈pre++post,q∈pre++j::post:=λq n=>(eA (eR j post) pre).subset n;refine aah I hs X Y S λc' w' t K L=>?_;refine Y' I x s z D fuel (pre++post) _ c' w' _ _ t (by simp at hl ⊢;omega) (by simpa using RE s y hi) K R (λq n=>Af q (u q n)) (λp r q n=>Kv p (u p r) q (u q n)) λc2 w2 V J B=>?_;rw[Zf]at B;exact hQ c2 w2 V J (L.trans B (hI _))
