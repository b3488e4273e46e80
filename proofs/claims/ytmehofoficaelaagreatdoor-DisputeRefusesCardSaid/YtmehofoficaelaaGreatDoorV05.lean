/- 5 -/
import Derived.Test.YtmehofoficaelaaGreatDoorV04
set_option linter.all false
open Option renaming some→aE,none→cc
open List renaming all_eq_true→bb,mem_of_getElem?→b4,map_inj_right→ep,length→List.l
open Bool renaming true→bs,false→ek,false_or→er
open Go renaming Value→cp,World→di,FuncId→dr,Program→eh,Calls→en
open Go.Oper renaming semAt_plain→dx
namespace Go.AL
open Go
section
variable{P:eh}{G:GT}{c c2:Ctx}{H Hn:gd}{w w2:di}{N:Nat}
theorem lP{ds:List D}(h:gK ds=bs):∀d∈ds,closed d=true:=λd a=>by obtain⟨i,hi⟩:=aD.1 a;exact xY h hi
theorem p7{ρ:Nat->Option Nat}{k:Nat}{d:D}(h:closed d=bs):gw ρ H k d=d:=by cases k<;>(unfold gw;simp[h])
def Ctx.join(c c2:Ctx)(n:Nat)(F:Nat->Prop):Ctx where
 ι:=λv g=>if v<n then c.ι v g else c2.ι (v-n) g
 F:=F
 RT:=c.RT
theorem Ie{F:Nat->Prop}{v:Nat}{L:Loc}(h:lM (c.join c2 H.l F) (H++Hn) v L):(v<H.l/\lM c H v L)\/(H.l<=v/\lM c2 Hn (v-H.l) L):=by
 obtain⟨o,b,e,d⟩:=h;rcases bB v H.l with a|a
 .rw[ah a]at b;simp only[Ctx.join,if_pos a]at d;exact .inl ⟨a,o,b,e,d⟩
 .rw[ak a]at b;simp only[Ctx.join,if_neg (fQ.2 a)]at d;exact .inr ⟨a,o,b,e,d⟩
theorem ik.ZJ{c c':Ctx}{w:di}{L:Option Loc}{kk:KK}{es:List (cp×D)}(h:ik c w L (.map kk es))(k:∀x∈es,∀u,gj c w u x.2->gj c' w u x.2):ik c' w L (.map kk es):=by
 cases L with
 | none=>simp[ik]at h
 | some L=>
  obtain⟨h1,n,arr,f,m,g⟩:=h;exact⟨h1,n,arr,f,m,g.1,λi e x l j=>let ⟨a,b,d⟩:=g.2.1 i e x l j;⟨a,k x (b4 j) _ b,d⟩,g.2.2⟩
structure zl(G:GT)(c c2:Ctx)(H Hn:gd)(w w2:di)(F:Nat->Prop):Prop where
 gp:gI G c H w
 nh:gI G c2 Hn w2
 pP:ko w w2
 fresh:∀b,l3 c2 Hn b->w.heap.size<=b
 le:∀b,c.F b->F b
 lt:∀b,F b->b<w2.heap.size
 n1:∀b,F b->¬l3 c H b
 n2:∀b,F b->¬l3 c2 Hn b
 new:∀b,F b->c.F b\/w.heap.size<=b
 rows:∀(v:Nat) (o:Ob),Hn[v]? = aE o->(∃t g cs,o = .row t g cs/\∀d∈cs,∀u,gj c2 w2 u d->gj (c.join c2 H.l F) w2 u d)\/∃kk es,o = .map kk es/\∀x∈es,∀u,gj c2 w2 u x.2->gj (c.join c2 H.l F) w2 u x.2
variable{F:Nat->Prop}
theorem YX(j:zl G c c2 H Hn w w2 F){u:cp}{d:D}(h:gj c w u d):gj (c.join c2 H.l F) w2 u d:=by
 refine h.carry (λv k L a=>?_) j.le (λb o f=>Gi (j.pP.kept b (j.gp.kO b f)))
 have e:v<H.l:=by
  rcases bB v H.l with h|h
  .exact h
  .rw[j.gp.out v k h]at a;cases a
 simp only[Ctx.join,if_pos e];exact a
theorem N8(j:zl G c c2 H Hn w w2 F):gI G (c.join c2 H.l F) (H++Hn) w2 where
 inj v v' L L' h1 p n m he:=by
  rcases Ie h1 with⟨a,b⟩|⟨a,b⟩<;>rcases Ie p with⟨I,q⟩|⟨I,q⟩
  .exact j.gp.inj v v' L L' b q n m he
  .have:=j.gp.lt _ ⟨v,L,b,n,rfl⟩;have:=j.fresh _ ⟨_,L',q,m,rfl⟩;omega
  .have:=j.gp.lt _ ⟨v',L',q,m,rfl⟩;have:=j.fresh _ ⟨_,L,b,n,rfl⟩;omega
  .have:=j.nh.inj _ _ L L' b q n m he;omega
 lt b hb:=by
  obtain⟨v,L,hl,f,e⟩:=hb;rcases Ie hl with⟨_,hl⟩|⟨_,hl⟩
  .exact aO (j.gp.lt b ⟨v,L,hl,f,e⟩) j.pP.size
  .exact j.nh.lt b ⟨_,L,hl,f,e⟩
 nF b hb hF:=by
  obtain⟨v,L,hl,f,e⟩:=hb;rcases Ie hl with⟨_,hl⟩|⟨_,hl⟩
  .exact j.n1 b hF ⟨v,L,hl,f,e⟩
  .exact j.n2 b hF ⟨_,L,hl,f,e⟩
 kO b hb:=j.lt b hb
 out v k f:=by simp only[aq]at f;simp only[Ctx.join,if_neg (U:¬v<H.l)];exact j.nh.out _ k U
 mB v o k ho hk:=by
  rcases bB v H.l with f|f
  .rw[ah f]at ho;simp only[Ctx.join,if_pos f];exact j.gp.mB v o k ho hk
  .rw[ak f]at ho;simp only[Ctx.join,if_neg (fQ.2 f)];exact j.nh.mB _ o k ho hk
 ob v o ho:=by
  rcases bB v H.l with f|f
  .rw[ah f]at ho;simp only[Ctx.join,if_pos f];exact ik.keep (c:=c) (c':=c.join c2 H.l F) rfl (λ_ _ h=>YX j h) (λl hl A r=>j.pP.kept _ (j.gp.lt _ ⟨v,l,⟨o,ho,r,hl⟩,A,rfl⟩)) (j.gp.ob v o ho)
  .rw[ak f]at ho;simp only[Ctx.join,if_neg (fQ.2 f)];have h0:=j.nh.ob _ o ho;rcases j.rows _ o ho with⟨t,g,cs,rfl,s⟩|⟨kk,es,rfl,s⟩
   rotate_left
   .exact ik.ZJ h0 λx D u E=>s x D u E
   simp only[Ob.gen]at h0 ⊢
   cases y:c2.ι (v-H.l) g with
   | none=>rw[y]at h0;simp[ik]at h0
   | some L=>
    rw[y]at h0;simp only[ik]at h0 ⊢;split
    .grind
    .rename_i z;simp only[z]at h0;obtain⟨arr,h1,p,n,m⟩:=h0;refine⟨arr,h1,p,n,λi d r=>?_⟩;obtain⟨x,B,C,J⟩:=m i d r;exact⟨x,B,C,s d (b4 r) _ J⟩
 gl g cs hg:=by obtain⟨h1,p⟩:=j.gp.gl g cs hg;exact⟨h1,YX j p⟩
 rt:=j.gp.rt
theorem N9(j:zl G c c2 H Hn w w2 F):Step H.l c H w (c.join c2 H.l F) (H++Hn) w2 where
 os:=j.pP.os
 tape:=j.pP.tape
 output:=j.pP.output
 size:=j.pP.size
 RT:=rfl
 Fm b hb:=j.le b hb
 Fn b hb:=(j.new b hb).imp id .inl
 kept b hb _:=j.pP.kept b hb
 old v k L a h:=by simp only[Ctx.join,if_pos a];exact h
 own b hb:=by
  obtain⟨v,L,hl,a,e⟩:=hb;rcases Ie hl with⟨_,hl⟩|⟨_,hl⟩
  .exact .inr ⟨v,L,hl,a,e⟩
  .exact .inl (j.fresh b ⟨_,L,hl,a,e⟩)
theorem OX(j:zl G c c2 H Hn w w2 F){p:D->Bool}(n:∀d u,p d=bs->gj c2 w2 u d->gj (c.join c2 H.l F) w2 u d){u:cp}{r:D}
  (b:gj c2 w2 u r) (h:xA p r=bs):gj (c.join c2 H.l F) w2 u (kE H.l r):=by
 have o:∀v g sz off len u,gj c2 w2 u (.gf v g sz off len)->gj (c.join c2 H.l F) w2 u (.gf (v+H.l) g sz off len):=by
  intro v g sz off len u b
  cases b with
  | gf _ _ _ _ _ cap L l e s t q=>exact .gf _ g sz off len cap L (by simp only[Ctx.join];rw[if_neg U,eU];exact l) e s t q
  | lB _ _ _ _ L l a=>exact .lB _ g sz off L (by simp only[Ctx.join];rw[if_neg U,eU];exact l) a
 have h1:∀(d:D) (u:cp),yQ p d=bs->gj c2 w2 u d->gj (c.join c2 H.l F) w2 u (yH H.l d):=by intro d u f b;cases d<;>first|exact o _ _ _ _ _ _ b|exact n _ _ f b
 cases r with
 | gH v=>
  cases b with
  | gH _ L l e=>exact .gH _ L (by simp only[Ctx.join];rw[if_neg U,eU];exact l) e
 | tup ds=>
  cases b with
  | tup vs _ hl m=>
   simp only[kE];refine .tup vs _ (by simpa using hl) λi v d e f=>?_;simp only[ax,ao]at f;obtain⟨d0,k,rfl⟩:=f;exact h1 d0 v (bb.1 h d0 (b4 k)) (m i v d0 e k)
 | agg ds=>
  cases b with
  | agg vs _ hl x m=>
   simp only[kE];refine .agg vs _ (by simpa using hl) x λi v d e f=>?_;simp only[ax,ao]at f;obtain⟨d0,k,rfl⟩:=f;exact h1 d0 v (bb.1 h d0 (b4 k)) (m i v d0 e k)
 | gf v g sz off len=>exact o _ _ _ _ _ _ b
 | _=>exact n _ _ h b
def Ctx.data(c:Ctx)(F:Nat->Prop):Ctx where
 ι:=λ_ _=>cc
 F:=F
 RT:=c.RT
theorem MQ(h:gI G c H w):gI G (c.data c.F) [] w where
 inj v v' L L' h1:=by obtain⟨o,a,_⟩:=h1;simp at a
 lt b d:=by obtain⟨v,L,⟨o,a,_⟩,_⟩:=d;simp at a
 nF b d:=by obtain⟨v,L,⟨o,a,_⟩,_⟩:=d;simp at a
 kO b d:=h.kO b d
 out _ _ _:=rfl
 mB _ _ _ _ _:=rfl
 ob v o a:=by simp at a
 gl g cs hg:=by obtain⟨h1,e⟩:=h.gl g cs hg;exact⟨h1,gj.closed (c:=c) (c':=c.data c.F) (λb d=>d) e (by simpa[AL.closed]using h1)⟩
 rt:=h.rt
theorem uh{c:Ctx}{b:Nat}:¬l3 c [] b:=by rintro⟨v,L,⟨o,a,_⟩,_⟩;simp at a
theorem Bt{n:Nat}{c:Ctx}(hs:Step n c [] w c2 Hn w2):ko w w2:=
 ⟨hs.os,hs.tape,hs.output,hs.size,λb a=>hs.kept b a uh⟩
theorem Vi{o:Ob}(h:nN o=bs):(∃t g cs,o = .row t g cs/\∀d∈cs,closed d=bs)\/∃kk es,o = .map kk es/\∀x∈es,closed x.2=true:=by
 cases o<;>simp only[nN]at h<;>first|cases h;done|skip
 .exact .inl ⟨_,_,_,rfl,lP h⟩
 .exact .inr ⟨_,_,rfl,bb.1 h⟩
theorem Vj(h:Hn.all nN=bs){v:Nat}{o:Ob}(a:Hn[v]? = aE o):(∃t g cs,o = .row t g cs/\∀d∈cs,closed d=bs)\/∃kk es,o = .map kk es/\∀x∈es,closed x.2=true:=
 Vi (bb.1 h o (b4 a))
theorem WJ(h:Hn.all pv=bs){v:Nat}{o:Ob}(a:Hn[v]? = aE o):∃t g cs,o = .row t g cs/\∀d∈cs,flat d=true:=by
 have:=bb.1 h o (b4 a);cases o<;>simp only[pv]at this<;>first|cases this;done|skip
 refine⟨_,_,_,rfl,λd b=>?_⟩;obtain⟨i,hi⟩:=aD.1 b;exact DL this hi
def CU(P:eh)(G:GT)(f:dr)(args:List D)(H:gd)(d:D)(H':gd):Prop:=
 ∀(c:Ctx) (w:di) (vs:List cp),gI G c H w->jK c w vs args ->
  en P f vs.toArray w λe w'=>∃v c',e = .returned v/\gI G c' H' w'/\gj c' w' v d/\Step H.l c H w c' H' w'
def vc(P:eh)(G:GT)(f:dr)(args:List D)(H:gd)(R:D->gd->Prop):Prop:=
 ∀(c:Ctx) (w:di) (vs:List cp),gI G c H w->jK c w vs args ->
  en P f vs.toArray w λe w'=>∃v c' d H',e = .returned v/\R d H'/\H.l<=H'.l/\gI G c' H' w'/\gj c' w' v d/\Step H.l c H w c' H' w'
theorem vc.one{f:dr}{args:List D}{H:gd}{R:D->gd->Prop}{d:D}{H':gd}(h:vc P G f args H R)(h1:∀d' Hn,R d' Hn->d'=d/\Hn=H'):CU P G f args H d H':=
 λc w vs i g=>(h c w vs i g).mono λ_ _ ⟨v,c',_,_,j,k,_,a,b,e⟩=>jS
theorem TG:gw (λ_=>cc) H 40=gw (iR []) H 40:=rfl
theorem jK.map{c c':Ctx}{f:D->D}(b:∀v d,gj c w v d->gj c' w v (f d)){vs:List cp}{ds:List D}(h:jK c w vs ds):jK c' w vs (ds.map f):=by
 induction h with
 | nil=>exact .nil
 | cons h _ a=>exact .cons (b _ _ h) a
theorem aaq(gp:gI G c H w){f:dr}{vs:List cp}{args:List D}{d:D}(F:jK c w vs args)(A:CU P G f (args.map (gw (λ_=>cc) H 40)) [] d Hn)
  (n:(if gK args then mL d&&Hn.all nN else oR d&&Hn.all pv)=bs) :
  en P f vs.toArray w λe w'=>∃v c',e = .returned v/\gI G c' (H++Hn) w'/\gj c' w' v (kE H.l d)/\Step H.l c H w c' (H++Hn) w':=by
 by_cases s:gK args=bs
 .rw[if_pos s]at n;simp only[ai]at n
  have e:args.map (gw (λ_=>cc) H 40)=args:=by
   conv=>rhs;rw[<-aY args]
   exact au λd m=>p7 (lP s d m)
  rw[e]at A
  have B:jK (c.data c.F) w vs args:=by
   clear A n e
   induction F with
   | nil=>exact .nil
   | cons h _ J=>
    simp only[gK,ai]at s;exact .cons (gj.closed (c:=c) (c':=c.data c.F) (λb a=>a) h s.1) (J s.2)
  refine(A _ w vs (MQ gp) B).mono ?_;rintro e w' ⟨v,c2,E,z,C,r⟩;have hg:=Bt r
  have I:∀b,c2.F b->c.F b\/w.heap.size<=b:=λb a=>by
   rcases r.Fn b a with h|h|h
   .exact .inl h
   .exact .inr h
   .exact absurd h uh
  have j:zl G c c2 H Hn w w' c2.F:={
   gp:=gp
   nh:=z
   pP:=hg
   fresh:=λb a=>by
    rcases r.own b a with h|h
    .exact h
    .exact absurd h uh
   le:=λb a=>r.Fm b a
   lt:=z.kO
   n1:=λb a k=>by
    rcases I b a with h|h
    .exact gp.nF b k h
    .have:=gp.lt b k;omega
   n2:=λb a k=>z.nF b k a
   new:=I
   rows:=λv o k=>by
    rcases Vj n.2 k with⟨t,g,cs,rfl,y⟩|⟨kk,es,rfl,y⟩
    .exact .inl ⟨t,g,cs,rfl,λd m u l=>gj.closed (c:=c2) (c':=c.join c2 H.l c2.F) (λb a=>a) l (y d m)⟩
    .exact .inr ⟨kk,es,rfl,λx K u l=>gj.closed (c:=c2) (c':=c.join c2 H.l c2.F) (λb a=>a) l (y x K)⟩ }
  exact⟨v,_,E,N8 j,OX j (p:=AL.closed) (λd u m l=>gj.closed (c:=c2) (c':=c.join c2 H.l c2.F) (λb a=>a) l m) C n.1,N9 j⟩
 .rw[if_neg s]at n;simp only[ai]at n
  have B:jK (c.gw [] H) w vs (args.map (gw (λ_=>cc) H 40)):=F.map λv d h=>by rw[TG];exact AG gp 40 h
  have M:gI G (c.gw [] H) [] w:=E8 (ks:=[]) gp (λi j p q L=>by simp at L);refine(A _ w vs M B).mono ?_;rintro e w' ⟨v,c2,E,z,C,r⟩;have hg:=Bt r
  have j:zl G c c2 H Hn w w' c.F:={
   gp:=gp
   nh:=z
   pP:=hg
   fresh:=λb a=>by
    rcases r.own b a with h|h
    .exact h
    .exact absurd h uh
   le:=λb a=>a
   lt:=λb a=>aO (gp.kO b a) hg.size
   n1:=λb a k=>gp.nF b k a
   n2:=λb a k=>by
    rcases r.own b k with h|h
    .have:=gp.kO b a;omega
    .exact absurd h uh
   new:=λb a=>.inl a
   rows:=λv o k=>by
    obtain⟨t,g,cs,rfl,y⟩:=WJ n.2 k
    exact .inl ⟨t,g,cs,rfl,λd m u l=>gj.flat l (y d m)⟩ }
  exact⟨v,_,E,N8 j,OX j (p:=AL.flat) (λd u m l=>gj.flat l m) C n.1,N9 j⟩
theorem amP(gp:gI G c H w){f:dr}{vs:List cp}{args:List D}{R:D->gd->Prop}(I:jK c w vs args)(B:vc P G f (args.map (gw (λ_=>cc) H 40)) [] R)
  (l:∀d Hn,R d Hn->(if gK args then mL d&&Hn.all nN else oR d&&Hn.all pv)=bs) :
  en P f vs.toArray w λe w'=>∃v c' d Hn,e = .returned v/\R d Hn/\gI G c' (H++Hn) w'/\gj c' w' v (kE H.l d)/\Step H.l c H w c' (H++Hn) w':=by
 by_cases s:gK args=bs
 .simp only[if_pos s,ai]at l
  have e:args.map (gw (λ_=>cc) H 40)=args:=by
   conv=>rhs;rw[<-aY args]
   exact au λd n=>p7 (lP s d n)
  rw[e]at B
  have C:jK (c.data c.F) w vs args:=by
   clear B l e
   induction I with
   | nil=>exact .nil
   | cons h _ K=>
    simp only[gK,ai]at s;exact .cons (gj.closed (c:=c) (c':=c.data c.F) (λb a=>a) h s.1) (K s.2)
  refine(B _ w vs (MQ gp) C).mono ?_;rintro e w' ⟨v,c2,d,Hn,F,z,_,A,E,r⟩;have l:=l d Hn z;have hg:=Bt r
  have J:∀b,c2.F b->c.F b\/w.heap.size<=b:=λb a=>by
   rcases r.Fn b a with h|h|h
   .exact .inl h
   .exact .inr h
   .exact absurd h uh
  have j:zl G c c2 H Hn w w' c2.F:={
   gp:=gp
   nh:=A
   pP:=hg
   fresh:=λb a=>by
    rcases r.own b a with h|h
    .exact h
    .exact absurd h uh
   le:=λb a=>r.Fm b a
   lt:=A.kO
   n1:=λb a k=>by
    rcases J b a with h|h
    .exact gp.nF b k h
    .have:=gp.lt b k;omega
   n2:=λb a k=>A.nF b k a
   new:=J
   rows:=λv o k=>by
    rcases Vj l.2 k with⟨t,g,cs,rfl,y⟩|⟨kk,es,rfl,y⟩
    .exact .inl ⟨t,g,cs,rfl,λd n u m=>gj.closed (c:=c2) (c':=c.join c2 H.l c2.F) (λb a=>a) m (y d n)⟩
    .exact .inr ⟨kk,es,rfl,λx L u m=>gj.closed (c:=c2) (c':=c.join c2 H.l c2.F) (λb a=>a) m (y x L)⟩ }
  exact⟨v,_,d,Hn,F,z,N8 j,OX j (p:=AL.closed) (λd u n m=>gj.closed (c:=c2) (c':=c.join c2 H.l c2.F) (λb a=>a) m n) E l.1,N9 j⟩
 .simp only[if_neg s,ai]at l
  have C:jK (c.gw [] H) w vs (args.map (gw (λ_=>cc) H 40)):=I.map λv d h=>by rw[TG];exact AG gp 40 h
  have N:gI G (c.gw [] H) [] w:=E8 (ks:=[]) gp (λi j p q M=>by simp at M);refine(B _ w vs N C).mono ?_;rintro e w' ⟨v,c2,d,Hn,F,z,_,A,E,r⟩;have l:=l d Hn z;have hg:=Bt r
  have j:zl G c c2 H Hn w w' c.F:={
   gp:=gp
   nh:=A
   pP:=hg
   fresh:=λb a=>by
    rcases r.own b a with h|h
    .exact h
    .exact absurd h uh
   le:=λb a=>a
   lt:=λb a=>aO (gp.kO b a) hg.size
   n1:=λb a k=>gp.nF b k a
   n2:=λb a k=>by
    rcases r.own b k with h|h
    .have:=gp.kO b a;omega
    .exact absurd h uh
   new:=λb a=>.inl a
   rows:=λv o k=>by
    obtain⟨t,g,cs,rfl,y⟩:=WJ l.2 k
    exact .inl ⟨t,g,cs,rfl,λd n u m=>gj.flat m (y d n)⟩ }
  exact⟨v,_,d,Hn,F,z,N8 j,OX j (p:=AL.flat) (λd u n m=>gj.flat m n) E l.1,N9 j⟩
def Ctx.oC(c c2:Ctx)(n:Nat)(F:Nat->Prop):Ctx where
 ι:=λv g=>if v=n then c2.ι 0 g else c.ι v g
 F:=F
 RT:=c.RT
theorem IL{n:Nat}{ob:Ob}(f:H[n]? = aE .lT){F:Nat->Prop}{v:Nat}{L:Loc}(h:lM (c.oC c2 n F) (H.set n ob) v L):(v≠n/\lM c H v L)\/(v=n/\lM c2 [ob] 0 L):=by
 obtain⟨o,a,e,d⟩:=h;rw[sO (ae.1 f).1]at a
 by_cases b:v=n
 .subst b;rw[if_pos rfl]at a;cases a;simp only[Ctx.oC,if_true]at d;exact .inr ⟨rfl,ob,rfl,e,d⟩
 .rw[if_neg b]at a;simp only[Ctx.oC,if_neg b]at d;exact .inl ⟨b,o,a,e,d⟩
theorem amO(gp:gI G c H w){f:dr}{vs:List cp}{args:List D}{d:D}{ob:Ob}{n:Nat}(z:jK c w vs args)(Y:CU P G f (args.map (gw (λ_=>cc) H 40)) [] d [ob])
  (K:(if gK args then mL d&&nN ob else oR d&&pv ob)=bs) (J:H[n]? = aE .lT) :
  en P f vs.toArray w λe w'=>∃v c',e = .returned v/\gI G c' (H.set n ob) w'/\gj c' w' v (kE n d)/\Step H.l c H w c' (H.set n ob) w':=by
 have gM:=(ae.1 J).1;have XK:∀k,c.ι n k=none:=λk=>gp.mB n _ k J (.inl rfl)
 have E:∀(c2:Ctx) (w':di) (v:cp) (F:Nat->Prop),gI G c2 [ob] w'->gj c2 w' v d->ko w w'->(∀b,l3 c2 [ob] b->w.heap.size<=b)->(∀b,c.F b->F b)->(∀b,F b->b<w'.heap.size) ->
   (∀b,F b->¬l3 c H b)->(∀b,F b->¬l3 c2 [ob] b)->(∀b,F b->c.F b\/w.heap.size<=b)->∀(p:D->Bool),(∀d u,p d=bs->gj c2 w' u d->gj (c.oC c2 n F) w' u d)->xA p d=bs ->
   ((∃t g cs,ob = .row t g cs/\∀d∈cs,p d=bs)\/∃kk es,ob = .map kk es/\∀x∈es,p x.2=bs) ->
   gI G (c.oC c2 n F) (H.set n ob) w'/\gj (c.oC c2 n F) w' v (kE n d)/\Step H.l c H w (c.oC c2 n F) (H.set n ob) w':=by
  intro c2 w' v F nh m hg Rs T a5 yp HC mK p N y ic
  have carry:∀ {u:cp} {d:D},gj c w u d->gj (c.oC c2 n F) w' u d:=λh=>by
   refine h.carry (λv k L C=>?_) T (λb o M=>Gi (hg.kept b (gp.kO b M)));have ij:v≠n:=λe=>by rw[e,XK]at C;cases C
   simp only[Ctx.oC,if_neg ij];exact C
  have HJ:∀v g sz off len u,gj c2 w' u (.gf v g sz off len)->(v=0)->gj (c.oC c2 n F) w' u (.gf (v+n) g sz off len):=by
   intro v g sz off len u z h0;subst h0
   cases z with
   | gf _ _ _ _ _ cap L B m jE iO lV=>exact .gf _ g sz off len cap L (by simp only[Ctx.oC,aR,if_true];exact B) m jE iO lV
   | lB _ _ _ _ L B a=>exact .lB _ g sz off L (by simp only[Ctx.oC,aR,if_true];exact B) a
  have hz:∀v g sz off len u,gj c2 w' u (.gf v g sz off len)->v=0:=by
   intro v g sz off len u z
   have:∃L,c2.ι v g=aE L:=by
    cases z with
    | gf _ _ _ _ _ cap L B=>exact⟨L,B⟩
    | lB _ _ _ _ L B=>exact⟨L,B⟩
   obtain⟨L,C⟩:=this;rcases dQ v with h|h
   .exact h
   .rw[nh.out v g (by show 1<=v;exact h)]at C;cases C
  have a4:∀v u,gj c2 w' u (.gH v)->gj (c.oC c2 n F) w' u (.gH (v+n)):=by
   intro v u z
   cases z with
   | gH _ L B m=>
    have h0:v=0:=by
     rcases dQ v with h|h
     .exact h
     .rw[nh.out v 0 (by show 1<=v;exact h)]at B;cases B
    subst h0;exact .gH _ L (by simp only[Ctx.oC,aR,if_true];exact B) m
  have h1:∀(d:D) (u:cp),yQ p d=bs->gj c2 w' u d->gj (c.oC c2 n F) w' u (yH n d):=by intro d u y z;cases d<;>first|exact HJ _ _ _ _ _ _ z (hz _ _ _ _ _ _ z)|exact N _ _ y z
  refine⟨{
   inj:=λv v' L L' h1 A X W V=>by
    rcases IL J h1 with⟨a,b⟩|⟨a,b⟩<;>rcases IL J A with⟨a',Z⟩|⟨a',Z⟩
    .exact gp.inj v v' L L' b Z X W V
    .have:=gp.lt _ ⟨v,L,b,X,rfl⟩;have:=Rs _ ⟨_,L',Z,W,rfl⟩;omega
    .have:=gp.lt _ ⟨v',L',Z,W,rfl⟩;have:=Rs _ ⟨_,L,b,X,rfl⟩;omega
    .rw[a,a']
   lt:=λb r=>by
    obtain⟨v,L,hl,m,e⟩:=r;rcases IL J hl with⟨_,hl⟩|⟨_,hl⟩
    .exact aO (gp.lt b ⟨v,L,hl,m,e⟩) hg.size
    .exact nh.lt b ⟨_,L,hl,m,e⟩
   nF:=λb r M=>by
    obtain⟨v,L,hl,m,e⟩:=r;rcases IL J hl with⟨_,hl⟩|⟨_,hl⟩
    .exact yp b M ⟨v,L,hl,m,e⟩
    .exact HC b M ⟨_,L,hl,m,e⟩
   kO:=a5
   out:=λv k m=>by simp only[aw]at m;simp only[Ctx.oC,if_neg (U:¬v=n)];exact gp.out _ k m
   mB:=λv o k s hk=>by
    rw[sO gM]at s
    by_cases m:v=n
    .subst m;rw[if_pos rfl]at s;cases s;simp only[Ctx.oC,if_true];exact nh.mB 0 _ k rfl hk
    .rw[if_neg m]at s;simp only[Ctx.oC,if_neg m];exact gp.mB v o k s hk
   ob:=λv o s=>by
    rw[sO gM]at s
    by_cases m:v=n
    .subst m;rw[if_pos rfl]at s;cases s;simp only[Ctx.oC,if_true];have h0:=nh.ob 0 _ rfl;rcases ic with⟨t,g,cs,rfl,js⟩|⟨kk,es,rfl,js⟩
     rotate_left
     .exact ik.ZJ h0 λx hx u S=>N _ _ (js x hx) S
     simp only[Ob.gen]at h0 ⊢
     cases C:c2.ι 0 g with
     | none=>rw[C]at h0;simp[ik]at h0
     | some L=>
      rw[C]at h0;simp only[ik]at h0 ⊢;split
      .grind
      .rename_i oN;simp only[oN]at h0;obtain⟨arr,h1,A,X,W⟩:=h0;refine⟨arr,h1,A,X,λi d y=>?_⟩;obtain⟨x,lA,kR,B9⟩:=W i d y;exact⟨x,lA,kR,N d _ (js d (b4 y)) B9⟩
    .rw[if_neg m]at s;simp only[Ctx.oC,if_neg m];exact ik.keep (c:=c) (c':=c.oC c2 n F) rfl (λ_ _ h=>carry h) (λl hl lI y=>hg.kept _ (gp.lt _ ⟨v,l,⟨o,s,y,hl⟩,lI,rfl⟩)) (gp.ob v o s)
   gl:=λg cs hg=>by obtain⟨h1,A⟩:=gp.gl g cs hg;exact⟨h1,carry A⟩
   rt:=gp.rt },?_,?_⟩
  .cases d with
   | tup ds=>
    cases m with
    | tup vs _ hl xl=>
     simp only[kE];refine .tup vs _ (by simpa using hl) λi v d m Q=>?_;simp only[ax,ao]at Q;obtain⟨d0,R,rfl⟩:=Q;exact h1 d0 v (bb.1 y d0 (b4 R)) (xl i v d0 m R)
   | agg ds=>
    cases m with
    | agg vs _ hl s xl=>
     simp only[kE];refine .agg vs _ (by simpa using hl) s λi v d m Q=>?_;simp only[ax,ao]at Q;obtain⟨d0,R,rfl⟩:=Q;exact h1 d0 v (bb.1 y d0 (b4 R)) (xl i v d0 m R)
   | gf v g sz off len=>exact HJ _ _ _ _ _ _ m (hz _ _ _ _ _ _ m)
   | gH v=>exact a4 _ _ m
   | _=>exact N _ _ y m
  .exact{
    os:=hg.os
    tape:=hg.tape
    output:=hg.output
    size:=hg.size
    RT:=rfl
    Fm:=T
    Fn:=λb r=>(mK b r).imp id .inl
    kept:=λb r _=>hg.kept b r
    old:=λv k L m h=>by
     have ij:v≠n:=λe=>by rw[e,XK]at h;cases h
     simp only[Ctx.oC,if_neg ij];exact h
    own:=λb r=>by
     obtain⟨v,L,hl,m,e⟩:=r;rcases IL J hl with⟨_,hl⟩|⟨_,hl⟩
     .exact .inr ⟨v,L,hl,m,e⟩
     .exact .inl (Rs b ⟨_,L,hl,m,e⟩) }
 by_cases O:gK args=bs
 .simp only[if_pos O,ai]at K
  have e:args.map (gw (λ_=>cc) H 40)=args:=by
   conv=>rhs;rw[<-aY args]
   exact au λd y=>p7 (lP O d y)
  rw[e]at Y
  have vV:jK (c.data c.F) w vs args:=by
   clear Y K e
   induction z with
   | nil=>exact .nil
   | cons h _ ih=>
    simp only[gK,ai]at O;exact .cons (gj.closed (c:=c) (c':=c.data c.F) (λb r=>r) h O.1) (ih O.2)
  refine(Y _ w vs (MQ gp) vV).mono ?_;rintro e w' ⟨v,c2,V,A,m,I⟩;have hg:=Bt I
  have M:∀b,c2.F b->c.F b\/w.heap.size<=b:=λb r=>by
   rcases I.Fn b r with h|h|h
   .exact .inl h
   .exact .inr h
   .exact absurd h uh
  obtain⟨m1,m2,m3⟩:=E c2 w' v c2.F A m hg (λb r=>by
    rcases I.own b r with h|h
    .exact h
    .exact absurd h uh) (λb r=>I.Fm b r) A.kO (λb r s=>by
    rcases M b r with h|h
    .exact gp.nF b s h
    .have:=gp.lt b s;omega) (λb r s=>A.nF b s r) M AL.closed (λd u y S=>gj.closed (c:=c2) (c':=c.oC c2 n c2.F) (λb r=>r) S y) K.1 (by
    exact Vi K.2)
  exact⟨v,_,V,m1,m2,m3⟩
 .simp only[if_neg O,ai]at K
  have vV:jK (c.gw [] H) w vs (args.map (gw (λ_=>cc) H 40)):=z.map λv d h=>by rw[TG];exact AG gp 40 h
  have HE:gI G (c.gw [] H) [] w:=E8 (ks:=[]) gp (λi j p q N=>by simp at N);refine(Y _ w vs HE vV).mono ?_;rintro e w' ⟨v,c2,V,A,m,I⟩;have hg:=Bt I
  obtain⟨m1,m2,m3⟩:=E c2 w' v c.F A m hg (λb r=>by
    rcases I.own b r with h|h
    .exact h
    .exact absurd h uh) (λb r=>r) (λb r=>aO (gp.kO b r) hg.size) (λb r s=>gp.nF b s r) (λb r s=>by
    rcases I.own b s with h|h
    .have:=gp.kO b r;omega
    .exact absurd h uh) (λb r=>.inl r) AL.flat (λd u y S=>gj.flat S y) K.1 (by
    have:=K.2;cases ob<;>simp only[pv]at this<;>first|(cases this;done)|skip
    refine .inl ⟨_,_,_,rfl,λd y=>?_⟩;obtain⟨i,hi⟩:=aD.1 y
    exact DL this hi)
  exact⟨v,_,V,m1,m2,m3⟩
theorem am9{S:List Nat}{v:Nat}(c:v∈S):iR (mJ H S) v=none:=by
 unfold iR mJ;rw[dJ];intro p b;obtain⟨u,_,rfl⟩:=az.1 b
 by_cases a:u=v
 .grind
 .simp[a]
theorem aa1{v:Nat}:∀(k:Nat) (d:D),(∀u∈iB H k d,u=v)->AL.gw (iR (mJ H [v])) H k d=AL.gw (λ_=>cc) H k d
 | 0,d,_=>rfl
 | k+1,d,h=>by
  have i:iR (mJ H [v]) v=none:=am9 fZ
  have b:∀(ds:List D),(∀u∈(ds.map (iB H k)).flatten,u=v)->ds.map (AL.gw (iR (mJ H [v])) H k)=ds.map (AL.gw (λ_=>cc) H k):=λds o=>
   au λd f=>aa1 k d λu a=>o u (bk.2 ⟨_,az.2 ⟨d,f,rfl⟩,a⟩)
  unfold iB at h;unfold AL.gw
  by_cases r:AL.closed d=bs
  .grind
  .simp only[if_neg r]at h ⊢
   cases d with
   | agg cs=>simp only[b cs h]
   | tup cs=>simp only[b cs h]
   | gC cs=>simp only[b cs h]
   | sl sz es=>
    have:es.map (λx=>x.map (AL.gw (iR (mJ H [v])) H k))=es.map (λx=>x.map (AL.gw (λ_=>cc) H k)):=au λe q=>b e λu a=>h u (bk.2 ⟨_,az.2 ⟨e,q,rfl⟩,a⟩);simp only[this]
   | fn g x y=>
    have h1:=b x λu a=>h u (bz _ a);have s:=b y λu a=>h u (bL _ a);simp only[h1,s]
   | gf u g sz off len=>
    have a:u=v:=h u fZ;subst a;simp only[i]
    cases c:rowsOf H u with
    | none=>simp only[AJ,c]
    | some p=>
     obtain⟨t,n,cs⟩:=p;simp only[AJ,c]
     by_cases hg:n=g
     .simp only[hg,if_true]
      have:=b (cs.drop (off*sz)) λw m=>by obtain⟨l,hl,j⟩:=bk.1 m;obtain⟨d,f,rfl⟩:=az.1 hl;exact h w (by simp only[c];exact bf _ (bk.2 ⟨_,az.2 ⟨d,bt f,rfl⟩,j⟩))
      rw[this]
     .grind
   | ptr u g off=>
    have a:u=v:=h u fZ;subst a;simp only[i]
    cases c:rowsOf H u with
    | none=>simp only[AJ,c]
    | some p=>
     obtain⟨t,n,cs⟩:=p;simp only[AJ,c]
     by_cases hg:n=g
     .simp only[hg,if_true]
      have:=b (cs.drop off) λw m=>by obtain⟨l,hl,j⟩:=bk.1 m;obtain⟨d,f,rfl⟩:=az.1 hl;exact h w (by simp only[c];exact bf _ (bk.2 ⟨_,az.2 ⟨d,bt f,rfl⟩,j⟩))
      rw[this]
     .grind
   | gH u=>
    have a:u=v:=h u fZ;subst a;simp only[i]
   | iQ u=>
    have a:u=v:=h u fZ;subst a;simp only[i]
   | _=>rfl
theorem ag1(h:gI G c H w){v:Nat}{t:TypeId}{g:Nat}{cs:List D}(p:H[v]? = aE (.row t g cs)) :
  ∃c',gI G c' (H.set v .dead) w/\Step H.l c H w c' (H.set v .dead) w/\(∀u d,gj c w u d->gj c' w u d)/\∀b,(c.gw (mJ H [v]) H).F b->c'.F b:=by
 have E:=(ae.1 p).1
 have y:∀c':Ctx,(∀u k,c'.ι u k=c.ι u k)->∀u l,lM c' (H.set v .dead) u l->u≠v/\lM c H u l:=by
  rintro c' n u l ⟨o,i,z,hi⟩;rw[sO E]at i;split at i
  .cases i;cases z
  .rename_i m;exact⟨m,o,i,z,by rw[<-n];exact hi⟩
 let c':Ctx:={ c with F:=λb=>c.F b\/∃L,c.ι v g=aE L/\L.jN=ek/\L.b=b }
 have n:∀u k,c'.ι u k=c.ι u k:=λ_ _=>rfl;have B:∀u d,gj c w u d->gj c' w u d:=λu d R=>gj.carry (c:=c) (c':=c') (w:=w) (w':=w) (λ_ _ _ h=>h) (λb f=>Or.inl f) (λ_ _ _=>rfl) R;have J:∀b,l3 c' (H.set v .dead) b->l3 c H b:=λb ⟨u,l,hl,r⟩=>⟨u,l,(y c' n u l hl).2,r⟩
 refine⟨c',{
  inj:=λu O l Q h1 S=>h.inj u O l Q (y c' n _ _ h1).2 (y c' n _ _ S).2
  lt:=λb f=>h.lt b (J b f)
  nF:=λb f C=>by
   obtain⟨u,l,hl,K,e⟩:=f;obtain⟨m,M⟩:=y c' n u l hl;rcases C with C|⟨L,x,j,s⟩
   .exact h.nF b ⟨u,l,M,K,e⟩ C
   .exact m (h.inj u v l L M ⟨_,p,rfl,x⟩ K j (e.trans s.symm))
  kO:=λb f=>by
   rcases f with f|⟨L,x,j,s⟩
   .exact h.kO b f
   .exact s▸h.lt _ ⟨v,L,⟨_,p,rfl,x⟩,j,rfl⟩
  out:=λu k A=>h.out u k (by simpa using A)
  mB:=λu o k i q=>by
   rw[sO E]at i;split at i
   .cases i;rcases q with q|⟨q,_⟩<;>cases q
   .exact h.mB u o k i q
  ob:=λu o i=>by
   rw[sO E]at i;split at i
   .cases i;simp[ik]
   .exact ik.keep (c:=c) (c':=c') rfl B (λ_ _ _ _=>rfl) (h.ob u o i)
  gl:=λg cs hg=>let ⟨a,b⟩:=h.gl g cs hg;⟨a,B _ _ b⟩
  rt:=h.rt },?_,B,λb f=>?_⟩
 .exact{
   os:=⟨rfl,Nat.le_refl _⟩,tape:=rfl,output:=rfl,size:=Nat.le_refl _,RT:=rfl
   Fm:=λb f=>Or.inl f
   Fn:=λb f=>by
    rcases f with f|⟨L,x,j,s⟩
    .exact .inl f
    .exact .inr (.inr ⟨v,L,⟨_,p,rfl,x⟩,j,s⟩)
   kept:=λ_ _ _=>rfl
   old:=λ_ _ _ _ h=>h
   own:=λb f=>.inr (J b f) }
 .rcases f with f|⟨u,L,⟨o,i,z,I⟩,N,j,e⟩
  .exact .inl f
  .have A:u=v:=by
    by_cases m:u=v
    .exact m
    .exfalso;have P:=(ae.1 i).1
     have:iR (mJ H [v]) u=aE u:=Ts WU (by
      unfold mJ
      simp[P,m])
     rw[this]at N;cases N
   subst A;rw[p]at i;cases i;exact .inr ⟨L,I,j,e⟩
theorem amN(gp:gI G c H w){f:dr}{vs:List cp}{args:List D}{d:D}{v:Nat}(o:jK c w vs args)(hS:∀u∈(args.map (iB H 40)).flatten,u=v)(k:(rowsOf H v).isSome=bs)
  (n:CU P G f (args.map (AL.gw (λ_=>cc) H 40)) [] d []) (j:gK (args.map (AL.gw (λ_=>cc) H 40))=bs) (a:AL.closed d=bs) :
  en P f vs.toArray w λe w'=>∃u c',e = .returned u/\gI G c' (H.set v .dead) w'/\gj c' w' u d/\Step H.l c H w c' (H.set v .dead) w':=by
 have l:∃t g cs,H[v]? = aE (.row t g cs):=by
  unfold rowsOf at k;split at k
  .grind
  .cases k
 obtain⟨t,g,cs,l⟩:=l;obtain⟨p,k1,k2,k3,k4⟩:=ag1 gp l
 have m:jK p w vs (args.map (AL.gw (λ_=>cc) H 40)):=by
  have e:args.map (AL.gw (λ_=>cc) H 40)=args.map (AL.gw (iR (mJ H [v])) H 40):=
   au λd a=>(aa1 40 d λu s=>hS u (bk.2 ⟨_,az.2 ⟨d,a,rfl⟩,s⟩)).symm
  have i:=j;rw[e]at i ⊢;have h0:=o.map (c':=c.gw (mJ H [v]) H) (f:=AL.gw (iR (mJ H [v])) H 40) λ_ _ h=>AG gp 40 h;generalize args.map (AL.gw (iR (mJ H [v])) H 40)=as at h0 i;clear e j hS n o
  induction h0 with
  | nil=>exact .nil
  | cons h _ r=>
   simp only[gK,ai]at i;exact .cons (gj.closed (c:=c.gw (mJ H [v]) H) (c':=p) k4 h i.1) (r i.2)
 have z:(args.map (AL.gw (λ_=>cc) H 40)).map (AL.gw (λ_=>cc) (H.set v .dead) 40)=args.map (AL.gw (λ_=>cc) H 40):=by
  conv=>rhs;rw[<-aY (args.map (AL.gw (λ_=>cc) H 40))]
  exact au λd a=>p7 (lP j d a)
 have q:mL d=bs/\kE (H.set v .dead).l d=d:=by
  cases d<;>first|(cases a;done)|skip
  case tup ds=>
   simp only[AL.closed]at a;refine⟨?_,?_⟩
   .simp only[mL,xA,bb];intro x b;have:=lP a x b;cases x<;>first|rfl|exact this
   .simp only[kE];congr 1
    conv=>rhs;rw[<-aY ds]
    refine au λx b=>?_;have:=lP a x b;cases x<;>first|rfl|(cases this;done)
  case agg ds=>
   simp only[AL.closed]at a;refine⟨?_,?_⟩
   .simp only[mL,xA,bb];intro x b;have:=lP a x b;cases x<;>first|rfl|exact this
   .simp only[kE];congr 1
    conv=>rhs;rw[<-aY ds]
    refine au λx b=>?_;have:=lP a x b;cases x<;>first|rfl|(cases this;done)
  all_goals exact⟨a,rfl⟩
 refine(aaq k1 m (by rw[z];exact n) (by rw[if_pos j];simp[q.1])).mono ?_;rintro e w' ⟨u,c2,y,m1,m2,m3⟩;rw[aB]at m1 m3;rw[q.2]at m2;exact⟨u,c2,y,m1,m2,k2.trans m3 fZ⟩
end
def sQ(o:Nat)(xs cs:List D):List D:=cs.take o++xs++cs.drop (o+xs.l)
def TS{o:Nat}{xs cs:List D}(h:o+xs.l<=cs.l):(sQ o xs cs).l=cs.l:=by simp[sQ];omega
def I8{o:Nat}{xs cs:List D}(h:o+xs.l<=cs.l)(i:Nat):(sQ o xs cs)[i]? = if o<=i/\i<o+xs.l then xs[i-o]? else cs[i]? := by
 unfold sQ;have hl:(cs.take o).l=o:=gL
 by_cases h1:i<o
 .grind
 .grind
def y5(n:Nat):Dl->Option Nat
 | .no=>cc
 | .cells v _ _=>aE v
 | .obj v _=>aE v
 | .new _=>aE n
def TX:Dl->Ob->Ob
 | .no,o=>o
 | .cells _ o xs,.row t g cs=>.row t g (sQ o xs cs)
 | .cells _ _ _,o=>o
 | .obj _ ob,_=>ob
 | .new ob,_=>ob
abbrev lO(n:Nat)(δ:Dl)(H:gd):gd:=δ.app H (Al.lT H n)
def Dq(n:Nat)(δ:Dl)(H:gd)(x:Nat):(lO n δ H)[x]? = if y5 n δ=aE x then(H[x]?).map (TX δ)else H[x]? := by
 have a:∀(v:Nat) (ob:Ob) (f:Ob->Ob),(∀o,f o=ob)->(H.set v ob)[x]? = if aE v=aE x then(H[x]?).map f else H[x]? := jS
 cases δ with
 | no=>simp[lO,Dl.app,y5]
 | obj v ob=>exact a v ob _ λ_=>rfl
 | new ob=>exact a n ob _ λ_=>rfl
 | cells v o xs=>
  have c:y5 n (.cells v o xs)=aE v:=rfl
  by_cases e:v=x
  .subst e;rw[if_pos c];simp only[lO,Dl.app];split
   .rename_i t g cs b;rw[bT,if_pos rfl,if_pos (ae.1 b).1,b];rfl
   .rename_i d
    cases h:H[v]? with
    | none=>rfl
    | some ob=>
     cases ob<;>first|rfl|skip
     exact absurd h (d _ _ _)
  .rw[if_neg (by rw[c];simpa using e)];simp only[lO,Dl.app];split
   .grind
   .rfl
def Fits(n:Nat)(δ:Dl)(H:gd):Prop:=match δ with
 | .cells v o xs=>∃t g cs,H[v]? = aE (.row t g cs)/\o+xs.l<=cs.l
 | .new _=>H[n]? = aE .lT
 | _=>True
def zo{a b:List Fp}(h:uE a b=bs){x y:Fp}(d:x∈a)(c:y∈b):uD x y=true:=
 bb.1 (bb.1 h x d) y c
def UJ{n:Nat}{δ:Dl}{H:gd}{j:List Fp}(s:Fits n δ H)(h:uE (kd n δ) j=bs):uz j (lO n δ H) H:=by
 intro x b;obtain⟨u,r⟩:=x
 have z:∀v q,(v,q)∈kd n δ->y5 n δ=aE v:=by intro v q d;cases δ<;>simp only[kd,List.mem_singleton,eu]at d<;>first|(cases d;rfl)|cases d
 have c:y5 n δ≠aE u->(lO n δ H)[u]? = H[u]? := λk=>by rw[Dq,if_neg k]
 by_cases a:y5 n δ=aE u
 .cases r with
  | none=>
   exfalso
   cases δ with
   | no=>cases a
   | cells v o xs=>cases a;have:=zo h (x:=(u,aE (o,xs.l))) (by simp[kd]) b;simp[uD]at this
   | obj v ob=>cases a;have:=zo h (x:=(u,cc)) (by simp[kd]) b;simp[uD]at this
   | new ob=>cases a;have:=zo h (x:=(n,cc)) (by simp[kd]) b;simp[uD]at this
  | some q=>
   obtain⟨p,m⟩:=q
   cases δ with
   | no=>cases a
   | obj v ob=>cases a;exfalso;have:=zo h (x:=(u,cc)) (by simp[kd]) b;simp[uD]at this
   | new ob=>cases a;exfalso;have:=zo h (x:=(n,cc)) (by simp[kd]) b;simp[uD]at this
   | cells v o xs=>
    cases a;obtain⟨t,g,cs,h1,f⟩:=s;have w:=zo h (x:=(u,aE (o,xs.l))) (by simp[kd]) b;simp only[uD,bne_self_eq_false,er,bX,decide_eq_true_eq]at w;refine .inr ⟨t,g,sQ o xs cs,cs,?_,h1,TS f,λi l y=>?_⟩
    .simp[Dq,y5,h1,TX]
    .rw[I8 f,if_neg U]
 .have e:=c a
  cases r with
  | none=>exact e
  | some q=>exact .inl e
def aoe{o p:Nat}{xs c cs:List D}(h1:o+xs.l<=cs.l)(d:p+c.l<=cs.l)(h:o+xs.l<=p\/p+c.l<=o) :
  sQ o xs (sQ p c cs)=sQ p c (sQ o xs cs):=by
 apply bU;intro i;rw[I8 (by rw[TS d];exact h1),I8 d,I8 (by rw[TS h1];exact d),I8 h1]
 by_cases a:o<=i/\i<o+xs.l<;>by_cases b:p<=i/\i<p+c.l
 .omega
 .grind
 .grind
 .grind
def aoK{n m:Nat}{δ c:Dl}{H:gd}(j:Fits n δ H)(hg:Fits m c H)(h:uE (kd n δ) (kd m c)=bs):lO m c (lO n δ H)=lO n δ (lO m c H):=by
 apply bU;intro x;rw[Dq,Dq,Dq,Dq]
 by_cases a:y5 n δ=aE x<;>by_cases b:y5 m c=aE x
 .rw[if_pos a,if_pos b,if_pos b,if_pos a]
  have bad:∀ {P:Prop},(∃q r,(x,q)∈kd n δ/\(x,r)∈kd m c/\(q=cc\/r=cc))->P:=by
   rintro P ⟨q,r,h1,d,k⟩;have:=zo h h1 d;rcases k with rfl|rfl
   .simp[uD]at this
   .cases q<;>simp[uD]at this
  cases δ with
  | no=>cases a
  | obj v ob=>
   cases a
   cases c with
   | no=>cases b
   | cells v o xs=>cases b;exact bad ⟨cc,aE (o,xs.l),by simp[kd],by simp[kd],.inl rfl⟩
   | obj v ob=>cases b;exact bad ⟨cc,cc,by simp[kd],by simp[kd],.inl rfl⟩
   | new ob=>cases b;exact bad ⟨cc,cc,by simp[kd],by simp[kd],.inl rfl⟩
  | new ob=>
   cases a
   cases c with
   | no=>cases b
   | cells v o xs=>cases b;exact bad ⟨cc,aE (o,xs.l),by simp[kd],by simp[kd],.inl rfl⟩
   | obj v ob=>cases b;exact bad ⟨cc,cc,by simp[kd],by simp[kd],.inl rfl⟩
   | new ob=>cases b;exact bad ⟨cc,cc,by simp[kd],by simp[kd],.inl rfl⟩
  | cells v o xs=>
   cases a
   cases c with
   | no=>cases b
   | obj v ob=>cases b;exact bad ⟨aE (o,xs.l),cc,by simp[kd],by simp[kd],.inr rfl⟩
   | new ob=>cases b;exact bad ⟨aE (o,xs.l),cc,by simp[kd],by simp[kd],.inr rfl⟩
   | cells v p i=>
    cases b;obtain⟨t,g,cs,h1,d⟩:=j;obtain⟨s,w,u,e,l⟩:=hg;rw[h1]at e;cases e;have f:=zo h (x:=(x,aE (o,xs.l))) (y:=(x,aE (p,i.l))) (by simp[kd]) (by simp[kd]);simp only[uD,bne_self_eq_false,er,bX,decide_eq_true_eq]at f;simp only[h1,aH,TX];rw[aoe d l f]
 .grind
 .grind
 .grind
structure Rc where
 R:List Fp
 W:List Fp
inductive Out where
 | norm (s:St)
 | exit (id:Nat) (s:St)
 | ret (s:St)
inductive AY where
 | ops (l:List il) (s:St)
 | code (c:IR) (s:St)
 | loop (n:Nat) (live:List Nat) (a:IR) (s:St)
 | call (f:dr) (args:List D) (H:gd)
 | trace (l:List il) (s:St)
inductive ph where
 | out (o:Out)
 | tr (rs:List Rc) (s:St)
 | val (d:D) (H:gd)
def Out.stop:Out->Bool
 | .norm _=>ek
 | _=>bs
def wu(c:List (Nat×Nat))(rs:List Rc):Bool:=c.all λp=>match rs[p.1]?,rs[p.2]? with
 | some a,aE b=>uE a.W (b.R++b.W)&&uE b.W (a.R++a.W)
 | _,_=>ek
def yieldOf(env:gZ):iT->Option (Nat×List D)
 | .callv f args=>match ev env f with
  | .iQ v=>aE (v,args.map (ev env))
  | _=>cc
 | _=>cc
def Out.st:Out->St
 | .norm s=>s
 | .exit _ s=>s
 | .ret s=>s
def Out.AM:Out->qz
 | .norm _=>.ready
 | .exit id _=>.zD id
 | .ret _=>.Be
def AE(s:St):qz->Option Out
 | .ready=>aE (.norm s)
 | .busy=>cc
 | .Be=>aE (.ret s)
 | .zD id=>aE (.exit id s)
def kill:List Nat->gd->Option gd
 | [],H=>aE H
 | v::vs,H=>match H[v]? with
  | some .jH=>kill vs (H.set v .dead)
  | _=>cc
def finish(fn:jq)(own n:Nat):Out->Option (D×gd)
 | .norm s | .ret s=>match kill s.marks s.H with
  | some H=>match results fn { s with H:=H }with
   | some d=>aE (leave own n H d)
   | none=>cc
  | none=>cc
 | .exit _ _=>cc
def l4(id n:Nat)(live:List Nat):Out->Out
 | .norm s=>.norm (cut n live s)
 | .exit a s=>if a=id then .norm (cut n live s)else .exit a s
 | .ret s=>.ret s
def EN(n:Nat):D->Bool
 | .gf v _ _ _ _=>decide (v<n)
 | d=>closed d
def Ar(n:Nat):D->Bool
 | .agg ds=>ds.all (EN n)
 | d=>EN n d
inductive Ev(T:iF):AY->(ph->Prop)->Prop
 | mono {j R R'} (h:Ev T j R) (hi:∀r,R r->R' r):Ev T j R'
 | nil {s R} (h:R (.out (.norm s))):Ev T (.ops [] s) R
 | op {e r s d δ R} (hg:guardOf s.env.get e.guard=aE bs) (h:gW s.env.get s.H s.H.l e.op=aE (d,δ))
   (t:Ev T (.ops r { s with env:=put s.env e.dst d,H:=δ.app s.H (Al.last s.H) }) R):Ev T (.ops (e::r) s) R
 | CL {e r s d δ R} (hg:guardOf s.env.get e.guard=aE bs) (h:mH s.env.get s.H s.H.l e.op=aE (d,δ))
   (t:Ev T (.ops r { s with env:=put s.env e.dst d,H:=δ.app s.H (Al.last s.H) }) R):Ev T (.ops (e::r) s) R
 | off {e r s R} (hg:guardOf s.env.get e.guard=aE ek) (t:Ev T (.ops r { s with env:=put s.env e.dst (.val undef) }) R):Ev T (.ops (e::r) s) R
 | mj {l s R} (S:List Nat) (hm:s.marks.all (λv => !S.contains v)=bs) (t:Ev T (.ops l (mj S s)) R):Ev T (.ops l s) R
 | GN {c s R} (S:List Nat) (hm:s.marks.all (λv => !S.contains v)=bs) (t:Ev T (.code c (mj S s)) R):Ev T (.code c s) R
 | Qx {l s R} (live:List Nat) (t:Ev T (.ops l { s with env:=forget live s.env }) R):Ev T (.ops l s) R
 | DM {c s R} (live:List Nat) (t:Ev T (.code c { s with env:=forget live s.env }) R):Ev T (.code c s) R
 | Gg {e r s f args fn R1 R} (hg:guardOf s.env.get e.guard=aE bs) (hc:kC s.env.get e.op=aE (f,args)) (hf:T.fn f=aE fn) (hp:fn.full=ek)
   (h:Ev T (.call f (args.map (gw (λ_=>cc) s.H 40)) []) R1) (ha:∀d Hn,R1 (.val d Hn)->(after s e.dst args d Hn).isSome=bs)
   (t:∀d Hn s',R1 (.val d Hn)->after s e.dst args d Hn=aE s'->Ev T (.ops r s') R):Ev T (.ops (e::r) s) R
 | Gf {e r s f args fn R1 R} (hg:guardOf s.env.get e.guard=aE bs) (hc:kC s.env.get e.op=aE (f,args)) (hf:T.fn f=aE fn) (hp:fn.full=bs)
   (h:Ev T (.call f args s.H) R1) (t:∀d H',R1 (.val d H')->Ev T (.ops r { s with env:=put s.env e.dst d,H:=H' }) R):Ev T (.ops (e::r) s) R
 | Mu {e r s v args rf env0 Rd Ra Rb R} (hg:guardOf s.env.get e.guard=aE bs) (hc:yieldOf s.env.get e.op=aE (v,args)) (hv:s.H[v]? = aE (.iu rf env0 .ready)) (hR:T.round rf=aE Rd) (hl:args.l=Rd.params.l)
   (ha:Ev T (.code Rd.a { env:=uq Rd.params args env0,H:=s.H,iG:=bs }) Ra) (hn:∀o,Ra (.out o)->o.stop=ek/\∃lF,o.st.H[v]? = aE (.iu rf lF .ready))
   (hb:∀s1 lF,Ra (.out (.norm s1))->s1.H[v]? = aE (.iu rf lF .ready)->Ev T (.code Rd.b { s1 with H:=s1.H.set v (.iu rf lF .busy) }) Rb)
   (hm:∀o,Rb (.out o)->∃lQ,o.st.H[v]? = aE (.iu rf lQ .busy))
   (t:∀o lQ,Rb (.out o)->o.st.H[v]? = aE (.iu rf lQ .busy)->Ev T (.ops r { s with env:=put s.env e.dst (.b !o.stop),H:=o.st.H.set v (.iu rf lQ o.AM) }) R):Ev T (.ops (e::r) s) R
 | next {e r s x v m since seen kk es R} (hg:guardOf s.env.get e.guard=aE bs) (iz:e.op = .nextM x) (hx:ev s.env.get x = .ptr v 0 0) (hv:s.H[v]? = aE (.jo (.gH m) since seen)) (hm:s.H[m]? = aE (.map kk es)) (hs:es.l=since)
   (h0:(∀i,i<es.l->i∈seen)->Ev T (.ops r { s with env:=put s.env e.dst (.tup [.b ek]) }) R)
   (h1:∀i k d,es[i]? = aE (k,d)->i ∉ seen->Ev T (.ops r { s with env:=put s.env e.dst (.tup [.b bs,sM k,d]),H:=s.H.set v (.jo (.gH m) since (seen ++ [i])) }) R):Ev T (.ops (e::r) s) R
 | Jg {s R} (h:R (.tr [] s)):Ev T (.trace [] s) R
 | Ji {e r s d δ R1 R} (hg:guardOf s.env.get e.guard=aE bs) (h:gW s.env.get s.H s.H.l e.op=aE (d,δ))
   (t:Ev T (.trace r { s with env:=put s.env e.dst d,H:=δ.app s.H (Al.last s.H) }) R1) (k:∀rs s',R1 (.tr rs s')->R (.tr (⟨gT s.env.get s.H e.op,kd s.H.l δ⟩::rs) s')):Ev T (.trace (e::r) s) R
 | Jh {e r s R1 R} (hg:guardOf s.env.get e.guard=aE ek) (t:Ev T (.trace r { s with env:=put s.env e.dst (.val undef) }) R1) (k:∀rs s',R1 (.tr rs s')->R (.tr (⟨[],[]⟩::rs) s')):Ev T (.trace (e::r) s) R
 | Jc {e r s f args fn d R0 R1 R} (hg:guardOf s.env.get e.guard=aE bs) (hc:kC s.env.get e.op=aE (f,args)) (hf:T.fn f=aE fn) (hp:fn.full=ek)
   (h:Ev T (.call f (args.map (gw (λ_=>cc) s.H 40)) []) R0) (h0:∀d' Hn,R0 (.val d' Hn)->d'=d/\Hn = []) (hr:(if gK args then closed d else flat d)=bs)
   (t:Ev T (.trace r { s with env:=put s.env e.dst d }) R1) (k:∀rs s',R1 (.tr rs s')->R (.tr (⟨gT s.env.get s.H e.op,[]⟩::rs) s')):Ev T (.trace (e::r) s) R
 | Je {e r s f as args fn d ob R0 R1 R} (hg:guardOf s.env.get e.guard=aE bs) (iz:e.op = .callN f as) (ha:args=as.map (ev s.env.get)) (hf:T.fn f=aE fn) (hp:fn.full=ek)
   (h:Ev T (.call f (args.map (gw (λ_=>cc) s.H 40)) []) R0) (h0:∀d' Hn,R0 (.val d' Hn)->d'=d/\Hn = [ob]) (hr:(if gK args then mL d&&nN ob else oR d&&pv ob)=bs)
   (t:Ev T (.trace r { s with env:=put s.env e.dst (kE s.H.l d),H:=s.H ++ [ob] }) R1) (k:∀rs s',R1 (.tr rs s')->R (.tr (⟨gT s.env.get s.H e.op,[(s.H.l,cc)]⟩::rs) s')):Ev T (.trace (e::r) s) R
 | Jf {e r s f as args fn d v R0 R1 R} (hg:guardOf s.env.get e.guard=aE bs) (iz:e.op = .callN f as) (ha:args=as.map (ev s.env.get)) (hf:T.fn f=aE fn) (hp:fn.full=ek)
   (hS:∀u∈(args.map (iB s.H 40)).flatten,u=v) (hv:v∈(args.map (iB s.H 40)).flatten) (ig:(rowsOf s.H v).isSome=bs) (gQ:gK (args.map (gw (λ_=>cc) s.H 40))=bs)
   (h:Ev T (.call f (args.map (gw (λ_=>cc) s.H 40)) []) R0) (h0:∀d' Hn,R0 (.val d' Hn)->d'=d/\Hn = []) (hr:closed d=bs)
   (t:Ev T (.trace r { s with env:=put s.env e.dst d,H:=s.H.set v .dead }) R1) (k:∀rs s',R1 (.tr rs s')->R (.tr (⟨gT s.env.get s.H e.op,[(v,cc)]⟩::rs) s')):Ev T (.trace (e::r) s) R
 | Pv {e r s f as args fn d v ob R1 R} {R0:gd->ph->Prop} (hg:guardOf s.env.get e.guard=aE bs) (iz:e.op = .callN f as) (ha:args=as.map (ev s.env.get)) (hf:T.fn f=aE fn)
   (hv:v∈(args.map (iB s.H 40)).flatten) (ic:s.H[v]? = aE ob) (h:∀H:gd,H[v]? = aE ob->Ev T (.call f args H) (R0 H)) (h0:∀H:gd,∃F,∀d' Hn,R0 H (.val d' Hn)->d'=d/\Hn=H++F) (tO:Ar (v+1) d=bs)
   (t:Ev T (.trace r { s with env:=put s.env e.dst d }) R1) (k:∀rs s',R1 (.tr rs s')->R (.tr (⟨gT s.env.get s.H e.op,[]⟩::rs) s')):Ev T (.trace (e::r) s) R
 | mg {jQ l s R1 R} (t:Ev T (.trace l s) R1) (hp:∀rs s',R1 (.tr rs s')->wu jQ rs=bs/\R (.out (.norm s'))):Ev T (.code (.mg jQ l) s) R
 | mS {jQ l es s R1 R} (t:Ev T (.trace l s) R1) (hp:∀rs s',R1 (.tr rs s')->wu jQ rs=bs) (k:∀rs s',R1 (.tr rs s')->Ev T (.ops es s') R):Ev T (.code (.mS jQ l es) s) R
 | skip {s R} (h:R (.out (.norm s))):Ev T (.code .skip s) R
 | Gq {l s R} (h:Ev T (.ops l s) R):Ev T (.code (.ops l) s) R
 | seq {a b s R1 R} (h:Ev T (.code a s) R1) (k:∀s',R1 (.out (.norm s'))->Ev T (.code b s') R) (hs:∀o,R1 (.out o)->o.stop=bs->R (.out o)):Ev T (.code (.seq a b) s) R
 | cond {c a b s x R} (hc:ev s.env.get c = .val (.bool x)) (h:Ev T (.code (if x then a else b) s) R):Ev T (.code (.cond c a b) s) R
 | block {id live a s R1 R} (h:Ev T (.code a s) R1) (k:∀o,R1 (.out o)->R (.out (l4 id s.H.l live o))):Ev T (.code (.block id live a) s) R
 | loop {live a s R} (h:Ev T (.loop s.H.l live a { s with env:=forget live s.env }) R):Ev T (.code (.loop live a) s) R
 | Aq {n live a s R1 R} (h:Ev T (.code a s) R1) (k:∀s',R1 (.out (.norm s'))->Ev T (.loop n live a (cut n live s')) R) (hs:∀o,R1 (.out o)->o.stop=bs->R (.out o)):Ev T (.loop n live a s) R
 | oD {rf live x s f first cap fn R1 R} (hr:s.iG=ek) (hx:ev s.env.get x = .fn (.func f) first cap) (hf:T.fn f=aE fn) (hp:fn.full=bs)
   (h:Ev T (.call f (first ++ [.iQ (s.H.l+1)]++cap) (s.H ++ [.jH,.iu rf (forget live s.env) .ready])) R1)
   (k:∀d H',R1 (.val d H')->∃env st o,H'[s.H.l+1]? = aE (.iu rf env st)/\AE { s with H:=H'.set (s.H.l+1) .dead,marks:=s.H.l::s.marks } st=aE o/\R (.out o)):Ev T (.code (.oD rf live x) s) R
 | exit {id s R} (h:R (.out (.exit id s))):Ev T (.code (.exit id) s) R
 | ret {s R} (h:R (.out (.ret s))):Ev T (.code .ret s) R
 | call {f args H fn R1 R} (own:Nat) (hf:T.fn f=aE fn) (hl:args.l<=fn.ntmps) (h:Ev T (.code fn.body { env:=ti args,H:=H }) R1)
   (k:∀o,R1 (.out o)->∃d H',finish fn own H.l o=aE (d,H')/\R (.val d H')):Ev T (.call f args H) R
 | sort {f g fn sz v gen t H R} {α:Type} (fc:α->List D) (l:List α) (cf:α->α->Int) (hs:T.sort f=aE sz) (hg:T.fn g=aE fn) (hl:∀a∈l,(fc a).l=sz) (gQ:∀a∈l,gK (fc a)=bs) (h0:0<l.l) (w9:l.l<4611686018427387904)
   (EJ:∀x∈l,¬cf x x<0) (tr:∀x∈l,∀y∈l,∀z∈l,cf x y<0->cf y z<0->cf x z<0) (nt:∀x∈l,∀y∈l,∀z∈l,¬cf x y<0->¬cf y z<0->¬cf x z<0)
   (hc:∀x∈l,∀y∈l,Ev T (.call g [.agg (fc x),.agg (fc y)] []) (λr=>∃H',r = .val (.i (cf x y)) H')) (hv:H[v]? = aE (.row t gen (l.map fc).flatten))
   (k:∀l':List α,l'.Perm l->l'.Pairwise (λx y=>¬cf y x<0)->R (.val (.tup []) (H.set v (.row t gen (l'.map fc).flatten)))):Ev T (.call f [.gf v gen sz 0 l.l,.fn (.func g) [] []] H) R
 | Fe {f sz x H R} (hs:T.sort f=aE sz) (k:R (.val (.tup []) H)):Ev T (.call f [.gi,x] H) R
 | tm {f v gen t H R} (l:List Int) (hs:T.tm f=bs) (h0:0<l.l) (w9:l.l<4611686018427387904) (hv:H[v]? = aE (.row t gen (l.map λn=>D.i n)))
   (k:R (.val (.tup []) (H.set v (.row t gen ((l.mergeSort λx y=>decide (x<=y)).map λn=>D.i n))))):Ev T (.call f [.gf v gen 1 0 l.l] H) R
 | s6 {f v gen t zs H R} (l:List Int) (i:Nat) (hs:T.s6 f=bs) (hi:i<l.l) (hv:H[v]? = aE (.row t gen (l.map (λn=>D.i n)++zs)))
   (k:R (.val (.gf v gen 1 0 (l.l-1)) (H.set v (.row t gen ((l.take i++l.drop (i+1) ++ [0]).map (λn=>D.i n)++zs))))):Ev T (.call f [.gf v gen 1 0 l.l,.i i,.i ((i:Int)+1)] H) R
def mM(f:gZ):Option Nat->D->gZ
 | some k,d=>λt=>if k=t then d else f t
 | none,_=>f
def EY(env:Env)(dst:Option Nat)(d:D):(put env dst d).get=mM env.get dst d:=by
 cases dst with
 | none=>rfl
 | some k=>funext t;simp[put,Env.w7,mM]
def QI:Option (Nat×Bool)->List Nat
 | some (t,_)=>[t]
 | none=>[]
def looks(e:il):List Nat:=im e.op++QI e.guard
inductive Ef(C:Option (Nat×Ob)->dr->List D->D->gd->Prop)(f:gZ)(H:gd)(e:il)(n:Nat):Rc->D->Dl->Prop
 | op {d δ} (hg:guardOf f e.guard=aE bs) (h:gW f H n e.op=aE (d,δ)) (hf:Fits n δ H):Ef C f H e n ⟨gT f H e.op,kd n δ⟩ d δ
 | off (hg:guardOf f e.guard=aE ek):Ef C f H e n ⟨[],[]⟩ (.val undef) .no
 | call {g args d} (hg:guardOf f e.guard=aE bs) (hc:kC f e.op=aE (g,args))
   (h:C cc g (args.map (gw (λ_=>cc) H 40)) d []) (hr:(if gK args then closed d else flat d)=bs):Ef C f H e n ⟨gT f H e.op,[]⟩ d .no
 | callN {g as args d ob} (hg:guardOf f e.guard=aE bs) (iz:e.op = .callN g as) (ha:args=as.map (ev f))
   (h:C cc g (args.map (gw (λ_=>cc) H 40)) d [ob]) (hr:(if gK args then mL d&&nN ob else oR d&&pv ob)=bs) (hf:Fits n (.new ob) H):Ef C f H e n ⟨gT f H e.op,kd n (.new ob)⟩ (kE n d) (.new ob)
 | A' {g as args d v} (hg:guardOf f e.guard=aE bs) (iz:e.op = .callN g as) (ha:args=as.map (ev f)) (hS:∀u∈(args.map (iB H 40)).flatten,u=v) (hv:v∈(args.map (iB H 40)).flatten) (ig:(rowsOf H v).isSome=bs)
   (h:C cc g (args.map (gw (λ_=>cc) H 40)) d []) (gQ:gK (args.map (gw (λ_=>cc) H 40))=bs) (hr:closed d=bs):Ef C f H e n ⟨gT f H e.op,[(v,cc)]⟩ d (.obj v .dead)
 | A9 {g as args d v ob} (hg:guardOf f e.guard=aE bs) (iz:e.op = .callN g as) (ha:args=as.map (ev f)) (hv:v∈(args.map (iB H 40)).flatten) (ic:H[v]? = aE ob)
   (h:C (aE (v,ob)) g args d []):Ef C f H e n ⟨gT f H e.op,[]⟩ d .no
def guard_congr{f f':gZ}{g:Option (Nat×Bool)}(h:∀t∈QI g,f t=f' t):guardOf f g=guardOf f' g:=by
 cases g with
 | none=>rfl
 | some p=>simp only[guardOf,h p.1 (by simp[QI])]
def abR{x:Fp}{H1 H2:gd}(h:Alike x H1 H2):Alike x H2 H1:=by
 obtain⟨v,r⟩:=x
 cases r with
 | none=>exact h.symm
 | some q=>
  rcases h with h|⟨t,g,cs,ds,h1,e,d,c⟩
  .exact .inl h.symm
  .exact .inr ⟨t,g,ds,cs,e,h1,d.symm,λi a b=>(c i a b).symm⟩
def WI{n:Nat}{δ:Dl}{H H':gd}(h:uz (kd n δ) H H')(a:Fits n δ H):Fits n δ H':=by
 cases δ with
 | no=>trivial
 | obj v ob=>trivial
 | new ob=>
  have e:H[n]? = H'[n]? := h (n,cc) (by simp[kd]);show H'[n]? = aE .lT;rw[<-e];exact a
 | cells v o xs=>
  obtain⟨t,g,cs,h1,d⟩:=a;rcases h (v,aE (o,xs.l)) (by simp[kd])with h|⟨f,l,i,ds,b,c,k,j⟩
  .exact⟨t,g,cs,h▸h1,d⟩
  .rw[h1]at b;cases b;exact⟨t,g,ds,c,U⟩
def O0{H H':gd}{v:Nat}(h:Alike (v,cc) H H'):rowsOf H v=rowsOf H' v:=by have e:H[v]? = H'[v]? := h;simp only[rowsOf,e]
def Mw{f:gZ}{H:gd}{op:iT}{g:dr}{args:List D}(i:kC f op=aE (g,args)){H':gd}(h:uz (gT f H op) H H') :
  gT f H' op=gT f H op/\args.map (gw (λ_=>cc) H' 40)=args.map (gw (λ_=>cc) H 40):=by
 have key:∀args:List D,(∀v∈(args.map (iB H 40)).flatten,rowsOf H v=rowsOf H' v)->args.map (iB H' 40)=args.map (iB H 40)/\args.map (gw (λ_=>cc) H' 40)=args.map (gw (λ_=>cc) H 40):=by intro args j;have h1:∀d∈args,∀v∈iB H 40 d,rowsOf H v=rowsOf H' v:=λd e v c=>j v (bk.2 ⟨_,az.2 ⟨d,e,rfl⟩,c⟩);exact⟨au λd e=>(IS 40 d (h1 d e)).1,au λd e=>(IS 40 d (h1 d e)).2⟩
 cases op<;>first|(cases i;done)|skip
 case call k as=>
  cases i;obtain⟨a,b⟩:=key (as.map (ev f)) λv c=>O0 (h (v,cc) (az.2 ⟨v,c,rfl⟩));exact⟨by simp only[gT,a],b⟩
 case callN k as=>
  cases i;obtain⟨a,b⟩:=key (as.map (ev f)) λv c=>O0 (h (v,cc) (az.2 ⟨v,c,rfl⟩));exact⟨by simp only[gT,a],b⟩
 case callv k as=>
  simp only[gT,i]at h ⊢;obtain⟨a,b⟩:=key args λv c=>O0 (h (v,cc) (az.2 ⟨v,c,rfl⟩));exact⟨by rw[a],b⟩
def afj{f:gZ}{H H':gd}{op:iT}(a:kC f op=cc):gT f H' op=gT f H op:=by
 cases op<;>first|rfl|(cases a;done)|skip
 case callv=>simp only[gT,a]
 case len k x=>cases k<;>rfl
def acn{f:gZ}{H:gd}{n:Nat}{op:iT}{r:D×Dl}(h:gW f H n op=aE r):kC f op=none:=by cases op<;>first|rfl|cases h
variable{C:Option (Nat×Ob)->dr->List D->D->gd->Prop}
theorem Ef.local{f f':gZ}{H H':gd}{e:il}{n:Nat}{rc:Rc}{d:D}{δ:Dl}(h:Ef C f H e n rc d δ)(G:∀t∈looks e,f t=f' t)(j:uz (rc.R++rc.W) H H'):Ef C f' H' e n rc d δ:=by
 have h1:∀t∈im e.op,f t=f' t:=λt B=>G t (bz _ B);have q:guardOf f e.guard=guardOf f' e.guard:=guard_congr λt B=>G t (bL _ B)
 cases h with
 | op hg F A=>
  have k:gT f H e.op=gT f' H' e.op:=by rw[GL h1,afj (acn (by rw[<-UO h1];exact F))]
  rw[k];refine .op (q▸hg) ?_ (WI j.right A);rw[<-UO h1,<-abS (H1:=H) j.left];exact F
 | off hg=>exact .off (q▸hg)
 | call hg i o s=>
  obtain⟨a,b⟩:=Mw i j.left;have k:gT f H e.op=gT f' H' e.op:=by rw[<-a,GL h1]
  rw[k];exact .call (q▸hg) (by rw[<-Gh h1];exact i) (by rw[b];exact o) s
 | @callN g u args _ _ hg c m o s A=>
  have i:kC f e.op=aE (g,args):=by rw[c,m];rfl
  obtain⟨a,b⟩:=Mw i j.left;have k:gT f H e.op=gT f' H' e.op:=by rw[<-a,GL h1]
  rw[k];have l:kC f' e.op=aE (g,args):=by rw[<-Gh h1];exact i
  have r:args=u.map (ev f'):=by rw[c]at l;cases l;rfl
  exact .callN (q▸hg) c r (by rw[b];exact o) s (WI j.right A)
 | @A' g u args _ v hg c m hS z I o K s=>
  have i:kC f e.op=aE (g,args):=by rw[c,m];rfl
  obtain⟨a,b⟩:=Mw i j.left;have k:gT f H e.op=gT f' H' e.op:=by rw[<-a,GL h1]
  rw[k];have l:kC f' e.op=aE (g,args):=by rw[<-Gh h1];exact i
  have r:args=u.map (ev f'):=by rw[c]at l;cases l;rfl
  have w:(args.map (iB H' 40)).flatten=(args.map (iB H 40)).flatten:=by have p:=a;rw[c]at p;simp only[gT,<-m]at p;exact(ep (λx y h=>(Prod.mk.inj h).1)).1 p
  have E:rowsOf H v=rowsOf H' v:=O0 (j.right (v,cc) fZ);exact .A' (q▸hg) c r (by rw[w];exact hS) (by rw[w];exact z) (by rw[<-E];exact I) (by rw[b];exact o) (by rw[b];exact K) s
 | @A9 g u args _ v ob hg c m z J o=>
  have i:kC f e.op=aE (g,args):=by rw[c,m];rfl
  obtain⟨a,b⟩:=Mw i j.left;have k:gT f H e.op=gT f' H' e.op:=by rw[<-a,GL h1]
  have l:kC f' e.op=aE (g,args):=by rw[<-Gh h1];exact i
  have r:args=u.map (ev f'):=by rw[c]at l;cases l;rfl
  have w:(args.map (iB H' 40)).flatten=(args.map (iB H 40)).flatten:=by have p:=a;rw[c]at p;simp only[gT,<-m]at p;exact(ep (λx y h=>(Prod.mk.inj h).1)).1 p
  have E:H[v]? = H'[v]? := j.left (v,cc) (by rw[c];simp only[gT,<-m];exact az.2 ⟨v,z,rfl⟩);rw[k];exact .A9 (q▸hg) c r (by rw[w];exact z) (by rw[<-E];exact J) o
theorem Ef.fits{f:gZ}{H:gd}{e:il}{n:Nat}{rc:Rc}{d:D}{δ:Dl}(h:Ef C f H e n rc d δ):Fits n δ H/\rc.W=kd n δ:=by
 cases h with
 | op _ _ a=>exact⟨a,rfl⟩
 | off=>exact⟨trivial,rfl⟩
 | call=>exact⟨trivial,rfl⟩
 | callN _ _ _ _ _ a=>exact⟨a,rfl⟩
 | A'=>exact⟨trivial,rfl⟩
 | A9=>exact⟨trivial,rfl⟩
def yY(a b:il):Bool:=
 (match a.dst with|some k => !(looks b).contains k&&b.dst != aE k|none=>bs)&&(match b.dst with|some k => !(looks a).contains k|none=>bs)
def wx(a b:Rc):Bool:=uE a.W (b.R++b.W)&&uE b.W (a.R++a.W)
theorem abo{f:gZ}{dst:Option Nat}{d:D}{l:List Nat}(h:∀k,dst=aE k->k ∉ l):∀t∈l,mM f dst d t=f t:=by
 intro t a
 cases dst with
 | none=>rfl
 | some k=>
  simp only[mM];rw[if_neg];rintro rfl;exact h _ rfl a
theorem aot{f:gZ}{a b:Option Nat}{x y:D}(h:∀k,a=aE k->b≠aE k):mM (mM f a x) b y=mM (mM f b y) a x:=by
 cases a with
 | none=>rfl
 | some k=>
  cases b with
  | none=>rfl
  | some j=>
   have d:j≠k:=λe=>h k rfl (by rw[e]);funext t;simp only[mM]
   by_cases h1:j=t<;>by_cases c:k=t<;>simp[h1,c]
   exact absurd (h1.trans c.symm) d
theorem anY{a b:il}(h:yY a b=bs):(∀k,a.dst=aE k->k ∉ looks b)/\(∀k,b.dst=aE k->k ∉ looks a)/\(∀k,a.dst=aE k->b.dst≠aE k):=by
 unfold yY at h;simp only[ai]at h;refine⟨λk c=>?_,λk c=>?_,λk c=>?_⟩
 .have:=h.1;rw[c]at this;simp at this;exact this.1
 .have:=h.2;rw[c]at this;simpa using this
 .have:=h.1;rw[c]at this;simp at this;exact this.2
theorem swap{f:gZ}{H:gd}{a b:il}{n m:Nat}{g e:Rc}{x y:D}{δ c:Dl}(l:Ef C f H a n g x δ)(w:Ef C (mM f a.dst x) (lO n δ H) b m e y c)
  (hs:yY a b=bs) (d:wx g e=bs) :
  Ef C f H b m e y c/\Ef C (mM f b.dst y) (lO m c H) a n g x δ/\mM (mM f a.dst x) b.dst y=mM (mM f b.dst y) a.dst x/\lO m c (lO n δ H)=lO n δ (lO m c H):=by
 obtain⟨s1,r,q⟩:=anY hs;simp only[wx,ai]at d;obtain⟨p,j⟩:=l.fits;have k:Ef C f H b m e y c:=w.local (abo s1) (UJ p (by rw[<-j];exact d.1));obtain⟨o,i⟩:=k.fits;refine⟨k,l.local (λt v=>(abo r t v).symm) λz h=>abR (UJ o (by rw[<-i];exact d.2) z h),aot q,aoK p o ?_⟩;rw[<-j,<-i];simp only[uE,bb]at d ⊢;exactλu s z h=>d.1 u s z (bL _ h)
theorem Sy{o:Option D}{d:D}{δ:Dl}(h:lift o=aE (d,δ)):δ = .no:=by cases o<;>simp[lift]at h;exact h.2.symm
theorem Te{f:gZ}{H:gd}{e:il}{n:Nat}{rc:Rc}{d:D}{δ:Dl}(h:Ef C f H e n rc d δ)(a:IK e.op=bs):rc.R = []/\rc.W = []:=by
 cases h with
 | op hg c j=>
  cases b:e.op<;>rw[b]at c a<;>simp only[gW]at c<;>first|(cases a;done)|skip
  case len k x=>
   have:=Sy c;subst this;cases k<;>first|(cases a;done)|exact⟨rfl,rfl⟩
  all_goals
   have:=Sy c;subst this;exact⟨rfl,rfl⟩
 | off hg=>exact⟨rfl,rfl⟩
 | call hg g h i=>cases b:e.op<;>rw[b]at g a<;>first|(cases a;done)|(cases g;done)
 | callN _ b=>rw[b]at a;cases a
 | A' _ b=>rw[b]at a;cases a
 | A9 _ b=>rw[b]at a;cases a
theorem aax{f:gZ}{H:gd}{e:il}{n:Nat}{rc:Rc}{d:D}{δ:Dl}(h:Ef C f H e n rc d δ)(a:Tl e.op=bs):rc.W = []:=by
 by_cases g:IK e.op=bs
 .exact(Te h g).2
 .cases h with
  | op hg c i=>
   cases b:e.op<;>rw[b]at c a g<;>simp only[gW]at c<;>first|(cases a;done)|(exact absurd rfl g)|skip
   case call=>cases c
   case callv=>cases c
   all_goals
    have:=Sy c;subst this;rfl
  | off hg=>rfl
  | call=>rfl
  | callN _ b=>rw[b]at a;cases a
  | A' _ b=>rw[b]at a;cases a
  | A9=>rfl
theorem abe{f f':gZ}{H H':gd}{a b:il}{n m:Nat}{g e:Rc}{x y:D}{δ k:Dl}(j:Ef C f H a n g x δ)(i:Ef C f' H' b m e y k)(h:Ph a.op b.op=bs):wx g e=true:=by
 simp only[Ph,bX,ai]at h;rcases h with(h|h)|⟨h1,l⟩
 .obtain⟨d,c⟩:=Te j h;simp[wx,d,c,uE]
 .obtain⟨d,c⟩:=Te i h;simp[wx,d,c,uE]
 .simp[wx,aax j h1,aax i l,uE]
structure mN where
 k:Nat
 e:il
 n:Nat
 rc:Rc
inductive Tx(C:Option (Nat×Ob)->dr->List D->D->gd->Prop):gZ->gd->List mN->gZ->gd->Prop
 | nil {f H}:Tx C f H [] f H
 | cons {f H it r d δ f' H'} (h:Ef C f H it.e it.n it.rc d δ) (t:Tx C (mM f it.e.dst d) (lO it.n δ H) r f' H'):Tx C f H (it::r) f' H'
theorem Tx.each{f:gZ}{H:gd}{l:List mN}{f':gZ}{H':gd}(h:Tx C f H l f' H'):∀a∈l,∃f H d δ,Ef C f H a.e a.n a.rc d δ:=by
 induction h with
 | nil=>intro a b;cases b
 | cons h t c=>
  intro a b;rcases av.1 b with rfl|b
  .exact⟨_,_,_,_,h⟩
  .exact c a b
theorem Tx.front{a:mN}{post:List mN}{f':gZ}{H':gd}:∀ {pre:List mN} {f:gZ} {H:gd},Tx C f H (pre++a::post) f' H'->(∀p∈pre,yY p.e a.e=bs/\wx p.rc a.rc=bs) ->
  ∃d δ,Ef C f H a.e a.n a.rc d δ/\Tx C (mM f a.e.dst d) (lO a.n δ H) (pre++post) f' H'
 | [],f,H,h,_=>by
  cases h with
  | cons h t=>exact⟨_,_,h,t⟩
 | p::pre,f,H,h,ha=>by
  cases h with
  | @cons _ _ _ _ d δ _ _ h t=>
   obtain⟨y,b,i,j⟩:=Tx.front (pre:=pre) t λq k=>ha q (by simp[k]);obtain⟨s1,g,e,c⟩:=swap h i (ha p fZ).1 (ha p fZ).2;refine⟨y,b,s1,.cons g ?_⟩;rw[<-e,<-c];exact j
end Go.AL
namespace Go.AL
open Go
structure SX(G:GT)(N:Nat)(c:Ctx)(w:di)(f:gZ)(H:gd)(ms:List Nat)(a:Act):Prop where
 gp:gI G c H w
 env:lj c w f a
 size:N<=a.tmps.size
 marks:sq c ms a.defers
section
variable{P:eh}{G:GT}{c:Ctx}{w:di}{f:gZ}{H:gd}{ms:List Nat}{a:Act}{N:Nat}
theorem amQ{f:gZ}{a:Act}{c:Ctx}{w:di}(b:lj c w f a)(hN:N<=a.tmps.size){dst:Option Tmp}(g:tD N dst=bs){v:cp}{d:D}(i:gj c w v d) :
  lj c w (mM f dst d) (a.put dst v):=by
 cases dst with
 | none=>exact b
 | some t=>
  have h:t<a.tmps.size:=aO (by simpa[tD]using g) hN;intro k;simp only[mM,Act.put];split
  .simp_all
  .rename_i e;have:(a.tmps.setIfInBounds t v).getD k undef=a.tmps.getD k undef:=n9;rw[this];exact b k
theorem SX.next{c':Ctx}{w':di}{H':gd}(hs:SX G N c w f H ms a)(gp:gI G c' H' w')(e:Step H.l c H w c' H' w'){dst:Option Tmp}(i:tD N dst=bs)
  {v:cp} {d:D} (g:gj c' w' v d):SX G N c' w' (mM f dst d) H' ms (a.put dst v) where
 gp:=gp
 env:=amQ (lj.carry (λ_ _ h=>h.p8 hs.gp.toHeapOK e) hs.env) hs.size i g
 size:=by rw[aar];exact hs.size
 marks:=by
  rw[put_defers];refine hs.marks.mono λv L h=>e.old v 0 L ?_ h;rcases bB v H.l with b|b
  .exact b
  .rw[hs.gp.out v 0 b]at h;cases h
theorem abT{op:iT}{n b:Nat}{d:D}{δ:Dl}(h:gW f H n op=aE (d,δ))(a:∀ob,δ≠.new ob):gW f H b op=aE (d,δ):=by
 cases op<;>simp only[gW]at h ⊢ <;> first|exact h|skip
 case box=>
  unfold sY at h;split at h
  .grind
  .cases h
 case alloc=>cases h;exact absurd rfl (a _)
 case buildSl=>
  unfold zr at h;split at h
  .grind
  .cases h
 case mkmap=>cases h;exact absurd rfl (a _)
 case mksl=>
  unfold ER at h;split at h
  .grind
  .cases h
 case app=>
  unfold sX at h ⊢;split at h
  .grind
  .cases h
theorem Gk{d:D}(h:closed d=bs):mL d=bs/\kE H.l d=d:=by
 cases d<;>first|(cases h;done)|skip
 case tup ds=>
  have b:=lP h;refine⟨?_,?_⟩
  .simp only[mL,xA,bb];intro d a;have:=b d a;cases d<;>first|rfl|exact this
  .simp only[kE];congr 1
   conv=>rhs;rw[<-aY ds]
   refine au λd a=>?_;have:=b d a;cases d<;>first|(cases this;done)|rfl
 case agg ds=>
  have b:=lP h;refine⟨?_,?_⟩
  .simp only[mL,xA,bb];intro d a;have:=b d a;cases d<;>first|rfl|exact this
  .simp only[kE];congr 1
   conv=>rhs;rw[<-aY ds]
   refine au λd a=>?_;have:=b d a;cases d<;>first|(cases this;done)|rfl
 all_goals exact⟨h,rfl⟩
theorem Qw{d:D}(h:flat d=bs):oR d=bs/\kE H.l d=d:=by
 cases d<;>first|(cases h;done)|skip
 case tup ds=>
  have b:∀d∈ds,flat d=true:=λd a=>by obtain⟨i,hi⟩:=aD.1 a;exact DL h hi
  refine⟨?_,?_⟩
  .simp only[oR,xA,bb];intro d a;have:=b d a;cases d<;>first|rfl|exact this
  .simp only[kE];congr 1
   conv=>rhs;rw[<-aY ds]
   refine au λd a=>?_;have:=b d a;cases d<;>first|(cases this;done)|rfl
 case agg ds=>
  have b:∀d∈ds,flat d=true:=λd a=>by obtain⟨i,hi⟩:=aD.1 a;exact DL h hi
  refine⟨?_,?_⟩
  .simp only[oR,xA,bb];intro d a;have:=b d a;cases d<;>first|rfl|exact this
  .simp only[kE];congr 1
   conv=>rhs;rw[<-aY ds]
   refine au λd a=>?_;have:=b d a;cases d<;>first|(cases this;done)|rfl
 all_goals exact⟨h,rfl⟩
inductive Low(n:Nat):D->Prop
 | any:Low n .any
 | val (v:cp):Low n (.val v)
 | gi:Low n .gi
 | kW (vs:List cp):Low n (.kW vs)
 | agg {ds:List D} (h:∀(i:Nat) (d:D),ds[i]? = aE d->Low n d):Low n (.agg ds)
 | tup {ds:List D} (h:∀(i:Nat) (d:D),ds[i]? = aE d->Low n d):Low n (.tup ds)
 | sl {sz:Nat} {es:List (List D)} (h:∀(i:Nat) (e:List D) (j:Nat) (d:D),es[i]? = aE e->e[j]? = aE d->Low n d):Low n (.sl sz es)
 | gf {v g sz off len:Nat} (h:v<n):Low n (.gf v g sz off len)
 | ptr {v g off:Nat} (h:v<n):Low n (.ptr v g off)
 | gC {cs:List D} (h:∀(j:Nat) (d:D),cs[j]? = aE d->Low n d):Low n (.gC cs)
 | gH {v:Nat} (h:v<n):Low n (.gH v)
 | fn {f:Fn} {df dc:List D} (h1:∀(i:Nat) (d:D),df[i]? = aE d->Low n d) (h2:∀(i:Nat) (d:D),dc[i]? = aE d->Low n d):Low n (.fn f df dc)
 | iQ {v:Nat} (h:v<n):Low n (.iQ v)
theorem Ni{α a:Type}{l:List α}{m:List a}(h:l.l=m.l){i:Nat}{d:a}(b:m[i]? = aE d):∃v,l[i]? = aE v:=by have:=(ae.1 b).1;exact⟨l[i],List.getElem?_eq_getElem U⟩
theorem gj.low{c:Ctx}{w:di}{n:Nat}(C:∀v k,n<=v->c.ι v k=cc){u:cp}{d:D}(h:gj c w u d):Low n d:=by
 have lt:∀ {v k:Nat} {L:Loc},c.ι v k=aE L->v<n:=λ{v k L} h=>by
  rcases bB v n with r|r
  .exact r
  .rw[C v k r]at h;cases h
 induction h with
 | any=>exact .any
 | val v=>exact .val v
 | agg vs ds hl h1 h p=>exact .agg λi d l=>by obtain⟨v,q⟩:=Ni hl l;exact p i v d q l
 | tup vs ds hl h p=>exact .tup λi d l=>by obtain⟨v,q⟩:=Ni hl l;exact p i v d q l
 | sl a len cap sz es g s G H I F E B p=>exact .sl λi e j d h1 t=>p i e j d h1 t
 | gi=>exact .gi
 | kW a vs=>exact .kW vs
 | gf v k sz off len cap L m=>exact .gf (lt m)
 | lB v k sz off L m=>exact .gf (lt m)
 | ptr v k off L m=>exact .ptr (lt m)
 | gC b o cs g J E B p=>exact .gC λj d h=>p j d h
 | gH v L m=>exact .gH (lt m)
 | fn f fs cs K M z A h1 t y x=>exact .fn (λi d l=>by obtain⟨v,q⟩:=Ni z l;exact y i v d q l) λi d l=>by obtain⟨v,q⟩:=Ni A l;exact x i v d q l
 | iQ v L m=>exact .iQ (lt m)
def Ctx.low(c:Ctx)(n:Nat):Ctx:={ c with ι:=λv k=>if v<n then c.ι v k else cc }
theorem uY{c:Ctx}{n v k:Nat}(h:v<n):(c.low n).ι v k=c.ι v k:=if_pos h
theorem gj.toLow{c:Ctx}{w:di}{n:Nat}{u:cp}{d:D}(h:gj c w u d):Low n d->gj (c.low n) w u d:=by
 induction h with
 | any v=>exactλ_=>.any v
 | val v=>exactλ_=>.val v
 | agg vs ds hl h1 h p=>intro l;cases l with|agg r=>exact .agg vs ds hl h1 λi v d a b=>p i v d a b (r i d b)
 | tup vs ds hl h p=>intro l;cases l with|tup r=>exact .tup vs ds hl λi v d a b=>p i v d a b (r i d b)
 | sl a len cap sz es g t z s G y x H p=>intro l;cases l with|sl r=>exact .sl a len cap sz es g t z s G y x λi e j d a b=>p i e j d a b (r i e j d a b)
 | gi=>exactλ_=>.gi
 | kW a vs s y x=>exactλ_=>.kW a vs s y x
 | gf v k sz off len cap L m q z s C=>intro l;cases l with|gf h=>exact .gf v k sz off len cap L ((uY h).trans m) q z s C
 | lB v k sz off L m a=>intro l;cases l with|gf h=>exact .lB v k sz off L ((uY h).trans m) a
 | ptr v k off L m q=>intro l;cases l with|ptr h=>exact .ptr v k off L ((uY h).trans m) q
 | gC b o cs g I x H p=>intro l;cases l with|gC r=>exact .gC b o cs g I x λj d h=>p j d h (r j d h)
 | gH v L m q=>intro l;cases l with|gH h=>exact .gH v L ((uY h).trans m) q
 | fn f fs cs M N E F h1 O B A=>intro l;cases l with|fn K J=>exact .fn f fs cs M N E F (λi v d a b=>B i v d a b (K i d b)) λi v d a b=>A i v d a b (J i d b)
 | iQ v L m q=>intro l;cases l with|iQ h=>exact .iQ v L ((uY h).trans m) q
theorem aaD{c:Ctx}{w:di}{n m:Nat}(p:n<=m){u:cp}{d:D}(h:gj c w u d)(hl:EN n d=bs):gj (c.low m) w u d:=by
 cases d with
 | gf v g sz off len=>
  have f:v<m:=by simp only[EN,decide_eq_true_eq]at hl;omega
  cases h with
  | gf _ _ _ _ _ cap L e j k l i=>exact .gf v g sz off len cap L ((uY f).trans e) j k l i
  | lB _ _ _ _ L e a=>exact .lB v g sz off L ((uY f).trans e) a
 | _=>exact gj.closed (c:=c) (c':=c.low m) (λb o=>o) h hl
theorem am4{c:Ctx}{w:di}{n m:Nat}(e:n<=m){u:cp}{d:D}(h:gj c w u d)(hl:Ar n d=bs):gj (c.low m) w u d:=by
 cases d with
 | agg ds=>
  simp only[Ar,bb]at hl
  cases h with
  | agg vs _ h0 h1 h=>exact .agg vs ds h0 h1 λi v d a b=>aaD e (h i v d a b) (hl d (b4 b))
 | _=>exact aaD e h hl
theorem aoo{G:GT}{P c:Ctx}{S w:di}{H F:gd}(h0:gI G P H S)(h:gI G c (H++F) w):gI G (c.low H.l) H w:=by
 have J:∀ {v:Nat} {o:Ob},H[v]? = aE o->v<H.l:=λh=>(ae.1 h).1;have R:∀ {v:Nat} {o:Ob},H[v]? = aE o->(H++F)[v]? = aE o:=λh=>by rw[ah (J h)];exact h
 have M:∀ {v:Nat} {L:Loc},lM (c.low H.l) H v L->lM c (H++F) v L:=λ{v L} ⟨o,h1,B,X⟩=>⟨o,R h1,B,by rw[uY (J h1)]at X;exact X⟩;have T:∀ {b:Nat},l3 (c.low H.l) H b->l3 c (H++F) b:=λ⟨v,L,h1,B⟩=>⟨v,L,M h1,B⟩;have E:∀ {u:cp} {d:D},gj P S u d->Low H.l d:=λhr=>hr.low h0.out;refine⟨⟨λv v' L A h1 B=>h.inj v v' L A (M h1) (M B),λb O=>h.lt b (T O),λb O=>h.nF b (T O),h.kO,λv k hv=>if_neg U,λv o k z hk=>?_,λv o z=>?_⟩,λg cs hg=>?_,h.rt⟩
 .rw[uY (J z)];exact h.mB v o k (R z) hk
 .rw[uY (J z)];have a:=h.ob v o (R z);have b:=h0.ob v o z;revert a b;generalize c.ι v o.gen=x;generalize P.ι v o.gen=y
  cases o with
  | dead=>intro _ _;trivial
  | lT=>exactλa _=>a
  | row t g cs=>
   cases x with
   | none=>exactλa=>a.elim
   | some L=>
    cases y with
    | none=>exactλ_ b=>b.elim
    | some A=>
     intro a b;simp only[ik]at a b ⊢
     by_cases W:L.jN=bs
     .rw[if_pos W]at a ⊢;exact a
     .rw[if_neg W]at a ⊢;obtain⟨arr,q,n,l,j⟩:=a;refine⟨arr,q,n,l,λi d I=>?_⟩;obtain⟨v,v1,v2,v3⟩:=j i d I;refine⟨v,v1,v2,v3.toLow ?_⟩
      by_cases Xj:A.jN=bs
      .rw[if_pos Xj]at b;rw[b]at I;simp at I
      .rw[if_neg Xj]at b;obtain⟨_,_,_,_,C⟩:=b;obtain⟨_,_,_,r⟩:=C i d I;exact E r
  | map kk es=>
   cases x with
   | none=>exactλa=>a.elim
   | some L=>
    cases y with
    | none=>exactλ_ b=>b.elim
    | some A=>
     rintro⟨q,n,arr,f,l,j,Q,a6⟩ ⟨Z,b2,V,c5,K,C,Y,b6⟩;refine⟨q,n,arr,f,l,j,λi e x he N=>?_,a6⟩;obtain⟨q1,q2,q3⟩:=Q i e x he N;refine⟨q1,q2.toLow ?_,q3⟩;have hi:i<V.size:=by rw[C];exact(ae.1 N).1
     obtain⟨_,r,_⟩:=Y i V[i] x (bR hi) N;exact E r
  | iu rf env st=>
   cases x with
   | none=>exactλa=>a.elim
   | some L=>
    cases y with
    | none=>exactλ_ b=>b.elim
    | some A=>
     rintro⟨q,r,n,l,j,Q⟩ ⟨Z,r',b2,K,C,Y⟩;exact⟨q,r,n,λk=>(l k).toLow (E (K k)),j,Q⟩
  | sh s p=>
   cases x with
   | none=>exactλa=>a.elim
   | some L=>exactλa _=>a
  | jo m since seen=>
   cases x with
   | none=>exactλa=>a.elim
   | some L=>
    cases y with
    | none=>exactλ_ b=>b.elim
    | some A=>
     rintro⟨q,n,bm,l,j⟩ ⟨Z,b2,c3,K,C⟩;exact⟨q,n,bm,l.toLow (E K),j⟩
  | jH=>
   cases x with
   | none=>exactλa=>a.elim
   | some L=>exactλa _=>a
 .obtain⟨q1,q2⟩:=h.gl g cs hg;exact⟨q1,q2.toLow (E (h0.gl g cs hg).2)⟩
theorem aoq{n:Nat}{c c':Ctx}{w w':di}{H F:gd}(i:n<=H.l)(h:Step n c H w c' (H++F) w'):Step n c H w (c'.low H.l) H w':=
 ⟨h.os,h.tape,h.output,h.size,h.RT,h.Fm,h.Fn,h.kept,λv k L d e=>(uY U).trans (h.old v k L d e),λb ⟨v,L,⟨o,h1,g,a⟩,f⟩=>h.own b ⟨v,L,⟨o,by rw[ah (ae.1 h1).1];exact h1,g,by rw[uY (ae.1 h1).1]at a;exact a⟩,f⟩⟩
variable{C:Option (Nat×Ob)->dr->List D->D->gd->Prop}
def CC(P:eh)(G:GT)(x:Option (Nat×Ob))(g:dr)(args:List D)(d:D)(Hn:gd):Prop:=vq P g=bs/\match x with
 | none=>CU P G g args [] d Hn
 | some (v,ob)=>Ar (v+1) d=bs/\∀H:gd,H[v]? = aE ob->∃F,CU P G g args H d (H++F)
theorem VP(V:∀x g args d Hn,C x g args d Hn->CC P G x g args d Hn)(hs:SX G N c w f H ms a){A:Array Oper}{o:Oper}{e:il}{i:Nat}(hA:A[i]? = aE o)
  (ho:wW P G N A o=aE e) {n:Nat} {rc:Rc} {d:D} {δ:Dl} (hE:Ef C f H e n rc d δ) {B:Option Nat} {m:Nat} {Q:Exit->Act->di->Prop} {K:Act->di->Prop}
  (k:∀c' w' a',SX G N c' w' (mM f e.dst d) (lO n δ H) ms a'->Step H.l c H w c' (lO n δ H) w'->K a' w'):wpOpIn (FW B) m P A Q i K a w:=by
 obtain⟨s1,p,O,M⟩:=zB ho;unfold wpOpIn;simp only[hA]
 cases hE with
 | op hg h X=>
  have q:=uw hs.env M hg;have s1:=Vr s1 h;simp only[q,if_true]
  have y:∀ {al:Al},np H al->gW f H al.1 e.op=aE (d,δ)->δ.app H al=lO n δ H->o.wpIn (FW B) m P a w K Q:=by
   intro al iy h Y;obtain⟨v,w',S,d',H',c',⟨rfl,rfl⟩,gp,s,l⟩:=aao (P:=P) (K:=λd' H'=>d'=d/\H'=δ.app H al) hs.gp hs.env iy s1 (UP h ⟨rfl,rfl⟩);refine⟨λ_ _=>trivial,?_⟩;rw[dx (FW B) a.eval o (Aw s1)];rw[Y]at gp l;have j:=hs.next gp l O s
   rw[<-p]at j;have Z:=k c' w' _ j l;rw[p]at Z;rcases S with S|⟨S,rfl⟩
   .rw[S];exact Z
   .rw[S];exact Z
  by_cases mK:∃ob,δ = .new ob
  .obtain⟨ob,rfl⟩:=mK;exact y (al:=Al.lT H n) (np.lT X) h rfl
  .have xg:∀ob,δ≠.new ob:=λob e=>mK ⟨ob,e⟩;refine y (al:=Al.last H) (np.last H) (abT h xg) ?_;cases δ<;>first|rfl|exact absurd rfl (xg _)
 | off hg=>
  have q:=uw hs.env M hg;simp only[q,bC,if_false];refine⟨λ_ _=>trivial,?_⟩;have j:=hs.next hs.gp (Step.refl _ _ _ _) O (v:=undef) (d:=.val undef) (.val _)
  rw[<-p]at j;have:=k c w _ j (Step.refl _ _ _ _);rw[p]at this;exact this
 | @call g args d hg r h s=>
  have q:=uw hs.env M hg;have s1:=DA s1 r;simp only[q,if_true];obtain⟨I,t⟩:=V _ _ _ _ _ h;obtain⟨vs,L,J⟩:=IY hs.gp hs.env s1 r I
  have jC:(if gK args then mL d&&([]:gd).all nN else oR d&&([]:gd).all pv)=bs/\kE H.l d=d:=by
   by_cases W:gK args=bs
   .rw[if_pos W]at s ⊢;obtain⟨a,b⟩:=Gk (H:=H) s;exact⟨by simp[a],b⟩
   .rw[if_neg W]at s ⊢;obtain⟨a,b⟩:=Qw (H:=H) s;exact⟨by simp[a],b⟩
  have z:=aaq hs.gp J t jC.1;rw[jC.2,aB]at z;refine⟨λ_ _=>trivial,?_⟩;rw[dx (FW B) a.eval o (Aw s1),L];refine⟨λh=>by simp[Fence.wide]at h,Du.2 (z.mono ?_)⟩;rintro e' w' ⟨v,c',rfl,gp,E,l⟩;have j:=hs.next gp l O E
  rw[<-p]at j;have:=k c' w' _ j l;rw[p]at this;exact this
 | @callN g as args d ob hg R T h s X=>
  have q:=uw hs.env M hg;simp only[q,if_true];have r:kC f e.op=aE (g,args):=by rw[R,T];rfl
  have s1:=DA s1 r;obtain⟨I,t⟩:=V _ _ _ _ _ h;obtain⟨vs,L,J⟩:=IY hs.gp hs.env s1 r I;have z:=amO hs.gp J t s X;refine⟨λ_ _=>trivial,?_⟩;rw[dx (FW B) a.eval o (Aw s1),L];refine⟨λh=>by simp[Fence.wide]at h,Du.2 (z.mono ?_)⟩;rintro e' w' ⟨v,c',rfl,gp,E,l⟩;have j:=hs.next gp l O E
  rw[<-p]at j;have:=k c' w' _ j l;rw[p]at this;exact this
 | @A' g as args d v hg R T hS hv ig h W s=>
  have q:=uw hs.env M hg;simp only[q,if_true];have r:kC f e.op=aE (g,args):=by rw[R,T];rfl
  have s1:=DA s1 r;obtain⟨I,t⟩:=V _ _ _ _ _ h;obtain⟨vs,L,J⟩:=IY hs.gp hs.env s1 r I;have z:=amN hs.gp J hS ig t W s;refine⟨λ_ _=>trivial,?_⟩;rw[dx (FW B) a.eval o (Aw s1),L];refine⟨λh=>by simp[Fence.wide]at h,Du.2 (z.mono ?_)⟩;rintro e' w' ⟨u,c',rfl,gp,E,l⟩;have j:=hs.next gp l O E
  rw[<-p]at j;have:=k c' w' _ j l;rw[p]at this;exact this
 | @A9 g as args d v ob hg R T hv ic h=>
  have q:=uw hs.env M hg;simp only[q,if_true];have r:kC f e.op=aE (g,args):=by rw[R,T];rfl
  have s1:=DA s1 r;obtain⟨I,tO,t⟩:=V _ _ _ _ _ h;obtain⟨vs,L,J⟩:=IY hs.gp hs.env s1 r I;obtain⟨F,t⟩:=t H ic;have z:=t c w vs hs.gp J;have gM:=(ae.1 ic).1;refine⟨λ_ _=>trivial,?_⟩;rw[dx (FW B) a.eval o (Aw s1),L];refine⟨λh=>by simp[Fence.wide]at h,Du.2 (z.mono ?_)⟩;rintro e' w' ⟨u,c',rfl,gp,E,l⟩;have l:=aoq (Nat.le_refl _) l;have j:=hs.next (aoo hs.gp gp) l O (am4 U E tO)
  rw[<-p]at j;have:=k _ w' _ j l;rw[p]at this;exact this
