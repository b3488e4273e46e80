/- Part 5 of DisputeTruth. -/
import Derived.Test.YtmehofoficaelaaGreatDoorV04
set_option linter.all false
namespace Go.AL
open Go
section
variable{P:Program}{G:GT}{c c2:Ctx}{H Hn:U}{w w2:World}{N:Nat}
theorem lH{ds:List D}(h:gw ds=true):∀d∈ds,closed d=true:=λd a=>by obtain⟨i,hi⟩:=aC.1 a;exact xA h hi
theorem p5{ρ:Nat->Option Nat}{k:Nat}{d:D}(h:closed d=true):gd ρ H k d=d:=by cases k<;>(unfold gd;simp[h])
def Ctx.join(c c2:Ctx)(n:Nat)(F:Nat->Prop):Ctx where
 ι:=λv g=>if v<n then c.ι v g else c2.ι (v-n) g
 F:=F
 RT:=c.RT
theorem Hj{F:Nat->Prop}{v:Nat}{L:Loc}(h:lQ (c.join c2 H.length F) (H++Hn) v L):(v<H.length/\lQ c H v L)\/(H.length<=v/\lQ c2 Hn (v-H.length) L):=by
 obtain⟨o,b,e,d⟩:=h;rcases bE v H.length with a|a
 .rw[ah a]at b;simp only[Ctx.join,if_pos a]at d;exact .inl ⟨a,o,b,e,d⟩
 .rw[ai a]at b;simp only[Ctx.join,if_neg (fG.2 a)]at d;exact .inr ⟨a,o,b,e,d⟩
structure yN(G:GT)(c c2:Ctx)(H Hn:U)(w w2:World)(F:Nat->Prop):Prop where
 fV:gv G c H w
 nj:gv G c2 Hn w2
 po:jZ w w2
 fresh:∀b,l7 c2 Hn b->w.heap.size<=b
 le:∀b,c.F b->F b
 lt:∀b,F b->b<w2.heap.size
 n1:∀b,F b->¬l7 c H b
 n2:∀b,F b->¬l7 c2 Hn b
 new:∀b,F b->c.F b\/w.heap.size<=b
 rows:∀(v:Nat) (o:Ob),Hn[v]? = some o->∃t g cs,o = .row t g cs/\∀d∈cs,∀u,fR c2 w2 u d->fR (c.join c2 H.length F) w2 u d
variable{F:Nat->Prop}
theorem Yi(j:yN G c c2 H Hn w w2 F){u:Value}{d:D}(h:fR c w u d):fR (c.join c2 H.length F) w2 u d:=by
 refine h.carry (λv k L a=>?_) j.le (λb o f=>FB (j.po.kept b (j.fV.kG b f)))
 have e:v<H.length:=by
  rcases bE v H.length with h|h
  .exact h
  .rw[j.fV.out v k h]at a;cases a
 simp only[Ctx.join,if_pos e];exact a
theorem Nz(j:yN G c c2 H Hn w w2 F):gv G (c.join c2 H.length F) (H++Hn) w2 where
 inj v v' L L' h1 p n m he:=by
  rcases Hj h1 with⟨a,b⟩|⟨a,b⟩<;>rcases Hj p with⟨C,q⟩|⟨C,q⟩
  .exact j.fV.inj v v' L L' b q n m he
  .have:=j.fV.lt _ ⟨v,L,b,n,rfl⟩;have:=j.fresh _ ⟨_,L',q,m,rfl⟩;omega
  .have:=j.fV.lt _ ⟨v',L',q,m,rfl⟩;have:=j.fresh _ ⟨_,L,b,n,rfl⟩;omega
  .have:=j.nj.inj _ _ L L' b q n m he;omega
 lt b hb:=by
  obtain⟨v,L,hl,f,e⟩:=hb;rcases Hj hl with⟨_,hl⟩|⟨_,hl⟩
  .exact aN (j.fV.lt b ⟨v,L,hl,f,e⟩) j.po.size
  .exact j.nj.lt b ⟨_,L,hl,f,e⟩
 nF b hb hF:=by
  obtain⟨v,L,hl,f,e⟩:=hb;rcases Hj hl with⟨_,hl⟩|⟨_,hl⟩
  .exact j.n1 b hF ⟨v,L,hl,f,e⟩
  .exact j.n2 b hF ⟨_,L,hl,f,e⟩
 kG b hb:=j.lt b hb
 out v k f:=by simp only[aj]at f;simp only[Ctx.join,if_neg (show¬v<H.length by omega)];exact j.nj.out _ k (by omega)
 mn v o k ho hk:=by
  rcases bE v H.length with f|f
  .rw[ah f]at ho;simp only[Ctx.join,if_pos f];exact j.fV.mn v o k ho hk
  .rw[ai f]at ho;simp only[Ctx.join,if_neg (fG.2 f)];exact j.nj.mn _ o k ho hk
 ob v o ho:=by
  rcases bE v H.length with f|f
  .rw[ah f]at ho;simp only[Ctx.join,if_pos f];exact gV.keep (c:=c) (c':=c.join c2 H.length F) rfl (λ_ _ h=>Yi j h) (λl hl z r=>j.po.kept _ (j.fV.lt _ ⟨v,l,⟨o,ho,r,hl⟩,z,rfl⟩)) (j.fV.ob v o ho)
  .rw[ai f]at ho;simp only[Ctx.join,if_neg (fG.2 f)];have h0:=j.nj.ob _ o ho;obtain⟨t,g,cs,rfl,B⟩:=j.rows _ o ho;simp only[Ob.gen]at h0 ⊢
   cases s:c2.ι (v-H.length) g with
   | none=>rw[s]at h0;simp[gV]at h0
   | some L=>
    rw[s]at h0;simp only[gV]at h0 ⊢;split
    .grind
    .rename_i u;simp only[u]at h0;obtain⟨arr,h1,p,n,m⟩:=h0;refine⟨arr,h1,p,n,λi d r=>?_⟩;obtain⟨x,y,A,D⟩:=m i d r;exact⟨x,y,A,B d (List.mem_of_getElem? r) _ D⟩
 gl g cs hg:=by obtain⟨h1,p⟩:=j.fV.gl g cs hg;exact⟨h1,Yi j p⟩
 rt:=j.fV.rt
theorem NA(j:yN G c c2 H Hn w w2 F):Step H.length c H w (c.join c2 H.length F) (H++Hn) w2 where
 os:=j.po.os
 tape:=j.po.tape
 output:=j.po.output
 size:=j.po.size
 RT:=rfl
 Fm b hb:=j.le b hb
 Fn b hb:=(j.new b hb).imp id .inl
 kept b hb _:=j.po.kept b hb
 old v k L a h:=by simp only[Ctx.join,if_pos a];exact h
 own b hb:=by
  obtain⟨v,L,hl,a,e⟩:=hb;rcases Hj hl with⟨_,hl⟩|⟨_,hl⟩
  .exact .inr ⟨v,L,hl,a,e⟩
  .exact .inl (j.fresh b ⟨_,L,hl,a,e⟩)
theorem Oa(j:yN G c c2 H Hn w w2 F){p:D->Bool}(m:∀d u,p d=true->fR c2 w2 u d->fR (c.join c2 H.length F) w2 u d){u:Value}{r:D}
  (b:fR c2 w2 u r) (h:w5 p r=true):fR (c.join c2 H.length F) w2 u (ku H.length r):=by
 have n:∀v g sz off len u,fR c2 w2 u (.fM v g sz off len)->fR (c.join c2 H.length F) w2 u (.fM (v+H.length) g sz off len):=by
  intro v g sz off len u b
  cases b with
  | fM _ _ _ _ _ cap L l k q s o=>exact .fM _ g sz off len cap L (by simp only[Ctx.join];rw[if_neg (by omega),Nat.add_sub_cancel];exact l) k q s o
  | mh _ _ _ _ L l a=>exact .mh _ g sz off L (by simp only[Ctx.join];rw[if_neg (by omega),Nat.add_sub_cancel];exact l) a
 have h1:∀(d:D) (u:Value),yl p d=true->fR c2 w2 u d->fR (c.join c2 H.length F) w2 u (ye H.length d):=by intro d u e b;cases d<;>first|exact n _ _ _ _ _ _ b|exact m _ _ e b
 cases r with
 | tup ds=>
  cases b with
  | tup vs _ hl rC=>
   simp only[ku];refine .tup vs _ (by simpa using hl) λi v d k e=>?_;simp only[av,ak]at e;obtain⟨d0,f,rfl⟩:=e;exact h1 d0 v (List.all_eq_true.1 h d0 (List.mem_of_getElem? f)) (rC i v d0 k f)
 | agg ds=>
  cases b with
  | agg vs _ hl t rC=>
   simp only[ku];refine .agg vs _ (by simpa using hl) t λi v d k e=>?_;simp only[av,ak]at e;obtain⟨d0,f,rfl⟩:=e;exact h1 d0 v (List.all_eq_true.1 h d0 (List.mem_of_getElem? f)) (rC i v d0 k f)
 | fM v g sz off len=>exact n _ _ _ _ _ _ b
 | _=>exact m _ _ h b
def Ctx.data(c:Ctx)(F:Nat->Prop):Ctx where
 ι:=λ_ _=>none
 F:=F
 RT:=c.RT
theorem Md(h:gv G c H w):gv G (c.data c.F) [] w where
 inj v v' L L' h1:=by obtain⟨o,a,_⟩:=h1;simp at a
 lt b d:=by obtain⟨v,L,⟨o,a,_⟩,_⟩:=d;simp at a
 nF b d:=by obtain⟨v,L,⟨o,a,_⟩,_⟩:=d;simp at a
 kG b d:=h.kG b d
 out _ _ _:=rfl
 mn _ _ _ _ _:=rfl
 ob v o a:=by simp at a
 gl g cs hg:=by obtain⟨h1,e⟩:=h.gl g cs hg;exact⟨h1,fR.closed (c:=c) (c':=c.data c.F) (λb d=>d) e (by simpa[AL.closed]using h1)⟩
 rt:=h.rt
theorem tM{c:Ctx}{b:Nat}:¬l7 c [] b:=by rintro⟨v,L,⟨o,a,_⟩,_⟩;simp at a
theorem AX{n:Nat}{c:Ctx}(hs:Step n c [] w c2 Hn w2):jZ w w2:=
 ⟨hs.os,hs.tape,hs.output,hs.size,λb a=>hs.kept b a tM⟩
theorem U1(h:Hn.all nY=true){v:Nat}{o:Ob}(a:Hn[v]? = some o):∃t g cs,o = .row t g cs/\∀d∈cs,closed d=true:=by
 have:=List.all_eq_true.1 h o (List.mem_of_getElem? a);cases o<;>simp only[nY]at this<;>first|cases this;done|skip
 exact⟨_,_,_,rfl,lH this⟩
theorem Wh(h:Hn.all pn=true){v:Nat}{o:Ob}(a:Hn[v]? = some o):∃t g cs,o = .row t g cs/\∀d∈cs,flat d=true:=by
 have:=List.all_eq_true.1 h o (List.mem_of_getElem? a);cases o<;>simp only[pn]at this<;>first|cases this;done|skip
 refine⟨_,_,_,rfl,λd b=>?_⟩;obtain⟨i,hi⟩:=aC.1 b;exact C9 this hi
def yC(P:Program)(G:GT)(f:FuncId)(args:List D)(H:U)(d:D)(H':U):Prop:=
 ∀(c:Ctx) (w:World) (vs:List Value),gv G c H w->ju c w vs args ->
  Calls P f vs.toArray w λe w'=>∃v c',e = .returned v/\gv G c' H' w'/\fR c' w' v d/\Step H.length c H w c' H' w'
def uP(P:Program)(G:GT)(f:FuncId)(args:List D)(H:U)(R:D->U->Prop):Prop:=
 ∀(c:Ctx) (w:World) (vs:List Value),gv G c H w->ju c w vs args ->
  Calls P f vs.toArray w λe w'=>∃v c' d H',e = .returned v/\R d H'/\H.length<=H'.length/\gv G c' H' w'/\fR c' w' v d/\Step H.length c H w c' H' w'
theorem uP.one{f:FuncId}{args:List D}{H:U}{R:D->U->Prop}{d:D}{H':U}(h:uP P G f args H R)(h1:∀d' Hn,R d' Hn->d'=d/\Hn=H'):yC P G f args H d H':=
 λc w vs i g=>(h c w vs i g).mono λ_ _ ⟨v,c',_,_,j,k,_,a,b,e⟩=>by grind
theorem Tg:gd (λ_=>none) H 40=gd (iB []) H 40:=rfl
theorem ju.map{c c':Ctx}{f:D->D}(b:∀v d,fR c w v d->fR c' w v (f d)){vs:List Value}{ds:List D}(h:ju c w vs ds):ju c' w vs (ds.map f):=by
 induction h with
 | nil=>exact .nil
 | cons h _ a=>exact .cons (b _ _ h) a
theorem ZS(fV:gv G c H w){f:FuncId}{vs:List Value}{args:List D}{d:D}(E:ju c w vs args)(y:yC P G f (args.map (gd (λ_=>none) H 40)) [] d Hn)
  (m:(if gw args then mL d&&Hn.all nY else oH d&&Hn.all pn)=true) :
  Calls P f vs.toArray w λe w'=>∃v c',e = .returned v/\gv G c' (H++Hn) w'/\fR c' w' v (ku H.length d)/\Step H.length c H w c' (H++Hn) w':=by
 by_cases s:gw args=true
 .rw[if_pos s]at m;simp only[Bool.and_eq_true]at m
  have e:args.map (gd (λ_=>none) H 40)=args:=by
   conv=>rhs;rw[<-aY args]
   exact au λd l=>p5 (lH s d l)
  rw[e]at y
  have z:ju (c.data c.F) w vs args:=by
   clear y m e
   induction E with
   | nil=>exact .nil
   | cons h _ I=>
    simp only[gw,Bool.and_eq_true]at s;exact .cons (fR.closed (c:=c) (c':=c.data c.F) (λb a=>a) h s.1) (I s.2)
  refine(y _ w vs (Md fV) z).mono ?_;rintro e w' ⟨v,c2,C,x,B,n⟩;have hg:=AX n
  have F:∀b,c2.F b->c.F b\/w.heap.size<=b:=λb a=>by
   rcases n.Fn b a with h|h|h
   .exact .inl h
   .exact .inr h
   .exact absurd h tM
  have j:yN G c c2 H Hn w w' c2.F:={
   fV:=fV
   nj:=x
   po:=hg
   fresh:=λb a=>by
    rcases n.own b a with h|h
    .exact h
    .exact absurd h tM
   le:=λb a=>n.Fm b a
   lt:=x.kG
   n1:=λb a k=>by
    rcases F b a with h|h
    .exact fV.nF b k h
    .have:=fV.lt b k;omega
   n2:=λb a k=>x.nF b k a
   new:=F
   rows:=λv o k=>by
    obtain⟨t,g,cs,rfl,A⟩:=U1 m.2 k
    exact⟨t,g,cs,rfl,λd l u r=>fR.closed (c:=c2) (c':=c.join c2 H.length c2.F) (λb a=>a) r (A d l)⟩ }
  exact⟨v,_,C,Nz j,Oa j (p:=AL.closed) (λd u l r=>fR.closed (c:=c2) (c':=c.join c2 H.length c2.F) (λb a=>a) r l) B m.1,NA j⟩
 .rw[if_neg s]at m;simp only[Bool.and_eq_true]at m
  have z:ju (c.gd [] H) w vs (args.map (gd (λ_=>none) H 40)):=E.map λv d h=>by rw[Tg];exact z8 fV 40 h
  have K:gv G (c.gd [] H) [] w:=Eo (ks:=[]) fV (λi j p q J=>by simp at J);refine(y _ w vs K z).mono ?_;rintro e w' ⟨v,c2,C,x,B,n⟩;have hg:=AX n
  have j:yN G c c2 H Hn w w' c.F:={
   fV:=fV
   nj:=x
   po:=hg
   fresh:=λb a=>by
    rcases n.own b a with h|h
    .exact h
    .exact absurd h tM
   le:=λb a=>a
   lt:=λb a=>aN (fV.kG b a) hg.size
   n1:=λb a k=>fV.nF b k a
   n2:=λb a k=>by
    rcases n.own b k with h|h
    .have:=fV.kG b a;omega
    .exact absurd h tM
   new:=λb a=>.inl a
   rows:=λv o k=>by
    obtain⟨t,g,cs,rfl,A⟩:=Wh m.2 k
    exact⟨t,g,cs,rfl,λd l u r=>fR.flat r (A d l)⟩ }
  exact⟨v,_,C,Nz j,Oa j (p:=AL.flat) (λd u l r=>fR.flat r l) B m.1,NA j⟩
theorem aml(fV:gv G c H w){f:FuncId}{vs:List Value}{args:List D}{R:D->U->Prop}(F:ju c w vs args)(z:uP P G f (args.map (gd (λ_=>none) H 40)) [] R)
  (l:∀d Hn,R d Hn->(if gw args then mL d&&Hn.all nY else oH d&&Hn.all pn)=true) :
  Calls P f vs.toArray w λe w'=>∃v c' d Hn,e = .returned v/\R d Hn/\gv G c' (H++Hn) w'/\fR c' w' v (ku H.length d)/\Step H.length c H w c' (H++Hn) w':=by
 by_cases s:gw args=true
 .simp only[if_pos s,Bool.and_eq_true]at l
  have e:args.map (gd (λ_=>none) H 40)=args:=by
   conv=>rhs;rw[<-aY args]
   exact au λd m=>p5 (lH s d m)
  rw[e]at z
  have A:ju (c.data c.F) w vs args:=by
   clear z l e
   induction F with
   | nil=>exact .nil
   | cons h _ J=>
    simp only[gw,Bool.and_eq_true]at s;exact .cons (fR.closed (c:=c) (c':=c.data c.F) (λb a=>a) h s.1) (J s.2)
  refine(z _ w vs (Md fV) A).mono ?_;rintro e w' ⟨v,c2,d,Hn,E,x,_,y,C,n⟩;have l:=l d Hn x;have hg:=AX n
  have I:∀b,c2.F b->c.F b\/w.heap.size<=b:=λb a=>by
   rcases n.Fn b a with h|h|h
   .exact .inl h
   .exact .inr h
   .exact absurd h tM
  have j:yN G c c2 H Hn w w' c2.F:={
   fV:=fV
   nj:=y
   po:=hg
   fresh:=λb a=>by
    rcases n.own b a with h|h
    .exact h
    .exact absurd h tM
   le:=λb a=>n.Fm b a
   lt:=y.kG
   n1:=λb a k=>by
    rcases I b a with h|h
    .exact fV.nF b k h
    .have:=fV.lt b k;omega
   n2:=λb a k=>y.nF b k a
   new:=I
   rows:=λv o k=>by
    obtain⟨t,g,cs,rfl,B⟩:=U1 l.2 k
    exact⟨t,g,cs,rfl,λd m u r=>fR.closed (c:=c2) (c':=c.join c2 H.length c2.F) (λb a=>a) r (B d m)⟩ }
  exact⟨v,_,d,Hn,E,x,Nz j,Oa j (p:=AL.closed) (λd u m r=>fR.closed (c:=c2) (c':=c.join c2 H.length c2.F) (λb a=>a) r m) C l.1,NA j⟩
 .simp only[if_neg s,Bool.and_eq_true]at l
  have A:ju (c.gd [] H) w vs (args.map (gd (λ_=>none) H 40)):=F.map λv d h=>by rw[Tg];exact z8 fV 40 h
  have L:gv G (c.gd [] H) [] w:=Eo (ks:=[]) fV (λi j p q K=>by simp at K);refine(z _ w vs L A).mono ?_;rintro e w' ⟨v,c2,d,Hn,E,x,_,y,C,n⟩;have l:=l d Hn x;have hg:=AX n
  have j:yN G c c2 H Hn w w' c.F:={
   fV:=fV
   nj:=y
   po:=hg
   fresh:=λb a=>by
    rcases n.own b a with h|h
    .exact h
    .exact absurd h tM
   le:=λb a=>a
   lt:=λb a=>aN (fV.kG b a) hg.size
   n1:=λb a k=>fV.nF b k a
   n2:=λb a k=>by
    rcases n.own b k with h|h
    .have:=fV.kG b a;omega
    .exact absurd h tM
   new:=λb a=>.inl a
   rows:=λv o k=>by
    obtain⟨t,g,cs,rfl,B⟩:=Wh l.2 k
    exact⟨t,g,cs,rfl,λd m u r=>fR.flat r (B d m)⟩ }
  exact⟨v,_,d,Hn,E,x,Nz j,Oa j (p:=AL.flat) (λd u m r=>fR.flat r m) C l.1,NA j⟩
def Ctx.oK(c c2:Ctx)(n:Nat)(F:Nat->Prop):Ctx where
 ι:=λv g=>if v=n then c2.ι 0 g else c.ι v g
 F:=F
 RT:=c.RT
theorem HS{n:Nat}{ob:Ob}(f:H[n]? = some .lL){F:Nat->Prop}{v:Nat}{L:Loc}(h:lQ (c.oK c2 n F) (H.set n ob) v L):(v≠n/\lQ c H v L)\/(v=n/\lQ c2 [ob] 0 L):=by
 obtain⟨o,a,e,d⟩:=h;rw[sj (ae.1 f).1]at a
 by_cases b:v=n
 .subst b;rw[if_pos rfl]at a;cases a;simp only[Ctx.oK,if_true]at d;exact .inr ⟨rfl,ob,rfl,e,d⟩
 .rw[if_neg b]at a;simp only[Ctx.oK,if_neg b]at d;exact .inl ⟨b,o,a,e,d⟩
theorem amk(fV:gv G c H w){f:FuncId}{vs:List Value}{args:List D}{d:D}{ob:Ob}{n:Nat}(A:ju c w vs args)(W:yC P G f (args.map (gd (λ_=>none) H 40)) [] d [ob])
  (J:(if gw args then mL d&&nY ob else oH d&&pn ob)=true) (I:H[n]? = some .lL) :
  Calls P f vs.toArray w λe w'=>∃v c',e = .returned v/\gv G c' (H.set n ob) w'/\fR c' w' v (ku n d)/\Step H.length c H w c' (H.set n ob) w':=by
 have gE:=(ae.1 I).1;have W9:∀k,c.ι n k=none:=λk=>fV.mn n _ k I (.inl rfl)
 have C:∀(c2:Ctx) (w':World) (v:Value) (F:Nat->Prop),gv G c2 [ob] w'->fR c2 w' v d->jZ w w'->(∀b,l7 c2 [ob] b->w.heap.size<=b)->(∀b,c.F b->F b)->(∀b,F b->b<w'.heap.size) ->
   (∀b,F b->¬l7 c H b)->(∀b,F b->¬l7 c2 [ob] b)->(∀b,F b->c.F b\/w.heap.size<=b)->∀(p:D->Bool),(∀d u,p d=true->fR c2 w' u d->fR (c.oK c2 n F) w' u d)->w5 p d=true ->
   (∃t g cs,ob = .row t g cs/\∀d∈cs,p d=true) ->
   gv G (c.oK c2 n F) (H.set n ob) w'/\fR (c.oK c2 n F) w' v (ku n d)/\Step H.length c H w (c.oK c2 n F) (H.set n ob) w':=by
  intro c2 w' v F nj m hg QW S a1 xT Rg me p R y gW
  have carry:∀ {u:Value} {d:D},fR c w u d->fR (c.oK c2 n F) w' u d:=λh=>by
   refine h.carry (λv k L B=>?_) S (λb o K=>FB (hg.kept b (fV.kG b K)));have gU:v≠n:=λe=>by rw[e,W9]at B;cases B
   simp only[Ctx.oK,if_neg gU];exact B
  have GL:∀v g sz off len u,fR c2 w' u (.fM v g sz off len)->(v=0)->fR (c.oK c2 n F) w' u (.fM (v+n) g sz off len):=by
   intro v g sz off len u A h0;subst h0
   cases A with
   | fM _ _ _ _ _ cap L M m jV iR mo=>exact .fM _ g sz off len cap L (by simp only[Ctx.oK,aQ,if_true];exact M) m jV iR mo
   | mh _ _ _ _ L M a=>exact .mh _ g sz off L (by simp only[Ctx.oK,aQ,if_true];exact M) a
  have hz:∀v g sz off len u,fR c2 w' u (.fM v g sz off len)->v=0:=by
   intro v g sz off len u A
   have:∃L,c2.ι v g=some L:=by
    cases A with
    | fM _ _ _ _ _ cap L M=>exact⟨L,M⟩
    | mh _ _ _ _ L M=>exact⟨L,M⟩
   obtain⟨L,B⟩:=this;rcases eQ v with h|h
   .exact h
   .rw[nj.out v g (by show 1<=v;exact h)]at B;cases B
  have h1:∀(d:D) (u:Value),yl p d=true->fR c2 w' u d->fR (c.oK c2 n F) w' u (ye n d):=by intro d u y A;cases d<;>first|exact GL _ _ _ _ _ _ A (hz _ _ _ _ _ _ A)|exact R _ _ y A
  refine⟨{
   inj:=λv v' L L' h1 z V U T=>by
    rcases HS I h1 with⟨a,b⟩|⟨a,b⟩<;>rcases HS I z with⟨a',X⟩|⟨a',X⟩
    .exact fV.inj v v' L L' b X V U T
    .have:=fV.lt _ ⟨v,L,b,V,rfl⟩;have:=QW _ ⟨_,L',X,U,rfl⟩;omega
    .have:=fV.lt _ ⟨v',L',X,U,rfl⟩;have:=QW _ ⟨_,L,b,V,rfl⟩;omega
    .rw[a,a']
   lt:=λb r=>by
    obtain⟨v,L,hl,m,e⟩:=r;rcases HS I hl with⟨_,hl⟩|⟨_,hl⟩
    .exact aN (fV.lt b ⟨v,L,hl,m,e⟩) hg.size
    .exact nj.lt b ⟨_,L,hl,m,e⟩
   nF:=λb r K=>by
    obtain⟨v,L,hl,m,e⟩:=r;rcases HS I hl with⟨_,hl⟩|⟨_,hl⟩
    .exact xT b K ⟨v,L,hl,m,e⟩
    .exact Rg b K ⟨_,L,hl,m,e⟩
   kG:=a1
   out:=λv k m=>by simp only[ar]at m;simp only[Ctx.oK,if_neg (show¬v=n by omega)];exact fV.out _ k m
   mn:=λv o k s hk=>by
    rw[sj gE]at s
    by_cases m:v=n
    .subst m;rw[if_pos rfl]at s;cases s;simp only[Ctx.oK,if_true];exact nj.mn 0 _ k rfl hk
    .rw[if_neg m]at s;simp only[Ctx.oK,if_neg m];exact fV.mn v o k s hk
   ob:=λv o s=>by
    rw[sj gE]at s
    by_cases m:v=n
    .subst m;rw[if_pos rfl]at s;cases s;simp only[Ctx.oK,if_true];have h0:=nj.ob 0 _ rfl;obtain⟨t,g,cs,rfl,jr⟩:=gW;simp only[Ob.gen]at h0 ⊢
     cases B:c2.ι 0 g with
     | none=>rw[B]at h0;simp[gV]at h0
     | some L=>
      rw[B]at h0;simp only[gV]at h0 ⊢;split
      .grind
      .rename_i oe;simp only[oe]at h0;obtain⟨arr,h1,z,V,U⟩:=h0;refine⟨arr,h1,z,V,λi d y=>?_⟩;obtain⟨x,lh,kE,BD⟩:=U i d y;exact⟨x,lh,kE,R d _ (jr d (List.mem_of_getElem? y)) BD⟩
    .rw[if_neg m]at s;simp only[Ctx.oK,if_neg m];exact gV.keep (c:=c) (c':=c.oK c2 n F) rfl (λ_ _ h=>carry h) (λl hl lO y=>hg.kept _ (fV.lt _ ⟨v,l,⟨o,s,y,hl⟩,lO,rfl⟩)) (fV.ob v o s)
   gl:=λg cs hg=>by obtain⟨h1,z⟩:=fV.gl g cs hg;exact⟨h1,carry z⟩
   rt:=fV.rt },?_,?_⟩
  .cases d with
   | tup ds=>
    cases m with
    | tup vs _ hl rC=>
     simp only[ku];refine .tup vs _ (by simpa using hl) λi v d m Q=>?_;simp only[av,ak]at Q;obtain⟨d0,O,rfl⟩:=Q;exact h1 d0 v (List.all_eq_true.1 y d0 (List.mem_of_getElem? O)) (rC i v d0 m O)
   | agg ds=>
    cases m with
    | agg vs _ hl s rC=>
     simp only[ku];refine .agg vs _ (by simpa using hl) s λi v d m Q=>?_;simp only[av,ak]at Q;obtain⟨d0,O,rfl⟩:=Q;exact h1 d0 v (List.all_eq_true.1 y d0 (List.mem_of_getElem? O)) (rC i v d0 m O)
   | fM v g sz off len=>exact GL _ _ _ _ _ _ m (hz _ _ _ _ _ _ m)
   | _=>exact R _ _ y m
  .exact{
    os:=hg.os
    tape:=hg.tape
    output:=hg.output
    size:=hg.size
    RT:=rfl
    Fm:=S
    Fn:=λb r=>(me b r).imp id .inl
    kept:=λb r _=>hg.kept b r
    old:=λv k L m h=>by
     have gU:v≠n:=λe=>by rw[e,W9]at h;cases h
     simp only[Ctx.oK,if_neg gU];exact h
    own:=λb r=>by
     obtain⟨v,L,hl,m,e⟩:=r;rcases HS I hl with⟨_,hl⟩|⟨_,hl⟩
     .exact .inr ⟨v,L,hl,m,e⟩
     .exact .inl (QW b ⟨_,L,hl,m,e⟩) }
 by_cases N:gw args=true
 .simp only[if_pos N,Bool.and_eq_true]at J
  have e:args.map (gd (λ_=>none) H 40)=args:=by
   conv=>rhs;rw[<-aY args]
   exact au λd y=>p5 (lH N d y)
  rw[e]at W
  have Y:ju (c.data c.F) w vs args:=by
   clear W J e
   induction A with
   | nil=>exact .nil
   | cons h _ ih=>
    simp only[gw,Bool.and_eq_true]at N;exact .cons (fR.closed (c:=c) (c':=c.data c.F) (λb r=>r) h N.1) (ih N.2)
  refine(W _ w vs (Md fV) Y).mono ?_;rintro e w' ⟨v,c2,T,z,m,E⟩;have hg:=AX E
  have K:∀b,c2.F b->c.F b\/w.heap.size<=b:=λb r=>by
   rcases E.Fn b r with h|h|h
   .exact .inl h
   .exact .inr h
   .exact absurd h tM
  obtain⟨m1,m2,m3⟩:=C c2 w' v c2.F z m hg (λb r=>by
    rcases E.own b r with h|h
    .exact h
    .exact absurd h tM) (λb r=>E.Fm b r) z.kG (λb r s=>by
    rcases K b r with h|h
    .exact fV.nF b s h
    .have:=fV.lt b s;omega) (λb r s=>z.nF b s r) K AL.closed (λd u y Z=>fR.closed (c:=c2) (c':=c.oK c2 n c2.F) (λb r=>r) Z y) J.1 (by
    have:=J.2;cases ob<;>simp only[nY]at this<;>first|(cases this;done)|skip
    exact⟨_,_,_,rfl,lH this⟩)
  exact⟨v,_,T,m1,m2,m3⟩
 .simp only[if_neg N,Bool.and_eq_true]at J
  have Y:ju (c.gd [] H) w vs (args.map (gd (λ_=>none) H 40)):=A.map λv d h=>by rw[Tg];exact z8 fV 40 h
  have GG:gv G (c.gd [] H) [] w:=Eo (ks:=[]) fV (λi j p q R=>by simp at R);refine(W _ w vs GG Y).mono ?_;rintro e w' ⟨v,c2,T,z,m,E⟩;have hg:=AX E
  obtain⟨m1,m2,m3⟩:=C c2 w' v c.F z m hg (λb r=>by
    rcases E.own b r with h|h
    .exact h
    .exact absurd h tM) (λb r=>r) (λb r=>aN (fV.kG b r) hg.size) (λb r s=>fV.nF b s r) (λb r s=>by
    rcases E.own b s with h|h
    .have:=fV.kG b r;omega
    .exact absurd h tM) (λb r=>.inl r) AL.flat (λd u y Z=>fR.flat Z y) J.1 (by
    have:=J.2;cases ob<;>simp only[pn]at this<;>first|(cases this;done)|skip
    refine⟨_,_,_,rfl,λd y=>?_⟩;obtain⟨i,hi⟩:=aC.1 y
    exact C9 this hi)
  exact⟨v,_,T,m1,m2,m3⟩
theorem amG{S:List Nat}{v:Nat}(c:v∈S):iB (mm H S) v=none:=by
 unfold iB mm;rw[dC];intro p b;obtain⟨u,_,rfl⟩:=ao.1 b
 by_cases a:u=v
 .grind
 .simp[a]
theorem aaB{v:Nat}:∀(k:Nat) (d:D),(∀u∈iv H k d,u=v)->AL.gd (iB (mm H [v])) H k d=AL.gd (λ_=>none) H k d
 | 0,d,_=>rfl
 | k+1,d,h=>by
  have i:iB (mm H [v]) v=none:=amG (by simp)
  have b:∀(ds:List D),(∀u∈(ds.map (iv H k)).flatten,u=v)->ds.map (AL.gd (iB (mm H [v])) H k)=ds.map (AL.gd (λ_=>none) H k):=λds o=>
   au λd f=>aaB k d λu a=>o u (bh.2 ⟨_,ao.2 ⟨d,f,rfl⟩,a⟩)
  unfold iv at h;unfold AL.gd
  by_cases r:AL.closed d=true
  .grind
  .simp only[if_neg r]at h ⊢
   cases d with
   | agg cs=>simp only[b cs h]
   | tup cs=>simp only[b cs h]
   | gi cs=>simp only[b cs h]
   | sl sz es=>
    have:es.map (λx=>x.map (AL.gd (iB (mm H [v])) H k))=es.map (λx=>x.map (AL.gd (λ_=>none) H k)):=au λe q=>b e λu a=>h u (bh.2 ⟨_,ao.2 ⟨e,q,rfl⟩,a⟩);simp only[this]
   | fn g x y=>
    have h1:=b x λu a=>h u (bt _ a);have s:=b y λu a=>h u (bB _ a);simp only[h1,s]
   | fM u g sz off len=>
    have a:u=v:=h u (by simp);subst a;simp only[i]
    cases c:rowsOf H u with
    | none=>simp only[Ac,c]
    | some p=>
     obtain⟨t,n,cs⟩:=p;simp only[Ac,c]
     by_cases hg:n=g
     .simp only[hg,if_true]
      have:=b (cs.drop (off*sz)) λw m=>by obtain⟨l,hl,j⟩:=bh.1 m;obtain⟨d,f,rfl⟩:=ao.1 hl;exact h w (by simp only[c];exact a8 _ (bh.2 ⟨_,ao.2 ⟨d,bq f,rfl⟩,j⟩))
      rw[this]
     .grind
   | ptr u g off=>
    have a:u=v:=h u (by simp);subst a;simp only[i]
    cases c:rowsOf H u with
    | none=>simp only[Ac,c]
    | some p=>
     obtain⟨t,n,cs⟩:=p;simp only[Ac,c]
     by_cases hg:n=g
     .simp only[hg,if_true]
      have:=b (cs.drop off) λw m=>by obtain⟨l,hl,j⟩:=bh.1 m;obtain⟨d,f,rfl⟩:=ao.1 hl;exact h w (by simp only[c];exact a8 _ (bh.2 ⟨_,ao.2 ⟨d,bq f,rfl⟩,j⟩))
      rw[this]
     .grind
   | gx u=>
    have a:u=v:=h u (by simp);subst a;simp only[i]
   | iP u=>
    have a:u=v:=h u (by simp);subst a;simp only[i]
   | _=>rfl
theorem agr(h:gv G c H w){v:Nat}{t:TypeId}{g:Nat}{cs:List D}(p:H[v]? = some (.row t g cs)) :
  ∃c',gv G c' (H.set v .dead) w/\Step H.length c H w c' (H.set v .dead) w/\(∀u d,fR c w u d->fR c' w u d)/\∀b,(c.gd (mm H [v]) H).F b->c'.F b:=by
 have E:=(ae.1 p).1
 have y:∀c':Ctx,(∀u k,c'.ι u k=c.ι u k)->∀u l,lQ c' (H.set v .dead) u l->u≠v/\lQ c H u l:=by
  rintro c' m u l ⟨o,i,z,hi⟩;rw[sj E]at i;split at i
  .cases i;cases z
  .rename_i n;exact⟨n,o,i,z,by rw[<-m];exact hi⟩
 let c':Ctx:={ c with F:=λb=>c.F b\/∃L,c.ι v g=some L/\L.jG=false/\L.b=b }
 have m:∀u k,c'.ι u k=c.ι u k:=λ_ _=>rfl;have B:∀u d,fR c w u d->fR c' w u d:=λu d R=>fR.carry (c:=c) (c':=c') (w:=w) (w':=w) (λ_ _ _ h=>h) (λb f=>Or.inl f) (λ_ _ _=>rfl) R;have J:∀b,l7 c' (H.set v .dead) b->l7 c H b:=λb ⟨u,l,hl,r⟩=>⟨u,l,(y c' m u l hl).2,r⟩
 refine⟨c',{
  inj:=λu O l Q h1 S=>h.inj u O l Q (y c' m _ _ h1).2 (y c' m _ _ S).2
  lt:=λb f=>h.lt b (J b f)
  nF:=λb f C=>by
   obtain⟨u,l,hl,M,e⟩:=f;obtain⟨n,K⟩:=y c' m u l hl;rcases C with C|⟨L,x,j,s⟩
   .exact h.nF b ⟨u,l,K,M,e⟩ C
   .exact n (h.inj u v l L K ⟨_,p,rfl,x⟩ M j (e.trans s.symm))
  kG:=λb f=>by
   rcases f with f|⟨L,x,j,s⟩
   .exact h.kG b f
   .exact s▸h.lt _ ⟨v,L,⟨_,p,rfl,x⟩,j,rfl⟩
  out:=λu k A=>h.out u k (by simpa using A)
  mn:=λu o k i q=>by
   rw[sj E]at i;split at i
   .cases i;rcases q with q|⟨q,_⟩<;>cases q
   .exact h.mn u o k i q
  ob:=λu o i=>by
   rw[sj E]at i;split at i
   .cases i;simp[gV]
   .exact gV.keep (c:=c) (c':=c') rfl B (λ_ _ _ _=>rfl) (h.ob u o i)
  gl:=λg cs hg=>let ⟨a,b⟩:=h.gl g cs hg;⟨a,B _ _ b⟩
  rt:=h.rt },?_,B,λb f=>?_⟩
 .exact{
   os:=⟨rfl,Nat.le_refl _⟩,tape:=rfl,output:=rfl,size:=Nat.le_refl _,RT:=rfl
   Fm:=λb f=>Or.inl f
   Fn:=λb f=>by
    rcases f with f|⟨L,x,j,s⟩
    .exact .inl f
    .exact .inr (.inr ⟨v,L,⟨_,p,rfl,x⟩,j,s⟩)
   kept:=λ_ _ _=>rfl
   old:=λ_ _ _ _ h=>h
   own:=λb f=>.inr (J b f) }
 .rcases f with f|⟨u,L,⟨o,i,z,I⟩,N,j,e⟩
  .exact .inl f
  .have A:u=v:=by
    by_cases n:u=v
    .exact n
    .exfalso;have P:=(ae.1 i).1
     have:iB (mm H [v]) u=some u:=S3 Ws (by
      unfold mm
      simp[P,n])
     rw[this]at N;cases N
   subst A;rw[p]at i;cases i;exact .inr ⟨L,I,j,e⟩
theorem amj(fV:gv G c H w){f:FuncId}{vs:List Value}{args:List D}{d:D}{v:Nat}(n:ju c w vs args)(hS:∀u∈(args.map (iv H 40)).flatten,u=v)(l:(rowsOf H v).isSome=true)
  (m:yC P G f (args.map (AL.gd (λ_=>none) H 40)) [] d []) (j:gw (args.map (AL.gd (λ_=>none) H 40))=true) (a:AL.closed d=true) :
  Calls P f vs.toArray w λe w'=>∃u c',e = .returned u/\gv G c' (H.set v .dead) w'/\fR c' w' u d/\Step H.length c H w c' (H.set v .dead) w':=by
 have k:∃t g cs,H[v]? = some (.row t g cs):=by
  unfold rowsOf at l;split at l
  .grind
  .cases l
 obtain⟨t,g,cs,k⟩:=k;obtain⟨o,k1,k2,k3,k4⟩:=agr fV k
 have z:ju o w vs (args.map (AL.gd (λ_=>none) H 40)):=by
  have e:args.map (AL.gd (λ_=>none) H 40)=args.map (AL.gd (iB (mm H [v])) H 40):=
   au λd a=>(aaB 40 d λu r=>hS u (bh.2 ⟨_,ao.2 ⟨d,a,rfl⟩,r⟩)).symm
  have i:=j;rw[e]at i ⊢;have h0:=n.map (c':=c.gd (mm H [v]) H) (f:=AL.gd (iB (mm H [v])) H 40) λ_ _ h=>z8 fV 40 h;generalize args.map (AL.gd (iB (mm H [v])) H 40)=as at h0 i;clear e j hS m n
  induction h0 with
  | nil=>exact .nil
  | cons h _ q=>
   simp only[gw,Bool.and_eq_true]at i;exact .cons (fR.closed (c:=c.gd (mm H [v]) H) (c':=o) k4 h i.1) (q i.2)
 have y:(args.map (AL.gd (λ_=>none) H 40)).map (AL.gd (λ_=>none) (H.set v .dead) 40)=args.map (AL.gd (λ_=>none) H 40):=by
  conv=>rhs;rw[<-aY (args.map (AL.gd (λ_=>none) H 40))]
  exact au λd a=>p5 (lH j d a)
 have p:mL d=true/\ku (H.set v .dead).length d=d:=by
  cases d<;>first|(cases a;done)|skip
  case tup ds=>
   simp only[AL.closed]at a;refine⟨?_,?_⟩
   .simp only[mL,w5,List.all_eq_true];intro x b;have:=lH a x b;cases x<;>first|rfl|exact this
   .simp only[ku];congr 1
    conv=>rhs;rw[<-aY ds]
    refine au λx b=>?_;have:=lH a x b;cases x<;>first|rfl|(cases this;done)
  case agg ds=>
   simp only[AL.closed]at a;refine⟨?_,?_⟩
   .simp only[mL,w5,List.all_eq_true];intro x b;have:=lH a x b;cases x<;>first|rfl|exact this
   .simp only[ku];congr 1
    conv=>rhs;rw[<-aY ds]
    refine au λx b=>?_;have:=lH a x b;cases x<;>first|rfl|(cases this;done)
  all_goals exact⟨a,rfl⟩
 refine(ZS k1 z (by rw[y];exact m) (by rw[if_pos j];simp[p.1])).mono ?_;rintro e w' ⟨u,c2,s,m1,m2,m3⟩;rw[az]at m1 m3;rw[p.2]at m2;exact⟨u,c2,s,m1,m2,k2.trans m3 (by simp)⟩
end
end Go.AL
namespace Go.AL
open Go
def sq(o:Nat)(xs cs:List D):List D:=cs.take o++xs++cs.drop (o+xs.length)
theorem Ts{o:Nat}{xs cs:List D}(h:o+xs.length<=cs.length):(sq o xs cs).length=cs.length:=by simp[sq];omega
theorem Io{o:Nat}{xs cs:List D}(h:o+xs.length<=cs.length)(i:Nat):(sq o xs cs)[i]? = if o<=i/\i<o+xs.length then xs[i-o]? else cs[i]? := by
 unfold sq;have hl:(cs.take o).length=o:=by simp;omega
 by_cases h1:i<o
 .grind
 .grind
def yz(n:Nat):Dl->Option Nat
 | .no=>none
 | .cells v _ _=>some v
 | .obj v _=>some v
 | .new _=>some n
def Ty:Dl->Ob->Ob
 | .no,o=>o
 | .cells _ o xs,.row t g cs=>.row t g (sq o xs cs)
 | .cells _ _ _,o=>o
 | .obj _ ob,_=>ob
 | .new ob,_=>ob
abbrev lx(n:Nat)(δ:Dl)(H:U):U:=δ.app H (Al.lL H n)
theorem CQ(n:Nat)(δ:Dl)(H:U)(x:Nat):(lx n δ H)[x]? = if yz n δ=some x then(H[x]?).map (Ty δ)else H[x]? := by
 have a:∀(v:Nat) (ob:Ob) (f:Ob->Ob),(∀o,f o=ob)->(H.set v ob)[x]? = if some v=some x then(H[x]?).map f else H[x]? := by grind
 cases δ with
 | no=>simp[lx,Dl.app,yz]
 | obj v ob=>exact a v ob _ λ_=>rfl
 | new ob=>exact a n ob _ λ_=>rfl
 | cells v o xs=>
  have c:yz n (.cells v o xs)=some v:=rfl
  by_cases e:v=x
  .subst e;rw[if_pos c];simp only[lx,Dl.app];split
   .rename_i t g cs b;rw[bS,if_pos rfl,if_pos (ae.1 b).1,b];rfl
   .rename_i h
    cases d:H[v]? with
    | none=>rfl
    | some ob=>
     cases ob<;>first|rfl|skip
     exact absurd d (h _ _ _)
  .rw[if_neg (by rw[c];simpa using e)];simp only[lx,Dl.app];split
   .grind
   .rfl
def Fits(n:Nat)(δ:Dl)(H:U):Prop:=match δ with
 | .cells v o xs=>∃t g cs,H[v]? = some (.row t g cs)/\o+xs.length<=cs.length
 | .new _=>H[n]? = some .lL
 | _=>True
theorem yQ{a b:List Fp}(h:ua a b=true){x y:Fp}(d:x∈a)(c:y∈b):tZ x y=true:=
 List.all_eq_true.1 (List.all_eq_true.1 h x d) y c
theorem Us{n:Nat}{δ:Dl}{H:U}{j:List Fp}(s:Fits n δ H)(h:ua (jO n δ) j=true):tU j (lx n δ H) H:=by
 intro x b;obtain⟨u,r⟩:=x
 have z:∀v q,(v,q)∈jO n δ->yz n δ=some v:=by intro v q d;cases δ<;>simp only[jO,List.mem_singleton,ef]at d<;>first|(cases d;rfl)|cases d
 have c:yz n δ≠some u->(lx n δ H)[u]? = H[u]? := λk=>by rw[CQ,if_neg k]
 by_cases a:yz n δ=some u
 .cases r with
  | none=>
   exfalso
   cases δ with
   | no=>cases a
   | cells v o xs=>cases a;have:=yQ h (x:=(u,some (o,xs.length))) (by simp[jO]) b;simp[tZ]at this
   | obj v ob=>cases a;have:=yQ h (x:=(u,none)) (by simp[jO]) b;simp[tZ]at this
   | new ob=>cases a;have:=yQ h (x:=(n,none)) (by simp[jO]) b;simp[tZ]at this
  | some q=>
   obtain⟨p,m⟩:=q
   cases δ with
   | no=>cases a
   | obj v ob=>cases a;exfalso;have:=yQ h (x:=(u,none)) (by simp[jO]) b;simp[tZ]at this
   | new ob=>cases a;exfalso;have:=yQ h (x:=(n,none)) (by simp[jO]) b;simp[tZ]at this
   | cells v o xs=>
    cases a;obtain⟨t,g,cs,h1,f⟩:=s;have w:=yQ h (x:=(u,some (o,xs.length))) (by simp[jO]) b;simp only[tZ,bne_self_eq_false,Bool.false_or,bM,decide_eq_true_eq]at w;refine .inr ⟨t,g,sq o xs cs,cs,?_,h1,Ts f,λi l y=>?_⟩
    .simp[CQ,yz,h1,Ty]
    .rw[Io f,if_neg (by omega)]
 .have e:=c a
  cases r with
  | none=>exact e
  | some q=>exact .inl e
theorem anJ{o p:Nat}{xs c cs:List D}(h1:o+xs.length<=cs.length)(d:p+c.length<=cs.length)(h:o+xs.length<=p\/p+c.length<=o) :
  sq o xs (sq p c cs)=sq p c (sq o xs cs):=by
 apply bT;intro i;rw[Io (by rw[Ts d];exact h1),Io d,Io (by rw[Ts h1];exact d),Io h1]
 by_cases a:o<=i/\i<o+xs.length<;>by_cases b:p<=i/\i<p+c.length
 .omega
 .grind
 .grind
 .grind
theorem aod{n m:Nat}{δ c:Dl}{H:U}(j:Fits n δ H)(hg:Fits m c H)(h:ua (jO n δ) (jO m c)=true):lx m c (lx n δ H)=lx n δ (lx m c H):=by
 apply bT;intro x;rw[CQ,CQ,CQ,CQ]
 by_cases a:yz n δ=some x<;>by_cases b:yz m c=some x
 .rw[if_pos a,if_pos b,if_pos b,if_pos a]
  have bad:∀ {P:Prop},(∃q r,(x,q)∈jO n δ/\(x,r)∈jO m c/\(q=none\/r=none))->P:=by
   rintro P ⟨q,r,h1,d,k⟩;have:=yQ h h1 d;rcases k with rfl|rfl
   .simp[tZ]at this
   .cases q<;>simp[tZ]at this
  cases δ with
  | no=>cases a
  | obj v ob=>
   cases a
   cases c with
   | no=>cases b
   | cells v o xs=>cases b;exact bad ⟨none,some (o,xs.length),by simp[jO],by simp[jO],.inl rfl⟩
   | obj v ob=>cases b;exact bad ⟨none,none,by simp[jO],by simp[jO],.inl rfl⟩
   | new ob=>cases b;exact bad ⟨none,none,by simp[jO],by simp[jO],.inl rfl⟩
  | new ob=>
   cases a
   cases c with
   | no=>cases b
   | cells v o xs=>cases b;exact bad ⟨none,some (o,xs.length),by simp[jO],by simp[jO],.inl rfl⟩
   | obj v ob=>cases b;exact bad ⟨none,none,by simp[jO],by simp[jO],.inl rfl⟩
   | new ob=>cases b;exact bad ⟨none,none,by simp[jO],by simp[jO],.inl rfl⟩
  | cells v o xs=>
   cases a
   cases c with
   | no=>cases b
   | obj v ob=>cases b;exact bad ⟨some (o,xs.length),none,by simp[jO],by simp[jO],.inr rfl⟩
   | new ob=>cases b;exact bad ⟨some (o,xs.length),none,by simp[jO],by simp[jO],.inr rfl⟩
   | cells v p i=>
    cases b;obtain⟨t,g,cs,h1,d⟩:=j;obtain⟨s,w,u,e,l⟩:=hg;rw[h1]at e;cases e;have f:=yQ h (x:=(x,some (o,xs.length))) (y:=(x,some (p,i.length))) (by simp[jO]) (by simp[jO]);simp only[tZ,bne_self_eq_false,Bool.false_or,bM,decide_eq_true_eq]at f;simp only[h1,aG,Ty];rw[anJ d l f]
 .grind
 .grind
 .grind
structure Rc where
 R:List Fp
 W:List Fp
inductive Out where
 | norm (s:St)
 | exit (id:Nat) (s:St)
 | ret (s:St)
inductive Ap where
 | ops (l:List gR) (s:St)
 | code (c:IR) (s:St)
 | loop (n:Nat) (live:List Nat) (a:IR) (s:St)
 | call (f:FuncId) (args:List D) (H:U)
 | trace (l:List gR) (s:St)
inductive pe where
 | out (o:Out)
 | tr (rs:List Rc) (s:St)
 | val (d:D) (H:U)
def Out.stop:Out->Bool
 | .norm _=>false
 | _=>true
def vM(c:List (Nat×Nat))(rs:List Rc):Bool:=c.all λp=>match rs[p.1]?,rs[p.2]? with
 | some a,some b=>ua a.W (b.R++b.W)&&ua b.W (a.R++a.W)
 | _,_=>false
def yieldOf(env:gL):iD->Option (Nat×List D)
 | .callv f args=>match ev env f with
  | .iP v=>some (v,args.map (ev env))
  | _=>none
 | _=>none
def Out.st:Out->St
 | .norm s=>s
 | .exit _ s=>s
 | .ret s=>s
def Out.Ad:Out->p9
 | .norm _=>.ready
 | .exit id _=>.y6 id
 | .ret _=>.AG
def z6(s:St):p9->Option Out
 | .ready=>some (.norm s)
 | .busy=>none
 | .AG=>some (.ret s)
 | .y6 id=>some (.exit id s)
def kill:List Nat->U->Option U
 | [],H=>some H
 | v::vs,H=>match H[v]? with
  | some .jv=>kill vs (H.set v .dead)
  | _=>none
def finish(fn:je)(own n:Nat):Out->Option (D×U)
 | .norm s | .ret s=>match kill s.marks s.H with
  | some H=>match results fn { s with H:=H }with
   | some d=>some (leave own n H d)
   | none=>none
  | none=>none
 | .exit _ _=>none
def lG(id n:Nat)(live:List Nat):Out->Out
 | .norm s=>.norm (cut n live s)
 | .exit a s=>if a=id then .norm (cut n live s)else .exit a s
 | .ret s=>.ret s
inductive Ev(T:il):Ap->(pe->Prop)->Prop
 | mono {j R R'} (h:Ev T j R) (hi:∀r,R r->R' r):Ev T j R'
 | nil {s R} (h:R (.out (.norm s))):Ev T (.ops [] s) R
 | op {e r s d δ R} (hg:guardOf s.env.get e.guard=some true) (h:gH s.env.get s.H s.H.length e.op=some (d,δ))
   (t:Ev T (.ops r { s with env:=put s.env e.dst d,H:=δ.app s.H (Al.last s.H) }) R):Ev T (.ops (e::r) s) R
 | Cc {e r s d δ R} (hg:guardOf s.env.get e.guard=some true) (h:ml s.env.get s.H s.H.length e.op=some (d,δ))
   (t:Ev T (.ops r { s with env:=put s.env e.dst d,H:=δ.app s.H (Al.last s.H) }) R):Ev T (.ops (e::r) s) R
 | off {e r s R} (hg:guardOf s.env.get e.guard=some false) (t:Ev T (.ops r { s with env:=put s.env e.dst (.val undef) }) R):Ev T (.ops (e::r) s) R
 | lW {l s R} (S:List Nat) (hm:s.marks.all (λv => !S.contains v)=true) (t:Ev T (.ops l (lW S s)) R):Ev T (.ops l s) R
 | F4 {c s R} (S:List Nat) (hm:s.marks.all (λv => !S.contains v)=true) (t:Ev T (.code c (lW S s)) R):Ev T (.code c s) R
 | P2 {l s R} (live:List Nat) (t:Ev T (.ops l { s with env:=forget live s.env }) R):Ev T (.ops l s) R
 | F3 {c s R} (live:List Nat) (t:Ev T (.code c { s with env:=forget live s.env }) R):Ev T (.code c s) R
 | Fz {e r s f args fn R1 R} (hg:guardOf s.env.get e.guard=some true) (hc:kA s.env.get e.op=some (f,args)) (hf:T.fn f=some fn) (hp:fn.full=false)
   (h:Ev T (.call f (args.map (gd (λ_=>none) s.H 40)) []) R1) (ha:∀d Hn,R1 (.val d Hn)->(after s e.dst args d Hn).isSome=true)
   (t:∀d Hn s',R1 (.val d Hn)->after s e.dst args d Hn=some s'->Ev T (.ops r s') R):Ev T (.ops (e::r) s) R
 | Fy {e r s f args fn R1 R} (hg:guardOf s.env.get e.guard=some true) (hc:kA s.env.get e.op=some (f,args)) (hf:T.fn f=some fn) (hp:fn.full=true)
   (h:Ev T (.call f args s.H) R1) (t:∀d H',R1 (.val d H')->Ev T (.ops r { s with env:=put s.env e.dst d,H:=H' }) R):Ev T (.ops (e::r) s) R
 | LR {e r s v args rf env0 Rd Ra Rb R} (hg:guardOf s.env.get e.guard=some true) (hc:yieldOf s.env.get e.op=some (v,args)) (hv:s.H[v]? = some (.ia rf env0 .ready)) (hR:T.round rf=some Rd) (hl:args.length=Rd.params.length)
   (ha:Ev T (.code Rd.a { env:=tR Rd.params args env0,H:=s.H,iq:=true }) Ra) (hn:∀o,Ra (.out o)->o.stop=false/\∃kY,o.st.H[v]? = some (.ia rf kY .ready))
   (hb:∀s1 kY,Ra (.out (.norm s1))->s1.H[v]? = some (.ia rf kY .ready)->Ev T (.code Rd.b { s1 with H:=s1.H.set v (.ia rf kY .busy) }) Rb)
   (hm:∀o,Rb (.out o)->∃ly,o.st.H[v]? = some (.ia rf ly .busy))
   (t:∀o ly,Rb (.out o)->o.st.H[v]? = some (.ia rf ly .busy)->Ev T (.ops r { s with env:=put s.env e.dst (.b !o.stop),H:=o.st.H.set v (.ia rf ly o.Ad) }) R):Ev T (.ops (e::r) s) R
 | next {e r s x v m since seen kk es R} (hg:guardOf s.env.get e.guard=some true) (iy:e.op = .nextM x) (hx:ev s.env.get x = .ptr v 0 0) (hv:s.H[v]? = some (.iX (.gx m) since seen)) (hm:s.H[m]? = some (.map kk es)) (hs:es.length=since)
   (h0:(∀i,i<es.length->i∈seen)->Ev T (.ops r { s with env:=put s.env e.dst (.tup [.b false]) }) R)
   (h1:∀i k d,es[i]? = some (k,d)->i ∉ seen->Ev T (.ops r { s with env:=put s.env e.dst (.tup [.b true,se k,d]),H:=s.H.set v (.iX (.gx m) since (seen ++ [i])) }) R):Ev T (.ops (e::r) s) R
 | Iy {s R} (h:R (.tr [] s)):Ev T (.trace [] s) R
 | IA {e r s d δ R1 R} (hg:guardOf s.env.get e.guard=some true) (h:gH s.env.get s.H s.H.length e.op=some (d,δ))
   (t:Ev T (.trace r { s with env:=put s.env e.dst d,H:=δ.app s.H (Al.last s.H) }) R1) (k:∀rs s',R1 (.tr rs s')->R (.tr (⟨gK s.env.get s.H e.op,jO s.H.length δ⟩::rs) s')):Ev T (.trace (e::r) s) R
 | Iz {e r s R1 R} (hg:guardOf s.env.get e.guard=some false) (t:Ev T (.trace r { s with env:=put s.env e.dst (.val undef) }) R1) (k:∀rs s',R1 (.tr rs s')->R (.tr (⟨[],[]⟩::rs) s')):Ev T (.trace (e::r) s) R
 | Iv {e r s f args fn d R0 R1 R} (hg:guardOf s.env.get e.guard=some true) (hc:kA s.env.get e.op=some (f,args)) (hf:T.fn f=some fn) (hp:fn.full=false)
   (h:Ev T (.call f (args.map (gd (λ_=>none) s.H 40)) []) R0) (h0:∀d' Hn,R0 (.val d' Hn)->d'=d/\Hn = []) (hr:(if gw args then closed d else flat d)=true)
   (t:Ev T (.trace r { s with env:=put s.env e.dst d }) R1) (k:∀rs s',R1 (.tr rs s')->R (.tr (⟨gK s.env.get s.H e.op,[]⟩::rs) s')):Ev T (.trace (e::r) s) R
 | Iw {e r s f as args fn d ob R0 R1 R} (hg:guardOf s.env.get e.guard=some true) (iy:e.op = .callN f as) (ha:args=as.map (ev s.env.get)) (hf:T.fn f=some fn) (hp:fn.full=false)
   (h:Ev T (.call f (args.map (gd (λ_=>none) s.H 40)) []) R0) (h0:∀d' Hn,R0 (.val d' Hn)->d'=d/\Hn = [ob]) (hr:(if gw args then mL d&&nY ob else oH d&&pn ob)=true)
   (t:Ev T (.trace r { s with env:=put s.env e.dst (ku s.H.length d),H:=s.H ++ [ob] }) R1) (k:∀rs s',R1 (.tr rs s')->R (.tr (⟨gK s.env.get s.H e.op,[(s.H.length,none)]⟩::rs) s')):Ev T (.trace (e::r) s) R
 | Ix {e r s f as args fn d v R0 R1 R} (hg:guardOf s.env.get e.guard=some true) (iy:e.op = .callN f as) (ha:args=as.map (ev s.env.get)) (hf:T.fn f=some fn) (hp:fn.full=false)
   (hS:∀u∈(args.map (iv s.H 40)).flatten,u=v) (hv:v∈(args.map (iv s.H 40)).flatten) (gP:(rowsOf s.H v).isSome=true) (gG:gw (args.map (gd (λ_=>none) s.H 40))=true)
   (h:Ev T (.call f (args.map (gd (λ_=>none) s.H 40)) []) R0) (h0:∀d' Hn,R0 (.val d' Hn)->d'=d/\Hn = []) (hr:closed d=true)
   (t:Ev T (.trace r { s with env:=put s.env e.dst d,H:=s.H.set v .dead }) R1) (k:∀rs s',R1 (.tr rs s')->R (.tr (⟨gK s.env.get s.H e.op,[(v,none)]⟩::rs) s')):Ev T (.trace (e::r) s) R
 | lU {jz l s R1 R} (t:Ev T (.trace l s) R1) (hp:∀rs s',R1 (.tr rs s')->vM jz rs=true/\R (.out (.norm s'))):Ev T (.code (.lU jz l) s) R
 | mF {jz l es s R1 R} (t:Ev T (.trace l s) R1) (hp:∀rs s',R1 (.tr rs s')->vM jz rs=true) (k:∀rs s',R1 (.tr rs s')->Ev T (.ops es s') R):Ev T (.code (.mF jz l es) s) R
 | skip {s R} (h:R (.out (.norm s))):Ev T (.code .skip s) R
 | FK {l s R} (h:Ev T (.ops l s) R):Ev T (.code (.ops l) s) R
 | seq {a b s R1 R} (h:Ev T (.code a s) R1) (k:∀s',R1 (.out (.norm s'))->Ev T (.code b s') R) (hs:∀o,R1 (.out o)->o.stop=true->R (.out o)):Ev T (.code (.seq a b) s) R
 | cond {c a b s x R} (hc:ev s.env.get c = .val (.bool x)) (h:Ev T (.code (if x then a else b) s) R):Ev T (.code (.cond c a b) s) R
 | block {id live a s R1 R} (h:Ev T (.code a s) R1) (k:∀o,R1 (.out o)->R (.out (lG id s.H.length live o))):Ev T (.code (.block id live a) s) R
 | loop {live a s R} (h:Ev T (.loop s.H.length live a { s with env:=forget live s.env }) R):Ev T (.code (.loop live a) s) R
 | zR {n live a s R1 R} (h:Ev T (.code a s) R1) (k:∀s',R1 (.out (.norm s'))->Ev T (.loop n live a (cut n live s')) R) (hs:∀o,R1 (.out o)->o.stop=true->R (.out o)):Ev T (.loop n live a s) R
 | nW {rf live x s f first cap fn R1 R} (hr:s.iq=false) (hx:ev s.env.get x = .fn (.func f) first cap) (hf:T.fn f=some fn) (hp:fn.full=true)
   (h:Ev T (.call f (first ++ [.iP (s.H.length+1)]++cap) (s.H ++ [.jv,.ia rf (forget live s.env) .ready])) R1)
   (k:∀d H',R1 (.val d H')->∃env st o,H'[s.H.length+1]? = some (.ia rf env st)/\z6 { s with H:=H'.set (s.H.length+1) .dead,marks:=s.H.length::s.marks } st=some o/\R (.out o)):Ev T (.code (.nW rf live x) s) R
 | exit {id s R} (h:R (.out (.exit id s))):Ev T (.code (.exit id) s) R
 | ret {s R} (h:R (.out (.ret s))):Ev T (.code .ret s) R
 | call {f args H fn R1 R} (own:Nat) (hf:T.fn f=some fn) (hl:args.length<=fn.ntmps) (h:Ev T (.code fn.body { env:=tJ args,H:=H }) R1)
   (k:∀o,R1 (.out o)->∃d H',finish fn own H.length o=some (d,H')/\R (.val d H')):Ev T (.call f args H) R
 | sort {f g fn sz v gen t H R} {α:Type} (fc:α->List D) (l:List α) (cf:α->α->Int) (hs:T.sort f=some sz) (hg:T.fn g=some fn) (hl:∀a∈l,(fc a).length=sz) (gG:∀a∈l,gw (fc a)=true) (h0:0<l.length) (wG:l.length<4611686018427387904)
   (D2:∀x∈l,¬cf x x<0) (tr:∀x∈l,∀y∈l,∀z∈l,cf x y<0->cf y z<0->cf x z<0) (nt:∀x∈l,∀y∈l,∀z∈l,¬cf x y<0->¬cf y z<0->¬cf x z<0)
   (hc:∀x∈l,∀y∈l,Ev T (.call g [.agg (fc x),.agg (fc y)] []) (λr=>∃H',r = .val (.i (cf x y)) H')) (hv:H[v]? = some (.row t gen (l.map fc).flatten))
   (k:∀l':List α,l'.Perm l->l'.Pairwise (λx y=>¬cf y x<0)->R (.val (.tup []) (H.set v (.row t gen (l'.map fc).flatten)))):Ev T (.call f [.fM v gen sz 0 l.length,.fn (.func g) [] []] H) R
 | Ew {f sz x H R} (hs:T.sort f=some sz) (k:R (.val (.tup []) H)):Ev T (.call f [.fX,x] H) R
 | sV {f v gen t H R} (l:List Int) (hs:T.sV f=true) (h0:0<l.length) (wG:l.length<4611686018427387904) (hv:H[v]? = some (.row t gen (l.map λn=>D.i n)))
   (k:R (.val (.tup []) (H.set v (.row t gen ((l.mergeSort λx y=>decide (x<=y)).map λn=>D.i n))))):Ev T (.call f [.fM v gen 1 0 l.length] H) R
 | sD {f v gen t zs H R} (l:List Int) (i:Nat) (hs:T.sD f=true) (hi:i<l.length) (hv:H[v]? = some (.row t gen (l.map (λn=>D.i n)++zs)))
   (k:R (.val (.fM v gen 1 0 (l.length-1)) (H.set v (.row t gen ((l.take i++l.drop (i+1) ++ [0]).map (λn=>D.i n)++zs))))):Ev T (.call f [.fM v gen 1 0 l.length,.i i,.i ((i:Int)+1)] H) R
end Go.AL
namespace Go.AL
open Go
def mD(f:gL):Option Nat->D->gL
 | some k,d=>λt=>if k=t then d else f t
 | none,_=>f
theorem HT(env:Env)(dst:Option Nat)(d:D):(put env dst d).get=mD env.get dst d:=by
 cases dst with
 | none=>rfl
 | some k=>funext t;simp[put,Env.wD,mD]
def Qc:Option (Nat×Bool)->List Nat
 | some (t,_)=>[t]
 | none=>[]
def looks(e:gR):List Nat:=gX e.op++Qc e.guard
inductive Ef(C:FuncId->List D->D->U->Prop)(f:gL)(H:U)(e:gR)(n:Nat):Rc->D->Dl->Prop
 | op {d δ} (hg:guardOf f e.guard=some true) (h:gH f H n e.op=some (d,δ)) (hf:Fits n δ H):Ef C f H e n ⟨gK f H e.op,jO n δ⟩ d δ
 | off (hg:guardOf f e.guard=some false):Ef C f H e n ⟨[],[]⟩ (.val undef) .no
 | call {g args d} (hg:guardOf f e.guard=some true) (hc:kA f e.op=some (g,args))
   (h:C g (args.map (gd (λ_=>none) H 40)) d []) (hr:(if gw args then closed d else flat d)=true):Ef C f H e n ⟨gK f H e.op,[]⟩ d .no
 | callN {g as args d ob} (hg:guardOf f e.guard=some true) (iy:e.op = .callN g as) (ha:args=as.map (ev f))
   (h:C g (args.map (gd (λ_=>none) H 40)) d [ob]) (hr:(if gw args then mL d&&nY ob else oH d&&pn ob)=true) (hf:Fits n (.new ob) H):Ef C f H e n ⟨gK f H e.op,jO n (.new ob)⟩ (ku n d) (.new ob)
 | Az {g as args d v} (hg:guardOf f e.guard=some true) (iy:e.op = .callN g as) (ha:args=as.map (ev f)) (hS:∀u∈(args.map (iv H 40)).flatten,u=v) (hv:v∈(args.map (iv H 40)).flatten) (gP:(rowsOf H v).isSome=true)
   (h:C g (args.map (gd (λ_=>none) H 40)) d []) (gG:gw (args.map (gd (λ_=>none) H 40))=true) (hr:closed d=true):Ef C f H e n ⟨gK f H e.op,[(v,none)]⟩ d (.obj v .dead)
theorem guard_congr{f f':gL}{g:Option (Nat×Bool)}(h:∀t∈Qc g,f t=f' t):guardOf f g=guardOf f' g:=by
 cases g with
 | none=>rfl
 | some p=>simp only[guardOf,h p.1 (by simp[Qc])]
theorem abu{x:Fp}{H1 H2:U}(h:Alike x H1 H2):Alike x H2 H1:=by
 obtain⟨v,r⟩:=x
 cases r with
 | none=>exact h.symm
 | some q=>
  rcases h with h|⟨t,g,cs,ds,h1,e,d,c⟩
  .exact .inl h.symm
  .exact .inr ⟨t,g,ds,cs,e,h1,d.symm,λi a b=>(c i a b).symm⟩
theorem Wg{n:Nat}{δ:Dl}{H H':U}(h:tU (jO n δ) H H')(a:Fits n δ H):Fits n δ H':=by
 cases δ with
 | no=>trivial
 | obj v ob=>trivial
 | new ob=>
  have e:H[n]? = H'[n]? := h (n,none) (by simp[jO]);show H'[n]? = some .lL;rw[<-e];exact a
 | cells v o xs=>
  obtain⟨t,g,cs,h1,d⟩:=a;rcases h (v,some (o,xs.length)) (by simp[jO])with h|⟨f,l,i,ds,b,c,k,j⟩
  .exact⟨t,g,cs,h▸h1,d⟩
  .rw[h1]at b;cases b;exact⟨t,g,ds,c,by omega⟩
theorem Oe{H H':U}{v:Nat}(h:Alike (v,none) H H'):rowsOf H v=rowsOf H' v:=by have e:H[v]? = H'[v]? := h;simp only[rowsOf,e]
theorem Pd{f:gL}{H:U}{op:iD}{g:FuncId}{args:List D}(i:kA f op=some (g,args)){H':U}(h:tU (gK f H op) H H') :
  gK f H' op=gK f H op/\args.map (gd (λ_=>none) H' 40)=args.map (gd (λ_=>none) H 40):=by
 have key:∀args:List D,(∀v∈(args.map (iv H 40)).flatten,rowsOf H v=rowsOf H' v)->args.map (iv H' 40)=args.map (iv H 40)/\args.map (gd (λ_=>none) H' 40)=args.map (gd (λ_=>none) H 40):=by intro args j;have h1:∀d∈args,∀v∈iv H 40 d,rowsOf H v=rowsOf H' v:=λd e v c=>j v (bh.2 ⟨_,ao.2 ⟨d,e,rfl⟩,c⟩);exact⟨au λd e=>(HY 40 d (h1 d e)).1,au λd e=>(HY 40 d (h1 d e)).2⟩
 cases op<;>first|(cases i;done)|skip
 case call k as=>
  cases i;obtain⟨a,b⟩:=key (as.map (ev f)) λv c=>Oe (h (v,none) (ao.2 ⟨v,c,rfl⟩));exact⟨by simp only[gK,a],b⟩
 case callN k as=>
  cases i;obtain⟨a,b⟩:=key (as.map (ev f)) λv c=>Oe (h (v,none) (ao.2 ⟨v,c,rfl⟩));exact⟨by simp only[gK,a],b⟩
 case callv k as=>
  simp only[gK,i]at h ⊢;obtain⟨a,b⟩:=key args λv c=>Oe (h (v,none) (ao.2 ⟨v,c,rfl⟩));exact⟨by rw[a],b⟩
theorem aeK{f:gL}{H H':U}{op:iD}(a:kA f op=none):gK f H' op=gK f H op:=by
 cases op<;>first|rfl|(cases a;done)|skip
 case callv=>simp only[gK,a]
 case len k x=>cases k<;>rfl
theorem abY{f:gL}{H:U}{n:Nat}{op:iD}{r:D×Dl}(h:gH f H n op=some r):kA f op=none:=by cases op<;>first|rfl|cases h
variable{C:FuncId->List D->D->U->Prop}
theorem Ef.local{f f':gL}{H H':U}{e:gR}{n:Nat}{rc:Rc}{d:D}{δ:Dl}(h:Ef C f H e n rc d δ)(E:∀t∈looks e,f t=f' t)(j:tU (rc.R++rc.W) H H'):Ef C f' H' e n rc d δ:=by
 have h1:∀t∈gX e.op,f t=f' t:=λt u=>E t (bt _ u);have p:guardOf f e.guard=guardOf f' e.guard:=guard_congr λt u=>E t (bB _ u)
 cases h with
 | op hg B s=>
  have k:gK f H e.op=gK f' H' e.op:=by rw[ME h1,aeK (abY (by rw[<-Ux h1];exact B))]
  rw[k];refine .op (p▸hg) ?_ (Wg j.right s);rw[<-Ux h1,<-abv (H1:=H) j.left];exact B
 | off hg=>exact .off (p▸hg)
 | call hg i l o=>
  obtain⟨a,b⟩:=Pd i j.left;have k:gK f H e.op=gK f' H' e.op:=by rw[<-a,ME h1]
  rw[k];exact .call (p▸hg) (by rw[<-LV h1];exact i) (by rw[b];exact l) o
 | @callN g w args _ _ hg c q l o s=>
  have i:kA f e.op=some (g,args):=by rw[c,q];rfl
  obtain⟨a,b⟩:=Pd i j.left;have k:gK f H e.op=gK f' H' e.op:=by rw[<-a,ME h1]
  rw[k];have m:kA f' e.op=some (g,args):=by rw[<-LV h1];exact i
  have r:args=w.map (ev f'):=by rw[c]at m;cases m;rfl
  exact .callN (p▸hg) c r (by rw[b];exact l) o (Wg j.right s)
 | @Az g w args _ v hg c q hS F G l I o=>
  have i:kA f e.op=some (g,args):=by rw[c,q];rfl
  obtain⟨a,b⟩:=Pd i j.left;have k:gK f H e.op=gK f' H' e.op:=by rw[<-a,ME h1]
  rw[k];have m:kA f' e.op=some (g,args):=by rw[<-LV h1];exact i
  have r:args=w.map (ev f'):=by rw[c]at m;cases m;rfl
  have A:(args.map (iv H' 40)).flatten=(args.map (iv H 40)).flatten:=by have z:=a;rw[c]at z;simp only[gK,<-q]at z;exact(List.map_inj_right (λx y h=>(Prod.mk.inj h).1)).1 z
  have J:rowsOf H v=rowsOf H' v:=Oe (j.right (v,none) (by simp));exact .Az (p▸hg) c r (by rw[A];exact hS) (by rw[A];exact F) (by rw[<-J];exact G) (by rw[b];exact l) (by rw[b];exact I) o
theorem Ef.fits{f:gL}{H:U}{e:gR}{n:Nat}{rc:Rc}{d:D}{δ:Dl}(h:Ef C f H e n rc d δ):Fits n δ H/\rc.W=jO n δ:=by
 cases h with
 | op _ _ a=>exact⟨a,rfl⟩
 | off=>exact⟨trivial,rfl⟩
 | call=>exact⟨trivial,rfl⟩
 | callN _ _ _ _ _ a=>exact⟨a,rfl⟩
 | Az=>exact⟨trivial,rfl⟩
def yx(a b:gR):Bool:=
 (match a.dst with|some k => !(looks b).contains k&&b.dst != some k|none=>true)&&(match b.dst with|some k => !(looks a).contains k|none=>true)
def vO(a b:Rc):Bool:=ua a.W (b.R++b.W)&&ua b.W (a.R++a.W)
theorem aaW{f:gL}{dst:Option Nat}{d:D}{l:List Nat}(h:∀k,dst=some k->k ∉ l):∀t∈l,mD f dst d t=f t:=by
 intro t a
 cases dst with
 | none=>rfl
 | some k=>
  simp only[mD];rw[if_neg];rintro rfl;exact h _ rfl a
theorem anW{f:gL}{a b:Option Nat}{x y:D}(h:∀k,a=some k->b≠some k):mD (mD f a x) b y=mD (mD f b y) a x:=by
 cases a with
 | none=>rfl
 | some k=>
  cases b with
  | none=>rfl
  | some j=>
   have d:j≠k:=λe=>h k rfl (by rw[e]);funext t;simp only[mD]
   by_cases h1:j=t<;>by_cases c:k=t<;>simp[h1,c]
   exact absurd (h1.trans c.symm) d
theorem ant{a b:gR}(h:yx a b=true):(∀k,a.dst=some k->k ∉ looks b)/\(∀k,b.dst=some k->k ∉ looks a)/\(∀k,a.dst=some k->b.dst≠some k):=by
 unfold yx at h;simp only[Bool.and_eq_true]at h;refine⟨λk c=>?_,λk c=>?_,λk c=>?_⟩
 .have:=h.1;rw[c]at this;simp at this;exact this.1
 .have:=h.2;rw[c]at this;simpa using this
 .have:=h.1;rw[c]at this;simp at this;exact this.2
theorem swap{f:gL}{H:U}{a b:gR}{n m:Nat}{g e:Rc}{x y:D}{δ c:Dl}(l:Ef C f H a n g x δ)(w:Ef C (mD f a.dst x) (lx n δ H) b m e y c)
  (hs:yx a b=true) (d:vO g e=true) :
  Ef C f H b m e y c/\Ef C (mD f b.dst y) (lx m c H) a n g x δ/\mD (mD f a.dst x) b.dst y=mD (mD f b.dst y) a.dst x/\lx m c (lx n δ H)=lx n δ (lx m c H):=by
 obtain⟨s1,r,q⟩:=ant hs;simp only[vO,Bool.and_eq_true]at d;obtain⟨p,j⟩:=l.fits;have k:Ef C f H b m e y c:=w.local (aaW s1) (Us p (by rw[<-j];exact d.1));obtain⟨o,i⟩:=k.fits;refine⟨k,l.local (λt v=>(aaW r t v).symm) λz h=>abu (Us o (by rw[<-i];exact d.2) z h),anW q,aod p o ?_⟩;rw[<-j,<-i];simp only[ua,List.all_eq_true]at d ⊢;exactλu s z h=>d.1 u s z (bB _ h)
theorem R8{o:Option D}{d:D}{δ:Dl}(h:lift o=some (d,δ)):δ = .no:=by cases o<;>simp[lift]at h;exact h.2.symm
theorem SM{f:gL}{H:U}{e:gR}{n:Nat}{rc:Rc}{d:D}{δ:Dl}(h:Ef C f H e n rc d δ)(a:HR e.op=true):rc.R = []/\rc.W = []:=by
 cases h with
 | op hg c j=>
  cases b:e.op<;>rw[b]at c a<;>simp only[gH]at c<;>first|(cases a;done)|skip
  case len k x=>
   have:=R8 c;subst this;cases k<;>first|(cases a;done)|exact⟨rfl,rfl⟩
  all_goals
   have:=R8 c;subst this;exact⟨rfl,rfl⟩
 | off hg=>exact⟨rfl,rfl⟩
 | call hg g h i=>cases b:e.op<;>rw[b]at g a<;>first|(cases a;done)|(cases g;done)
 | callN _ b=>rw[b]at a;cases a
 | Az _ b=>rw[b]at a;cases a
theorem Z7{f:gL}{H:U}{e:gR}{n:Nat}{rc:Rc}{d:D}{δ:Dl}(h:Ef C f H e n rc d δ)(a:SU e.op=true):rc.W = []:=by
 by_cases g:HR e.op=true
 .exact(SM h g).2
 .cases h with
  | op hg c i=>
   cases b:e.op<;>rw[b]at c a g<;>simp only[gH]at c<;>first|(cases a;done)|(exact absurd rfl g)|skip
   case call=>cases c
   case callv=>cases c
   all_goals
    have:=R8 c;subst this;rfl
  | off hg=>rfl
  | call=>rfl
  | callN _ b=>rw[b]at a;cases a
  | Az _ b=>rw[b]at a;cases a
theorem aaN{f f':gL}{H H':U}{a b:gR}{n m:Nat}{g e:Rc}{x y:D}{δ k:Dl}(j:Ef C f H a n g x δ)(i:Ef C f' H' b m e y k)(h:OA a.op b.op=true):vO g e=true:=by
 simp only[OA,bM,Bool.and_eq_true]at h;rcases h with(h|h)|⟨h1,l⟩
 .obtain⟨d,c⟩:=SM j h;simp[vO,d,c,ua]
 .obtain⟨d,c⟩:=SM i h;simp[vO,d,c,ua]
 .simp[vO,Z7 j h1,Z7 i l,ua]
structure mX where
 k:Nat
 e:gR
 n:Nat
 rc:Rc
inductive Tx(C:FuncId->List D->D->U->Prop):gL->U->List mX->gL->U->Prop
 | nil {f H}:Tx C f H [] f H
 | cons {f H it r d δ f' H'} (h:Ef C f H it.e it.n it.rc d δ) (t:Tx C (mD f it.e.dst d) (lx it.n δ H) r f' H'):Tx C f H (it::r) f' H'
theorem Tx.each{f:gL}{H:U}{l:List mX}{f':gL}{H':U}(h:Tx C f H l f' H'):∀a∈l,∃f H d δ,Ef C f H a.e a.n a.rc d δ:=by
 induction h with
 | nil=>intro a b;cases b
 | cons h t c=>
  intro a b;rcases aw.1 b with rfl|b
  .exact⟨_,_,_,_,h⟩
  .exact c a b
theorem Tx.front{a:mX}{post:List mX}{f':gL}{H':U}:∀ {pre:List mX} {f:gL} {H:U},Tx C f H (pre++a::post) f' H'->(∀p∈pre,yx p.e a.e=true/\vO p.rc a.rc=true) ->
  ∃d δ,Ef C f H a.e a.n a.rc d δ/\Tx C (mD f a.e.dst d) (lx a.n δ H) (pre++post) f' H'
 | [],f,H,h,_=>by
  cases h with
  | cons h t=>exact⟨_,_,h,t⟩
 | p::pre,f,H,h,ha=>by
  cases h with
  | @cons _ _ _ _ d δ _ _ h t=>
   obtain⟨y,b,i,j⟩:=Tx.front (pre:=pre) t λq k=>ha q (by simp[k]);obtain⟨s1,g,e,c⟩:=swap h i (ha p (by simp)).1 (ha p (by simp)).2;refine⟨y,b,s1,.cons g ?_⟩;rw[<-e,<-c];exact j
end Go.AL
namespace Go.AL
open Go
structure SX(G:GT)(N:Nat)(c:Ctx)(w:World)(f:gL)(H:U)(ms:List Nat)(a:Act):Prop where
 fV:gv G c H w
 env:kK c w f a
 size:N<=a.tmps.size
 marks:rO c ms a.defers
section
variable{P:Program}{G:GT}{c:Ctx}{w:World}{f:gL}{H:U}{ms:List Nat}{a:Act}{N:Nat}
theorem amm{f:gL}{a:Act}{c:Ctx}{w:World}(b:kK c w f a)(hN:N<=a.tmps.size){dst:Option Tmp}(g:s9 N dst=true){v:Value}{d:D}(i:fR c w v d) :
  kK c w (mD f dst d) (a.put dst v):=by
 cases dst with
 | none=>exact b
 | some t=>
  have h:t<a.tmps.size:=aN (by simpa[s9]using g) hN;intro k;simp only[mD,Act.put];split
  .simp_all
  .rename_i e;have:(a.tmps.setIfInBounds t v).getD k undef=a.tmps.getD k undef:=by simp_all
   rw[this];exact b k
theorem SX.next{c':Ctx}{w':World}{H':U}(hs:SX G N c w f H ms a)(fV:gv G c' H' w')(e:Step H.length c H w c' H' w'){dst:Option Tmp}(i:s9 N dst=true)
  {v:Value} {d:D} (g:fR c' w' v d):SX G N c' w' (mD f dst d) H' ms (a.put dst v) where
 fV:=fV
 env:=amm (kK.carry (λ_ _ h=>h.pJ hs.fV.toHeapOK e) hs.env) hs.size i g
 size:=by rw[ZT];exact hs.size
 marks:=by
  rw[put_defers];refine hs.marks.mono λv L h=>e.old v 0 L ?_ h;rcases bE v H.length with b|b
  .exact b
  .rw[hs.fV.out v 0 b]at h;cases h
theorem abw{op:iD}{n b:Nat}{d:D}{δ:Dl}(h:gH f H n op=some (d,δ))(a:∀ob,δ≠.new ob):gH f H b op=some (d,δ):=by
 cases op<;>simp only[gH]at h ⊢ <;> first|exact h|skip
 case box=>
  unfold sA at h;split at h
  .grind
  .cases h
 case alloc=>cases h;exact absurd rfl (a _)
 case buildSl=>
  unfold yT at h;split at h
  .grind
  .cases h
 case mkmap=>cases h;exact absurd rfl (a _)
 case mksl=>
  unfold D7 at h;split at h
  .grind
  .cases h
 case app=>
  unfold sy at h ⊢;split at h
  .grind
  .cases h
theorem FD{d:D}(h:closed d=true):mL d=true/\ku H.length d=d:=by
 cases d<;>first|(cases h;done)|skip
 case tup ds=>
  have b:=lH h;refine⟨?_,?_⟩
  .simp only[mL,w5,List.all_eq_true];intro d a;have:=b d a;cases d<;>first|rfl|exact this
  .simp only[ku];congr 1
   conv=>rhs;rw[<-aY ds]
   refine au λd a=>?_;have:=b d a;cases d<;>first|(cases this;done)|rfl
 case agg ds=>
  have b:=lH h;refine⟨?_,?_⟩
  .simp only[mL,w5,List.all_eq_true];intro d a;have:=b d a;cases d<;>first|rfl|exact this
  .simp only[ku];congr 1
   conv=>rhs;rw[<-aY ds]
   refine au λd a=>?_;have:=b d a;cases d<;>first|(cases this;done)|rfl
 all_goals exact⟨h,rfl⟩
theorem P1{d:D}(h:flat d=true):oH d=true/\ku H.length d=d:=by
 cases d<;>first|(cases h;done)|skip
 case tup ds=>
  have b:∀d∈ds,flat d=true:=λd a=>by obtain⟨i,hi⟩:=aC.1 a;exact C9 h hi
  refine⟨?_,?_⟩
  .simp only[oH,w5,List.all_eq_true];intro d a;have:=b d a;cases d<;>first|rfl|exact this
  .simp only[ku];congr 1
   conv=>rhs;rw[<-aY ds]
   refine au λd a=>?_;have:=b d a;cases d<;>first|(cases this;done)|rfl
 case agg ds=>
  have b:∀d∈ds,flat d=true:=λd a=>by obtain⟨i,hi⟩:=aC.1 a;exact C9 h hi
  refine⟨?_,?_⟩
  .simp only[oH,w5,List.all_eq_true];intro d a;have:=b d a;cases d<;>first|rfl|exact this
  .simp only[ku];congr 1
   conv=>rhs;rw[<-aY ds]
   refine au λd a=>?_;have:=b d a;cases d<;>first|(cases this;done)|rfl
 all_goals exact⟨h,rfl⟩
variable{C:FuncId->List D->D->U->Prop}
theorem Vt(X:∀g args d Hn,C g args d Hn->sF P g=true/\yC P G g args [] d Hn)(hs:SX G N c w f H ms a){A:Array Oper}{o:Oper}{e:gR}{i:Nat}(hA:A[i]? = some o)
  (ho:wv P G N A o=some e) {n:Nat} {rc:Rc} {d:D} {δ:Dl} (hE:Ef C f H e n rc d δ) {x:Option Nat} {m:Nat} {Q:Exit->Act->World->Prop} {K:Act->World->Prop}
  (k:∀c' w' a',SX G N c' w' (mD f e.dst d) (lx n δ H) ms a'->Step H.length c H w c' (lx n δ H) w'->K a' w'):wpOpIn (FW x) m P A Q i K a w:=by
 obtain⟨s1,p,B,z⟩:=y4 ho;unfold wpOpIn;simp only[hA]
 cases hE with
 | op hg h R=>
  have r:=uN hs.env z hg;have s1:=U9 s1 h;simp only[r,if_true]
  have s:∀ {al:Al},mW H al->gH f H al.1 e.op=some (d,δ)->δ.app H al=lx n δ H->o.wpIn (FW x) m P a w K Q:=by
   intro al ib h T;obtain⟨v,w',M,d',H',c',⟨rfl,rfl⟩,fV,q,l⟩:=ZQ (P:=P) (K:=λd' H'=>d'=d/\H'=δ.app H al) hs.fV hs.env ib s1 (Uy h ⟨rfl,rfl⟩);refine⟨λ_ _=>trivial,?_⟩;rw[Oper.semAt_plain (FW x) a.eval o (BS s1)];rw[T]at fV l;have j:=hs.next fV l B q
   rw[<-p]at j;have V:=k c' w' _ j l;rw[p]at V;rcases M with M|⟨M,rfl⟩
   .rw[M];exact V
   .rw[M];exact V
  by_cases Z:∃ob,δ = .new ob
  .obtain⟨ob,rfl⟩:=Z;exact s (al:=Al.lL H n) (mW.lL R) h rfl
  .have Y:∀ob,δ≠.new ob:=λob e=>Z ⟨ob,e⟩;refine s (al:=Al.last H) (mW.last H) (abw h Y) ?_;cases δ<;>first|rfl|exact absurd rfl (Y _)
 | off hg=>
  have r:=uN hs.env z hg;simp only[r,bz,if_false];refine⟨λ_ _=>trivial,?_⟩;have j:=hs.next hs.fV (Step.refl _ _ _ _) B (v:=undef) (d:=.val undef) (.val _)
  rw[<-p]at j;have:=k c w _ j (Step.refl _ _ _ _);rw[p]at this;exact this
 | @call g args d hg t h q=>
  have r:=uN hs.env z hg;have s1:=FG s1 t;simp only[r,if_true];obtain⟨F,I⟩:=X _ _ _ _ h;obtain⟨vs,L,J⟩:=Oj hs.fV hs.env s1 t F
  have jk:(if gw args then mL d&&([]:U).all nY else oH d&&([]:U).all pn)=true/\ku H.length d=d:=by
   by_cases O:gw args=true
   .rw[if_pos O]at q ⊢;obtain⟨a,b⟩:=FD (H:=H) q;exact⟨by simp[a],b⟩
   .rw[if_neg O]at q ⊢;obtain⟨a,b⟩:=P1 (H:=H) q;exact⟨by simp[a],b⟩
  have y:=ZS hs.fV J I jk.1;rw[jk.2,az]at y;refine⟨λ_ _=>trivial,?_⟩;rw[Oper.semAt_plain (FW x) a.eval o (BS s1),L];refine⟨λh=>by simp[Fence.wide]at h,FA.2 (y.mono ?_)⟩;rintro e' w' ⟨v,c',rfl,fV,E,l⟩;have j:=hs.next fV l B E
  rw[<-p]at j;have:=k c' w' _ j l;rw[p]at this;exact this
 | @callN g as args d ob hg S W h q R=>
  have r:=uN hs.env z hg;simp only[r,if_true];have t:kA f e.op=some (g,args):=by rw[S,W];rfl
  have s1:=FG s1 t;obtain⟨F,I⟩:=X _ _ _ _ h;obtain⟨vs,L,J⟩:=Oj hs.fV hs.env s1 t F;have y:=amk hs.fV J I q R;refine⟨λ_ _=>trivial,?_⟩;rw[Oper.semAt_plain (FW x) a.eval o (BS s1),L];refine⟨λh=>by simp[Fence.wide]at h,FA.2 (y.mono ?_)⟩;rintro e' w' ⟨v,c',rfl,fV,E,l⟩;have j:=hs.next fV l B E
  rw[<-p]at j;have:=k c' w' _ j l;rw[p]at this;exact this
 | @Az g as args d v hg S W hS hv gP h O q=>
  have r:=uN hs.env z hg;simp only[r,if_true];have t:kA f e.op=some (g,args):=by rw[S,W];rfl
  have s1:=FG s1 t;obtain⟨F,I⟩:=X _ _ _ _ h;obtain⟨vs,L,J⟩:=Oj hs.fV hs.env s1 t F;have y:=amj hs.fV J hS gP I O q;refine⟨λ_ _=>trivial,?_⟩;rw[Oper.semAt_plain (FW x) a.eval o (BS s1),L];refine⟨λh=>by simp[Fence.wide]at h,FA.2 (y.mono ?_)⟩;rintro e' w' ⟨u,c',rfl,fV,E,l⟩;have j:=hs.next fV l B E
  rw[<-p]at j;have:=k c' w' _ j l;rw[p]at this;exact this
end
end Go.AL
namespace Go.AL
open Go
def y7(A:Array Oper):Bool:=(List.range A.size).all λi=>match A[i]? with
 | some o=>o.after.all λe => !Region.binds .any e||decide (e.on<i)
 | none=>true
def yn(A:Array Oper)(ord:List (List Nat)):Bool:=(List.range A.size).all λi=>match A[i]? with
 | some o=>(ord.getD i []).all λk=>o.after.any λe=>Region.binds .any e&&(e.on == k||(ord.getD e.on []).contains k)
 | none=>true
def SH(l:List gR)(ord:List (List Nat))(c:List (Nat×Nat)):Bool:=(List.range l.length).all λi=>(List.range i).all λk=>
 (ord.getD i []).contains k||(match l[k]?,l[i]? with
  | some a,some b=>yx a b&&(c.contains (k,i)||OA a.op b.op)
  | _,_=>false)
section
variable{P:Program}{G:GT}{A:Array Oper}{ord:List (List Nat)}
theorem ac0(h:y7 A=true){i:Nat}{o:Oper}(hi:A[i]? = some o){e:Edge}(a:e∈o.after)(b:Region.binds .any e=true):e.on<i:=by have:=List.all_eq_true.1 h i (bj.2 (aP.1 hi).1);simp only[hi]at this;have:=cG.1 this e a;simpa[b]using this
theorem ZJ(h:yn A ord=true){i:Nat}{o:Oper}(hi:A[i]? = some o){k:Nat}(b:k∈ord.getD i []):∃e∈o.after,Region.binds .any e=true/\(e.on=k\/k∈ord.getD e.on []):=by have:=List.all_eq_true.1 h i (bj.2 (aP.1 hi).1);simp only[hi]at this;have:=List.all_eq_true.1 this k b;obtain⟨e,c,a⟩:=Array.any_eq_true'.1 this;simp only[Bool.and_eq_true,bM,beq_iff_eq,du]at a;exact⟨e,c,a.1,a.2⟩
structure Left(A:Array Oper)(ord:List (List Nat))(rem:List mX)(listed:Array Bool):Prop where
 size:listed.size=A.size
 iff:∀j,j<A.size->(listed.getD j true=false↔∃it∈rem,it.k=j)
 sorted:rem.Pairwise λp q=>p.k<q.k
 lt:∀it∈rem,it.k<A.size
 down:∀i,i<A.size->listed.getD i false=true->∀k∈ord.getD i [],listed.getD k false=true
theorem agI{rem:List mX}{a:Array Bool}(h:Left A ord rem a){j:Nat}(c:j<A.size):a.getD j false=true\/∃e∈rem,e.k=j:=by
 have d:j<a.size:=by rw[h.size];exact c
 cases b:a.getD j true with
 | false=>exact .inr ((h.iff j c).1 b)
 | true=>left;simp[d]at b ⊢;exact b
theorem ahh{rem:List mX}{a:Array Bool}(h:Left A ord rem a){b:mX}(c:b∈rem):a.getD b.k false=false:=by
 have d:=h.lt b c;have:=(h.iff b.k d).2 ⟨b,c,rfl⟩;have e:b.k<a.size:=by rw[h.size];exact d
 simp[e]at this ⊢;exact this
theorem SV(j:y7 A=true){b:mX}{rem:List mX}{a:Array Bool}(h:Left A ord (b::rem) a):b.k∈Region.ready .any A a:=by
 rw[mem_ready];have d:=h.lt b (by simp);refine⟨(h.iff b.k d).2 ⟨b,by simp,rfl⟩,A[b.k],by simp[d],λe g k=>?_⟩;have l:=ac0 j (i:=b.k) (o:=A[b.k]) (by simp[d]) g k;rcases agI h (show e.on<A.size by omega)with hl|⟨q,c,f⟩
 .exact hl
 .exfalso;rcases aw.1 c with rfl|c
  .omega
  .have:=(bg.1 h.sorted).1 q c;omega
theorem N8(k:yn A ord=true){rem:List mX}{a:Array Bool}(h:Left A ord rem a){i:Nat}(hi:i∈Region.ready .any A a){q:mX}(j:q∈rem):q.k ∉ ord.getD i []:=by
 intro m;obtain⟨_,o,r,g⟩:=mem_ready.1 hi;obtain⟨e,l,n,b⟩:=ZJ k r m;have c:=g e l n;have f:=ahh h j;rcases b with b|b
 .grind
 .have p:e.on<A.size:=by
   rcases bE e.on A.size with d|d
   .exact d
   .have:a.getD e.on false=false:=by
     have:a.size<=e.on:=by rw[h.size];exact d
     simp[dW this]
    rw[this]at c;cases c
  have:=h.down e.on p c q.k b;rw[this]at f;cases f
theorem R6(r:yn A ord=true){pre post:List mX}{b:mX}{a:Array Bool}(h:Left A ord (pre++b::post) a)(hi:b.k∈Region.ready .any A a) :
  Left A ord (pre++post) (a.setIfInBounds b.k true):=by
 have l:(pre++post).Sublist (pre++b::post):=dJ (dX b post) pre
 have x:∀q∈pre++post,q.k≠b.k:=by
  intro q c;have:=bN.1 h.sorted;rcases List.mem_append.1 c with c|c
  .grind
  .have:=(bg.1 this.2.1).1 q c;omega
 have n:=h.lt b (by simp);refine⟨by simp[h.size],λj t=>?_,h.sorted.sublist l,λq c=>h.lt q (l.subset c),λi w hl k m=>?_⟩
 .by_cases e:b.k=j
  .simp_all
  .rw[getD_set_ne true e,h.iff j t];constructor
   .grind
   .grind
 .by_cases e:b.k=i
  .subst e;obtain⟨_,o,v,p⟩:=mem_ready.1 hi;obtain⟨e,s,u,f⟩:=ZJ r v m;have d:=p e s u;rcases f with rfl|f
   .exact getD_set_true d
   .have n:e.on<A.size:=by
     rcases bE e.on A.size with g|g
     .exact g
     .have:a.getD e.on false=false:=by
       have:a.size<=e.on:=by rw[h.size];exact g
       simp[dW this]
      rw[this]at d;cases d
    exact getD_set_true (h.down e.on n d k f)
  .rw[getD_set_ne false e]at hl;exact getD_set_true (h.down i w hl k m)
variable{C:FuncId->List D->D->U->Prop}{N:Nat}
theorem Uz(n:Nat)(δ:Dl)(H:U):(lx n δ H).length=H.length:=by
 cases δ with
 | no=>rfl
 | cells v o xs=>simp only[lx,Dl.app];split<;>simp
 | obj v ob=>simp[lx,Dl.app]
 | new ob=>simp[lx,Dl.app,Al.lL]
theorem Uu(y:∀g args d Hn,C g args d Hn->sF P g=true/\yC P G g args [] d Hn)(x:y7 A=true)(t:yn A ord=true){z:Option Nat}{m:Nat}{Q:Exit->Act->World->Prop}{ms:List Nat}{f':gL}{H':U} :
  ∀(fuel:Nat) (rem:List mX) (b:Array Bool) (c:Ctx) (w:World) (f:gL) (H:U) (a:Act),rem.length=fuel->Left A ord rem b->SX G N c w f H ms a->Tx C f H rem f' H' ->
   (∀e∈rem,∃o,A[e.k]? = some o/\wv P G N A o=some e.e) ->
   (∀p∈rem,∀q∈rem,p.k<q.k->p.k∈ord.getD q.k []\/(yx p.e q.e=true/\vO p.rc q.rc=true)) ->
   (∀c' w' n,SX G N c' w' f' H' ms n->Step H.length c H w c' H' w'->Q .normal n w')->wpAnyIn (FW z) m P .any A Q fuel b a w
 | 0,rem,b,c,w,f,H,a,hl,my,hs,ht,_,_,hQ=>by have:rem = []:=aZ hl;subst this;cases ht;refine⟨?_,hQ c w a hs (Step.refl _ _ _ _)⟩;refine aT.2 λj D=>?_;obtain⟨h1,o,u,_⟩:=mem_ready.1 D;obtain⟨e,s,_⟩:=(my.iff j (aP.1 u).1).1 h1;cases s
 | fuel+1,rem,b,c,w,f,H,a,hl,my,hs,ht,xM,GM,hQ=>by
  refine⟨λh0=>?_,λi hi=>?_⟩
  .cases rem with
   | nil=>cases hl
   | cons e rem=>
    have:=SV x my;rw[h0]at this;cases this
  .obtain⟨h1,o,u,_⟩:=mem_ready.1 hi;obtain⟨e,s,rfl⟩:=(my.iff i (aP.1 u).1).1 h1;obtain⟨pre,post,rfl⟩:=List.append_of_mem s
   have M:∀p∈pre,yx p.e e.e=true/\vO p.rc e.rc=true:=by
    intro p l;have K:p.k<e.k:=(bN.1 my.sorted).2.2 p l e (by simp);rcases GM p (bt _ l) e (by simp) K with h|h
    .exact absurd h (N8 t my hi (bt _ l))
    .exact h
   obtain⟨d,δ,F,E⟩:=ht.front M;obtain⟨o',O,R⟩:=xM e (by simp);have r:∀q∈pre++post,q∈pre++e::post:=λq k=>(dJ (dX e post) pre).subset k;refine Vt y hs O R F λc' w' n J I=>?_;refine Uu y x t fuel (pre++post) _ c' w' _ _ n (by simp at hl ⊢;omega) (R6 t my hi) J E (λq k=>xM q (r q k)) (λp l q k=>GM p (r p l) q (r q k)) λc2 w2 L B v=>?_;rw[Uz]at v;exact hQ c2 w2 L B (I.trans v (Nat.le_refl _))
theorem Uw(g:y7 A=true)(e:yn A ord=true){F:Fence}{m:Nat}{Q:Exit->Act->World->Prop} :
  ∀(lasts:List mX) (ops:List Oper) (b:Array Bool) (a:Act) (w:World),Left A ord lasts b->(∀q∈lasts,∀k,k<q.k->k∈ord.getD q.k [])->lasts.map (λq=>A[q.k]?)=ops.map some ->
   wpListIn F m P A Q ops a w->wpAnyIn F m P .any A Q lasts.length b a w
 | [],ops,b,a,w,my,_,xV,h=>by
  have:ops = []:=by simpa using xV.symm
  subst this;refine⟨aT.2 λj s=>?_,h⟩;obtain⟨h1,o,f,_⟩:=mem_ready.1 s;obtain⟨c,d,_⟩:=(my.iff j (aP.1 f).1).1 h1;cases d
 | q::lasts,ops,b,a,w,my,hl,xV,h=>by
  cases ops with
  | nil=>simp at xV
  | cons o ops=>
   simp only[List.map_cons,de]at xV;refine⟨λh0=>?_,λi hi=>?_⟩
   .have:=SV g my;rw[h0]at this;cases this
   .obtain⟨h1,o',f,_⟩:=mem_ready.1 hi;obtain⟨c,d,rfl⟩:=(my.iff i (aP.1 f).1).1 h1
    have d:c=q:=by
     rcases aw.1 d with h|h
     .exact h
     .have t:q.k<c.k:=(bg.1 my.sorted).1 c h;exact absurd (hl c (a8 _ h) q.k t) (N8 e my hi (q:=q) (by simp))
    subst d;have r:=R6 (pre:=[]) (post:=lasts) e my hi
    have l:∀a w,wpListIn F m P A Q ops a w->wpAnyIn F m P .any A Q lasts.length (b.setIfInBounds c.k true) a w:=λa w h=>
     Uw g e lasts ops _ a w r (λq p=>hl q (a8 _ p)) xV.2 h
    unfold wpOpIn;simp only[xV.1];simp only[wpListIn]at h;split
    .rename_i n;simp only[n,if_true]at h;exact Oper.wpIn_mono l h
    .grind
theorem Uv(E:∀g args d Hn,C g args d Hn->sF P g=true/\yC P G g args [] d Hn)(v:y7 A=true)(r:yn A ord=true){D:Option Nat}{m:Nat}{Q:Exit->Act->World->Prop}{ms:List Nat}{f':gL}{H':U}{lasts:List mX}{ops:List Oper}
  (y:∀q∈lasts,∀k,k<q.k->k∈ord.getD q.k []) (z:lasts.map (λq=>A[q.k]?)=ops.map some) :
  ∀(fuel:Nat) (rem:List mX) (b:Array Bool) (c:Ctx) (w:World) (f:gL) (H:U) (a:Act),rem.length=fuel->Left A ord (rem++lasts) b->SX G N c w f H ms a->Tx C f H rem f' H' ->
   (∀e∈rem,∃o,A[e.k]? = some o/\wv P G N A o=some e.e) ->
   (∀p∈rem,∀q∈rem,p.k<q.k->p.k∈ord.getD q.k []\/(yx p.e q.e=true/\vO p.rc q.rc=true)) ->
   (∀c' w' s,SX G N c' w' f' H' ms s->Step H.length c H w c' H' w'->wpListIn (FW D) m P A Q ops s w')->wpAnyIn (FW D) m P .any A Q (fuel+lasts.length) b a w
 | 0,rem,b,c,w,f,H,a,hl,my,hs,ht,_,_,hQ=>by have:rem = []:=aZ hl;subst this;cases ht;rw[aQ];exact Uw v r lasts ops b a w my y z (hQ c w a hs (Step.refl _ _ _ _))
 | fuel+1,rem,b,c,w,f,H,a,hl,my,hs,ht,xM,GM,hQ=>by
  have F:∀q∈rem,∀l∈lasts,q.k<l.k:=λq j l hl=>(bN.1 my.sorted).2.2 q j l hl;rw[show fuel+1+lasts.length=(fuel+lasts.length)+1 by omega];refine⟨λh0=>?_,λi hi=>?_⟩
  .cases rem with
   | nil=>cases hl
   | cons e rem=>
    have:=SV (rem:=rem++lasts) v my;rw[h0]at this;cases this
  .obtain⟨h1,o,L,_⟩:=mem_ready.1 hi;obtain⟨e,u,rfl⟩:=(my.iff i (aP.1 L).1).1 h1
   have u:e∈rem:=by
    rcases List.mem_append.1 u with h|h
    .exact h
    .cases rem with
     | nil=>cases hl
     | cons q rem=>exact absurd (y e h q.k (F q (by simp) e h)) (N8 r my hi (q:=q) (by simp))
   obtain⟨pre,post,rfl⟩:=List.append_of_mem u;have x:Left A ord (pre++e::(post++lasts)) b:=by simpa using my
   have T:∀p∈pre,yx p.e e.e=true/\vO p.rc e.rc=true:=by
    intro p n;have R:p.k<e.k:=(bN.1 x.sorted).2.2 p n e (by simp);rcases GM p (bt _ n) e (by simp) R with h|h
    .exact absurd h (N8 r x hi (bt _ n))
    .exact h
   obtain⟨d,δ,K,J⟩:=ht.front T;obtain⟨o',V,W⟩:=xM e (by simp);have t:∀q∈pre++post,q∈pre++e::post:=λq j=>(dJ (dX e post) pre).subset j;refine Vt E hs V W K λc' w' s O M=>?_;refine Uv E v r y z fuel (pre++post) _ c' w' _ _ s (by simp at hl ⊢;omega) (by simpa using R6 r x hi) O J (λq j=>xM q (t q j)) (λp n q j=>GM p (t p n) q (t q j)) λc2 w2 S I B=>?_;rw[Uz]at B;exact hQ c2 w2 S I (M.trans B (Nat.le_refl _))
end
end Go.AL
namespace Go.AL
open Go
abbrev room(k:Nat):U:=List.replicate k .lL
section
variable{f:gL}{H:U}{r:Nat}
theorem MI(v:Nat)(o:Ob)(a:o≠.lL):(H++room r)[v]? = some o↔H[v]? = some o:=by grind
theorem S7(v:Nat):rowsOf (H++room r) v=rowsOf H v:=by
 unfold rowsOf
 cases h:H[v]? with
 | none=>
  cases a:(H++room r)[v]? with
  | none=>rfl
  | some o=>
   cases o<;>first|rfl|skip
   rw[MI v _ (by simp)]at a;rw[h]at a;cases a
 | some o=>
  have:(H++room r)[v]? = some o:=by grind
  rw[this]
theorem Ab(v g:Nat):rowAt (H++room r) v g=rowAt H v g:=by rw[Ac,Ac,S7]
theorem Sj(v:Nat):lD (H++room r) v=lD H v:=by
 unfold lD
 cases h:H[v]? with
 | none=>
  cases a:(H++room r)[v]? with
  | none=>rfl
  | some o=>
   cases o<;>first|rfl|skip
   rw[MI v _ (by simp)]at a;rw[h]at a;cases a
 | some o=>
  have:(H++room r)[v]? = some o:=by grind
  rw[this]
theorem Tr(sz:Nat)(d:D):kR sz (H++room r) d=kR sz H d:=by
 cases d<;>first|rfl|skip
 simp only[kR,Ab]
theorem abx(n:Nat)(op:iD):gH f (H++room r) n op=gH f H n op:=by
 cases op<;>simp only[gH]<;>first|rfl|skip
 case ld1=>simp only[wW,Ab]
 case ldN=>simp only[vI,Ab]
 case st1=>simp only[Ce,Ab]
 case stN=>simp only[Ch,Ab]
 case lookup=>simp only[BJ,Sj]
 case mapUpd=>simp only[zS,Sj]
 case len=>simp only[mK,Sj]
 case b2s=>simp only[CR,Tr]
 case app=>simp only[sy,Tr,Ab]
 case copy=>simp only[y5,Tr,Ab]
 case slcArr=>simp only[Ah,Ab]
theorem HZ(k:Nat)(d:D):iv (H++room r) k d=iv H k d/\gd (λ_=>none) (H++room r) k d=gd (λ_=>none) H k d:=
 HY (H1:=H) (H2:=H++room r) k d λv _=>(S7 v).symm
theorem MF(op:iD):gK f (H++room r) op=gK f H op:=by
 have key:∀args:List D,args.map (iv (H++room r) 40)=args.map (iv H 40):=λargs=>au λd _=>(HZ 40 d).1;cases op<;>first|rfl|skip
 case call g args=>simp only[gK,key]
 case callN g args=>simp only[gK,key]
 case callv g args=>simp only[gK,key]
 case len k x=>cases k<;>rfl
theorem aaq{v g:Nat}{x:TypeId×List D}(h:rowAt H v g=some x):v<H.length:=(ae.1 (H9 h)).1
theorem ag0{v:Nat}{x:KK×List (Value×D)}(h:lD H v=some x):v<H.length:=(ae.1 (tI h)).1
def Safe(H:U):Dl->Prop
 | .no=>True
 | .cells v o xs=>∃t g cs,H[v]? = some (.row t g cs)/\o+xs.length<=cs.length
 | .obj v _=>v<H.length
 | .new _=>True
theorem aby{op:iD}{n:Nat}{d:D}{δ:Dl}(h:gH f H n op=some (d,δ)):Safe H δ:=by
 have hl:∀ {o:Option D},lift o=some (d,δ)->Safe H δ:=λh=>by rw[(mf h).2];trivial
 cases op<;>simp only[gH]at h<;>first|exact hl h|(cases h;done)|skip
 case box=>unfold sA at h;split at h<;>cases h;trivial
 case alloc=>cases h;trivial
 case mkmap=>cases h;trivial
 case buildSl=>
  unfold yT at h;split at h
  .split at h<;>cases h;trivial
  .cases h
 case mksl=>
  unfold D7 at h;split at h
  .split at h<;>cases h;trivial
  .cases h
 case st1=>
  unfold Ce at h;split at h
  .split at h
   .rename_i v g o _ t cs a;split at h
    .rename_i c;cases h;exact⟨_,_,_,H9 a,by simp;omega⟩
    .cases h
   .cases h
  .cases h
 case stN=>
  unfold Ch at h;split at h
  .split at h
   .rename_i v g o xs _ _ t cs a;split at h
    .rename_i c;cases h;exact⟨_,_,_,H9 a,by simp;omega⟩
    .cases h
   .cases h
  .cases h
 case mapUpd=>
  unfold zS at h;split at h
  .split at h
   .rename_i b;split at h
    .cases h;exact ag0 b
    .cases h
   .cases h
  .cases h
 case app=>
  unfold sy at h;split at h
  .split at h
   .split at h
    .rename_i a;split at h
     .cases h;exact aaq a
     .cases h
    .cases h
   .split at h
    .cases h;trivial
    .cases h
   .split at h
    .cases h;trivial
    .split at h
     .cases h;trivial
     .cases h
   .cases h
  .cases h
 case copy=>
  unfold y5 at h;split at h
  .split at h
   .rename_i a;split at h
    .cases h;exact aaq a
    .cases h
   .cases h
  .cases h;trivial
  .cases h
theorem O8{δ:Dl}(hs:Safe H δ)(k:Nat)(c:(δ.app H (Al.last H)).length<=k) :
  lx H.length δ (H++room (k-H.length))=δ.app H (Al.last H)++room (k-(δ.app H (Al.last H)).length)/\Fits H.length δ (H++room (k-H.length)):=by
 cases δ with
 | no=>exact⟨rfl,trivial⟩
 | cells v o xs=>
  obtain⟨t,g,cs,h1,d⟩:=hs;have b:=(ae.1 h1).1;have a:(H++room (k-H.length))[v]? = some (.row t g cs):=by rw[ah b];exact h1
  refine⟨?_,t,g,cs,a,d⟩;simp only[lx,Dl.app,a,h1,ar];rw[aO _ _ b]
 | obj v ob=>
  refine⟨?_,trivial⟩;simp only[lx,Dl.app,ar];rw[aO _ _ hs]
 | new ob=>
  simp only[Dl.app,Al.last,aj,aH,cV,aQ]at c ⊢;have e:k-H.length=(k-(H.length+1))+1:=by omega
  refine⟨?_,?_⟩
  .simp only[lx,Dl.app,Al.lL];rw[e,room,bn,dw _ _ (Nat.le_refl _)];simp[aJ]
  .show(H++room (k-H.length))[H.length]? = some .lL;rw[e,ai (Nat.le_refl _)];simp[bn]
end
section
variable{G:GT}{c:Ctx}{w:World}{H:U}
theorem NG{r v:Nat}{L:Loc}:lQ c (H++room r) v L↔lQ c H v L:=by
 constructor
 .rintro⟨o,b,a,d⟩;rw[MI v o (by rintro rfl;cases a)]at b;exact⟨o,b,a,d⟩
 .rintro⟨o,b,a,d⟩;exact⟨o,(MI v o (by rintro rfl;cases a)).2 b,a,d⟩
theorem SG{r b:Nat}:l7 c (H++room r) b↔l7 c H b:=by
 constructor
 .rintro⟨v,L,hl,r⟩;exact⟨v,L,NG.1 hl,r⟩
 .rintro⟨v,L,hl,r⟩;exact⟨v,L,NG.2 hl,r⟩
theorem aan(h:gv G c H w)(r:Nat):gv G c (H++room r) w where
 inj v v' L L' h1 h2:=h.inj v v' L L' (NG.1 h1) (NG.1 h2)
 lt b hb:=h.lt b (SG.1 hb)
 nF b hb:=h.nF b (SG.1 hb)
 kG:=h.kG
 out v k a:=h.out v k (by simp at a;omega)
 mn v o k ho hk:=by
  rcases bE v H.length with a|a
  .rw[ah a]at ho;exact h.mn v o k ho hk
  .exact h.out v k a
 ob v o ho:=by
  rcases bE v H.length with a|a
  .rw[ah a]at ho;exact h.ob v o ho
  .rw[ai a,List.getElem?_replicate]at ho;split at ho
   .cases ho;simp only[gV];exact h.out v _ a
   .cases ho
 gl:=h.gl
 rt:=h.rt
theorem aao(r n:Nat):Step n c H w c (H++room r) w:=
 ⟨⟨rfl,Nat.le_refl _⟩,rfl,rfl,Nat.le_refl _,rfl,λ_ h=>h,λ_ h=>.inl h,λ_ _ _=>rfl,λ_ _ _ _ h=>h,λ_ h=>.inr (SG.1 h)⟩
