/- Part 5 of DisputeSettles. -/
import Derived.Test.YtmehofoficaelaaGreatDoorS04
set_option linter.all false
namespace Go.AL
open Go
section
variable{P:Program}{G:GT}{c c2:Ctx}{H Hn:U}{w w2:World}{N:Nat}
theorem lT{ds:List D}(h:gG ds=true):∀d∈ds,closed d=true:=λd a=>by obtain⟨i,hi⟩:=aB.1 a;exact ya h hi
theorem p6{ρ:Nat->Option Nat}{k:Nat}{d:D}(h:closed d=true):gq ρ H k d=d:=by cases k<;>(unfold gq;simp[h])
def Ctx.join(c c2:Ctx)(n:Nat)(F:Nat->Prop):Ctx where
 ι:=λv g=>if v<n then c.ι v g else c2.ι (v-n) g
 F:=F
 RT:=c.RT
theorem IA{F:Nat->Prop}{v:Nat}{L:Loc}(h:l7 (c.join c2 H.length F) (H++Hn) v L):(v<H.length/\l7 c H v L)\/(H.length<=v/\l7 c2 Hn (v-H.length) L):=by
 obtain⟨o,b,e,d⟩:=h;rcases bK v H.length with a|a
 .rw[ah a]at b;simp only[Ctx.join,if_pos a]at d;exact .inl ⟨a,o,b,e,d⟩
 .rw[ai a]at b;simp only[Ctx.join,if_neg (fR.2 a)]at d;exact .inr ⟨a,o,b,e,d⟩
structure zt(G:GT)(c c2:Ctx)(H Hn:U)(w w2:World)(F:Nat->Prop):Prop where
 gi:gE G c H w
 nH:gE G c2 Hn w2
 pP:kf w w2
 fresh:∀b,mm c2 Hn b->w.heap.size<=b
 le:∀b,c.F b->F b
 lt:∀b,F b->b<w2.heap.size
 n1:∀b,F b->¬mm c H b
 n2:∀b,F b->¬mm c2 Hn b
 new:∀b,F b->c.F b\/w.heap.size<=b
 rows:∀(v:Nat) (o:Ob),Hn[v]? = some o->∃t g cs,o = .row t g cs/\∀d∈cs,∀u,gh c2 w2 u d->gh (c.join c2 H.length F) w2 u d
variable{F:Nat->Prop}
theorem ZG(j:zt G c c2 H Hn w w2 F){u:Value}{d:D}(h:gh c w u d):gh (c.join c2 H.length F) w2 u d:=by
 refine h.carry (λv k L a=>?_) j.le (λb o f=>Gu (j.pP.kept b (j.gi.kR b f)))
 have e:v<H.length:=by
  rcases bK v H.length with h|h
  .exact h
  .rw[j.gi.out v k h]at a;cases a
 simp only[Ctx.join,if_pos e];exact a
theorem OP(j:zt G c c2 H Hn w w2 F):gE G (c.join c2 H.length F) (H++Hn) w2 where
 inj v v' L L' h1 p n m he:=by
  rcases IA h1 with⟨a,b⟩|⟨a,b⟩<;>rcases IA p with⟨C,q⟩|⟨C,q⟩
  .exact j.gi.inj v v' L L' b q n m he
  .have:=j.gi.lt _ ⟨v,L,b,n,rfl⟩;have:=j.fresh _ ⟨_,L',q,m,rfl⟩;omega
  .have:=j.gi.lt _ ⟨v',L',q,m,rfl⟩;have:=j.fresh _ ⟨_,L,b,n,rfl⟩;omega
  .have:=j.nH.inj _ _ L L' b q n m he;omega
 lt b hb:=by
  obtain⟨v,L,hl,f,e⟩:=hb;rcases IA hl with⟨_,hl⟩|⟨_,hl⟩
  .exact aM (j.gi.lt b ⟨v,L,hl,f,e⟩) j.pP.size
  .exact j.nH.lt b ⟨_,L,hl,f,e⟩
 nF b hb hF:=by
  obtain⟨v,L,hl,f,e⟩:=hb;rcases IA hl with⟨_,hl⟩|⟨_,hl⟩
  .exact j.n1 b hF ⟨v,L,hl,f,e⟩
  .exact j.n2 b hF ⟨_,L,hl,f,e⟩
 kR b hb:=j.lt b hb
 out v k f:=by simp only[aj]at f;simp only[Ctx.join,if_neg (show¬v<H.length by omega)];exact j.nH.out _ k (by omega)
 mF v o k ho hk:=by
  rcases bK v H.length with f|f
  .rw[ah f]at ho;simp only[Ctx.join,if_pos f];exact j.gi.mF v o k ho hk
  .rw[ai f]at ho;simp only[Ctx.join,if_neg (fR.2 f)];exact j.nH.mF _ o k ho hk
 ob v o ho:=by
  rcases bK v H.length with f|f
  .rw[ah f]at ho;simp only[Ctx.join,if_pos f];exact ie.keep (c:=c) (c':=c.join c2 H.length F) rfl (λ_ _ h=>ZG j h) (λl hl z r=>j.pP.kept _ (j.gi.lt _ ⟨v,l,⟨o,ho,r,hl⟩,z,rfl⟩)) (j.gi.ob v o ho)
  .rw[ai f]at ho;simp only[Ctx.join,if_neg (fR.2 f)];have h0:=j.nH.ob _ o ho;obtain⟨t,g,cs,rfl,B⟩:=j.rows _ o ho;simp only[Ob.gen]at h0 ⊢
   cases s:c2.ι (v-H.length) g with
   | none=>rw[s]at h0;simp[ie]at h0
   | some L=>
    rw[s]at h0;simp only[ie]at h0 ⊢;split
    .grind
    .rename_i u;simp only[u]at h0;obtain⟨arr,h1,p,n,m⟩:=h0;refine⟨arr,h1,p,n,λi d r=>?_⟩;obtain⟨x,y,A,D⟩:=m i d r;exact⟨x,y,A,B d (List.mem_of_getElem? r) _ D⟩
 gl g cs hg:=by obtain⟨h1,p⟩:=j.gi.gl g cs hg;exact⟨h1,ZG j p⟩
 rt:=j.gi.rt
theorem OQ(j:zt G c c2 H Hn w w2 F):Step H.length c H w (c.join c2 H.length F) (H++Hn) w2 where
 os:=j.pP.os
 tape:=j.pP.tape
 output:=j.pP.output
 size:=j.pP.size
 RT:=rfl
 Fm b hb:=j.le b hb
 Fn b hb:=(j.new b hb).imp id .inl
 kept b hb _:=j.pP.kept b hb
 old v k L a h:=by simp only[Ctx.join,if_pos a];exact h
 own b hb:=by
  obtain⟨v,L,hl,a,e⟩:=hb;rcases IA hl with⟨_,hl⟩|⟨_,hl⟩
  .exact .inr ⟨v,L,hl,a,e⟩
  .exact .inl (j.fresh b ⟨_,L,hl,a,e⟩)
theorem Ps(j:zt G c c2 H Hn w w2 F){p:D->Bool}(m:∀d u,p d=true->gh c2 w2 u d->gh (c.join c2 H.length F) w2 u d){u:Value}{r:D}
  (b:gh c2 w2 u r) (h:xH p r=true):gh (c.join c2 H.length F) w2 u (kH H.length r):=by
 have n:∀v g sz off len u,gh c2 w2 u (.fZ v g sz off len)->gh (c.join c2 H.length F) w2 u (.fZ (v+H.length) g sz off len):=by
  intro v g sz off len u b
  cases b with
  | fZ _ _ _ _ _ cap L l k q s o=>exact .fZ _ g sz off len cap L (by simp only[Ctx.join];rw[if_neg (by omega),Nat.add_sub_cancel];exact l) k q s o
  | mA _ _ _ _ L l a=>exact .mA _ g sz off L (by simp only[Ctx.join];rw[if_neg (by omega),Nat.add_sub_cancel];exact l) a
 have h1:∀(d:D) (u:Value),yW p d=true->gh c2 w2 u d->gh (c.join c2 H.length F) w2 u (yO H.length d):=by intro d u e b;cases d<;>first|exact n _ _ _ _ _ _ b|exact m _ _ e b
 cases r with
 | tup ds=>
  cases b with
  | tup vs _ hl r7=>
   simp only[kH];refine .tup vs _ (by simpa using hl) λi v d k e=>?_;simp only[au,ak]at e;obtain⟨d0,f,rfl⟩:=e;exact h1 d0 v (List.all_eq_true.1 h d0 (List.mem_of_getElem? f)) (r7 i v d0 k f)
 | agg ds=>
  cases b with
  | agg vs _ hl t r7=>
   simp only[kH];refine .agg vs _ (by simpa using hl) t λi v d k e=>?_;simp only[au,ak]at e;obtain⟨d0,f,rfl⟩:=e;exact h1 d0 v (List.all_eq_true.1 h d0 (List.mem_of_getElem? f)) (r7 i v d0 k f)
 | fZ v g sz off len=>exact n _ _ _ _ _ _ b
 | _=>exact m _ _ h b
def Ctx.data(c:Ctx)(F:Nat->Prop):Ctx where
 ι:=λ_ _=>none
 F:=F
 RT:=c.RT
theorem Nk(h:gE G c H w):gE G (c.data c.F) [] w where
 inj v v' L L' h1:=by obtain⟨o,a,_⟩:=h1;simp at a
 lt b d:=by obtain⟨v,L,⟨o,a,_⟩,_⟩:=d;simp at a
 nF b d:=by obtain⟨v,L,⟨o,a,_⟩,_⟩:=d;simp at a
 kR b d:=h.kR b d
 out _ _ _:=rfl
 mF _ _ _ _ _:=rfl
 ob v o a:=by simp at a
 gl g cs hg:=by obtain⟨h1,e⟩:=h.gl g cs hg;exact⟨h1,gh.closed (c:=c) (c':=c.data c.F) (λb d=>d) e (by simpa[AL.closed]using h1)⟩
 rt:=h.rt
theorem uv{c:Ctx}{b:Nat}:¬mm c [] b:=by rintro⟨v,L,⟨o,a,_⟩,_⟩;simp at a
theorem BA{n:Nat}{c:Ctx}(hs:Step n c [] w c2 Hn w2):kf w w2:=
 ⟨hs.os,hs.tape,hs.output,hs.size,λb a=>hs.kept b a uv⟩
theorem Wb(h:Hn.all oy=true){v:Nat}{o:Ob}(a:Hn[v]? = some o):∃t g cs,o = .row t g cs/\∀d∈cs,closed d=true:=by
 have:=List.all_eq_true.1 h o (List.mem_of_getElem? a);cases o<;>simp only[oy]at this<;>first|cases this;done|skip
 exact⟨_,_,_,rfl,lT this⟩
theorem Xy(h:Hn.all pO=true){v:Nat}{o:Ob}(a:Hn[v]? = some o):∃t g cs,o = .row t g cs/\∀d∈cs,flat d=true:=by
 have:=List.all_eq_true.1 h o (List.mem_of_getElem? a);cases o<;>simp only[pO]at this<;>first|cases this;done|skip
 refine⟨_,_,_,rfl,λd b=>?_⟩;obtain⟨i,hi⟩:=aB.1 b;exact DT this hi
def zf(P:Program)(G:GT)(f:FuncId)(args:List D)(H:U)(d:D)(H':U):Prop:=
 ∀(c:Ctx) (w:World) (vs:List Value),gE G c H w->jC c w vs args ->
  Calls P f vs.toArray w λe w'=>∃v c',e = .returned v/\gE G c' H' w'/\gh c' w' v d/\Step H.length c H w c' H' w'
def vx(P:Program)(G:GT)(f:FuncId)(args:List D)(H:U)(R:D->U->Prop):Prop:=
 ∀(c:Ctx) (w:World) (vs:List Value),gE G c H w->jC c w vs args ->
  Calls P f vs.toArray w λe w'=>∃v c' d H',e = .returned v/\R d H'/\H.length<=H'.length/\gE G c' H' w'/\gh c' w' v d/\Step H.length c H w c' H' w'
theorem vx.one{f:FuncId}{args:List D}{H:U}{R:D->U->Prop}{d:D}{H':U}(h:vx P G f args H R)(h1:∀d' Hn,R d' Hn->d'=d/\Hn=H'):zf P G f args H d H':=
 λc w vs i g=>(h c w vs i g).mono λ_ _ ⟨v,c',_,_,j,k,_,a,b,e⟩=>by grind
theorem Up:gq (λ_=>none) H 40=gq (iv []) H 40:=rfl
theorem jC.map{c c':Ctx}{f:D->D}(b:∀v d,gh c w v d->gh c' w v (f d)){vs:List Value}{ds:List D}(h:jC c w vs ds):jC c' w vs (ds.map f):=by
 induction h with
 | nil=>exact .nil
 | cons h _ a=>exact .cons (b _ _ h) a
theorem aa4(gi:gE G c H w){f:FuncId}{vs:List Value}{args:List D}{d:D}(E:jC c w vs args)(y:zf P G f (args.map (gq (λ_=>none) H 40)) [] d Hn)
  (m:(if gG args then mY d&&Hn.all oy else o3 d&&Hn.all pO)=true) :
  Calls P f vs.toArray w λe w'=>∃v c',e = .returned v/\gE G c' (H++Hn) w'/\gh c' w' v (kH H.length d)/\Step H.length c H w c' (H++Hn) w':=by
 by_cases s:gG args=true
 .rw[if_pos s]at m;simp only[Bool.and_eq_true]at m
  have e:args.map (gq (λ_=>none) H 40)=args:=by
   conv=>rhs;rw[<-aY args]
   exact aq λd l=>p6 (lT s d l)
  rw[e]at y
  have z:jC (c.data c.F) w vs args:=by
   clear y m e
   induction E with
   | nil=>exact .nil
   | cons h _ I=>
    simp only[gG,Bool.and_eq_true]at s;exact .cons (gh.closed (c:=c) (c':=c.data c.F) (λb a=>a) h s.1) (I s.2)
  refine(y _ w vs (Nk gi) z).mono ?_;rintro e w' ⟨v,c2,C,x,B,n⟩;have hg:=BA n
  have F:∀b,c2.F b->c.F b\/w.heap.size<=b:=λb a=>by
   rcases n.Fn b a with h|h|h
   .exact .inl h
   .exact .inr h
   .exact absurd h uv
  have j:zt G c c2 H Hn w w' c2.F:={
   gi:=gi
   nH:=x
   pP:=hg
   fresh:=λb a=>by
    rcases n.own b a with h|h
    .exact h
    .exact absurd h uv
   le:=λb a=>n.Fm b a
   lt:=x.kR
   n1:=λb a k=>by
    rcases F b a with h|h
    .exact gi.nF b k h
    .have:=gi.lt b k;omega
   n2:=λb a k=>x.nF b k a
   new:=F
   rows:=λv o k=>by
    obtain⟨t,g,cs,rfl,A⟩:=Wb m.2 k
    exact⟨t,g,cs,rfl,λd l u r=>gh.closed (c:=c2) (c':=c.join c2 H.length c2.F) (λb a=>a) r (A d l)⟩ }
  exact⟨v,_,C,OP j,Ps j (p:=AL.closed) (λd u l r=>gh.closed (c:=c2) (c':=c.join c2 H.length c2.F) (λb a=>a) r l) B m.1,OQ j⟩
 .rw[if_neg s]at m;simp only[Bool.and_eq_true]at m
  have z:jC (c.gq [] H) w vs (args.map (gq (λ_=>none) H 40)):=E.map λv d h=>by rw[Up];exact AR gi 40 h
  have K:gE G (c.gq [] H) [] w:=Ff (ks:=[]) gi (λi j p q J=>by simp at J);refine(y _ w vs K z).mono ?_;rintro e w' ⟨v,c2,C,x,B,n⟩;have hg:=BA n
  have j:zt G c c2 H Hn w w' c.F:={
   gi:=gi
   nH:=x
   pP:=hg
   fresh:=λb a=>by
    rcases n.own b a with h|h
    .exact h
    .exact absurd h uv
   le:=λb a=>a
   lt:=λb a=>aM (gi.kR b a) hg.size
   n1:=λb a k=>gi.nF b k a
   n2:=λb a k=>by
    rcases n.own b k with h|h
    .have:=gi.kR b a;omega
    .exact absurd h uv
   new:=λb a=>.inl a
   rows:=λv o k=>by
    obtain⟨t,g,cs,rfl,A⟩:=Xy m.2 k
    exact⟨t,g,cs,rfl,λd l u r=>gh.flat r (A d l)⟩ }
  exact⟨v,_,C,OP j,Ps j (p:=AL.flat) (λd u l r=>gh.flat r l) B m.1,OQ j⟩
theorem anQ(gi:gE G c H w){f:FuncId}{vs:List Value}{args:List D}{R:D->U->Prop}(F:jC c w vs args)(z:vx P G f (args.map (gq (λ_=>none) H 40)) [] R)
  (l:∀d Hn,R d Hn->(if gG args then mY d&&Hn.all oy else o3 d&&Hn.all pO)=true) :
  Calls P f vs.toArray w λe w'=>∃v c' d Hn,e = .returned v/\R d Hn/\gE G c' (H++Hn) w'/\gh c' w' v (kH H.length d)/\Step H.length c H w c' (H++Hn) w':=by
 by_cases s:gG args=true
 .simp only[if_pos s,Bool.and_eq_true]at l
  have e:args.map (gq (λ_=>none) H 40)=args:=by
   conv=>rhs;rw[<-aY args]
   exact aq λd m=>p6 (lT s d m)
  rw[e]at z
  have A:jC (c.data c.F) w vs args:=by
   clear z l e
   induction F with
   | nil=>exact .nil
   | cons h _ J=>
    simp only[gG,Bool.and_eq_true]at s;exact .cons (gh.closed (c:=c) (c':=c.data c.F) (λb a=>a) h s.1) (J s.2)
  refine(z _ w vs (Nk gi) A).mono ?_;rintro e w' ⟨v,c2,d,Hn,E,x,_,y,C,n⟩;have l:=l d Hn x;have hg:=BA n
  have I:∀b,c2.F b->c.F b\/w.heap.size<=b:=λb a=>by
   rcases n.Fn b a with h|h|h
   .exact .inl h
   .exact .inr h
   .exact absurd h uv
  have j:zt G c c2 H Hn w w' c2.F:={
   gi:=gi
   nH:=y
   pP:=hg
   fresh:=λb a=>by
    rcases n.own b a with h|h
    .exact h
    .exact absurd h uv
   le:=λb a=>n.Fm b a
   lt:=y.kR
   n1:=λb a k=>by
    rcases I b a with h|h
    .exact gi.nF b k h
    .have:=gi.lt b k;omega
   n2:=λb a k=>y.nF b k a
   new:=I
   rows:=λv o k=>by
    obtain⟨t,g,cs,rfl,B⟩:=Wb l.2 k
    exact⟨t,g,cs,rfl,λd m u r=>gh.closed (c:=c2) (c':=c.join c2 H.length c2.F) (λb a=>a) r (B d m)⟩ }
  exact⟨v,_,d,Hn,E,x,OP j,Ps j (p:=AL.closed) (λd u m r=>gh.closed (c:=c2) (c':=c.join c2 H.length c2.F) (λb a=>a) r m) C l.1,OQ j⟩
 .simp only[if_neg s,Bool.and_eq_true]at l
  have A:jC (c.gq [] H) w vs (args.map (gq (λ_=>none) H 40)):=F.map λv d h=>by rw[Up];exact AR gi 40 h
  have L:gE G (c.gq [] H) [] w:=Ff (ks:=[]) gi (λi j p q K=>by simp at K);refine(z _ w vs L A).mono ?_;rintro e w' ⟨v,c2,d,Hn,E,x,_,y,C,n⟩;have l:=l d Hn x;have hg:=BA n
  have j:zt G c c2 H Hn w w' c.F:={
   gi:=gi
   nH:=y
   pP:=hg
   fresh:=λb a=>by
    rcases n.own b a with h|h
    .exact h
    .exact absurd h uv
   le:=λb a=>a
   lt:=λb a=>aM (gi.kR b a) hg.size
   n1:=λb a k=>gi.nF b k a
   n2:=λb a k=>by
    rcases n.own b k with h|h
    .have:=gi.kR b a;omega
    .exact absurd h uv
   new:=λb a=>.inl a
   rows:=λv o k=>by
    obtain⟨t,g,cs,rfl,B⟩:=Xy l.2 k
    exact⟨t,g,cs,rfl,λd m u r=>gh.flat r (B d m)⟩ }
  exact⟨v,_,d,Hn,E,x,OP j,Ps j (p:=AL.flat) (λd u m r=>gh.flat r m) C l.1,OQ j⟩
def Ctx.o5(c c2:Ctx)(n:Nat)(F:Nat->Prop):Ctx where
 ι:=λv g=>if v=n then c2.ι 0 g else c.ι v g
 F:=F
 RT:=c.RT
theorem I2{n:Nat}{ob:Ob}(f:H[n]? = some .lY){F:Nat->Prop}{v:Nat}{L:Loc}(h:l7 (c.o5 c2 n F) (H.set n ob) v L):(v≠n/\l7 c H v L)\/(v=n/\l7 c2 [ob] 0 L):=by
 obtain⟨o,a,e,d⟩:=h;rw[sM (ae.1 f).1]at a
 by_cases b:v=n
 .subst b;rw[if_pos rfl]at a;cases a;simp only[Ctx.o5,if_true]at d;exact .inr ⟨rfl,ob,rfl,e,d⟩
 .rw[if_neg b]at a;simp only[Ctx.o5,if_neg b]at d;exact .inl ⟨b,o,a,e,d⟩
theorem anP(gi:gE G c H w){f:FuncId}{vs:List Value}{args:List D}{d:D}{ob:Ob}{n:Nat}(A:jC c w vs args)(W:zf P G f (args.map (gq (λ_=>none) H 40)) [] d [ob])
  (J:(if gG args then mY d&&oy ob else o3 d&&pO ob)=true) (I:H[n]? = some .lY) :
  Calls P f vs.toArray w λe w'=>∃v c',e = .returned v/\gE G c' (H.set n ob) w'/\gh c' w' v (kH n d)/\Step H.length c H w c' (H.set n ob) w':=by
 have gL:=(ae.1 I).1;have YD:∀k,c.ι n k=none:=λk=>gi.mF n _ k I (.inl rfl)
 have C:∀(c2:Ctx) (w':World) (v:Value) (F:Nat->Prop),gE G c2 [ob] w'->gh c2 w' v d->kf w w'->(∀b,mm c2 [ob] b->w.heap.size<=b)->(∀b,c.F b->F b)->(∀b,F b->b<w'.heap.size) ->
   (∀b,F b->¬mm c H b)->(∀b,F b->¬mm c2 [ob] b)->(∀b,F b->c.F b\/w.heap.size<=b)->∀(p:D->Bool),(∀d u,p d=true->gh c2 w' u d->gh (c.o5 c2 n F) w' u d)->xH p d=true ->
   (∃t g cs,ob = .row t g cs/\∀d∈cs,p d=true) ->
   gE G (c.o5 c2 n F) (H.set n ob) w'/\gh (c.o5 c2 n F) w' v (kH n d)/\Step H.length c H w (c.o5 c2 n F) (H.set n ob) w':=by
  intro c2 w' v F nH m hg Sc S a1 yz Su mw p R y ig
  have carry:∀ {u:Value} {d:D},gh c w u d->gh (c.o5 c2 n F) w' u d:=λh=>by
   refine h.carry (λv k L B=>?_) S (λb o K=>Gu (hg.kept b (gi.kR b K)));have gW:v≠n:=λe=>by rw[e,YD]at B;cases B
   simp only[Ctx.o5,if_neg gW];exact B
  have HW:∀v g sz off len u,gh c2 w' u (.fZ v g sz off len)->(v=0)->gh (c.o5 c2 n F) w' u (.fZ (v+n) g sz off len):=by
   intro v g sz off len u A h0;subst h0
   cases A with
   | fZ _ _ _ _ _ cap L M m ka jc lN=>exact .fZ _ g sz off len cap L (by simp only[Ctx.o5,aR,if_true];exact M) m ka jc lN
   | mA _ _ _ _ L M a=>exact .mA _ g sz off L (by simp only[Ctx.o5,aR,if_true];exact M) a
  have hz:∀v g sz off len u,gh c2 w' u (.fZ v g sz off len)->v=0:=by
   intro v g sz off len u A
   have:∃L,c2.ι v g=some L:=by
    cases A with
    | fZ _ _ _ _ _ cap L M=>exact⟨L,M⟩
    | mA _ _ _ _ L M=>exact⟨L,M⟩
   obtain⟨L,B⟩:=this;rcases eY v with h|h
   .exact h
   .rw[nH.out v g (by show 1<=v;exact h)]at B;cases B
  have h1:∀(d:D) (u:Value),yW p d=true->gh c2 w' u d->gh (c.o5 c2 n F) w' u (yO n d):=by intro d u y A;cases d<;>first|exact HW _ _ _ _ _ _ A (hz _ _ _ _ _ _ A)|exact R _ _ y A
  refine⟨{
   inj:=λv v' L L' h1 z V U T=>by
    rcases I2 I h1 with⟨a,b⟩|⟨a,b⟩<;>rcases I2 I z with⟨a',X⟩|⟨a',X⟩
    .exact gi.inj v v' L L' b X V U T
    .have:=gi.lt _ ⟨v,L,b,V,rfl⟩;have:=Sc _ ⟨_,L',X,U,rfl⟩;omega
    .have:=gi.lt _ ⟨v',L',X,U,rfl⟩;have:=Sc _ ⟨_,L,b,V,rfl⟩;omega
    .rw[a,a']
   lt:=λb r=>by
    obtain⟨v,L,hl,m,e⟩:=r;rcases I2 I hl with⟨_,hl⟩|⟨_,hl⟩
    .exact aM (gi.lt b ⟨v,L,hl,m,e⟩) hg.size
    .exact nH.lt b ⟨_,L,hl,m,e⟩
   nF:=λb r K=>by
    obtain⟨v,L,hl,m,e⟩:=r;rcases I2 I hl with⟨_,hl⟩|⟨_,hl⟩
    .exact yz b K ⟨v,L,hl,m,e⟩
    .exact Su b K ⟨_,L,hl,m,e⟩
   kR:=a1
   out:=λv k m=>by simp only[ar]at m;simp only[Ctx.o5,if_neg (show¬v=n by omega)];exact gi.out _ k m
   mF:=λv o k s hk=>by
    rw[sM gL]at s
    by_cases m:v=n
    .subst m;rw[if_pos rfl]at s;cases s;simp only[Ctx.o5,if_true];exact nH.mF 0 _ k rfl hk
    .rw[if_neg m]at s;simp only[Ctx.o5,if_neg m];exact gi.mF v o k s hk
   ob:=λv o s=>by
    rw[sM gL]at s
    by_cases m:v=n
    .subst m;rw[if_pos rfl]at s;cases s;simp only[Ctx.o5,if_true];have h0:=nH.ob 0 _ rfl;obtain⟨t,g,cs,rfl,jz⟩:=ig;simp only[Ob.gen]at h0 ⊢
     cases B:c2.ι 0 g with
     | none=>rw[B]at h0;simp[ie]at h0
     | some L=>
      rw[B]at h0;simp only[ie]at h0 ⊢;split
      .grind
      .rename_i oF;simp only[oF]at h0;obtain⟨arr,h1,z,V,U⟩:=h0;refine⟨arr,h1,z,V,λi d y=>?_⟩;obtain⟨x,lA,kO,Co⟩:=U i d y;exact⟨x,lA,kO,R d _ (jz d (List.mem_of_getElem? y)) Co⟩
    .rw[if_neg m]at s;simp only[Ctx.o5,if_neg m];exact ie.keep (c:=c) (c':=c.o5 c2 n F) rfl (λ_ _ h=>carry h) (λl hl l5 y=>hg.kept _ (gi.lt _ ⟨v,l,⟨o,s,y,hl⟩,l5,rfl⟩)) (gi.ob v o s)
   gl:=λg cs hg=>by obtain⟨h1,z⟩:=gi.gl g cs hg;exact⟨h1,carry z⟩
   rt:=gi.rt },?_,?_⟩
  .cases d with
   | tup ds=>
    cases m with
    | tup vs _ hl r7=>
     simp only[kH];refine .tup vs _ (by simpa using hl) λi v d m Q=>?_;simp only[au,ak]at Q;obtain⟨d0,O,rfl⟩:=Q;exact h1 d0 v (List.all_eq_true.1 y d0 (List.mem_of_getElem? O)) (r7 i v d0 m O)
   | agg ds=>
    cases m with
    | agg vs _ hl s r7=>
     simp only[kH];refine .agg vs _ (by simpa using hl) s λi v d m Q=>?_;simp only[au,ak]at Q;obtain⟨d0,O,rfl⟩:=Q;exact h1 d0 v (List.all_eq_true.1 y d0 (List.mem_of_getElem? O)) (r7 i v d0 m O)
   | fZ v g sz off len=>exact HW _ _ _ _ _ _ m (hz _ _ _ _ _ _ m)
   | _=>exact R _ _ y m
  .exact{
    os:=hg.os
    tape:=hg.tape
    output:=hg.output
    size:=hg.size
    RT:=rfl
    Fm:=S
    Fn:=λb r=>(mw b r).imp id .inl
    kept:=λb r _=>hg.kept b r
    old:=λv k L m h=>by
     have gW:v≠n:=λe=>by rw[e,YD]at h;cases h
     simp only[Ctx.o5,if_neg gW];exact h
    own:=λb r=>by
     obtain⟨v,L,hl,m,e⟩:=r;rcases I2 I hl with⟨_,hl⟩|⟨_,hl⟩
     .exact .inr ⟨v,L,hl,m,e⟩
     .exact .inl (Sc b ⟨_,L,hl,m,e⟩) }
 by_cases N:gG args=true
 .simp only[if_pos N,Bool.and_eq_true]at J
  have e:args.map (gq (λ_=>none) H 40)=args:=by
   conv=>rhs;rw[<-aY args]
   exact aq λd y=>p6 (lT N d y)
  rw[e]at W
  have Y:jC (c.data c.F) w vs args:=by
   clear W J e
   induction A with
   | nil=>exact .nil
   | cons h _ ih=>
    simp only[gG,Bool.and_eq_true]at N;exact .cons (gh.closed (c:=c) (c':=c.data c.F) (λb r=>r) h N.1) (ih N.2)
  refine(W _ w vs (Nk gi) Y).mono ?_;rintro e w' ⟨v,c2,T,z,m,E⟩;have hg:=BA E
  have K:∀b,c2.F b->c.F b\/w.heap.size<=b:=λb r=>by
   rcases E.Fn b r with h|h|h
   .exact .inl h
   .exact .inr h
   .exact absurd h uv
  obtain⟨m1,m2,m3⟩:=C c2 w' v c2.F z m hg (λb r=>by
    rcases E.own b r with h|h
    .exact h
    .exact absurd h uv) (λb r=>E.Fm b r) z.kR (λb r s=>by
    rcases K b r with h|h
    .exact gi.nF b s h
    .have:=gi.lt b s;omega) (λb r s=>z.nF b s r) K AL.closed (λd u y Z=>gh.closed (c:=c2) (c':=c.o5 c2 n c2.F) (λb r=>r) Z y) J.1 (by
    have:=J.2;cases ob<;>simp only[oy]at this<;>first|(cases this;done)|skip
    exact⟨_,_,_,rfl,lT this⟩)
  exact⟨v,_,T,m1,m2,m3⟩
 .simp only[if_neg N,Bool.and_eq_true]at J
  have Y:jC (c.gq [] H) w vs (args.map (gq (λ_=>none) H 40)):=A.map λv d h=>by rw[Up];exact AR gi 40 h
  have HS:gE G (c.gq [] H) [] w:=Ff (ks:=[]) gi (λi j p q R=>by simp at R);refine(W _ w vs HS Y).mono ?_;rintro e w' ⟨v,c2,T,z,m,E⟩;have hg:=BA E
  obtain⟨m1,m2,m3⟩:=C c2 w' v c.F z m hg (λb r=>by
    rcases E.own b r with h|h
    .exact h
    .exact absurd h uv) (λb r=>r) (λb r=>aM (gi.kR b r) hg.size) (λb r s=>gi.nF b s r) (λb r s=>by
    rcases E.own b s with h|h
    .have:=gi.kR b r;omega
    .exact absurd h uv) (λb r=>.inl r) AL.flat (λd u y Z=>gh.flat Z y) J.1 (by
    have:=J.2;cases ob<;>simp only[pO]at this<;>first|(cases this;done)|skip
    refine⟨_,_,_,rfl,λd y=>?_⟩;obtain⟨i,hi⟩:=aB.1 y
    exact DT this hi)
  exact⟨v,_,T,m1,m2,m3⟩
theorem aob{S:List Nat}{v:Nat}(c:v∈S):iv (mE H S) v=none:=by
 unfold iv mE;rw[dj];intro p b;obtain⟨u,_,rfl⟩:=List.mem_map.1 b
 by_cases a:u=v
 .grind
 .simp[a]
theorem abI{v:Nat}:∀(k:Nat) (d:D),(∀u∈iF H k d,u=v)->AL.gq (iv (mE H [v])) H k d=AL.gq (λ_=>none) H k d
 | 0,d,_=>rfl
 | k+1,d,h=>by
  have i:iv (mE H [v]) v=none:=aob (by simp)
  have b:∀(ds:List D),(∀u∈(ds.map (iF H k)).flatten,u=v)->ds.map (AL.gq (iv (mE H [v])) H k)=ds.map (AL.gq (λ_=>none) H k):=λds o=>
   aq λd f=>abI k d λu a=>o u (a7.2 ⟨_,List.mem_map.2 ⟨d,f,rfl⟩,a⟩)
  unfold iF at h;unfold AL.gq
  by_cases r:AL.closed d=true
  .grind
  .simp only[if_neg r]at h ⊢
   cases d with
   | agg cs=>simp only[b cs h]
   | tup cs=>simp only[b cs h]
   | gC cs=>simp only[b cs h]
   | sl sz es=>
    have:es.map (λx=>x.map (AL.gq (iv (mE H [v])) H k))=es.map (λx=>x.map (AL.gq (λ_=>none) H k)):=aq λe q=>b e λu a=>h u (a7.2 ⟨_,List.mem_map.2 ⟨e,q,rfl⟩,a⟩);simp only[this]
   | fn g x y=>
    have h1:=b x λu a=>h u (bk _ a);have s:=b y λu a=>h u (bI _ a);simp only[h1,s]
   | fZ u g sz off len=>
    have a:u=v:=h u (by simp);subst a;simp only[i]
    cases c:rowsOf H u with
    | none=>simp only[AV,c]
    | some p=>
     obtain⟨t,n,cs⟩:=p;simp only[AV,c]
     by_cases hg:n=g
     .simp only[hg,if_true]
      have:=b (cs.drop (off*sz)) λw m=>by obtain⟨l,hl,j⟩:=a7.1 m;obtain⟨d,f,rfl⟩:=List.mem_map.1 hl;exact h w (by simp only[c];exact bj _ (a7.2 ⟨_,List.mem_map.2 ⟨d,bC f,rfl⟩,j⟩))
      rw[this]
     .grind
   | ptr u g off=>
    have a:u=v:=h u (by simp);subst a;simp only[i]
    cases c:rowsOf H u with
    | none=>simp only[AV,c]
    | some p=>
     obtain⟨t,n,cs⟩:=p;simp only[AV,c]
     by_cases hg:n=g
     .simp only[hg,if_true]
      have:=b (cs.drop off) λw m=>by obtain⟨l,hl,j⟩:=a7.1 m;obtain⟨d,f,rfl⟩:=List.mem_map.1 hl;exact h w (by simp only[c];exact bj _ (a7.2 ⟨_,List.mem_map.2 ⟨d,bC f,rfl⟩,j⟩))
      rw[this]
     .grind
   | gH u=>
    have a:u=v:=h u (by simp);subst a;simp only[i]
   | ja u=>
    have a:u=v:=h u (by simp);subst a;simp only[i]
   | _=>rfl
theorem ahQ(h:gE G c H w){v:Nat}{t:TypeId}{g:Nat}{cs:List D}(p:H[v]? = some (.row t g cs)) :
  ∃c',gE G c' (H.set v .dead) w/\Step H.length c H w c' (H.set v .dead) w/\(∀u d,gh c w u d->gh c' w u d)/\∀b,(c.gq (mE H [v]) H).F b->c'.F b:=by
 have E:=(ae.1 p).1
 have y:∀c':Ctx,(∀u k,c'.ι u k=c.ι u k)->∀u l,l7 c' (H.set v .dead) u l->u≠v/\l7 c H u l:=by
  rintro c' m u l ⟨o,i,z,hi⟩;rw[sM E]at i;split at i
  .cases i;cases z
  .rename_i n;exact⟨n,o,i,z,by rw[<-m];exact hi⟩
 let c':Ctx:={ c with F:=λb=>c.F b\/∃L,c.ι v g=some L/\L.jN=false/\L.b=b }
 have m:∀u k,c'.ι u k=c.ι u k:=λ_ _=>rfl;have B:∀u d,gh c w u d->gh c' w u d:=λu d R=>gh.carry (c:=c) (c':=c') (w:=w) (w':=w) (λ_ _ _ h=>h) (λb f=>Or.inl f) (λ_ _ _=>rfl) R;have J:∀b,mm c' (H.set v .dead) b->mm c H b:=λb ⟨u,l,hl,r⟩=>⟨u,l,(y c' m u l hl).2,r⟩
 refine⟨c',{
  inj:=λu O l Q h1 S=>h.inj u O l Q (y c' m _ _ h1).2 (y c' m _ _ S).2
  lt:=λb f=>h.lt b (J b f)
  nF:=λb f C=>by
   obtain⟨u,l,hl,M,e⟩:=f;obtain⟨n,K⟩:=y c' m u l hl;rcases C with C|⟨L,x,j,s⟩
   .exact h.nF b ⟨u,l,K,M,e⟩ C
   .exact n (h.inj u v l L K ⟨_,p,rfl,x⟩ M j (e.trans s.symm))
  kR:=λb f=>by
   rcases f with f|⟨L,x,j,s⟩
   .exact h.kR b f
   .exact s▸h.lt _ ⟨v,L,⟨_,p,rfl,x⟩,j,rfl⟩
  out:=λu k A=>h.out u k (by simpa using A)
  mF:=λu o k i q=>by
   rw[sM E]at i;split at i
   .cases i;rcases q with q|⟨q,_⟩<;>cases q
   .exact h.mF u o k i q
  ob:=λu o i=>by
   rw[sM E]at i;split at i
   .cases i;simp[ie]
   .exact ie.keep (c:=c) (c':=c') rfl B (λ_ _ _ _=>rfl) (h.ob u o i)
  gl:=λg cs hg=>let ⟨a,b⟩:=h.gl g cs hg;⟨a,B _ _ b⟩
  rt:=h.rt },?_,B,λb f=>?_⟩
 .exact{
   os:=⟨rfl,Nat.le_refl _⟩,tape:=rfl,output:=rfl,size:=Nat.le_refl _,RT:=rfl
   Fm:=λb f=>Or.inl f
   Fn:=λb f=>by
    rcases f with f|⟨L,x,j,s⟩
    .exact .inl f
    .exact .inr (.inr ⟨v,L,⟨_,p,rfl,x⟩,j,s⟩)
   kept:=λ_ _ _=>rfl
   old:=λ_ _ _ _ h=>h
   own:=λb f=>.inr (J b f) }
 .rcases f with f|⟨u,L,⟨o,i,z,I⟩,N,j,e⟩
  .exact .inl f
  .have A:u=v:=by
    by_cases n:u=v
    .exact n
    .exfalso;have P:=(ae.1 i).1
     have:iv (mE H [v]) u=some u:=Ud XK (by
      unfold mE
      simp[P,n])
     rw[this]at N;cases N
   subst A;rw[p]at i;cases i;exact .inr ⟨L,I,j,e⟩
theorem anO(gi:gE G c H w){f:FuncId}{vs:List Value}{args:List D}{d:D}{v:Nat}(o:jC c w vs args)(hS:∀u∈(args.map (iF H 40)).flatten,u=v)(m:(rowsOf H v).isSome=true)
  (n:zf P G f (args.map (AL.gq (λ_=>none) H 40)) [] d []) (j:gG (args.map (AL.gq (λ_=>none) H 40))=true) (a:AL.closed d=true) :
  Calls P f vs.toArray w λe w'=>∃u c',e = .returned u/\gE G c' (H.set v .dead) w'/\gh c' w' u d/\Step H.length c H w c' (H.set v .dead) w':=by
 have k:∃t g cs,H[v]? = some (.row t g cs):=by
  unfold rowsOf at m;split at m
  .grind
  .cases m
 obtain⟨t,g,cs,k⟩:=k;obtain⟨p,k1,k2,k3,k4⟩:=ahQ gi k
 have l:jC p w vs (args.map (AL.gq (λ_=>none) H 40)):=by
  have e:args.map (AL.gq (λ_=>none) H 40)=args.map (AL.gq (iv (mE H [v])) H 40):=
   aq λd a=>(abI 40 d λu s=>hS u (a7.2 ⟨_,List.mem_map.2 ⟨d,a,rfl⟩,s⟩)).symm
  have i:=j;rw[e]at i ⊢;have h0:=o.map (c':=c.gq (mE H [v]) H) (f:=AL.gq (iv (mE H [v])) H 40) λ_ _ h=>AR gi 40 h;generalize args.map (AL.gq (iv (mE H [v])) H 40)=as at h0 i;clear e j hS n o
  induction h0 with
  | nil=>exact .nil
  | cons h _ r=>
   simp only[gG,Bool.and_eq_true]at i;exact .cons (gh.closed (c:=c.gq (mE H [v]) H) (c':=p) k4 h i.1) (r i.2)
 have z:(args.map (AL.gq (λ_=>none) H 40)).map (AL.gq (λ_=>none) (H.set v .dead) 40)=args.map (AL.gq (λ_=>none) H 40):=by
  conv=>rhs;rw[<-aY (args.map (AL.gq (λ_=>none) H 40))]
  exact aq λd a=>p6 (lT j d a)
 have q:mY d=true/\kH (H.set v .dead).length d=d:=by
  cases d<;>first|(cases a;done)|skip
  case tup ds=>
   simp only[AL.closed]at a;refine⟨?_,?_⟩
   .simp only[mY,xH,List.all_eq_true];intro x b;have:=lT a x b;cases x<;>first|rfl|exact this
   .simp only[kH];congr 1
    conv=>rhs;rw[<-aY ds]
    refine aq λx b=>?_;have:=lT a x b;cases x<;>first|rfl|(cases this;done)
  case agg ds=>
   simp only[AL.closed]at a;refine⟨?_,?_⟩
   .simp only[mY,xH,List.all_eq_true];intro x b;have:=lT a x b;cases x<;>first|rfl|exact this
   .simp only[kH];congr 1
    conv=>rhs;rw[<-aY ds]
    refine aq λx b=>?_;have:=lT a x b;cases x<;>first|rfl|(cases this;done)
  all_goals exact⟨a,rfl⟩
 refine(aa4 k1 l (by rw[z];exact n) (by rw[if_pos j];simp[q.1])).mono ?_;rintro e w' ⟨u,c2,y,m1,m2,m3⟩;rw[az]at m1 m3;rw[q.2]at m2;exact⟨u,c2,y,m1,m2,k2.trans m3 (by simp)⟩
end
end Go.AL
namespace Go.AL
open Go
def sP(o:Nat)(xs cs:List D):List D:=cs.take o++xs++cs.drop (o+xs.length)
def UA{o:Nat}{xs cs:List D}(h:o+xs.length<=cs.length):(sP o xs cs).length=cs.length:=by simp[sP];omega
def Jr{o:Nat}{xs cs:List D}(h:o+xs.length<=cs.length)(i:Nat):(sP o xs cs)[i]? = if o<=i/\i<o+xs.length then xs[i-o]? else cs[i]? := by
 unfold sP;have hl:(cs.take o).length=o:=by simp;omega
 by_cases h1:i<o
 .grind
 .grind
def zb(n:Nat):Dl->Option Nat
 | .no=>none
 | .cells v _ _=>some v
 | .obj v _=>some v
 | .new _=>some n
def UF:Dl->Ob->Ob
 | .no,o=>o
 | .cells _ o xs,.row t g cs=>.row t g (sP o xs cs)
 | .cells _ _ _,o=>o
 | .obj _ ob,_=>ob
 | .new ob,_=>ob
abbrev lI(n:Nat)(δ:Dl)(H:U):U:=δ.app H (Al.lY H n)
def DC(n:Nat)(δ:Dl)(H:U)(x:Nat):(lI n δ H)[x]? = if zb n δ=some x then(H[x]?).map (UF δ)else H[x]? := by
 have a:∀(v:Nat) (ob:Ob) (f:Ob->Ob),(∀o,f o=ob)->(H.set v ob)[x]? = if some v=some x then(H[x]?).map f else H[x]? := by grind
 cases δ with
 | no=>simp[lI,Dl.app,zb]
 | obj v ob=>exact a v ob _ λ_=>rfl
 | new ob=>exact a n ob _ λ_=>rfl
 | cells v o xs=>
  have c:zb n (.cells v o xs)=some v:=rfl
  by_cases e:v=x
  .subst e;rw[if_pos c];simp only[lI,Dl.app];split
   .rename_i t g cs b;rw[bL,if_pos rfl,if_pos (ae.1 b).1,b];rfl
   .rename_i h
    cases d:H[v]? with
    | none=>rfl
    | some ob=>
     cases ob<;>first|rfl|skip
     exact absurd d (h _ _ _)
  .rw[if_neg (by rw[c];simpa using e)];simp only[lI,Dl.app];split
   .grind
   .rfl
def Fits(n:Nat)(δ:Dl)(H:U):Prop:=match δ with
 | .cells v o xs=>∃t g cs,H[v]? = some (.row t g cs)/\o+xs.length<=cs.length
 | .new _=>H[n]? = some .lY
 | _=>True
def zy{a b:List Fp}(h:uM a b=true){x y:Fp}(d:x∈a)(c:y∈b):uL x y=true:=
 List.all_eq_true.1 (List.all_eq_true.1 h x d) y c
def Vw{n:Nat}{δ:Dl}{H:U}{j:List Fp}(s:Fits n δ H)(h:uM (jV n δ) j=true):uG j (lI n δ H) H:=by
 intro x b;obtain⟨u,r⟩:=x
 have z:∀v q,(v,q)∈jV n δ->zb n δ=some v:=by intro v q d;cases δ<;>simp only[jV,List.mem_singleton,eE]at d<;>first|(cases d;rfl)|cases d
 have c:zb n δ≠some u->(lI n δ H)[u]? = H[u]? := λk=>by rw[DC,if_neg k]
 by_cases a:zb n δ=some u
 .cases r with
  | none=>
   exfalso
   cases δ with
   | no=>cases a
   | cells v o xs=>cases a;have:=zy h (x:=(u,some (o,xs.length))) (by simp[jV]) b;simp[uL]at this
   | obj v ob=>cases a;have:=zy h (x:=(u,none)) (by simp[jV]) b;simp[uL]at this
   | new ob=>cases a;have:=zy h (x:=(n,none)) (by simp[jV]) b;simp[uL]at this
  | some q=>
   obtain⟨p,m⟩:=q
   cases δ with
   | no=>cases a
   | obj v ob=>cases a;exfalso;have:=zy h (x:=(u,none)) (by simp[jV]) b;simp[uL]at this
   | new ob=>cases a;exfalso;have:=zy h (x:=(n,none)) (by simp[jV]) b;simp[uL]at this
   | cells v o xs=>
    cases a;obtain⟨t,g,cs,h1,f⟩:=s;have w:=zy h (x:=(u,some (o,xs.length))) (by simp[jV]) b;simp only[uL,bne_self_eq_false,Bool.false_or,b7,decide_eq_true_eq]at w;refine .inr ⟨t,g,sP o xs cs,cs,?_,h1,UA f,λi l y=>?_⟩
    .simp[DC,zb,h1,UF]
    .rw[Jr f,if_neg (by omega)]
 .have e:=c a
  cases r with
  | none=>exact e
  | some q=>exact .inl e
def apf{o p:Nat}{xs c cs:List D}(h1:o+xs.length<=cs.length)(d:p+c.length<=cs.length)(h:o+xs.length<=p\/p+c.length<=o) :
  sP o xs (sP p c cs)=sP p c (sP o xs cs):=by
 apply bQ;intro i;rw[Jr (by rw[UA d];exact h1),Jr d,Jr (by rw[UA h1];exact d),Jr h1]
 by_cases a:o<=i/\i<o+xs.length<;>by_cases b:p<=i/\i<p+c.length
 .omega
 .grind
 .grind
 .grind
def apM{n m:Nat}{δ c:Dl}{H:U}(j:Fits n δ H)(hg:Fits m c H)(h:uM (jV n δ) (jV m c)=true):lI m c (lI n δ H)=lI n δ (lI m c H):=by
 apply bQ;intro x;rw[DC,DC,DC,DC]
 by_cases a:zb n δ=some x<;>by_cases b:zb m c=some x
 .rw[if_pos a,if_pos b,if_pos b,if_pos a]
  have bad:∀ {P:Prop},(∃q r,(x,q)∈jV n δ/\(x,r)∈jV m c/\(q=none\/r=none))->P:=by
   rintro P ⟨q,r,h1,d,k⟩;have:=zy h h1 d;rcases k with rfl|rfl
   .simp[uL]at this
   .cases q<;>simp[uL]at this
  cases δ with
  | no=>cases a
  | obj v ob=>
   cases a
   cases c with
   | no=>cases b
   | cells v o xs=>cases b;exact bad ⟨none,some (o,xs.length),by simp[jV],by simp[jV],.inl rfl⟩
   | obj v ob=>cases b;exact bad ⟨none,none,by simp[jV],by simp[jV],.inl rfl⟩
   | new ob=>cases b;exact bad ⟨none,none,by simp[jV],by simp[jV],.inl rfl⟩
  | new ob=>
   cases a
   cases c with
   | no=>cases b
   | cells v o xs=>cases b;exact bad ⟨none,some (o,xs.length),by simp[jV],by simp[jV],.inl rfl⟩
   | obj v ob=>cases b;exact bad ⟨none,none,by simp[jV],by simp[jV],.inl rfl⟩
   | new ob=>cases b;exact bad ⟨none,none,by simp[jV],by simp[jV],.inl rfl⟩
  | cells v o xs=>
   cases a
   cases c with
   | no=>cases b
   | obj v ob=>cases b;exact bad ⟨some (o,xs.length),none,by simp[jV],by simp[jV],.inr rfl⟩
   | new ob=>cases b;exact bad ⟨some (o,xs.length),none,by simp[jV],by simp[jV],.inr rfl⟩
   | cells v p i=>
    cases b;obtain⟨t,g,cs,h1,d⟩:=j;obtain⟨s,w,u,e,l⟩:=hg;rw[h1]at e;cases e;have f:=zy h (x:=(x,some (o,xs.length))) (y:=(x,some (p,i.length))) (by simp[jV]) (by simp[jV]);simp only[uL,bne_self_eq_false,Bool.false_or,b7,decide_eq_true_eq]at f;simp only[h1,aF,UF];rw[apf d l f]
 .grind
 .grind
 .grind
structure Rc where
 R:List Fp
 W:List Fp
inductive Out where
 | norm (s:St)
 | exit (id:Nat) (s:St)
 | ret (s:St)
inductive A7 where
 | ops (l:List ia) (s:St)
 | code (c:IR) (s:St)
 | loop (n:Nat) (live:List Nat) (a:IR) (s:St)
 | call (f:FuncId) (args:List D) (H:U)
 | trace (l:List ia) (s:St)
inductive pI where
 | out (o:Out)
 | tr (rs:List Rc) (s:St)
 | val (d:D) (H:U)
def Out.stop:Out->Bool
 | .norm _=>false
 | _=>true
def wE(c:List (Nat×Nat))(rs:List Rc):Bool:=c.all λp=>match rs[p.1]?,rs[p.2]? with
 | some a,some b=>uM a.W (b.R++b.W)&&uM b.W (a.R++a.W)
 | _,_=>false
def yieldOf(env:gT):iR->Option (Nat×List D)
 | .callv f args=>match ev env f with
  | .ja v=>some (v,args.map (ev env))
  | _=>none
 | _=>none
def Out.st:Out->St
 | .norm s=>s
 | .exit _ s=>s
 | .ret s=>s
def Out.AW:Out->qv
 | .norm _=>.ready
 | .exit id _=>.zM id
 | .ret _=>.Bk
def AP(s:St):qv->Option Out
 | .ready=>some (.norm s)
 | .busy=>none
 | .Bk=>some (.ret s)
 | .zM id=>some (.exit id s)
def kill:List Nat->U->Option U
 | [],H=>some H
 | v::vs,H=>match H[v]? with
  | some .jE=>kill vs (H.set v .dead)
  | _=>none
def finish(fn:jo)(own n:Nat):Out->Option (D×U)
 | .norm s | .ret s=>match kill s.marks s.H with
  | some H=>match results fn { s with H:=H }with
   | some d=>some (leave own n H d)
   | none=>none
  | none=>none
 | .exit _ _=>none
def lS(id n:Nat)(live:List Nat):Out->Out
 | .norm s=>.norm (cut n live s)
 | .exit a s=>if a=id then .norm (cut n live s)else .exit a s
 | .ret s=>.ret s
inductive Ev(T:iD):A7->(pI->Prop)->Prop
 | mono {j R R'} (h:Ev T j R) (hi:∀r,R r->R' r):Ev T j R'
 | nil {s R} (h:R (.out (.norm s))):Ev T (.ops [] s) R
 | op {e r s d δ R} (hg:guardOf s.env.get e.guard=some true) (h:gP s.env.get s.H s.H.length e.op=some (d,δ))
   (t:Ev T (.ops r { s with env:=put s.env e.dst d,H:=δ.app s.H (Al.last s.H) }) R):Ev T (.ops (e::r) s) R
 | C1 {e r s d δ R} (hg:guardOf s.env.get e.guard=some true) (h:mC s.env.get s.H s.H.length e.op=some (d,δ))
   (t:Ev T (.ops r { s with env:=put s.env e.dst d,H:=δ.app s.H (Al.last s.H) }) R):Ev T (.ops (e::r) s) R
 | off {e r s R} (hg:guardOf s.env.get e.guard=some false) (t:Ev T (.ops r { s with env:=put s.env e.dst (.val undef) }) R):Ev T (.ops (e::r) s) R
 | me {l s R} (S:List Nat) (hm:s.marks.all (λv => !S.contains v)=true) (t:Ev T (.ops l (me S s)) R):Ev T (.ops l s) R
 | G4 {c s R} (S:List Nat) (hm:s.marks.all (λv => !S.contains v)=true) (t:Ev T (.code c (me S s)) R):Ev T (.code c s) R
 | Rg {l s R} (live:List Nat) (t:Ev T (.ops l { s with env:=forget live s.env }) R):Ev T (.ops l s) R
 | G3 {c s R} (live:List Nat) (t:Ev T (.code c { s with env:=forget live s.env }) R):Ev T (.code c s) R
 | Gs {e r s f args fn R1 R} (hg:guardOf s.env.get e.guard=some true) (hc:kK s.env.get e.op=some (f,args)) (hf:T.fn f=some fn) (hp:fn.full=false)
   (h:Ev T (.call f (args.map (gq (λ_=>none) s.H 40)) []) R1) (ha:∀d Hn,R1 (.val d Hn)->(after s e.dst args d Hn).isSome=true)
   (t:∀d Hn s',R1 (.val d Hn)->after s e.dst args d Hn=some s'->Ev T (.ops r s') R):Ev T (.ops (e::r) s) R
 | Gr {e r s f args fn R1 R} (hg:guardOf s.env.get e.guard=some true) (hc:kK s.env.get e.op=some (f,args)) (hf:T.fn f=some fn) (hp:fn.full=true)
   (h:Ev T (.call f args s.H) R1) (t:∀d H',R1 (.val d H')->Ev T (.ops r { s with env:=put s.env e.dst d,H:=H' }) R):Ev T (.ops (e::r) s) R
 | MY {e r s v args rf env0 Rd Ra Rb R} (hg:guardOf s.env.get e.guard=some true) (hc:yieldOf s.env.get e.op=some (v,args)) (hv:s.H[v]? = some (.im rf env0 .ready)) (hR:T.round rf=some Rd) (hl:args.length=Rd.params.length)
   (ha:Ev T (.code Rd.a { env:=uC Rd.params args env0,H:=s.H,ic:=true }) Ra) (hn:∀o,Ra (.out o)->o.stop=false/\∃lx,o.st.H[v]? = some (.im rf lx .ready))
   (hb:∀s1 lx,Ra (.out (.norm s1))->s1.H[v]? = some (.im rf lx .ready)->Ev T (.code Rd.b { s1 with H:=s1.H.set v (.im rf lx .busy) }) Rb)
   (hm:∀o,Rb (.out o)->∃lJ,o.st.H[v]? = some (.im rf lJ .busy))
   (t:∀o lJ,Rb (.out o)->o.st.H[v]? = some (.im rf lJ .busy)->Ev T (.ops r { s with env:=put s.env e.dst (.b !o.stop),H:=o.st.H.set v (.im rf lJ o.AW) }) R):Ev T (.ops (e::r) s) R
 | next {e r s x v m since seen kk es R} (hg:guardOf s.env.get e.guard=some true) (iO:e.op = .nextM x) (hx:ev s.env.get x = .ptr v 0 0) (hv:s.H[v]? = some (.jj (.gH m) since seen)) (hm:s.H[m]? = some (.map kk es)) (hs:es.length=since)
   (h0:(∀i,i<es.length->i∈seen)->Ev T (.ops r { s with env:=put s.env e.dst (.tup [.b false]) }) R)
   (h1:∀i k d,es[i]? = some (k,d)->i ∉ seen->Ev T (.ops r { s with env:=put s.env e.dst (.tup [.b true,sJ k,d]),H:=s.H.set v (.jj (.gH m) since (seen ++ [i])) }) R):Ev T (.ops (e::r) s) R
 | Jz {s R} (h:R (.tr [] s)):Ev T (.trace [] s) R
 | JB {e r s d δ R1 R} (hg:guardOf s.env.get e.guard=some true) (h:gP s.env.get s.H s.H.length e.op=some (d,δ))
   (t:Ev T (.trace r { s with env:=put s.env e.dst d,H:=δ.app s.H (Al.last s.H) }) R1) (k:∀rs s',R1 (.tr rs s')->R (.tr (⟨gR s.env.get s.H e.op,jV s.H.length δ⟩::rs) s')):Ev T (.trace (e::r) s) R
 | JA {e r s R1 R} (hg:guardOf s.env.get e.guard=some false) (t:Ev T (.trace r { s with env:=put s.env e.dst (.val undef) }) R1) (k:∀rs s',R1 (.tr rs s')->R (.tr (⟨[],[]⟩::rs) s')):Ev T (.trace (e::r) s) R
 | Jw {e r s f args fn d R0 R1 R} (hg:guardOf s.env.get e.guard=some true) (hc:kK s.env.get e.op=some (f,args)) (hf:T.fn f=some fn) (hp:fn.full=false)
   (h:Ev T (.call f (args.map (gq (λ_=>none) s.H 40)) []) R0) (h0:∀d' Hn,R0 (.val d' Hn)->d'=d/\Hn = []) (hr:(if gG args then closed d else flat d)=true)
   (t:Ev T (.trace r { s with env:=put s.env e.dst d }) R1) (k:∀rs s',R1 (.tr rs s')->R (.tr (⟨gR s.env.get s.H e.op,[]⟩::rs) s')):Ev T (.trace (e::r) s) R
 | Jx {e r s f as args fn d ob R0 R1 R} (hg:guardOf s.env.get e.guard=some true) (iO:e.op = .callN f as) (ha:args=as.map (ev s.env.get)) (hf:T.fn f=some fn) (hp:fn.full=false)
   (h:Ev T (.call f (args.map (gq (λ_=>none) s.H 40)) []) R0) (h0:∀d' Hn,R0 (.val d' Hn)->d'=d/\Hn = [ob]) (hr:(if gG args then mY d&&oy ob else o3 d&&pO ob)=true)
   (t:Ev T (.trace r { s with env:=put s.env e.dst (kH s.H.length d),H:=s.H ++ [ob] }) R1) (k:∀rs s',R1 (.tr rs s')->R (.tr (⟨gR s.env.get s.H e.op,[(s.H.length,none)]⟩::rs) s')):Ev T (.trace (e::r) s) R
 | Jy {e r s f as args fn d v R0 R1 R} (hg:guardOf s.env.get e.guard=some true) (iO:e.op = .callN f as) (ha:args=as.map (ev s.env.get)) (hf:T.fn f=some fn) (hp:fn.full=false)
   (hS:∀u∈(args.map (iF s.H 40)).flatten,u=v) (hv:v∈(args.map (iF s.H 40)).flatten) (gY:(rowsOf s.H v).isSome=true) (gO:gG (args.map (gq (λ_=>none) s.H 40))=true)
   (h:Ev T (.call f (args.map (gq (λ_=>none) s.H 40)) []) R0) (h0:∀d' Hn,R0 (.val d' Hn)->d'=d/\Hn = []) (hr:closed d=true)
   (t:Ev T (.trace r { s with env:=put s.env e.dst d,H:=s.H.set v .dead }) R1) (k:∀rs s',R1 (.tr rs s')->R (.tr (⟨gR s.env.get s.H e.op,[(v,none)]⟩::rs) s')):Ev T (.trace (e::r) s) R
 | mb {jH l s R1 R} (t:Ev T (.trace l s) R1) (hp:∀rs s',R1 (.tr rs s')->wE jH rs=true/\R (.out (.norm s'))):Ev T (.code (.mb jH l) s) R
 | mR {jH l es s R1 R} (t:Ev T (.trace l s) R1) (hp:∀rs s',R1 (.tr rs s')->wE jH rs=true) (k:∀rs s',R1 (.tr rs s')->Ev T (.ops es s') R):Ev T (.code (.mR jH l es) s) R
 | skip {s R} (h:R (.out (.norm s))):Ev T (.code .skip s) R
 | GG {l s R} (h:Ev T (.ops l s) R):Ev T (.code (.ops l) s) R
 | seq {a b s R1 R} (h:Ev T (.code a s) R1) (k:∀s',R1 (.out (.norm s'))->Ev T (.code b s') R) (hs:∀o,R1 (.out o)->o.stop=true->R (.out o)):Ev T (.code (.seq a b) s) R
 | cond {c a b s x R} (hc:ev s.env.get c = .val (.bool x)) (h:Ev T (.code (if x then a else b) s) R):Ev T (.code (.cond c a b) s) R
 | block {id live a s R1 R} (h:Ev T (.code a s) R1) (k:∀o,R1 (.out o)->R (.out (lS id s.H.length live o))):Ev T (.code (.block id live a) s) R
 | loop {live a s R} (h:Ev T (.loop s.H.length live a { s with env:=forget live s.env }) R):Ev T (.code (.loop live a) s) R
 | AE {n live a s R1 R} (h:Ev T (.code a s) R1) (k:∀s',R1 (.out (.norm s'))->Ev T (.loop n live a (cut n live s')) R) (hs:∀o,R1 (.out o)->o.stop=true->R (.out o)):Ev T (.loop n live a s) R
 | oq {rf live x s f first cap fn R1 R} (hr:s.ic=false) (hx:ev s.env.get x = .fn (.func f) first cap) (hf:T.fn f=some fn) (hp:fn.full=true)
   (h:Ev T (.call f (first ++ [.ja (s.H.length+1)]++cap) (s.H ++ [.jE,.im rf (forget live s.env) .ready])) R1)
   (k:∀d H',R1 (.val d H')->∃env st o,H'[s.H.length+1]? = some (.im rf env st)/\AP { s with H:=H'.set (s.H.length+1) .dead,marks:=s.H.length::s.marks } st=some o/\R (.out o)):Ev T (.code (.oq rf live x) s) R
 | exit {id s R} (h:R (.out (.exit id s))):Ev T (.code (.exit id) s) R
 | ret {s R} (h:R (.out (.ret s))):Ev T (.code .ret s) R
 | call {f args H fn R1 R} (own:Nat) (hf:T.fn f=some fn) (hl:args.length<=fn.ntmps) (h:Ev T (.code fn.body { env:=uo args,H:=H }) R1)
   (k:∀o,R1 (.out o)->∃d H',finish fn own H.length o=some (d,H')/\R (.val d H')):Ev T (.call f args H) R
 | sort {f g fn sz v gen t H R} {α:Type} (fc:α->List D) (l:List α) (cf:α->α->Int) (hs:T.sort f=some sz) (hg:T.fn g=some fn) (hl:∀a∈l,(fc a).length=sz) (gO:∀a∈l,gG (fc a)=true) (h0:0<l.length) (xi:l.length<4611686018427387904)
   (EO:∀x∈l,¬cf x x<0) (tr:∀x∈l,∀y∈l,∀z∈l,cf x y<0->cf y z<0->cf x z<0) (nt:∀x∈l,∀y∈l,∀z∈l,¬cf x y<0->¬cf y z<0->¬cf x z<0)
   (hc:∀x∈l,∀y∈l,Ev T (.call g [.agg (fc x),.agg (fc y)] []) (λr=>∃H',r = .val (.i (cf x y)) H')) (hv:H[v]? = some (.row t gen (l.map fc).flatten))
   (k:∀l':List α,l'.Perm l->l'.Pairwise (λx y=>¬cf y x<0)->R (.val (.tup []) (H.set v (.row t gen (l'.map fc).flatten)))):Ev T (.call f [.fZ v gen sz 0 l.length,.fn (.func g) [] []] H) R
 | Fq {f sz x H R} (hs:T.sort f=some sz) (k:R (.val (.tup []) H)):Ev T (.call f [.gg,x] H) R
 | tz {f v gen t H R} (l:List Int) (hs:T.tz f=true) (h0:0<l.length) (xi:l.length<4611686018427387904) (hv:H[v]? = some (.row t gen (l.map λn=>D.i n)))
   (k:R (.val (.tup []) (H.set v (.row t gen ((l.mergeSort λx y=>decide (x<=y)).map λn=>D.i n))))):Ev T (.call f [.fZ v gen 1 0 l.length] H) R
 | sZ {f v gen t zs H R} (l:List Int) (i:Nat) (hs:T.sZ f=true) (hi:i<l.length) (hv:H[v]? = some (.row t gen (l.map (λn=>D.i n)++zs)))
   (k:R (.val (.fZ v gen 1 0 (l.length-1)) (H.set v (.row t gen ((l.take i++l.drop (i+1) ++ [0]).map (λn=>D.i n)++zs))))):Ev T (.call f [.fZ v gen 1 0 l.length,.i i,.i ((i:Int)+1)] H) R
end Go.AL
namespace Go.AL
open Go
def mO(f:gT):Option Nat->D->gT
 | some k,d=>λt=>if k=t then d else f t
 | none,_=>f
def I3(env:Env)(dst:Option Nat)(d:D):(put env dst d).get=mO env.get dst d:=by
 cases dst with
 | none=>rfl
 | some k=>funext t;simp[put,Env.xf,mO]
def Rr:Option (Nat×Bool)->List Nat
 | some (t,_)=>[t]
 | none=>[]
def looks(e:ia):List Nat:=ij e.op++Rr e.guard
inductive Ef(C:FuncId->List D->D->U->Prop)(f:gT)(H:U)(e:ia)(n:Nat):Rc->D->Dl->Prop
 | op {d δ} (hg:guardOf f e.guard=some true) (h:gP f H n e.op=some (d,δ)) (hf:Fits n δ H):Ef C f H e n ⟨gR f H e.op,jV n δ⟩ d δ
 | off (hg:guardOf f e.guard=some false):Ef C f H e n ⟨[],[]⟩ (.val undef) .no
 | call {g args d} (hg:guardOf f e.guard=some true) (hc:kK f e.op=some (g,args))
   (h:C g (args.map (gq (λ_=>none) H 40)) d []) (hr:(if gG args then closed d else flat d)=true):Ef C f H e n ⟨gR f H e.op,[]⟩ d .no
 | callN {g as args d ob} (hg:guardOf f e.guard=some true) (iO:e.op = .callN g as) (ha:args=as.map (ev f))
   (h:C g (args.map (gq (λ_=>none) H 40)) d [ob]) (hr:(if gG args then mY d&&oy ob else o3 d&&pO ob)=true) (hf:Fits n (.new ob) H):Ef C f H e n ⟨gR f H e.op,jV n (.new ob)⟩ (kH n d) (.new ob)
 | Bf {g as args d v} (hg:guardOf f e.guard=some true) (iO:e.op = .callN g as) (ha:args=as.map (ev f)) (hS:∀u∈(args.map (iF H 40)).flatten,u=v) (hv:v∈(args.map (iF H 40)).flatten) (gY:(rowsOf H v).isSome=true)
   (h:C g (args.map (gq (λ_=>none) H 40)) d []) (gO:gG (args.map (gq (λ_=>none) H 40))=true) (hr:closed d=true):Ef C f H e n ⟨gR f H e.op,[(v,none)]⟩ d (.obj v .dead)
def guard_congr{f f':gT}{g:Option (Nat×Bool)}(h:∀t∈Rr g,f t=f' t):guardOf f g=guardOf f' g:=by
 cases g with
 | none=>rfl
 | some p=>simp only[guardOf,h p.1 (by simp[Rr])]
def acI{x:Fp}{H1 H2:U}(h:Alike x H1 H2):Alike x H2 H1:=by
 obtain⟨v,r⟩:=x
 cases r with
 | none=>exact h.symm
 | some q=>
  rcases h with h|⟨t,g,cs,ds,h1,e,d,c⟩
  .exact .inl h.symm
  .exact .inr ⟨t,g,ds,cs,e,h1,d.symm,λi a b=>(c i a b).symm⟩
def Xw{n:Nat}{δ:Dl}{H H':U}(h:uG (jV n δ) H H')(a:Fits n δ H):Fits n δ H':=by
 cases δ with
 | no=>trivial
 | obj v ob=>trivial
 | new ob=>
  have e:H[n]? = H'[n]? := h (n,none) (by simp[jV]);show H'[n]? = some .lY;rw[<-e];exact a
 | cells v o xs=>
  obtain⟨t,g,cs,h1,d⟩:=a;rcases h (v,some (o,xs.length)) (by simp[jV])with h|⟨f,l,i,ds,b,c,k,j⟩
  .exact⟨t,g,cs,h▸h1,d⟩
  .rw[h1]at b;cases b;exact⟨t,g,ds,c,by omega⟩
def Pv{H H':U}{v:Nat}(h:Alike (v,none) H H'):rowsOf H v=rowsOf H' v:=by have e:H[v]? = H'[v]? := h;simp only[rowsOf,e]
def Qu{f:gT}{H:U}{op:iR}{g:FuncId}{args:List D}(i:kK f op=some (g,args)){H':U}(h:uG (gR f H op) H H') :
  gR f H' op=gR f H op/\args.map (gq (λ_=>none) H' 40)=args.map (gq (λ_=>none) H 40):=by
 have key:∀args:List D,(∀v∈(args.map (iF H 40)).flatten,rowsOf H v=rowsOf H' v)->args.map (iF H' 40)=args.map (iF H 40)/\args.map (gq (λ_=>none) H' 40)=args.map (gq (λ_=>none) H 40):=by intro args j;have h1:∀d∈args,∀v∈iF H 40 d,rowsOf H v=rowsOf H' v:=λd e v c=>j v (a7.2 ⟨_,List.mem_map.2 ⟨d,e,rfl⟩,c⟩);exact⟨aq λd e=>(I9 40 d (h1 d e)).1,aq λd e=>(I9 40 d (h1 d e)).2⟩
 cases op<;>first|(cases i;done)|skip
 case call k as=>
  cases i;obtain⟨a,b⟩:=key (as.map (ev f)) λv c=>Pv (h (v,none) (List.mem_map.2 ⟨v,c,rfl⟩));exact⟨by simp only[gR,a],b⟩
 case callN k as=>
  cases i;obtain⟨a,b⟩:=key (as.map (ev f)) λv c=>Pv (h (v,none) (List.mem_map.2 ⟨v,c,rfl⟩));exact⟨by simp only[gR,a],b⟩
 case callv k as=>
  simp only[gR,i]at h ⊢;obtain⟨a,b⟩:=key args λv c=>Pv (h (v,none) (List.mem_map.2 ⟨v,c,rfl⟩));exact⟨by rw[a],b⟩
def af7{f:gT}{H H':U}{op:iR}(a:kK f op=none):gR f H' op=gR f H op:=by
 cases op<;>first|rfl|(cases a;done)|skip
 case callv=>simp only[gR,a]
 case len k x=>cases k<;>rfl
def adi{f:gT}{H:U}{n:Nat}{op:iR}{r:D×Dl}(h:gP f H n op=some r):kK f op=none:=by cases op<;>first|rfl|cases h
variable{C:FuncId->List D->D->U->Prop}
theorem Ef.local{f f':gT}{H H':U}{e:ia}{n:Nat}{rc:Rc}{d:D}{δ:Dl}(h:Ef C f H e n rc d δ)(E:∀t∈looks e,f t=f' t)(j:uG (rc.R++rc.W) H H'):Ef C f' H' e n rc d δ:=by
 have h1:∀t∈ij e.op,f t=f' t:=λt u=>E t (bk _ u);have p:guardOf f e.guard=guardOf f' e.guard:=guard_congr λt u=>E t (bI _ u)
 cases h with
 | op hg B s=>
  have k:gR f H e.op=gR f' H' e.op:=by rw[NM h1,af7 (adi (by rw[<-VC h1];exact B))]
  rw[k];refine .op (p▸hg) ?_ (Xw j.right s);rw[<-VC h1,<-acL (H1:=H) j.left];exact B
 | off hg=>exact .off (p▸hg)
 | call hg i m o=>
  obtain⟨a,b⟩:=Qu i j.left;have k:gR f H e.op=gR f' H' e.op:=by rw[<-a,NM h1]
  rw[k];exact .call (p▸hg) (by rw[<-M0 h1];exact i) (by rw[b];exact m) o
 | @callN g w args _ _ hg c q m o s=>
  have i:kK f e.op=some (g,args):=by rw[c,q];rfl
  obtain⟨a,b⟩:=Qu i j.left;have k:gR f H e.op=gR f' H' e.op:=by rw[<-a,NM h1]
  rw[k];have l:kK f' e.op=some (g,args):=by rw[<-M0 h1];exact i
  have r:args=w.map (ev f'):=by rw[c]at l;cases l;rfl
  exact .callN (p▸hg) c r (by rw[b];exact m) o (Xw j.right s)
 | @Bf g w args _ v hg c q hS F G m I o=>
  have i:kK f e.op=some (g,args):=by rw[c,q];rfl
  obtain⟨a,b⟩:=Qu i j.left;have k:gR f H e.op=gR f' H' e.op:=by rw[<-a,NM h1]
  rw[k];have l:kK f' e.op=some (g,args):=by rw[<-M0 h1];exact i
  have r:args=w.map (ev f'):=by rw[c]at l;cases l;rfl
  have A:(args.map (iF H' 40)).flatten=(args.map (iF H 40)).flatten:=by have z:=a;rw[c]at z;simp only[gR,<-q]at z;exact(List.map_inj_right (λx y h=>(Prod.mk.inj h).1)).1 z
  have J:rowsOf H v=rowsOf H' v:=Pv (j.right (v,none) (by simp));exact .Bf (p▸hg) c r (by rw[A];exact hS) (by rw[A];exact F) (by rw[<-J];exact G) (by rw[b];exact m) (by rw[b];exact I) o
theorem Ef.fits{f:gT}{H:U}{e:ia}{n:Nat}{rc:Rc}{d:D}{δ:Dl}(h:Ef C f H e n rc d δ):Fits n δ H/\rc.W=jV n δ:=by
 cases h with
 | op _ _ a=>exact⟨a,rfl⟩
 | off=>exact⟨trivial,rfl⟩
 | call=>exact⟨trivial,rfl⟩
 | callN _ _ _ _ _ a=>exact⟨a,rfl⟩
 | Bf=>exact⟨trivial,rfl⟩
def y8(a b:ia):Bool:=
 (match a.dst with|some k => !(looks b).contains k&&b.dst != some k|none=>true)&&(match b.dst with|some k => !(looks a).contains k|none=>true)
def wG(a b:Rc):Bool:=uM a.W (b.R++b.W)&&uM b.W (a.R++a.W)
theorem ab6{f:gT}{dst:Option Nat}{d:D}{l:List Nat}(h:∀k,dst=some k->k ∉ l):∀t∈l,mO f dst d t=f t:=by
 intro t a
 cases dst with
 | none=>rfl
 | some k=>
  simp only[mO];rw[if_neg];rintro rfl;exact h _ rfl a
theorem apu{f:gT}{a b:Option Nat}{x y:D}(h:∀k,a=some k->b≠some k):mO (mO f a x) b y=mO (mO f b y) a x:=by
 cases a with
 | none=>rfl
 | some k=>
  cases b with
  | none=>rfl
  | some j=>
   have d:j≠k:=λe=>h k rfl (by rw[e]);funext t;simp only[mO]
   by_cases h1:j=t<;>by_cases c:k=t<;>simp[h1,c]
   exact absurd (h1.trans c.symm) d
theorem ao0{a b:ia}(h:y8 a b=true):(∀k,a.dst=some k->k ∉ looks b)/\(∀k,b.dst=some k->k ∉ looks a)/\(∀k,a.dst=some k->b.dst≠some k):=by
 unfold y8 at h;simp only[Bool.and_eq_true]at h;refine⟨λk c=>?_,λk c=>?_,λk c=>?_⟩
 .have:=h.1;rw[c]at this;simp at this;exact this.1
 .have:=h.2;rw[c]at this;simpa using this
 .have:=h.1;rw[c]at this;simp at this;exact this.2
theorem swap{f:gT}{H:U}{a b:ia}{n m:Nat}{g e:Rc}{x y:D}{δ c:Dl}(l:Ef C f H a n g x δ)(w:Ef C (mO f a.dst x) (lI n δ H) b m e y c)
  (hs:y8 a b=true) (d:wG g e=true) :
  Ef C f H b m e y c/\Ef C (mO f b.dst y) (lI m c H) a n g x δ/\mO (mO f a.dst x) b.dst y=mO (mO f b.dst y) a.dst x/\lI m c (lI n δ H)=lI n δ (lI m c H):=by
 obtain⟨s1,r,q⟩:=ao0 hs;simp only[wG,Bool.and_eq_true]at d;obtain⟨p,j⟩:=l.fits;have k:Ef C f H b m e y c:=w.local (ab6 s1) (Vw p (by rw[<-j];exact d.1));obtain⟨o,i⟩:=k.fits;refine⟨k,l.local (λt v=>(ab6 r t v).symm) λz h=>acI (Vw o (by rw[<-i];exact d.2) z h),apu q,apM p o ?_⟩;rw[<-j,<-i];simp only[uM,List.all_eq_true]at d ⊢;exactλu s z h=>d.1 u s z (bI _ h)
theorem Tk{o:Option D}{d:D}{δ:Dl}(h:lift o=some (d,δ)):δ = .no:=by cases o<;>simp[lift]at h;exact h.2.symm
theorem TY{f:gT}{H:U}{e:ia}{n:Nat}{rc:Rc}{d:D}{δ:Dl}(h:Ef C f H e n rc d δ)(a:I1 e.op=true):rc.R = []/\rc.W = []:=by
 cases h with
 | op hg c j=>
  cases b:e.op<;>rw[b]at c a<;>simp only[gP]at c<;>first|(cases a;done)|skip
  case len k x=>
   have:=Tk c;subst this;cases k<;>first|(cases a;done)|exact⟨rfl,rfl⟩
  all_goals
   have:=Tk c;subst this;exact⟨rfl,rfl⟩
 | off hg=>exact⟨rfl,rfl⟩
 | call hg g h i=>cases b:e.op<;>rw[b]at g a<;>first|(cases a;done)|(cases g;done)
 | callN _ b=>rw[b]at a;cases a
 | Bf _ b=>rw[b]at a;cases a
theorem abd{f:gT}{H:U}{e:ia}{n:Nat}{rc:Rc}{d:D}{δ:Dl}(h:Ef C f H e n rc d δ)(a:T7 e.op=true):rc.W = []:=by
 by_cases g:I1 e.op=true
 .exact(TY h g).2
 .cases h with
  | op hg c i=>
   cases b:e.op<;>rw[b]at c a g<;>simp only[gP]at c<;>first|(cases a;done)|(exact absurd rfl g)|skip
   case call=>cases c
   case callv=>cases c
   all_goals
    have:=Tk c;subst this;rfl
  | off hg=>rfl
  | call=>rfl
  | callN _ b=>rw[b]at a;cases a
  | Bf _ b=>rw[b]at a;cases a
theorem abW{f f':gT}{H H':U}{a b:ia}{n m:Nat}{g e:Rc}{x y:D}{δ k:Dl}(j:Ef C f H a n g x δ)(i:Ef C f' H' b m e y k)(h:PS a.op b.op=true):wG g e=true:=by
 simp only[PS,b7,Bool.and_eq_true]at h;rcases h with(h|h)|⟨h1,l⟩
 .obtain⟨d,c⟩:=TY j h;simp[wG,d,c,uM]
 .obtain⟨d,c⟩:=TY i h;simp[wG,d,c,uM]
 .simp[wG,abd j h1,abd i l,uM]
structure nu where
 k:Nat
 e:ia
 n:Nat
 rc:Rc
inductive Tx(C:FuncId->List D->D->U->Prop):gT->U->List nu->gT->U->Prop
 | nil {f H}:Tx C f H [] f H
 | cons {f H it r d δ f' H'} (h:Ef C f H it.e it.n it.rc d δ) (t:Tx C (mO f it.e.dst d) (lI it.n δ H) r f' H'):Tx C f H (it::r) f' H'
theorem Tx.each{f:gT}{H:U}{l:List nu}{f':gT}{H':U}(h:Tx C f H l f' H'):∀a∈l,∃f H d δ,Ef C f H a.e a.n a.rc d δ:=by
 induction h with
 | nil=>intro a b;cases b
 | cons h t c=>
  intro a b;rcases ao.1 b with rfl|b
  .exact⟨_,_,_,_,h⟩
  .exact c a b
theorem Tx.front{a:nu}{post:List nu}{f':gT}{H':U}:∀ {pre:List nu} {f:gT} {H:U},Tx C f H (pre++a::post) f' H'->(∀p∈pre,y8 p.e a.e=true/\wG p.rc a.rc=true) ->
  ∃d δ,Ef C f H a.e a.n a.rc d δ/\Tx C (mO f a.e.dst d) (lI a.n δ H) (pre++post) f' H'
 | [],f,H,h,_=>by
  cases h with
  | cons h t=>exact⟨_,_,h,t⟩
 | p::pre,f,H,h,ha=>by
  cases h with
  | @cons _ _ _ _ d δ _ _ h t=>
   obtain⟨y,b,i,j⟩:=Tx.front (pre:=pre) t λq k=>ha q (by simp[k]);obtain⟨s1,g,e,c⟩:=swap h i (ha p (by simp)).1 (ha p (by simp)).2;refine⟨y,b,s1,.cons g ?_⟩;rw[<-e,<-c];exact j
end Go.AL
namespace Go.AL
open Go
structure SX(G:GT)(N:Nat)(c:Ctx)(w:World)(f:gT)(H:U)(ms:List Nat)(a:Act):Prop where
 gi:gE G c H w
 env:kW c w f a
 size:N<=a.tmps.size
 marks:sv c ms a.defers
section
variable{P:Program}{G:GT}{c:Ctx}{w:World}{f:gT}{H:U}{ms:List Nat}{a:Act}{N:Nat}
theorem anR{f:gT}{a:Act}{c:Ctx}{w:World}(b:kW c w f a)(hN:N<=a.tmps.size){dst:Option Tmp}(g:tJ N dst=true){v:Value}{d:D}(i:gh c w v d) :
  kW c w (mO f dst d) (a.put dst v):=by
 cases dst with
 | none=>exact b
 | some t=>
  have h:t<a.tmps.size:=aM (by simpa[tJ]using g) hN;intro k;simp only[mO,Act.put];split
  .simp_all
  .rename_i e;have:(a.tmps.setIfInBounds t v).getD k undef=a.tmps.getD k undef:=by simp_all
   rw[this];exact b k
theorem SX.next{c':Ctx}{w':World}{H':U}(hs:SX G N c w f H ms a)(gi:gE G c' H' w')(e:Step H.length c H w c' H' w'){dst:Option Tmp}(i:tJ N dst=true)
  {v:Value} {d:D} (g:gh c' w' v d):SX G N c' w' (mO f dst d) H' ms (a.put dst v) where
 gi:=gi
 env:=anR (kW.carry (λ_ _ h=>h.p7 hs.gi.toHeapOK e) hs.env) hs.size i g
 size:=by rw[aa5];exact hs.size
 marks:=by
  rw[put_defers];refine hs.marks.mono λv L h=>e.old v 0 L ?_ h;rcases bK v H.length with b|b
  .exact b
  .rw[hs.gi.out v 0 b]at h;cases h
theorem acM{op:iR}{n b:Nat}{d:D}{δ:Dl}(h:gP f H n op=some (d,δ))(a:∀ob,δ≠.new ob):gP f H b op=some (d,δ):=by
 cases op<;>simp only[gP]at h ⊢ <;> first|exact h|skip
 case box=>
  unfold sW at h;split at h
  .grind
  .cases h
 case alloc=>cases h;exact absurd rfl (a _)
 case buildSl=>
  unfold zB at h;split at h
  .grind
  .cases h
 case mkmap=>cases h;exact absurd rfl (a _)
 case mksl=>
  unfold EU at h;split at h
  .grind
  .cases h
 case app=>
  unfold rK at h ⊢;split at h
  .grind
  .cases h
theorem Gx{d:D}(h:closed d=true):mY d=true/\kH H.length d=d:=by
 cases d<;>first|(cases h;done)|skip
 case tup ds=>
  have b:=lT h;refine⟨?_,?_⟩
  .simp only[mY,xH,List.all_eq_true];intro d a;have:=b d a;cases d<;>first|rfl|exact this
  .simp only[kH];congr 1
   conv=>rhs;rw[<-aY ds]
   refine aq λd a=>?_;have:=b d a;cases d<;>first|(cases this;done)|rfl
 case agg ds=>
  have b:=lT h;refine⟨?_,?_⟩
  .simp only[mY,xH,List.all_eq_true];intro d a;have:=b d a;cases d<;>first|rfl|exact this
  .simp only[kH];congr 1
   conv=>rhs;rw[<-aY ds]
   refine aq λd a=>?_;have:=b d a;cases d<;>first|(cases this;done)|rfl
 all_goals exact⟨h,rfl⟩
theorem Rf{d:D}(h:flat d=true):o3 d=true/\kH H.length d=d:=by
 cases d<;>first|(cases h;done)|skip
 case tup ds=>
  have b:∀d∈ds,flat d=true:=λd a=>by obtain⟨i,hi⟩:=aB.1 a;exact DT h hi
  refine⟨?_,?_⟩
  .simp only[o3,xH,List.all_eq_true];intro d a;have:=b d a;cases d<;>first|rfl|exact this
  .simp only[kH];congr 1
   conv=>rhs;rw[<-aY ds]
   refine aq λd a=>?_;have:=b d a;cases d<;>first|(cases this;done)|rfl
 case agg ds=>
  have b:∀d∈ds,flat d=true:=λd a=>by obtain⟨i,hi⟩:=aB.1 a;exact DT h hi
  refine⟨?_,?_⟩
  .simp only[o3,xH,List.all_eq_true];intro d a;have:=b d a;cases d<;>first|rfl|exact this
  .simp only[kH];congr 1
   conv=>rhs;rw[<-aY ds]
   refine aq λd a=>?_;have:=b d a;cases d<;>first|(cases this;done)|rfl
 all_goals exact⟨h,rfl⟩
variable{C:FuncId->List D->D->U->Prop}
theorem WJ(X:∀g args d Hn,C g args d Hn->s5 P g=true/\zf P G g args [] d Hn)(hs:SX G N c w f H ms a){A:Array Oper}{o:Oper}{e:ia}{i:Nat}(hA:A[i]? = some o)
  (ho:w7 P G N A o=some e) {n:Nat} {rc:Rc} {d:D} {δ:Dl} (hE:Ef C f H e n rc d δ) {x:Option Nat} {m:Nat} {Q:Exit->Act->World->Prop} {K:Act->World->Prop}
  (k:∀c' w' a',SX G N c' w' (mO f e.dst d) (lI n δ H) ms a'->Step H.length c H w c' (lI n δ H) w'->K a' w'):wpOpIn (FW x) m P A Q i K a w:=by
 obtain⟨s1,p,B,z⟩:=zK ho;unfold wpOpIn;simp only[hA]
 cases hE with
 | op hg h R=>
  have r:=vt hs.env z hg;have s1:=Wm s1 h;simp only[r,if_true]
  have s:∀ {al:Al},nq H al->gP f H al.1 e.op=some (d,δ)->δ.app H al=lI n δ H->o.wpIn (FW x) m P a w K Q:=by
   intro al iq h T;obtain⟨v,w',M,d',H',c',⟨rfl,rfl⟩,gi,q,l⟩:=aa2 (P:=P) (K:=λd' H'=>d'=d/\H'=δ.app H al) hs.gi hs.env iq s1 (VE h ⟨rfl,rfl⟩);refine⟨λ_ _=>trivial,?_⟩;rw[Oper.semAt_plain (FW x) a.eval o (CG s1)];rw[T]at gi l;have j:=hs.next gi l B q
   rw[<-p]at j;have V:=k c' w' _ j l;rw[p]at V;rcases M with M|⟨M,rfl⟩
   .rw[M];exact V
   .rw[M];exact V
  by_cases Z:∃ob,δ = .new ob
  .obtain⟨ob,rfl⟩:=Z;exact s (al:=Al.lY H n) (nq.lY R) h rfl
  .have Y:∀ob,δ≠.new ob:=λob e=>Z ⟨ob,e⟩;refine s (al:=Al.last H) (nq.last H) (acM h Y) ?_;cases δ<;>first|rfl|exact absurd rfl (Y _)
 | off hg=>
  have r:=vt hs.env z hg;simp only[r,bG,if_false];refine⟨λ_ _=>trivial,?_⟩;have j:=hs.next hs.gi (Step.refl _ _ _ _) B (v:=undef) (d:=.val undef) (.val _)
  rw[<-p]at j;have:=k c w _ j (Step.refl _ _ _ _);rw[p]at this;exact this
 | @call g args d hg t h q=>
  have r:=vt hs.env z hg;have s1:=GC s1 t;simp only[r,if_true];obtain⟨F,I⟩:=X _ _ _ _ h;obtain⟨vs,L,J⟩:=PA hs.gi hs.env s1 t F
  have jt:(if gG args then mY d&&([]:U).all oy else o3 d&&([]:U).all pO)=true/\kH H.length d=d:=by
   by_cases O:gG args=true
   .rw[if_pos O]at q ⊢;obtain⟨a,b⟩:=Gx (H:=H) q;exact⟨by simp[a],b⟩
   .rw[if_neg O]at q ⊢;obtain⟨a,b⟩:=Rf (H:=H) q;exact⟨by simp[a],b⟩
  have y:=aa4 hs.gi J I jt.1;rw[jt.2,az]at y;refine⟨λ_ _=>trivial,?_⟩;rw[Oper.semAt_plain (FW x) a.eval o (CG s1),L];refine⟨λh=>by simp[Fence.wide]at h,Gt.2 (y.mono ?_)⟩;rintro e' w' ⟨v,c',rfl,gi,E,l⟩;have j:=hs.next gi l B E
  rw[<-p]at j;have:=k c' w' _ j l;rw[p]at this;exact this
 | @callN g as args d ob hg S W h q R=>
  have r:=vt hs.env z hg;simp only[r,if_true];have t:kK f e.op=some (g,args):=by rw[S,W];rfl
  have s1:=GC s1 t;obtain⟨F,I⟩:=X _ _ _ _ h;obtain⟨vs,L,J⟩:=PA hs.gi hs.env s1 t F;have y:=anP hs.gi J I q R;refine⟨λ_ _=>trivial,?_⟩;rw[Oper.semAt_plain (FW x) a.eval o (CG s1),L];refine⟨λh=>by simp[Fence.wide]at h,Gt.2 (y.mono ?_)⟩;rintro e' w' ⟨v,c',rfl,gi,E,l⟩;have j:=hs.next gi l B E
  rw[<-p]at j;have:=k c' w' _ j l;rw[p]at this;exact this
 | @Bf g as args d v hg S W hS hv gY h O q=>
  have r:=vt hs.env z hg;simp only[r,if_true];have t:kK f e.op=some (g,args):=by rw[S,W];rfl
  have s1:=GC s1 t;obtain⟨F,I⟩:=X _ _ _ _ h;obtain⟨vs,L,J⟩:=PA hs.gi hs.env s1 t F;have y:=anO hs.gi J hS gY I O q;refine⟨λ_ _=>trivial,?_⟩;rw[Oper.semAt_plain (FW x) a.eval o (CG s1),L];refine⟨λh=>by simp[Fence.wide]at h,Gt.2 (y.mono ?_)⟩;rintro e' w' ⟨u,c',rfl,gi,E,l⟩;have j:=hs.next gi l B E
  rw[<-p]at j;have:=k c' w' _ j l;rw[p]at this;exact this
end
end Go.AL
namespace Go.AL
open Go
def zN(A:Array Oper):Bool:=(List.range A.size).all λi=>match A[i]? with
 | some o=>o.after.all λe => !Region.binds .any e||decide (e.on<i)
 | none=>true
def yY(A:Array Oper)(ord:List (List Nat)):Bool:=(List.range A.size).all λi=>match A[i]? with
 | some o=>(ord.getD i []).all λk=>o.after.any λe=>Region.binds .any e&&(e.on == k||(ord.getD e.on []).contains k)
 | none=>true
def TU(l:List ia)(ord:List (List Nat))(c:List (Nat×Nat)):Bool:=(List.range l.length).all λi=>(List.range i).all λk=>
 (ord.getD i []).contains k||(match l[k]?,l[i]? with
  | some a,some b=>y8 a b&&(c.contains (k,i)||PS a.op b.op)
  | _,_=>false)
section
variable{P:Program}{G:GT}{A:Array Oper}{ord:List (List Nat)}
theorem aek(h:zN A=true){i:Nat}{o:Oper}(hi:A[i]? = some o){e:Edge}(a:e∈o.after)(b:Region.binds .any e=true):e.on<i:=by have:=List.all_eq_true.1 h i (a8.2 (aP.1 hi).1);simp only[hi]at this;have:=cK.1 this e a;simpa[b]using this
theorem aaV(h:yY A ord=true){i:Nat}{o:Oper}(hi:A[i]? = some o){k:Nat}(b:k∈ord.getD i []):∃e∈o.after,Region.binds .any e=true/\(e.on=k\/k∈ord.getD e.on []):=by have:=List.all_eq_true.1 h i (a8.2 (aP.1 hi).1);simp only[hi]at this;have:=List.all_eq_true.1 this k b;obtain⟨e,c,a⟩:=Array.any_eq_true'.1 this;simp only[Bool.and_eq_true,b7,beq_iff_eq,dC]at a;exact⟨e,c,a.1,a.2⟩
structure Left(A:Array Oper)(ord:List (List Nat))(rem:List nu)(listed:Array Bool):Prop where
 size:listed.size=A.size
 iff:∀j,j<A.size->(listed.getD j true=false↔∃it∈rem,it.k=j)
 sorted:rem.Pairwise λp q=>p.k<q.k
 lt:∀it∈rem,it.k<A.size
 down:∀i,i<A.size->listed.getD i false=true->∀k∈ord.getD i [],listed.getD k false=true
theorem ah6{rem:List nu}{a:Array Bool}(h:Left A ord rem a){j:Nat}(c:j<A.size):a.getD j false=true\/∃e∈rem,e.k=j:=by
 have d:j<a.size:=by rw[h.size];exact c
 cases b:a.getD j true with
 | false=>exact .inr ((h.iff j c).1 b)
 | true=>left;simp[d]at b ⊢;exact b
theorem aiH{rem:List nu}{a:Array Bool}(h:Left A ord rem a){b:nu}(c:b∈rem):a.getD b.k false=false:=by
 have d:=h.lt b c;have:=(h.iff b.k d).2 ⟨b,c,rfl⟩;have e:b.k<a.size:=by rw[h.size];exact d
 simp[e]at this ⊢;exact this
theorem T8(g:zN A=true){b:nu}{rem:List nu}{a:Array Bool}(h:Left A ord (b::rem) a):b.k∈Region.ready .any A a:=by
 rw[mem_ready];have d:=h.lt b (by simp);refine⟨(h.iff b.k d).2 ⟨b,by simp,rfl⟩,A[b.k],by simp[d],λe f j=>?_⟩;have l:=aek g (i:=b.k) (o:=A[b.k]) (by simp[d]) f j;rcases ah6 h (show e.on<A.size by omega)with hl|⟨q,c,k⟩
 .exact hl
 .exfalso;rcases ao.1 c with rfl|c
  .omega
  .have:=(aX.1 h.sorted).1 q c;omega
theorem Pp(k:yY A ord=true){rem:List nu}{a:Array Bool}(h:Left A ord rem a){i:Nat}(hi:i∈Region.ready .any A a){q:nu}(j:q∈rem):q.k ∉ ord.getD i []:=by
 intro m;obtain⟨_,o,r,g⟩:=mem_ready.1 hi;obtain⟨e,l,n,b⟩:=aaV k r m;have c:=g e l n;have f:=aiH h j;rcases b with b|b
 .grind
 .have p:e.on<A.size:=by
   rcases bK e.on A.size with d|d
   .exact d
   .have:a.getD e.on false=false:=by
     have:a.size<=e.on:=by rw[h.size];exact d
     simp[eu this]
    rw[this]at c;cases c
  have:=h.down e.on p c q.k b;rw[this]at f;cases f
theorem Ti(r:yY A ord=true){pre post:List nu}{b:nu}{a:Array Bool}(h:Left A ord (pre++b::post) a)(hi:b.k∈Region.ready .any A a) :
  Left A ord (pre++post) (a.setIfInBounds b.k true):=by
 have l:(pre++post).Sublist (pre++b::post):=dS (ew b post) pre
 have x:∀q∈pre++post,q.k≠b.k:=by
  intro q c;have:=bn.1 h.sorted;rcases List.mem_append.1 c with c|c
  .grind
  .have:=(aX.1 this.2.1).1 q c;omega
 have n:=h.lt b (by simp);refine⟨by simp[h.size],λj t=>?_,h.sorted.sublist l,λq c=>h.lt q (l.subset c),λi w hl k m=>?_⟩
 .by_cases e:b.k=j
  .simp_all
  .rw[getD_set_ne true e,h.iff j t];constructor
   .grind
   .grind
 .by_cases e:b.k=i
  .subst e;obtain⟨_,o,v,p⟩:=mem_ready.1 hi;obtain⟨e,s,u,f⟩:=aaV r v m;have d:=p e s u;rcases f with rfl|f
   .exact getD_set_true d
   .have n:e.on<A.size:=by
     rcases bK e.on A.size with g|g
     .exact g
     .have:a.getD e.on false=false:=by
       have:a.size<=e.on:=by rw[h.size];exact g
       simp[eu this]
      rw[this]at d;cases d
    exact getD_set_true (h.down e.on n d k f)
  .rw[getD_set_ne false e]at hl;exact getD_set_true (h.down i w hl k m)
variable{C:FuncId->List D->D->U->Prop}{N:Nat}
theorem VF(n:Nat)(δ:Dl)(H:U):(lI n δ H).length=H.length:=by
 cases δ with
 | no=>rfl
 | cells v o xs=>simp only[lI,Dl.app];split<;>simp
 | obj v ob=>simp[lI,Dl.app]
 | new ob=>simp[lI,Dl.app,Al.lY]
theorem Vy(y:∀g args d Hn,C g args d Hn->s5 P g=true/\zf P G g args [] d Hn)(x:zN A=true)(t:yY A ord=true){z:Option Nat}{m:Nat}{Q:Exit->Act->World->Prop}{ms:List Nat}{f':gT}{H':U} :
  ∀(fuel:Nat) (rem:List nu) (b:Array Bool) (c:Ctx) (w:World) (f:gT) (H:U) (a:Act),rem.length=fuel->Left A ord rem b->SX G N c w f H ms a->Tx C f H rem f' H' ->
   (∀e∈rem,∃o,A[e.k]? = some o/\w7 P G N A o=some e.e) ->
   (∀p∈rem,∀q∈rem,p.k<q.k->p.k∈ord.getD q.k []\/(y8 p.e q.e=true/\wG p.rc q.rc=true)) ->
   (∀c' w' n,SX G N c' w' f' H' ms n->Step H.length c H w c' H' w'->Q .normal n w')->wpAnyIn (FW z) m P .any A Q fuel b a w
 | 0,rem,b,c,w,f,H,a,hl,mL,hs,ht,_,_,hQ=>by have:rem = []:=bg hl;subst this;cases ht;refine⟨?_,hQ c w a hs (Step.refl _ _ _ _)⟩;refine aU.2 λj E=>?_;obtain⟨h1,o,u,_⟩:=mem_ready.1 E;obtain⟨e,s,_⟩:=(mL.iff j (aP.1 u).1).1 h1;cases s
 | fuel+1,rem,b,c,w,f,H,a,hl,mL,hs,ht,ym,HY,hQ=>by
  refine⟨λh0=>?_,λi hi=>?_⟩
  .cases rem with
   | nil=>cases hl
   | cons e rem=>
    have:=T8 x mL;rw[h0]at this;cases this
  .obtain⟨h1,o,u,_⟩:=mem_ready.1 hi;obtain⟨e,s,rfl⟩:=(mL.iff i (aP.1 u).1).1 h1;obtain⟨pre,post,rfl⟩:=List.append_of_mem s
   have O:∀p∈pre,y8 p.e e.e=true/\wG p.rc e.rc=true:=by
    intro p l;have K:p.k<e.k:=(bn.1 mL.sorted).2.2 p l e (by simp);rcases HY p (bk _ l) e (by simp) K with h|h
    .exact absurd h (Pp t mL hi (bk _ l))
    .exact h
   obtain⟨d,δ,I,F⟩:=ht.front O;obtain⟨o',M,R⟩:=ym e (by simp);have r:∀q∈pre++post,q∈pre++e::post:=λq k=>(dS (ew e post) pre).subset k;refine WJ y hs M R I λc' w' n D J=>?_;refine Vy y x t fuel (pre++post) _ c' w' _ _ n (by simp at hl ⊢;omega) (Ti t mL hi) D F (λq k=>ym q (r q k)) (λp l q k=>HY p (r p l) q (r q k)) λc2 w2 L B v=>?_;rw[VF]at v;exact hQ c2 w2 L B (J.trans v (Nat.le_refl _))
theorem VA(g:zN A=true)(e:yY A ord=true){F:Fence}{m:Nat}{Q:Exit->Act->World->Prop} :
  ∀(lasts:List nu) (ops:List Oper) (b:Array Bool) (a:Act) (w:World),Left A ord lasts b->(∀q∈lasts,∀k,k<q.k->k∈ord.getD q.k [])->lasts.map (λq=>A[q.k]?)=ops.map some ->
   wpListIn F m P A Q ops a w->wpAnyIn F m P .any A Q lasts.length b a w
 | [],ops,b,a,w,mL,_,yB,h=>by
  have:ops = []:=by simpa using yB.symm
  subst this;refine⟨aU.2 λj s=>?_,h⟩;obtain⟨h1,o,f,_⟩:=mem_ready.1 s;obtain⟨c,d,_⟩:=(mL.iff j (aP.1 f).1).1 h1;cases d
 | q::lasts,ops,b,a,w,mL,hl,yB,h=>by
  cases ops with
  | nil=>simp at yB
  | cons o ops=>
   simp only[List.map_cons,cS]at yB;refine⟨λh0=>?_,λi hi=>?_⟩
   .have:=T8 g mL;rw[h0]at this;cases this
   .obtain⟨h1,o',f,_⟩:=mem_ready.1 hi;obtain⟨c,d,rfl⟩:=(mL.iff i (aP.1 f).1).1 h1
    have d:c=q:=by
     rcases ao.1 d with h|h
     .exact h
     .have t:q.k<c.k:=(aX.1 mL.sorted).1 c h;exact absurd (hl c (bj _ h) q.k t) (Pp e mL hi (q:=q) (by simp))
    subst d;have r:=Ti (pre:=[]) (post:=lasts) e mL hi
    have l:∀a w,wpListIn F m P A Q ops a w->wpAnyIn F m P .any A Q lasts.length (b.setIfInBounds c.k true) a w:=λa w h=>
     VA g e lasts ops _ a w r (λq p=>hl q (bj _ p)) yB.2 h
    unfold wpOpIn;simp only[yB.1];simp only[wpListIn]at h;split
    .rename_i n;simp only[n,if_true]at h;exact Oper.wpIn_mono l h
    .grind
theorem Vz(E:∀g args d Hn,C g args d Hn->s5 P g=true/\zf P G g args [] d Hn)(v:zN A=true)(r:yY A ord=true){D:Option Nat}{m:Nat}{Q:Exit->Act->World->Prop}{ms:List Nat}{f':gT}{H':U}{lasts:List nu}{ops:List Oper}
  (y:∀q∈lasts,∀k,k<q.k->k∈ord.getD q.k []) (z:lasts.map (λq=>A[q.k]?)=ops.map some) :
  ∀(fuel:Nat) (rem:List nu) (b:Array Bool) (c:Ctx) (w:World) (f:gT) (H:U) (a:Act),rem.length=fuel->Left A ord (rem++lasts) b->SX G N c w f H ms a->Tx C f H rem f' H' ->
   (∀e∈rem,∃o,A[e.k]? = some o/\w7 P G N A o=some e.e) ->
   (∀p∈rem,∀q∈rem,p.k<q.k->p.k∈ord.getD q.k []\/(y8 p.e q.e=true/\wG p.rc q.rc=true)) ->
   (∀c' w' s,SX G N c' w' f' H' ms s->Step H.length c H w c' H' w'->wpListIn (FW D) m P A Q ops s w')->wpAnyIn (FW D) m P .any A Q (fuel+lasts.length) b a w
 | 0,rem,b,c,w,f,H,a,hl,mL,hs,ht,_,_,hQ=>by have:rem = []:=bg hl;subst this;cases ht;rw[aR];exact VA v r lasts ops b a w mL y z (hQ c w a hs (Step.refl _ _ _ _))
 | fuel+1,rem,b,c,w,f,H,a,hl,mL,hs,ht,ym,HY,hQ=>by
  have F:∀q∈rem,∀l∈lasts,q.k<l.k:=λq j l hl=>(bn.1 mL.sorted).2.2 q j l hl;rw[show fuel+1+lasts.length=(fuel+lasts.length)+1 by omega];refine⟨λh0=>?_,λi hi=>?_⟩
  .cases rem with
   | nil=>cases hl
   | cons e rem=>
    have:=T8 (rem:=rem++lasts) v mL;rw[h0]at this;cases this
  .obtain⟨h1,o,M,_⟩:=mem_ready.1 hi;obtain⟨e,u,rfl⟩:=(mL.iff i (aP.1 M).1).1 h1
   have u:e∈rem:=by
    rcases List.mem_append.1 u with h|h
    .exact h
    .cases rem with
     | nil=>cases hl
     | cons q rem=>exact absurd (y e h q.k (F q (by simp) e h)) (Pp r mL hi (q:=q) (by simp))
   obtain⟨pre,post,rfl⟩:=List.append_of_mem u;have x:Left A ord (pre++e::(post++lasts)) b:=by simpa using mL
   have V:∀p∈pre,y8 p.e e.e=true/\wG p.rc e.rc=true:=by
    intro p n;have R:p.k<e.k:=(bn.1 x.sorted).2.2 p n e (by simp);rcases HY p (bk _ n) e (by simp) R with h|h
    .exact absurd h (Pp r x hi (bk _ n))
    .exact h
   obtain⟨d,δ,L,K⟩:=ht.front V;obtain⟨o',T,W⟩:=ym e (by simp);have t:∀q∈pre++post,q∈pre++e::post:=λq j=>(dS (ew e post) pre).subset j;refine WJ E hs T W L λc' w' s J O=>?_;refine Vz E v r y z fuel (pre++post) _ c' w' _ _ s (by simp at hl ⊢;omega) (by simpa using Ti r x hi) J K (λq j=>ym q (t q j)) (λp n q j=>HY p (t p n) q (t q j)) λc2 w2 S I B=>?_;rw[VF]at B;exact hQ c2 w2 S I (O.trans B (Nat.le_refl _))
end
end Go.AL
namespace Go.AL
open Go
abbrev room(k:Nat):U:=List.replicate k .lY
section
variable{f:gT}{H:U}{r:Nat}
theorem NQ(v:Nat)(o:Ob)(a:o≠.lY):(H++room r)[v]? = some o↔H[v]? = some o:=by grind
theorem Uh(v:Nat):rowsOf (H++room r) v=rowsOf H v:=by
 unfold rowsOf
 cases h:H[v]? with
 | none=>
  cases a:(H++room r)[v]? with
  | none=>rfl
  | some o=>
   cases o<;>first|rfl|skip
   rw[NQ v _ (by simp)]at a;rw[h]at a;cases a
 | some o=>
  have:(H++room r)[v]? = some o:=by grind
  rw[this]
theorem AU(v g:Nat):rowAt (H++room r) v g=rowAt H v g:=by rw[AV,AV,Uh]
theorem Ty(v:Nat):lP (H++room r) v=lP H v:=by
 unfold lP
 cases h:H[v]? with
 | none=>
  cases a:(H++room r)[v]? with
  | none=>rfl
  | some o=>
   cases o<;>first|rfl|skip
   rw[NQ v _ (by simp)]at a;rw[h]at a;cases a
 | some o=>
  have:(H++room r)[v]? = some o:=by grind
  rw[this]
theorem Uz(sz:Nat)(d:D):kQ sz (H++room r) d=kQ sz H d:=by
 cases d<;>first|rfl|skip
 simp only[kQ,AU]
theorem acN(n:Nat)(op:iR):gP f (H++room r) n op=gP f H n op:=by
 cases op<;>simp only[gP]<;>first|rfl|skip
 case ld1=>simp only[xD,AU]
 case ldN=>simp only[wC,AU]
 case st1=>simp only[C3,AU]
 case stN=>simp only[C6,AU]
 case lookup=>simp only[Cu,Ty]
 case mapUpd=>simp only[AF,Ty]
 case len=>simp only[mX,Ty]
 case b2s=>simp only[DE,Uz]
 case app=>simp only[rK,Uz,AU]
 case copy=>simp only[zL,Uz,AU]
 case slcArr=>simp only[A0,AU]
theorem I'(k:Nat)(d:D):iF (H++room r) k d=iF H k d/\gq (λ_=>none) (H++room r) k d=gq (λ_=>none) H k d:=
 I9 (H1:=H) (H2:=H++room r) k d λv _=>(Uh v).symm
theorem NN(op:iR):gR f (H++room r) op=gR f H op:=by
 have key:∀args:List D,args.map (iF (H++room r) 40)=args.map (iF H 40):=λargs=>aq λd _=>(I' 40 d).1;cases op<;>first|rfl|skip
 case call g args=>simp only[gR,key]
 case callN g args=>simp only[gR,key]
 case callv g args=>simp only[gR,key]
 case len k x=>cases k<;>rfl
theorem abw{v g:Nat}{x:TypeId×List D}(h:rowAt H v g=some x):v<H.length:=(ae.1 (Jf h)).1
theorem aiq{v:Nat}{x:KK×List (Value×D)}(h:lP H v=some x):v<H.length:=(ae.1 (uk h)).1
def Safe(H:U):Dl->Prop
 | .no=>True
 | .cells v o xs=>∃t g cs,H[v]? = some (.row t g cs)/\o+xs.length<=cs.length
 | .obj v _=>v<H.length
 | .new _=>True
theorem acO{op:iR}{n:Nat}{d:D}{δ:Dl}(h:gP f H n op=some (d,δ)):Safe H δ:=by
 have hl:∀ {o:Option D},lift o=some (d,δ)->Safe H δ:=λh=>by rw[(my h).2];trivial
 cases op<;>simp only[gP]at h<;>first|exact hl h|(cases h;done)|skip
 case box=>unfold sW at h;split at h<;>cases h;trivial
 case alloc=>cases h;trivial
 case mkmap=>cases h;trivial
 case buildSl=>
  unfold zB at h;split at h
  .split at h<;>cases h;trivial
  .cases h
 case mksl=>
  unfold EU at h;split at h
  .split at h<;>cases h;trivial
  .cases h
 case st1=>
  unfold C3 at h;split at h
  .split at h
   .rename_i v g o _ t cs a;split at h
    .rename_i c;cases h;exact⟨_,_,_,Jf a,by simp;omega⟩
    .cases h
   .cases h
  .cases h
 case stN=>
  unfold C6 at h;split at h
  .split at h
   .rename_i v g o xs _ _ t cs a;split at h
    .rename_i c;cases h;exact⟨_,_,_,Jf a,by simp;omega⟩
    .cases h
   .cases h
  .cases h
 case mapUpd=>
  unfold AF at h;split at h
  .split at h
   .rename_i b;split at h
    .cases h;exact aiq b
    .cases h
   .cases h
  .cases h
 case app=>
  unfold rK at h;split at h
  .split at h
   .split at h
    .rename_i a;split at h
     .cases h;exact abw a
     .cases h
    .cases h
   .split at h
    .cases h;trivial
    .cases h
   .split at h
    .cases h;trivial
    .split at h
     .cases h;trivial
     .cases h
   .cases h
  .cases h
 case copy=>
  unfold zL at h;split at h
  .split at h
   .rename_i a;split at h
    .cases h;exact abw a
    .cases h
   .cases h
  .cases h;trivial
  .cases h
theorem Qj{δ:Dl}(hs:Safe H δ)(k:Nat)(c:(δ.app H (Al.last H)).length<=k) :
  lI H.length δ (H++room (k-H.length))=δ.app H (Al.last H)++room (k-(δ.app H (Al.last H)).length)/\Fits H.length δ (H++room (k-H.length)):=by
 cases δ with
 | no=>exact⟨rfl,trivial⟩
 | cells v o xs=>
  obtain⟨t,g,cs,h1,d⟩:=hs;have b:=(ae.1 h1).1;have a:(H++room (k-H.length))[v]? = some (.row t g cs):=by rw[ah b];exact h1
  refine⟨?_,t,g,cs,a,d⟩;simp only[lI,Dl.app,a,h1,ar];rw[aO _ _ b]
 | obj v ob=>
  refine⟨?_,trivial⟩;simp only[lI,Dl.app,ar];rw[aO _ _ hs]
 | new ob=>
  simp only[Dl.app,Al.last,aj,aC,da,aR]at c ⊢;have e:k-H.length=(k-(H.length+1))+1:=by omega
  refine⟨?_,?_⟩
  .simp only[lI,Dl.app,Al.lY];rw[e,room,bz,dD _ _ (Nat.le_refl _)];simp[aK]
  .show(H++room (k-H.length))[H.length]? = some .lY;rw[e,ai (Nat.le_refl _)];simp[bz]
end
section
variable{G:GT}{c:Ctx}{w:World}{H:U}
theorem OW{r v:Nat}{L:Loc}:l7 c (H++room r) v L↔l7 c H v L:=by
 constructor
 .rintro⟨o,b,a,d⟩;rw[NQ v o (by rintro rfl;cases a)]at b;exact⟨o,b,a,d⟩
 .rintro⟨o,b,a,d⟩;exact⟨o,(NQ v o (by rintro rfl;cases a)).2 b,a,d⟩
theorem TT{r b:Nat}:mm c (H++room r) b↔mm c H b:=by
 constructor
 .rintro⟨v,L,hl,r⟩;exact⟨v,L,OW.1 hl,r⟩
 .rintro⟨v,L,hl,r⟩;exact⟨v,L,OW.2 hl,r⟩
theorem abt(h:gE G c H w)(r:Nat):gE G c (H++room r) w where
 inj v v' L L' h1 h2:=h.inj v v' L L' (OW.1 h1) (OW.1 h2)
 lt b hb:=h.lt b (TT.1 hb)
 nF b hb:=h.nF b (TT.1 hb)
 kR:=h.kR
 out v k a:=h.out v k (by simp at a;omega)
 mF v o k ho hk:=by
  rcases bK v H.length with a|a
  .rw[ah a]at ho;exact h.mF v o k ho hk
  .exact h.out v k a
 ob v o ho:=by
  rcases bK v H.length with a|a
  .rw[ah a]at ho;exact h.ob v o ho
  .rw[ai a,fD]at ho;split at ho
   .cases ho;simp only[ie];exact h.out v _ a
   .cases ho
 gl:=h.gl
 rt:=h.rt
theorem abu(r n:Nat):Step n c H w c (H++room r) w:=
 ⟨⟨rfl,Nat.le_refl _⟩,rfl,rfl,Nat.le_refl _,rfl,λ_ h=>h,λ_ h=>.inl h,λ_ _ _=>rfl,λ_ _ _ _ h=>h,λ_ h=>.inr (TT.1 h)⟩
