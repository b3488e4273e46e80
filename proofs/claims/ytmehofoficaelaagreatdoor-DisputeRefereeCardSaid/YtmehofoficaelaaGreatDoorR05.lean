/- Part 5 of DisputeReferee. -/
import Derived.Test.YtmehofoficaelaaGreatDoorR04
set_option linter.all false
namespace Go.AL
open Go
section
variable{P:Program}{G:GT}{c c2:Ctx}{H Hn:U}{w w2:World}{N:Nat}
theorem lS{ds:List D}(h:gh ds=true):∀d∈ds,closed d=true:=λd a=>by obtain⟨i,hi⟩:=aA.1 a;exact wL h hi
theorem pF{ρ:Nat->Option Nat}{k:Nat}{d:D}(h:closed d=true):fL ρ H k d=d:=by cases k<;>(unfold fL;simp[h])
def Ctx.join(c c2:Ctx)(n:Nat)(F:Nat->Prop):Ctx where
 ι:=λv g=>if v<n then c.ι v g else c2.ι (v-n) g
 F:=F
 RT:=c.RT
theorem FT{F:Nat->Prop}{v:Nat}{L:Loc}(h:lB (c.join c2 H.length F) (H++Hn) v L):(v<H.length/\lB c H v L)\/(H.length<=v/\lB c2 Hn (v-H.length) L):=by
 obtain⟨o,b,e,d⟩:=h;rcases bw v H.length with a|a
 .rw[ah a]at b;simp only[Ctx.join,if_pos a]at d;exact .inl ⟨a,o,b,e,d⟩
 .rw[ai a]at b;simp only[Ctx.join,if_neg (fq.2 a)]at d;exact .inr ⟨a,o,b,e,d⟩
structure xY(G:GT)(c c2:Ctx)(H Hn:U)(w w2:World)(F:Nat->Prop):Prop where
 fG:gf G c H w
 mK:gf G c2 Hn w2
 oY:jJ w w2
 fresh:∀b,lN c2 Hn b->w.heap.size<=b
 le:∀b,c.F b->F b
 lt:∀b,F b->b<w2.heap.size
 n1:∀b,F b->¬lN c H b
 n2:∀b,F b->¬lN c2 Hn b
 new:∀b,F b->c.F b\/w.heap.size<=b
 rows:∀(v:Nat) (o:Ob),Hn[v]? = some o->∃t g cs,o = .row t g cs/\∀d∈cs,∀u,fF c2 w2 u d->fF (c.join c2 H.length F) w2 u d
variable{F:Nat->Prop}
theorem V7(j:xY G c c2 H Hn w w2 F){u:Value}{d:D}(h:fF c w u d):fF (c.join c2 H.length F) w2 u d:=by
 refine h.carry (λv k L a=>?_) j.le (λb o f=>Em (j.oY.kept b (j.fG.ki b f)))
 have e:v<H.length:=by
  rcases bw v H.length with h|h
  .exact h
  .rw[j.fG.out v k h]at a;cases a
 simp only[Ctx.join,if_pos e];exact a
theorem LZ(j:xY G c c2 H Hn w w2 F):gf G (c.join c2 H.length F) (H++Hn) w2 where
 inj v v' L L' h1 p n m he:=by
  rcases FT h1 with⟨a,b⟩|⟨a,b⟩<;>rcases FT p with⟨D,q⟩|⟨D,q⟩
  .exact j.fG.inj v v' L L' b q n m he
  .have:=j.fG.lt _ ⟨v,L,b,n,rfl⟩;have:=j.fresh _ ⟨_,L',q,m,rfl⟩;omega
  .have:=j.fG.lt _ ⟨v',L',q,m,rfl⟩;have:=j.fresh _ ⟨_,L,b,n,rfl⟩;omega
  .have:=j.mK.inj _ _ L L' b q n m he;omega
 lt b hb:=by
  obtain⟨v,L,hl,f,e⟩:=hb;rcases FT hl with⟨_,hl⟩|⟨_,hl⟩
  .exact aK (j.fG.lt b ⟨v,L,hl,f,e⟩) j.oY.size
  .exact j.mK.lt b ⟨_,L,hl,f,e⟩
 nF b hb hF:=by
  obtain⟨v,L,hl,f,e⟩:=hb;rcases FT hl with⟨_,hl⟩|⟨_,hl⟩
  .exact j.n1 b hF ⟨v,L,hl,f,e⟩
  .exact j.n2 b hF ⟨_,L,hl,f,e⟩
 ki b hb:=j.lt b hb
 out v k f:=by simp only[au]at f;simp only[Ctx.join,if_neg (show¬v<H.length by omega)];exact j.mK.out _ k (by omega)
 l7 v o k ho hk:=by
  rcases bw v H.length with f|f
  .rw[ah f]at ho;simp only[Ctx.join,if_pos f];exact j.fG.l7 v o k ho hk
  .rw[ai f]at ho;simp only[Ctx.join,if_neg (fq.2 f)];exact j.mK.l7 _ o k ho hk
 ob v o ho:=by
  rcases bw v H.length with f|f
  .rw[ah f]at ho;simp only[Ctx.join,if_pos f];exact gK.keep (c:=c) (c':=c.join c2 H.length F) rfl (λ_ _ h=>V7 j h) (λl hl A r=>j.oY.kept _ (j.fG.lt _ ⟨v,l,⟨o,ho,r,hl⟩,A,rfl⟩)) (j.fG.ob v o ho)
  .rw[ai f]at ho;simp only[Ctx.join,if_neg (fq.2 f)];have h0:=j.mK.ob _ o ho;obtain⟨t,g,cs,rfl,C⟩:=j.rows _ o ho;simp only[Ob.gen]at h0 ⊢
   cases u:c2.ι (v-H.length) g with
   | none=>rw[u]at h0;simp[gK]at h0
   | some L=>
    rw[u]at h0;simp only[gK]at h0 ⊢;split
    .grind
    .rename_i y;simp only[y]at h0;obtain⟨s,h1,p,n,m⟩:=h0;refine⟨s,h1,p,n,λi d r=>?_⟩;obtain⟨x,z,B,E⟩:=m i d r;exact⟨x,z,B,C d (List.mem_of_getElem? r) _ E⟩
 gl g cs hg:=by obtain⟨h1,p⟩:=j.fG.gl g cs hg;exact⟨h1,V7 j p⟩
 rt:=j.fG.rt
theorem L3(j:xY G c c2 H Hn w w2 F):Step H.length c H w (c.join c2 H.length F) (H++Hn) w2 where
 os:=j.oY.os
 tape:=j.oY.tape
 output:=j.oY.output
 size:=j.oY.size
 RT:=rfl
 Fm b hb:=j.le b hb
 Fn b hb:=(j.new b hb).imp id .inl
 kept b hb _:=j.oY.kept b hb
 old v k L a h:=by simp only[Ctx.join,if_pos a];exact h
 own b hb:=by
  obtain⟨v,L,hl,a,e⟩:=hb;rcases FT hl with⟨_,hl⟩|⟨_,hl⟩
  .exact .inr ⟨v,L,hl,a,e⟩
  .exact .inl (j.fresh b ⟨_,L,hl,a,e⟩)
theorem MA(j:xY G c c2 H Hn w w2 F){p:D->Bool}(m:∀d u,p d=true->fF c2 w2 u d->fF (c.join c2 H.length F) w2 u d){u:Value}{r:D}
  (b:fF c2 w2 u r) (h:vZ p r=true):fF (c.join c2 H.length F) w2 u (j' H.length r):=by
 have n:∀v g sz off len u,fF c2 w2 u (.fy v g sz off len)->fF (c.join c2 H.length F) w2 u (.fy (v+H.length) g sz off len):=by
  intro v g sz off len u b
  cases b with
  | fy _ _ _ _ _ cap L l k q s o=>exact .fy _ g sz off len cap L (by simp only[Ctx.join];rw[if_neg (by omega),Nat.add_sub_cancel];exact l) k q s o
  | l3 _ _ _ _ L l a=>exact .l3 _ g sz off L (by simp only[Ctx.join];rw[if_neg (by omega),Nat.add_sub_cancel];exact l) a
 have h1:∀(d:D) (u:Value),xA p d=true->fF c2 w2 u d->fF (c.join c2 H.length F) w2 u (xp H.length d):=by intro d u e b;cases d<;>first|exact n _ _ _ _ _ _ b|exact m _ _ e b
 cases r with
 | tup ds=>
  cases b with
  | tup vs _ hl pT=>
   simp only[j'];refine .tup vs _ (by simpa using hl) λi v d k e=>?_;simp only[ar,aj]at e;obtain⟨d0,f,rfl⟩:=e;exact h1 d0 v (List.all_eq_true.1 h d0 (List.mem_of_getElem? f)) (pT i v d0 k f)
 | agg ds=>
  cases b with
  | agg vs _ hl t pT=>
   simp only[j'];refine .agg vs _ (by simpa using hl) t λi v d k e=>?_;simp only[ar,aj]at e;obtain⟨d0,f,rfl⟩:=e;exact h1 d0 v (List.all_eq_true.1 h d0 (List.mem_of_getElem? f)) (pT i v d0 k f)
 | fy v g sz off len=>exact n _ _ _ _ _ _ b
 | _=>exact m _ _ h b
def Ctx.data(c:Ctx)(F:Nat->Prop):Ctx where
 ι:=λ_ _=>none
 F:=F
 RT:=c.RT
theorem Kz(h:gf G c H w):gf G (c.data c.F) [] w where
 inj v v' L L' h1:=by obtain⟨o,a,_⟩:=h1;simp at a
 lt b d:=by obtain⟨v,L,⟨o,a,_⟩,_⟩:=d;simp at a
 nF b d:=by obtain⟨v,L,⟨o,a,_⟩,_⟩:=d;simp at a
 ki b d:=h.ki b d
 out _ _ _:=rfl
 l7 _ _ _ _ _:=rfl
 ob v o a:=by simp at a
 gl g cs hg:=by obtain⟨h1,e⟩:=h.gl g cs hg;exact⟨h1,fF.closed (c:=c) (c':=c.data c.F) (λb d=>d) e (by simpa[AL.closed]using h1)⟩
 rt:=h.rt
theorem ta{c:Ctx}{b:Nat}:¬lN c [] b:=by rintro⟨v,L,⟨o,a,_⟩,_⟩;simp at a
theorem z'{n:Nat}{c:Ctx}(hs:Step n c [] w c2 Hn w2):jJ w w2:=
 ⟨hs.os,hs.tape,hs.output,hs.size,λb a=>hs.kept b a ta⟩
theorem Tc(h:Hn.all nz=true){v:Nat}{o:Ob}(a:Hn[v]? = some o):∃t g cs,o = .row t g cs/\∀d∈cs,closed d=true:=by
 have:=List.all_eq_true.1 h o (List.mem_of_getElem? a);cases o<;>simp only[nz]at this<;>first|cases this;done|skip
 exact⟨_,_,_,rfl,lS this⟩
theorem Un(h:Hn.all oX=true){v:Nat}{o:Ob}(a:Hn[v]? = some o):∃t g cs,o = .row t g cs/\∀d∈cs,flat d=true:=by
 have:=List.all_eq_true.1 h o (List.mem_of_getElem? a);cases o<;>simp only[oX]at this<;>first|cases this;done|skip
 refine⟨_,_,_,rfl,λd b=>?_⟩;obtain⟨i,hi⟩:=aA.1 b;exact Cf this hi
def xL(P:Program)(G:GT)(f:FuncId)(args:List D)(H:U)(d:D)(H':U):Prop:=
 ∀(c:Ctx) (w:World) (vs:List Value),gf G c H w->je c w vs args ->
  Calls P f vs.toArray w λe w'=>∃v c',e = .returned v/\gf G c' H' w'/\fF c' w' v d/\Step H.length c H w c' H' w'
def tW(P:Program)(G:GT)(f:FuncId)(args:List D)(H:U)(R:D->U->Prop):Prop:=
 ∀(c:Ctx) (w:World) (vs:List Value),gf G c H w->je c w vs args ->
  Calls P f vs.toArray w λe w'=>∃v c' d H',e = .returned v/\R d H'/\H.length<=H'.length/\gf G c' H' w'/\fF c' w' v d/\Step H.length c H w c' H' w'
theorem tW.one{f:FuncId}{args:List D}{H:U}{R:D->U->Prop}{d:D}{H':U}(h:tW P G f args H R)(h1:∀d' Hn,R d' Hn->d'=d/\Hn=H'):xL P G f args H d H':=
 λc w vs i g=>(h c w vs i g).mono λ_ _ ⟨v,c',_,_,j,k,_,a,b,e⟩=>by grind
theorem Rj:fL (λ_=>none) H 40=fL (il []) H 40:=rfl
theorem je.map{c c':Ctx}{f:D->D}(b:∀v d,fF c w v d->fF c' w v (f d)){vs:List Value}{ds:List D}(h:je c w vs ds):je c' w vs (ds.map f):=by
 induction h with
 | nil=>exact .nil
 | cons h _ a=>exact .cons (b _ _ h) a
theorem Xz(fG:gf G c H w){f:FuncId}{vs:List Value}{args:List D}{d:D}(E:je c w vs args)(y:xL P G f (args.map (fL (λ_=>none) H 40)) [] d Hn)
  (m:(if gh args then mq d&&Hn.all nz else n5 d&&Hn.all oX)=true) :
  Calls P f vs.toArray w λe w'=>∃v c',e = .returned v/\gf G c' (H++Hn) w'/\fF c' w' v (j' H.length d)/\Step H.length c H w c' (H++Hn) w':=by
 by_cases s:gh args=true
 .rw[if_pos s]at m;simp only[Bool.and_eq_true]at m
  have e:args.map (fL (λ_=>none) H 40)=args:=by
   conv=>rhs;rw[<-aT args]
   exact ak λd l=>pF (lS s d l)
  rw[e]at y
  have z:je (c.data c.F) w vs args:=by
   clear y m e
   induction E with
   | nil=>exact .nil
   | cons h _ I=>
    simp only[gh,Bool.and_eq_true]at s;exact .cons (fF.closed (c:=c) (c':=c.data c.F) (λb a=>a) h s.1) (I s.2)
  refine(y _ w vs (Kz fG) z).mono ?_;rintro e w' ⟨v,c2,C,x,B,n⟩;have hg:=z' n
  have F:∀b,c2.F b->c.F b\/w.heap.size<=b:=λb a=>by
   rcases n.Fn b a with h|h|h
   .exact .inl h
   .exact .inr h
   .exact absurd h ta
  have j:xY G c c2 H Hn w w' c2.F:={
   fG:=fG
   mK:=x
   oY:=hg
   fresh:=λb a=>by
    rcases n.own b a with h|h
    .exact h
    .exact absurd h ta
   le:=λb a=>n.Fm b a
   lt:=x.ki
   n1:=λb a k=>by
    rcases F b a with h|h
    .exact fG.nF b k h
    .have:=fG.lt b k;omega
   n2:=λb a k=>x.nF b k a
   new:=F
   rows:=λv o k=>by
    obtain⟨t,g,cs,rfl,A⟩:=Tc m.2 k
    exact⟨t,g,cs,rfl,λd l u r=>fF.closed (c:=c2) (c':=c.join c2 H.length c2.F) (λb a=>a) r (A d l)⟩ }
  exact⟨v,_,C,LZ j,MA j (p:=AL.closed) (λd u l r=>fF.closed (c:=c2) (c':=c.join c2 H.length c2.F) (λb a=>a) r l) B m.1,L3 j⟩
 .rw[if_neg s]at m;simp only[Bool.and_eq_true]at m
  have z:je (c.fL [] H) w vs (args.map (fL (λ_=>none) H 40)):=E.map λv d h=>by rw[Rj];exact ze fG 40 h
  have K:gf G (c.fL [] H) [] w:=Dm (ks:=[]) fG (λi j p q J=>by simp at J);refine(y _ w vs K z).mono ?_;rintro e w' ⟨v,c2,C,x,B,n⟩;have hg:=z' n
  have j:xY G c c2 H Hn w w' c.F:={
   fG:=fG
   mK:=x
   oY:=hg
   fresh:=λb a=>by
    rcases n.own b a with h|h
    .exact h
    .exact absurd h ta
   le:=λb a=>a
   lt:=λb a=>aK (fG.ki b a) hg.size
   n1:=λb a k=>fG.nF b k a
   n2:=λb a k=>by
    rcases n.own b k with h|h
    .have:=fG.ki b a;omega
    .exact absurd h ta
   new:=λb a=>.inl a
   rows:=λv o k=>by
    obtain⟨t,g,cs,rfl,A⟩:=Un m.2 k
    exact⟨t,g,cs,rfl,λd l u r=>fF.flat r (A d l)⟩ }
  exact⟨v,_,C,LZ j,MA j (p:=AL.flat) (λd u l r=>fF.flat r l) B m.1,L3 j⟩
theorem aj3(fG:gf G c H w){f:FuncId}{vs:List Value}{args:List D}{R:D->U->Prop}(F:je c w vs args)(z:tW P G f (args.map (fL (λ_=>none) H 40)) [] R)
  (l:∀d Hn,R d Hn->(if gh args then mq d&&Hn.all nz else n5 d&&Hn.all oX)=true) :
  Calls P f vs.toArray w λe w'=>∃v c' d Hn,e = .returned v/\R d Hn/\gf G c' (H++Hn) w'/\fF c' w' v (j' H.length d)/\Step H.length c H w c' (H++Hn) w':=by
 by_cases s:gh args=true
 .simp only[if_pos s,Bool.and_eq_true]at l
  have e:args.map (fL (λ_=>none) H 40)=args:=by
   conv=>rhs;rw[<-aT args]
   exact ak λd m=>pF (lS s d m)
  rw[e]at z
  have A:je (c.data c.F) w vs args:=by
   clear z l e
   induction F with
   | nil=>exact .nil
   | cons h _ J=>
    simp only[gh,Bool.and_eq_true]at s;exact .cons (fF.closed (c:=c) (c':=c.data c.F) (λb a=>a) h s.1) (J s.2)
  refine(z _ w vs (Kz fG) A).mono ?_;rintro e w' ⟨v,c2,d,Hn,E,x,_,y,C,n⟩;have l:=l d Hn x;have hg:=z' n
  have I:∀b,c2.F b->c.F b\/w.heap.size<=b:=λb a=>by
   rcases n.Fn b a with h|h|h
   .exact .inl h
   .exact .inr h
   .exact absurd h ta
  have j:xY G c c2 H Hn w w' c2.F:={
   fG:=fG
   mK:=y
   oY:=hg
   fresh:=λb a=>by
    rcases n.own b a with h|h
    .exact h
    .exact absurd h ta
   le:=λb a=>n.Fm b a
   lt:=y.ki
   n1:=λb a k=>by
    rcases I b a with h|h
    .exact fG.nF b k h
    .have:=fG.lt b k;omega
   n2:=λb a k=>y.nF b k a
   new:=I
   rows:=λv o k=>by
    obtain⟨t,g,cs,rfl,B⟩:=Tc l.2 k
    exact⟨t,g,cs,rfl,λd m u r=>fF.closed (c:=c2) (c':=c.join c2 H.length c2.F) (λb a=>a) r (B d m)⟩ }
  exact⟨v,_,d,Hn,E,x,LZ j,MA j (p:=AL.closed) (λd u m r=>fF.closed (c:=c2) (c':=c.join c2 H.length c2.F) (λb a=>a) r m) C l.1,L3 j⟩
 .simp only[if_neg s,Bool.and_eq_true]at l
  have A:je (c.fL [] H) w vs (args.map (fL (λ_=>none) H 40)):=F.map λv d h=>by rw[Rj];exact ze fG 40 h
  have L:gf G (c.fL [] H) [] w:=Dm (ks:=[]) fG (λi j p q K=>by simp at K);refine(z _ w vs L A).mono ?_;rintro e w' ⟨v,c2,d,Hn,E,x,_,y,C,n⟩;have l:=l d Hn x;have hg:=z' n
  have j:xY G c c2 H Hn w w' c.F:={
   fG:=fG
   mK:=y
   oY:=hg
   fresh:=λb a=>by
    rcases n.own b a with h|h
    .exact h
    .exact absurd h ta
   le:=λb a=>a
   lt:=λb a=>aK (fG.ki b a) hg.size
   n1:=λb a k=>fG.nF b k a
   n2:=λb a k=>by
    rcases n.own b k with h|h
    .have:=fG.ki b a;omega
    .exact absurd h ta
   new:=λb a=>.inl a
   rows:=λv o k=>by
    obtain⟨t,g,cs,rfl,B⟩:=Un l.2 k
    exact⟨t,g,cs,rfl,λd m u r=>fF.flat r (B d m)⟩ }
  exact⟨v,_,d,Hn,E,x,LZ j,MA j (p:=AL.flat) (λd u m r=>fF.flat r m) C l.1,L3 j⟩
def Ctx.oc(c c2:Ctx)(n:Nat)(F:Nat->Prop):Ctx where
 ι:=λv g=>if v=n then c2.ι 0 g else c.ι v g
 F:=F
 RT:=c.RT
theorem Gp{n:Nat}{ob:Ob}(f:H[n]? = some .lu){F:Nat->Prop}{v:Nat}{L:Loc}(h:lB (c.oc c2 n F) (H.set n ob) v L):(v≠n/\lB c H v L)\/(v=n/\lB c2 [ob] 0 L):=by
 obtain⟨o,a,e,d⟩:=h;rw[rD (ae.1 f).1]at a
 by_cases b:v=n
 .subst b;rw[if_pos rfl]at a;cases a;simp only[Ctx.oc,if_true]at d;exact .inr ⟨rfl,ob,rfl,e,d⟩
 .rw[if_neg b]at a;simp only[Ctx.oc,if_neg b]at d;exact .inl ⟨b,o,a,e,d⟩
theorem aj2(fG:gf G c H w){f:FuncId}{vs:List Value}{args:List D}{d:D}{ob:Ob}{n:Nat}(A:je c w vs args)(W:xL P G f (args.map (fL (λ_=>none) H 40)) [] d [ob])
  (J:(if gh args then mq d&&nz ob else n5 d&&oX ob)=true) (I:H[n]? = some .lu) :
  Calls P f vs.toArray w λe w'=>∃v c',e = .returned v/\gf G c' (H.set n ob) w'/\fF c' w' v (j' n d)/\Step H.length c H w c' (H.set n ob) w':=by
 have gC:=(ae.1 I).1;have U9:∀k,c.ι n k=none:=λk=>fG.l7 n _ k I (.inl rfl)
 have C:∀(c2:Ctx) (w':World) (v:Value) (F:Nat->Prop),gf G c2 [ob] w'->fF c2 w' v d->jJ w w'->(∀b,lN c2 [ob] b->w.heap.size<=b)->(∀b,c.F b->F b)->(∀b,F b->b<w'.heap.size) ->
   (∀b,F b->¬lN c H b)->(∀b,F b->¬lN c2 [ob] b)->(∀b,F b->c.F b\/w.heap.size<=b)->∀(p:D->Bool),(∀d u,p d=true->fF c2 w' u d->fF (c.oc c2 n F) w' u d)->vZ p d=true ->
   (∃t g cs,ob = .row t g cs/\∀d∈cs,p d=true) ->
   gf G (c.oc c2 n F) (H.set n ob) w'/\fF (c.oc c2 n F) w' v (j' n d)/\Step H.length c H w (c.oc c2 n F) (H.set n ob) w':=by
  intro c2 w' v F mK m hg O9 S a4 a1 a0 lV p R y gL
  have carry:∀ {u:Value} {d:D},fF c w u d->fF (c.oc c2 n F) w' u d:=λh=>by
   refine h.carry (λv k L B=>?_) S (λb o K=>Em (hg.kept b (fG.ki b K)));have gS:v≠n:=λe=>by rw[e,U9]at B;cases B
   simp only[Ctx.oc,if_neg gS];exact B
  have Fs:∀v g sz off len u,fF c2 w' u (.fy v g sz off len)->(v=0)->fF (c.oc c2 n F) w' u (.fy (v+n) g sz off len):=by
   intro v g sz off len u A h0;subst h0
   cases A with
   | fy _ _ _ _ _ cap L M m jG iL l9=>exact .fy _ g sz off len cap L (by simp only[Ctx.oc,aM,if_true];exact M) m jG iL l9
   | l3 _ _ _ _ L M a=>exact .l3 _ g sz off L (by simp only[Ctx.oc,aM,if_true];exact M) a
  have hz:∀v g sz off len u,fF c2 w' u (.fy v g sz off len)->v=0:=by
   intro v g sz off len u A
   have:∃L,c2.ι v g=some L:=by
    cases A with
    | fy _ _ _ _ _ cap L M=>exact⟨L,M⟩
    | l3 _ _ _ _ L M=>exact⟨L,M⟩
   obtain⟨L,B⟩:=this;rcases eA v with h|h
   .exact h
   .rw[mK.out v g (by show 1<=v;exact h)]at B;cases B
  have h1:∀(d:D) (u:Value),xA p d=true->fF c2 w' u d->fF (c.oc c2 n F) w' u (xp n d):=by intro d u y A;cases d<;>first|exact Fs _ _ _ _ _ _ A (hz _ _ _ _ _ _ A)|exact R _ _ y A
  refine⟨{
   inj:=λv v' L L' h1 z V U T=>by
    rcases Gp I h1 with⟨a,b⟩|⟨a,b⟩<;>rcases Gp I z with⟨a',X⟩|⟨a',X⟩
    .exact fG.inj v v' L L' b X V U T
    .have:=fG.lt _ ⟨v,L,b,V,rfl⟩;have:=O9 _ ⟨_,L',X,U,rfl⟩;omega
    .have:=fG.lt _ ⟨v',L',X,U,rfl⟩;have:=O9 _ ⟨_,L,b,V,rfl⟩;omega
    .rw[a,a']
   lt:=λb r=>by
    obtain⟨v,L,hl,m,e⟩:=r;rcases Gp I hl with⟨_,hl⟩|⟨_,hl⟩
    .exact aK (fG.lt b ⟨v,L,hl,m,e⟩) hg.size
    .exact mK.lt b ⟨_,L,hl,m,e⟩
   nF:=λb r K=>by
    obtain⟨v,L,hl,m,e⟩:=r;rcases Gp I hl with⟨_,hl⟩|⟨_,hl⟩
    .exact a1 b K ⟨v,L,hl,m,e⟩
    .exact a0 b K ⟨_,L,hl,m,e⟩
   ki:=a4
   out:=λv k m=>by simp only[aF]at m;simp only[Ctx.oc,if_neg (show¬v=n by omega)];exact fG.out _ k m
   l7:=λv o k s hk=>by
    rw[rD gC]at s
    by_cases m:v=n
    .subst m;rw[if_pos rfl]at s;cases s;simp only[Ctx.oc,if_true];exact mK.l7 0 _ k rfl hk
    .rw[if_neg m]at s;simp only[Ctx.oc,if_neg m];exact fG.l7 v o k s hk
   ob:=λv o s=>by
    rw[rD gC]at s
    by_cases m:v=n
    .subst m;rw[if_pos rfl]at s;cases s;simp only[Ctx.oc,if_true];have h0:=mK.ob 0 _ rfl;obtain⟨t,g,cs,rfl,iV⟩:=gL;simp only[Ob.gen]at h0 ⊢
     cases B:c2.ι 0 g with
     | none=>rw[B]at h0;simp[gK]at h0
     | some L=>
      rw[B]at h0;simp only[gK]at h0 ⊢;split
      .grind
      .rename_i nH;simp only[nH]at h0;obtain⟨a3,h1,z,V,U⟩:=h0;refine⟨a3,h1,z,V,λi d y=>?_⟩;obtain⟨x,lz,kf,AQ⟩:=U i d y;exact⟨x,lz,kf,R d _ (iV d (List.mem_of_getElem? y)) AQ⟩
    .rw[if_neg m]at s;simp only[Ctx.oc,if_neg m];exact gK.keep (c:=c) (c':=c.oc c2 n F) rfl (λ_ _ h=>carry h) (λl hl lx y=>hg.kept _ (fG.lt _ ⟨v,l,⟨o,s,y,hl⟩,lx,rfl⟩)) (fG.ob v o s)
   gl:=λg cs hg=>by obtain⟨h1,z⟩:=fG.gl g cs hg;exact⟨h1,carry z⟩
   rt:=fG.rt },?_,?_⟩
  .cases d with
   | tup ds=>
    cases m with
    | tup vs _ hl pT=>
     simp only[j'];refine .tup vs _ (by simpa using hl) λi v d m Q=>?_;simp only[ar,aj]at Q;obtain⟨d0,O,rfl⟩:=Q;exact h1 d0 v (List.all_eq_true.1 y d0 (List.mem_of_getElem? O)) (pT i v d0 m O)
   | agg ds=>
    cases m with
    | agg vs _ hl s pT=>
     simp only[j'];refine .agg vs _ (by simpa using hl) s λi v d m Q=>?_;simp only[ar,aj]at Q;obtain⟨d0,O,rfl⟩:=Q;exact h1 d0 v (List.all_eq_true.1 y d0 (List.mem_of_getElem? O)) (pT i v d0 m O)
   | fy v g sz off len=>exact Fs _ _ _ _ _ _ m (hz _ _ _ _ _ _ m)
   | _=>exact R _ _ y m
  .exact{
    os:=hg.os
    tape:=hg.tape
    output:=hg.output
    size:=hg.size
    RT:=rfl
    Fm:=S
    Fn:=λb r=>(lV b r).imp id .inl
    kept:=λb r _=>hg.kept b r
    old:=λv k L m h=>by
     have gS:v≠n:=λe=>by rw[e,U9]at h;cases h
     simp only[Ctx.oc,if_neg gS];exact h
    own:=λb r=>by
     obtain⟨v,L,hl,m,e⟩:=r;rcases Gp I hl with⟨_,hl⟩|⟨_,hl⟩
     .exact .inr ⟨v,L,hl,m,e⟩
     .exact .inl (O9 b ⟨_,L,hl,m,e⟩) }
 by_cases N:gh args=true
 .simp only[if_pos N,Bool.and_eq_true]at J
  have e:args.map (fL (λ_=>none) H 40)=args:=by
   conv=>rhs;rw[<-aT args]
   exact ak λd y=>pF (lS N d y)
  rw[e]at W
  have Y:je (c.data c.F) w vs args:=by
   clear W J e
   induction A with
   | nil=>exact .nil
   | cons h _ ih=>
    simp only[gh,Bool.and_eq_true]at N;exact .cons (fF.closed (c:=c) (c':=c.data c.F) (λb r=>r) h N.1) (ih N.2)
  refine(W _ w vs (Kz fG) Y).mono ?_;rintro e w' ⟨v,c2,T,z,m,E⟩;have hg:=z' E
  have K:∀b,c2.F b->c.F b\/w.heap.size<=b:=λb r=>by
   rcases E.Fn b r with h|h|h
   .exact .inl h
   .exact .inr h
   .exact absurd h ta
  obtain⟨m1,m2,m3⟩:=C c2 w' v c2.F z m hg (λb r=>by
    rcases E.own b r with h|h
    .exact h
    .exact absurd h ta) (λb r=>E.Fm b r) z.ki (λb r s=>by
    rcases K b r with h|h
    .exact fG.nF b s h
    .have:=fG.lt b s;omega) (λb r s=>z.nF b s r) K AL.closed (λd u y Z=>fF.closed (c:=c2) (c':=c.oc c2 n c2.F) (λb r=>r) Z y) J.1 (by
    have:=J.2;cases ob<;>simp only[nz]at this<;>first|(cases this;done)|skip
    exact⟨_,_,_,rfl,lS this⟩)
  exact⟨v,_,T,m1,m2,m3⟩
 .simp only[if_neg N,Bool.and_eq_true]at J
  have Y:je (c.fL [] H) w vs (args.map (fL (λ_=>none) H 40)):=A.map λv d h=>by rw[Rj];exact ze fG 40 h
  have Fq:gf G (c.fL [] H) [] w:=Dm (ks:=[]) fG (λi j p q R=>by simp at R);refine(W _ w vs Fq Y).mono ?_;rintro e w' ⟨v,c2,T,z,m,E⟩;have hg:=z' E
  obtain⟨m1,m2,m3⟩:=C c2 w' v c.F z m hg (λb r=>by
    rcases E.own b r with h|h
    .exact h
    .exact absurd h ta) (λb r=>r) (λb r=>aK (fG.ki b r) hg.size) (λb r s=>fG.nF b s r) (λb r s=>by
    rcases E.own b s with h|h
    .have:=fG.ki b r;omega
    .exact absurd h ta) (λb r=>.inl r) AL.flat (λd u y Z=>fF.flat Z y) J.1 (by
    have:=J.2;cases ob<;>simp only[oX]at this<;>first|(cases this;done)|skip
    refine⟨_,_,_,rfl,λd y=>?_⟩;obtain⟨i,hi⟩:=aA.1 y
    exact Cf this hi)
  exact⟨v,_,T,m1,m2,m3⟩
theorem ako{S:List Nat}{v:Nat}(c:v∈S):il (l6 H S) v=none:=by
 unfold il l6;rw[dq];intro p b;obtain⟨u,_,rfl⟩:=aq.1 b
 by_cases a:u=v
 .grind
 .simp[a]
theorem Yo{v:Nat}:∀(k:Nat) (d:D),(∀u∈gZ H k d,u=v)->AL.fL (il (l6 H [v])) H k d=AL.fL (λ_=>none) H k d
 | 0,d,_=>rfl
 | k+1,d,h=>by
  have i:il (l6 H [v]) v=none:=ako (by simp)
  have b:∀(ds:List D),(∀u∈(ds.map (gZ H k)).flatten,u=v)->ds.map (AL.fL (il (l6 H [v])) H k)=ds.map (AL.fL (λ_=>none) H k):=λds o=>
   ak λd f=>Yo k d λu a=>o u (a7.2 ⟨_,aq.2 ⟨d,f,rfl⟩,a⟩)
  unfold gZ at h;unfold AL.fL
  by_cases r:AL.closed d=true
  .grind
  .simp only[if_neg r]at h ⊢
   cases d with
   | agg cs=>simp only[b cs h]
   | tup cs=>simp only[b cs h]
   | fV cs=>simp only[b cs h]
   | sl sz es=>
    have:es.map (λx=>x.map (AL.fL (il (l6 H [v])) H k))=es.map (λx=>x.map (AL.fL (λ_=>none) H k)):=ak λe q=>b e λu a=>h u (a7.2 ⟨_,aq.2 ⟨e,q,rfl⟩,a⟩);simp only[this]
   | fn g x y=>
    have h1:=b x λu a=>h u (bz _ a);have s:=b y λu a=>h u (bP _ a);simp only[h1,s]
   | fy u g sz off len=>
    have a:u=v:=h u (by simp);subst a;simp only[i]
    cases c:rowsOf H u with
    | none=>simp only[zh,c]
    | some p=>
     obtain⟨t,n,cs⟩:=p;simp only[zh,c]
     by_cases hg:n=g
     .simp only[hg,if_true]
      have:=b (cs.drop (off*sz)) λw m=>by obtain⟨l,hl,j⟩:=a7.1 m;obtain⟨d,f,rfl⟩:=aq.1 hl;exact h w (by simp only[c];exact aZ _ (a7.2 ⟨_,aq.2 ⟨d,bj f,rfl⟩,j⟩))
      rw[this]
     .grind
   | ptr u g off=>
    have a:u=v:=h u (by simp);subst a;simp only[i]
    cases c:rowsOf H u with
    | none=>simp only[zh,c]
    | some p=>
     obtain⟨t,n,cs⟩:=p;simp only[zh,c]
     by_cases hg:n=g
     .simp only[hg,if_true]
      have:=b (cs.drop off) λw m=>by obtain⟨l,hl,j⟩:=a7.1 m;obtain⟨d,f,rfl⟩:=aq.1 hl;exact h w (by simp only[c];exact aZ _ (a7.2 ⟨_,aq.2 ⟨d,bj f,rfl⟩,j⟩))
      rw[this]
     .grind
   | gg u=>
    have a:u=v:=h u (by simp);subst a;simp only[i]
   | iH u=>
    have a:u=v:=h u (by simp);subst a;simp only[i]
   | _=>rfl
theorem aer(h:gf G c H w){v:Nat}{t:TypeId}{g:Nat}{cs:List D}(p:H[v]? = some (.row t g cs)) :
  ∃c',gf G c' (H.set v .dead) w/\Step H.length c H w c' (H.set v .dead) w/\(∀u d,fF c w u d->fF c' w u d)/\∀b,(c.fL (l6 H [v]) H).F b->c'.F b:=by
 have E:=(ae.1 p).1
 have y:∀c':Ctx,(∀u k,c'.ι u k=c.ι u k)->∀u l,lB c' (H.set v .dead) u l->u≠v/\lB c H u l:=by
  rintro c' n u l ⟨o,i,C,hi⟩;rw[rD E]at i;split at i
  .cases i;cases C
  .rename_i m;exact⟨m,o,i,C,by rw[<-n];exact hi⟩
 let c':Ctx:={ c with F:=λb=>c.F b\/∃L,c.ι v g=some L/\L.jr=false/\L.b=b }
 have n:∀u k,c'.ι u k=c.ι u k:=λ_ _=>rfl;have A:∀u d,fF c w u d->fF c' w u d:=λu d R=>fF.carry (c:=c) (c':=c') (w:=w) (w':=w) (λ_ _ _ h=>h) (λb f=>Or.inl f) (λ_ _ _=>rfl) R;have J:∀b,lN c' (H.set v .dead) b->lN c H b:=λb ⟨u,l,hl,r⟩=>⟨u,l,(y c' n u l hl).2,r⟩
 refine⟨c',{
  inj:=λu O l Q h1 S=>h.inj u O l Q (y c' n _ _ h1).2 (y c' n _ _ S).2
  lt:=λb f=>h.lt b (J b f)
  nF:=λb f B=>by
   obtain⟨u,l,hl,M,e⟩:=f;obtain⟨m,K⟩:=y c' n u l hl;rcases B with B|⟨L,x,j,s⟩
   .exact h.nF b ⟨u,l,K,M,e⟩ B
   .exact m (h.inj u v l L K ⟨_,p,rfl,x⟩ M j (e.trans s.symm))
  ki:=λb f=>by
   rcases f with f|⟨L,x,j,s⟩
   .exact h.ki b f
   .exact s▸h.lt _ ⟨v,L,⟨_,p,rfl,x⟩,j,rfl⟩
  out:=λu k z=>h.out u k (by simpa using z)
  l7:=λu o k i q=>by
   rw[rD E]at i;split at i
   .cases i;rcases q with q|⟨q,_⟩<;>cases q
   .exact h.l7 u o k i q
  ob:=λu o i=>by
   rw[rD E]at i;split at i
   .cases i;simp[gK]
   .exact gK.keep (c:=c) (c':=c') rfl A (λ_ _ _ _=>rfl) (h.ob u o i)
  gl:=λg cs hg=>let ⟨a,b⟩:=h.gl g cs hg;⟨a,A _ _ b⟩
  rt:=h.rt },?_,A,λb f=>?_⟩
 .exact{
   os:=⟨rfl,Nat.le_refl _⟩,tape:=rfl,output:=rfl,size:=Nat.le_refl _,RT:=rfl
   Fm:=λb f=>Or.inl f
   Fn:=λb f=>by
    rcases f with f|⟨L,x,j,s⟩
    .exact .inl f
    .exact .inr (.inr ⟨v,L,⟨_,p,rfl,x⟩,j,s⟩)
   kept:=λ_ _ _=>rfl
   old:=λ_ _ _ _ h=>h
   own:=λb f=>.inr (J b f) }
 .rcases f with f|⟨u,L,⟨o,i,C,I⟩,N,j,e⟩
  .exact .inl f
  .have z:u=v:=by
    by_cases m:u=v
    .exact m
    .exfalso;have P:=(ae.1 i).1
     have:il (l6 H [v]) u=some u:=Q3 Uv (by
      unfold l6
      simp[P,m])
     rw[this]at N;cases N
   subst z;rw[p]at i;cases i;exact .inr ⟨L,I,j,e⟩
theorem aj1(fG:gf G c H w){f:FuncId}{vs:List Value}{args:List D}{d:D}{v:Nat}(o:je c w vs args)(hS:∀u∈(args.map (gZ H 40)).flatten,u=v)(m:(rowsOf H v).isSome=true)
  (n:xL P G f (args.map (AL.fL (λ_=>none) H 40)) [] d []) (j:gh (args.map (AL.fL (λ_=>none) H 40))=true) (a:AL.closed d=true) :
  Calls P f vs.toArray w λe w'=>∃u c',e = .returned u/\gf G c' (H.set v .dead) w'/\fF c' w' u d/\Step H.length c H w c' (H.set v .dead) w':=by
 have k:∃t g cs,H[v]? = some (.row t g cs):=by
  unfold rowsOf at m;split at m
  .grind
  .cases m
 obtain⟨t,g,cs,k⟩:=k;obtain⟨p,k1,k2,k3,k4⟩:=aer fG k
 have l:je p w vs (args.map (AL.fL (λ_=>none) H 40)):=by
  have e:args.map (AL.fL (λ_=>none) H 40)=args.map (AL.fL (il (l6 H [v])) H 40):=
   ak λd a=>(Yo 40 d λu s=>hS u (a7.2 ⟨_,aq.2 ⟨d,a,rfl⟩,s⟩)).symm
  have i:=j;rw[e]at i ⊢;have h0:=o.map (c':=c.fL (l6 H [v]) H) (f:=AL.fL (il (l6 H [v])) H 40) λ_ _ h=>ze fG 40 h;generalize args.map (AL.fL (il (l6 H [v])) H 40)=as at h0 i;clear e j hS n o
  induction h0 with
  | nil=>exact .nil
  | cons h _ r=>
   simp only[gh,Bool.and_eq_true]at i;exact .cons (fF.closed (c:=c.fL (l6 H [v]) H) (c':=p) k4 h i.1) (r i.2)
 have z:(args.map (AL.fL (λ_=>none) H 40)).map (AL.fL (λ_=>none) (H.set v .dead) 40)=args.map (AL.fL (λ_=>none) H 40):=by
  conv=>rhs;rw[<-aT (args.map (AL.fL (λ_=>none) H 40))]
  exact ak λd a=>pF (lS j d a)
 have q:mq d=true/\j' (H.set v .dead).length d=d:=by
  cases d<;>first|(cases a;done)|skip
  case tup ds=>
   simp only[AL.closed]at a;refine⟨?_,?_⟩
   .simp only[mq,vZ,List.all_eq_true];intro x b;have:=lS a x b;cases x<;>first|rfl|exact this
   .simp only[j'];congr 1
    conv=>rhs;rw[<-aT ds]
    refine ak λx b=>?_;have:=lS a x b;cases x<;>first|rfl|(cases this;done)
  case agg ds=>
   simp only[AL.closed]at a;refine⟨?_,?_⟩
   .simp only[mq,vZ,List.all_eq_true];intro x b;have:=lS a x b;cases x<;>first|rfl|exact this
   .simp only[j'];congr 1
    conv=>rhs;rw[<-aT ds]
    refine ak λx b=>?_;have:=lS a x b;cases x<;>first|rfl|(cases this;done)
  all_goals exact⟨a,rfl⟩
 refine(Xz k1 l (by rw[z];exact n) (by rw[if_pos j];simp[q.1])).mono ?_;rintro e w' ⟨u,c2,y,m1,m2,m3⟩;rw[ax]at m1 m3;rw[q.2]at m2;exact⟨u,c2,y,m1,m2,k2.trans m3 (by simp)⟩
end
end Go.AL
namespace Go.AL
open Go
def rG(o:Nat)(xs cs:List D):List D:=cs.take o++xs++cs.drop (o+xs.length)
theorem Rw{o:Nat}{xs cs:List D}(h:o+xs.length<=cs.length):(rG o xs cs).length=cs.length:=by simp[rG];omega
theorem GU{o:Nat}{xs cs:List D}(h:o+xs.length<=cs.length)(i:Nat):(rG o xs cs)[i]? = if o<=i/\i<o+xs.length then xs[i-o]? else cs[i]? := by
 unfold rG;have hl:(cs.take o).length=o:=by simp;omega
 by_cases h1:i<o
 .grind
 .grind
def xI(n:Nat):Dl->Option Nat
 | .no=>none
 | .cells v _ _=>some v
 | .obj v _=>some v
 | .new _=>some n
def RB:Dl->Ob->Ob
 | .no,o=>o
 | .cells _ o xs,.row t g cs=>.row t g (rG o xs cs)
 | .cells _ _ _,o=>o
 | .obj _ ob,_=>ob
 | .new ob,_=>ob
abbrev kQ(n:Nat)(δ:Dl)(H:U):U:=δ.app H (Al.lu H n)
theorem BU(n:Nat)(δ:Dl)(H:U)(x:Nat):(kQ n δ H)[x]? = if xI n δ=some x then(H[x]?).map (RB δ)else H[x]? := by
 have a:∀(v:Nat) (ob:Ob) (f:Ob->Ob),(∀o,f o=ob)->(H.set v ob)[x]? = if some v=some x then(H[x]?).map f else H[x]? := by grind
 cases δ with
 | no=>simp[kQ,Dl.app,xI]
 | obj v ob=>exact a v ob _ λ_=>rfl
 | new ob=>exact a n ob _ λ_=>rfl
 | cells v o xs=>
  have c:xI n (.cells v o xs)=some v:=rfl
  by_cases e:v=x
  .subst e;rw[if_pos c];simp only[kQ,Dl.app];split
   .rename_i t g cs b;rw[bM,if_pos rfl,if_pos (ae.1 b).1,b];rfl
   .rename_i h
    cases d:H[v]? with
    | none=>rfl
    | some ob=>
     cases ob<;>first|rfl|skip
     exact absurd d (h _ _ _)
  .rw[if_neg (by rw[c];simpa using e)];simp only[kQ,Dl.app];split
   .grind
   .rfl
def Fits(n:Nat)(δ:Dl)(H:U):Prop:=match δ with
 | .cells v o xs=>∃t g cs,H[v]? = some (.row t g cs)/\o+xs.length<=cs.length
 | .new _=>H[n]? = some .lu
 | _=>True
theorem x6{a b:List Fp}(h:tt a b=true){x y:Fp}(d:x∈a)(c:y∈b):tq x y=true:=
 List.all_eq_true.1 (List.all_eq_true.1 h x d) y c
theorem Sy{n:Nat}{δ:Dl}{H:U}{j:List Fp}(s:Fits n δ H)(h:tt (jy n δ) j=true):ti j (kQ n δ H) H:=by
 intro x b;obtain⟨u,r⟩:=x
 have z:∀v q,(v,q)∈jy n δ->xI n δ=some v:=by intro v q d;cases δ<;>simp only[jy,List.mem_singleton,dR]at d<;>first|(cases d;rfl)|cases d
 have c:xI n δ≠some u->(kQ n δ H)[u]? = H[u]? := λk=>by rw[BU,if_neg k]
 by_cases a:xI n δ=some u
 .cases r with
  | none=>
   exfalso
   cases δ with
   | no=>cases a
   | cells v o xs=>cases a;have:=x6 h (x:=(u,some (o,xs.length))) (by simp[jy]) b;simp[tq]at this
   | obj v ob=>cases a;have:=x6 h (x:=(u,none)) (by simp[jy]) b;simp[tq]at this
   | new ob=>cases a;have:=x6 h (x:=(n,none)) (by simp[jy]) b;simp[tq]at this
  | some q=>
   obtain⟨p,m⟩:=q
   cases δ with
   | no=>cases a
   | obj v ob=>cases a;exfalso;have:=x6 h (x:=(u,none)) (by simp[jy]) b;simp[tq]at this
   | new ob=>cases a;exfalso;have:=x6 h (x:=(n,none)) (by simp[jy]) b;simp[tq]at this
   | cells v o xs=>
    cases a;obtain⟨t,g,cs,h1,f⟩:=s;have w:=x6 h (x:=(u,some (o,xs.length))) (by simp[jy]) b;simp only[tq,bne_self_eq_false,Bool.false_or,bY,decide_eq_true_eq]at w;refine .inr ⟨t,g,rG o xs cs,cs,?_,h1,Rw f,λi l y=>?_⟩
    .simp[BU,xI,h1,RB]
    .rw[GU f,if_neg (by omega)]
 .have e:=c a
  cases r with
  | none=>exact e
  | some q=>exact .inl e
theorem aln{o p:Nat}{xs c cs:List D}(h1:o+xs.length<=cs.length)(d:p+c.length<=cs.length)(h:o+xs.length<=p\/p+c.length<=o) :
  rG o xs (rG p c cs)=rG p c (rG o xs cs):=by
 apply bN;intro i;rw[GU (by rw[Rw d];exact h1),GU d,GU (by rw[Rw h1];exact d),GU h1]
 by_cases a:o<=i/\i<o+xs.length<;>by_cases b:p<=i/\i<p+c.length
 .omega
 .grind
 .grind
 .grind
theorem alP{n m:Nat}{δ c:Dl}{H:U}(j:Fits n δ H)(hg:Fits m c H)(h:tt (jy n δ) (jy m c)=true):kQ m c (kQ n δ H)=kQ n δ (kQ m c H):=by
 apply bN;intro x;rw[BU,BU,BU,BU]
 by_cases a:xI n δ=some x<;>by_cases b:xI m c=some x
 .rw[if_pos a,if_pos b,if_pos b,if_pos a]
  have bad:∀ {P:Prop},(∃q r,(x,q)∈jy n δ/\(x,r)∈jy m c/\(q=none\/r=none))->P:=by
   rintro P ⟨q,r,h1,d,k⟩;have:=x6 h h1 d;rcases k with rfl|rfl
   .simp[tq]at this
   .cases q<;>simp[tq]at this
  cases δ with
  | no=>cases a
  | obj v ob=>
   cases a
   cases c with
   | no=>cases b
   | cells v o xs=>cases b;exact bad ⟨none,some (o,xs.length),by simp[jy],by simp[jy],.inl rfl⟩
   | obj v ob=>cases b;exact bad ⟨none,none,by simp[jy],by simp[jy],.inl rfl⟩
   | new ob=>cases b;exact bad ⟨none,none,by simp[jy],by simp[jy],.inl rfl⟩
  | new ob=>
   cases a
   cases c with
   | no=>cases b
   | cells v o xs=>cases b;exact bad ⟨none,some (o,xs.length),by simp[jy],by simp[jy],.inl rfl⟩
   | obj v ob=>cases b;exact bad ⟨none,none,by simp[jy],by simp[jy],.inl rfl⟩
   | new ob=>cases b;exact bad ⟨none,none,by simp[jy],by simp[jy],.inl rfl⟩
  | cells v o xs=>
   cases a
   cases c with
   | no=>cases b
   | obj v ob=>cases b;exact bad ⟨some (o,xs.length),none,by simp[jy],by simp[jy],.inr rfl⟩
   | new ob=>cases b;exact bad ⟨some (o,xs.length),none,by simp[jy],by simp[jy],.inr rfl⟩
   | cells v p i=>
    cases b;obtain⟨t,g,cs,h1,d⟩:=j;obtain⟨s,w,u,f,l⟩:=hg;rw[h1]at f;cases f;have e:=x6 h (x:=(x,some (o,xs.length))) (y:=(x,some (p,i.length))) (by simp[jy]) (by simp[jy]);simp only[tq,bne_self_eq_false,Bool.false_or,bY,decide_eq_true_eq]at e;simp only[h1,aD,RB];rw[aln d l e]
 .grind
 .grind
 .grind
structure Rc where
 R:List Fp
 W:List Fp
inductive Out where
 | norm (s:St)
 | exit (id:Nat) (s:St)
 | ret (s:St)
inductive zw where
 | ops (l:List gI) (s:St)
 | code (c:IR) (s:St)
 | loop (n:Nat) (live:List Nat) (a:IR) (s:St)
 | call (f:FuncId) (args:List D) (H:U)
 | trace (l:List gI) (s:St)
inductive oS where
 | out (o:Out)
 | tr (rs:List Rc) (s:St)
 | val (d:D) (H:U)
def Out.stop:Out->Bool
 | .norm _=>false
 | _=>true
def uZ(c:List (Nat×Nat))(rs:List Rc):Bool:=c.all λp=>match rs[p.1]?,rs[p.2]? with
 | some a,some b=>tt a.W (b.R++b.W)&&tt b.W (a.R++a.W)
 | _,_=>false
def yieldOf(env:gD):iu->Option (Nat×List D)
 | .callv f args=>match ev env f with
  | .iH v=>some (v,args.map (ev env))
  | _=>none
 | _=>none
def Out.st:Out->St
 | .norm s=>s
 | .exit _ s=>s
 | .ret s=>s
def Out.zi:Out->sw
 | .norm _=>.ready
 | .exit id _=>.ym id
 | .ret _=>.zN
def Be(s:St):sw->Option Out
 | .ready=>some (.norm s)
 | .busy=>none
 | .zN=>some (.ret s)
 | .ym id=>some (.exit id s)
def kill:List Nat->U->Option U
 | [],H=>some H
 | v::vs,H=>match H[v]? with
  | some .kD=>kill vs (H.set v .dead)
  | _=>none
def finish(fn:iP)(own n:Nat):Out->Option (D×U)
 | .norm s | .ret s=>match kill s.marks s.H with
  | some H=>match results fn { s with H:=H }with
   | some d=>some (leave own n H d)
   | none=>none
  | none=>none
 | .exit _ _=>none
def lh(id n:Nat)(live:List Nat):Out->Out
 | .norm s=>.norm (cut n live s)
 | .exit a s=>if a=id then .norm (cut n live s)else .exit a s
 | .ret s=>.ret s
inductive Ev(T:ia):zw->(oS->Prop)->Prop
 | mono {j R R'} (h:Ev T j R) (hi:∀r,R r->R' r):Ev T j R'
 | nil {s R} (h:R (.out (.norm s))):Ev T (.ops [] s) R
 | op {e r s d δ R} (hg:guardOf s.env.get e.guard=some true) (h:gv s.env.get s.H s.H.length e.op=some (d,δ))
   (t:Ev T (.ops r { s with env:=put s.env e.dst d,H:=δ.app s.H (Al.last s.H) }) R):Ev T (.ops (e::r) s) R
 | Bq {e r s d δ R} (hg:guardOf s.env.get e.guard=some true) (h:l5 s.env.get s.H s.H.length e.op=some (d,δ))
   (t:Ev T (.ops r { s with env:=put s.env e.dst d,H:=δ.app s.H (Al.last s.H) }) R):Ev T (.ops (e::r) s) R
 | off {e r s R} (hg:guardOf s.env.get e.guard=some false) (t:Ev T (.ops r { s with env:=put s.env e.dst (.val undef) }) R):Ev T (.ops (e::r) s) R
 | lH {l s R} (S:List Nat) (hm:s.marks.all (λv => !S.contains v)=true) (t:Ev T (.ops l (lH S s)) R):Ev T (.ops l s) R
 | EN {c s R} (S:List Nat) (hm:s.marks.all (λv => !S.contains v)=true) (t:Ev T (.code c (lH S s)) R):Ev T (.code c s) R
 | Og {l s R} (live:List Nat) (t:Ev T (.ops l { s with env:=forget live s.env }) R):Ev T (.ops l s) R
 | K5 {c s R} (live:List Nat) (t:Ev T (.code c { s with env:=forget live s.env }) R):Ev T (.code c s) R
 | Ej {e r s f args fn R1 R} (hg:guardOf s.env.get e.guard=some true) (hc:kb s.env.get e.op=some (f,args)) (hf:T.fn f=some fn) (hp:fn.full=false)
   (h:Ev T (.call f (args.map (fL (λ_=>none) s.H 40)) []) R1) (ha:∀d Hn,R1 (.val d Hn)->(after s e.dst args d Hn).isSome=true)
   (t:∀d Hn s',R1 (.val d Hn)->after s e.dst args d Hn=some s'->Ev T (.ops r s') R):Ev T (.ops (e::r) s) R
 | Ei {e r s f args fn R1 R} (hg:guardOf s.env.get e.guard=some true) (hc:kb s.env.get e.op=some (f,args)) (hf:T.fn f=some fn) (hp:fn.full=true)
   (h:Ev T (.call f args s.H) R1) (t:∀d H',R1 (.val d H')->Ev T (.ops r { s with env:=put s.env e.dst d,H:=H' }) R):Ev T (.ops (e::r) s) R
 | Kg {e r s v args rf env0 Rd Ra Rb R} (hg:guardOf s.env.get e.guard=some true) (hc:yieldOf s.env.get e.op=some (v,args)) (hv:s.H[v]? = some (.gV rf env0 .ready)) (hR:T.round rf=some Rd) (hl:args.length=Rd.params.length)
   (ha:Ev T (.code Rd.a { env:=tf Rd.params args env0,H:=s.H,ik:=true }) Ra) (hn:∀o,Ra (.out o)->o.stop=false/\∃kI,o.st.H[v]? = some (.gV rf kI .ready))
   (hb:∀s1 kI,Ra (.out (.norm s1))->s1.H[v]? = some (.gV rf kI .ready)->Ev T (.code Rd.b { s1 with H:=s1.H.set v (.gV rf kI .busy) }) Rb)
   (hm:∀o,Rb (.out o)->∃kS,o.st.H[v]? = some (.gV rf kS .busy))
   (t:∀o kS,Rb (.out o)->o.st.H[v]? = some (.gV rf kS .busy)->Ev T (.ops r { s with env:=put s.env e.dst (.b !o.stop),H:=o.st.H.set v (.gV rf kS o.zi) }) R):Ev T (.ops (e::r) s) R
 | next {e r s x v m since seen kk es R} (hg:guardOf s.env.get e.guard=some true) (ig:e.op = .nextM x) (hx:ev s.env.get x = .ptr v 0 0) (hv:s.H[v]? = some (.jb (.gg m) since seen)) (hm:s.H[m]? = some (.map kk es)) (hs:es.length=since)
   (h0:(∀i,i<es.length->i∈seen)->Ev T (.ops r { s with env:=put s.env e.dst (.tup [.b false]) }) R)
   (h1:∀i k d,es[i]? = some (k,d)->i ∉ seen->Ev T (.ops r { s with env:=put s.env e.dst (.tup [.b true,rz k,d]),H:=s.H.set v (.jb (.gg m) since (seen ++ [i])) }) R):Ev T (.ops (e::r) s) R
 | G2 {s R} (h:R (.tr [] s)):Ev T (.trace [] s) R
 | G4 {e r s d δ R1 R} (hg:guardOf s.env.get e.guard=some true) (h:gv s.env.get s.H s.H.length e.op=some (d,δ))
   (t:Ev T (.trace r { s with env:=put s.env e.dst d,H:=δ.app s.H (Al.last s.H) }) R1) (k:∀rs s',R1 (.tr rs s')->R (.tr (⟨gA s.env.get s.H e.op,jy s.H.length δ⟩::rs) s')):Ev T (.trace (e::r) s) R
 | G3 {e r s R1 R} (hg:guardOf s.env.get e.guard=some false) (t:Ev T (.trace r { s with env:=put s.env e.dst (.val undef) }) R1) (k:∀rs s',R1 (.tr rs s')->R (.tr (⟨[],[]⟩::rs) s')):Ev T (.trace (e::r) s) R
 | GZ {e r s f args fn d R0 R1 R} (hg:guardOf s.env.get e.guard=some true) (hc:kb s.env.get e.op=some (f,args)) (hf:T.fn f=some fn) (hp:fn.full=false)
   (h:Ev T (.call f (args.map (fL (λ_=>none) s.H 40)) []) R0) (h0:∀d' Hn,R0 (.val d' Hn)->d'=d/\Hn = []) (hr:(if gh args then closed d else flat d)=true)
   (t:Ev T (.trace r { s with env:=put s.env e.dst d }) R1) (k:∀rs s',R1 (.tr rs s')->R (.tr (⟨gA s.env.get s.H e.op,[]⟩::rs) s')):Ev T (.trace (e::r) s) R
 | G0 {e r s f as args fn d ob R0 R1 R} (hg:guardOf s.env.get e.guard=some true) (ig:e.op = .callN f as) (ha:args=as.map (ev s.env.get)) (hf:T.fn f=some fn) (hp:fn.full=false)
   (h:Ev T (.call f (args.map (fL (λ_=>none) s.H 40)) []) R0) (h0:∀d' Hn,R0 (.val d' Hn)->d'=d/\Hn = [ob]) (hr:(if gh args then mq d&&nz ob else n5 d&&oX ob)=true)
   (t:Ev T (.trace r { s with env:=put s.env e.dst (j' s.H.length d),H:=s.H ++ [ob] }) R1) (k:∀rs s',R1 (.tr rs s')->R (.tr (⟨gA s.env.get s.H e.op,[(s.H.length,none)]⟩::rs) s')):Ev T (.trace (e::r) s) R
 | G1 {e r s f as args fn d v R0 R1 R} (hg:guardOf s.env.get e.guard=some true) (ig:e.op = .callN f as) (ha:args=as.map (ev s.env.get)) (hf:T.fn f=some fn) (hp:fn.full=false)
   (hS:∀u∈(args.map (gZ s.H 40)).flatten,u=v) (hv:v∈(args.map (gZ s.H 40)).flatten) (gw:(rowsOf s.H v).isSome=true) (gu:gh (args.map (fL (λ_=>none) s.H 40))=true)
   (h:Ev T (.call f (args.map (fL (λ_=>none) s.H 40)) []) R0) (h0:∀d' Hn,R0 (.val d' Hn)->d'=d/\Hn = []) (hr:closed d=true)
   (t:Ev T (.trace r { s with env:=put s.env e.dst d,H:=s.H.set v .dead }) R1) (k:∀rs s',R1 (.tr rs s')->R (.tr (⟨gA s.env.get s.H e.op,[(v,none)]⟩::rs) s')):Ev T (.trace (e::r) s) R
 | lF {jk l s R1 R} (t:Ev T (.trace l s) R1) (hp:∀rs s',R1 (.tr rs s')->uZ jk rs=true/\R (.out (.norm s'))):Ev T (.code (.lF jk l) s) R
 | mj {jk l es s R1 R} (t:Ev T (.trace l s) R1) (hp:∀rs s',R1 (.tr rs s')->uZ jk rs=true) (k:∀rs s',R1 (.tr rs s')->Ev T (.ops es s') R):Ev T (.code (.mj jk l es) s) R
 | skip {s R} (h:R (.out (.norm s))):Ev T (.code .skip s) R
 | Eu {l s R} (h:Ev T (.ops l s) R):Ev T (.code (.ops l) s) R
 | seq {a b s R1 R} (h:Ev T (.code a s) R1) (k:∀s',R1 (.out (.norm s'))->Ev T (.code b s') R) (hs:∀o,R1 (.out o)->o.stop=true->R (.out o)):Ev T (.code (.seq a b) s) R
 | cond {c a b s x R} (hc:ev s.env.get c = .val (.bool x)) (h:Ev T (.code (if x then a else b) s) R):Ev T (.code (.cond c a b) s) R
 | block {id live a s R1 R} (h:Ev T (.code a s) R1) (k:∀o,R1 (.out o)->R (.out (lh id s.H.length live o))):Ev T (.code (.block id live a) s) R
 | loop {live a s R} (h:Ev T (.loop s.H.length live a { s with env:=forget live s.env }) R):Ev T (.code (.loop live a) s) R
 | y5 {n live a s R1 R} (h:Ev T (.code a s) R1) (k:∀s',R1 (.out (.norm s'))->Ev T (.loop n live a (cut n live s')) R) (hs:∀o,R1 (.out o)->o.stop=true->R (.out o)):Ev T (.loop n live a s) R
 | nv {rf live x s f first cap fn R1 R} (hr:s.ik=false) (hx:ev s.env.get x = .fn (.func f) first cap) (hf:T.fn f=some fn) (hp:fn.full=true)
   (h:Ev T (.call f (first ++ [.iH (s.H.length+1)]++cap) (s.H ++ [.kD,.gV rf (forget live s.env) .ready])) R1)
   (k:∀d H',R1 (.val d H')->∃env st o,H'[s.H.length+1]? = some (.gV rf env st)/\Be { s with H:=H'.set (s.H.length+1) .dead,marks:=s.H.length::s.marks } st=some o/\R (.out o)):Ev T (.code (.nv rf live x) s) R
 | exit {id s R} (h:R (.out (.exit id s))):Ev T (.code (.exit id) s) R
 | ret {s R} (h:R (.out (.ret s))):Ev T (.code .ret s) R
 | call {f args H fn R1 R} (own:Nat) (hf:T.fn f=some fn) (hl:args.length<=fn.ntmps) (h:Ev T (.code fn.body { env:=s7 args,H:=H }) R1)
   (k:∀o,R1 (.out o)->∃d H',finish fn own H.length o=some (d,H')/\R (.val d H')):Ev T (.call f args H) R
 | sort {f g fn sz v gen t H R} {α:Type} (fc:α->List D) (l:List α) (cf:α->α->Int) (hs:T.sort f=some sz) (hg:T.fn g=some fn) (hl:∀a∈l,(fc a).length=sz) (gu:∀a∈l,gh (fc a)=true) (h0:0<l.length) (vE:l.length<4611686018427387904)
   (C0:∀x∈l,¬cf x x<0) (tr:∀x∈l,∀y∈l,∀z∈l,cf x y<0->cf y z<0->cf x z<0) (nt:∀x∈l,∀y∈l,∀z∈l,¬cf x y<0->¬cf y z<0->¬cf x z<0)
   (hc:∀x∈l,∀y∈l,Ev T (.call g [.agg (fc x),.agg (fc y)] []) (λr=>∃H',r = .val (.i (cf x y)) H')) (hv:H[v]? = some (.row t gen (l.map fc).flatten))
   (k:∀l':List α,l'.Perm l->l'.Pairwise (λx y=>¬cf y x<0)->R (.val (.tup []) (H.set v (.row t gen (l'.map fc).flatten)))):Ev T (.call f [.fy v gen sz 0 l.length,.fn (.func g) [] []] H) R
 | Dt {f sz x H R} (hs:T.sort f=some sz) (k:R (.val (.tup []) H)):Ev T (.call f [.fJ,x] H) R
 | su {f v gen t H R} (l:List Int) (hs:T.su f=true) (h0:0<l.length) (vE:l.length<4611686018427387904) (hv:H[v]? = some (.row t gen (l.map λn=>D.i n)))
   (k:R (.val (.tup []) (H.set v (.row t gen ((l.mergeSort λx y=>decide (x<=y)).map λn=>D.i n))))):Ev T (.call f [.fy v gen 1 0 l.length] H) R
 | sE {f v gen t zs H R} (l:List Int) (i:Nat) (hs:T.sE f=true) (hi:i<l.length) (hv:H[v]? = some (.row t gen (l.map (λn=>D.i n)++zs)))
   (k:R (.val (.fy v gen 1 0 (l.length-1)) (H.set v (.row t gen ((l.take i++l.drop (i+1) ++ [0]).map (λn=>D.i n)++zs))))):Ev T (.call f [.fy v gen 1 0 l.length,.i i,.i ((i:Int)+1)] H) R
end Go.AL
namespace Go.AL
open Go
def mf(f:gD):Option Nat->D->gD
 | some k,d=>λt=>if k=t then d else f t
 | none,_=>f
theorem Gq(env:Env)(dst:Option Nat)(d:D):(put env dst d).get=mf env.get dst d:=by
 cases dst with
 | none=>rfl
 | some k=>funext t;simp[put,Env.vC,mf]
def Ox:Option (Nat×Bool)->List Nat
 | some (t,_)=>[t]
 | none=>[]
def looks(e:gI):List Nat:=gM e.op++Ox e.guard
inductive Ef(C:FuncId->List D->D->U->Prop)(f:gD)(H:U)(e:gI)(n:Nat):Rc->D->Dl->Prop
 | op {d δ} (hg:guardOf f e.guard=some true) (h:gv f H n e.op=some (d,δ)) (hf:Fits n δ H):Ef C f H e n ⟨gA f H e.op,jy n δ⟩ d δ
 | off (hg:guardOf f e.guard=some false):Ef C f H e n ⟨[],[]⟩ (.val undef) .no
 | call {g args d} (hg:guardOf f e.guard=some true) (hc:kb f e.op=some (g,args))
   (h:C g (args.map (fL (λ_=>none) H 40)) d []) (hr:(if gh args then closed d else flat d)=true):Ef C f H e n ⟨gA f H e.op,[]⟩ d .no
 | callN {g as args d ob} (hg:guardOf f e.guard=some true) (ig:e.op = .callN g as) (ha:args=as.map (ev f))
   (h:C g (args.map (fL (λ_=>none) H 40)) d [ob]) (hr:(if gh args then mq d&&nz ob else n5 d&&oX ob)=true) (hf:Fits n (.new ob) H):Ef C f H e n ⟨gA f H e.op,jy n (.new ob)⟩ (j' n d) (.new ob)
 | zI {g as args d v} (hg:guardOf f e.guard=some true) (ig:e.op = .callN g as) (ha:args=as.map (ev f)) (hS:∀u∈(args.map (gZ H 40)).flatten,u=v) (hv:v∈(args.map (gZ H 40)).flatten) (gw:(rowsOf H v).isSome=true)
   (h:C g (args.map (fL (λ_=>none) H 40)) d []) (gu:gh (args.map (fL (λ_=>none) H 40))=true) (hr:closed d=true):Ef C f H e n ⟨gA f H e.op,[(v,none)]⟩ d (.obj v .dead)
theorem guard_congr{f f':gD}{g:Option (Nat×Bool)}(h:∀t∈Ox g,f t=f' t):guardOf f g=guardOf f' g:=by
 cases g with
 | none=>rfl
 | some p=>simp only[guardOf,h p.1 (by simp[Ox])]
theorem Zg{x:Fp}{H1 H2:U}(h:Alike x H1 H2):Alike x H2 H1:=by
 obtain⟨v,r⟩:=x
 cases r with
 | none=>exact h.symm
 | some q=>
  rcases h with h|⟨t,g,cs,ds,h1,e,d,c⟩
  .exact .inl h.symm
  .exact .inr ⟨t,g,ds,cs,e,h1,d.symm,λi a b=>(c i a b).symm⟩
theorem Um{n:Nat}{δ:Dl}{H H':U}(h:ti (jy n δ) H H')(a:Fits n δ H):Fits n δ H':=by
 cases δ with
 | no=>trivial
 | obj v ob=>trivial
 | new ob=>
  have e:H[n]? = H'[n]? := h (n,none) (by simp[jy]);show H'[n]? = some .lu;rw[<-e];exact a
 | cells v o xs=>
  obtain⟨t,g,cs,h1,d⟩:=a;rcases h (v,some (o,xs.length)) (by simp[jy])with h|⟨f,l,i,ds,b,c,k,j⟩
  .exact⟨t,g,cs,h▸h1,d⟩
  .rw[h1]at b;cases b;exact⟨t,g,ds,c,by omega⟩
theorem MD{H H':U}{v:Nat}(h:Alike (v,none) H H'):rowsOf H v=rowsOf H' v:=by have e:H[v]? = H'[v]? := h;simp only[rowsOf,e]
theorem Nx{f:gD}{H:U}{op:iu}{g:FuncId}{args:List D}(i:kb f op=some (g,args)){H':U}(h:ti (gA f H op) H H') :
  gA f H' op=gA f H op/\args.map (fL (λ_=>none) H' 40)=args.map (fL (λ_=>none) H 40):=by
 have key:∀args:List D,(∀v∈(args.map (gZ H 40)).flatten,rowsOf H v=rowsOf H' v)->args.map (gZ H' 40)=args.map (gZ H 40)/\args.map (fL (λ_=>none) H' 40)=args.map (fL (λ_=>none) H 40):=by intro args j;have h1:∀d∈args,∀v∈gZ H 40 d,rowsOf H v=rowsOf H' v:=λd e v c=>j v (a7.2 ⟨_,aq.2 ⟨d,e,rfl⟩,c⟩);exact⟨ak λd e=>(Gv 40 d (h1 d e)).1,ak λd e=>(Gv 40 d (h1 d e)).2⟩
 cases op<;>first|(cases i;done)|skip
 case call k as=>
  cases i;obtain⟨a,b⟩:=key (as.map (ev f)) λv c=>MD (h (v,none) (aq.2 ⟨v,c,rfl⟩));exact⟨by simp only[gA,a],b⟩
 case callN k as=>
  cases i;obtain⟨a,b⟩:=key (as.map (ev f)) λv c=>MD (h (v,none) (aq.2 ⟨v,c,rfl⟩));exact⟨by simp only[gA,a],b⟩
 case callv k as=>
  simp only[gA,i]at h ⊢;obtain⟨a,b⟩:=key args λv c=>MD (h (v,none) (aq.2 ⟨v,c,rfl⟩));exact⟨by rw[a],b⟩
theorem acI{f:gD}{H H':U}{op:iu}(a:kb f op=none):gA f H' op=gA f H op:=by
 cases op<;>first|rfl|(cases a;done)|skip
 case callv=>simp only[gA,a]
 case len k x=>cases k<;>rfl
theorem ZS{f:gD}{H:U}{n:Nat}{op:iu}{r:D×Dl}(h:gv f H n op=some r):kb f op=none:=by cases op<;>first|rfl|cases h
variable{C:FuncId->List D->D->U->Prop}
theorem Ef.local{f f':gD}{H H':U}{e:gI}{n:Nat}{rc:Rc}{d:D}{δ:Dl}(h:Ef C f H e n rc d δ)(F:∀t∈looks e,f t=f' t)(j:ti (rc.R++rc.W) H H'):Ef C f' H' e n rc d δ:=by
 have h1:∀t∈gM e.op,f t=f' t:=λt u=>F t (bz _ u);have p:guardOf f e.guard=guardOf f' e.guard:=guard_congr λt u=>F t (bP _ u)
 cases h with
 | op hg E s=>
  have k:gA f H e.op=gA f' H' e.op:=by rw[K6 h1,acI (ZS (by rw[<-SD h1];exact E))]
  rw[k];refine .op (p▸hg) ?_ (Um j.right s);rw[<-SD h1,<-Zi (H1:=H) j.left];exact E
 | off hg=>exact .off (p▸hg)
 | call hg i l o=>
  obtain⟨a,b⟩:=Nx i j.left;have k:gA f H e.op=gA f' H' e.op:=by rw[<-a,K6 h1]
  rw[k];exact .call (p▸hg) (by rw[<-Ki h1];exact i) (by rw[b];exact l) o
 | @callN g z args _ _ hg c q l o s=>
  have i:kb f e.op=some (g,args):=by rw[c,q];rfl
  obtain⟨a,b⟩:=Nx i j.left;have k:gA f H e.op=gA f' H' e.op:=by rw[<-a,K6 h1]
  rw[k];have m:kb f' e.op=some (g,args):=by rw[<-Ki h1];exact i
  have r:args=z.map (ev f'):=by rw[c]at m;cases m;rfl
  exact .callN (p▸hg) c r (by rw[b];exact l) o (Um j.right s)
 | @zI g z args _ v hg c q hS G I l J o=>
  have i:kb f e.op=some (g,args):=by rw[c,q];rfl
  obtain⟨a,b⟩:=Nx i j.left;have k:gA f H e.op=gA f' H' e.op:=by rw[<-a,K6 h1]
  rw[k];have m:kb f' e.op=some (g,args):=by rw[<-Ki h1];exact i
  have r:args=z.map (ev f'):=by rw[c]at m;cases m;rfl
  have B:(args.map (gZ H' 40)).flatten=(args.map (gZ H 40)).flatten:=by have A:=a;rw[c]at A;simp only[gA,<-q]at A;exact(List.map_inj_right (λx y h=>(Prod.mk.inj h).1)).1 A
  have w:rowsOf H v=rowsOf H' v:=MD (j.right (v,none) (by simp));exact .zI (p▸hg) c r (by rw[B];exact hS) (by rw[B];exact G) (by rw[<-w];exact I) (by rw[b];exact l) (by rw[b];exact J) o
theorem Ef.fits{f:gD}{H:U}{e:gI}{n:Nat}{rc:Rc}{d:D}{δ:Dl}(h:Ef C f H e n rc d δ):Fits n δ H/\rc.W=jy n δ:=by
 cases h with
 | op _ _ a=>exact⟨a,rfl⟩
 | off=>exact⟨trivial,rfl⟩
 | call=>exact⟨trivial,rfl⟩
 | callN _ _ _ _ _ a=>exact⟨a,rfl⟩
 | zI=>exact⟨trivial,rfl⟩
def xH(a b:gI):Bool:=
 (match a.dst with|some k => !(looks b).contains k&&b.dst != some k|none=>true)&&(match b.dst with|some k => !(looks a).contains k|none=>true)
def u4(a b:Rc):Bool:=tt a.W (b.R++b.W)&&tt b.W (a.R++a.W)
theorem YK{f:gD}{dst:Option Nat}{d:D}{l:List Nat}(h:∀k,dst=some k->k ∉ l):∀t∈l,mf f dst d t=f t:=by
 intro t a
 cases dst with
 | none=>rfl
 | some k=>
  simp only[mf];rw[if_neg];rintro rfl;exact h _ rfl a
theorem alz{f:gD}{a b:Option Nat}{x y:D}(h:∀k,a=some k->b≠some k):mf (mf f a x) b y=mf (mf f b y) a x:=by
 cases a with
 | none=>rfl
 | some k=>
  cases b with
  | none=>rfl
  | some j=>
   have d:j≠k:=λe=>h k rfl (by rw[e]);funext t;simp only[mf]
   by_cases h1:j=t<;>by_cases c:k=t<;>simp[h1,c]
   exact absurd (h1.trans c.symm) d
theorem ak7{a b:gI}(h:xH a b=true):(∀k,a.dst=some k->k ∉ looks b)/\(∀k,b.dst=some k->k ∉ looks a)/\(∀k,a.dst=some k->b.dst≠some k):=by
 unfold xH at h;simp only[Bool.and_eq_true]at h;refine⟨λk c=>?_,λk c=>?_,λk c=>?_⟩
 .have:=h.1;rw[c]at this;simp at this;exact this.1
 .have:=h.2;rw[c]at this;simpa using this
 .have:=h.1;rw[c]at this;simp at this;exact this.2
theorem swap{f:gD}{H:U}{a b:gI}{n m:Nat}{g e:Rc}{x y:D}{δ c:Dl}(l:Ef C f H a n g x δ)(w:Ef C (mf f a.dst x) (kQ n δ H) b m e y c)
  (hs:xH a b=true) (d:u4 g e=true) :
  Ef C f H b m e y c/\Ef C (mf f b.dst y) (kQ m c H) a n g x δ/\mf (mf f a.dst x) b.dst y=mf (mf f b.dst y) a.dst x/\kQ m c (kQ n δ H)=kQ n δ (kQ m c H):=by
 obtain⟨s1,r,q⟩:=ak7 hs;simp only[u4,Bool.and_eq_true]at d;obtain⟨p,j⟩:=l.fits;have k:Ef C f H b m e y c:=w.local (YK s1) (Sy p (by rw[<-j];exact d.1));obtain⟨o,i⟩:=k.fits;refine⟨k,l.local (λt v=>(YK r t v).symm) λz h=>Zg (Sy o (by rw[<-i];exact d.2) z h),alz q,alP p o ?_⟩;rw[<-j,<-i];simp only[tt,List.all_eq_true]at d ⊢;exactλu s z h=>d.1 u s z (bP _ h)
theorem Qd{o:Option D}{d:D}{δ:Dl}(h:lift o=some (d,δ)):δ = .no:=by cases o<;>simp[lift]at h;exact h.2.symm
theorem QP{f:gD}{H:U}{e:gI}{n:Nat}{rc:Rc}{d:D}{δ:Dl}(h:Ef C f H e n rc d δ)(a:Gn e.op=true):rc.R = []/\rc.W = []:=by
 cases h with
 | op hg c j=>
  cases b:e.op<;>rw[b]at c a<;>simp only[gv]at c<;>first|(cases a;done)|skip
  case len k x=>
   have:=Qd c;subst this;cases k<;>first|(cases a;done)|exact⟨rfl,rfl⟩
  all_goals
   have:=Qd c;subst this;exact⟨rfl,rfl⟩
 | off hg=>exact⟨rfl,rfl⟩
 | call hg g h i=>cases b:e.op<;>rw[b]at g a<;>first|(cases a;done)|(cases g;done)
 | callN _ b=>rw[b]at a;cases a
 | zI _ b=>rw[b]at a;cases a
theorem XQ{f:gD}{H:U}{e:gI}{n:Nat}{rc:Rc}{d:D}{δ:Dl}(h:Ef C f H e n rc d δ)(a:QV e.op=true):rc.W = []:=by
 by_cases g:Gn e.op=true
 .exact(QP h g).2
 .cases h with
  | op hg c i=>
   cases b:e.op<;>rw[b]at c a g<;>simp only[gv]at c<;>first|(cases a;done)|(exact absurd rfl g)|skip
   case call=>cases c
   case callv=>cases c
   all_goals
    have:=Qd c;subst this;rfl
  | off hg=>rfl
  | call=>rfl
  | callN _ b=>rw[b]at a;cases a
  | zI _ b=>rw[b]at a;cases a
theorem YC{f f':gD}{H H':U}{a b:gI}{n m:Nat}{g e:Rc}{x y:D}{δ k:Dl}(j:Ef C f H a n g x δ)(i:Ef C f' H' b m e y k)(h:MX a.op b.op=true):u4 g e=true:=by
 simp only[MX,bY,Bool.and_eq_true]at h;rcases h with(h|h)|⟨h1,l⟩
 .obtain⟨d,c⟩:=QP j h;simp[u4,d,c,tt]
 .obtain⟨d,c⟩:=QP i h;simp[u4,d,c,tt]
 .simp[u4,XQ j h1,XQ i l,tt]
structure mD where
 k:Nat
 e:gI
 n:Nat
 rc:Rc
inductive Tx(C:FuncId->List D->D->U->Prop):gD->U->List mD->gD->U->Prop
 | nil {f H}:Tx C f H [] f H
 | cons {f H it r d δ f' H'} (h:Ef C f H it.e it.n it.rc d δ) (t:Tx C (mf f it.e.dst d) (kQ it.n δ H) r f' H'):Tx C f H (it::r) f' H'
theorem Tx.each{f:gD}{H:U}{l:List mD}{f':gD}{H':U}(h:Tx C f H l f' H'):∀a∈l,∃f H d δ,Ef C f H a.e a.n a.rc d δ:=by
 induction h with
 | nil=>intro a b;cases b
 | cons h t c=>
  intro a b;rcases aw.1 b with rfl|b
  .exact⟨_,_,_,_,h⟩
  .exact c a b
theorem Tx.front{a:mD}{post:List mD}{f':gD}{H':U}:∀ {pre:List mD} {f:gD} {H:U},Tx C f H (pre++a::post) f' H'->(∀p∈pre,xH p.e a.e=true/\u4 p.rc a.rc=true) ->
  ∃d δ,Ef C f H a.e a.n a.rc d δ/\Tx C (mf f a.e.dst d) (kQ a.n δ H) (pre++post) f' H'
 | [],f,H,h,_=>by
  cases h with
  | cons h t=>exact⟨_,_,h,t⟩
 | p::pre,f,H,h,ha=>by
  cases h with
  | @cons _ _ _ _ d δ _ _ h t=>
   obtain⟨y,b,i,j⟩:=Tx.front (pre:=pre) t λq k=>ha q (by simp[k]);obtain⟨s1,g,e,c⟩:=swap h i (ha p (by simp)).1 (ha p (by simp)).2;refine⟨y,b,s1,.cons g ?_⟩;rw[<-e,<-c];exact j
end Go.AL
namespace Go.AL
open Go
structure SX(G:GT)(N:Nat)(c:Ctx)(w:World)(f:gD)(H:U)(ms:List Nat)(a:Act):Prop where
 fG:gf G c H w
 env:kq c w f a
 size:N<=a.tmps.size
 marks:ri c ms a.defers
section
variable{P:Program}{G:GT}{c:Ctx}{w:World}{f:gD}{H:U}{ms:List Nat}{a:Act}{N:Nat}
theorem aj4{f:gD}{a:Act}{c:Ctx}{w:World}(b:kq c w f a)(hN:N<=a.tmps.size){dst:Option Tmp}(g:sF N dst=true){v:Value}{d:D}(i:fF c w v d) :
  kq c w (mf f dst d) (a.put dst v):=by
 cases dst with
 | none=>exact b
 | some t=>
  have h:t<a.tmps.size:=aK (by simpa[sF]using g) hN;intro k;simp only[mf,Act.put];split
  .simp_all
  .rename_i e;have:(a.tmps.setIfInBounds t v).getD k undef=a.tmps.getD k undef:=by simp_all
   rw[this];exact b k
theorem SX.next{c':Ctx}{w':World}{H':U}(hs:SX G N c w f H ms a)(fG:gf G c' H' w')(e:Step H.length c H w c' H' w'){dst:Option Tmp}(i:sF N dst=true)
  {v:Value} {d:D} (g:fF c' w' v d):SX G N c' w' (mf f dst d) H' ms (a.put dst v) where
 fG:=fG
 env:=aj4 (kq.carry (λ_ _ h=>h.pc hs.fG.toHeapOK e) hs.env) hs.size i g
 size:=by rw[XA];exact hs.size
 marks:=by
  rw[put_defers];refine hs.marks.mono λv L h=>e.old v 0 L ?_ h;rcases bw v H.length with b|b
  .exact b
  .rw[hs.fG.out v 0 b]at h;cases h
theorem Zj{op:iu}{n b:Nat}{d:D}{δ:Dl}(h:gv f H n op=some (d,δ))(a:∀ob,δ≠.new ob):gv f H b op=some (d,δ):=by
 cases op<;>simp only[gv]at h ⊢ <;> first|exact h|skip
 case box=>
  unfold sB at h;split at h
  .grind
  .cases h
 case alloc=>cases h;exact absurd rfl (a _)
 case buildSl=>
  unfold x9 at h;split at h
  .grind
  .cases h
 case mkmap=>cases h;exact absurd rfl (a _)
 case mksl=>
  unfold C7 at h;split at h
  .grind
  .cases h
 case app=>
  unfold rN at h ⊢;split at h
  .grind
  .cases h
theorem En{d:D}(h:closed d=true):mq d=true/\j' H.length d=d:=by
 cases d<;>first|(cases h;done)|skip
 case tup ds=>
  have b:=lS h;refine⟨?_,?_⟩
  .simp only[mq,vZ,List.all_eq_true];intro d a;have:=b d a;cases d<;>first|rfl|exact this
  .simp only[j'];congr 1
   conv=>rhs;rw[<-aT ds]
   refine ak λd a=>?_;have:=b d a;cases d<;>first|(cases this;done)|rfl
 case agg ds=>
  have b:=lS h;refine⟨?_,?_⟩
  .simp only[mq,vZ,List.all_eq_true];intro d a;have:=b d a;cases d<;>first|rfl|exact this
  .simp only[j'];congr 1
   conv=>rhs;rw[<-aT ds]
   refine ak λd a=>?_;have:=b d a;cases d<;>first|(cases this;done)|rfl
 all_goals exact⟨h,rfl⟩
theorem Of{d:D}(h:flat d=true):n5 d=true/\j' H.length d=d:=by
 cases d<;>first|(cases h;done)|skip
 case tup ds=>
  have b:∀d∈ds,flat d=true:=λd a=>by obtain⟨i,hi⟩:=aA.1 a;exact Cf h hi
  refine⟨?_,?_⟩
  .simp only[n5,vZ,List.all_eq_true];intro d a;have:=b d a;cases d<;>first|rfl|exact this
  .simp only[j'];congr 1
   conv=>rhs;rw[<-aT ds]
   refine ak λd a=>?_;have:=b d a;cases d<;>first|(cases this;done)|rfl
 case agg ds=>
  have b:∀d∈ds,flat d=true:=λd a=>by obtain⟨i,hi⟩:=aA.1 a;exact Cf h hi
  refine⟨?_,?_⟩
  .simp only[n5,vZ,List.all_eq_true];intro d a;have:=b d a;cases d<;>first|rfl|exact this
  .simp only[j'];congr 1
   conv=>rhs;rw[<-aT ds]
   refine ak λd a=>?_;have:=b d a;cases d<;>first|(cases this;done)|rfl
 all_goals exact⟨h,rfl⟩
variable{C:FuncId->List D->D->U->Prop}
theorem TE(X:∀g args d Hn,C g args d Hn->rT P g=true/\xL P G g args [] d Hn)(hs:SX G N c w f H ms a){A:Array Oper}{o:Oper}{e:gI}{i:Nat}(hA:A[i]? = some o)
  (ho:vw P G N A o=some e) {n:Nat} {rc:Rc} {d:D} {δ:Dl} (hE:Ef C f H e n rc d δ) {x:Option Nat} {m:Nat} {Q:Exit->Act->World->Prop} {K:Act->World->Prop}
  (k:∀c' w' a',SX G N c' w' (mf f e.dst d) (kQ n δ H) ms a'->Step H.length c H w c' (kQ n δ H) w'->K a' w'):wpOpIn (FW x) m P A Q i K a w:=by
 obtain⟨s1,p,B,z⟩:=yk ho;unfold wpOpIn;simp only[hA]
 cases hE with
 | op hg h R=>
  have r:=tU hs.env z hg;have s1:=Tk s1 h;simp only[r,if_true]
  have s:∀ {al:Al},mC H al->gv f H al.1 e.op=some (d,δ)->δ.app H al=kQ n δ H->o.wpIn (FW x) m P a w K Q:=by
   intro al gQ h T;obtain⟨v,w',J,d',H',c',⟨rfl,rfl⟩,fG,q,l⟩:=Xx (P:=P) (K:=λd' H'=>d'=d/\H'=δ.app H al) hs.fG hs.env gQ s1 (SE h ⟨rfl,rfl⟩);refine⟨λ_ _=>trivial,?_⟩;rw[Oper.semAt_plain (FW x) a.eval o (A7 s1)];rw[T]at fG l;have j:=hs.next fG l B q
   rw[<-p]at j;have V:=k c' w' _ j l;rw[p]at V;rcases J with J|⟨J,rfl⟩
   .rw[J];exact V
   .rw[J];exact V
  by_cases Z:∃ob,δ = .new ob
  .obtain⟨ob,rfl⟩:=Z;exact s (al:=Al.lu H n) (mC.lu R) h rfl
  .have Y:∀ob,δ≠.new ob:=λob e=>Z ⟨ob,e⟩;refine s (al:=Al.last H) (mC.last H) (Zj h Y) ?_;cases δ<;>first|rfl|exact absurd rfl (Y _)
 | off hg=>
  have r:=tU hs.env z hg;simp only[r,bq,if_false];refine⟨λ_ _=>trivial,?_⟩;have j:=hs.next hs.fG (Step.refl _ _ _ _) B (v:=undef) (d:=.val undef) (.val _)
  rw[<-p]at j;have:=k c w _ j (Step.refl _ _ _ _);rw[p]at this;exact this
 | @call g args d hg t h q=>
  have r:=tU hs.env z hg;have s1:=Er s1 t;simp only[r,if_true];obtain⟨F,I⟩:=X _ _ _ _ h;obtain⟨vs,M,L⟩:=MI hs.fG hs.env s1 t F
  have iU:(if gh args then mq d&&([]:U).all nz else n5 d&&([]:U).all oX)=true/\j' H.length d=d:=by
   by_cases O:gh args=true
   .rw[if_pos O]at q ⊢;obtain⟨a,b⟩:=En (H:=H) q;exact⟨by simp[a],b⟩
   .rw[if_neg O]at q ⊢;obtain⟨a,b⟩:=Of (H:=H) q;exact⟨by simp[a],b⟩
  have y:=Xz hs.fG L I iU.1;rw[iU.2,ax]at y;refine⟨λ_ _=>trivial,?_⟩;rw[Oper.semAt_plain (FW x) a.eval o (A7 s1),M];refine⟨λh=>by simp[Fence.wide]at h,Ek.2 (y.mono ?_)⟩;rintro e' w' ⟨v,c',rfl,fG,E,l⟩;have j:=hs.next fG l B E
  rw[<-p]at j;have:=k c' w' _ j l;rw[p]at this;exact this
 | @callN g as args d ob hg S W h q R=>
  have r:=tU hs.env z hg;simp only[r,if_true];have t:kb f e.op=some (g,args):=by rw[S,W];rfl
  have s1:=Er s1 t;obtain⟨F,I⟩:=X _ _ _ _ h;obtain⟨vs,M,L⟩:=MI hs.fG hs.env s1 t F;have y:=aj2 hs.fG L I q R;refine⟨λ_ _=>trivial,?_⟩;rw[Oper.semAt_plain (FW x) a.eval o (A7 s1),M];refine⟨λh=>by simp[Fence.wide]at h,Ek.2 (y.mono ?_)⟩;rintro e' w' ⟨v,c',rfl,fG,E,l⟩;have j:=hs.next fG l B E
  rw[<-p]at j;have:=k c' w' _ j l;rw[p]at this;exact this
 | @zI g as args d v hg S W hS hv gw h O q=>
  have r:=tU hs.env z hg;simp only[r,if_true];have t:kb f e.op=some (g,args):=by rw[S,W];rfl
  have s1:=Er s1 t;obtain⟨F,I⟩:=X _ _ _ _ h;obtain⟨vs,M,L⟩:=MI hs.fG hs.env s1 t F;have y:=aj1 hs.fG L hS gw I O q;refine⟨λ_ _=>trivial,?_⟩;rw[Oper.semAt_plain (FW x) a.eval o (A7 s1),M];refine⟨λh=>by simp[Fence.wide]at h,Ek.2 (y.mono ?_)⟩;rintro e' w' ⟨u,c',rfl,fG,E,l⟩;have j:=hs.next fG l B E
  rw[<-p]at j;have:=k c' w' _ j l;rw[p]at this;exact this
end
end Go.AL
namespace Go.AL
open Go
def yn(A:Array Oper):Bool:=(List.range A.size).all λi=>match A[i]? with
 | some o=>o.after.all λe => !Region.binds .any e||decide (e.on<i)
 | none=>true
def xB(A:Array Oper)(ord:List (List Nat)):Bool:=(List.range A.size).all λi=>match A[i]? with
 | some o=>(ord.getD i []).all λk=>o.after.any λe=>Region.binds .any e&&(e.on == k||(ord.getD e.on []).contains k)
 | none=>true
def QL(l:List gI)(ord:List (List Nat))(c:List (Nat×Nat)):Bool:=(List.range l.length).all λi=>(List.range i).all λk=>
 (ord.getD i []).contains k||(match l[k]?,l[i]? with
  | some a,some b=>xH a b&&(c.contains (k,i)||MX a.op b.op)
  | _,_=>false)
section
variable{P:Program}{G:GT}{A:Array Oper}{ord:List (List Nat)}
theorem aaX(h:yn A=true){i:Nat}{o:Oper}(hi:A[i]? = some o){e:Edge}(a:e∈o.after)(b:Region.binds .any e=true):e.on<i:=by have:=List.all_eq_true.1 h i (a8.2 (aL.1 hi).1);simp only[hi]at this;have:=cu.1 this e a;simpa[b]using this
theorem Xp(h:xB A ord=true){i:Nat}{o:Oper}(hi:A[i]? = some o){k:Nat}(b:k∈ord.getD i []):∃e∈o.after,Region.binds .any e=true/\(e.on=k\/k∈ord.getD e.on []):=by have:=List.all_eq_true.1 h i (a8.2 (aL.1 hi).1);simp only[hi]at this;have:=List.all_eq_true.1 this k b;obtain⟨e,c,a⟩:=Array.any_eq_true'.1 this;simp only[Bool.and_eq_true,bY,beq_iff_eq,de]at a;exact⟨e,c,a.1,a.2⟩
structure Left(A:Array Oper)(ord:List (List Nat))(rem:List mD)(listed:Array Bool):Prop where
 size:listed.size=A.size
 iff:∀j,j<A.size->(listed.getD j true=false↔∃it∈rem,it.k=j)
 sorted:rem.Pairwise λp q=>p.k<q.k
 lt:∀it∈rem,it.k<A.size
 down:∀i,i<A.size->listed.getD i false=true->∀k∈ord.getD i [],listed.getD k false=true
theorem aeI{rem:List mD}{a:Array Bool}(h:Left A ord rem a){j:Nat}(c:j<A.size):a.getD j false=true\/∃e∈rem,e.k=j:=by
 have d:j<a.size:=by rw[h.size];exact c
 cases b:a.getD j true with
 | false=>exact .inr ((h.iff j c).1 b)
 | true=>left;simp[d]at b ⊢;exact b
theorem afc{rem:List mD}{a:Array Bool}(h:Left A ord rem a){b:mD}(c:b∈rem):a.getD b.k false=false:=by
 have d:=h.lt b c;have:=(h.iff b.k d).2 ⟨b,c,rfl⟩;have e:b.k<a.size:=by rw[h.size];exact d
 simp[e]at this ⊢;exact this
theorem QW(j:yn A=true){b:mD}{rem:List mD}{a:Array Bool}(h:Left A ord (b::rem) a):b.k∈Region.ready .any A a:=by
 rw[mem_ready];have d:=h.lt b (by simp);refine⟨(h.iff b.k d).2 ⟨b,by simp,rfl⟩,A[b.k],by simp[d],λe g k=>?_⟩;have l:=aaX j (i:=b.k) (o:=A[b.k]) (by simp[d]) g k;rcases aeI h (show e.on<A.size by omega)with hl|⟨q,c,f⟩
 .exact hl
 .exfalso;rcases aw.1 c with rfl|c
  .omega
  .have:=(bf.1 h.sorted).1 q c;omega
theorem My(k:xB A ord=true){rem:List mD}{a:Array Bool}(h:Left A ord rem a){i:Nat}(hi:i∈Region.ready .any A a){q:mD}(j:q∈rem):q.k ∉ ord.getD i []:=by
 intro m;obtain⟨_,o,r,g⟩:=mem_ready.1 hi;obtain⟨e,l,n,b⟩:=Xp k r m;have c:=g e l n;have f:=afc h j;rcases b with b|b
 .grind
 .have p:e.on<A.size:=by
   rcases bw e.on A.size with d|d
   .exact d
   .have:a.getD e.on false=false:=by
     have:a.size<=e.on:=by rw[h.size];exact d
     simp[dJ this]
    rw[this]at c;cases c
  have:=h.down e.on p c q.k b;rw[this]at f;cases f
theorem Qc(r:xB A ord=true){pre post:List mD}{b:mD}{a:Array Bool}(h:Left A ord (pre++b::post) a)(hi:b.k∈Region.ready .any A a) :
  Left A ord (pre++post) (a.setIfInBounds b.k true):=by
 have l:(pre++post).Sublist (pre++b::post):=dy (dK b post) pre
 have x:∀q∈pre++post,q.k≠b.k:=by
  intro q c;have:=bI.1 h.sorted;rcases List.mem_append.1 c with c|c
  .grind
  .have:=(bf.1 this.2.1).1 q c;omega
 have n:=h.lt b (by simp);refine⟨by simp[h.size],λj t=>?_,h.sorted.sublist l,λq c=>h.lt q (l.subset c),λi w hl k m=>?_⟩
 .by_cases e:b.k=j
  .simp_all
  .rw[getD_set_ne true e,h.iff j t];constructor
   .grind
   .grind
 .by_cases e:b.k=i
  .subst e;obtain⟨_,o,v,p⟩:=mem_ready.1 hi;obtain⟨e,s,u,f⟩:=Xp r v m;have d:=p e s u;rcases f with rfl|f
   .exact getD_set_true d
   .have n:e.on<A.size:=by
     rcases bw e.on A.size with g|g
     .exact g
     .have:a.getD e.on false=false:=by
       have:a.size<=e.on:=by rw[h.size];exact g
       simp[dJ this]
      rw[this]at d;cases d
    exact getD_set_true (h.down e.on n d k f)
  .rw[getD_set_ne false e]at hl;exact getD_set_true (h.down i w hl k m)
variable{C:FuncId->List D->D->U->Prop}{N:Nat}
theorem SF(n:Nat)(δ:Dl)(H:U):(kQ n δ H).length=H.length:=by
 cases δ with
 | no=>rfl
 | cells v o xs=>simp only[kQ,Dl.app];split<;>simp
 | obj v ob=>simp[kQ,Dl.app]
 | new ob=>simp[kQ,Dl.app,Al.lu]
theorem SA(y:∀g args d Hn,C g args d Hn->rT P g=true/\xL P G g args [] d Hn)(x:yn A=true)(t:xB A ord=true){z:Option Nat}{m:Nat}{Q:Exit->Act->World->Prop}{ms:List Nat}{f':gD}{H':U} :
  ∀(fuel:Nat) (rem:List mD) (b:Array Bool) (c:Ctx) (w:World) (f:gD) (H:U) (a:Act),rem.length=fuel->Left A ord rem b->SX G N c w f H ms a->Tx C f H rem f' H' ->
   (∀e∈rem,∃o,A[e.k]? = some o/\vw P G N A o=some e.e) ->
   (∀p∈rem,∀q∈rem,p.k<q.k->p.k∈ord.getD q.k []\/(xH p.e q.e=true/\u4 p.rc q.rc=true)) ->
   (∀c' w' n,SX G N c' w' f' H' ms n->Step H.length c H w c' H' w'->Q .normal n w')->wpAnyIn (FW z) m P .any A Q fuel b a w
 | 0,rem,b,c,w,f,H,a,hl,me,hs,ht,_,_,hQ=>by have:rem = []:=bg hl;subst this;cases ht;refine⟨?_,hQ c w a hs (Step.refl _ _ _ _)⟩;refine aS.2 λj D=>?_;obtain⟨h1,o,u,_⟩:=mem_ready.1 D;obtain⟨e,s,_⟩:=(me.iff j (aL.1 u).1).1 h1;cases s
 | fuel+1,rem,b,c,w,f,H,a,hl,me,hs,ht,wY,Ft,hQ=>by
  refine⟨λh0=>?_,λi hi=>?_⟩
  .cases rem with
   | nil=>cases hl
   | cons e rem=>
    have:=QW x me;rw[h0]at this;cases this
  .obtain⟨h1,o,u,_⟩:=mem_ready.1 hi;obtain⟨e,s,rfl⟩:=(me.iff i (aL.1 u).1).1 h1;obtain⟨pre,post,rfl⟩:=List.append_of_mem s
   have M:∀p∈pre,xH p.e e.e=true/\u4 p.rc e.rc=true:=by
    intro p l;have J:p.k<e.k:=(bI.1 me.sorted).2.2 p l e (by simp);rcases Ft p (bz _ l) e (by simp) J with h|h
    .exact absurd h (My t me hi (bz _ l))
    .exact h
   obtain⟨d,δ,F,E⟩:=ht.front M;obtain⟨o',O,R⟩:=wY e (by simp);have r:∀q∈pre++post,q∈pre++e::post:=λq k=>(dy (dK e post) pre).subset k;refine TE y hs O R F λc' w' n I K=>?_;refine SA y x t fuel (pre++post) _ c' w' _ _ n (by simp at hl ⊢;omega) (Qc t me hi) I E (λq k=>wY q (r q k)) (λp l q k=>Ft p (r p l) q (r q k)) λc2 w2 L B v=>?_;rw[SF]at v;exact hQ c2 w2 L B (K.trans v (Nat.le_refl _))
theorem SC(g:yn A=true)(e:xB A ord=true){F:Fence}{m:Nat}{Q:Exit->Act->World->Prop} :
  ∀(lasts:List mD) (ops:List Oper) (b:Array Bool) (a:Act) (w:World),Left A ord lasts b->(∀q∈lasts,∀k,k<q.k->k∈ord.getD q.k [])->lasts.map (λq=>A[q.k]?)=ops.map some ->
   wpListIn F m P A Q ops a w->wpAnyIn F m P .any A Q lasts.length b a w
 | [],ops,b,a,w,me,_,xd,h=>by
  have:ops = []:=by simpa using xd.symm
  subst this;refine⟨aS.2 λj s=>?_,h⟩;obtain⟨h1,o,f,_⟩:=mem_ready.1 s;obtain⟨c,d,_⟩:=(me.iff j (aL.1 f).1).1 h1;cases d
 | q::lasts,ops,b,a,w,me,hl,xd,h=>by
  cases ops with
  | nil=>simp at xd
  | cons o ops=>
   simp only[List.map_cons,cZ]at xd;refine⟨λh0=>?_,λi hi=>?_⟩
   .have:=QW g me;rw[h0]at this;cases this
   .obtain⟨h1,o',f,_⟩:=mem_ready.1 hi;obtain⟨c,d,rfl⟩:=(me.iff i (aL.1 f).1).1 h1
    have d:c=q:=by
     rcases aw.1 d with h|h
     .exact h
     .have t:q.k<c.k:=(bf.1 me.sorted).1 c h;exact absurd (hl c (aZ _ h) q.k t) (My e me hi (q:=q) (by simp))
    subst d;have r:=Qc (pre:=[]) (post:=lasts) e me hi
    have l:∀a w,wpListIn F m P A Q ops a w->wpAnyIn F m P .any A Q lasts.length (b.setIfInBounds c.k true) a w:=λa w h=>
     SC g e lasts ops _ a w r (λq p=>hl q (aZ _ p)) xd.2 h
    unfold wpOpIn;simp only[xd.1];simp only[wpListIn]at h;split
    .rename_i n;simp only[n,if_true]at h;exact Oper.wpIn_mono l h
    .grind
theorem SB(E:∀g args d Hn,C g args d Hn->rT P g=true/\xL P G g args [] d Hn)(v:yn A=true)(r:xB A ord=true){D:Option Nat}{m:Nat}{Q:Exit->Act->World->Prop}{ms:List Nat}{f':gD}{H':U}{lasts:List mD}{ops:List Oper}
  (y:∀q∈lasts,∀k,k<q.k->k∈ord.getD q.k []) (z:lasts.map (λq=>A[q.k]?)=ops.map some) :
  ∀(fuel:Nat) (rem:List mD) (b:Array Bool) (c:Ctx) (w:World) (f:gD) (H:U) (a:Act),rem.length=fuel->Left A ord (rem++lasts) b->SX G N c w f H ms a->Tx C f H rem f' H' ->
   (∀e∈rem,∃o,A[e.k]? = some o/\vw P G N A o=some e.e) ->
   (∀p∈rem,∀q∈rem,p.k<q.k->p.k∈ord.getD q.k []\/(xH p.e q.e=true/\u4 p.rc q.rc=true)) ->
   (∀c' w' s,SX G N c' w' f' H' ms s->Step H.length c H w c' H' w'->wpListIn (FW D) m P A Q ops s w')->wpAnyIn (FW D) m P .any A Q (fuel+lasts.length) b a w
 | 0,rem,b,c,w,f,H,a,hl,me,hs,ht,_,_,hQ=>by have:rem = []:=bg hl;subst this;cases ht;rw[aM];exact SC v r lasts ops b a w me y z (hQ c w a hs (Step.refl _ _ _ _))
 | fuel+1,rem,b,c,w,f,H,a,hl,me,hs,ht,wY,Ft,hQ=>by
  have F:∀q∈rem,∀l∈lasts,q.k<l.k:=λq j l hl=>(bI.1 me.sorted).2.2 q j l hl;rw[show fuel+1+lasts.length=(fuel+lasts.length)+1 by omega];refine⟨λh0=>?_,λi hi=>?_⟩
  .cases rem with
   | nil=>cases hl
   | cons e rem=>
    have:=QW (rem:=rem++lasts) v me;rw[h0]at this;cases this
  .obtain⟨h1,o,L,_⟩:=mem_ready.1 hi;obtain⟨e,u,rfl⟩:=(me.iff i (aL.1 L).1).1 h1
   have u:e∈rem:=by
    rcases List.mem_append.1 u with h|h
    .exact h
    .cases rem with
     | nil=>cases hl
     | cons q rem=>exact absurd (y e h q.k (F q (by simp) e h)) (My r me hi (q:=q) (by simp))
   obtain⟨pre,post,rfl⟩:=List.append_of_mem u;have x:Left A ord (pre++e::(post++lasts)) b:=by simpa using me
   have T:∀p∈pre,xH p.e e.e=true/\u4 p.rc e.rc=true:=by
    intro p n;have O:p.k<e.k:=(bI.1 x.sorted).2.2 p n e (by simp);rcases Ft p (bz _ n) e (by simp) O with h|h
    .exact absurd h (My r x hi (bz _ n))
    .exact h
   obtain⟨d,δ,K,J⟩:=ht.front T;obtain⟨o',V,W⟩:=wY e (by simp);have t:∀q∈pre++post,q∈pre++e::post:=λq j=>(dy (dK e post) pre).subset j;refine TE E hs V W K λc' w' s M R=>?_;refine SB E v r y z fuel (pre++post) _ c' w' _ _ s (by simp at hl ⊢;omega) (by simpa using Qc r x hi) M J (λq j=>wY q (t q j)) (λp n q j=>Ft p (t p n) q (t q j)) λc2 w2 S I B=>?_;rw[SF]at B;exact hQ c2 w2 S I (R.trans B (Nat.le_refl _))
end
end Go.AL
namespace Go.AL
open Go
abbrev room(k:Nat):U:=List.replicate k .lu
section
variable{f:gD}{H:U}{r:Nat}
theorem La(v:Nat)(o:Ob)(a:o≠.lu):(H++room r)[v]? = some o↔H[v]? = some o:=by grind
theorem Q7(v:Nat):rowsOf (H++room r) v=rowsOf H v:=by
 unfold rowsOf
 cases h:H[v]? with
 | none=>
  cases a:(H++room r)[v]? with
  | none=>rfl
  | some o=>
   cases o<;>first|rfl|skip
   rw[La v _ (by simp)]at a;rw[h]at a;cases a
 | some o=>
  have:(H++room r)[v]? = some o:=by grind
  rw[this]
theorem zg(v g:Nat):rowAt (H++room r) v g=rowAt H v g:=by rw[zh,zh,Q7]
theorem Qo(v:Nat):kY (H++room r) v=kY H v:=by
 unfold kY
 cases h:H[v]? with
 | none=>
  cases a:(H++room r)[v]? with
  | none=>rfl
  | some o=>
   cases o<;>first|rfl|skip
   rw[La v _ (by simp)]at a;rw[h]at a;cases a
 | some o=>
  have:(H++room r)[v]? = some o:=by grind
  rw[this]
theorem Ru(sz:Nat)(d:D):ko sz (H++room r) d=ko sz H d:=by
 cases d<;>first|rfl|skip
 simp only[ko,zg]
theorem Zk(n:Nat)(op:iu):gv f (H++room r) n op=gv f H n op:=by
 cases op<;>simp only[gv]<;>first|rfl|skip
 case ld1=>simp only[vW,zg]
 case ldN=>simp only[uW,zg]
 case st1=>simp only[Bs,zg]
 case stN=>simp only[Bt,zg]
 case lookup=>simp only[AZ,Qo]
 case mapUpd=>simp only[y6,Qo]
 case len=>simp only[mM,Qo]
 case b2s=>simp only[BW,Ru]
 case app=>simp only[rN,Ru,zg]
 case copy=>simp only[yl,Ru,zg]
 case slcArr=>simp only[zl,zg]
theorem Gw(k:Nat)(d:D):gZ (H++room r) k d=gZ H k d/\fL (λ_=>none) (H++room r) k d=fL (λ_=>none) H k d:=
 Gv (H1:=H) (H2:=H++room r) k d λv _=>(Q7 v).symm
theorem K7(op:iu):gA f (H++room r) op=gA f H op:=by
 have key:∀args:List D,args.map (gZ (H++room r) 40)=args.map (gZ H 40):=λargs=>ak λd _=>(Gw 40 d).1;cases op<;>first|rfl|skip
 case call g args=>simp only[gA,key]
 case callN g args=>simp only[gA,key]
 case callv g args=>simp only[gA,key]
 case len k x=>cases k<;>rfl
theorem X'{v g:Nat}{x:TypeId×List D}(h:rowAt H v g=some x):v<H.length:=(ae.1 (GC h)).1
theorem aeW{v:Nat}{x:KK×List (Value×D)}(h:kY H v=some x):v<H.length:=(ae.1 (s6 h)).1
def Safe(H:U):Dl->Prop
 | .no=>True
 | .cells v o xs=>∃t g cs,H[v]? = some (.row t g cs)/\o+xs.length<=cs.length
 | .obj v _=>v<H.length
 | .new _=>True
theorem Zl{op:iu}{n:Nat}{d:D}{δ:Dl}(h:gv f H n op=some (d,δ)):Safe H δ:=by
 have hl:∀ {o:Option D},lift o=some (d,δ)->Safe H δ:=λh=>by rw[(lY h).2];trivial
 cases op<;>simp only[gv]at h<;>first|exact hl h|(cases h;done)|skip
 case box=>unfold sB at h;split at h<;>cases h;trivial
 case alloc=>cases h;trivial
 case mkmap=>cases h;trivial
 case buildSl=>
  unfold x9 at h;split at h
  .split at h<;>cases h;trivial
  .cases h
 case mksl=>
  unfold C7 at h;split at h
  .split at h<;>cases h;trivial
  .cases h
 case st1=>
  unfold Bs at h;split at h
  .split at h
   .rename_i v g o _ t cs a;split at h
    .rename_i c;cases h;exact⟨_,_,_,GC a,by simp;omega⟩
    .cases h
   .cases h
  .cases h
 case stN=>
  unfold Bt at h;split at h
  .split at h
   .rename_i v g o xs _ _ t cs a;split at h
    .rename_i c;cases h;exact⟨_,_,_,GC a,by simp;omega⟩
    .cases h
   .cases h
  .cases h
 case mapUpd=>
  unfold y6 at h;split at h
  .split at h
   .rename_i b;split at h
    .cases h;exact aeW b
    .cases h
   .cases h
  .cases h
 case app=>
  unfold rN at h;split at h
  .split at h
   .split at h
    .rename_i a;split at h
     .cases h;exact X' a
     .cases h
    .cases h
   .split at h
    .cases h;trivial
    .cases h
   .split at h
    .cases h;trivial
    .split at h
     .cases h;trivial
     .cases h
   .cases h
  .cases h
 case copy=>
  unfold yl at h;split at h
  .split at h
   .rename_i a;split at h
    .cases h;exact X' a
    .cases h
   .cases h
  .cases h;trivial
  .cases h
theorem Nr{δ:Dl}(hs:Safe H δ)(k:Nat)(c:(δ.app H (Al.last H)).length<=k) :
  kQ H.length δ (H++room (k-H.length))=δ.app H (Al.last H)++room (k-(δ.app H (Al.last H)).length)/\Fits H.length δ (H++room (k-H.length)):=by
 cases δ with
 | no=>exact⟨rfl,trivial⟩
 | cells v o xs=>
  obtain⟨t,g,cs,h1,d⟩:=hs;have b:=(ae.1 h1).1;have a:(H++room (k-H.length))[v]? = some (.row t g cs):=by rw[ah b];exact h1
  refine⟨?_,t,g,cs,a,d⟩;simp only[kQ,Dl.app,a,h1,aF];rw[bn _ _ b]
 | obj v ob=>
  refine⟨?_,trivial⟩;simp only[kQ,Dl.app,aF];rw[bn _ _ hs]
 | new ob=>
  simp only[Dl.app,Al.last,au,aG,cM,aM]at c ⊢;have e:k-H.length=(k-(H.length+1))+1:=by omega
  refine⟨?_,?_⟩
  .simp only[kQ,Dl.app,Al.lu];rw[e,room,bt,dW _ _ (Nat.le_refl _)];simp[aI]
  .show(H++room (k-H.length))[H.length]? = some .lu;rw[e,ai (Nat.le_refl _)];simp[bt]
end
section
variable{G:GT}{c:Ctx}{w:World}{H:U}
theorem L7{r v:Nat}{L:Loc}:lB c (H++room r) v L↔lB c H v L:=by
 constructor
 .rintro⟨o,b,a,d⟩;rw[La v o (by rintro rfl;cases a)]at b;exact⟨o,b,a,d⟩
 .rintro⟨o,b,a,d⟩;exact⟨o,(La v o (by rintro rfl;cases a)).2 b,a,d⟩
theorem QK{r b:Nat}:lN c (H++room r) b↔lN c H b:=by
 constructor
 .rintro⟨v,L,hl,r⟩;exact⟨v,L,L7.1 hl,r⟩
 .rintro⟨v,L,hl,r⟩;exact⟨v,L,L7.2 hl,r⟩
theorem X7(h:gf G c H w)(r:Nat):gf G c (H++room r) w where
 inj v v' L L' h1 h2:=h.inj v v' L L' (L7.1 h1) (L7.1 h2)
 lt b hb:=h.lt b (QK.1 hb)
 nF b hb:=h.nF b (QK.1 hb)
 ki:=h.ki
 out v k a:=h.out v k (by simp at a;omega)
 l7 v o k ho hk:=by
  rcases bw v H.length with a|a
  .rw[ah a]at ho;exact h.l7 v o k ho hk
  .exact h.out v k a
 ob v o ho:=by
  rcases bw v H.length with a|a
  .rw[ah a]at ho;exact h.ob v o ho
  .rw[ai a,List.getElem?_replicate]at ho;split at ho
   .cases ho;simp only[gK];exact h.out v _ a
   .cases ho
 gl:=h.gl
 rt:=h.rt
theorem X8(r n:Nat):Step n c H w c (H++room r) w:=
 ⟨⟨rfl,Nat.le_refl _⟩,rfl,rfl,Nat.le_refl _,rfl,λ_ h=>h,λ_ h=>.inl h,λ_ _ _=>rfl,λ_ _ _ _ h=>h,λ_ h=>.inr (QK.1 h)⟩
