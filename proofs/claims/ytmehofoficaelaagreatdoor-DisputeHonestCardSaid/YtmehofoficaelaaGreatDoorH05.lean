/- Part 5 of DisputeHonest. -/
import Derived.Test.YtmehofoficaelaaGreatDoorH04
set_option linter.all false
namespace Go.AL
open Go
section
variable{P:Program}{G:GT}{c c2:Ctx}{H Hn:U}{w w2:World}{N:Nat}
theorem lD{ds:List D}(h:fR ds=true):∀d∈ds,closed d=true:=λd a=>by obtain⟨i,hi⟩:=aA.1 a;exact v7 h hi
theorem pj{ρ:Nat->Option Nat}{k:Nat}{d:D}(h:closed d=true):fy ρ H k d=d:=by cases k<;>(unfold fy;simp[h])
def Ctx.join(c c2:Ctx)(n:Nat)(F:Nat->Prop):Ctx where
 ι:=λv g=>if v<n then c.ι v g else c2.ι (v-n) g
 F:=F
 RT:=c.RT
theorem Fi{F:Nat->Prop}{v:Nat}{L:Loc}(h:kX (c.join c2 H.length F) (H++Hn) v L):(v<H.length/\kX c H v L)\/(H.length<=v/\kX c2 Hn (v-H.length) L):=by
 obtain⟨o,b,e,d⟩:=h;rcases bw v H.length with a|a
 .rw[ah a]at b;simp only[Ctx.join,if_pos a]at d;exact .inl ⟨a,o,b,e,d⟩
 .rw[ai a]at b;simp only[Ctx.join,if_neg (ff.2 a)]at d;exact .inr ⟨a,o,b,e,d⟩
structure xA(G:GT)(c c2:Ctx)(H Hn:U)(w w2:World)(F:Nat->Prop):Prop where
 ft:fO G c H w
 mw:fO G c2 Hn w2
 oK:jy w w2
 fresh:∀b,lz c2 Hn b->w.heap.size<=b
 le:∀b,c.F b->F b
 lt:∀b,F b->b<w2.heap.size
 n1:∀b,F b->¬lz c H b
 n2:∀b,F b->¬lz c2 Hn b
 new:∀b,F b->c.F b\/w.heap.size<=b
 rows:∀(v:Nat) (o:Ob),Hn[v]? = some o->∃t g cs,o = .row t g cs/\∀d∈cs,∀u,fr c2 w2 u d->fr (c.join c2 H.length F) w2 u d
variable{F:Nat->Prop}
theorem VE(j:xA G c c2 H Hn w w2 F){u:Value}{d:D}(h:fr c w u d):fr (c.join c2 H.length F) w2 u d:=by
 refine h.carry (λv k L a=>?_) j.le (λb o f=>DP (j.oK.kept b (j.ft.jX b f)))
 have e:v<H.length:=by
  rcases bw v H.length with h|h
  .exact h
  .rw[j.ft.out v k h]at a;cases a
 simp only[Ctx.join,if_pos e];exact a
theorem Lv(j:xA G c c2 H Hn w w2 F):fO G (c.join c2 H.length F) (H++Hn) w2 where
 inj v v' L L' h1 p n m he:=by
  rcases Fi h1 with⟨a,b⟩|⟨a,b⟩<;>rcases Fi p with⟨D,q⟩|⟨D,q⟩
  .exact j.ft.inj v v' L L' b q n m he
  .have:=j.ft.lt _ ⟨v,L,b,n,rfl⟩;have:=j.fresh _ ⟨_,L',q,m,rfl⟩;omega
  .have:=j.ft.lt _ ⟨v',L',q,m,rfl⟩;have:=j.fresh _ ⟨_,L,b,n,rfl⟩;omega
  .have:=j.mw.inj _ _ L L' b q n m he;omega
 lt b hb:=by
  obtain⟨v,L,hl,f,e⟩:=hb;rcases Fi hl with⟨_,hl⟩|⟨_,hl⟩
  .exact aI (j.ft.lt b ⟨v,L,hl,f,e⟩) j.oK.size
  .exact j.mw.lt b ⟨_,L,hl,f,e⟩
 nF b hb hF:=by
  obtain⟨v,L,hl,f,e⟩:=hb;rcases Fi hl with⟨_,hl⟩|⟨_,hl⟩
  .exact j.n1 b hF ⟨v,L,hl,f,e⟩
  .exact j.n2 b hF ⟨_,L,hl,f,e⟩
 jX b hb:=j.lt b hb
 out v k f:=by simp only[ar]at f;simp only[Ctx.join,if_neg (show¬v<H.length by omega)];exact j.mw.out _ k (by omega)
 lO v o k ho hk:=by
  rcases bw v H.length with f|f
  .rw[ah f]at ho;simp only[Ctx.join,if_pos f];exact j.ft.lO v o k ho hk
  .rw[ai f]at ho;simp only[Ctx.join,if_neg (ff.2 f)];exact j.mw.lO _ o k ho hk
 ob v o ho:=by
  rcases bw v H.length with f|f
  .rw[ah f]at ho;simp only[Ctx.join,if_pos f];exact gA.keep (c:=c) (c':=c.join c2 H.length F) rfl (λ_ _ h=>VE j h) (λl hl A r=>j.oK.kept _ (j.ft.lt _ ⟨v,l,⟨o,ho,r,hl⟩,A,rfl⟩)) (j.ft.ob v o ho)
  .rw[ai f]at ho;simp only[Ctx.join,if_neg (ff.2 f)];have h0:=j.mw.ob _ o ho;obtain⟨t,g,cs,rfl,C⟩:=j.rows _ o ho;simp only[Ob.gen]at h0 ⊢
   cases u:c2.ι (v-H.length) g with
   | none=>rw[u]at h0;simp[gA]at h0
   | some L=>
    rw[u]at h0;simp only[gA]at h0 ⊢;split
    .grind
    .rename_i y;simp only[y]at h0;obtain⟨s,h1,p,n,m⟩:=h0;refine⟨s,h1,p,n,λi d r=>?_⟩;obtain⟨x,z,B,E⟩:=m i d r;exact⟨x,z,B,C d (List.mem_of_getElem? r) _ E⟩
 gl g cs hg:=by obtain⟨h1,p⟩:=j.ft.gl g cs hg;exact⟨h1,VE j p⟩
 rt:=j.ft.rt
theorem Lw(j:xA G c c2 H Hn w w2 F):Step H.length c H w (c.join c2 H.length F) (H++Hn) w2 where
 os:=j.oK.os
 tape:=j.oK.tape
 output:=j.oK.output
 size:=j.oK.size
 RT:=rfl
 Fm b hb:=j.le b hb
 Fn b hb:=(j.new b hb).imp id .inl
 kept b hb _:=j.oK.kept b hb
 old v k L a h:=by simp only[Ctx.join,if_pos a];exact h
 own b hb:=by
  obtain⟨v,L,hl,a,e⟩:=hb;rcases Fi hl with⟨_,hl⟩|⟨_,hl⟩
  .exact .inr ⟨v,L,hl,a,e⟩
  .exact .inl (j.fresh b ⟨_,L,hl,a,e⟩)
theorem L9(j:xA G c c2 H Hn w w2 F){p:D->Bool}(m:∀d u,p d=true->fr c2 w2 u d->fr (c.join c2 H.length F) w2 u d){u:Value}{r:D}
  (b:fr c2 w2 u r) (h:vD p r=true):fr (c.join c2 H.length F) w2 u (jQ H.length r):=by
 have n:∀v g sz off len u,fr c2 w2 u (.fm v g sz off len)->fr (c.join c2 H.length F) w2 u (.fm (v+H.length) g sz off len):=by
  intro v g sz off len u b
  cases b with
  | fm _ _ _ _ _ cap L l k q s o=>exact .fm _ g sz off len cap L (by simp only[Ctx.join];rw[if_neg (by omega),Nat.add_sub_cancel];exact l) k q s o
  | lJ _ _ _ _ L l a=>exact .lJ _ g sz off L (by simp only[Ctx.join];rw[if_neg (by omega),Nat.add_sub_cancel];exact l) a
 have h1:∀(d:D) (u:Value),w9 p d=true->fr c2 w2 u d->fr (c.join c2 H.length F) w2 u (wW H.length d):=by intro d u e b;cases d<;>first|exact n _ _ _ _ _ _ b|exact m _ _ e b
 cases r with
 | tup ds=>
  cases b with
  | tup vs _ hl sB=>
   simp only[jQ];refine .tup vs _ (by simpa using hl) λi v d k e=>?_;simp only[aq,aj]at e;obtain⟨d0,f,rfl⟩:=e;exact h1 d0 v (List.all_eq_true.1 h d0 (List.mem_of_getElem? f)) (sB i v d0 k f)
 | agg ds=>
  cases b with
  | agg vs _ hl t sB=>
   simp only[jQ];refine .agg vs _ (by simpa using hl) t λi v d k e=>?_;simp only[aq,aj]at e;obtain⟨d0,f,rfl⟩:=e;exact h1 d0 v (List.all_eq_true.1 h d0 (List.mem_of_getElem? f)) (sB i v d0 k f)
 | fm v g sz off len=>exact n _ _ _ _ _ _ b
 | _=>exact m _ _ h b
def Ctx.data(c:Ctx)(F:Nat->Prop):Ctx where
 ι:=λ_ _=>none
 F:=F
 RT:=c.RT
theorem J8(h:fO G c H w):fO G (c.data c.F) [] w where
 inj v v' L L' h1:=by obtain⟨o,a,_⟩:=h1;simp at a
 lt b d:=by obtain⟨v,L,⟨o,a,_⟩,_⟩:=d;simp at a
 nF b d:=by obtain⟨v,L,⟨o,a,_⟩,_⟩:=d;simp at a
 jX b d:=h.jX b d
 out _ _ _:=rfl
 lO _ _ _ _ _:=rfl
 ob v o a:=by simp at a
 gl g cs hg:=by obtain⟨h1,e⟩:=h.gl g cs hg;exact⟨h1,fr.closed (c:=c) (c':=c.data c.F) (λb d=>d) e (by simpa[AL.closed]using h1)⟩
 rt:=h.rt
theorem sM{c:Ctx}{b:Nat}:¬lz c [] b:=by rintro⟨v,L,⟨o,a,_⟩,_⟩;simp at a
theorem zy{n:Nat}{c:Ctx}(hs:Step n c [] w c2 Hn w2):jy w w2:=
 ⟨hs.os,hs.tape,hs.output,hs.size,λb a=>hs.kept b a sM⟩
theorem SH(h:Hn.all nb=true){v:Nat}{o:Ob}(a:Hn[v]? = some o):∃t g cs,o = .row t g cs/\∀d∈cs,closed d=true:=by
 have:=List.all_eq_true.1 h o (List.mem_of_getElem? a);cases o<;>simp only[nb]at this<;>first|cases this;done|skip
 exact⟨_,_,_,rfl,lD this⟩
theorem TU(h:Hn.all oJ=true){v:Nat}{o:Ob}(a:Hn[v]? = some o):∃t g cs,o = .row t g cs/\∀d∈cs,flat d=true:=by
 have:=List.all_eq_true.1 h o (List.mem_of_getElem? a);cases o<;>simp only[oJ]at this<;>first|cases this;done|skip
 refine⟨_,_,_,rfl,λd b=>?_⟩;obtain⟨i,hi⟩:=aA.1 b;exact BJ this hi
def xk(P:Program)(G:GT)(f:FuncId)(args:List D)(H:U)(d:D)(H':U):Prop:=
 ∀(c:Ctx) (w:World) (vs:List Value),fO G c H w->iR c w vs args ->
  Calls P f vs.toArray w λe w'=>∃v c',e = .returned v/\fO G c' H' w'/\fr c' w' v d/\Step H.length c H w c' H' w'
def tE(P:Program)(G:GT)(f:FuncId)(args:List D)(H:U)(R:D->U->Prop):Prop:=
 ∀(c:Ctx) (w:World) (vs:List Value),fO G c H w->iR c w vs args ->
  Calls P f vs.toArray w λe w'=>∃v c' d H',e = .returned v/\R d H'/\H.length<=H'.length/\fO G c' H' w'/\fr c' w' v d/\Step H.length c H w c' H' w'
theorem tE.one{f:FuncId}{args:List D}{H:U}{R:D->U->Prop}{d:D}{H':U}(h:tE P G f args H R)(h1:∀d' Hn,R d' Hn->d'=d/\Hn=H'):xk P G f args H d H':=
 λc w vs i g=>(h c w vs i g).mono λ_ _ ⟨v,c',_,_,j,k,_,a,b,e⟩=>by grind
theorem QO:fy (λ_=>none) H 40=fy (gX []) H 40:=rfl
theorem iR.map{c c':Ctx}{f:D->D}(b:∀v d,fr c w v d->fr c' w v (f d)){vs:List Value}{ds:List D}(h:iR c w vs ds):iR c' w vs (ds.map f):=by
 induction h with
 | nil=>exact .nil
 | cons h _ a=>exact .cons (b _ _ h) a
theorem W4(ft:fO G c H w){f:FuncId}{vs:List Value}{args:List D}{d:D}(E:iR c w vs args)(y:xk P G f (args.map (fy (λ_=>none) H 40)) [] d Hn)
  (m:(if fR args then ma d&&Hn.all nb else nO d&&Hn.all oJ)=true) :
  Calls P f vs.toArray w λe w'=>∃v c',e = .returned v/\fO G c' (H++Hn) w'/\fr c' w' v (jQ H.length d)/\Step H.length c H w c' (H++Hn) w':=by
 by_cases s:fR args=true
 .rw[if_pos s]at m;simp only[Bool.and_eq_true]at m
  have e:args.map (fy (λ_=>none) H 40)=args:=by
   conv=>rhs;rw[<-aS args]
   exact ao λd l=>pj (lD s d l)
  rw[e]at y
  have z:iR (c.data c.F) w vs args:=by
   clear y m e
   induction E with
   | nil=>exact .nil
   | cons h _ I=>
    simp only[fR,Bool.and_eq_true]at s;exact .cons (fr.closed (c:=c) (c':=c.data c.F) (λb a=>a) h s.1) (I s.2)
  refine(y _ w vs (J8 ft) z).mono ?_;rintro e w' ⟨v,c2,C,x,B,n⟩;have hg:=zy n
  have F:∀b,c2.F b->c.F b\/w.heap.size<=b:=λb a=>by
   rcases n.Fn b a with h|h|h
   .exact .inl h
   .exact .inr h
   .exact absurd h sM
  have j:xA G c c2 H Hn w w' c2.F:={
   ft:=ft
   mw:=x
   oK:=hg
   fresh:=λb a=>by
    rcases n.own b a with h|h
    .exact h
    .exact absurd h sM
   le:=λb a=>n.Fm b a
   lt:=x.jX
   n1:=λb a k=>by
    rcases F b a with h|h
    .exact ft.nF b k h
    .have:=ft.lt b k;omega
   n2:=λb a k=>x.nF b k a
   new:=F
   rows:=λv o k=>by
    obtain⟨t,g,cs,rfl,A⟩:=SH m.2 k
    exact⟨t,g,cs,rfl,λd l u r=>fr.closed (c:=c2) (c':=c.join c2 H.length c2.F) (λb a=>a) r (A d l)⟩ }
  exact⟨v,_,C,Lv j,L9 j (p:=AL.closed) (λd u l r=>fr.closed (c:=c2) (c':=c.join c2 H.length c2.F) (λb a=>a) r l) B m.1,Lw j⟩
 .rw[if_neg s]at m;simp only[Bool.and_eq_true]at m
  have z:iR (c.fy [] H) w vs (args.map (fy (λ_=>none) H 40)):=E.map λv d h=>by rw[QO];exact yJ ft 40 h
  have K:fO G (c.fy [] H) [] w:=CP (ks:=[]) ft (λi j p q J=>by simp at J);refine(y _ w vs K z).mono ?_;rintro e w' ⟨v,c2,C,x,B,n⟩;have hg:=zy n
  have j:xA G c c2 H Hn w w' c.F:={
   ft:=ft
   mw:=x
   oK:=hg
   fresh:=λb a=>by
    rcases n.own b a with h|h
    .exact h
    .exact absurd h sM
   le:=λb a=>a
   lt:=λb a=>aI (ft.jX b a) hg.size
   n1:=λb a k=>ft.nF b k a
   n2:=λb a k=>by
    rcases n.own b k with h|h
    .have:=ft.jX b a;omega
    .exact absurd h sM
   new:=λb a=>.inl a
   rows:=λv o k=>by
    obtain⟨t,g,cs,rfl,A⟩:=TU m.2 k
    exact⟨t,g,cs,rfl,λd l u r=>fr.flat r (A d l)⟩ }
  exact⟨v,_,C,Lv j,L9 j (p:=AL.flat) (λd u l r=>fr.flat r l) B m.1,Lw j⟩
theorem ajo(ft:fO G c H w){f:FuncId}{vs:List Value}{args:List D}{R:D->U->Prop}(F:iR c w vs args)(z:tE P G f (args.map (fy (λ_=>none) H 40)) [] R)
  (l:∀d Hn,R d Hn->(if fR args then ma d&&Hn.all nb else nO d&&Hn.all oJ)=true) :
  Calls P f vs.toArray w λe w'=>∃v c' d Hn,e = .returned v/\R d Hn/\fO G c' (H++Hn) w'/\fr c' w' v (jQ H.length d)/\Step H.length c H w c' (H++Hn) w':=by
 by_cases s:fR args=true
 .simp only[if_pos s,Bool.and_eq_true]at l
  have e:args.map (fy (λ_=>none) H 40)=args:=by
   conv=>rhs;rw[<-aS args]
   exact ao λd m=>pj (lD s d m)
  rw[e]at z
  have A:iR (c.data c.F) w vs args:=by
   clear z l e
   induction F with
   | nil=>exact .nil
   | cons h _ J=>
    simp only[fR,Bool.and_eq_true]at s;exact .cons (fr.closed (c:=c) (c':=c.data c.F) (λb a=>a) h s.1) (J s.2)
  refine(z _ w vs (J8 ft) A).mono ?_;rintro e w' ⟨v,c2,d,Hn,E,x,_,y,C,n⟩;have l:=l d Hn x;have hg:=zy n
  have I:∀b,c2.F b->c.F b\/w.heap.size<=b:=λb a=>by
   rcases n.Fn b a with h|h|h
   .exact .inl h
   .exact .inr h
   .exact absurd h sM
  have j:xA G c c2 H Hn w w' c2.F:={
   ft:=ft
   mw:=y
   oK:=hg
   fresh:=λb a=>by
    rcases n.own b a with h|h
    .exact h
    .exact absurd h sM
   le:=λb a=>n.Fm b a
   lt:=y.jX
   n1:=λb a k=>by
    rcases I b a with h|h
    .exact ft.nF b k h
    .have:=ft.lt b k;omega
   n2:=λb a k=>y.nF b k a
   new:=I
   rows:=λv o k=>by
    obtain⟨t,g,cs,rfl,B⟩:=SH l.2 k
    exact⟨t,g,cs,rfl,λd m u r=>fr.closed (c:=c2) (c':=c.join c2 H.length c2.F) (λb a=>a) r (B d m)⟩ }
  exact⟨v,_,d,Hn,E,x,Lv j,L9 j (p:=AL.closed) (λd u m r=>fr.closed (c:=c2) (c':=c.join c2 H.length c2.F) (λb a=>a) r m) C l.1,Lw j⟩
 .simp only[if_neg s,Bool.and_eq_true]at l
  have A:iR (c.fy [] H) w vs (args.map (fy (λ_=>none) H 40)):=F.map λv d h=>by rw[QO];exact yJ ft 40 h
  have L:fO G (c.fy [] H) [] w:=CP (ks:=[]) ft (λi j p q K=>by simp at K);refine(z _ w vs L A).mono ?_;rintro e w' ⟨v,c2,d,Hn,E,x,_,y,C,n⟩;have l:=l d Hn x;have hg:=zy n
  have j:xA G c c2 H Hn w w' c.F:={
   ft:=ft
   mw:=y
   oK:=hg
   fresh:=λb a=>by
    rcases n.own b a with h|h
    .exact h
    .exact absurd h sM
   le:=λb a=>a
   lt:=λb a=>aI (ft.jX b a) hg.size
   n1:=λb a k=>ft.nF b k a
   n2:=λb a k=>by
    rcases n.own b k with h|h
    .have:=ft.jX b a;omega
    .exact absurd h sM
   new:=λb a=>.inl a
   rows:=λv o k=>by
    obtain⟨t,g,cs,rfl,B⟩:=TU l.2 k
    exact⟨t,g,cs,rfl,λd m u r=>fr.flat r (B d m)⟩ }
  exact⟨v,_,d,Hn,E,x,Lv j,L9 j (p:=AL.flat) (λd u m r=>fr.flat r m) C l.1,Lw j⟩
def Ctx.nR(c c2:Ctx)(n:Nat)(F:Nat->Prop):Ctx where
 ι:=λv g=>if v=n then c2.ι 0 g else c.ι v g
 F:=F
 RT:=c.RT
theorem FU{n:Nat}{ob:Ob}(f:H[n]? = some .kR){F:Nat->Prop}{v:Nat}{L:Loc}(h:kX (c.nR c2 n F) (H.set n ob) v L):(v≠n/\kX c H v L)\/(v=n/\kX c2 [ob] 0 L):=by
 obtain⟨o,a,e,d⟩:=h;rw[qz (ae.1 f).1]at a
 by_cases b:v=n
 .subst b;rw[if_pos rfl]at a;cases a;simp only[Ctx.nR,if_true]at d;exact .inr ⟨rfl,ob,rfl,e,d⟩
 .rw[if_neg b]at a;simp only[Ctx.nR,if_neg b]at d;exact .inl ⟨b,o,a,e,d⟩
theorem ajn(ft:fO G c H w){f:FuncId}{vs:List Value}{args:List D}{d:D}{ob:Ob}{n:Nat}(A:iR c w vs args)(W:xk P G f (args.map (fy (λ_=>none) H 40)) [] d [ob])
  (J:(if fR args then ma d&&nb ob else nO d&&oJ ob)=true) (I:H[n]? = some .kR) :
  Calls P f vs.toArray w λe w'=>∃v c',e = .returned v/\fO G c' (H.set n ob) w'/\fr c' w' v (jQ n d)/\Step H.length c H w c' (H.set n ob) w':=by
 have gq:=(ae.1 I).1;have UI:∀k,c.ι n k=none:=λk=>ft.lO n _ k I (.inl rfl)
 have C:∀(c2:Ctx) (w':World) (v:Value) (F:Nat->Prop),fO G c2 [ob] w'->fr c2 w' v d->jy w w'->(∀b,lz c2 [ob] b->w.heap.size<=b)->(∀b,c.F b->F b)->(∀b,F b->b<w'.heap.size) ->
   (∀b,F b->¬lz c H b)->(∀b,F b->¬lz c2 [ob] b)->(∀b,F b->c.F b\/w.heap.size<=b)->∀(p:D->Bool),(∀d u,p d=true->fr c2 w' u d->fr (c.nR c2 n F) w' u d)->vD p d=true ->
   (∃t g cs,ob = .row t g cs/\∀d∈cs,p d=true) ->
   fO G (c.nR c2 n F) (H.set n ob) w'/\fr (c.nR c2 n F) w' v (jQ n d)/\Step H.length c H w (c.nR c2 n F) (H.set n ob) w':=by
  intro c2 w' v F mw m hg OI S a4 a1 a0 lF p R y gD
  have carry:∀ {u:Value} {d:D},fr c w u d->fr (c.nR c2 n F) w' u d:=λh=>by
   refine h.carry (λv k L B=>?_) S (λb o K=>DP (hg.kept b (ft.jX b K)));have gK:v≠n:=λe=>by rw[e,UI]at B;cases B
   simp only[Ctx.nR,if_neg gK];exact B
  have EP:∀v g sz off len u,fr c2 w' u (.fm v g sz off len)->(v=0)->fr (c.nR c2 n F) w' u (.fm (v+n) g sz off len):=by
   intro v g sz off len u A h0;subst h0
   cases A with
   | fm _ _ _ _ _ cap L M m jv iB lP=>exact .fm _ g sz off len cap L (by simp only[Ctx.nR,aL,if_true];exact M) m jv iB lP
   | lJ _ _ _ _ L M a=>exact .lJ _ g sz off L (by simp only[Ctx.nR,aL,if_true];exact M) a
  have hz:∀v g sz off len u,fr c2 w' u (.fm v g sz off len)->v=0:=by
   intro v g sz off len u A
   have:∃L,c2.ι v g=some L:=by
    cases A with
    | fm _ _ _ _ _ cap L M=>exact⟨L,M⟩
    | lJ _ _ _ _ L M=>exact⟨L,M⟩
   obtain⟨L,B⟩:=this;rcases eu v with h|h
   .exact h
   .rw[mw.out v g (by show 1<=v;exact h)]at B;cases B
  have h1:∀(d:D) (u:Value),w9 p d=true->fr c2 w' u d->fr (c.nR c2 n F) w' u (wW n d):=by intro d u y A;cases d<;>first|exact EP _ _ _ _ _ _ A (hz _ _ _ _ _ _ A)|exact R _ _ y A
  refine⟨{
   inj:=λv v' L L' h1 z V U T=>by
    rcases FU I h1 with⟨a,b⟩|⟨a,b⟩<;>rcases FU I z with⟨a',X⟩|⟨a',X⟩
    .exact ft.inj v v' L L' b X V U T
    .have:=ft.lt _ ⟨v,L,b,V,rfl⟩;have:=OI _ ⟨_,L',X,U,rfl⟩;omega
    .have:=ft.lt _ ⟨v',L',X,U,rfl⟩;have:=OI _ ⟨_,L,b,V,rfl⟩;omega
    .rw[a,a']
   lt:=λb r=>by
    obtain⟨v,L,hl,m,e⟩:=r;rcases FU I hl with⟨_,hl⟩|⟨_,hl⟩
    .exact aI (ft.lt b ⟨v,L,hl,m,e⟩) hg.size
    .exact mw.lt b ⟨_,L,hl,m,e⟩
   nF:=λb r K=>by
    obtain⟨v,L,hl,m,e⟩:=r;rcases FU I hl with⟨_,hl⟩|⟨_,hl⟩
    .exact a1 b K ⟨v,L,hl,m,e⟩
    .exact a0 b K ⟨_,L,hl,m,e⟩
   jX:=a4
   out:=λv k m=>by simp only[aF]at m;simp only[Ctx.nR,if_neg (show¬v=n by omega)];exact ft.out _ k m
   lO:=λv o k s hk=>by
    rw[qz gq]at s
    by_cases m:v=n
    .subst m;rw[if_pos rfl]at s;cases s;simp only[Ctx.nR,if_true];exact mw.lO 0 _ k rfl hk
    .rw[if_neg m]at s;simp only[Ctx.nR,if_neg m];exact ft.lO v o k s hk
   ob:=λv o s=>by
    rw[qz gq]at s
    by_cases m:v=n
    .subst m;rw[if_pos rfl]at s;cases s;simp only[Ctx.nR,if_true];have h0:=mw.ob 0 _ rfl;obtain⟨t,g,cs,rfl,iQ⟩:=gD;simp only[Ob.gen]at h0 ⊢
     cases B:c2.ι 0 g with
     | none=>rw[B]at h0;simp[gA]at h0
     | some L=>
      rw[B]at h0;simp only[gA]at h0 ⊢;split
      .grind
      .rename_i nk;simp only[nk]at h0;obtain⟨a3,h1,z,V,U⟩:=h0;refine⟨a3,h1,z,V,λi d y=>?_⟩;obtain⟨x,kU,jV,Ai⟩:=U i d y;exact⟨x,kU,jV,R d _ (iQ d (List.mem_of_getElem? y)) Ai⟩
    .rw[if_neg m]at s;simp only[Ctx.nR,if_neg m];exact gA.keep (c:=c) (c':=c.nR c2 n F) rfl (λ_ _ h=>carry h) (λl hl kS y=>hg.kept _ (ft.lt _ ⟨v,l,⟨o,s,y,hl⟩,kS,rfl⟩)) (ft.ob v o s)
   gl:=λg cs hg=>by obtain⟨h1,z⟩:=ft.gl g cs hg;exact⟨h1,carry z⟩
   rt:=ft.rt },?_,?_⟩
  .cases d with
   | tup ds=>
    cases m with
    | tup vs _ hl sB=>
     simp only[jQ];refine .tup vs _ (by simpa using hl) λi v d m O=>?_;simp only[aq,aj]at O;obtain⟨d0,Q,rfl⟩:=O;exact h1 d0 v (List.all_eq_true.1 y d0 (List.mem_of_getElem? Q)) (sB i v d0 m Q)
   | agg ds=>
    cases m with
    | agg vs _ hl s sB=>
     simp only[jQ];refine .agg vs _ (by simpa using hl) s λi v d m O=>?_;simp only[aq,aj]at O;obtain⟨d0,Q,rfl⟩:=O;exact h1 d0 v (List.all_eq_true.1 y d0 (List.mem_of_getElem? Q)) (sB i v d0 m Q)
   | fm v g sz off len=>exact EP _ _ _ _ _ _ m (hz _ _ _ _ _ _ m)
   | _=>exact R _ _ y m
  .exact{
    os:=hg.os
    tape:=hg.tape
    output:=hg.output
    size:=hg.size
    RT:=rfl
    Fm:=S
    Fn:=λb r=>(lF b r).imp id .inl
    kept:=λb r _=>hg.kept b r
    old:=λv k L m h=>by
     have gK:v≠n:=λe=>by rw[e,UI]at h;cases h
     simp only[Ctx.nR,if_neg gK];exact h
    own:=λb r=>by
     obtain⟨v,L,hl,m,e⟩:=r;rcases FU I hl with⟨_,hl⟩|⟨_,hl⟩
     .exact .inr ⟨v,L,hl,m,e⟩
     .exact .inl (OI b ⟨_,L,hl,m,e⟩) }
 by_cases N:fR args=true
 .simp only[if_pos N,Bool.and_eq_true]at J
  have e:args.map (fy (λ_=>none) H 40)=args:=by
   conv=>rhs;rw[<-aS args]
   exact ao λd y=>pj (lD N d y)
  rw[e]at W
  have Y:iR (c.data c.F) w vs args:=by
   clear W J e
   induction A with
   | nil=>exact .nil
   | cons h _ ih=>
    simp only[fR,Bool.and_eq_true]at N;exact .cons (fr.closed (c:=c) (c':=c.data c.F) (λb r=>r) h N.1) (ih N.2)
  refine(W _ w vs (J8 ft) Y).mono ?_;rintro e w' ⟨v,c2,T,z,m,E⟩;have hg:=zy E
  have K:∀b,c2.F b->c.F b\/w.heap.size<=b:=λb r=>by
   rcases E.Fn b r with h|h|h
   .exact .inl h
   .exact .inr h
   .exact absurd h sM
  obtain⟨m1,m2,m3⟩:=C c2 w' v c2.F z m hg (λb r=>by
    rcases E.own b r with h|h
    .exact h
    .exact absurd h sM) (λb r=>E.Fm b r) z.jX (λb r s=>by
    rcases K b r with h|h
    .exact ft.nF b s h
    .have:=ft.lt b s;omega) (λb r s=>z.nF b s r) K AL.closed (λd u y Z=>fr.closed (c:=c2) (c':=c.nR c2 n c2.F) (λb r=>r) Z y) J.1 (by
    have:=J.2;cases ob<;>simp only[nb]at this<;>first|(cases this;done)|skip
    exact⟨_,_,_,rfl,lD this⟩)
  exact⟨v,_,T,m1,m2,m3⟩
 .simp only[if_neg N,Bool.and_eq_true]at J
  have Y:iR (c.fy [] H) w vs (args.map (fy (λ_=>none) H 40)):=A.map λv d h=>by rw[QO];exact yJ ft 40 h
  have EO:fO G (c.fy [] H) [] w:=CP (ks:=[]) ft (λi j p q R=>by simp at R);refine(W _ w vs EO Y).mono ?_;rintro e w' ⟨v,c2,T,z,m,E⟩;have hg:=zy E
  obtain⟨m1,m2,m3⟩:=C c2 w' v c.F z m hg (λb r=>by
    rcases E.own b r with h|h
    .exact h
    .exact absurd h sM) (λb r=>r) (λb r=>aI (ft.jX b r) hg.size) (λb r s=>ft.nF b s r) (λb r s=>by
    rcases E.own b s with h|h
    .have:=ft.jX b r;omega
    .exact absurd h sM) (λb r=>.inl r) AL.flat (λd u y Z=>fr.flat Z y) J.1 (by
    have:=J.2;cases ob<;>simp only[oJ]at this<;>first|(cases this;done)|skip
    refine⟨_,_,_,rfl,λd y=>?_⟩;obtain⟨i,hi⟩:=aA.1 y
    exact BJ this hi)
  exact⟨v,_,T,m1,m2,m3⟩
theorem ajJ{S:List Nat}{v:Nat}(c:v∈S):gX (lN H S) v=none:=by
 unfold gX lN;rw[dj];intro p b;obtain⟨u,_,rfl⟩:=au.1 b
 by_cases a:u=v
 .grind
 .simp[a]
theorem XR{v:Nat}:∀(k:Nat) (d:D),(∀u∈gN H k d,u=v)->AL.fy (gX (lN H [v])) H k d=AL.fy (λ_=>none) H k d
 | 0,d,_=>rfl
 | k+1,d,h=>by
  have i:gX (lN H [v]) v=none:=ajJ (by simp)
  have b:∀(ds:List D),(∀u∈(ds.map (gN H k)).flatten,u=v)->ds.map (AL.fy (gX (lN H [v])) H k)=ds.map (AL.fy (λ_=>none) H k):=λds o=>
   ao λd f=>XR k d λu a=>o u (aZ.2 ⟨_,au.2 ⟨d,f,rfl⟩,a⟩)
  unfold gN at h;unfold AL.fy
  by_cases r:AL.closed d=true
  .grind
  .simp only[if_neg r]at h ⊢
   cases d with
   | agg cs=>simp only[b cs h]
   | tup cs=>simp only[b cs h]
   | fH cs=>simp only[b cs h]
   | sl sz es=>
    have:es.map (λx=>x.map (AL.fy (gX (lN H [v])) H k))=es.map (λx=>x.map (AL.fy (λ_=>none) H k)):=ao λe q=>b e λu a=>h u (aZ.2 ⟨_,au.2 ⟨e,q,rfl⟩,a⟩);simp only[this]
   | fn g x y=>
    have h1:=b x λu a=>h u (bA _ a);have s:=b y λu a=>h u (bN _ a);simp only[h1,s]
   | fm u g sz off len=>
    have a:u=v:=h u (by simp);subst a;simp only[i]
    cases c:rowsOf H u with
    | none=>simp only[yN,c]
    | some p=>
     obtain⟨t,n,cs⟩:=p;simp only[yN,c]
     by_cases hg:n=g
     .simp only[hg,if_true]
      have:=b (cs.drop (off*sz)) λw m=>by obtain⟨l,hl,j⟩:=aZ.1 m;obtain⟨d,f,rfl⟩:=au.1 hl;exact h w (by simp only[c];exact aY _ (aZ.2 ⟨_,au.2 ⟨d,bz f,rfl⟩,j⟩))
      rw[this]
     .grind
   | ptr u g off=>
    have a:u=v:=h u (by simp);subst a;simp only[i]
    cases c:rowsOf H u with
    | none=>simp only[yN,c]
    | some p=>
     obtain⟨t,n,cs⟩:=p;simp only[yN,c]
     by_cases hg:n=g
     .simp only[hg,if_true]
      have:=b (cs.drop off) λw m=>by obtain⟨l,hl,j⟩:=aZ.1 m;obtain⟨d,f,rfl⟩:=au.1 hl;exact h w (by simp only[c];exact aY _ (aZ.2 ⟨_,au.2 ⟨d,bz f,rfl⟩,j⟩))
      rw[this]
     .grind
   | fV u=>
    have a:u=v:=h u (by simp);subst a;simp only[i]
   | iw u=>
    have a:u=v:=h u (by simp);subst a;simp only[i]
   | _=>rfl
theorem adJ(h:fO G c H w){v:Nat}{t:TypeId}{g:Nat}{cs:List D}(p:H[v]? = some (.row t g cs)) :
  ∃c',fO G c' (H.set v .dead) w/\Step H.length c H w c' (H.set v .dead) w/\(∀u d,fr c w u d->fr c' w u d)/\∀b,(c.fy (lN H [v]) H).F b->c'.F b:=by
 have C:=(ae.1 p).1
 have y:∀c':Ctx,(∀u k,c'.ι u k=c.ι u k)->∀u l,kX c' (H.set v .dead) u l->u≠v/\kX c H u l:=by
  rintro c' n u l ⟨o,i,E,hi⟩;rw[qz C]at i;split at i
  .cases i;cases E
  .rename_i m;exact⟨m,o,i,E,by rw[<-n];exact hi⟩
 let c':Ctx:={ c with F:=λb=>c.F b\/∃L,c.ι v g=some L/\L.jg=false/\L.b=b }
 have n:∀u k,c'.ι u k=c.ι u k:=λ_ _=>rfl;have A:∀u d,fr c w u d->fr c' w u d:=λu d R=>fr.carry (c:=c) (c':=c') (w:=w) (w':=w) (λ_ _ _ h=>h) (λb f=>Or.inl f) (λ_ _ _=>rfl) R;have J:∀b,lz c' (H.set v .dead) b->lz c H b:=λb ⟨u,l,hl,r⟩=>⟨u,l,(y c' n u l hl).2,r⟩
 refine⟨c',{
  inj:=λu O l Q h1 S=>h.inj u O l Q (y c' n _ _ h1).2 (y c' n _ _ S).2
  lt:=λb f=>h.lt b (J b f)
  nF:=λb f B=>by
   obtain⟨u,l,hl,M,e⟩:=f;obtain⟨m,K⟩:=y c' n u l hl;rcases B with B|⟨L,x,j,s⟩
   .exact h.nF b ⟨u,l,K,M,e⟩ B
   .exact m (h.inj u v l L K ⟨_,p,rfl,x⟩ M j (e.trans s.symm))
  jX:=λb f=>by
   rcases f with f|⟨L,x,j,s⟩
   .exact h.jX b f
   .exact s▸h.lt _ ⟨v,L,⟨_,p,rfl,x⟩,j,rfl⟩
  out:=λu k z=>h.out u k (by simpa using z)
  lO:=λu o k i q=>by
   rw[qz C]at i;split at i
   .cases i;rcases q with q|⟨q,_⟩<;>cases q
   .exact h.lO u o k i q
  ob:=λu o i=>by
   rw[qz C]at i;split at i
   .cases i;simp[gA]
   .exact gA.keep (c:=c) (c':=c') rfl A (λ_ _ _ _=>rfl) (h.ob u o i)
  gl:=λg cs hg=>let ⟨a,b⟩:=h.gl g cs hg;⟨a,A _ _ b⟩
  rt:=h.rt },?_,A,λb f=>?_⟩
 .exact{
   os:=⟨rfl,Nat.le_refl _⟩,tape:=rfl,output:=rfl,size:=Nat.le_refl _,RT:=rfl
   Fm:=λb f=>Or.inl f
   Fn:=λb f=>by
    rcases f with f|⟨L,x,j,s⟩
    .exact .inl f
    .exact .inr (.inr ⟨v,L,⟨_,p,rfl,x⟩,j,s⟩)
   kept:=λ_ _ _=>rfl
   old:=λ_ _ _ _ h=>h
   own:=λb f=>.inr (J b f) }
 .rcases f with f|⟨u,L,⟨o,i,E,I⟩,N,j,e⟩
  .exact .inl f
  .have z:u=v:=by
    by_cases m:u=v
    .exact m
    .exfalso;have P:=(ae.1 i).1
     have:gX (lN H [v]) u=some u:=QC T2 (by
      unfold lN
      simp[P,m])
     rw[this]at N;cases N
   subst z;rw[p]at i;cases i;exact .inr ⟨L,I,j,e⟩
theorem ajm(ft:fO G c H w){f:FuncId}{vs:List Value}{args:List D}{d:D}{v:Nat}(o:iR c w vs args)(hS:∀u∈(args.map (gN H 40)).flatten,u=v)(m:(rowsOf H v).isSome=true)
  (n:xk P G f (args.map (AL.fy (λ_=>none) H 40)) [] d []) (j:fR (args.map (AL.fy (λ_=>none) H 40))=true) (a:AL.closed d=true) :
  Calls P f vs.toArray w λe w'=>∃u c',e = .returned u/\fO G c' (H.set v .dead) w'/\fr c' w' u d/\Step H.length c H w c' (H.set v .dead) w':=by
 have k:∃t g cs,H[v]? = some (.row t g cs):=by
  unfold rowsOf at m;split at m
  .grind
  .cases m
 obtain⟨t,g,cs,k⟩:=k;obtain⟨p,k1,k2,k3,k4⟩:=adJ ft k
 have l:iR p w vs (args.map (AL.fy (λ_=>none) H 40)):=by
  have e:args.map (AL.fy (λ_=>none) H 40)=args.map (AL.fy (gX (lN H [v])) H 40):=
   ao λd a=>(XR 40 d λu s=>hS u (aZ.2 ⟨_,au.2 ⟨d,a,rfl⟩,s⟩)).symm
  have i:=j;rw[e]at i ⊢;have h0:=o.map (c':=c.fy (lN H [v]) H) (f:=AL.fy (gX (lN H [v])) H 40) λ_ _ h=>yJ ft 40 h;generalize args.map (AL.fy (gX (lN H [v])) H 40)=as at h0 i;clear e j hS n o
  induction h0 with
  | nil=>exact .nil
  | cons h _ r=>
   simp only[fR,Bool.and_eq_true]at i;exact .cons (fr.closed (c:=c.fy (lN H [v]) H) (c':=p) k4 h i.1) (r i.2)
 have z:(args.map (AL.fy (λ_=>none) H 40)).map (AL.fy (λ_=>none) (H.set v .dead) 40)=args.map (AL.fy (λ_=>none) H 40):=by
  conv=>rhs;rw[<-aS (args.map (AL.fy (λ_=>none) H 40))]
  exact ao λd a=>pj (lD j d a)
 have q:ma d=true/\jQ (H.set v .dead).length d=d:=by
  cases d<;>first|(cases a;done)|skip
  case tup ds=>
   simp only[AL.closed]at a;refine⟨?_,?_⟩
   .simp only[ma,vD,List.all_eq_true];intro x b;have:=lD a x b;cases x<;>first|rfl|exact this
   .simp only[jQ];congr 1
    conv=>rhs;rw[<-aS ds]
    refine ao λx b=>?_;have:=lD a x b;cases x<;>first|rfl|(cases this;done)
  case agg ds=>
   simp only[AL.closed]at a;refine⟨?_,?_⟩
   .simp only[ma,vD,List.all_eq_true];intro x b;have:=lD a x b;cases x<;>first|rfl|exact this
   .simp only[jQ];congr 1
    conv=>rhs;rw[<-aS ds]
    refine ao λx b=>?_;have:=lD a x b;cases x<;>first|rfl|(cases this;done)
  all_goals exact⟨a,rfl⟩
 refine(W4 k1 l (by rw[z];exact n) (by rw[if_pos j];simp[q.1])).mono ?_;rintro e w' ⟨u,c2,y,m1,m2,m3⟩;rw[ay]at m1 m3;rw[q.2]at m2;exact⟨u,c2,y,m1,m2,k2.trans m3 (by simp)⟩
end
end Go.AL
namespace Go.AL
open Go
def rh(o:Nat)(xs cs:List D):List D:=cs.take o++xs++cs.drop (o+xs.length)
theorem Q0{o:Nat}{xs cs:List D}(h:o+xs.length<=cs.length):(rh o xs cs).length=cs.length:=by simp[rh];omega
theorem Gj{o:Nat}{xs cs:List D}(h:o+xs.length<=cs.length)(i:Nat):(rh o xs cs)[i]? = if o<=i/\i<o+xs.length then xs[i-o]? else cs[i]? := by
 unfold rh;have hl:(cs.take o).length=o:=by simp;omega
 by_cases h1:i<o
 .grind
 .grind
def xh(n:Nat):Dl->Option Nat
 | .no=>none
 | .cells v _ _=>some v
 | .obj v _=>some v
 | .new _=>some n
def Q5:Dl->Ob->Ob
 | .no,o=>o
 | .cells _ o xs,.row t g cs=>.row t g (rh o xs cs)
 | .cells _ _ _,o=>o
 | .obj _ ob,_=>ob
 | .new ob,_=>ob
abbrev kF(n:Nat)(δ:Dl)(H:U):U:=δ.app H (Al.kR H n)
theorem Bo(n:Nat)(δ:Dl)(H:U)(x:Nat):(kF n δ H)[x]? = if xh n δ=some x then(H[x]?).map (Q5 δ)else H[x]? := by
 have a:∀(v:Nat) (ob:Ob) (f:Ob->Ob),(∀o,f o=ob)->(H.set v ob)[x]? = if some v=some x then(H[x]?).map f else H[x]? := by grind
 cases δ with
 | no=>simp[kF,Dl.app,xh]
 | obj v ob=>exact a v ob _ λ_=>rfl
 | new ob=>exact a n ob _ λ_=>rfl
 | cells v o xs=>
  have c:xh n (.cells v o xs)=some v:=rfl
  by_cases e:v=x
  .subst e;rw[if_pos c];simp only[kF,Dl.app];split
   .rename_i t g cs b;rw[bK,if_pos rfl,if_pos (ae.1 b).1,b];rfl
   .rename_i h
    cases d:H[v]? with
    | none=>rfl
    | some ob=>
     cases ob<;>first|rfl|skip
     exact absurd d (h _ _ _)
  .rw[if_neg (by rw[c];simpa using e)];simp only[kF,Dl.app];split
   .grind
   .rfl
def Fits(n:Nat)(δ:Dl)(H:U):Prop:=match δ with
 | .cells v o xs=>∃t g cs,H[v]? = some (.row t g cs)/\o+xs.length<=cs.length
 | .new _=>H[n]? = some .kR
 | _=>True
theorem xE{a b:List Fp}(h:sY a b=true){x y:Fp}(d:x∈a)(c:y∈b):sX x y=true:=
 List.all_eq_true.1 (List.all_eq_true.1 h x d) y c
theorem R7{n:Nat}{δ:Dl}{H:U}{j:List Fp}(s:Fits n δ H)(h:sY (jm n δ) j=true):sT j (kF n δ H) H:=by
 intro x b;obtain⟨u,r⟩:=x
 have z:∀v q,(v,q)∈jm n δ->xh n δ=some v:=by intro v q d;cases δ<;>simp only[jm,List.mem_singleton,dM]at d<;>first|(cases d;rfl)|cases d
 have c:xh n δ≠some u->(kF n δ H)[u]? = H[u]? := λk=>by rw[Bo,if_neg k]
 by_cases a:xh n δ=some u
 .cases r with
  | none=>
   exfalso
   cases δ with
   | no=>cases a
   | cells v o xs=>cases a;have:=xE h (x:=(u,some (o,xs.length))) (by simp[jm]) b;simp[sX]at this
   | obj v ob=>cases a;have:=xE h (x:=(u,none)) (by simp[jm]) b;simp[sX]at this
   | new ob=>cases a;have:=xE h (x:=(n,none)) (by simp[jm]) b;simp[sX]at this
  | some q=>
   obtain⟨p,m⟩:=q
   cases δ with
   | no=>cases a
   | obj v ob=>cases a;exfalso;have:=xE h (x:=(u,none)) (by simp[jm]) b;simp[sX]at this
   | new ob=>cases a;exfalso;have:=xE h (x:=(n,none)) (by simp[jm]) b;simp[sX]at this
   | cells v o xs=>
    cases a;obtain⟨t,g,cs,h1,f⟩:=s;have w:=xE h (x:=(u,some (o,xs.length))) (by simp[jm]) b;simp only[sX,bne_self_eq_false,Bool.false_or,bV,decide_eq_true_eq]at w;refine .inr ⟨t,g,rh o xs cs,cs,?_,h1,Q0 f,λi l y=>?_⟩
    .simp[Bo,xh,h1,Q5]
    .rw[Gj f,if_neg (by omega)]
 .have e:=c a
  cases r with
  | none=>exact e
  | some q=>exact .inl e
theorem akH{o p:Nat}{xs c cs:List D}(h1:o+xs.length<=cs.length)(d:p+c.length<=cs.length)(h:o+xs.length<=p\/p+c.length<=o) :
  rh o xs (rh p c cs)=rh p c (rh o xs cs):=by
 apply bL;intro i;rw[Gj (by rw[Q0 d];exact h1),Gj d,Gj (by rw[Q0 h1];exact d),Gj h1]
 by_cases a:o<=i/\i<o+xs.length<;>by_cases b:p<=i/\i<p+c.length
 .omega
 .grind
 .grind
 .grind
theorem ak8{n m:Nat}{δ c:Dl}{H:U}(j:Fits n δ H)(hg:Fits m c H)(h:sY (jm n δ) (jm m c)=true):kF m c (kF n δ H)=kF n δ (kF m c H):=by
 apply bL;intro x;rw[Bo,Bo,Bo,Bo]
 by_cases a:xh n δ=some x<;>by_cases b:xh m c=some x
 .rw[if_pos a,if_pos b,if_pos b,if_pos a]
  have bad:∀ {P:Prop},(∃q r,(x,q)∈jm n δ/\(x,r)∈jm m c/\(q=none\/r=none))->P:=by
   rintro P ⟨q,r,h1,d,k⟩;have:=xE h h1 d;rcases k with rfl|rfl
   .simp[sX]at this
   .cases q<;>simp[sX]at this
  cases δ with
  | no=>cases a
  | obj v ob=>
   cases a
   cases c with
   | no=>cases b
   | cells v o xs=>cases b;exact bad ⟨none,some (o,xs.length),by simp[jm],by simp[jm],.inl rfl⟩
   | obj v ob=>cases b;exact bad ⟨none,none,by simp[jm],by simp[jm],.inl rfl⟩
   | new ob=>cases b;exact bad ⟨none,none,by simp[jm],by simp[jm],.inl rfl⟩
  | new ob=>
   cases a
   cases c with
   | no=>cases b
   | cells v o xs=>cases b;exact bad ⟨none,some (o,xs.length),by simp[jm],by simp[jm],.inl rfl⟩
   | obj v ob=>cases b;exact bad ⟨none,none,by simp[jm],by simp[jm],.inl rfl⟩
   | new ob=>cases b;exact bad ⟨none,none,by simp[jm],by simp[jm],.inl rfl⟩
  | cells v o xs=>
   cases a
   cases c with
   | no=>cases b
   | obj v ob=>cases b;exact bad ⟨some (o,xs.length),none,by simp[jm],by simp[jm],.inr rfl⟩
   | new ob=>cases b;exact bad ⟨some (o,xs.length),none,by simp[jm],by simp[jm],.inr rfl⟩
   | cells v p i=>
    cases b;obtain⟨t,g,cs,h1,d⟩:=j;obtain⟨s,w,u,f,l⟩:=hg;rw[h1]at f;cases f;have e:=xE h (x:=(x,some (o,xs.length))) (y:=(x,some (p,i.length))) (by simp[jm]) (by simp[jm]);simp only[sX,bne_self_eq_false,Bool.false_or,bV,decide_eq_true_eq]at e;simp only[h1,aD,Q5];rw[akH d l e]
 .grind
 .grind
 .grind
structure Rc where
 R:List Fp
 W:List Fp
inductive Out where
 | norm (s:St)
 | exit (id:Nat) (s:St)
 | ret (s:St)
inductive yZ where
 | ops (l:List gy) (s:St)
 | code (c:IR) (s:St)
 | loop (n:Nat) (live:List Nat) (a:IR) (s:St)
 | call (f:FuncId) (args:List D) (H:U)
 | trace (l:List gy) (s:St)
inductive oD where
 | out (o:Out)
 | tr (rs:List Rc) (s:St)
 | val (d:D) (H:U)
def Out.stop:Out->Bool
 | .norm _=>false
 | _=>true
def uC(c:List (Nat×Nat))(rs:List Rc):Bool:=c.all λp=>match rs[p.1]?,rs[p.2]? with
 | some a,some b=>sY a.W (b.R++b.W)&&sY b.W (a.R++a.W)
 | _,_=>false
def yieldOf(env:gj):gZ->Option (Nat×List D)
 | .callv f args=>match ev env f with
  | .iw v=>some (v,args.map (ev env))
  | _=>none
 | _=>none
def Out.st:Out->St
 | .norm s=>s
 | .exit _ s=>s
 | .ret s=>s
def Out.yO:Out->rT
 | .norm _=>.ready
 | .exit id _=>.xQ id
 | .ret _=>.zh
def AJ(s:St):rT->Option Out
 | .ready=>some (.norm s)
 | .busy=>none
 | .zh=>some (.ret s)
 | .xQ id=>some (.exit id s)
def kill:List Nat->U->Option U
 | [],H=>some H
 | v::vs,H=>match H[v]? with
  | some .km=>kill vs (H.set v .dead)
  | _=>none
def finish(fn:iE)(own n:Nat):Out->Option (D×U)
 | .norm s | .ret s=>match kill s.marks s.H with
  | some H=>match results fn { s with H:=H }with
   | some d=>some (leave own n H d)
   | none=>none
  | none=>none
 | .exit _ _=>none
def kN(id n:Nat)(live:List Nat):Out->Out
 | .norm s=>.norm (cut n live s)
 | .exit a s=>if a=id then .norm (cut n live s)else .exit a s
 | .ret s=>.ret s
inductive Ev(T:gO):yZ->(oD->Prop)->Prop
 | mono {j R R'} (h:Ev T j R) (hi:∀r,R r->R' r):Ev T j R'
 | nil {s R} (h:R (.out (.norm s))):Ev T (.ops [] s) R
 | op {e r s d δ R} (hg:guardOf s.env.get e.guard=some true) (h:gf s.env.get s.H s.H.length e.op=some (d,δ))
   (t:Ev T (.ops r { s with env:=put s.env e.dst d,H:=δ.app s.H (Al.last s.H) }) R):Ev T (.ops (e::r) s) R
 | AW {e r s d δ R} (hg:guardOf s.env.get e.guard=some true) (h:lL s.env.get s.H s.H.length e.op=some (d,δ))
   (t:Ev T (.ops r { s with env:=put s.env e.dst d,H:=δ.app s.H (Al.last s.H) }) R):Ev T (.ops (e::r) s) R
 | off {e r s R} (hg:guardOf s.env.get e.guard=some false) (t:Ev T (.ops r { s with env:=put s.env e.dst (.val undef) }) R):Ev T (.ops (e::r) s) R
 | lk {l s R} (S:List Nat) (hm:s.marks.all (λv => !S.contains v)=true) (t:Ev T (.ops l (lk S s)) R):Ev T (.ops l s) R
 | Ec {c s R} (S:List Nat) (hm:s.marks.all (λv => !S.contains v)=true) (t:Ev T (.code c (lk S s)) R):Ev T (.code c s) R
 | NQ {l s R} (live:List Nat) (t:Ev T (.ops l { s with env:=forget live s.env }) R):Ev T (.ops l s) R
 | Ky {c s R} (live:List Nat) (t:Ev T (.code c { s with env:=forget live s.env }) R):Ev T (.code c s) R
 | DN {e r s f args fn R1 R} (hg:guardOf s.env.get e.guard=some true) (hc:jS s.env.get e.op=some (f,args)) (hf:T.fn f=some fn) (hp:fn.full=false)
   (h:Ev T (.call f (args.map (fy (λ_=>none) s.H 40)) []) R1) (ha:∀d Hn,R1 (.val d Hn)->(after s e.dst args d Hn).isSome=true)
   (t:∀d Hn s',R1 (.val d Hn)->after s e.dst args d Hn=some s'->Ev T (.ops r s') R):Ev T (.ops (e::r) s) R
 | DM {e r s f args fn R1 R} (hg:guardOf s.env.get e.guard=some true) (hc:jS s.env.get e.op=some (f,args)) (hf:T.fn f=some fn) (hp:fn.full=true)
   (h:Ev T (.call f args s.H) R1) (t:∀d H',R1 (.val d H')->Ev T (.ops r { s with env:=put s.env e.dst d,H:=H' }) R):Ev T (.ops (e::r) s) R
 | JQ {e r s v args rf env0 Rd Ra Rb R} (hg:guardOf s.env.get e.guard=some true) (hc:yieldOf s.env.get e.op=some (v,args)) (hv:s.H[v]? = some (.gM rf env0 .ready)) (hR:T.round rf=some Rd) (hl:args.length=Rd.params.length)
   (ha:Ev T (.code Rd.a { env:=sQ Rd.params args env0,H:=s.H,gW:=true }) Ra) (hn:∀o,Ra (.out o)->o.stop=false/\∃ku,o.st.H[v]? = some (.gM rf ku .ready))
   (hb:∀s1 ku,Ra (.out (.norm s1))->s1.H[v]? = some (.gM rf ku .ready)->Ev T (.code Rd.b { s1 with H:=s1.H.set v (.gM rf ku .busy) }) Rb)
   (hm:∀o,Rb (.out o)->∃kG,o.st.H[v]? = some (.gM rf kG .busy))
   (t:∀o kG,Rb (.out o)->o.st.H[v]? = some (.gM rf kG .busy)->Ev T (.ops r { s with env:=put s.env e.dst (.b !o.stop),H:=o.st.H.set v (.gM rf kG o.yO) }) R):Ev T (.ops (e::r) s) R
 | next {e r s x v m since seen kk es R} (hg:guardOf s.env.get e.guard=some true) (gT:e.op = .nextM x) (hx:ev s.env.get x = .ptr v 0 0) (hv:s.H[v]? = some (.iM (.fV m) since seen)) (hm:s.H[m]? = some (.map kk es)) (hs:es.length=since)
   (h0:(∀i,i<es.length->i∈seen)->Ev T (.ops r { s with env:=put s.env e.dst (.tup [.b false]) }) R)
   (h1:∀i k d,es[i]? = some (k,d)->i ∉ seen->Ev T (.ops r { s with env:=put s.env e.dst (.tup [.b true,qw k,d]),H:=s.H.set v (.iM (.fV m) since (seen ++ [i])) }) R):Ev T (.ops (e::r) s) R
 | Gs {s R} (h:R (.tr [] s)):Ev T (.trace [] s) R
 | Gu {e r s d δ R1 R} (hg:guardOf s.env.get e.guard=some true) (h:gf s.env.get s.H s.H.length e.op=some (d,δ))
   (t:Ev T (.trace r { s with env:=put s.env e.dst d,H:=δ.app s.H (Al.last s.H) }) R1) (k:∀rs s',R1 (.tr rs s')->R (.tr (⟨gi s.env.get s.H e.op,jm s.H.length δ⟩::rs) s')):Ev T (.trace (e::r) s) R
 | Gt {e r s R1 R} (hg:guardOf s.env.get e.guard=some false) (t:Ev T (.trace r { s with env:=put s.env e.dst (.val undef) }) R1) (k:∀rs s',R1 (.tr rs s')->R (.tr (⟨[],[]⟩::rs) s')):Ev T (.trace (e::r) s) R
 | Gp {e r s f args fn d R0 R1 R} (hg:guardOf s.env.get e.guard=some true) (hc:jS s.env.get e.op=some (f,args)) (hf:T.fn f=some fn) (hp:fn.full=false)
   (h:Ev T (.call f (args.map (fy (λ_=>none) s.H 40)) []) R0) (h0:∀d' Hn,R0 (.val d' Hn)->d'=d/\Hn = []) (hr:(if fR args then closed d else flat d)=true)
   (t:Ev T (.trace r { s with env:=put s.env e.dst d }) R1) (k:∀rs s',R1 (.tr rs s')->R (.tr (⟨gi s.env.get s.H e.op,[]⟩::rs) s')):Ev T (.trace (e::r) s) R
 | Gq {e r s f as args fn d ob R0 R1 R} (hg:guardOf s.env.get e.guard=some true) (gT:e.op = .callN f as) (ha:args=as.map (ev s.env.get)) (hf:T.fn f=some fn) (hp:fn.full=false)
   (h:Ev T (.call f (args.map (fy (λ_=>none) s.H 40)) []) R0) (h0:∀d' Hn,R0 (.val d' Hn)->d'=d/\Hn = [ob]) (hr:(if fR args then ma d&&nb ob else nO d&&oJ ob)=true)
   (t:Ev T (.trace r { s with env:=put s.env e.dst (jQ s.H.length d),H:=s.H ++ [ob] }) R1) (k:∀rs s',R1 (.tr rs s')->R (.tr (⟨gi s.env.get s.H e.op,[(s.H.length,none)]⟩::rs) s')):Ev T (.trace (e::r) s) R
 | Gr {e r s f as args fn d v R0 R1 R} (hg:guardOf s.env.get e.guard=some true) (gT:e.op = .callN f as) (ha:args=as.map (ev s.env.get)) (hf:T.fn f=some fn) (hp:fn.full=false)
   (hS:∀u∈(args.map (gN s.H 40)).flatten,u=v) (hv:v∈(args.map (gN s.H 40)).flatten) (gv:(rowsOf s.H v).isSome=true) (gd:fR (args.map (fy (λ_=>none) s.H 40))=true)
   (h:Ev T (.call f (args.map (fy (λ_=>none) s.H 40)) []) R0) (h0:∀d' Hn,R0 (.val d' Hn)->d'=d/\Hn = []) (hr:closed d=true)
   (t:Ev T (.trace r { s with env:=put s.env e.dst d,H:=s.H.set v .dead }) R1) (k:∀rs s',R1 (.tr rs s')->R (.tr (⟨gi s.env.get s.H e.op,[(v,none)]⟩::rs) s')):Ev T (.trace (e::r) s) R
 | lh {iY l s R1 R} (t:Ev T (.trace l s) R1) (hp:∀rs s',R1 (.tr rs s')->uC iY rs=true/\R (.out (.norm s'))):Ev T (.code (.lh iY l) s) R
 | l5 {iY l es s R1 R} (t:Ev T (.trace l s) R1) (hp:∀rs s',R1 (.tr rs s')->uC iY rs=true) (k:∀rs s',R1 (.tr rs s')->Ev T (.ops es s') R):Ev T (.code (.l5 iY l es) s) R
 | skip {s R} (h:R (.out (.norm s))):Ev T (.code .skip s) R
 | DW {l s R} (h:Ev T (.ops l s) R):Ev T (.code (.ops l) s) R
 | seq {a b s R1 R} (h:Ev T (.code a s) R1) (k:∀s',R1 (.out (.norm s'))->Ev T (.code b s') R) (hs:∀o,R1 (.out o)->o.stop=true->R (.out o)):Ev T (.code (.seq a b) s) R
 | cond {c a b s x R} (hc:ev s.env.get c = .val (.bool x)) (h:Ev T (.code (if x then a else b) s) R):Ev T (.code (.cond c a b) s) R
 | block {id live a s R1 R} (h:Ev T (.code a s) R1) (k:∀o,R1 (.out o)->R (.out (kN id s.H.length live o))):Ev T (.code (.block id live a) s) R
 | loop {live a s R} (h:Ev T (.loop s.H.length live a { s with env:=forget live s.env }) R):Ev T (.code (.loop live a) s) R
 | yB {n live a s R1 R} (h:Ev T (.code a s) R1) (k:∀s',R1 (.out (.norm s'))->Ev T (.loop n live a (cut n live s')) R) (hs:∀o,R1 (.out o)->o.stop=true->R (.out o)):Ev T (.loop n live a s) R
 | mZ {rf live x s f first cap fn R1 R} (hr:s.gW=false) (hx:ev s.env.get x = .fn (.func f) first cap) (hf:T.fn f=some fn) (hp:fn.full=true)
   (h:Ev T (.call f (first ++ [.iw (s.H.length+1)]++cap) (s.H ++ [.km,.gM rf (forget live s.env) .ready])) R1)
   (k:∀d H',R1 (.val d H')->∃env st o,H'[s.H.length+1]? = some (.gM rf env st)/\AJ { s with H:=H'.set (s.H.length+1) .dead,marks:=s.H.length::s.marks } st=some o/\R (.out o)):Ev T (.code (.mZ rf live x) s) R
 | exit {id s R} (h:R (.out (.exit id s))):Ev T (.code (.exit id) s) R
 | ret {s R} (h:R (.out (.ret s))):Ev T (.code .ret s) R
 | call {f args H fn R1 R} (own:Nat) (hf:T.fn f=some fn) (hl:args.length<=fn.ntmps) (h:Ev T (.code fn.body { env:=sJ args,H:=H }) R1)
   (k:∀o,R1 (.out o)->∃d H',finish fn own H.length o=some (d,H')/\R (.val d H')):Ev T (.call f args H) R
 | sort {f g fn sz v gen t H R} {α:Type} (fc:α->List D) (l:List α) (cf:α->α->Int) (hs:T.sort f=some sz) (hg:T.fn g=some fn) (hl:∀a∈l,(fc a).length=sz) (gd:∀a∈l,fR (fc a)=true) (h0:0<l.length) (vc:l.length<4611686018427387904)
   (Cq:∀x∈l,¬cf x x<0) (tr:∀x∈l,∀y∈l,∀z∈l,cf x y<0->cf y z<0->cf x z<0) (nt:∀x∈l,∀y∈l,∀z∈l,¬cf x y<0->¬cf y z<0->¬cf x z<0)
   (hc:∀x∈l,∀y∈l,Ev T (.call g [.agg (fc x),.agg (fc y)] []) (λr=>∃H',r = .val (.i (cf x y)) H')) (hv:H[v]? = some (.row t gen (l.map fc).flatten))
   (k:∀l':List α,l'.Perm l->l'.Pairwise (λx y=>¬cf y x<0)->R (.val (.tup []) (H.set v (.row t gen (l'.map fc).flatten)))):Ev T (.call f [.fm v gen sz 0 l.length,.fn (.func g) [] []] H) R
 | CU {f sz x H R} (hs:T.sort f=some sz) (k:R (.val (.tup []) H)):Ev T (.call f [.fw,x] H) R
 | rR {f v gen t H R} (l:List Int) (hs:T.rR f=true) (h0:0<l.length) (vc:l.length<4611686018427387904) (hv:H[v]? = some (.row t gen (l.map λn=>D.i n)))
   (k:R (.val (.tup []) (H.set v (.row t gen ((l.mergeSort λx y=>decide (x<=y)).map λn=>D.i n))))):Ev T (.call f [.fm v gen 1 0 l.length] H) R
 | r7 {f v gen t zs H R} (l:List Int) (i:Nat) (hs:T.r7 f=true) (hi:i<l.length) (hv:H[v]? = some (.row t gen (l.map (λn=>D.i n)++zs)))
   (k:R (.val (.fm v gen 1 0 (l.length-1)) (H.set v (.row t gen ((l.take i++l.drop (i+1) ++ [0]).map (λn=>D.i n)++zs))))):Ev T (.call f [.fm v gen 1 0 l.length,.i i,.i ((i:Int)+1)] H) R
end Go.AL
namespace Go.AL
open Go
def lX(f:gj):Option Nat->D->gj
 | some k,d=>λt=>if k=t then d else f t
 | none,_=>f
theorem FV(env:Env)(dst:Option Nat)(d:D):(put env dst d).get=lX env.get dst d:=by
 cases dst with
 | none=>rfl
 | some k=>funext t;simp[put,Env.u9,lX]
def N3:Option (Nat×Bool)->List Nat
 | some (t,_)=>[t]
 | none=>[]
def looks(e:gy):List Nat:=gE e.op++N3 e.guard
inductive Ef(C:FuncId->List D->D->U->Prop)(f:gj)(H:U)(e:gy)(n:Nat):Rc->D->Dl->Prop
 | op {d δ} (hg:guardOf f e.guard=some true) (h:gf f H n e.op=some (d,δ)) (hf:Fits n δ H):Ef C f H e n ⟨gi f H e.op,jm n δ⟩ d δ
 | off (hg:guardOf f e.guard=some false):Ef C f H e n ⟨[],[]⟩ (.val undef) .no
 | call {g args d} (hg:guardOf f e.guard=some true) (hc:jS f e.op=some (g,args))
   (h:C g (args.map (fy (λ_=>none) H 40)) d []) (hr:(if fR args then closed d else flat d)=true):Ef C f H e n ⟨gi f H e.op,[]⟩ d .no
 | callN {g as args d ob} (hg:guardOf f e.guard=some true) (gT:e.op = .callN g as) (ha:args=as.map (ev f))
   (h:C g (args.map (fy (λ_=>none) H 40)) d [ob]) (hr:(if fR args then ma d&&nb ob else nO d&&oJ ob)=true) (hf:Fits n (.new ob) H):Ef C f H e n ⟨gi f H e.op,jm n (.new ob)⟩ (jQ n d) (.new ob)
 | zc {g as args d v} (hg:guardOf f e.guard=some true) (gT:e.op = .callN g as) (ha:args=as.map (ev f)) (hS:∀u∈(args.map (gN H 40)).flatten,u=v) (hv:v∈(args.map (gN H 40)).flatten) (gv:(rowsOf H v).isSome=true)
   (h:C g (args.map (fy (λ_=>none) H 40)) d []) (gd:fR (args.map (fy (λ_=>none) H 40))=true) (hr:closed d=true):Ef C f H e n ⟨gi f H e.op,[(v,none)]⟩ d (.obj v .dead)
theorem guard_congr{f f':gj}{g:Option (Nat×Bool)}(h:∀t∈N3 g,f t=f' t):guardOf f g=guardOf f' g:=by
 cases g with
 | none=>rfl
 | some p=>simp only[guardOf,h p.1 (by simp[N3])]
theorem YI{x:Fp}{H1 H2:U}(h:Alike x H1 H2):Alike x H2 H1:=by
 obtain⟨v,r⟩:=x
 cases r with
 | none=>exact h.symm
 | some q=>
  rcases h with h|⟨t,g,cs,ds,h1,e,d,c⟩
  .exact .inl h.symm
  .exact .inr ⟨t,g,ds,cs,e,h1,d.symm,λi a b=>(c i a b).symm⟩
theorem TT{n:Nat}{δ:Dl}{H H':U}(h:sT (jm n δ) H H')(a:Fits n δ H):Fits n δ H':=by
 cases δ with
 | no=>trivial
 | obj v ob=>trivial
 | new ob=>
  have e:H[n]? = H'[n]? := h (n,none) (by simp[jm]);show H'[n]? = some .kR;rw[<-e];exact a
 | cells v o xs=>
  obtain⟨t,g,cs,h1,d⟩:=a;rcases h (v,some (o,xs.length)) (by simp[jm])with h|⟨f,l,i,ds,b,c,k,j⟩
  .exact⟨t,g,cs,h▸h1,d⟩
  .rw[h1]at b;cases b;exact⟨t,g,ds,c,by omega⟩
theorem Mc{H H':U}{v:Nat}(h:Alike (v,none) H H'):rowsOf H v=rowsOf H' v:=by have e:H[v]? = H'[v]? := h;simp only[rowsOf,e]
theorem M6{f:gj}{H:U}{op:gZ}{g:FuncId}{args:List D}(i:jS f op=some (g,args)){H':U}(h:sT (gi f H op) H H') :
  gi f H' op=gi f H op/\args.map (fy (λ_=>none) H' 40)=args.map (fy (λ_=>none) H 40):=by
 have key:∀args:List D,(∀v∈(args.map (gN H 40)).flatten,rowsOf H v=rowsOf H' v)->args.map (gN H' 40)=args.map (gN H 40)/\args.map (fy (λ_=>none) H' 40)=args.map (fy (λ_=>none) H 40):=by intro args j;have h1:∀d∈args,∀v∈gN H 40 d,rowsOf H v=rowsOf H' v:=λd e v c=>j v (aZ.2 ⟨_,au.2 ⟨d,e,rfl⟩,c⟩);exact⟨ao λd e=>(F1 40 d (h1 d e)).1,ao λd e=>(F1 40 d (h1 d e)).2⟩
 cases op<;>first|(cases i;done)|skip
 case call k as=>
  cases i;obtain⟨a,b⟩:=key (as.map (ev f)) λv c=>Mc (h (v,none) (au.2 ⟨v,c,rfl⟩));exact⟨by simp only[gi,a],b⟩
 case callN k as=>
  cases i;obtain⟨a,b⟩:=key (as.map (ev f)) λv c=>Mc (h (v,none) (au.2 ⟨v,c,rfl⟩));exact⟨by simp only[gi,a],b⟩
 case callv k as=>
  simp only[gi,i]at h ⊢;obtain⟨a,b⟩:=key args λv c=>Mc (h (v,none) (au.2 ⟨v,c,rfl⟩));exact⟨by rw[a],b⟩
theorem ab0{f:gj}{H H':U}{op:gZ}(a:jS f op=none):gi f H' op=gi f H op:=by
 cases op<;>first|rfl|(cases a;done)|skip
 case callv=>simp only[gi,a]
 case len k x=>cases k<;>rfl
theorem Zm{f:gj}{H:U}{n:Nat}{op:gZ}{r:D×Dl}(h:gf f H n op=some r):jS f op=none:=by cases op<;>first|rfl|cases h
variable{C:FuncId->List D->D->U->Prop}
theorem Ef.local{f f':gj}{H H':U}{e:gy}{n:Nat}{rc:Rc}{d:D}{δ:Dl}(h:Ef C f H e n rc d δ)(F:∀t∈looks e,f t=f' t)(j:sT (rc.R++rc.W) H H'):Ef C f' H' e n rc d δ:=by
 have h1:∀t∈gE e.op,f t=f' t:=λt u=>F t (bA _ u);have p:guardOf f e.guard=guardOf f' e.guard:=guard_congr λt u=>F t (bN _ u)
 cases h with
 | op hg E s=>
  have k:gi f H e.op=gi f' H' e.op:=by rw[Kz h1,ab0 (Zm (by rw[<-Sc h1];exact E))]
  rw[k];refine .op (p▸hg) ?_ (TT j.right s);rw[<-Sc h1,<-YK (H1:=H) j.left];exact E
 | off hg=>exact .off (p▸hg)
 | call hg c l o=>
  obtain⟨a,b⟩:=M6 c j.left;have k:gi f H e.op=gi f' H' e.op:=by rw[<-a,Kz h1]
  rw[k];exact .call (p▸hg) (by rw[<-JS h1];exact c) (by rw[b];exact l) o
 | @callN g z args _ _ hg i q l o s=>
  have c:jS f e.op=some (g,args):=by rw[i,q];rfl
  obtain⟨a,b⟩:=M6 c j.left;have k:gi f H e.op=gi f' H' e.op:=by rw[<-a,Kz h1]
  rw[k];have m:jS f' e.op=some (g,args):=by rw[<-JS h1];exact c
  have r:args=z.map (ev f'):=by rw[i]at m;cases m;rfl
  exact .callN (p▸hg) i r (by rw[b];exact l) o (TT j.right s)
 | @zc g z args _ v hg i q hS G I l J o=>
  have c:jS f e.op=some (g,args):=by rw[i,q];rfl
  obtain⟨a,b⟩:=M6 c j.left;have k:gi f H e.op=gi f' H' e.op:=by rw[<-a,Kz h1]
  rw[k];have m:jS f' e.op=some (g,args):=by rw[<-JS h1];exact c
  have r:args=z.map (ev f'):=by rw[i]at m;cases m;rfl
  have B:(args.map (gN H' 40)).flatten=(args.map (gN H 40)).flatten:=by have A:=a;rw[i]at A;simp only[gi,<-q]at A;exact(List.map_inj_right (λx y h=>(Prod.mk.inj h).1)).1 A
  have w:rowsOf H v=rowsOf H' v:=Mc (j.right (v,none) (by simp));exact .zc (p▸hg) i r (by rw[B];exact hS) (by rw[B];exact G) (by rw[<-w];exact I) (by rw[b];exact l) (by rw[b];exact J) o
theorem Ef.fits{f:gj}{H:U}{e:gy}{n:Nat}{rc:Rc}{d:D}{δ:Dl}(h:Ef C f H e n rc d δ):Fits n δ H/\rc.W=jm n δ:=by
 cases h with
 | op _ _ a=>exact⟨a,rfl⟩
 | off=>exact⟨trivial,rfl⟩
 | call=>exact⟨trivial,rfl⟩
 | callN _ _ _ _ _ a=>exact⟨a,rfl⟩
 | zc=>exact⟨trivial,rfl⟩
def xg(a b:gy):Bool:=
 (match a.dst with|some k => !(looks b).contains k&&b.dst != some k|none=>true)&&(match b.dst with|some k => !(looks a).contains k|none=>true)
def uE(a b:Rc):Bool:=sY a.W (b.R++b.W)&&sY b.W (a.R++a.W)
theorem Ya{f:gj}{dst:Option Nat}{d:D}{l:List Nat}(h:∀k,dst=some k->k ∉ l):∀t∈l,lX f dst d t=f t:=by
 intro t a
 cases dst with
 | none=>rfl
 | some k=>
  simp only[lX];rw[if_neg];rintro rfl;exact h _ rfl a
theorem akS{f:gj}{a b:Option Nat}{x y:D}(h:∀k,a=some k->b≠some k):lX (lX f a x) b y=lX (lX f b y) a x:=by
 cases a with
 | none=>rfl
 | some k=>
  cases b with
  | none=>rfl
  | some j=>
   have d:j≠k:=λe=>h k rfl (by rw[e]);funext t;simp only[lX]
   by_cases h1:j=t<;>by_cases c:k=t<;>simp[h1,c]
   exact absurd (h1.trans c.symm) d
theorem aks{a b:gy}(h:xg a b=true):(∀k,a.dst=some k->k ∉ looks b)/\(∀k,b.dst=some k->k ∉ looks a)/\(∀k,a.dst=some k->b.dst≠some k):=by
 unfold xg at h;simp only[Bool.and_eq_true]at h;refine⟨λk c=>?_,λk c=>?_,λk c=>?_⟩
 .have:=h.1;rw[c]at this;simp at this;exact this.1
 .have:=h.2;rw[c]at this;simpa using this
 .have:=h.1;rw[c]at this;simp at this;exact this.2
theorem swap{f:gj}{H:U}{a b:gy}{n m:Nat}{g e:Rc}{x y:D}{δ c:Dl}(l:Ef C f H a n g x δ)(w:Ef C (lX f a.dst x) (kF n δ H) b m e y c)
  (hs:xg a b=true) (d:uE g e=true) :
  Ef C f H b m e y c/\Ef C (lX f b.dst y) (kF m c H) a n g x δ/\lX (lX f a.dst x) b.dst y=lX (lX f b.dst y) a.dst x/\kF m c (kF n δ H)=kF n δ (kF m c H):=by
 obtain⟨s1,r,q⟩:=aks hs;simp only[uE,Bool.and_eq_true]at d;obtain⟨p,j⟩:=l.fits;have k:Ef C f H b m e y c:=w.local (Ya s1) (R7 p (by rw[<-j];exact d.1));obtain⟨o,i⟩:=k.fits;refine⟨k,l.local (λt v=>(Ya r t v).symm) λz h=>YI (R7 o (by rw[<-i];exact d.2) z h),akS q,ak8 p o ?_⟩;rw[<-j,<-i];simp only[sY,List.all_eq_true]at d ⊢;exactλu s z h=>d.1 u s z (bN _ h)
theorem PJ{o:Option D}{d:D}{δ:Dl}(h:lift o=some (d,δ)):δ = .no:=by cases o<;>simp[lift]at h;exact h.2.symm
theorem Qn{f:gj}{H:U}{e:gy}{n:Nat}{rc:Rc}{d:D}{δ:Dl}(h:Ef C f H e n rc d δ)(a:FT e.op=true):rc.R = []/\rc.W = []:=by
 cases h with
 | op hg c j=>
  cases b:e.op<;>rw[b]at c a<;>simp only[gf]at c<;>first|(cases a;done)|skip
  case len k x=>
   have:=PJ c;subst this;cases k<;>first|(cases a;done)|exact⟨rfl,rfl⟩
  all_goals
   have:=PJ c;subst this;exact⟨rfl,rfl⟩
 | off hg=>exact⟨rfl,rfl⟩
 | call hg g h i=>cases b:e.op<;>rw[b]at g a<;>first|(cases a;done)|(cases g;done)
 | callN _ b=>rw[b]at a;cases a
 | zc _ b=>rw[b]at a;cases a
theorem Xh{f:gj}{H:U}{e:gy}{n:Nat}{rc:Rc}{d:D}{δ:Dl}(h:Ef C f H e n rc d δ)(a:Qu e.op=true):rc.W = []:=by
 by_cases g:FT e.op=true
 .exact(Qn h g).2
 .cases h with
  | op hg b i=>
   cases c:e.op<;>rw[c]at b a g<;>simp only[gf]at b<;>first|(cases a;done)|(exact absurd rfl g)|skip
   case call=>cases b
   case callv=>cases b
   all_goals
    have:=PJ b;subst this;rfl
  | off hg=>rfl
  | call=>rfl
  | callN _ c=>rw[c]at a;cases a
  | zc _ c=>rw[c]at a;cases a
theorem X3{f f':gj}{H H':U}{a b:gy}{n m:Nat}{g e:Rc}{x y:D}{δ k:Dl}(j:Ef C f H a n g x δ)(i:Ef C f' H' b m e y k)(h:Mw a.op b.op=true):uE g e=true:=by
 simp only[Mw,bV,Bool.and_eq_true]at h;rcases h with(h|h)|⟨h1,l⟩
 .obtain⟨d,c⟩:=Qn j h;simp[uE,d,c,sY]
 .obtain⟨d,c⟩:=Qn i h;simp[uE,d,c,sY]
 .simp[uE,Xh j h1,Xh i l,sY]
structure ml where
 k:Nat
 e:gy
 n:Nat
 rc:Rc
inductive Tx(C:FuncId->List D->D->U->Prop):gj->U->List ml->gj->U->Prop
 | nil {f H}:Tx C f H [] f H
 | cons {f H it r d δ f' H'} (h:Ef C f H it.e it.n it.rc d δ) (t:Tx C (lX f it.e.dst d) (kF it.n δ H) r f' H'):Tx C f H (it::r) f' H'
theorem Tx.each{f:gj}{H:U}{l:List ml}{f':gj}{H':U}(h:Tx C f H l f' H'):∀a∈l,∃f H d δ,Ef C f H a.e a.n a.rc d δ:=by
 induction h with
 | nil=>intro a b;cases b
 | cons h t c=>
  intro a b;rcases aw.1 b with rfl|b
  .exact⟨_,_,_,_,h⟩
  .exact c a b
theorem Tx.front{a:ml}{post:List ml}{f':gj}{H':U}:∀ {pre:List ml} {f:gj} {H:U},Tx C f H (pre++a::post) f' H'->(∀p∈pre,xg p.e a.e=true/\uE p.rc a.rc=true) ->
  ∃d δ,Ef C f H a.e a.n a.rc d δ/\Tx C (lX f a.e.dst d) (kF a.n δ H) (pre++post) f' H'
 | [],f,H,h,_=>by
  cases h with
  | cons h t=>exact⟨_,_,h,t⟩
 | p::pre,f,H,h,ha=>by
  cases h with
  | @cons _ _ _ _ d δ _ _ h t=>
   obtain⟨y,b,i,j⟩:=Tx.front (pre:=pre) t λq k=>ha q (by simp[k]);obtain⟨s1,g,e,c⟩:=swap h i (ha p (by simp)).1 (ha p (by simp)).2;refine⟨y,b,s1,.cons g ?_⟩;rw[<-e,<-c];exact j
end Go.AL
namespace Go.AL
open Go
structure SX(G:GT)(N:Nat)(c:Ctx)(w:World)(f:gj)(H:U)(ms:List Nat)(a:Act):Prop where
 ft:fO G c H w
 env:kc c w f a
 size:N<=a.tmps.size
 marks:qk c ms a.defers
section
variable{P:Program}{G:GT}{c:Ctx}{w:World}{f:gj}{H:U}{ms:List Nat}{a:Act}{N:Nat}
theorem ajp{f:gj}{a:Act}{c:Ctx}{w:World}(b:kc c w f a)(hN:N<=a.tmps.size){dst:Option Tmp}(g:r8 N dst=true){v:Value}{d:D}(i:fr c w v d) :
  kc c w (lX f dst d) (a.put dst v):=by
 cases dst with
 | none=>exact b
 | some t=>
  have h:t<a.tmps.size:=aI (by simpa[r8]using g) hN;intro k;simp only[lX,Act.put];split
  .simp_all
  .rename_i e;have:(a.tmps.setIfInBounds t v).getD k undef=a.tmps.getD k undef:=by simp_all
   rw[this];exact b k
theorem SX.next{c':Ctx}{w':World}{H':U}(hs:SX G N c w f H ms a)(ft:fO G c' H' w')(e:Step H.length c H w c' H' w'){dst:Option Tmp}(i:r8 N dst=true)
  {v:Value} {d:D} (g:fr c' w' v d):SX G N c' w' (lX f dst d) H' ms (a.put dst v) where
 ft:=ft
 env:=ajp (kc.carry (λ_ _ h=>h.oW hs.ft.toHeapOK e) hs.env) hs.size i g
 size:=by rw[W5];exact hs.size
 marks:=by
  rw[put_defers];refine hs.marks.mono λv L h=>e.old v 0 L ?_ h;rcases bw v H.length with b|b
  .exact b
  .rw[hs.ft.out v 0 b]at h;cases h
theorem YL{op:gZ}{n b:Nat}{d:D}{δ:Dl}(h:gf f H n op=some (d,δ))(a:∀ob,δ≠.new ob):gf f H b op=some (d,δ):=by
 cases op<;>simp only[gf]at h ⊢ <;> first|exact h|skip
 case box=>
  unfold rX at h;split at h
  .grind
  .cases h
 case alloc=>cases h;exact absurd rfl (a _)
 case buildSl=>
  unfold xH at h;split at h
  .grind
  .cases h
 case mkmap=>cases h;exact absurd rfl (a _)
 case mksl=>
  unfold Cy at h;split at h
  .grind
  .cases h
 case app=>
  unfold rr at h ⊢;split at h
  .grind
  .cases h
theorem DQ{d:D}(h:closed d=true):ma d=true/\jQ H.length d=d:=by
 cases d<;>first|(cases h;done)|skip
 case tup ds=>
  have b:=lD h;refine⟨?_,?_⟩
  .simp only[ma,vD,List.all_eq_true];intro d a;have:=b d a;cases d<;>first|rfl|exact this
  .simp only[jQ];congr 1
   conv=>rhs;rw[<-aS ds]
   refine ao λd a=>?_;have:=b d a;cases d<;>first|(cases this;done)|rfl
 case agg ds=>
  have b:=lD h;refine⟨?_,?_⟩
  .simp only[ma,vD,List.all_eq_true];intro d a;have:=b d a;cases d<;>first|rfl|exact this
  .simp only[jQ];congr 1
   conv=>rhs;rw[<-aS ds]
   refine ao λd a=>?_;have:=b d a;cases d<;>first|(cases this;done)|rfl
 all_goals exact⟨h,rfl⟩
theorem NP{d:D}(h:flat d=true):nO d=true/\jQ H.length d=d:=by
 cases d<;>first|(cases h;done)|skip
 case tup ds=>
  have b:∀d∈ds,flat d=true:=λd a=>by obtain⟨i,hi⟩:=aA.1 a;exact BJ h hi
  refine⟨?_,?_⟩
  .simp only[nO,vD,List.all_eq_true];intro d a;have:=b d a;cases d<;>first|rfl|exact this
  .simp only[jQ];congr 1
   conv=>rhs;rw[<-aS ds]
   refine ao λd a=>?_;have:=b d a;cases d<;>first|(cases this;done)|rfl
 case agg ds=>
  have b:∀d∈ds,flat d=true:=λd a=>by obtain⟨i,hi⟩:=aA.1 a;exact BJ h hi
  refine⟨?_,?_⟩
  .simp only[nO,vD,List.all_eq_true];intro d a;have:=b d a;cases d<;>first|rfl|exact this
  .simp only[jQ];congr 1
   conv=>rhs;rw[<-aS ds]
   refine ao λd a=>?_;have:=b d a;cases d<;>first|(cases this;done)|rfl
 all_goals exact⟨h,rfl⟩
variable{C:FuncId->List D->D->U->Prop}
theorem Tc(W:∀g args d Hn,C g args d Hn->rz P g=true/\xk P G g args [] d Hn)(hs:SX G N c w f H ms a){A:Array Oper}{o:Oper}{e:gy}{i:Nat}(hA:A[i]? = some o)
  (ho:uY P G N A o=some e) {n:Nat} {rc:Rc} {d:D} {δ:Dl} (hE:Ef C f H e n rc d δ) {x:Option Nat} {m:Nat} {Q:Exit->Act->World->Prop} {K:Act->World->Prop}
  (k:∀c' w' a',SX G N c' w' (lX f e.dst d) (kF n δ H) ms a'->Step H.length c H w c' (kF n δ H) w'->K a' w'):wpOpIn (FW x) m P A Q i K a w:=by
 obtain⟨s1,p,B,z⟩:=xO ho;unfold wpOpIn;simp only[hA]
 cases hE with
 | op hg h R=>
  have r:=tC hs.env z hg;have s1:=SP s1 h;simp only[r,if_true]
  have s:∀ {al:Al},mj H al->gf f H al.1 e.op=some (d,δ)->δ.app H al=kF n δ H->o.wpIn (FW x) m P a w K Q:=by
   intro al gH h S;obtain⟨v,w',J,d',H',c',⟨rfl,rfl⟩,ft,q,l⟩:=W2 (P:=P) (K:=λd' H'=>d'=d/\H'=δ.app H al) hs.ft hs.env gH s1 (Sd h ⟨rfl,rfl⟩);refine⟨λ_ _=>trivial,?_⟩;rw[Oper.semAt_plain (FW x) a.eval o (AA s1)];rw[S]at ft l;have j:=hs.next ft l B q
   rw[<-p]at j;have T:=k c' w' _ j l;rw[p]at T;rcases J with J|⟨J,rfl⟩
   .rw[J];exact T
   .rw[J];exact T
  by_cases Z:∃ob,δ = .new ob
  .obtain⟨ob,rfl⟩:=Z;exact s (al:=Al.kR H n) (mj.kR R) h rfl
  .have Y:∀ob,δ≠.new ob:=λob e=>Z ⟨ob,e⟩;refine s (al:=Al.last H) (mj.last H) (YL h Y) ?_;cases δ<;>first|rfl|exact absurd rfl (Y _)
 | off hg=>
  have r:=tC hs.env z hg;simp only[r,bp,if_false];refine⟨λ_ _=>trivial,?_⟩;have j:=hs.next hs.ft (Step.refl _ _ _ _) B (v:=undef) (d:=.val undef) (.val _)
  rw[<-p]at j;have:=k c w _ j (Step.refl _ _ _ _);rw[p]at this;exact this
 | @call g args d hg t h q=>
  have r:=tC hs.env z hg;have s1:=DT s1 t;simp only[r,if_true];obtain⟨F,I⟩:=W _ _ _ _ h;obtain⟨vs,M,L⟩:=Mh hs.ft hs.env s1 t F
  have iI:(if fR args then ma d&&([]:U).all nb else nO d&&([]:U).all oJ)=true/\jQ H.length d=d:=by
   by_cases O:fR args=true
   .rw[if_pos O]at q ⊢;obtain⟨a,b⟩:=DQ (H:=H) q;exact⟨by simp[a],b⟩
   .rw[if_neg O]at q ⊢;obtain⟨a,b⟩:=NP (H:=H) q;exact⟨by simp[a],b⟩
  have y:=W4 hs.ft L I iI.1;rw[iI.2,ay]at y;refine⟨λ_ _=>trivial,?_⟩;rw[Oper.semAt_plain (FW x) a.eval o (AA s1),M];refine⟨λh=>by simp[Fence.wide]at h,DO.2 (y.mono ?_)⟩;rintro e' w' ⟨v,c',rfl,ft,E,l⟩;have j:=hs.next ft l B E
  rw[<-p]at j;have:=k c' w' _ j l;rw[p]at this;exact this
 | @callN g as args d ob hg X V h q R=>
  have r:=tC hs.env z hg;simp only[r,if_true];have t:jS f e.op=some (g,args):=by rw[X,V];rfl
  have s1:=DT s1 t;obtain⟨F,I⟩:=W _ _ _ _ h;obtain⟨vs,M,L⟩:=Mh hs.ft hs.env s1 t F;have y:=ajn hs.ft L I q R;refine⟨λ_ _=>trivial,?_⟩;rw[Oper.semAt_plain (FW x) a.eval o (AA s1),M];refine⟨λh=>by simp[Fence.wide]at h,DO.2 (y.mono ?_)⟩;rintro e' w' ⟨v,c',rfl,ft,E,l⟩;have j:=hs.next ft l B E
  rw[<-p]at j;have:=k c' w' _ j l;rw[p]at this;exact this
 | @zc g as args d v hg X V hS hv gv h O q=>
  have r:=tC hs.env z hg;simp only[r,if_true];have t:jS f e.op=some (g,args):=by rw[X,V];rfl
  have s1:=DT s1 t;obtain⟨F,I⟩:=W _ _ _ _ h;obtain⟨vs,M,L⟩:=Mh hs.ft hs.env s1 t F;have y:=ajm hs.ft L hS gv I O q;refine⟨λ_ _=>trivial,?_⟩;rw[Oper.semAt_plain (FW x) a.eval o (AA s1),M];refine⟨λh=>by simp[Fence.wide]at h,DO.2 (y.mono ?_)⟩;rintro e' w' ⟨u,c',rfl,ft,E,l⟩;have j:=hs.next ft l B E
  rw[<-p]at j;have:=k c' w' _ j l;rw[p]at this;exact this
end
end Go.AL
namespace Go.AL
open Go
def xR(A:Array Oper):Bool:=(List.range A.size).all λi=>match A[i]? with
 | some o=>o.after.all λe => !Region.binds .any e||decide (e.on<i)
 | none=>true
def xa(A:Array Oper)(ord:List (List Nat)):Bool:=(List.range A.size).all λi=>match A[i]? with
 | some o=>(ord.getD i []).all λk=>o.after.any λe=>Region.binds .any e&&(e.on == k||(ord.getD e.on []).contains k)
 | none=>true
def Qj(l:List gy)(ord:List (List Nat))(c:List (Nat×Nat)):Bool:=(List.range l.length).all λi=>(List.range i).all λk=>
 (ord.getD i []).contains k||(match l[k]?,l[i]? with
  | some a,some b=>xg a b&&(c.contains (k,i)||Mw a.op b.op)
  | _,_=>false)
section
variable{P:Program}{G:GT}{A:Array Oper}{ord:List (List Nat)}
theorem aak(h:xR A=true){i:Nat}{o:Oper}(hi:A[i]? = some o){e:Edge}(a:e∈o.after)(b:Region.binds .any e=true):e.on<i:=by have:=List.all_eq_true.1 h i (a7.2 (aJ.1 hi).1);simp only[hi]at this;have:=cv.1 this e a;simpa[b]using this
theorem WV(h:xa A ord=true){i:Nat}{o:Oper}(hi:A[i]? = some o){k:Nat}(b:k∈ord.getD i []):∃e∈o.after,Region.binds .any e=true/\(e.on=k\/k∈ord.getD e.on []):=by have:=List.all_eq_true.1 h i (a7.2 (aJ.1 hi).1);simp only[hi]at this;have:=List.all_eq_true.1 this k b;obtain⟨e,c,a⟩:=Array.any_eq_true'.1 this;simp only[Bool.and_eq_true,bV,beq_iff_eq,da]at a;exact⟨e,c,a.1,a.2⟩
structure Left(A:Array Oper)(ord:List (List Nat))(rem:List ml)(listed:Array Bool):Prop where
 size:listed.size=A.size
 iff:∀j,j<A.size->(listed.getD j true=false↔∃it∈rem,it.k=j)
 sorted:rem.Pairwise λp q=>p.k<q.k
 lt:∀it∈rem,it.k<A.size
 down:∀i,i<A.size->listed.getD i false=true->∀k∈ord.getD i [],listed.getD k false=true
theorem ad0{rem:List ml}{a:Array Bool}(h:Left A ord rem a){j:Nat}(c:j<A.size):a.getD j false=true\/∃e∈rem,e.k=j:=by
 have d:j<a.size:=by rw[h.size];exact c
 cases b:a.getD j true with
 | false=>exact .inr ((h.iff j c).1 b)
 | true=>left;simp[d]at b ⊢;exact b
theorem aeu{rem:List ml}{a:Array Bool}(h:Left A ord rem a){b:ml}(c:b∈rem):a.getD b.k false=false:=by
 have d:=h.lt b c;have:=(h.iff b.k d).2 ⟨b,c,rfl⟩;have e:b.k<a.size:=by rw[h.size];exact d
 simp[e]at this ⊢;exact this
theorem Qv(j:xR A=true){b:ml}{rem:List ml}{a:Array Bool}(h:Left A ord (b::rem) a):b.k∈Region.ready .any A a:=by
 rw[mem_ready];have d:=h.lt b (by simp);refine⟨(h.iff b.k d).2 ⟨b,by simp,rfl⟩,A[b.k],by simp[d],λe g k=>?_⟩;have l:=aak j (i:=b.k) (o:=A[b.k]) (by simp[d]) g k;rcases ad0 h (show e.on<A.size by omega)with hl|⟨q,c,f⟩
 .exact hl
 .exfalso;rcases aw.1 c with rfl|c
  .omega
  .have:=(a8.1 h.sorted).1 q c;omega
theorem L7(k:xa A ord=true){rem:List ml}{a:Array Bool}(h:Left A ord rem a){i:Nat}(hi:i∈Region.ready .any A a){q:ml}(j:q∈rem):q.k ∉ ord.getD i []:=by
 intro m;obtain⟨_,o,r,g⟩:=mem_ready.1 hi;obtain⟨e,l,n,b⟩:=WV k r m;have c:=g e l n;have f:=aeu h j;rcases b with b|b
 .grind
 .have p:e.on<A.size:=by
   rcases bw e.on A.size with d|d
   .exact d
   .have:a.getD e.on false=false:=by
     have:a.size<=e.on:=by rw[h.size];exact d
     simp[dC this]
    rw[this]at c;cases c
  have:=h.down e.on p c q.k b;rw[this]at f;cases f
theorem PI(s:xa A ord=true){pre post:List ml}{b:ml}{a:Array Bool}(h:Left A ord (pre++b::post) a)(hi:b.k∈Region.ready .any A a) :
  Left A ord (pre++post) (a.setIfInBounds b.k true):=by
 have l:(pre++post).Sublist (pre++b::post):=dt (dD b post) pre
 have x:∀q∈pre++post,q.k≠b.k:=by
  intro q c;have:=bG.1 h.sorted;rcases List.mem_append.1 c with c|c
  .grind
  .have:=(a8.1 this.2.1).1 q c;omega
 have n:=h.lt b (by simp);refine⟨by simp[h.size],λj u=>?_,h.sorted.sublist l,λq c=>h.lt q (l.subset c),λi p hl k m=>?_⟩
 .by_cases e:b.k=j
  .simp_all
  .rw[getD_set_ne true e,h.iff j u];constructor
   .grind
   .grind
 .by_cases e:b.k=i
  .subst e;obtain⟨_,o,w,r⟩:=mem_ready.1 hi;obtain⟨e,t,v,f⟩:=WV s w m;have d:=r e t v;rcases f with rfl|f
   .exact getD_set_true d
   .have n:e.on<A.size:=by
     rcases bw e.on A.size with g|g
     .exact g
     .have:a.getD e.on false=false:=by
       have:a.size<=e.on:=by rw[h.size];exact g
       simp[dC this]
      rw[this]at d;cases d
    exact getD_set_true (h.down e.on n d k f)
  .rw[getD_set_ne false e]at hl;exact getD_set_true (h.down i p hl k m)
variable{C:FuncId->List D->D->U->Prop}{N:Nat}
theorem Se(n:Nat)(δ:Dl)(H:U):(kF n δ H).length=H.length:=by
 cases δ with
 | no=>rfl
 | cells v o xs=>simp only[kF,Dl.app];split<;>simp
 | obj v ob=>simp[kF,Dl.app]
 | new ob=>simp[kF,Dl.app,Al.kR]
theorem R9(y:∀g args d Hn,C g args d Hn->rz P g=true/\xk P G g args [] d Hn)(x:xR A=true)(t:xa A ord=true){z:Option Nat}{m:Nat}{Q:Exit->Act->World->Prop}{ms:List Nat}{f':gj}{H':U} :
  ∀(fuel:Nat) (rem:List ml) (b:Array Bool) (c:Ctx) (w:World) (f:gj) (H:U) (a:Act),rem.length=fuel->Left A ord rem b->SX G N c w f H ms a->Tx C f H rem f' H' ->
   (∀e∈rem,∃o,A[e.k]? = some o/\uY P G N A o=some e.e) ->
   (∀p∈rem,∀q∈rem,p.k<q.k->p.k∈ord.getD q.k []\/(xg p.e q.e=true/\uE p.rc q.rc=true)) ->
   (∀c' w' n,SX G N c' w' f' H' ms n->Step H.length c H w c' H' w'->Q .normal n w')->wpAnyIn (FW z) m P .any A Q fuel b a w
 | 0,rem,b,c,w,f,H,a,hl,lT,hs,ht,_,_,hQ=>by have:rem = []:=bf hl;subst this;cases ht;refine⟨?_,hQ c w a hs (Step.refl _ _ _ _)⟩;refine aR.2 λj D=>?_;obtain⟨h1,o,u,_⟩:=mem_ready.1 D;obtain⟨e,s,_⟩:=(lT.iff j (aJ.1 u).1).1 h1;cases s
 | fuel+1,rem,b,c,w,f,H,a,hl,lT,hs,ht,wB,ER,hQ=>by
  refine⟨λh0=>?_,λi hi=>?_⟩
  .cases rem with
   | nil=>cases hl
   | cons e rem=>
    have:=Qv x lT;rw[h0]at this;cases this
  .obtain⟨h1,o,u,_⟩:=mem_ready.1 hi;obtain⟨e,s,rfl⟩:=(lT.iff i (aJ.1 u).1).1 h1;obtain⟨pre,post,rfl⟩:=List.append_of_mem s
   have R:∀p∈pre,xg p.e e.e=true/\uE p.rc e.rc=true:=by
    intro p l;have I:p.k<e.k:=(bG.1 lT.sorted).2.2 p l e (by simp);rcases ER p (bA _ l) e (by simp) I with h|h
    .exact absurd h (L7 t lT hi (bA _ l))
    .exact h
   obtain⟨d,δ,F,E⟩:=ht.front R;obtain⟨o',O,M⟩:=wB e (by simp);have r:∀q∈pre++post,q∈pre++e::post:=λq k=>(dt (dD e post) pre).subset k;refine Tc y hs O M F λc' w' n J K=>?_;refine R9 y x t fuel (pre++post) _ c' w' _ _ n (by simp at hl ⊢;omega) (PI t lT hi) J E (λq k=>wB q (r q k)) (λp l q k=>ER p (r p l) q (r q k)) λc2 w2 L B v=>?_;rw[Se]at v;exact hQ c2 w2 L B (K.trans v (Nat.le_refl _))
theorem Sb(g:xR A=true)(e:xa A ord=true){F:Fence}{m:Nat}{Q:Exit->Act->World->Prop} :
  ∀(lasts:List ml) (ops:List Oper) (b:Array Bool) (a:Act) (w:World),Left A ord lasts b->(∀q∈lasts,∀k,k<q.k->k∈ord.getD q.k [])->lasts.map (λq=>A[q.k]?)=ops.map some ->
   wpListIn F m P A Q ops a w->wpAnyIn F m P .any A Q lasts.length b a w
 | [],ops,b,a,w,lT,_,wJ,h=>by
  have:ops = []:=by simpa using wJ.symm
  subst this;refine⟨aR.2 λj s=>?_,h⟩;obtain⟨h1,o,f,_⟩:=mem_ready.1 s;obtain⟨c,d,_⟩:=(lT.iff j (aJ.1 f).1).1 h1;cases d
 | q::lasts,ops,b,a,w,lT,hl,wJ,h=>by
  cases ops with
  | nil=>simp at wJ
  | cons o ops=>
   simp only[List.map_cons,cW]at wJ;refine⟨λh0=>?_,λi hi=>?_⟩
   .have:=Qv g lT;rw[h0]at this;cases this
   .obtain⟨h1,o',f,_⟩:=mem_ready.1 hi;obtain⟨c,d,rfl⟩:=(lT.iff i (aJ.1 f).1).1 h1
    have d:c=q:=by
     rcases aw.1 d with h|h
     .exact h
     .have t:q.k<c.k:=(a8.1 lT.sorted).1 c h;exact absurd (hl c (aY _ h) q.k t) (L7 e lT hi (q:=q) (by simp))
    subst d;have r:=PI (pre:=[]) (post:=lasts) e lT hi
    have l:∀a w,wpListIn F m P A Q ops a w->wpAnyIn F m P .any A Q lasts.length (b.setIfInBounds c.k true) a w:=λa w h=>
     Sb g e lasts ops _ a w r (λq p=>hl q (aY _ p)) wJ.2 h
    unfold wpOpIn;simp only[wJ.1];simp only[wpListIn]at h;split
    .rename_i n;simp only[n,if_true]at h;exact Oper.wpIn_mono l h
    .grind
theorem Sa(E:∀g args d Hn,C g args d Hn->rz P g=true/\xk P G g args [] d Hn)(x:xR A=true)(r:xa A ord=true){B:Option Nat}{m:Nat}{Q:Exit->Act->World->Prop}{ms:List Nat}{f':gj}{H':U}{lasts:List ml}{ops:List Oper}
  (t:∀q∈lasts,∀k,k<q.k->k∈ord.getD q.k []) (z:lasts.map (λq=>A[q.k]?)=ops.map some) :
  ∀(fuel:Nat) (rem:List ml) (b:Array Bool) (c:Ctx) (w:World) (f:gj) (H:U) (a:Act),rem.length=fuel->Left A ord (rem++lasts) b->SX G N c w f H ms a->Tx C f H rem f' H' ->
   (∀e∈rem,∃o,A[e.k]? = some o/\uY P G N A o=some e.e) ->
   (∀p∈rem,∀q∈rem,p.k<q.k->p.k∈ord.getD q.k []\/(xg p.e q.e=true/\uE p.rc q.rc=true)) ->
   (∀c' w' s,SX G N c' w' f' H' ms s->Step H.length c H w c' H' w'->wpListIn (FW B) m P A Q ops s w')->wpAnyIn (FW B) m P .any A Q (fuel+lasts.length) b a w
 | 0,rem,b,c,w,f,H,a,hl,lT,hs,ht,_,_,hQ=>by have:rem = []:=bf hl;subst this;cases ht;rw[aL];exact Sb x r lasts ops b a w lT t z (hQ c w a hs (Step.refl _ _ _ _))
 | fuel+1,rem,b,c,w,f,H,a,hl,lT,hs,ht,wB,ER,hQ=>by
  have F:∀q∈rem,∀l∈lasts,q.k<l.k:=λq j l hl=>(bG.1 lT.sorted).2.2 q j l hl;rw[show fuel+1+lasts.length=(fuel+lasts.length)+1 by omega];refine⟨λh0=>?_,λi hi=>?_⟩
  .cases rem with
   | nil=>cases hl
   | cons e rem=>
    have:=Qv (rem:=rem++lasts) x lT;rw[h0]at this;cases this
  .obtain⟨h1,o,L,_⟩:=mem_ready.1 hi;obtain⟨e,v,rfl⟩:=(lT.iff i (aJ.1 L).1).1 h1
   have v:e∈rem:=by
    rcases List.mem_append.1 v with h|h
    .exact h
    .cases rem with
     | nil=>cases hl
     | cons q rem=>exact absurd (t e h q.k (F q (by simp) e h)) (L7 r lT hi (q:=q) (by simp))
   obtain⟨pre,post,rfl⟩:=List.append_of_mem v;have y:Left A ord (pre++e::(post++lasts)) b:=by simpa using lT
   have W:∀p∈pre,xg p.e e.e=true/\uE p.rc e.rc=true:=by
    intro p n;have M:p.k<e.k:=(bG.1 y.sorted).2.2 p n e (by simp);rcases ER p (bA _ n) e (by simp) M with h|h
    .exact absurd h (L7 r y hi (bA _ n))
    .exact h
   obtain⟨d,δ,K,J⟩:=ht.front W;obtain⟨o',V,T⟩:=wB e (by simp);have u:∀q∈pre++post,q∈pre++e::post:=λq j=>(dt (dD e post) pre).subset j;refine Tc E hs V T K λc' w' s O R=>?_;refine Sa E x r t z fuel (pre++post) _ c' w' _ _ s (by simp at hl ⊢;omega) (by simpa using PI r y hi) O J (λq j=>wB q (u q j)) (λp n q j=>ER p (u p n) q (u q j)) λc2 w2 S I D=>?_;rw[Se]at D;exact hQ c2 w2 S I (R.trans D (Nat.le_refl _))
end
end Go.AL
namespace Go.AL
open Go
abbrev room(k:Nat):U:=List.replicate k .kR
section
variable{f:gj}{H:U}{r:Nat}
theorem KF(v:Nat)(o:Ob)(a:o≠.kR):(H++room r)[v]? = some o↔H[v]? = some o:=by grind
theorem QG(v:Nat):rowsOf (H++room r) v=rowsOf H v:=by
 unfold rowsOf
 cases h:H[v]? with
 | none=>
  cases a:(H++room r)[v]? with
  | none=>rfl
  | some o=>
   cases o<;>first|rfl|skip
   rw[KF v _ (by simp)]at a;rw[h]at a;cases a
 | some o=>
  have:(H++room r)[v]? = some o:=by grind
  rw[this]
theorem yM(v g:Nat):rowAt (H++room r) v g=rowAt H v g:=by rw[yN,yN,QG]
theorem PX(v:Nat):kK (H++room r) v=kK H v:=by
 unfold kK
 cases h:H[v]? with
 | none=>
  cases a:(H++room r)[v]? with
  | none=>rfl
  | some o=>
   cases o<;>first|rfl|skip
   rw[KF v _ (by simp)]at a;rw[h]at a;cases a
 | some o=>
  have:(H++room r)[v]? = some o:=by grind
  rw[this]
theorem QZ(sz:Nat)(d:D):ki sz (H++room r) d=ki sz H d:=by
 cases d<;>first|rfl|skip
 simp only[ki,yM]
theorem YM(n:Nat)(op:gZ):gf f (H++room r) n op=gf f H n op:=by
 cases op<;>simp only[gf]<;>first|rfl|skip
 case ld1=>simp only[vA,yM]
 case ldN=>simp only[uw,yM]
 case st1=>simp only[AY,yM]
 case stN=>simp only[AZ,yM]
 case lookup=>simp only[Ar,PX]
 case mapUpd=>simp only[yC,PX]
 case len=>simp only[mB,PX]
 case b2s=>simp only[Bp,QZ]
 case app=>simp only[rr,QZ,yM]
 case copy=>simp only[xP,QZ,yM]
 case slcArr=>simp only[yR,yM]
theorem F3(k:Nat)(d:D):gN (H++room r) k d=gN H k d/\fy (λ_=>none) (H++room r) k d=fy (λ_=>none) H k d:=
 F1 (H1:=H) (H2:=H++room r) k d λv _=>(QG v).symm
theorem KA(op:gZ):gi f (H++room r) op=gi f H op:=by
 have key:∀args:List D,args.map (gN (H++room r) 40)=args.map (gN H 40):=λargs=>ao λd _=>(F3 40 d).1;cases op<;>first|rfl|skip
 case call g args=>simp only[gi,key]
 case callN g args=>simp only[gi,key]
 case callv g args=>simp only[gi,key]
 case len k x=>cases k<;>rfl
theorem XA{v g:Nat}{x:TypeId×List D}(h:rowAt H v g=some x):v<H.length:=(ae.1 (F7 h)).1
theorem aee{v:Nat}{x:KK×List (Value×D)}(h:kK H v=some x):v<H.length:=(ae.1 (sI h)).1
def Safe(H:U):Dl->Prop
 | .no=>True
 | .cells v o xs=>∃t g cs,H[v]? = some (.row t g cs)/\o+xs.length<=cs.length
 | .obj v _=>v<H.length
 | .new _=>True
theorem YN{op:gZ}{n:Nat}{d:D}{δ:Dl}(h:gf f H n op=some (d,δ)):Safe H δ:=by
 have hl:∀ {o:Option D},lift o=some (d,δ)->Safe H δ:=λh=>by rw[(lH h).2];trivial
 cases op<;>simp only[gf]at h<;>first|exact hl h|(cases h;done)|skip
 case box=>unfold rX at h;split at h<;>cases h;trivial
 case alloc=>cases h;trivial
 case mkmap=>cases h;trivial
 case buildSl=>
  unfold xH at h;split at h
  .split at h<;>cases h;trivial
  .cases h
 case mksl=>
  unfold Cy at h;split at h
  .split at h<;>cases h;trivial
  .cases h
 case st1=>
  unfold AY at h;split at h
  .split at h
   .rename_i v g o _ t cs a;split at h
    .rename_i c;cases h;exact⟨_,_,_,F7 a,by simp;omega⟩
    .cases h
   .cases h
  .cases h
 case stN=>
  unfold AZ at h;split at h
  .split at h
   .rename_i v g o xs _ _ t cs a;split at h
    .rename_i c;cases h;exact⟨_,_,_,F7 a,by simp;omega⟩
    .cases h
   .cases h
  .cases h
 case mapUpd=>
  unfold yC at h;split at h
  .split at h
   .rename_i b;split at h
    .cases h;exact aee b
    .cases h
   .cases h
  .cases h
 case app=>
  unfold rr at h;split at h
  .split at h
   .split at h
    .rename_i a;split at h
     .cases h;exact XA a
     .cases h
    .cases h
   .split at h
    .cases h;trivial
    .cases h
   .split at h
    .cases h;trivial
    .split at h
     .cases h;trivial
     .cases h
   .cases h
  .cases h
 case copy=>
  unfold xP at h;split at h
  .split at h
   .rename_i a;split at h
    .cases h;exact XA a
    .cases h
   .cases h
  .cases h;trivial
  .cases h
theorem M0{δ:Dl}(hs:Safe H δ)(k:Nat)(c:(δ.app H (Al.last H)).length<=k) :
  kF H.length δ (H++room (k-H.length))=δ.app H (Al.last H)++room (k-(δ.app H (Al.last H)).length)/\Fits H.length δ (H++room (k-H.length)):=by
 cases δ with
 | no=>exact⟨rfl,trivial⟩
 | cells v o xs=>
  obtain⟨t,g,cs,h1,d⟩:=hs;have b:=(ae.1 h1).1;have a:(H++room (k-H.length))[v]? = some (.row t g cs):=by rw[ah b];exact h1
  refine⟨?_,t,g,cs,a,d⟩;simp only[kF,Dl.app,a,h1,aF];rw[bk _ _ b]
 | obj v ob=>
  refine⟨?_,trivial⟩;simp only[kF,Dl.app,aF];rw[bk _ _ hs]
 | new ob=>
  simp only[Dl.app,Al.last,ar,aG,cM,aL]at c ⊢;have e:k-H.length=(k-(H.length+1))+1:=by omega
  refine⟨?_,?_⟩
  .simp only[kF,Dl.app,Al.kR];rw[e,room,bt,dR _ _ (Nat.le_refl _)];simp[aM]
  .show(H++room (k-H.length))[H.length]? = some .kR;rw[e,ai (Nat.le_refl _)];simp[bt]
end
section
variable{G:GT}{c:Ctx}{w:World}{H:U}
theorem LA{r v:Nat}{L:Loc}:kX c (H++room r) v L↔kX c H v L:=by
 constructor
 .rintro⟨o,b,a,d⟩;rw[KF v o (by rintro rfl;cases a)]at b;exact⟨o,b,a,d⟩
 .rintro⟨o,b,a,d⟩;exact⟨o,(KF v o (by rintro rfl;cases a)).2 b,a,d⟩
theorem Qi{r b:Nat}:lz c (H++room r) b↔lz c H b:=by
 constructor
 .rintro⟨v,L,hl,r⟩;exact⟨v,L,LA.1 hl,r⟩
 .rintro⟨v,L,hl,r⟩;exact⟨v,L,LA.2 hl,r⟩
theorem Xx(h:fO G c H w)(r:Nat):fO G c (H++room r) w where
 inj v v' L L' h1 h2:=h.inj v v' L L' (LA.1 h1) (LA.1 h2)
 lt b hb:=h.lt b (Qi.1 hb)
 nF b hb:=h.nF b (Qi.1 hb)
 jX:=h.jX
 out v k a:=h.out v k (by simp at a;omega)
 lO v o k ho hk:=by
  rcases bw v H.length with a|a
  .rw[ah a]at ho;exact h.lO v o k ho hk
  .exact h.out v k a
 ob v o ho:=by
  rcases bw v H.length with a|a
  .rw[ah a]at ho;exact h.ob v o ho
  .rw[ai a,List.getElem?_replicate]at ho;split at ho
   .cases ho;simp only[gA];exact h.out v _ a
   .cases ho
 gl:=h.gl
 rt:=h.rt
theorem Xy(r n:Nat):Step n c H w c (H++room r) w:=
 ⟨⟨rfl,Nat.le_refl _⟩,rfl,rfl,Nat.le_refl _,rfl,λ_ h=>h,λ_ h=>.inl h,λ_ _ _=>rfl,λ_ _ _ _ h=>h,λ_ h=>.inr (Qi.1 h)⟩
