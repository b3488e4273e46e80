/- Part 5 of DisputeMatchesReference. -/
import Derived.Test.YtmehofoficaelaaGreatDoorM04
set_option linter.all false
open Option renaming some→aE,none→cj
open List renaming all_eq_true→bb,mem_of_getElem?→b4,range→dr,append_of_mem→dx,map_cons→ek,length→List.l
open Bool renaming true→bs,false→cp,false_or→eh
open Nat renaming le_refl→di
namespace Go.AL
open Go
section
variable{P:Program}{G:GT}{c c2:Ctx}{H Hn:gg}{w w2:World}{N:Nat}
theorem mL{ds:List D}(h:gN ds=bs):∀d∈ds,closed d=true:=λd a=>by obtain⟨i,hi⟩:=aH.1 a;exact za h hi
theorem sq{ρ:Nat->Option Nat}{k:Nat}{d:D}(h:closed d=bs):gA ρ H k d=d:=by cases k<;>(unfold gA;simp[h])
def Ctx.join(c c2:Ctx)(n:Nat)(F:Nat->Prop):Ctx where
 ι:=λv g=>if v<n then c.ι v g else c2.ι (v-n) g
 F:=F
 RT:=c.RT
theorem Jb{F:Nat->Prop}{v:Nat}{L:Loc}(h:mJ (c.join c2 H.l F) (H++Hn) v L):(v<H.l/\mJ c H v L)\/(H.l<=v/\mJ c2 Hn (v-H.l) L):=by
 obtain⟨o,b,e,d⟩:=h;rcases bJ v H.l with a|a
 .rw[ah a]at b;simp only[Ctx.join,if_pos a]at d;exact .inl ⟨a,o,b,e,d⟩
 .rw[ak a]at b;simp only[Ctx.join,if_neg (fX.2 a)]at d;exact .inr ⟨a,o,b,e,d⟩
theorem iy.abf{c c':Ctx}{w:World}{L:Option Loc}{kk:KK}{es:List (Value×D)}(h:iy c w L (.map kk es))(k:∀x∈es,∀u,gq c w u x.2->gq c' w u x.2):iy c' w L (.map kk es):=by
 cases L with
 | none=>simp[iy]at h
 | some L=>
  obtain⟨h1,n,arr,f,m,g⟩:=h;exact⟨h1,n,arr,f,m,g.1,λi e x l j=>let ⟨a,b,d⟩:=g.2.1 i e x l j;⟨a,k x (b4 j) _ b,d⟩,g.2.2⟩
structure Au(G:GT)(c c2:Ctx)(H Hn:gg)(w w2:World)(F:Nat->Prop):Prop where
 gu:gL G c H w
 ot:gL G c2 Hn w2
 rm:kN w w2
 fresh:∀b,mZ c2 Hn b->w.heap.size<=b
 le:∀b,c.F b->F b
 lt:∀b,F b->b<w2.heap.size
 n1:∀b,F b->¬mZ c H b
 n2:∀b,F b->¬mZ c2 Hn b
 new:∀b,F b->c.F b\/w.heap.size<=b
 rows:∀(v:Nat) (o:Ob),Hn[v]? = aE o->(∃t g cs,o = .row t g cs/\∀d∈cs,∀u,gq c2 w2 u d->gq (c.join c2 H.l F) w2 u d)\/∃kk es,o = .map kk es/\∀x∈es,∀u,gq c2 w2 u x.2->gq (c.join c2 H.l F) w2 u x.2
variable{F:Nat->Prop}
theorem aal(j:Au G c c2 H Hn w w2 F){u:Value}{d:D}(h:gq c w u d):gq (c.join c2 H.l F) w2 u d:=by
 refine h.carry (λv k L a=>?_) j.le (λb o f=>Hy (j.rm.kept b (j.gu.lF b f)))
 have e:v<H.l:=by
  rcases bJ v H.l with h|h
  .exact h
  .rw[j.gu.out v k h]at a;cases a
 simp only[Ctx.join,if_pos e];exact a
theorem Pt(j:Au G c c2 H Hn w w2 F):gL G (c.join c2 H.l F) (H++Hn) w2 where
 inj v v' L L' h1 p n m he:=by
  rcases Jb h1 with⟨a,b⟩|⟨a,b⟩<;>rcases Jb p with⟨I,q⟩|⟨I,q⟩
  .exact j.gu.inj v v' L L' b q n m he
  .have:=j.gu.lt _ ⟨v,L,b,n,rfl⟩;have:=j.fresh _ ⟨_,L',q,m,rfl⟩;omega
  .have:=j.gu.lt _ ⟨v',L',q,m,rfl⟩;have:=j.fresh _ ⟨_,L,b,n,rfl⟩;omega
  .have:=j.ot.inj _ _ L L' b q n m he;omega
 lt b hb:=by
  obtain⟨v,L,hl,f,e⟩:=hb;rcases Jb hl with⟨_,hl⟩|⟨_,hl⟩
  .exact aR (j.gu.lt b ⟨v,L,hl,f,e⟩) j.rm.size
  .exact j.ot.lt b ⟨_,L,hl,f,e⟩
 nF b hb hF:=by
  obtain⟨v,L,hl,f,e⟩:=hb;rcases Jb hl with⟨_,hl⟩|⟨_,hl⟩
  .exact j.n1 b hF ⟨v,L,hl,f,e⟩
  .exact j.n2 b hF ⟨_,L,hl,f,e⟩
 lF b hb:=j.lt b hb
 out v k f:=by simp only[ar]at f;simp only[Ctx.join,if_neg (U:¬v<H.l)];exact j.ot.out _ k U
 nC v o k ho hk:=by
  rcases bJ v H.l with f|f
  .rw[ah f]at ho;simp only[Ctx.join,if_pos f];exact j.gu.nC v o k ho hk
  .rw[ak f]at ho;simp only[Ctx.join,if_neg (fX.2 f)];exact j.ot.nC _ o k ho hk
 ob v o ho:=by
  rcases bJ v H.l with f|f
  .rw[ah f]at ho;simp only[Ctx.join,if_pos f];exact iy.keep (c:=c) (c':=c.join c2 H.l F) rfl (λ_ _ h=>aal j h) (λl hl A r=>j.rm.kept _ (j.gu.lt _ ⟨v,l,⟨o,ho,r,hl⟩,A,rfl⟩)) (j.gu.ob v o ho)
  .rw[ak f]at ho;simp only[Ctx.join,if_neg (fX.2 f)];have h0:=j.ot.ob _ o ho;rcases j.rows _ o ho with⟨t,g,cs,rfl,s⟩|⟨kk,es,rfl,s⟩
   rotate_left
   .exact iy.abf h0 λx D u E=>s x D u E
   simp only[Ob.gen]at h0 ⊢
   cases y:c2.ι (v-H.l) g with
   | none=>rw[y]at h0;simp[iy]at h0
   | some L=>
    rw[y]at h0;simp only[iy]at h0 ⊢;split
    .grind
    .rename_i z;simp only[z]at h0;obtain⟨arr,h1,p,n,m⟩:=h0;refine⟨arr,h1,p,n,λi d r=>?_⟩;obtain⟨x,C,B,J⟩:=m i d r;exact⟨x,C,B,s d (b4 r) _ J⟩
 gl g cs hg:=by obtain⟨h1,p⟩:=j.gu.gl g cs hg;exact⟨h1,aal j p⟩
 rt:=j.gu.rt
theorem Pu(j:Au G c c2 H Hn w w2 F):Step H.l c H w (c.join c2 H.l F) (H++Hn) w2 where
 os:=j.rm.os
 tape:=j.rm.tape
 output:=j.rm.output
 size:=j.rm.size
 RT:=rfl
 Fm b hb:=j.le b hb
 Fn b hb:=(j.new b hb).imp id .inl
 kept b hb _:=j.rm.kept b hb
 old v k L a h:=by simp only[Ctx.join,if_pos a];exact h
 own b hb:=by
  obtain⟨v,L,hl,a,e⟩:=hb;rcases Jb hl with⟨_,hl⟩|⟨_,hl⟩
  .exact .inr ⟨v,L,hl,a,e⟩
  .exact .inl (j.fresh b ⟨_,L,hl,a,e⟩)
theorem Qd(j:Au G c c2 H Hn w w2 F){p:D->Bool}(m:∀d u,p d=bs->gq c2 w2 u d->gq (c.join c2 H.l F) w2 u d){u:Value}{r:D}
  (b:gq c2 w2 u r) (h:yF p r=bs):gq (c.join c2 H.l F) w2 u (lz H.l r):=by
 have n:∀v g sz off len u,gq c2 w2 u (.gh v g sz off len)->gq (c.join c2 H.l F) w2 u (.gh (v+H.l) g sz off len):=by
  intro v g sz off len u b
  cases b with
  | gh _ _ _ _ _ cap L l e q s o=>exact .gh _ g sz off len cap L (by simp only[Ctx.join];rw[if_neg U,e7];exact l) e q s o
  | nq _ _ _ _ L l a=>exact .nq _ g sz off L (by simp only[Ctx.join];rw[if_neg U,e7];exact l) a
 have h1:∀(d:D) (u:Value),zT p d=bs->gq c2 w2 u d->gq (c.join c2 H.l F) w2 u (zM H.l d):=by intro d u f b;cases d<;>first|exact n _ _ _ _ _ _ b|exact m _ _ f b
 cases r with
 | gM v=>
  cases b with
  | gM _ L l e=>exact .gM _ L (by simp only[Ctx.join];rw[if_neg U,e7];exact l) e
 | tup ds=>
  cases b with
  | tup vs _ hl yx=>
   simp only[lz];refine .tup vs _ (by simpa using hl) λi v d e f=>?_;simp only[ax,aq]at f;obtain⟨d0,k,rfl⟩:=f;exact h1 d0 v (bb.1 h d0 (b4 k)) (yx i v d0 e k)
 | agg ds=>
  cases b with
  | agg vs _ hl t yx=>
   simp only[lz];refine .agg vs _ (by simpa using hl) t λi v d e f=>?_;simp only[ax,aq]at f;obtain⟨d0,k,rfl⟩:=f;exact h1 d0 v (bb.1 h d0 (b4 k)) (yx i v d0 e k)
 | gh v g sz off len=>exact n _ _ _ _ _ _ b
 | _=>exact m _ _ h b
def Ctx.data(c:Ctx)(F:Nat->Prop):Ctx where
 ι:=λ_ _=>cj
 F:=F
 RT:=c.RT
theorem N0(h:gL G c H w):gL G (c.data c.F) [] w where
 inj v v' L L' h1:=by obtain⟨o,a,_⟩:=h1;simp at a
 lt b d:=by obtain⟨v,L,⟨o,a,_⟩,_⟩:=d;simp at a
 nF b d:=by obtain⟨v,L,⟨o,a,_⟩,_⟩:=d;simp at a
 lF b d:=h.lF b d
 out _ _ _:=rfl
 nC _ _ _ _ _:=rfl
 ob v o a:=by simp at a
 gl g cs hg:=by obtain⟨h1,e⟩:=h.gl g cs hg;exact⟨h1,gq.closed (c:=c) (c':=c.data c.F) (λb d=>d) e (by simpa[AL.closed]using h1)⟩
 rt:=h.rt
theorem vB{c:Ctx}{b:Nat}:¬mZ c [] b:=by rintro⟨v,L,⟨o,a,_⟩,_⟩;simp at a
theorem CD{n:Nat}{c:Ctx}(hs:Step n c [] w c2 Hn w2):kN w w2:=
 ⟨hs.os,hs.tape,hs.output,hs.size,λb a=>hs.kept b a vB⟩
theorem WN{o:Ob}(h:pq o=bs):(∃t g cs,o = .row t g cs/\∀d∈cs,closed d=bs)\/∃kk es,o = .map kk es/\∀x∈es,closed x.2=true:=by
 cases o<;>simp only[pq]at h<;>first|cases h;done|skip
 .exact .inl ⟨_,_,_,rfl,mL h⟩
 .exact .inr ⟨_,_,rfl,bb.1 h⟩
theorem WO(h:Hn.all pq=bs){v:Nat}{o:Ob}(a:Hn[v]? = aE o):(∃t g cs,o = .row t g cs/\∀d∈cs,closed d=bs)\/∃kk es,o = .map kk es/\∀x∈es,closed x.2=true:=
 WN (bb.1 h o (b4 a))
theorem Ys(h:Hn.all rl=bs){v:Nat}{o:Ob}(a:Hn[v]? = aE o):∃t g cs,o = .row t g cs/\∀d∈cs,flat d=true:=by
 have:=bb.1 h o (b4 a);cases o<;>simp only[rl]at this<;>first|cases this;done|skip
 refine⟨_,_,_,rfl,λd b=>?_⟩;obtain⟨i,hi⟩:=aH.1 b;exact ER this hi
def Aa(P:Program)(G:GT)(f:FuncId)(args:List D)(H:gg)(d:D)(H':gg):Prop:=
 ∀(c:Ctx) (w:World) (vs:List Value),gL G c H w->j' c w vs args ->
  Calls P f vs.toArray w λe w'=>∃v c',e = .returned v/\gL G c' H' w'/\gq c' w' v d/\Step H.l c H w c' H' w'
def wR(P:Program)(G:GT)(f:FuncId)(args:List D)(H:gg)(R:D->gg->Prop):Prop:=
 ∀(c:Ctx) (w:World) (vs:List Value),gL G c H w->j' c w vs args ->
  Calls P f vs.toArray w λe w'=>∃v c' d H',e = .returned v/\R d H'/\H.l<=H'.l/\gL G c' H' w'/\gq c' w' v d/\Step H.l c H w c' H' w'
theorem wR.one{f:FuncId}{args:List D}{H:gg}{R:D->gg->Prop}{d:D}{H':gg}(h:wR P G f args H R)(h1:∀d' Hn,R d' Hn->d'=d/\Hn=H'):Aa P G f args H d H':=
 λc w vs i g=>(h c w vs i g).mono λ_ _ ⟨v,c',_,_,j,k,_,a,b,e⟩=>jZ
theorem U2:gA (λ_=>cj) H 40=gA (jc []) H 40:=rfl
theorem j'.map{c c':Ctx}{f:D->D}(b:∀v d,gq c w v d->gq c' w v (f d)){vs:List Value}{ds:List D}(h:j' c w vs ds):j' c' w vs (ds.map f):=by
 induction h with
 | nil=>exact .nil
 | cons h _ a=>exact .cons (b _ _ h) a
theorem ab1(gu:gL G c H w){f:FuncId}{vs:List Value}{args:List D}{d:D}(F:j' c w vs args)(A:Aa P G f (args.map (gA (λ_=>cj) H 40)) [] d Hn)
  (n:(if gN args then od d&&Hn.all pq else p5 d&&Hn.all rl)=bs) :
  Calls P f vs.toArray w λe w'=>∃v c',e = .returned v/\gL G c' (H++Hn) w'/\gq c' w' v (lz H.l d)/\Step H.l c H w c' (H++Hn) w':=by
 by_cases s:gN args=bs
 .rw[if_pos s]at n;simp only[ai]at n
  have e:args.map (gA (λ_=>cj) H 40)=args:=by
   conv=>rhs;rw[<-bf args]
   exact aw λd m=>sq (mL s d m)
  rw[e]at A
  have B:j' (c.data c.F) w vs args:=by
   clear A n e
   induction F with
   | nil=>exact .nil
   | cons h _ J=>
    simp only[gN,ai]at s;exact .cons (gq.closed (c:=c) (c':=c.data c.F) (λb a=>a) h s.1) (J s.2)
  refine(A _ w vs (N0 gu) B).mono ?_;rintro e w' ⟨v,c2,E,z,C,r⟩;have hg:=CD r
  have I:∀b,c2.F b->c.F b\/w.heap.size<=b:=λb a=>by
   rcases r.Fn b a with h|h|h
   .exact .inl h
   .exact .inr h
   .exact absurd h vB
  have j:Au G c c2 H Hn w w' c2.F:={
   gu:=gu
   ot:=z
   rm:=hg
   fresh:=λb a=>by
    rcases r.own b a with h|h
    .exact h
    .exact absurd h vB
   le:=λb a=>r.Fm b a
   lt:=z.lF
   n1:=λb a k=>by
    rcases I b a with h|h
    .exact gu.nF b k h
    .have:=gu.lt b k;omega
   n2:=λb a k=>z.nF b k a
   new:=I
   rows:=λv o k=>by
    rcases WO n.2 k with⟨t,g,cs,rfl,y⟩|⟨kk,es,rfl,y⟩
    .exact .inl ⟨t,g,cs,rfl,λd m u l=>gq.closed (c:=c2) (c':=c.join c2 H.l c2.F) (λb a=>a) l (y d m)⟩
    .exact .inr ⟨kk,es,rfl,λx K u l=>gq.closed (c:=c2) (c':=c.join c2 H.l c2.F) (λb a=>a) l (y x K)⟩ }
  exact⟨v,_,E,Pt j,Qd j (p:=AL.closed) (λd u m l=>gq.closed (c:=c2) (c':=c.join c2 H.l c2.F) (λb a=>a) l m) C n.1,Pu j⟩
 .rw[if_neg s]at n;simp only[ai]at n
  have B:j' (c.gA [] H) w vs (args.map (gA (λ_=>cj) H 40)):=F.map λv d h=>by rw[U2];exact BI gu 40 h
  have M:gL G (c.gA [] H) [] w:=Gd (ks:=[]) gu (λi j p q L=>by simp at L);refine(A _ w vs M B).mono ?_;rintro e w' ⟨v,c2,E,z,C,r⟩;have hg:=CD r
  have j:Au G c c2 H Hn w w' c.F:={
   gu:=gu
   ot:=z
   rm:=hg
   fresh:=λb a=>by
    rcases r.own b a with h|h
    .exact h
    .exact absurd h vB
   le:=λb a=>a
   lt:=λb a=>aR (gu.lF b a) hg.size
   n1:=λb a k=>gu.nF b k a
   n2:=λb a k=>by
    rcases r.own b k with h|h
    .have:=gu.lF b a;omega
    .exact absurd h vB
   new:=λb a=>.inl a
   rows:=λv o k=>by
    obtain⟨t,g,cs,rfl,y⟩:=Ys n.2 k
    exact .inl ⟨t,g,cs,rfl,λd m u l=>gq.flat l (y d m)⟩ }
  exact⟨v,_,E,Pt j,Qd j (p:=AL.flat) (λd u m l=>gq.flat l m) C n.1,Pu j⟩
theorem aox(gu:gL G c H w){f:FuncId}{vs:List Value}{args:List D}{R:D->gg->Prop}(I:j' c w vs args)(B:wR P G f (args.map (gA (λ_=>cj) H 40)) [] R)
  (l:∀d Hn,R d Hn->(if gN args then od d&&Hn.all pq else p5 d&&Hn.all rl)=bs) :
  Calls P f vs.toArray w λe w'=>∃v c' d Hn,e = .returned v/\R d Hn/\gL G c' (H++Hn) w'/\gq c' w' v (lz H.l d)/\Step H.l c H w c' (H++Hn) w':=by
 by_cases s:gN args=bs
 .simp only[if_pos s,ai]at l
  have e:args.map (gA (λ_=>cj) H 40)=args:=by
   conv=>rhs;rw[<-bf args]
   exact aw λd n=>sq (mL s d n)
  rw[e]at B
  have C:j' (c.data c.F) w vs args:=by
   clear B l e
   induction I with
   | nil=>exact .nil
   | cons h _ K=>
    simp only[gN,ai]at s;exact .cons (gq.closed (c:=c) (c':=c.data c.F) (λb a=>a) h s.1) (K s.2)
  refine(B _ w vs (N0 gu) C).mono ?_;rintro e w' ⟨v,c2,d,Hn,F,z,_,A,E,r⟩;have l:=l d Hn z;have hg:=CD r
  have J:∀b,c2.F b->c.F b\/w.heap.size<=b:=λb a=>by
   rcases r.Fn b a with h|h|h
   .exact .inl h
   .exact .inr h
   .exact absurd h vB
  have j:Au G c c2 H Hn w w' c2.F:={
   gu:=gu
   ot:=A
   rm:=hg
   fresh:=λb a=>by
    rcases r.own b a with h|h
    .exact h
    .exact absurd h vB
   le:=λb a=>r.Fm b a
   lt:=A.lF
   n1:=λb a k=>by
    rcases J b a with h|h
    .exact gu.nF b k h
    .have:=gu.lt b k;omega
   n2:=λb a k=>A.nF b k a
   new:=J
   rows:=λv o k=>by
    rcases WO l.2 k with⟨t,g,cs,rfl,y⟩|⟨kk,es,rfl,y⟩
    .exact .inl ⟨t,g,cs,rfl,λd n u m=>gq.closed (c:=c2) (c':=c.join c2 H.l c2.F) (λb a=>a) m (y d n)⟩
    .exact .inr ⟨kk,es,rfl,λx L u m=>gq.closed (c:=c2) (c':=c.join c2 H.l c2.F) (λb a=>a) m (y x L)⟩ }
  exact⟨v,_,d,Hn,F,z,Pt j,Qd j (p:=AL.closed) (λd u n m=>gq.closed (c:=c2) (c':=c.join c2 H.l c2.F) (λb a=>a) m n) E l.1,Pu j⟩
 .simp only[if_neg s,ai]at l
  have C:j' (c.gA [] H) w vs (args.map (gA (λ_=>cj) H 40)):=I.map λv d h=>by rw[U2];exact BI gu 40 h
  have N:gL G (c.gA [] H) [] w:=Gd (ks:=[]) gu (λi j p q M=>by simp at M);refine(B _ w vs N C).mono ?_;rintro e w' ⟨v,c2,d,Hn,F,z,_,A,E,r⟩;have l:=l d Hn z;have hg:=CD r
  have j:Au G c c2 H Hn w w' c.F:={
   gu:=gu
   ot:=A
   rm:=hg
   fresh:=λb a=>by
    rcases r.own b a with h|h
    .exact h
    .exact absurd h vB
   le:=λb a=>a
   lt:=λb a=>aR (gu.lF b a) hg.size
   n1:=λb a k=>gu.nF b k a
   n2:=λb a k=>by
    rcases r.own b k with h|h
    .have:=gu.lF b a;omega
    .exact absurd h vB
   new:=λb a=>.inl a
   rows:=λv o k=>by
    obtain⟨t,g,cs,rfl,y⟩:=Ys l.2 k
    exact .inl ⟨t,g,cs,rfl,λd n u m=>gq.flat m (y d n)⟩ }
  exact⟨v,_,d,Hn,F,z,Pt j,Qd j (p:=AL.flat) (λd u n m=>gq.flat m n) E l.1,Pu j⟩
def Ctx.pn(c c2:Ctx)(n:Nat)(F:Nat->Prop):Ctx where
 ι:=λv g=>if v=n then c2.ι 0 g else c.ι v g
 F:=F
 RT:=c.RT
theorem JC{n:Nat}{ob:Ob}(f:H[n]? = aE .mF){F:Nat->Prop}{v:Nat}{L:Loc}(h:mJ (c.pn c2 n F) (H.set n ob) v L):(v≠n/\mJ c H v L)\/(v=n/\mJ c2 [ob] 0 L):=by
 obtain⟨o,a,e,d⟩:=h;rw[tY (ae.1 f).1]at a
 by_cases b:v=n
 .subst b;rw[if_pos rfl]at a;cases a;simp only[Ctx.pn,if_true]at d;exact .inr ⟨rfl,ob,rfl,e,d⟩
 .rw[if_neg b]at a;simp only[Ctx.pn,if_neg b]at d;exact .inl ⟨b,o,a,e,d⟩
theorem aow(gu:gL G c H w){f:FuncId}{vs:List Value}{args:List D}{d:D}{ob:Ob}{n:Nat}(z:j' c w vs args)(Y:Aa P G f (args.map (gA (λ_=>cj) H 40)) [] d [ob])
  (K:(if gN args then od d&&pq ob else p5 d&&rl ob)=bs) (J:H[n]? = aE .mF) :
  Calls P f vs.toArray w λe w'=>∃v c',e = .returned v/\gL G c' (H.set n ob) w'/\gq c' w' v (lz n d)/\Step H.l c H w c' (H.set n ob) w':=by
 have gW:=(ae.1 J).1;have Zq:∀k,c.ι n k=none:=λk=>gu.nC n _ k J (.inl rfl)
 have E:∀(c2:Ctx) (w':World) (v:Value) (F:Nat->Prop),gL G c2 [ob] w'->gq c2 w' v d->kN w w'->(∀b,mZ c2 [ob] b->w.heap.size<=b)->(∀b,c.F b->F b)->(∀b,F b->b<w'.heap.size) ->
   (∀b,F b->¬mZ c H b)->(∀b,F b->¬mZ c2 [ob] b)->(∀b,F b->c.F b\/w.heap.size<=b)->∀(p:D->Bool),(∀d u,p d=bs->gq c2 w' u d->gq (c.pn c2 n F) w' u d)->yF p d=bs ->
   ((∃t g cs,ob = .row t g cs/\∀d∈cs,p d=bs)\/∃kk es,ob = .map kk es/\∀x∈es,p x.2=bs) ->
   gL G (c.pn c2 n F) (H.set n ob) w'/\gq (c.pn c2 n F) w' v (lz n d)/\Step H.l c H w (c.pn c2 n F) (H.set n ob) w':=by
  intro c2 w' v F ot m hg SL T a4 zw S8 nE p N y iA
  have carry:∀ {u:Value} {d:D},gq c w u d->gq (c.pn c2 n F) w' u d:=λh=>by
   refine h.carry (λv k L C=>?_) T (λb o M=>Hy (hg.kept b (gu.lF b M)));have ig:v≠n:=λe=>by rw[e,Zq]at C;cases C
   simp only[Ctx.pn,if_neg ig];exact C
  have IQ:∀v g sz off len u,gq c2 w' u (.gh v g sz off len)->(v=0)->gq (c.pn c2 n F) w' u (.gh (v+n) g sz off len):=by
   intro v g sz off len u z h0;subst h0
   cases z with
   | gh _ _ _ _ _ cap L B m kI jv nG=>exact .gh _ g sz off len cap L (by simp only[Ctx.pn,aV,if_true];exact B) m kI jv nG
   | nq _ _ _ _ L B a=>exact .nq _ g sz off L (by simp only[Ctx.pn,aV,if_true];exact B) a
  have hz:∀v g sz off len u,gq c2 w' u (.gh v g sz off len)->v=0:=by
   intro v g sz off len u z
   have:∃L,c2.ι v g=aE L:=by
    cases z with
    | gh _ _ _ _ _ cap L B=>exact⟨L,B⟩
    | nq _ _ _ _ L B=>exact⟨L,B⟩
   obtain⟨L,C⟩:=this;rcases dY v with h|h
   .exact h
   .rw[ot.out v g (by show 1<=v;exact h)]at C;cases C
  have a3:∀v u,gq c2 w' u (.gM v)->gq (c.pn c2 n F) w' u (.gM (v+n)):=by
   intro v u z
   cases z with
   | gM _ L B m=>
    have h0:v=0:=by
     rcases dY v with h|h
     .exact h
     .rw[ot.out v 0 (by show 1<=v;exact h)]at B;cases B
    subst h0;exact .gM _ L (by simp only[Ctx.pn,aV,if_true];exact B) m
  have h1:∀(d:D) (u:Value),zT p d=bs->gq c2 w' u d->gq (c.pn c2 n F) w' u (zM n d):=by intro d u y z;cases d<;>first|exact IQ _ _ _ _ _ _ z (hz _ _ _ _ _ _ z)|exact N _ _ y z
  refine⟨{
   inj:=λv v' L L' h1 A X W V=>by
    rcases JC J h1 with⟨a,b⟩|⟨a,b⟩<;>rcases JC J A with⟨a',Z⟩|⟨a',Z⟩
    .exact gu.inj v v' L L' b Z X W V
    .have:=gu.lt _ ⟨v,L,b,X,rfl⟩;have:=SL _ ⟨_,L',Z,W,rfl⟩;omega
    .have:=gu.lt _ ⟨v',L',Z,W,rfl⟩;have:=SL _ ⟨_,L,b,X,rfl⟩;omega
    .rw[a,a']
   lt:=λb r=>by
    obtain⟨v,L,hl,m,e⟩:=r;rcases JC J hl with⟨_,hl⟩|⟨_,hl⟩
    .exact aR (gu.lt b ⟨v,L,hl,m,e⟩) hg.size
    .exact ot.lt b ⟨_,L,hl,m,e⟩
   nF:=λb r M=>by
    obtain⟨v,L,hl,m,e⟩:=r;rcases JC J hl with⟨_,hl⟩|⟨_,hl⟩
    .exact zw b M ⟨v,L,hl,m,e⟩
    .exact S8 b M ⟨_,L,hl,m,e⟩
   lF:=a4
   out:=λv k m=>by simp only[az]at m;simp only[Ctx.pn,if_neg (U:¬v=n)];exact gu.out _ k m
   nC:=λv o k s hk=>by
    rw[tY gW]at s
    by_cases m:v=n
    .subst m;rw[if_pos rfl]at s;cases s;simp only[Ctx.pn,if_true];exact ot.nC 0 _ k rfl hk
    .rw[if_neg m]at s;simp only[Ctx.pn,if_neg m];exact gu.nC v o k s hk
   ob:=λv o s=>by
    rw[tY gW]at s
    by_cases m:v=n
    .subst m;rw[if_pos rfl]at s;cases s;simp only[Ctx.pn,if_true];have h0:=ot.ob 0 _ rfl;rcases iA with⟨t,g,cs,rfl,jD⟩|⟨kk,es,rfl,jD⟩
     rotate_left
     .exact iy.abf h0 λx hx u S=>N _ _ (jD x hx) S
     simp only[Ob.gen]at h0 ⊢
     cases C:c2.ι 0 g with
     | none=>rw[C]at h0;simp[iy]at h0
     | some L=>
      rw[C]at h0;simp only[iy]at h0 ⊢;split
      .grind
      .rename_i pF;simp only[pF]at h0;obtain⟨arr,h1,A,X,W⟩:=h0;refine⟨arr,h1,A,X,λi d y=>?_⟩;obtain⟨x,l9,lD,Dh⟩:=W i d y;exact⟨x,l9,lD,N d _ (jD d (b4 y)) Dh⟩
    .rw[if_neg m]at s;simp only[Ctx.pn,if_neg m];exact iy.keep (c:=c) (c':=c.pn c2 n F) rfl (λ_ _ h=>carry h) (λl hl mH y=>hg.kept _ (gu.lt _ ⟨v,l,⟨o,s,y,hl⟩,mH,rfl⟩)) (gu.ob v o s)
   gl:=λg cs hg=>by obtain⟨h1,A⟩:=gu.gl g cs hg;exact⟨h1,carry A⟩
   rt:=gu.rt },?_,?_⟩
  .cases d with
   | tup ds=>
    cases m with
    | tup vs _ hl yx=>
     simp only[lz];refine .tup vs _ (by simpa using hl) λi v d m Q=>?_;simp only[ax,aq]at Q;obtain⟨d0,R,rfl⟩:=Q;exact h1 d0 v (bb.1 y d0 (b4 R)) (yx i v d0 m R)
   | agg ds=>
    cases m with
    | agg vs _ hl s yx=>
     simp only[lz];refine .agg vs _ (by simpa using hl) s λi v d m Q=>?_;simp only[ax,aq]at Q;obtain⟨d0,R,rfl⟩:=Q;exact h1 d0 v (bb.1 y d0 (b4 R)) (yx i v d0 m R)
   | gh v g sz off len=>exact IQ _ _ _ _ _ _ m (hz _ _ _ _ _ _ m)
   | gM v=>exact a3 _ _ m
   | _=>exact N _ _ y m
  .exact{
    os:=hg.os
    tape:=hg.tape
    output:=hg.output
    size:=hg.size
    RT:=rfl
    Fm:=T
    Fn:=λb r=>(nE b r).imp id .inl
    kept:=λb r _=>hg.kept b r
    old:=λv k L m h=>by
     have ig:v≠n:=λe=>by rw[e,Zq]at h;cases h
     simp only[Ctx.pn,if_neg ig];exact h
    own:=λb r=>by
     obtain⟨v,L,hl,m,e⟩:=r;rcases JC J hl with⟨_,hl⟩|⟨_,hl⟩
     .exact .inr ⟨v,L,hl,m,e⟩
     .exact .inl (SL b ⟨_,L,hl,m,e⟩) }
 by_cases O:gN args=bs
 .simp only[if_pos O,ai]at K
  have e:args.map (gA (λ_=>cj) H 40)=args:=by
   conv=>rhs;rw[<-bf args]
   exact aw λd y=>sq (mL O d y)
  rw[e]at Y
  have uF:j' (c.data c.F) w vs args:=by
   clear Y K e
   induction z with
   | nil=>exact .nil
   | cons h _ ih=>
    simp only[gN,ai]at O;exact .cons (gq.closed (c:=c) (c':=c.data c.F) (λb r=>r) h O.1) (ih O.2)
  refine(Y _ w vs (N0 gu) uF).mono ?_;rintro e w' ⟨v,c2,V,A,m,I⟩;have hg:=CD I
  have M:∀b,c2.F b->c.F b\/w.heap.size<=b:=λb r=>by
   rcases I.Fn b r with h|h|h
   .exact .inl h
   .exact .inr h
   .exact absurd h vB
  obtain⟨m1,m2,m3⟩:=E c2 w' v c2.F A m hg (λb r=>by
    rcases I.own b r with h|h
    .exact h
    .exact absurd h vB) (λb r=>I.Fm b r) A.lF (λb r s=>by
    rcases M b r with h|h
    .exact gu.nF b s h
    .have:=gu.lt b s;omega) (λb r s=>A.nF b s r) M AL.closed (λd u y S=>gq.closed (c:=c2) (c':=c.pn c2 n c2.F) (λb r=>r) S y) K.1 (by
    exact WN K.2)
  exact⟨v,_,V,m1,m2,m3⟩
 .simp only[if_neg O,ai]at K
  have uF:j' (c.gA [] H) w vs (args.map (gA (λ_=>cj) H 40)):=z.map λv d h=>by rw[U2];exact BI gu 40 h
  have IM:gL G (c.gA [] H) [] w:=Gd (ks:=[]) gu (λi j p q N=>by simp at N);refine(Y _ w vs IM uF).mono ?_;rintro e w' ⟨v,c2,V,A,m,I⟩;have hg:=CD I
  obtain⟨m1,m2,m3⟩:=E c2 w' v c.F A m hg (λb r=>by
    rcases I.own b r with h|h
    .exact h
    .exact absurd h vB) (λb r=>r) (λb r=>aR (gu.lF b r) hg.size) (λb r s=>gu.nF b s r) (λb r s=>by
    rcases I.own b s with h|h
    .have:=gu.lF b r;omega
    .exact absurd h vB) (λb r=>.inl r) AL.flat (λd u y S=>gq.flat S y) K.1 (by
    have:=K.2;cases ob<;>simp only[rl]at this<;>first|(cases this;done)|skip
    refine .inl ⟨_,_,_,rfl,λd y=>?_⟩;obtain⟨i,hi⟩:=aH.1 y
    exact ER this hi)
  exact⟨v,_,V,m1,m2,m3⟩
theorem aoS{S:List Nat}{v:Nat}(c:v∈S):jc (nz H S) v=none:=by
 unfold jc nz;rw[dS];intro p b;obtain⟨u,_,rfl⟩:=au.1 b
 by_cases a:u=v
 .grind
 .simp[a]
theorem acC{v:Nat}:∀(k:Nat) (d:D),(∀u∈iO H k d,u=v)->AL.gA (jc (nz H [v])) H k d=AL.gA (λ_=>cj) H k d
 | 0,d,_=>rfl
 | k+1,d,h=>by
  have i:jc (nz H [v]) v=none:=aoS gf
  have b:∀(ds:List D),(∀u∈(ds.map (iO H k)).flatten,u=v)->ds.map (AL.gA (jc (nz H [v])) H k)=ds.map (AL.gA (λ_=>cj) H k):=λds o=>
   aw λd f=>acC k d λu a=>o u (bp.2 ⟨_,au.2 ⟨d,f,rfl⟩,a⟩)
  unfold iO at h;unfold AL.gA
  by_cases r:AL.closed d=bs
  .grind
  .simp only[if_neg r]at h ⊢
   cases d with
   | agg cs=>simp only[b cs h]
   | tup cs=>simp only[b cs h]
   | gH cs=>simp only[b cs h]
   | sl sz es=>
    have:es.map (λx=>x.map (AL.gA (jc (nz H [v])) H k))=es.map (λx=>x.map (AL.gA (λ_=>cj) H k)):=aw λe q=>b e λu a=>h u (bp.2 ⟨_,au.2 ⟨e,q,rfl⟩,a⟩);simp only[this]
   | fn g x y=>
    have h1:=b x λu a=>h u (bK _ a);have s:=b y λu a=>h u (bP _ a);simp only[h1,s]
   | gh u g sz off len=>
    have a:u=v:=h u gf;subst a;simp only[i]
    cases c:rowsOf H u with
    | none=>simp only[BM,c]
    | some p=>
     obtain⟨t,n,cs⟩:=p;simp only[BM,c]
     by_cases hg:n=g
     .simp only[hg,if_true]
      have:=b (cs.drop (off*sz)) λw m=>by obtain⟨l,hl,j⟩:=bp.1 m;obtain⟨d,f,rfl⟩:=au.1 hl;exact h w (by simp only[c];exact bh _ (bp.2 ⟨_,au.2 ⟨d,bC f,rfl⟩,j⟩))
      rw[this]
     .grind
   | ptr u g off=>
    have a:u=v:=h u gf;subst a;simp only[i]
    cases c:rowsOf H u with
    | none=>simp only[BM,c]
    | some p=>
     obtain⟨t,n,cs⟩:=p;simp only[BM,c]
     by_cases hg:n=g
     .simp only[hg,if_true]
      have:=b (cs.drop off) λw m=>by obtain⟨l,hl,j⟩:=bp.1 m;obtain⟨d,f,rfl⟩:=au.1 hl;exact h w (by simp only[c];exact bh _ (bp.2 ⟨_,au.2 ⟨d,bC f,rfl⟩,j⟩))
      rw[this]
     .grind
   | gM u=>
    have a:u=v:=h u gf;subst a;simp only[i]
   | jt u=>
    have a:u=v:=h u gf;subst a;simp only[i]
   | _=>rfl
theorem ais(h:gL G c H w){v:Nat}{t:TypeId}{g:Nat}{cs:List D}(p:H[v]? = aE (.row t g cs)) :
  ∃c',gL G c' (H.set v .dead) w/\Step H.l c H w c' (H.set v .dead) w/\(∀u d,gq c w u d->gq c' w u d)/\∀b,(c.gA (nz H [v]) H).F b->c'.F b:=by
 have E:=(ae.1 p).1
 have y:∀c':Ctx,(∀u k,c'.ι u k=c.ι u k)->∀u l,mJ c' (H.set v .dead) u l->u≠v/\mJ c H u l:=by
  rintro c' n u l ⟨o,i,z,hi⟩;rw[tY E]at i;split at i
  .cases i;cases z
  .rename_i m;exact⟨m,o,i,z,by rw[<-n];exact hi⟩
 let c':Ctx:={ c with F:=λb=>c.F b\/∃L,c.ι v g=aE L/\L.ko=cp/\L.b=b }
 have n:∀u k,c'.ι u k=c.ι u k:=λ_ _=>rfl;have B:∀u d,gq c w u d->gq c' w u d:=λu d R=>gq.carry (c:=c) (c':=c') (w:=w) (w':=w) (λ_ _ _ h=>h) (λb f=>Or.inl f) (λ_ _ _=>rfl) R;have J:∀b,mZ c' (H.set v .dead) b->mZ c H b:=λb ⟨u,l,hl,r⟩=>⟨u,l,(y c' n u l hl).2,r⟩
 refine⟨c',{
  inj:=λu O l Q h1 S=>h.inj u O l Q (y c' n _ _ h1).2 (y c' n _ _ S).2
  lt:=λb f=>h.lt b (J b f)
  nF:=λb f C=>by
   obtain⟨u,l,hl,M,e⟩:=f;obtain⟨m,K⟩:=y c' n u l hl;rcases C with C|⟨L,x,j,s⟩
   .exact h.nF b ⟨u,l,K,M,e⟩ C
   .exact m (h.inj u v l L K ⟨_,p,rfl,x⟩ M j (e.trans s.symm))
  lF:=λb f=>by
   rcases f with f|⟨L,x,j,s⟩
   .exact h.lF b f
   .exact s▸h.lt _ ⟨v,L,⟨_,p,rfl,x⟩,j,rfl⟩
  out:=λu k A=>h.out u k (by simpa using A)
  nC:=λu o k i q=>by
   rw[tY E]at i;split at i
   .cases i;rcases q with q|⟨q,_⟩<;>cases q
   .exact h.nC u o k i q
  ob:=λu o i=>by
   rw[tY E]at i;split at i
   .cases i;simp[iy]
   .exact iy.keep (c:=c) (c':=c') rfl B (λ_ _ _ _=>rfl) (h.ob u o i)
  gl:=λg cs hg=>let ⟨a,b⟩:=h.gl g cs hg;⟨a,B _ _ b⟩
  rt:=h.rt },?_,B,λb f=>?_⟩
 .exact{
   os:=⟨rfl,di _⟩,tape:=rfl,output:=rfl,size:=di _,RT:=rfl
   Fm:=λb f=>Or.inl f
   Fn:=λb f=>by
    rcases f with f|⟨L,x,j,s⟩
    .exact .inl f
    .exact .inr (.inr ⟨v,L,⟨_,p,rfl,x⟩,j,s⟩)
   kept:=λ_ _ _=>rfl
   old:=λ_ _ _ _ h=>h
   own:=λb f=>.inr (J b f) }
 .rcases f with f|⟨u,L,⟨o,i,z,I⟩,N,j,e⟩
  .exact .inl f
  .have A:u=v:=by
    by_cases m:u=v
    .exact m
    .exfalso;have P:=(ae.1 i).1
     have:jc (nz H [v]) u=aE u:=UO YE (by
      unfold nz
      simp[P,m])
     rw[this]at N;cases N
   subst A;rw[p]at i;cases i;exact .inr ⟨L,I,j,e⟩
theorem aov(gu:gL G c H w){f:FuncId}{vs:List Value}{args:List D}{d:D}{v:Nat}(o:j' c w vs args)(hS:∀u∈(args.map (iO H 40)).flatten,u=v)(k:(rowsOf H v).isSome=bs)
  (n:Aa P G f (args.map (AL.gA (λ_=>cj) H 40)) [] d []) (j:gN (args.map (AL.gA (λ_=>cj) H 40))=bs) (a:AL.closed d=bs) :
  Calls P f vs.toArray w λe w'=>∃u c',e = .returned u/\gL G c' (H.set v .dead) w'/\gq c' w' u d/\Step H.l c H w c' (H.set v .dead) w':=by
 have l:∃t g cs,H[v]? = aE (.row t g cs):=by
  unfold rowsOf at k;split at k
  .grind
  .cases k
 obtain⟨t,g,cs,l⟩:=l;obtain⟨p,k1,k2,k3,k4⟩:=ais gu l
 have m:j' p w vs (args.map (AL.gA (λ_=>cj) H 40)):=by
  have e:args.map (AL.gA (λ_=>cj) H 40)=args.map (AL.gA (jc (nz H [v])) H 40):=
   aw λd a=>(acC 40 d λu s=>hS u (bp.2 ⟨_,au.2 ⟨d,a,rfl⟩,s⟩)).symm
  have i:=j;rw[e]at i ⊢;have h0:=o.map (c':=c.gA (nz H [v]) H) (f:=AL.gA (jc (nz H [v])) H 40) λ_ _ h=>BI gu 40 h;generalize args.map (AL.gA (jc (nz H [v])) H 40)=as at h0 i;clear e j hS n o
  induction h0 with
  | nil=>exact .nil
  | cons h _ r=>
   simp only[gN,ai]at i;exact .cons (gq.closed (c:=c.gA (nz H [v]) H) (c':=p) k4 h i.1) (r i.2)
 have z:(args.map (AL.gA (λ_=>cj) H 40)).map (AL.gA (λ_=>cj) (H.set v .dead) 40)=args.map (AL.gA (λ_=>cj) H 40):=by
  conv=>rhs;rw[<-bf (args.map (AL.gA (λ_=>cj) H 40))]
  exact aw λd a=>sq (mL j d a)
 have q:od d=bs/\lz (H.set v .dead).l d=d:=by
  cases d<;>first|(cases a;done)|skip
  case tup ds=>
   simp only[AL.closed]at a;refine⟨?_,?_⟩
   .simp only[od,yF,bb];intro x b;have:=mL a x b;cases x<;>first|rfl|exact this
   .simp only[lz];congr 1
    conv=>rhs;rw[<-bf ds]
    refine aw λx b=>?_;have:=mL a x b;cases x<;>first|rfl|(cases this;done)
  case agg ds=>
   simp only[AL.closed]at a;refine⟨?_,?_⟩
   .simp only[od,yF,bb];intro x b;have:=mL a x b;cases x<;>first|rfl|exact this
   .simp only[lz];congr 1
    conv=>rhs;rw[<-bf ds]
    refine aw λx b=>?_;have:=mL a x b;cases x<;>first|rfl|(cases this;done)
  all_goals exact⟨a,rfl⟩
 refine(ab1 k1 m (by rw[z];exact n) (by rw[if_pos j];simp[q.1])).mono ?_;rintro e w' ⟨u,c2,y,m1,m2,m3⟩;rw[aD]at m1 m3;rw[q.2]at m2;exact⟨u,c2,y,m1,m2,k2.trans m3 gf⟩
end
def ub(o:Nat)(xs cs:List D):List D:=cs.take o++xs++cs.drop (o+xs.l)
def Vd{o:Nat}{xs cs:List D}(h:o+xs.l<=cs.l):(ub o xs cs).l=cs.l:=by simp[ub];omega
def JZ{o:Nat}{xs cs:List D}(h:o+xs.l<=cs.l)(i:Nat):(ub o xs cs)[i]? = if o<=i/\i<o+xs.l then xs[i-o]? else cs[i]? := by
 unfold ub;have hl:(cs.take o).l=o:=gO
 by_cases h1:i<o
 .grind
 .grind
def z7(n:Nat):Dl->Option Nat
 | .no=>cj
 | .cells v _ _=>aE v
 | .obj v _=>aE v
 | .new _=>aE n
def Vi:Dl->Ob->Ob
 | .no,o=>o
 | .cells _ o xs,.row t g cs=>.row t g (ub o xs cs)
 | .cells _ _ _,o=>o
 | .obj _ ob,_=>ob
 | .new ob,_=>ob
abbrev mh(n:Nat)(δ:Dl)(H:gg):gg:=δ.app H (Al.mF H n)
def Ew(n:Nat)(δ:Dl)(H:gg)(x:Nat):(mh n δ H)[x]? = if z7 n δ=aE x then(H[x]?).map (Vi δ)else H[x]? := by
 have a:∀(v:Nat) (ob:Ob) (f:Ob->Ob),(∀o,f o=ob)->(H.set v ob)[x]? = if aE v=aE x then(H[x]?).map f else H[x]? := jZ
 cases δ with
 | no=>simp[mh,Dl.app,z7]
 | obj v ob=>exact a v ob _ λ_=>rfl
 | new ob=>exact a n ob _ λ_=>rfl
 | cells v o xs=>
  have c:z7 n (.cells v o xs)=aE v:=rfl
  by_cases e:v=x
  .subst e;rw[if_pos c];simp only[mh,Dl.app];split
   .rename_i t g cs b;rw[bX,if_pos rfl,if_pos (ae.1 b).1,b];rfl
   .rename_i d
    cases h:H[v]? with
    | none=>rfl
    | some ob=>
     cases ob<;>first|rfl|skip
     exact absurd h (d _ _ _)
  .rw[if_neg (by rw[c];simpa using e)];simp only[mh,Dl.app];split
   .grind
   .rfl
def Fits(n:Nat)(δ:Dl)(H:gg):Prop:=match δ with
 | .cells v o xs=>∃t g cs,H[v]? = aE (.row t g cs)/\o+xs.l<=cs.l
 | .new _=>H[n]? = aE .mF
 | _=>True
def Ax{a b:List Fp}(h:vT a b=bs){x y:Fp}(d:x∈a)(c:y∈b):vS x y=true:=
 bb.1 (bb.1 h x d) y c
def V5{n:Nat}{δ:Dl}{H:gg}{j:List Fp}(s:Fits n δ H)(h:vT (kC n δ) j=bs):vL j (mh n δ H) H:=by
 intro x b;obtain⟨u,r⟩:=x
 have z:∀v q,(v,q)∈kC n δ->z7 n δ=aE v:=by intro v q d;cases δ<;>simp only[kC,List.mem_singleton,eG]at d<;>first|(cases d;rfl)|cases d
 have c:z7 n δ≠aE u->(mh n δ H)[u]? = H[u]? := λk=>by rw[Ew,if_neg k]
 by_cases a:z7 n δ=aE u
 .cases r with
  | none=>
   exfalso
   cases δ with
   | no=>cases a
   | cells v o xs=>cases a;have:=Ax h (x:=(u,aE (o,xs.l))) (by simp[kC]) b;simp[vS]at this
   | obj v ob=>cases a;have:=Ax h (x:=(u,cj)) (by simp[kC]) b;simp[vS]at this
   | new ob=>cases a;have:=Ax h (x:=(n,cj)) (by simp[kC]) b;simp[vS]at this
  | some q=>
   obtain⟨p,m⟩:=q
   cases δ with
   | no=>cases a
   | obj v ob=>cases a;exfalso;have:=Ax h (x:=(u,cj)) (by simp[kC]) b;simp[vS]at this
   | new ob=>cases a;exfalso;have:=Ax h (x:=(n,cj)) (by simp[kC]) b;simp[vS]at this
   | cells v o xs=>
    cases a;obtain⟨t,g,cs,h1,f⟩:=s;have w:=Ax h (x:=(u,aE (o,xs.l))) (by simp[kC]) b;simp only[vS,bne_self_eq_false,eh,b9,decide_eq_true_eq]at w;refine .inr ⟨t,g,ub o xs cs,cs,?_,h1,Vd f,λi l y=>?_⟩
    .simp[Ew,z7,h1,Vi]
    .rw[JZ f,if_neg U]
 .have e:=c a
  cases r with
  | none=>exact e
  | some q=>exact .inl e
def apZ{o p:Nat}{xs c cs:List D}(h1:o+xs.l<=cs.l)(d:p+c.l<=cs.l)(h:o+xs.l<=p\/p+c.l<=o) :
  ub o xs (ub p c cs)=ub p c (ub o xs cs):=by
 apply bY;intro i;rw[JZ (by rw[Vd d];exact h1),JZ d,JZ (by rw[Vd h1];exact d),JZ h1]
 by_cases a:o<=i/\i<o+xs.l<;>by_cases b:p<=i/\i<p+c.l
 .omega
 .grind
 .grind
 .grind
def aqr{n m:Nat}{δ c:Dl}{H:gg}(j:Fits n δ H)(hg:Fits m c H)(h:vT (kC n δ) (kC m c)=bs):mh m c (mh n δ H)=mh n δ (mh m c H):=by
 apply bY;intro x;rw[Ew,Ew,Ew,Ew]
 by_cases a:z7 n δ=aE x<;>by_cases b:z7 m c=aE x
 .rw[if_pos a,if_pos b,if_pos b,if_pos a]
  have bad:∀ {P:Prop},(∃q r,(x,q)∈kC n δ/\(x,r)∈kC m c/\(q=cj\/r=cj))->P:=by
   rintro P ⟨q,r,h1,d,k⟩;have:=Ax h h1 d;rcases k with rfl|rfl
   .simp[vS]at this
   .cases q<;>simp[vS]at this
  cases δ with
  | no=>cases a
  | obj v ob=>
   cases a
   cases c with
   | no=>cases b
   | cells v o xs=>cases b;exact bad ⟨cj,aE (o,xs.l),by simp[kC],by simp[kC],.inl rfl⟩
   | obj v ob=>cases b;exact bad ⟨cj,cj,by simp[kC],by simp[kC],.inl rfl⟩
   | new ob=>cases b;exact bad ⟨cj,cj,by simp[kC],by simp[kC],.inl rfl⟩
  | new ob=>
   cases a
   cases c with
   | no=>cases b
   | cells v o xs=>cases b;exact bad ⟨cj,aE (o,xs.l),by simp[kC],by simp[kC],.inl rfl⟩
   | obj v ob=>cases b;exact bad ⟨cj,cj,by simp[kC],by simp[kC],.inl rfl⟩
   | new ob=>cases b;exact bad ⟨cj,cj,by simp[kC],by simp[kC],.inl rfl⟩
  | cells v o xs=>
   cases a
   cases c with
   | no=>cases b
   | obj v ob=>cases b;exact bad ⟨aE (o,xs.l),cj,by simp[kC],by simp[kC],.inr rfl⟩
   | new ob=>cases b;exact bad ⟨aE (o,xs.l),cj,by simp[kC],by simp[kC],.inr rfl⟩
   | cells v p i=>
    cases b;obtain⟨t,g,cs,h1,d⟩:=j;obtain⟨s,w,u,f,l⟩:=hg;rw[h1]at f;cases f;have e:=Ax h (x:=(x,aE (o,xs.l))) (y:=(x,aE (p,i.l))) (by simp[kC]) (by simp[kC]);simp only[vS,bne_self_eq_false,eh,b9,decide_eq_true_eq]at e;simp only[h1,aK,Vi];rw[apZ d l e]
 .grind
 .grind
 .grind
structure Rc where
 R:List Fp
 W:List Fp
inductive Out where
 | norm (s:St)
 | exit (id:Nat) (s:St)
 | ret (s:St)
inductive B0 where
 | ops (l:List iz) (s:St)
 | code (c:IR) (s:St)
 | loop (n:Nat) (live:List Nat) (a:IR) (s:St)
 | call (f:FuncId) (args:List D) (H:gg)
 | trace (l:List iz) (s:St)
inductive qy where
 | out (o:Out)
 | tr (rs:List Rc) (s:St)
 | val (d:D) (H:gg)
def Out.stop:Out->Bool
 | .norm _=>cp
 | _=>bs
def xL(c:List (Nat×Nat))(rs:List Rc):Bool:=c.all λp=>match rs[p.1]?,rs[p.2]? with
 | some a,aE b=>vT a.W (b.R++b.W)&&vT b.W (a.R++a.W)
 | _,_=>cp
def yieldOf(env:il):jh->Option (Nat×List D)
 | .callv f args=>match ev env f with
  | .jt v=>aE (v,args.map (ev env))
  | _=>cj
 | _=>cj
def Out.st:Out->St
 | .norm s=>s
 | .exit _ s=>s
 | .ret s=>s
def Out.BN:Out->sB
 | .norm _=>.ready
 | .exit id _=>.AJ id
 | .ret _=>.Ck
def BG(s:St):sB->Option Out
 | .ready=>aE (.norm s)
 | .busy=>cj
 | .Ck=>aE (.ret s)
 | .AJ id=>aE (.exit id s)
def kill:List Nat->gg->Option gg
 | [],H=>aE H
 | v::vs,H=>match H[v]? with
  | some .ka=>kill vs (H.set v .dead)
  | _=>cj
def finish(fn:jK)(own n:Nat):Out->Option (D×gg)
 | .norm s | .ret s=>match kill s.marks s.H with
  | some H=>match results fn { s with H:=H }with
   | some d=>aE (leave own n H d)
   | none=>cj
  | none=>cj
 | .exit _ _=>cj
def mz(id n:Nat)(live:List Nat):Out->Out
 | .norm s=>.norm (cut n live s)
 | .exit a s=>if a=id then .norm (cut n live s)else .exit a s
 | .ret s=>.ret s
inductive Ev(T:iL):B0->(qy->Prop)->Prop
 | mono {j R R'} (h:Ev T j R) (hi:∀r,R r->R' r):Ev T j R'
 | nil {s R} (h:R (.out (.norm s))):Ev T (.ops [] s) R
 | op {e r s d δ R} (hg:guardOf s.env.get e.guard=aE bs) (h:ie s.env.get s.H s.H.l e.op=aE (d,δ))
   (t:Ev T (.ops r { s with env:=put s.env e.dst d,H:=δ.app s.H (Al.last s.H) }) R):Ev T (.ops (e::r) s) R
 | DT {e r s d δ R} (hg:guardOf s.env.get e.guard=aE bs) (h:nv s.env.get s.H s.H.l e.op=aE (d,δ))
   (t:Ev T (.ops r { s with env:=put s.env e.dst d,H:=δ.app s.H (Al.last s.H) }) R):Ev T (.ops (e::r) s) R
 | off {e r s R} (hg:guardOf s.env.get e.guard=aE cp) (t:Ev T (.ops r { s with env:=put s.env e.dst (.val undef) }) R):Ev T (.ops (e::r) s) R
 | mQ {l s R} (S:List Nat) (hm:s.marks.all (λv => !S.contains v)=bs) (t:Ev T (.ops l (mQ S s)) R):Ev T (.ops l s) R
 | H9 {c s R} (S:List Nat) (hm:s.marks.all (λv => !S.contains v)=bs) (t:Ev T (.code c (mQ S s)) R):Ev T (.code c s) R
 | RR {l s R} (live:List Nat) (t:Ev T (.ops l { s with env:=forget live s.env }) R):Ev T (.ops l s) R
 | H8 {c s R} (live:List Nat) (t:Ev T (.code c { s with env:=forget live s.env }) R):Ev T (.code c s) R
 | Hw {e r s f args fn R1 R} (hg:guardOf s.env.get e.guard=aE bs) (hc:lB s.env.get e.op=aE (f,args)) (hf:T.fn f=aE fn) (hp:fn.full=cp)
   (h:Ev T (.call f (args.map (gA (λ_=>cj) s.H 40)) []) R1) (ha:∀d Hn,R1 (.val d Hn)->(after s e.dst args d Hn).isSome=bs)
   (t:∀d Hn s',R1 (.val d Hn)->after s e.dst args d Hn=aE s'->Ev T (.ops r s') R):Ev T (.ops (e::r) s) R
 | Hv {e r s f args fn R1 R} (hg:guardOf s.env.get e.guard=aE bs) (hc:lB s.env.get e.op=aE (f,args)) (hf:T.fn f=aE fn) (hp:fn.full=bs)
   (h:Ev T (.call f args s.H) R1) (t:∀d H',R1 (.val d H')->Ev T (.ops r { s with env:=put s.env e.dst d,H:=H' }) R):Ev T (.ops (e::r) s) R
 | NI {e r s v args rf env0 Rd Ra Rb R} (hg:guardOf s.env.get e.guard=aE bs) (hc:yieldOf s.env.get e.op=aE (v,args)) (hv:s.H[v]? = aE (.iE rf env0 .ready)) (hR:T.round rf=aE Rd) (hl:args.l=Rd.params.l)
   (ha:Ev T (.code Rd.a { env:=vG Rd.params args env0,H:=s.H,iM:=bs }) Ra) (hn:∀o,Ra (.out o)->o.stop=cp/\∃l4,o.st.H[v]? = aE (.iE rf l4 .ready))
   (hb:∀s1 l4,Ra (.out (.norm s1))->s1.H[v]? = aE (.iE rf l4 .ready)->Ev T (.code Rd.b { s1 with H:=s1.H.set v (.iE rf l4 .busy) }) Rb)
   (hm:∀o,Rb (.out o)->∃mj,o.st.H[v]? = aE (.iE rf mj .busy))
   (t:∀o mj,Rb (.out o)->o.st.H[v]? = aE (.iE rf mj .busy)->Ev T (.ops r { s with env:=put s.env e.dst (.b !o.stop),H:=o.st.H.set v (.iE rf mj o.BN) }) R):Ev T (.ops (e::r) s) R
 | next {e r s x v m since seen kk es R} (hg:guardOf s.env.get e.guard=aE bs) (iW:e.op = .nextM x) (hx:ev s.env.get x = .ptr v 0 0) (hv:s.H[v]? = aE (.jG (.gM m) since seen)) (hm:s.H[m]? = aE (.map kk es)) (hs:es.l=since)
   (h0:(∀i,i<es.l->i∈seen)->Ev T (.ops r { s with env:=put s.env e.dst (.tup [.b cp]) }) R)
   (h1:∀i k d,es[i]? = aE (k,d)->i ∉ seen->Ev T (.ops r { s with env:=put s.env e.dst (.tup [.b bs,tW k,d]),H:=s.H.set v (.jG (.gM m) since (seen ++ [i])) }) R):Ev T (.ops (e::r) s) R
 | J7 {s R} (h:R (.tr [] s)):Ev T (.trace [] s) R
 | J9 {e r s d δ R1 R} (hg:guardOf s.env.get e.guard=aE bs) (h:ie s.env.get s.H s.H.l e.op=aE (d,δ))
   (t:Ev T (.trace r { s with env:=put s.env e.dst d,H:=δ.app s.H (Al.last s.H) }) R1) (k:∀rs s',R1 (.tr rs s')->R (.tr (⟨ik s.env.get s.H e.op,kC s.H.l δ⟩::rs) s')):Ev T (.trace (e::r) s) R
 | J8 {e r s R1 R} (hg:guardOf s.env.get e.guard=aE cp) (t:Ev T (.trace r { s with env:=put s.env e.dst (.val undef) }) R1) (k:∀rs s',R1 (.tr rs s')->R (.tr (⟨[],[]⟩::rs) s')):Ev T (.trace (e::r) s) R
 | J4 {e r s f args fn d R0 R1 R} (hg:guardOf s.env.get e.guard=aE bs) (hc:lB s.env.get e.op=aE (f,args)) (hf:T.fn f=aE fn) (hp:fn.full=cp)
   (h:Ev T (.call f (args.map (gA (λ_=>cj) s.H 40)) []) R0) (h0:∀d' Hn,R0 (.val d' Hn)->d'=d/\Hn = []) (hr:(if gN args then closed d else flat d)=bs)
   (t:Ev T (.trace r { s with env:=put s.env e.dst d }) R1) (k:∀rs s',R1 (.tr rs s')->R (.tr (⟨ik s.env.get s.H e.op,[]⟩::rs) s')):Ev T (.trace (e::r) s) R
 | J5 {e r s f as args fn d ob R0 R1 R} (hg:guardOf s.env.get e.guard=aE bs) (iW:e.op = .callN f as) (ha:args=as.map (ev s.env.get)) (hf:T.fn f=aE fn) (hp:fn.full=cp)
   (h:Ev T (.call f (args.map (gA (λ_=>cj) s.H 40)) []) R0) (h0:∀d' Hn,R0 (.val d' Hn)->d'=d/\Hn = [ob]) (hr:(if gN args then od d&&pq ob else p5 d&&rl ob)=bs)
   (t:Ev T (.trace r { s with env:=put s.env e.dst (lz s.H.l d),H:=s.H ++ [ob] }) R1) (k:∀rs s',R1 (.tr rs s')->R (.tr (⟨ik s.env.get s.H e.op,[(s.H.l,cj)]⟩::rs) s')):Ev T (.trace (e::r) s) R
 | J6 {e r s f as args fn d v R0 R1 R} (hg:guardOf s.env.get e.guard=aE bs) (iW:e.op = .callN f as) (ha:args=as.map (ev s.env.get)) (hf:T.fn f=aE fn) (hp:fn.full=cp)
   (hS:∀u∈(args.map (iO s.H 40)).flatten,u=v) (hv:v∈(args.map (iO s.H 40)).flatten) (iw:(rowsOf s.H v).isSome=bs) (gP:gN (args.map (gA (λ_=>cj) s.H 40))=bs)
   (h:Ev T (.call f (args.map (gA (λ_=>cj) s.H 40)) []) R0) (h0:∀d' Hn,R0 (.val d' Hn)->d'=d/\Hn = []) (hr:closed d=bs)
   (t:Ev T (.trace r { s with env:=put s.env e.dst d,H:=s.H.set v .dead }) R1) (k:∀rs s',R1 (.tr rs s')->R (.tr (⟨ik s.env.get s.H e.op,[(v,cj)]⟩::rs) s')):Ev T (.trace (e::r) s) R
 | mO {kf l s R1 R} (t:Ev T (.trace l s) R1) (hp:∀rs s',R1 (.tr rs s')->xL kf rs=bs/\R (.out (.norm s'))):Ev T (.code (.mO kf l) s) R
 | nT {kf l es s R1 R} (t:Ev T (.trace l s) R1) (hp:∀rs s',R1 (.tr rs s')->xL kf rs=bs) (k:∀rs s',R1 (.tr rs s')->Ev T (.ops es s') R):Ev T (.code (.nT kf l es) s) R
 | skip {s R} (h:R (.out (.norm s))):Ev T (.code .skip s) R
 | HJ {l s R} (h:Ev T (.ops l s) R):Ev T (.code (.ops l) s) R
 | seq {a b s R1 R} (h:Ev T (.code a s) R1) (k:∀s',R1 (.out (.norm s'))->Ev T (.code b s') R) (hs:∀o,R1 (.out o)->o.stop=bs->R (.out o)):Ev T (.code (.seq a b) s) R
 | cond {c a b s x R} (hc:ev s.env.get c = .val (.bool x)) (h:Ev T (.code (if x then a else b) s) R):Ev T (.code (.cond c a b) s) R
 | block {id live a s R1 R} (h:Ev T (.code a s) R1) (k:∀o,R1 (.out o)->R (.out (mz id s.H.l live o))):Ev T (.code (.block id live a) s) R
 | loop {live a s R} (h:Ev T (.loop s.H.l live a { s with env:=forget live s.env }) R):Ev T (.code (.loop live a) s) R
 | Bt {n live a s R1 R} (h:Ev T (.code a s) R1) (k:∀s',R1 (.out (.norm s'))->Ev T (.loop n live a (cut n live s')) R) (hs:∀o,R1 (.out o)->o.stop=bs->R (.out o)):Ev T (.loop n live a s) R
 | po {rf live x s f first cap fn R1 R} (hr:s.iM=cp) (hx:ev s.env.get x = .fn (.func f) first cap) (hf:T.fn f=aE fn) (hp:fn.full=bs)
   (h:Ev T (.call f (first ++ [.jt (s.H.l+1)]++cap) (s.H ++ [.ka,.iE rf (forget live s.env) .ready])) R1)
   (k:∀d H',R1 (.val d H')->∃env st o,H'[s.H.l+1]? = aE (.iE rf env st)/\BG { s with H:=H'.set (s.H.l+1) .dead,marks:=s.H.l::s.marks } st=aE o/\R (.out o)):Ev T (.code (.po rf live x) s) R
 | exit {id s R} (h:R (.out (.exit id s))):Ev T (.code (.exit id) s) R
 | ret {s R} (h:R (.out (.ret s))):Ev T (.code .ret s) R
 | call {f args H fn R1 R} (own:Nat) (hf:T.fn f=aE fn) (hl:args.l<=fn.ntmps) (h:Ev T (.code fn.body { env:=vx args,H:=H }) R1)
   (k:∀o,R1 (.out o)->∃d H',finish fn own H.l o=aE (d,H')/\R (.val d H')):Ev T (.call f args H) R
 | sort {f g fn sz v gen t H R} {α:Type} (fc:α->List D) (l:List α) (cf:α->α->Int) (hs:T.sort f=aE sz) (hg:T.fn g=aE fn) (hl:∀a∈l,(fc a).l=sz) (gP:∀a∈l,gN (fc a)=bs) (h0:0<l.l) (yi:l.l<4611686018427387904)
   (FP:∀x∈l,¬cf x x<0) (tr:∀x∈l,∀y∈l,∀z∈l,cf x y<0->cf y z<0->cf x z<0) (nt:∀x∈l,∀y∈l,∀z∈l,¬cf x y<0->¬cf y z<0->¬cf x z<0)
   (hc:∀x∈l,∀y∈l,Ev T (.call g [.agg (fc x),.agg (fc y)] []) (λr=>∃H',r = .val (.i (cf x y)) H')) (hv:H[v]? = aE (.row t gen (l.map fc).flatten))
   (k:∀l':List α,l'.Perm l->l'.Pairwise (λx y=>¬cf y x<0)->R (.val (.tup []) (H.set v (.row t gen (l'.map fc).flatten)))):Ev T (.call f [.gh v gen sz 0 l.l,.fn (.func g) [] []] H) R
 | Gk {f sz x H R} (hs:T.sort f=aE sz) (k:R (.val (.tup []) H)):Ev T (.call f [.gp,x] H) R
 | uM {f v gen t H R} (l:List Int) (hs:T.uM f=bs) (h0:0<l.l) (yi:l.l<4611686018427387904) (hv:H[v]? = aE (.row t gen (l.map λn=>D.i n)))
   (k:R (.val (.tup []) (H.set v (.row t gen ((l.mergeSort λx y=>decide (x<=y)).map λn=>D.i n))))):Ev T (.call f [.gh v gen 1 0 l.l] H) R
 | uq {f v gen t zs H R} (l:List Int) (i:Nat) (hs:T.uq f=bs) (hi:i<l.l) (hv:H[v]? = aE (.row t gen (l.map (λn=>D.i n)++zs)))
   (k:R (.val (.gh v gen 1 0 (l.l-1)) (H.set v (.row t gen ((l.take i++l.drop (i+1) ++ [0]).map (λn=>D.i n)++zs))))):Ev T (.call f [.gh v gen 1 0 l.l,.i i,.i ((i:Int)+1)] H) R
def nP(f:il):Option Nat->D->il
 | some k,d=>λt=>if k=t then d else f t
 | none,_=>f
def JD(env:Env)(dst:Option Nat)(d:D):(put env dst d).get=nP env.get dst d:=by
 cases dst with
 | none=>rfl
 | some k=>funext t;simp[put,Env.yg,nP]
def R5:Option (Nat×Bool)->List Nat
 | some (t,_)=>[t]
 | none=>[]
def looks(e:iz):List Nat:=iB e.op++R5 e.guard
inductive Ef(C:FuncId->List D->D->gg->Prop)(f:il)(H:gg)(e:iz)(n:Nat):Rc->D->Dl->Prop
 | op {d δ} (hg:guardOf f e.guard=aE bs) (h:ie f H n e.op=aE (d,δ)) (hf:Fits n δ H):Ef C f H e n ⟨ik f H e.op,kC n δ⟩ d δ
 | off (hg:guardOf f e.guard=aE cp):Ef C f H e n ⟨[],[]⟩ (.val undef) .no
 | call {g args d} (hg:guardOf f e.guard=aE bs) (hc:lB f e.op=aE (g,args))
   (h:C g (args.map (gA (λ_=>cj) H 40)) d []) (hr:(if gN args then closed d else flat d)=bs):Ef C f H e n ⟨ik f H e.op,[]⟩ d .no
 | callN {g as args d ob} (hg:guardOf f e.guard=aE bs) (iW:e.op = .callN g as) (ha:args=as.map (ev f))
   (h:C g (args.map (gA (λ_=>cj) H 40)) d [ob]) (hr:(if gN args then od d&&pq ob else p5 d&&rl ob)=bs) (hf:Fits n (.new ob) H):Ef C f H e n ⟨ik f H e.op,kC n (.new ob)⟩ (lz n d) (.new ob)
 | Ce {g as args d v} (hg:guardOf f e.guard=aE bs) (iW:e.op = .callN g as) (ha:args=as.map (ev f)) (hS:∀u∈(args.map (iO H 40)).flatten,u=v) (hv:v∈(args.map (iO H 40)).flatten) (iw:(rowsOf H v).isSome=bs)
   (h:C g (args.map (gA (λ_=>cj) H 40)) d []) (gP:gN (args.map (gA (λ_=>cj) H 40))=bs) (hr:closed d=bs):Ef C f H e n ⟨ik f H e.op,[(v,cj)]⟩ d (.obj v .dead)
def guard_congr{f f':il}{g:Option (Nat×Bool)}(h:∀t∈R5 g,f t=f' t):guardOf f g=guardOf f' g:=by
 cases g with
 | none=>rfl
 | some p=>simp only[guardOf,h p.1 (by simp[R5])]
def ads{x:Fp}{H1 H2:gg}(h:Alike x H1 H2):Alike x H2 H1:=by
 obtain⟨v,r⟩:=x
 cases r with
 | none=>exact h.symm
 | some q=>
  rcases h with h|⟨t,g,cs,ds,h1,e,d,c⟩
  .exact .inl h.symm
  .exact .inr ⟨t,g,ds,cs,e,h1,d.symm,λi a b=>(c i a b).symm⟩
def Yp{n:Nat}{δ:Dl}{H H':gg}(h:vL (kC n δ) H H')(a:Fits n δ H):Fits n δ H':=by
 cases δ with
 | no=>trivial
 | obj v ob=>trivial
 | new ob=>
  have e:H[n]? = H'[n]? := h (n,cj) (by simp[kC]);show H'[n]? = aE .mF;rw[<-e];exact a
 | cells v o xs=>
  obtain⟨t,g,cs,h1,d⟩:=a;rcases h (v,aE (o,xs.l)) (by simp[kC])with h|⟨f,l,i,ds,b,c,k,j⟩
  .exact⟨t,g,cs,h▸h1,d⟩
  .rw[h1]at b;cases b;exact⟨t,g,ds,c,U⟩
def Qg{H H':gg}{v:Nat}(h:Alike (v,cj) H H'):rowsOf H v=rowsOf H' v:=by have e:H[v]? = H'[v]? := h;simp only[rowsOf,e]
def Q5{f:il}{H:gg}{op:jh}{g:FuncId}{args:List D}(i:lB f op=aE (g,args)){H':gg}(h:vL (ik f H op) H H') :
  ik f H' op=ik f H op/\args.map (gA (λ_=>cj) H' 40)=args.map (gA (λ_=>cj) H 40):=by
 have key:∀args:List D,(∀v∈(args.map (iO H 40)).flatten,rowsOf H v=rowsOf H' v)->args.map (iO H' 40)=args.map (iO H 40)/\args.map (gA (λ_=>cj) H' 40)=args.map (gA (λ_=>cj) H 40):=by intro args j;have h1:∀d∈args,∀v∈iO H 40 d,rowsOf H v=rowsOf H' v:=λd e v c=>j v (bp.2 ⟨_,au.2 ⟨d,e,rfl⟩,c⟩);exact⟨aw λd e=>(JI 40 d (h1 d e)).1,aw λd e=>(JI 40 d (h1 d e)).2⟩
 cases op<;>first|(cases i;done)|skip
 case call k as=>
  cases i;obtain⟨a,b⟩:=key (as.map (ev f)) λv c=>Qg (h (v,cj) (au.2 ⟨v,c,rfl⟩));exact⟨by simp only[ik,a],b⟩
 case callN k as=>
  cases i;obtain⟨a,b⟩:=key (as.map (ev f)) λv c=>Qg (h (v,cj) (au.2 ⟨v,c,rfl⟩));exact⟨by simp only[ik,a],b⟩
 case callv k as=>
  simp only[ik,i]at h ⊢;obtain⟨a,b⟩:=key args λv c=>Qg (h (v,cj) (au.2 ⟨v,c,rfl⟩));exact⟨by rw[a],b⟩
def agQ{f:il}{H H':gg}{op:jh}(a:lB f op=cj):ik f H' op=ik f H op:=by
 cases op<;>first|rfl|(cases a;done)|skip
 case callv=>simp only[ik,a]
 case len k x=>cases k<;>rfl
def adX{f:il}{H:gg}{n:Nat}{op:jh}{r:D×Dl}(h:ie f H n op=aE r):lB f op=none:=by cases op<;>first|rfl|cases h
variable{C:FuncId->List D->D->gg->Prop}
theorem Ef.local{f f':il}{H H':gg}{e:iz}{n:Nat}{rc:Rc}{d:D}{δ:Dl}(h:Ef C f H e n rc d δ)(E:∀t∈looks e,f t=f' t)(j:vL (rc.R++rc.W) H H'):Ef C f' H' e n rc d δ:=by
 have h1:∀t∈iB e.op,f t=f' t:=λt u=>E t (bK _ u);have p:guardOf f e.guard=guardOf f' e.guard:=guard_congr λt u=>E t (bP _ u)
 cases h with
 | op hg B s=>
  have k:ik f H e.op=ik f' H' e.op:=by rw[Ov h1,agQ (adX (by rw[<-V' h1];exact B))]
  rw[k];refine .op (p▸hg) ?_ (Yp j.right s);rw[<-V' h1,<-adt (H1:=H) j.left];exact B
 | off hg=>exact .off (p▸hg)
 | call hg i l o=>
  obtain⟨a,b⟩:=Q5 i j.left;have k:ik f H e.op=ik f' H' e.op:=by rw[<-a,Ov h1]
  rw[k];exact .call (p▸hg) (by rw[<-NK h1];exact i) (by rw[b];exact l) o
 | @callN g w args _ _ hg c q l o s=>
  have i:lB f e.op=aE (g,args):=by rw[c,q];rfl
  obtain⟨a,b⟩:=Q5 i j.left;have k:ik f H e.op=ik f' H' e.op:=by rw[<-a,Ov h1]
  rw[k];have m:lB f' e.op=aE (g,args):=by rw[<-NK h1];exact i
  have r:args=w.map (ev f'):=by rw[c]at m;cases m;rfl
  exact .callN (p▸hg) c r (by rw[b];exact l) o (Yp j.right s)
 | @Ce g w args _ v hg c q hS G F l I o=>
  have i:lB f e.op=aE (g,args):=by rw[c,q];rfl
  obtain⟨a,b⟩:=Q5 i j.left;have k:ik f H e.op=ik f' H' e.op:=by rw[<-a,Ov h1]
  rw[k];have m:lB f' e.op=aE (g,args):=by rw[<-NK h1];exact i
  have r:args=w.map (ev f'):=by rw[c]at m;cases m;rfl
  have A:(args.map (iO H' 40)).flatten=(args.map (iO H 40)).flatten:=by have z:=a;rw[c]at z;simp only[ik,<-q]at z;exact(List.map_inj_right (λx y h=>(Prod.mk.inj h).1)).1 z
  have J:rowsOf H v=rowsOf H' v:=Qg (j.right (v,cj) gf);exact .Ce (p▸hg) c r (by rw[A];exact hS) (by rw[A];exact G) (by rw[<-J];exact F) (by rw[b];exact l) (by rw[b];exact I) o
theorem Ef.fits{f:il}{H:gg}{e:iz}{n:Nat}{rc:Rc}{d:D}{δ:Dl}(h:Ef C f H e n rc d δ):Fits n δ H/\rc.W=kC n δ:=by
 cases h with
 | op _ _ a=>exact⟨a,rfl⟩
 | off=>exact⟨trivial,rfl⟩
 | call=>exact⟨trivial,rfl⟩
 | callN _ _ _ _ _ a=>exact⟨a,rfl⟩
 | Ce=>exact⟨trivial,rfl⟩
def z6(a b:iz):Bool:=
 (match a.dst with|some k => !(looks b).contains k&&b.dst != aE k|none=>bs)&&(match b.dst with|some k => !(looks a).contains k|none=>bs)
def xM(a b:Rc):Bool:=vT a.W (b.R++b.W)&&vT b.W (a.R++a.W)
theorem acW{f:il}{dst:Option Nat}{d:D}{l:List Nat}(h:∀k,dst=aE k->k ∉ l):∀t∈l,nP f dst d t=f t:=by
 intro t a
 cases dst with
 | none=>rfl
 | some k=>
  simp only[nP];rw[if_neg];rintro rfl;exact h _ rfl a
theorem aqa{f:il}{a b:Option Nat}{x y:D}(h:∀k,a=aE k->b≠aE k):nP (nP f a x) b y=nP (nP f b y) a x:=by
 cases a with
 | none=>rfl
 | some k=>
  cases b with
  | none=>rfl
  | some j=>
   have d:j≠k:=λe=>h k rfl (by rw[e]);funext t;simp only[nP]
   by_cases h1:j=t<;>by_cases c:k=t<;>simp[h1,c]
   exact absurd (h1.trans c.symm) d
theorem apK{a b:iz}(h:z6 a b=bs):(∀k,a.dst=aE k->k ∉ looks b)/\(∀k,b.dst=aE k->k ∉ looks a)/\(∀k,a.dst=aE k->b.dst≠aE k):=by
 unfold z6 at h;simp only[ai]at h;refine⟨λk c=>?_,λk c=>?_,λk c=>?_⟩
 .have:=h.1;rw[c]at this;simp at this;exact this.1
 .have:=h.2;rw[c]at this;simpa using this
 .have:=h.1;rw[c]at this;simp at this;exact this.2
theorem swap{f:il}{H:gg}{a b:iz}{n m:Nat}{g e:Rc}{x y:D}{δ c:Dl}(l:Ef C f H a n g x δ)(w:Ef C (nP f a.dst x) (mh n δ H) b m e y c)
  (hs:z6 a b=bs) (d:xM g e=bs) :
  Ef C f H b m e y c/\Ef C (nP f b.dst y) (mh m c H) a n g x δ/\nP (nP f a.dst x) b.dst y=nP (nP f b.dst y) a.dst x/\mh m c (mh n δ H)=mh n δ (mh m c H):=by
 obtain⟨s1,r,q⟩:=apK hs;simp only[xM,ai]at d;obtain⟨p,j⟩:=l.fits;have k:Ef C f H b m e y c:=w.local (acW s1) (V5 p (by rw[<-j];exact d.1));obtain⟨o,i⟩:=k.fits;refine⟨k,l.local (λt v=>(acW r t v).symm) λz h=>ads (V5 o (by rw[<-i];exact d.2) z h),aqa q,aqr p o ?_⟩;rw[<-j,<-i];simp only[vT,bb]at d ⊢;exactλu s z h=>d.1 u s z (bP _ h)
theorem TW{o:Option D}{d:D}{δ:Dl}(h:lift o=aE (d,δ)):δ = .no:=by cases o<;>simp[lift]at h;exact h.2.symm
theorem UA{f:il}{H:gg}{e:iz}{n:Nat}{rc:Rc}{d:D}{δ:Dl}(h:Ef C f H e n rc d δ)(a:JB e.op=bs):rc.R = []/\rc.W = []:=by
 cases h with
 | op hg c j=>
  cases b:e.op<;>rw[b]at c a<;>simp only[ie]at c<;>first|(cases a;done)|skip
  case len k x=>
   have:=TW c;subst this;cases k<;>first|(cases a;done)|exact⟨rfl,rfl⟩
  all_goals
   have:=TW c;subst this;exact⟨rfl,rfl⟩
 | off hg=>exact⟨rfl,rfl⟩
 | call hg g h i=>cases b:e.op<;>rw[b]at g a<;>first|(cases a;done)|(cases g;done)
 | callN _ b=>rw[b]at a;cases a
 | Ce _ b=>rw[b]at a;cases a
theorem ab8{f:il}{H:gg}{e:iz}{n:Nat}{rc:Rc}{d:D}{δ:Dl}(h:Ef C f H e n rc d δ)(a:UH e.op=bs):rc.W = []:=by
 by_cases g:JB e.op=bs
 .exact(UA h g).2
 .cases h with
  | op hg c i=>
   cases b:e.op<;>rw[b]at c a g<;>simp only[ie]at c<;>first|(cases a;done)|(exact absurd rfl g)|skip
   case call=>cases c
   case callv=>cases c
   all_goals
    have:=TW c;subst this;rfl
  | off hg=>rfl
  | call=>rfl
  | callN _ b=>rw[b]at a;cases a
  | Ce _ b=>rw[b]at a;cases a
theorem acN{f f':il}{H H':gg}{a b:iz}{n m:Nat}{g e:Rc}{x y:D}{δ k:Dl}(j:Ef C f H a n g x δ)(i:Ef C f' H' b m e y k)(h:Qy a.op b.op=bs):xM g e=true:=by
 simp only[Qy,b9,ai]at h;rcases h with(h|h)|⟨h1,l⟩
 .obtain⟨d,c⟩:=UA j h;simp[xM,d,c,vT]
 .obtain⟨d,c⟩:=UA i h;simp[xM,d,c,vT]
 .simp[xM,ab8 j h1,ab8 i l,vT]
structure nJ where
 k:Nat
 e:iz
 n:Nat
 rc:Rc
inductive Tx(C:FuncId->List D->D->gg->Prop):il->gg->List nJ->il->gg->Prop
 | nil {f H}:Tx C f H [] f H
 | cons {f H it r d δ f' H'} (h:Ef C f H it.e it.n it.rc d δ) (t:Tx C (nP f it.e.dst d) (mh it.n δ H) r f' H'):Tx C f H (it::r) f' H'
theorem Tx.each{f:il}{H:gg}{l:List nJ}{f':il}{H':gg}(h:Tx C f H l f' H'):∀a∈l,∃f H d δ,Ef C f H a.e a.n a.rc d δ:=by
 induction h with
 | nil=>intro a b;cases b
 | cons h t c=>
  intro a b;rcases ay.1 b with rfl|b
  .exact⟨_,_,_,_,h⟩
  .exact c a b
theorem Tx.front{a:nJ}{post:List nJ}{f':il}{H':gg}:∀ {pre:List nJ} {f:il} {H:gg},Tx C f H (pre++a::post) f' H'->(∀p∈pre,z6 p.e a.e=bs/\xM p.rc a.rc=bs) ->
  ∃d δ,Ef C f H a.e a.n a.rc d δ/\Tx C (nP f a.e.dst d) (mh a.n δ H) (pre++post) f' H'
 | [],f,H,h,_=>by
  cases h with
  | cons h t=>exact⟨_,_,h,t⟩
 | p::pre,f,H,h,ha=>by
  cases h with
  | @cons _ _ _ _ d δ _ _ h t=>
   obtain⟨y,b,i,j⟩:=Tx.front (pre:=pre) t λq k=>ha q (by simp[k]);obtain⟨s1,g,e,c⟩:=swap h i (ha p gf).1 (ha p gf).2;refine⟨y,b,s1,.cons g ?_⟩;rw[<-e,<-c];exact j
end Go.AL
namespace Go.AL
open Go
structure SX(G:GT)(N:Nat)(c:Ctx)(w:World)(f:il)(H:gg)(ms:List Nat)(a:Act):Prop where
 gu:gL G c H w
 env:lO c w f a
 size:N<=a.tmps.size
 marks:tF c ms a.defers
section
variable{P:Program}{G:GT}{c:Ctx}{w:World}{f:il}{H:gg}{ms:List Nat}{a:Act}{N:Nat}
theorem aoy{f:il}{a:Act}{c:Ctx}{w:World}(b:lO c w f a)(hN:N<=a.tmps.size){dst:Option Tmp}(g:uX N dst=bs){v:Value}{d:D}(i:gq c w v d) :
  lO c w (nP f dst d) (a.put dst v):=by
 cases dst with
 | none=>exact b
 | some t=>
  have h:t<a.tmps.size:=aR (by simpa[uX]using g) hN;intro k;simp only[nP,Act.put];split
  .simp_all
  .rename_i e;have:(a.tmps.setIfInBounds t v).getD k undef=a.tmps.getD k undef:=oh;rw[this];exact b k
theorem SX.next{c':Ctx}{w':World}{H':gg}(hs:SX G N c w f H ms a)(gu:gL G c' H' w')(e:Step H.l c H w c' H' w'){dst:Option Tmp}(i:uX N dst=bs)
  {v:Value} {d:D} (g:gq c' w' v d):SX G N c' w' (nP f dst d) H' ms (a.put dst v) where
 gu:=gu
 env:=aoy (lO.carry (λ_ _ h=>h.rG hs.gu.toHeapOK e) hs.env) hs.size i g
 size:=by rw[ab2];exact hs.size
 marks:=by
  rw[put_defers];refine hs.marks.mono λv L h=>e.old v 0 L ?_ h;rcases bJ v H.l with b|b
  .exact b
  .rw[hs.gu.out v 0 b]at h;cases h
theorem adu{op:jh}{n b:Nat}{d:D}{δ:Dl}(h:ie f H n op=aE (d,δ))(a:∀ob,δ≠.new ob):ie f H b op=aE (d,δ):=by
 cases op<;>simp only[ie]at h ⊢ <;> first|exact h|skip
 case box=>
  unfold uk at h;split at h
  .grind
  .cases h
 case alloc=>cases h;exact absurd rfl (a _)
 case buildSl=>
  unfold AA at h;split at h
  .grind
  .cases h
 case mkmap=>cases h;exact absurd rfl (a _)
 case mksl=>
  unfold FX at h;split at h
  .grind
  .cases h
 case app=>
  unfold uj at h ⊢;split at h
  .grind
  .cases h
theorem HB{d:D}(h:closed d=bs):od d=bs/\lz H.l d=d:=by
 cases d<;>first|(cases h;done)|skip
 case tup ds=>
  have b:=mL h;refine⟨?_,?_⟩
  .simp only[od,yF,bb];intro d a;have:=b d a;cases d<;>first|rfl|exact this
  .simp only[lz];congr 1
   conv=>rhs;rw[<-bf ds]
   refine aw λd a=>?_;have:=b d a;cases d<;>first|(cases this;done)|rfl
 case agg ds=>
  have b:=mL h;refine⟨?_,?_⟩
  .simp only[od,yF,bb];intro d a;have:=b d a;cases d<;>first|rfl|exact this
  .simp only[lz];congr 1
   conv=>rhs;rw[<-bf ds]
   refine aw λd a=>?_;have:=b d a;cases d<;>first|(cases this;done)|rfl
 all_goals exact⟨h,rfl⟩
theorem RQ{d:D}(h:flat d=bs):p5 d=bs/\lz H.l d=d:=by
 cases d<;>first|(cases h;done)|skip
 case tup ds=>
  have b:∀d∈ds,flat d=true:=λd a=>by obtain⟨i,hi⟩:=aH.1 a;exact ER h hi
  refine⟨?_,?_⟩
  .simp only[p5,yF,bb];intro d a;have:=b d a;cases d<;>first|rfl|exact this
  .simp only[lz];congr 1
   conv=>rhs;rw[<-bf ds]
   refine aw λd a=>?_;have:=b d a;cases d<;>first|(cases this;done)|rfl
 case agg ds=>
  have b:∀d∈ds,flat d=true:=λd a=>by obtain⟨i,hi⟩:=aH.1 a;exact ER h hi
  refine⟨?_,?_⟩
  .simp only[p5,yF,bb];intro d a;have:=b d a;cases d<;>first|rfl|exact this
  .simp only[lz];congr 1
   conv=>rhs;rw[<-bf ds]
   refine aw λd a=>?_;have:=b d a;cases d<;>first|(cases this;done)|rfl
 all_goals exact⟨h,rfl⟩
variable{C:FuncId->List D->D->gg->Prop}
theorem Xo(W:∀g args d Hn,C g args d Hn->uu P g=bs/\Aa P G g args [] d Hn)(hs:SX G N c w f H ms a){A:Array Oper}{o:Oper}{e:iz}{i:Nat}(hA:A[i]? = aE o)
  (ho:x8 P G N A o=aE e) {n:Nat} {rc:Rc} {d:D} {δ:Dl} (hE:Ef C f H e n rc d δ) {x:Option Nat} {m:Nat} {Q:Exit->Act->World->Prop} {K:Act->World->Prop}
  (k:∀c' w' a',SX G N c' w' (nP f e.dst d) (mh n δ H) ms a'->Step H.l c H w c' (mh n δ H) w'->K a' w'):wpOpIn (FW x) m P A Q i K a w:=by
 obtain⟨s1,p,B,z⟩:=AH ho;unfold wpOpIn;simp only[hA]
 cases hE with
 | op hg h R=>
  have r:=wP hs.env z hg;have s1:=WY s1 h;simp only[r,if_true]
  have s:∀ {al:Al},oD H al->ie f H al.1 e.op=aE (d,δ)->δ.app H al=mh n δ H->o.wpIn (FW x) m P a w K Q:=by
   intro al iF h T;obtain⟨v,w',M,d',H',c',⟨rfl,rfl⟩,gu,q,l⟩:=abY (P:=P) (K:=λd' H'=>d'=d/\H'=δ.app H al) hs.gu hs.env iF s1 (Wa h ⟨rfl,rfl⟩);refine⟨λ_ _=>trivial,?_⟩;rw[Oper.semAt_plain (FW x) a.eval o (Dy s1)];rw[T]at gu l;have j:=hs.next gu l B q
   rw[<-p]at j;have U:=k c' w' _ j l;rw[p]at U;rcases M with M|⟨M,rfl⟩
   .rw[M];exact U
   .rw[M];exact U
  by_cases Y:∃ob,δ = .new ob
  .obtain⟨ob,rfl⟩:=Y;exact s (al:=Al.mF H n) (oD.mF R) h rfl
  .have X:∀ob,δ≠.new ob:=λob e=>Y ⟨ob,e⟩;refine s (al:=Al.last H) (oD.last H) (adu h X) ?_;cases δ<;>first|rfl|exact absurd rfl (X _)
 | off hg=>
  have r:=wP hs.env z hg;simp only[r,bG,if_false];refine⟨λ_ _=>trivial,?_⟩;have j:=hs.next hs.gu (Step.refl _ _ _ _) B (v:=undef) (d:=.val undef) (.val _)
  rw[<-p]at j;have:=k c w _ j (Step.refl _ _ _ _);rw[p]at this;exact this
 | @call g args d hg t h q=>
  have r:=wP hs.env z hg;have s1:=HE s1 t;simp only[r,if_true];obtain⟨F,I⟩:=W _ _ _ _ h;obtain⟨vs,L,J⟩:=Ql hs.gu hs.env s1 t F
  have Z:(if gN args then od d&&([]:gg).all pq else p5 d&&([]:gg).all rl)=bs/\lz H.l d=d:=by
   by_cases O:gN args=bs
   .rw[if_pos O]at q ⊢;obtain⟨a,b⟩:=HB (H:=H) q;exact⟨by simp[a],b⟩
   .rw[if_neg O]at q ⊢;obtain⟨a,b⟩:=RQ (H:=H) q;exact⟨by simp[a],b⟩
  have y:=ab1 hs.gu J I Z.1;rw[Z.2,aD]at y;refine⟨λ_ _=>trivial,?_⟩;rw[Oper.semAt_plain (FW x) a.eval o (Dy s1),L];refine⟨λh=>by simp[Fence.wide]at h,Hx.2 (y.mono ?_)⟩;rintro e' w' ⟨v,c',rfl,gu,E,l⟩;have j:=hs.next gu l B E
  rw[<-p]at j;have:=k c' w' _ j l;rw[p]at this;exact this
 | @callN g as args d ob hg S V h q R=>
  have r:=wP hs.env z hg;simp only[r,if_true];have t:lB f e.op=aE (g,args):=by rw[S,V];rfl
  have s1:=HE s1 t;obtain⟨F,I⟩:=W _ _ _ _ h;obtain⟨vs,L,J⟩:=Ql hs.gu hs.env s1 t F;have y:=aow hs.gu J I q R;refine⟨λ_ _=>trivial,?_⟩;rw[Oper.semAt_plain (FW x) a.eval o (Dy s1),L];refine⟨λh=>by simp[Fence.wide]at h,Hx.2 (y.mono ?_)⟩;rintro e' w' ⟨v,c',rfl,gu,E,l⟩;have j:=hs.next gu l B E
  rw[<-p]at j;have:=k c' w' _ j l;rw[p]at this;exact this
 | @Ce g as args d v hg S V hS hv iw h O q=>
  have r:=wP hs.env z hg;simp only[r,if_true];have t:lB f e.op=aE (g,args):=by rw[S,V];rfl
  have s1:=HE s1 t;obtain⟨F,I⟩:=W _ _ _ _ h;obtain⟨vs,L,J⟩:=Ql hs.gu hs.env s1 t F;have y:=aov hs.gu J hS iw I O q;refine⟨λ_ _=>trivial,?_⟩;rw[Oper.semAt_plain (FW x) a.eval o (Dy s1),L];refine⟨λh=>by simp[Fence.wide]at h,Hx.2 (y.mono ?_)⟩;rintro e' w' ⟨u,c',rfl,gu,E,l⟩;have j:=hs.next gu l B E
  rw[<-p]at j;have:=k c' w' _ j l;rw[p]at this;exact this
end
def AK(A:Array Oper):Bool:=(dr A.size).all λi=>match A[i]? with
 | some o=>o.after.all λe => !Region.binds .any e||decide (e.on<i)
 | none=>bs
def zU(A:Array Oper)(ord:List (List Nat)):Bool:=(dr A.size).all λi=>match A[i]? with
 | some o=>(ord.getD i []).all λk=>o.after.any λe=>Region.binds .any e&&(e.on == k||(ord.getD e.on []).contains k)
 | none=>bs
def Uw(l:List iz)(ord:List (List Nat))(c:List (Nat×Nat)):Bool:=(dr l.l).all λi=>(dr i).all λk=>
 (ord.getD i []).contains k||(match l[k]?,l[i]? with
  | some a,aE b=>z6 a b&&(c.contains (k,i)||Qy a.op b.op)
  | _,_=>cp)
section
variable{P:Program}{G:GT}{A:Array Oper}{ord:List (List Nat)}
theorem aeW(h:AK A=bs){i:Nat}{o:Oper}(hi:A[i]? = aE o){e:Edge}(a:e∈o.after)(b:Region.binds .any e=bs):e.on<i:=by have:=bb.1 h i (br.2 (aU.1 hi).1);simp only[hi]at this;have:=cP.1 this e a;simpa[b]using this
theorem abQ(h:zU A ord=bs){i:Nat}{o:Oper}(hi:A[i]? = aE o){k:Nat}(b:k∈ord.getD i []):∃e∈o.after,Region.binds .any e=bs/\(e.on=k\/k∈ord.getD e.on []):=by have:=bb.1 h i (br.2 (aU.1 hi).1);simp only[hi]at this;have:=bb.1 this k b;obtain⟨e,c,a⟩:=Array.any_eq_true'.1 this;simp only[ai,b9,beq_iff_eq,dD]at a;exact⟨e,c,a.1,a.2⟩
structure Left(A:Array Oper)(ord:List (List Nat))(rem:List nJ)(listed:Array Bool):Prop where
 size:listed.size=A.size
 iff:∀j,j<A.size->(listed.getD j bs=cp↔∃it∈rem,it.k=j)
 sorted:rem.Pairwise λp q=>p.k<q.k
 lt:∀it∈rem,it.k<A.size
 down:∀i,i<A.size->listed.getD i cp=bs->∀k∈ord.getD i [],listed.getD k cp=bs
theorem aiL{rem:List nJ}{a:Array Bool}(h:Left A ord rem a){j:Nat}(c:j<A.size):a.getD j cp=bs\/∃e∈rem,e.k=j:=by
 have d:j<a.size:=by rw[h.size];exact c
 cases b:a.getD j bs with
 | false=>exact .inr ((h.iff j c).1 b)
 | true=>left;simp[d]at b ⊢;exact b
theorem ajh{rem:List nJ}{a:Array Bool}(h:Left A ord rem a){b:nJ}(c:b∈rem):a.getD b.k cp=false:=by
 have d:=h.lt b c;have:=(h.iff b.k d).2 ⟨b,c,rfl⟩;have e:b.k<a.size:=by rw[h.size];exact d
 simp[e]at this ⊢;exact this
theorem UI(j:AK A=bs){b:nJ}{rem:List nJ}{a:Array Bool}(h:Left A ord (b::rem) a):b.k∈Region.ready .any A a:=by
 rw[mem_ready];have d:=h.lt b gf;refine⟨(h.iff b.k d).2 ⟨b,gf,rfl⟩,A[b.k],by simp[d],λe g k=>?_⟩;have l:=aeW j (i:=b.k) (o:=A[b.k]) (by simp[d]) g k;rcases aiL h (U:e.on<A.size)with hl|⟨q,c,f⟩
 .exact hl
 .exfalso;rcases ay.1 c with rfl|c
  .omega
  .have:=(aW.1 h.sorted).1 q c;omega
theorem Qa(k:zU A ord=bs){rem:List nJ}{a:Array Bool}(h:Left A ord rem a){i:Nat}(hi:i∈Region.ready .any A a){q:nJ}(j:q∈rem):q.k ∉ ord.getD i []:=by
 intro m;obtain⟨_,o,r,g⟩:=mem_ready.1 hi;obtain⟨e,l,n,b⟩:=abQ k r m;have c:=g e l n;have f:=ajh h j;rcases b with b|b
 .grind
 .have p:e.on<A.size:=by
   rcases bJ e.on A.size with d|d
   .exact d
   .have:a.getD e.on cp=false:=by
     have:a.size<=e.on:=by rw[h.size];exact d
     simp[eA this]
    rw[this]at c;cases c
  have:=h.down e.on p c q.k b;rw[this]at f;cases f
theorem PA(s:zU A ord=bs){pre post:List nJ}{b:nJ}{a:Array Bool}(h:Left A ord (pre++b::post) a)(hi:b.k∈Region.ready .any A a) :
  Left A ord (pre++post) (a.setIfInBounds b.k bs):=by
 have l:(pre++post).Sublist (pre++b::post):=dZ (eC b post) pre
 have x:∀q∈pre++post,q.k≠b.k:=by
  intro q c;have:=bR.1 h.sorted;rcases aj.1 c with c|c
  .grind
  .have:=(aW.1 this.2.1).1 q c;omega
 have n:=h.lt b gf;refine⟨by simp[h.size],λj u=>?_,h.sorted.sublist l,λq c=>h.lt q (l.subset c),λi p hl k m=>?_⟩
 .by_cases e:b.k=j
  .simp_all
  .rw[getD_set_ne bs e,h.iff j u];constructor
   .grind
   .grind
 .by_cases e:b.k=i
  .subst e;obtain⟨_,o,w,r⟩:=mem_ready.1 hi;obtain⟨e,t,v,f⟩:=abQ s w m;have d:=r e t v;rcases f with rfl|f
   .exact getD_set_true d
   .have n:e.on<A.size:=by
     rcases bJ e.on A.size with g|g
     .exact g
     .have:a.getD e.on cp=false:=by
       have:a.size<=e.on:=by rw[h.size];exact g
       simp[eA this]
      rw[this]at d;cases d
    exact getD_set_true (h.down e.on n d k f)
  .rw[getD_set_ne cp e]at hl;exact getD_set_true (h.down i p hl k m)
variable{C:FuncId->List D->D->gg->Prop}{N:Nat}
theorem Wb(n:Nat)(δ:Dl)(H:gg):(mh n δ H).l=H.l:=by
 cases δ with
 | no=>rfl
 | cells v o xs=>simp only[mh,Dl.app];split<;>simp
 | obj v ob=>simp[mh,Dl.app]
 | new ob=>simp[mh,Dl.app,Al.mF]
theorem V7(y:∀g args d Hn,C g args d Hn->uu P g=bs/\Aa P G g args [] d Hn)(x:AK A=bs)(t:zU A ord=bs){z:Option Nat}{m:Nat}{Q:Exit->Act->World->Prop}{ms:List Nat}{f':il}{H':gg} :
  ∀(fuel:Nat) (rem:List nJ) (b:Array Bool) (c:Ctx) (w:World) (f:il) (H:gg) (a:Act),rem.l=fuel->Left A ord rem b->SX G N c w f H ms a->Tx C f H rem f' H' ->
   (∀e∈rem,∃o,A[e.k]? = aE o/\x8 P G N A o=aE e.e) ->
   (∀p∈rem,∀q∈rem,p.k<q.k->p.k∈ord.getD q.k []\/(z6 p.e q.e=bs/\xM p.rc q.rc=bs)) ->
   (∀c' w' n,SX G N c' w' f' H' ms n->Step H.l c H w c' H' w'->Q .normal n w')->wpAnyIn (FW z) m P .any A Q fuel b a w
 | 0,rem,b,c,w,f,H,a,hl,mT,hs,ht,_,_,hQ=>by have:rem = []:=aY hl;subst this;cases ht;refine⟨?_,hQ c w a hs (Step.refl _ _ _ _)⟩;refine bq.2 λj E=>?_;obtain⟨h1,o,u,_⟩:=mem_ready.1 E;obtain⟨e,s,_⟩:=(mT.iff j (aU.1 u).1).1 h1;cases s
 | fuel+1,rem,b,c,w,f,H,a,hl,mT,hs,ht,zn,IS,hQ=>by
  refine⟨λh0=>?_,λi hi=>?_⟩
  .cases rem with
   | nil=>cases hl
   | cons e rem=>
    have:=UI x mT;rw[h0]at this;cases this
  .obtain⟨h1,o,u,_⟩:=mem_ready.1 hi;obtain⟨e,s,rfl⟩:=(mT.iff i (aU.1 u).1).1 h1;obtain⟨pre,post,rfl⟩:=dx s
   have M:∀p∈pre,z6 p.e e.e=bs/\xM p.rc e.rc=true:=by
    intro p l;have J:p.k<e.k:=(bR.1 mT.sorted).2.2 p l e gf;rcases IS p (bK _ l) e gf J with h|h
    .exact absurd h (Qa t mT hi (bK _ l))
    .exact h
   obtain⟨d,δ,I,F⟩:=ht.front M;obtain⟨o',O,R⟩:=zn e gf;have r:∀q∈pre++post,q∈pre++e::post:=λq k=>(dZ (eC e post) pre).subset k;refine Xo y hs O R I λc' w' n D K=>?_;refine V7 y x t fuel (pre++post) _ c' w' _ _ n (by simp at hl ⊢;omega) (PA t mT hi) D F (λq k=>zn q (r q k)) (λp l q k=>IS p (r p l) q (r q k)) λc2 w2 L B v=>?_;rw[Wb]at v;exact hQ c2 w2 L B (K.trans v (di _))
def PZ(x:Operand)(e:Option Tmp):Bool:=match x with
 | .tmp t=>e != aE t
 | _=>bs
def P6:Op->Option Operand
 | .extract x _=>aE x
 | .move x | .assign x=>aE x
 | _=>cj
def QA(p q:Oper):Bool:=match P6 p.op,P6 q.op with
 | some x,aE y=>p.guard.isNone&&q.guard.isNone&&PZ x q.dst&&PZ y p.dst&&(p.dst != q.dst)
 | _,_=>cp
def Gp(A:Array Oper)(k i:Nat):Bool:=match A[k]?,A[i]? with
 | some p,aE q=>QA p q
 | _,_=>cp
theorem abB{x:Operand}{e:Option Tmp}(h:PZ x e=bs)(a:Act)(v:Value):(a.put e v).eval x=a.eval x:=Act.eval_put λd c b=>by subst b c;simp[PZ]at h
theorem XJ{F:Fence}{m:Nat}{P:Program}{Q:Exit->Act->World->Prop}{o:Oper}{x:Operand}{a:Act}{w:World}{K:Act->World->Prop}(d:P6 o.op=aE x)(h:o.wpIn F m P a w K Q) :
  ∃v,K (a.put o.dst v) w/\∀(b:Act) (l:Act->World->Prop),b.eval x=a.eval x->l (b.put o.dst v) w->o.wpIn F m P b w l Q:=by
 have g:=h.2;have n:∀c,o.op≠.defer c:=λc e=>by rw[e]at d;cases d
 have p:∀c,o.op≠.call c:=λc e=>by rw[e]at d;cases d
 have s:∀b:Act,o.about P w b.eval=none:=λb=>by
  unfold Oper.about;split
  .rename_i c B;exact absurd B (p c)
  .rfl
 rw[Oper.semAt_eq _ _ _ n]at g;unfold P6 at d;split at d
 .rename_i y i j;cases d
  by_cases t:∃vs v,a.eval x = .tuple vs/\vs[i]? = aE v
  .obtain⟨vs,v,z,u⟩:=t;refine⟨v,by simpa[execOp,j,z,u,Instr.extract,Oper.uponIn]using g,λb l q r=>⟨λf k=>(by rw[s b]at k;cases k),?_⟩⟩;rw[Oper.semAt_eq _ _ _ n];simpa[execOp,j,q,z,u,Instr.extract,Oper.uponIn]using r
  .exfalso;simp only[execOp,j]at g;unfold Instr.extract at g;split at g
   .rename_i vs A
    cases hi:vs[i]? with
    | some v=>exact t ⟨vs,v,A,hi⟩
    | none=>simp[hi,Oper.uponIn]at g
   .simp[Oper.uponIn]at g
 all_goals first
  | (rename_i y j;cases d;refine⟨a.eval x,by simpa[execOp,j,Oper.uponIn]using g,λb l q r=>⟨λf k=>(by rw[s b]at k;cases k),?_⟩⟩;rw[Oper.semAt_eq _ _ _ n];simpa[execOp,j,q,Oper.uponIn]using r)
  | cases d
theorem ap4{F:Fence}{m:Nat}{P:Program}{A:Array Oper}{Q:Exit->Act->World->Prop}{p q:Oper}{ops:List Oper}{a:Act}{w:World}(hs:QA p q=bs)(h:wpListIn F m P A Q (p::q::ops) a w):wpListIn F m P A Q (q::p::ops) a w:=by
 unfold QA at hs;split at hs
 .rename_i x y g f;simp only[ai,bne_iff_ne,ne_eq,Option.isNone_iff_eq_none]at hs;obtain⟨⟨⟨⟨k,j⟩,c⟩,b⟩,i⟩:=hs;simp only[wpListIn,Region.wanted,k,j,if_true]at h ⊢;obtain⟨v,h,kv⟩:=XJ g h;obtain⟨u,h,e⟩:=XJ f h;refine e a _ (abB b a v).symm (kv _ _ (abB c a u) ?_);rw[<-Act.put_comm a v u λd n l=>i (n.trans l.symm)];exact h
 .cases hs
theorem V9(C:AK A=bs)(n:zU A ord=bs){F:Fence}{m:Nat}{Q:Exit->Act->World->Prop} :
  ∀(fuel:Nat) (lasts:List nJ) (ops:List Oper) (b:Array Bool) (a:Act) (w:World),lasts.l=fuel->Left A ord lasts b ->
   (∀q∈lasts,∀k,k<q.k->k∈ord.getD q.k []\/((∃p∈lasts,p.k=k)->k+1=q.k/\Gp A k q.k=bs))->lasts.map (λq=>A[q.k]?)=ops.map aE ->
   wpListIn F m P A Q ops a w->wpAnyIn F m P .any A Q fuel b a w
 | 0,lasts,ops,b,a,w,c,mT,_,g,h=>by
  have h0:lasts = []:=aY c;subst h0;have:ops = []:=by simpa using g.symm
  subst this;refine⟨bq.2 λj K=>?_,h⟩;obtain⟨h1,o,s,_⟩:=mem_ready.1 K;obtain⟨d,l,_⟩:=(mT.iff j (aU.1 s).1).1 h1;cases l
 | fuel+1,aiu,ops,b,a,w,c,mT,hl,g,h=>by
  cases aiu with
  | nil=>cases c
  | cons q lasts=>
  cases ops with
  | nil=>simp at g
  | cons o ops=>
   simp only[ek,dj]at g;refine⟨λh0=>?_,λi hi=>?_⟩
   .have:=UI C mT;rw[h0]at this;cases this
   .obtain⟨h1,o',s,_⟩:=mem_ready.1 hi;obtain⟨d,l,rfl⟩:=(mT.iff i (aU.1 s).1).1 h1
    have key:∀(d:nJ) (o:Oper) (lasts:List nJ) (ops:List Oper),A[d.k]? = aE o->lasts.l=fuel->Left A ord lasts (b.setIfInBounds d.k bs)->(∀q∈lasts,∀k,k<q.k->k∈ord.getD q.k []\/((∃p∈lasts,p.k=k)->k+1=q.k/\Gp A k q.k=bs)) ->
      lasts.map (λq=>A[q.k]?)=ops.map aE->wpListIn F m P A Q (o::ops) a w->wpOpIn F m P A Q d.k (wpAnyIn F m P .any A Q fuel (b.setIfInBounds d.k bs)) a w:=λd o lasts ops v c J hl g h=>by
     have E:∀a w,wpListIn F m P A Q ops a w->wpAnyIn F m P .any A Q fuel (b.setIfInBounds d.k bs) a w:=λa w h=>V9 C n fuel lasts ops _ a w c J hl g h;unfold wpOpIn;simp only[v];simp only[wpListIn]at h;split
     .rename_i H;simp only[H,if_true]at h;exact Oper.wpIn_mono E h
     .grind
    rcases ay.1 l with e|l
    .subst e;exact key d o lasts ops g.1 (by simpa using c) (PA (pre:=[]) (post:=lasts) n mT hi) (λq I k y=>(hl q (bh _ I) k y).imp id λf ⟨p,u,e⟩=>f ⟨p,bh _ u,e⟩) g.2 h
    .have L:q.k<d.k:=(aW.1 mT.sorted).1 d l;have z:q.k ∉ ord.getD d.k []:=Qa n mT hi (q:=q) gf;have M:=((hl d (bh _ l) q.k L).resolve_left z) ⟨q,gf,rfl⟩
     cases lasts with
     | nil=>cases l
     | cons r lasts=>
      have t:r=d:=by
       rcases ay.1 l with e|t
       .exact e.symm
       .have h1:q.k<r.k:=(aW.1 mT.sorted).1 r gf;have s:r.k<d.k:=(aW.1 (aW.1 mT.sorted).2).1 d t;omega
      subst t
      cases ops with
      | nil=>simp at g
      | cons B ops=>
       simp only[ek,dj]at g
       have D:QA o B=true:=by have:=M.2;unfold Gp at this;rw[g.1,g.2.1]at this;exact this
       refine key r B (q::lasts) (o::ops) g.2.1 (by simpa using c) (PA (pre:=[q]) (post:=lasts) n mT hi) (λx G k y=>?_) (by simp[g.1,g.2.2]) (ap4 D h)
       have N:x∈q::r::lasts:=by
        rcases ay.1 G with e|e
        .simp[e]
        .simp[e]
       refine(hl x N k y).imp id λf ⟨p,u,e⟩=>f ⟨p,?_,e⟩;rcases ay.1 u with e|e
       .simp[e]
       .simp[e]
theorem V8(I:∀g args d Hn,C g args d Hn->uu P g=bs/\Aa P G g args [] d Hn)(x:AK A=bs)(s:zU A ord=bs){E:Option Nat}{m:Nat}{Q:Exit->Act->World->Prop}{ms:List Nat}{f':il}{H':gg}{lasts:List nJ}{ops:List Oper}
  (z:∀q∈lasts,∀k,k<q.k->k∈ord.getD q.k []\/((∃p∈lasts,p.k=k)/\k+1=q.k/\Gp A k q.k=bs)) (F:lasts.map (λq=>A[q.k]?)=ops.map aE) :
  ∀(fuel:Nat) (rem:List nJ) (b:Array Bool) (c:Ctx) (w:World) (f:il) (H:gg) (a:Act),rem.l=fuel->Left A ord (rem++lasts) b->SX G N c w f H ms a->Tx C f H rem f' H' ->
   (∀j∈rem,∃o,A[j.k]? = aE o/\x8 P G N A o=aE j.e) ->
   (∀p∈rem,∀q∈rem,p.k<q.k->p.k∈ord.getD q.k []\/(z6 p.e q.e=bs/\xM p.rc q.rc=bs)) ->
   (∀c' w' t,SX G N c' w' f' H' ms t->Step H.l c H w c' H' w'->wpListIn (FW E) m P A Q ops t w')->wpAnyIn (FW E) m P .any A Q (fuel+lasts.l) b a w
 | 0,rem,b,c,w,f,H,a,hl,mT,hs,ht,_,_,hQ=>by have:rem = []:=aY hl;subst this;cases ht;rw[aV];exact V9 x s _ lasts ops b a w rfl mT (λq n k L=>(z q n k L).imp id λh _=>h.2) F (hQ c w a hs (Step.refl _ _ _ _))
 | fuel+1,rem,b,c,w,f,H,a,hl,mT,hs,ht,zn,IS,hQ=>by
  have D:∀q∈rem,∀l∈lasts,q.k<l.k:=λq n l hl=>(bR.1 mT.sorted).2.2 q n l hl;rw[(U:fuel+1+lasts.l=(fuel+lasts.l)+1)];refine⟨λh0=>?_,λi hi=>?_⟩
  .cases rem with
   | nil=>cases hl
   | cons j rem=>
    have:=UI (rem:=rem++lasts) x mT;rw[h0]at this;cases this
  .obtain⟨h1,o,R,_⟩:=mem_ready.1 hi;obtain⟨j,v,rfl⟩:=(mT.iff i (aU.1 R).1).1 h1
   have v:j∈rem:=by
    rcases aj.1 v with h|h
    .exact h
    .cases rem with
     | nil=>cases hl
     | cons q rem=>
      rcases z j h q.k (D q gf j h)with h1|⟨⟨p,r,e⟩,_⟩
      .exact absurd h1 (Qa s mT hi (q:=q) gf)
      .have:=D q gf p r;omega
   obtain⟨pre,post,rfl⟩:=dx v;have y:Left A ord (pre++j::(post++lasts)) b:=by simpa using mT
   have W:∀p∈pre,z6 p.e j.e=bs/\xM p.rc j.rc=true:=by
    intro p r;have S:p.k<j.k:=(bR.1 y.sorted).2.2 p r j gf;rcases IS p (bK _ r) j gf S with h|h
    .exact absurd h (Qa s y hi (bK _ r))
    .exact h
   obtain⟨d,δ,O,M⟩:=ht.front W;obtain⟨o',X,Y⟩:=zn j gf;have u:∀q∈pre++post,q∈pre++j::post:=λq n=>(dZ (eC j post) pre).subset n;refine Xo I hs X Y O λc' w' t K T=>?_;refine V8 I x s z F fuel (pre++post) _ c' w' _ _ t (by simp at hl ⊢;omega) (by simpa using PA s y hi) K M (λq n=>zn q (u q n)) (λp r q n=>IS p (u p r) q (u q n)) λc2 w2 V J B=>?_;rw[Wb]at B;exact hQ c2 w2 V J (T.trans B (di _))
