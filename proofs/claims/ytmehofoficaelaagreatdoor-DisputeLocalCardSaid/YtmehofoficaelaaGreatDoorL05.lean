/- Part 5 of DisputeLocal. -/
import Derived.Test.YtmehofoficaelaaGreatDoorL04
set_option linter.all false
namespace Go.AL
open Go
section
variable{P:Program}{G:GT}{c c2:Ctx}{H Hn:U}{w w2:World}{N:Nat}
def lO{ds:List D}(h:fE ds=true):∀ d∈ds,closed d=true:=fun d hd=>by
 obtain⟨i,hi⟩:=aG.1 hd
 exact tX h hi
def ow{ρ:Nat→Option Nat}{k:Nat}{d:D}(h:closed d=true):e7 ρ H k d=d:=by
 cases k<;>(unfold e7;simp[h])
def Ctx.join(c c2:Ctx)(n:Nat)(F:Nat→Prop):Ctx where
 ι:=fun v g=>if v<n then c.ι v g else c2.ι (v-n) g
 F:=F
 RT:=c.RT
def Cw{F:Nat→Prop}{v:Nat}{L:Loc}(h:kR (c.join c2 H.length F) (H++Hn) v L):(v<H.length∧kR c H v L)∨(H.length≤v∧kR c2 Hn (v-H.length) L):=by
 obtain⟨o,ho,ha,e9⟩:=h
 rcases a8 v H.length with hv|hv
 ·rw[ag hv]at ho
  simp only[Ctx.join,if_pos hv]at e9
  exact .inl ⟨hv,o,ho,ha,e9⟩
 ·rw[ao hv]at ho
  simp only[Ctx.join,if_neg (eN.2 hv)]at e9
  exact .inr ⟨hv,o,ho,ha,e9⟩
structure vb(G:GT)(c c2:Ctx)(H Hn:U)(w w2:World)(F:Nat→Prop):Prop where
 eZ:fr G c H w
 me:fr G c2 Hn w2
 oD:jz w w2
 fresh:∀ b,ly c2 Hn b→w.heap.size≤b
 le:∀ b,c.F b→F b
 lt:∀ b,F b→b<w2.heap.size
 n1:∀ b,F b→¬ ly c H b
 n2:∀ b,F b→¬ ly c2 Hn b
 new:∀ b,F b→c.F b∨w.heap.size≤b
 rows:∀ (v:Nat) (o:Ob),Hn[v]? = some o→∃ t g cs,o = .row t g cs∧∀ d∈cs,∀ u,eW c2 w2 u d→eW (c.join c2 H.length F) w2 u d
variable{F:Nat→Prop}
def Rj(j:vb G c c2 H Hn w w2 F){u:Value}{d:D}(h:eW c w u d):eW (c.join c2 H.length F) w2 u d:=by
 refine h.carry (fun v k L hL=>?_) j.le (fun b o hF=>Bh (j.oD.kept b (j.eZ.jY b hF)))
 have hv:v<H.length:=by
  rcases a8 v H.length with h|h
  ·exact h
  ·rw[j.eZ.out v k h]at hL;cases hL
 simp only[Ctx.join,if_pos hv];exact hL
def HY(j:vb G c c2 H Hn w w2 F):fr G (c.join c2 H.length F) (H++Hn) w2 where
 inj v v' L L' h1 h2 h3 h4 he:=by
  rcases Cw h1 with⟨a,b⟩|⟨a,b⟩<;>rcases Cw h2 with⟨a',b'⟩|⟨a',b'⟩
  ·exact j.eZ.inj v v' L L' b b' h3 h4 he
  ·have:=j.eZ.lt _ ⟨v,L,b,h3,rfl⟩
   have:=j.fresh _ ⟨_,L',b',h4,rfl⟩
   omega
  ·have:=j.eZ.lt _ ⟨v',L',b',h4,rfl⟩
   have:=j.fresh _ ⟨_,L,b,h3,rfl⟩
   omega
  ·have:=j.me.inj _ _ L L' b b' h3 h4 he
   omega
 lt b hb:=by
  obtain⟨v,L,hl,hv,e⟩:=hb
  rcases Cw hl with⟨_,hl⟩|⟨_,hl⟩
  ·exact aJ (j.eZ.lt b ⟨v,L,hl,hv,e⟩) j.oD.size
  ·exact j.me.lt b ⟨_,L,hl,hv,e⟩
 nF b hb hF:=by
  obtain⟨v,L,hl,hv,e⟩:=hb
  rcases Cw hl with⟨_,hl⟩|⟨_,hl⟩
  ·exact j.n1 b hF ⟨v,L,hl,hv,e⟩
  ·exact j.n2 b hF ⟨_,L,hl,hv,e⟩
 jY b hb:=j.lt b hb
 out v k hv:=by
  simp only[az]at hv
  simp only[Ctx.join,if_neg (show ¬ v<H.length by omega)]
  exact j.me.out _ k (by omega)
 lC v o k ho hk:=by
  rcases a8 v H.length with hv|hv
  ·rw[ag hv]at ho
   simp only[Ctx.join,if_pos hv]
   exact j.eZ.lC v o k ho hk
  ·rw[ao hv]at ho
   simp only[Ctx.join,if_neg (eN.2 hv)]
   exact j.me.lC _ o k ho hk
 ob v o ho:=by
  rcases a8 v H.length with hv|hv
  ·rw[ag hv]at ho
   simp only[Ctx.join,if_pos hv]
   exact gq.pN (c:=c) (c':=c.join c2 H.length F) rfl (fun _ _ h=>Rj j h) (fun l hl kP hd=>j.oD.kept _ (j.eZ.lt _ ⟨v,l,⟨o,ho,hd,hl⟩,kP,rfl⟩)) (j.eZ.ob v o ho)
  ·rw[ao hv]at ho
   simp only[Ctx.join,if_neg (eN.2 hv)]
   have h0:=j.me.ob _ o ho
   obtain⟨t,g,cs,rfl,hr⟩:=j.rows _ o ho
   simp only[Ob.gen]at h0 ⊢
   cases hL:c2.ι (v-H.length) g with
   | none=>rw[hL]at h0;simp[gq]at h0
   | some L=>
    rw[hL]at h0
    simp only[gq]at h0 ⊢
    split
    ·rename_i lY;simp only[lY,if_true]at h0;exact h0
    ·rename_i lY
     simp only[lY]at h0
     obtain⟨arr,h1,h2,h3,h4⟩:=h0
     refine⟨arr,h1,h2,h3,fun i d hd=>?_⟩
     obtain⟨x,oX,kD,uz⟩:=h4 i d hd
     exact⟨x,oX,kD,hr d (aM hd) _ uz⟩
 gl g cs hg:=by
  obtain⟨h1,h2⟩:=j.eZ.gl g cs hg
  exact⟨h1,Rj j h2⟩
 rt:=j.eZ.rt
def HZ(j:vb G c c2 H Hn w w2 F):Step H.length c H w (c.join c2 H.length F) (H++Hn) w2 where
 os:=j.oD.os
 tape:=j.oD.tape
 output:=j.oD.output
 size:=j.oD.size
 RT:=rfl
 Fm b hb:=j.le b hb
 Fn b hb:=(j.new b hb).imp id .inl
 kept b hb _:=j.oD.kept b hb
 old v k L hv h:=by simp only[Ctx.join,if_pos hv];exact h
 own b hb:=by
  obtain⟨v,L,hl,hv,e⟩:=hb
  rcases Cw hl with⟨_,hl⟩|⟨_,hl⟩
  ·exact .inr ⟨v,L,hl,hv,e⟩
  ·exact .inl (j.fresh b ⟨_,L,hl,hv,e⟩)
def IE(j:vb G c c2 H Hn w w2 F){p:D→Bool}(hp:∀ d u,p d=true→eW c2 w2 u d→eW (c.join c2 H.length F) w2 u d){u:Value}{r:D}
  (hr:eW c2 w2 u r) (h:tu p r=true):eW (c.join c2 H.length F) w2 u (jK H.length r):=by
 have B8:∀ v g sz off len u,eW c2 w2 u (.eX v g sz off len)→eW (c.join c2 H.length F) w2 u (.eX (v+H.length) g sz off len):=by
  intro v g sz off len u hr
  cases hr with
  | eX _ _ _ _ _ cap L e9 hv ju ix lJ=>exact .eX _ g sz off len cap L (by simp only[Ctx.join];rw[if_neg (by omega),Nat.add_sub_cancel];exact e9) hv ju ix lJ
  | lE _ _ _ _ L e9 a=>exact .lE _ g sz off L (by simp only[Ctx.join];rw[if_neg (by omega),Nat.add_sub_cancel];exact e9) a
 have h1:∀ (d:D) (u:Value),uL p d=true→eW c2 w2 u d→eW (c.join c2 H.length F) w2 u (uH H.length d):=by
  intro d u hd hr
  cases d<;>first|exact B8 _ _ _ _ _ _ hr|exact hp _ _ hd hr
 cases r with
 | tup ds=>
  cases hr with
  | tup vs _ hl uu=>
   simp only[jK]
   refine .tup vs _ (by simpa using hl) fun i v d hv hd=>?_
   simp only[aq,aj]at hd
   obtain⟨d0,km,rfl⟩:=hd
   exact h1 d0 v (ar.1 h d0 (aM km)) (uu i v d0 hv km)
 | agg ds=>
  cases hr with
  | agg vs _ hl ho uu=>
   simp only[jK]
   refine .agg vs _ (by simpa using hl) ho fun i v d hv hd=>?_
   simp only[aq,aj]at hd
   obtain⟨d0,km,rfl⟩:=hd
   exact h1 d0 v (ar.1 h d0 (aM km)) (uu i v d0 hv km)
 | eX v g sz off len=>exact B8 _ _ _ _ _ _ hr
 | _=>exact hp _ _ h hr
def Ctx.data(c:Ctx)(F:Nat→Prop):Ctx where
 ι:=fun _ _=>none
 F:=F
 RT:=c.RT
def GN(h:fr G c H w):fr G (c.data c.F) [] w where
 inj v v' L L' h1:=by obtain⟨o,ho,_⟩:=h1;simp at ho
 lt b hb:=by obtain⟨v,L,⟨o,ho,_⟩,_⟩:=hb;simp at ho
 nF b hb:=by obtain⟨v,L,⟨o,ho,_⟩,_⟩:=hb;simp at ho
 jY b hb:=h.jY b hb
 out _ _ _:=rfl
 lC _ _ _ _ _:=rfl
 ob v o ho:=by simp at ho
 gl g cs hg:=by
  obtain⟨h1,h2⟩:=h.gl g cs hg
  exact⟨h1,eW.closed (c:=c) (c':=c.data c.F) (fun b hb=>hb) h2 (by simpa[AL.closed]using h1)⟩
 rt:=h.rt
def qL{c:Ctx}{b:Nat}:¬ ly c [] b:=by
 rintro⟨v,L,⟨o,ho,_⟩,_⟩
 simp at ho
def xn{n:Nat}{c0:Ctx}(hs:Step n c0 [] w c2 Hn w2):jz w w2:=
 ⟨hs.os,hs.tape,hs.output,hs.size,fun b hb=>hs.kept b hb qL⟩
def OU(h:Hn.all mL=true){v:Nat}{o:Ob}(ho:Hn[v]? = some o):∃ t g cs,o = .row t g cs∧∀ d∈cs,closed d=true:=by
 have:=ar.1 h o (aM ho)
 cases o<;>simp only[mL]at this<;>first|cases this;done|skip
 exact⟨_,_,_,rfl,lO this⟩
def PQ(h:Hn.all oe=true){v:Nat}{o:Ob}(ho:Hn[v]? = some o):∃ t g cs,o = .row t g cs∧∀ d∈cs,flat d=true:=by
 have:=ar.1 h o (aM ho)
 cases o<;>simp only[oe]at this<;>first|cases this;done|skip
 refine⟨_,_,_,rfl,fun d hd=>?_⟩
 obtain⟨i,hi⟩:=aG.1 hd
 exact zo this hi
def u3(P:Program)(G:GT)(f:FuncId)(args:List D)(H:U)(d:D)(H':U):Prop:=
 ∀ (c:Ctx) (w:World) (vs:List Value),fr G c H w→iS c w vs args →
  Calls P f vs.toArray w fun e w'=>∃ v c',e = .returned v∧fr G c' H' w'∧eW c' w' v d∧Step H.length c H w c' H' w'
def sE(P:Program)(G:GT)(f:FuncId)(args:List D)(H:U)(R:D→U→Prop):Prop:=
 ∀ (c:Ctx) (w:World) (vs:List Value),fr G c H w→iS c w vs args →
  Calls P f vs.toArray w fun e w'=>∃ v c' d H',e = .returned v∧R d H'∧H.length≤H'.length∧fr G c' H' w'∧eW c' w' v d∧Step H.length c H w c' H' w'
def sE.one{f:FuncId}{args:List D}{H:U}{R:D→U→Prop}{d:D}{H':U}(h:sE P G f args H R)(h1:∀ d' Hn,R d' Hn→d'=d∧Hn=H'):u3 P G f args H d H':=
 fun c w vs h2 h3=>(h c w vs h2 h3).mono fun _ _ ⟨v,c',_,_,he,hR,_,a,b,e⟩=>by
  obtain⟨rfl,rfl⟩:=h1 _ _ hR
  exact⟨v,c',he,a,b,e⟩
def MT:e7 (fun _=>none) H 40=e7 (ic []) H 40:=rfl
theorem iS.map{c c':Ctx}{f:D→D}(hr:∀ v d,eW c w v d→eW c' w v (f d)){vs:List Value}{ds:List D}(h:iS c w vs ds):iS c' w vs (ds.map f):=by
 induction h with
 | nil=>exact .nil
 | cons h _ ih=>exact .cons (hr _ _ h) ih
def SD(eZ:fr G c H w){f:FuncId}{vs:List Value}{args:List D}{d:D}(hr:iS c w vs args)(jh:u3 P G f (args.map (e7 (fun _=>none) H 40)) [] d Hn)
  (hc:(if fE args then lU d&&Hn.all mL else np d&&Hn.all oe)=true) :
  Calls P f vs.toArray w fun e w'=>∃ v c',e = .returned v∧fr G c' (H++Hn) w'∧eW c' w' v (jK H.length d)∧Step H.length c H w c' (H++Hn) w':=by
 by_cases gj:fE args=true
 ·rw[if_pos gj]at hc
  simp only[ah]at hc
  have e:args.map (e7 (fun _=>none) H 40)=args:=by
   conv=>rhs;rw[← aY args]
   exact au fun d hd=>ow (lO gj d hd)
  rw[e]at jh
  have sc:iS (c.data c.F) w vs args:=by
   clear jh hc e
   induction hr with
   | nil=>exact .nil
   | cons h _ ih=>
    simp only[fE,ah]at gj
    exact .cons (eW.closed (c:=c) (c':=c.data c.F) (fun b hb=>hb) h gj.1) (ih gj.2)
  refine(jh _ w vs (GN eZ) sc).mono ?_
  rintro e w' ⟨v,c2,he,h2,hv,fm⟩
  have hg:=xn fm
  have hF:∀ b,c2.F b→c.F b∨w.heap.size≤b:=fun b hb=>by
   rcases fm.Fn b hb with h|h|h
   ·exact .inl h
   ·exact .inr h
   ·exact absurd h qL
  have j:vb G c c2 H Hn w w' c2.F:={
   eZ:=eZ
   me:=h2
   oD:=hg
   fresh:=fun b hb=>by
    rcases fm.own b hb with h|h
    ·exact h
    ·exact absurd h qL
   le:=fun b hb=>fm.Fm b hb
   lt:=h2.jY
   n1:=fun b hb ho=>by
    rcases hF b hb with h|h
    ·exact eZ.nF b ho h
    ·have:=eZ.lt b ho;omega
   n2:=fun b hb ho=>h2.nF b ho hb
   new:=hF
   rows:=fun v o ho=>by
    obtain⟨t,g,cs,rfl,iL⟩:=OU hc.2 ho
    exact⟨t,g,cs,rfl,fun d hd u hu=>eW.closed (c:=c2) (c':=c.join c2 H.length c2.F) (fun b hb=>hb) hu (iL d hd)⟩ }
  exact⟨v,_,he,HY j,IE j (p:=AL.closed) (fun d u hd hu=>eW.closed (c:=c2) (c':=c.join c2 H.length c2.F) (fun b hb=>hb) hu hd) hv hc.1,HZ j⟩
 ·rw[if_neg gj]at hc
  simp only[ah]at hc
  have sc:iS (c.e7 [] H) w vs (args.map (e7 (fun _=>none) H 40)):=hr.map fun v d h=>by
   rw[MT];exact wv eZ 40 h
  have B7:fr G (c.e7 [] H) [] w:=Am (ks:=[]) eZ (fun i j p q hp=>by simp at hp)
  refine(jh _ w vs B7 sc).mono ?_
  rintro e w' ⟨v,c2,he,h2,hv,fm⟩
  have hg:=xn fm
  have j:vb G c c2 H Hn w w' c.F:={
   eZ:=eZ
   me:=h2
   oD:=hg
   fresh:=fun b hb=>by
    rcases fm.own b hb with h|h
    ·exact h
    ·exact absurd h qL
   le:=fun b hb=>hb
   lt:=fun b hb=>aJ (eZ.jY b hb) hg.size
   n1:=fun b hb ho=>eZ.nF b ho hb
   n2:=fun b hb ho=>by
    rcases fm.own b ho with h|h
    ·have:=eZ.jY b hb;omega
    ·exact absurd h qL
   new:=fun b hb=>.inl hb
   rows:=fun v o ho=>by
    obtain⟨t,g,cs,rfl,iL⟩:=PQ hc.2 ho
    exact⟨t,g,cs,rfl,fun d hd u hu=>eW.flat hu (iL d hd)⟩ }
  exact⟨v,_,he,HY j,IE j (p:=AL.flat) (fun d u hd hu=>eW.flat hu hd) hv hc.1,HZ j⟩
def afg(eZ:fr G c H w){f:FuncId}{vs:List Value}{args:List D}{R:D→U→Prop}(hr:iS c w vs args)(jh:sE P G f (args.map (e7 (fun _=>none) H 40)) [] R)
  (hc:∀ d Hn,R d Hn→(if fE args then lU d&&Hn.all mL else np d&&Hn.all oe)=true) :
  Calls P f vs.toArray w fun e w'=>∃ v c' d Hn,e = .returned v∧R d Hn∧fr G c' (H++Hn) w'∧eW c' w' v (jK H.length d)∧Step H.length c H w c' (H++Hn) w':=by
 by_cases gj:fE args=true
 ·simp only[if_pos gj,ah]at hc
  have e:args.map (e7 (fun _=>none) H 40)=args:=by
   conv=>rhs;rw[← aY args]
   exact au fun d hd=>ow (lO gj d hd)
  rw[e]at jh
  have sc:iS (c.data c.F) w vs args:=by
   clear jh hc e
   induction hr with
   | nil=>exact .nil
   | cons h _ ih=>
    simp only[fE,ah]at gj
    exact .cons (eW.closed (c:=c) (c':=c.data c.F) (fun b hb=>hb) h gj.1) (ih gj.2)
  refine(jh _ w vs (GN eZ) sc).mono ?_
  rintro e w' ⟨v,c2,d,Hn,he,hR,_,h2,hv,fm⟩
  have hc:=hc d Hn hR
  have hg:=xn fm
  have hF:∀ b,c2.F b→c.F b∨w.heap.size≤b:=fun b hb=>by
   rcases fm.Fn b hb with h|h|h
   ·exact .inl h
   ·exact .inr h
   ·exact absurd h qL
  have j:vb G c c2 H Hn w w' c2.F:={
   eZ:=eZ
   me:=h2
   oD:=hg
   fresh:=fun b hb=>by
    rcases fm.own b hb with h|h
    ·exact h
    ·exact absurd h qL
   le:=fun b hb=>fm.Fm b hb
   lt:=h2.jY
   n1:=fun b hb ho=>by
    rcases hF b hb with h|h
    ·exact eZ.nF b ho h
    ·have:=eZ.lt b ho;omega
   n2:=fun b hb ho=>h2.nF b ho hb
   new:=hF
   rows:=fun v o ho=>by
    obtain⟨t,g,cs,rfl,iL⟩:=OU hc.2 ho
    exact⟨t,g,cs,rfl,fun d hd u hu=>eW.closed (c:=c2) (c':=c.join c2 H.length c2.F) (fun b hb=>hb) hu (iL d hd)⟩ }
  exact⟨v,_,d,Hn,he,hR,HY j,IE j (p:=AL.closed) (fun d u hd hu=>eW.closed (c:=c2) (c':=c.join c2 H.length c2.F) (fun b hb=>hb) hu hd) hv hc.1,HZ j⟩
 ·simp only[if_neg gj,ah]at hc
  have sc:iS (c.e7 [] H) w vs (args.map (e7 (fun _=>none) H 40)):=hr.map fun v d h=>by
   rw[MT];exact wv eZ 40 h
  have B7:fr G (c.e7 [] H) [] w:=Am (ks:=[]) eZ (fun i j p q hp=>by simp at hp)
  refine(jh _ w vs B7 sc).mono ?_
  rintro e w' ⟨v,c2,d,Hn,he,hR,_,h2,hv,fm⟩
  have hc:=hc d Hn hR
  have hg:=xn fm
  have j:vb G c c2 H Hn w w' c.F:={
   eZ:=eZ
   me:=h2
   oD:=hg
   fresh:=fun b hb=>by
    rcases fm.own b hb with h|h
    ·exact h
    ·exact absurd h qL
   le:=fun b hb=>hb
   lt:=fun b hb=>aJ (eZ.jY b hb) hg.size
   n1:=fun b hb ho=>eZ.nF b ho hb
   n2:=fun b hb ho=>by
    rcases fm.own b ho with h|h
    ·have:=eZ.jY b hb;omega
    ·exact absurd h qL
   new:=fun b hb=>.inl hb
   rows:=fun v o ho=>by
    obtain⟨t,g,cs,rfl,iL⟩:=PQ hc.2 ho
    exact⟨t,g,cs,rfl,fun d hd u hu=>eW.flat hu (iL d hd)⟩ }
  exact⟨v,_,d,Hn,he,hR,HY j,IE j (p:=AL.flat) (fun d u hd hu=>eW.flat hu hd) hv hc.1,HZ j⟩
def Ctx.nq(c c2:Ctx)(n:Nat)(F:Nat→Prop):Ctx where
 ι:=fun v g=>if v=n then c2.ι 0 g else c.ι v g
 F:=F
 RT:=c.RT
def C0{n:Nat}{ob:Ob}(hn:H[n]? = some .kZ){F:Nat→Prop}{v:Nat}{L:Loc}(h:kR (c.nq c2 n F) (H.set n ob) v L):(v≠n∧kR c H v L)∨(v=n∧kR c2 [ob] 0 L):=by
 obtain⟨o,ho,ha,e9⟩:=h
 rw[pP (af.1 hn).1]at ho
 by_cases hv:v=n
 ·subst hv
  rw[if_pos rfl]at ho
  cases ho
  simp only[Ctx.nq,if_true]at e9
  exact .inr ⟨rfl,ob,rfl,ha,e9⟩
 ·rw[if_neg hv]at ho
  simp only[Ctx.nq,if_neg hv]at e9
  exact .inl ⟨hv,o,ho,ha,e9⟩
def aff(eZ:fr G c H w){f:FuncId}{vs:List Value}{args:List D}{d:D}{ob:Ob}{n:Nat}(hr:iS c w vs args)(jh:u3 P G f (args.map (e7 (fun _=>none) H 40)) [] d [ob])
  (hc:(if fE args then lU d&&mL ob else np d&&oe ob)=true) (hn:H[n]? = some .kZ) :
  Calls P f vs.toArray w fun e w'=>∃ v c',e = .returned v∧fr G c' (H.set n ob) w'∧eW c' w' v (jK n d)∧Step H.length c H w c' (H.set n ob) w':=by
 have gi:=(af.1 hn).1
 have Qm:∀ k,c.ι n k=none:=fun k=>eZ.lC n _ k hn (.inl rfl)
 have main:∀ (c2:Ctx) (w':World) (v:Value) (F:Nat→Prop),fr G c2 [ob] w'→eW c2 w' v d→jz w w'→(∀ b,ly c2 [ob] b→w.heap.size≤b)→(∀ b,c.F b→F b)→(∀ b,F b→b<w'.heap.size) →
   (∀ b,F b→¬ ly c H b)→(∀ b,F b→¬ ly c2 [ob] b)→(∀ b,F b→c.F b∨w.heap.size≤b)→∀ (p:D→Bool),(∀ d u,p d=true→eW c2 w' u d→eW (c.nq c2 n F) w' u d)→tu p d=true →
   (∃ t g cs,ob = .row t g cs∧∀ d∈cs,p d=true) →
   fr G (c.nq c2 n F) (H.set n ob) w'∧eW (c.nq c2 n F) w' v (jK n d)∧Step H.length c H w (c.nq c2 n F) (H.set n ob) w':=by
  intro c2 w' v F me hv hg KS hle X6 X' Ya lS p hp hd gD
  have carry:∀ {u:Value} {d:D},eW c w u d→eW (c.nq c2 n F) w' u d:=fun h=>by
   refine h.carry (fun v k L hL=>?_) hle (fun b o hF=>Bh (hg.kept b (eZ.jY b hF)))
   have gE:v≠n:=fun e=>by rw[e,Qm]at hL;cases hL
   simp only[Ctx.nq,if_neg gE];exact hL
  have B8:∀ v g sz off len u,eW c2 w' u (.eX v g sz off len)→(v=0)→eW (c.nq c2 n F) w' u (.eX (v+n) g sz off len):=by
   intro v g sz off len u hr h0
   subst h0
   cases hr with
   | eX _ _ _ _ _ cap L e9 hv ju ix lJ=>exact .eX _ g sz off len cap L (by simp only[Ctx.nq,aR,if_true];exact e9) hv ju ix lJ
   | lE _ _ _ _ L e9 a=>exact .lE _ g sz off L (by simp only[Ctx.nq,aR,if_true];exact e9) a
  have hz:∀ v g sz off len u,eW c2 w' u (.eX v g sz off len)→v=0:=by
   intro v g sz off len u hr
   have:∃ L,c2.ι v g=some L:=by
    cases hr with
    | eX _ _ _ _ _ cap L e9=>exact⟨L,e9⟩
    | lE _ _ _ _ L e9=>exact⟨L,e9⟩
   obtain⟨L,hL⟩:=this
   rcases dS v with h|h
   ·exact h
   ·rw[me.out v g (by show 1≤v;exact h)]at hL;cases hL
  have h1:∀ (d:D) (u:Value),uL p d=true→eW c2 w' u d→eW (c.nq c2 n F) w' u (uH n d):=by
   intro d u hd hr
   cases d<;>first|exact B8 _ _ _ _ _ _ hr (hz _ _ _ _ _ _ hr)|exact hp _ _ hd hr
  refine⟨{
   inj:=fun v v' L L' h1 h2 h3 h4 he=>by
    rcases C0 hn h1 with⟨a,b⟩|⟨a,b⟩<;>rcases C0 hn h2 with⟨a',b'⟩|⟨a',b'⟩
    ·exact eZ.inj v v' L L' b b' h3 h4 he
    ·have:=eZ.lt _ ⟨v,L,b,h3,rfl⟩
     have:=KS _ ⟨_,L',b',h4,rfl⟩
     omega
    ·have:=eZ.lt _ ⟨v',L',b',h4,rfl⟩
     have:=KS _ ⟨_,L,b,h3,rfl⟩
     omega
    ·rw[a,a']
   lt:=fun b hb=>by
    obtain⟨v,L,hl,hv,e⟩:=hb
    rcases C0 hn hl with⟨_,hl⟩|⟨_,hl⟩
    ·exact aJ (eZ.lt b ⟨v,L,hl,hv,e⟩) hg.size
    ·exact me.lt b ⟨_,L,hl,hv,e⟩
   nF:=fun b hb hF=>by
    obtain⟨v,L,hl,hv,e⟩:=hb
    rcases C0 hn hl with⟨_,hl⟩|⟨_,hl⟩
    ·exact X' b hF ⟨v,L,hl,hv,e⟩
    ·exact Ya b hF ⟨_,L,hl,hv,e⟩
   jY:=X6
   out:=fun v k hv=>by
    simp only[b8]at hv
    simp only[Ctx.nq,if_neg (show ¬ v=n by omega)]
    exact eZ.out _ k hv
   lC:=fun v o k ho hk=>by
    rw[pP gi]at ho
    by_cases hv:v=n
    ·subst hv
     rw[if_pos rfl]at ho
     cases ho
     simp only[Ctx.nq,if_true]
     exact me.lC 0 _ k rfl hk
    ·rw[if_neg hv]at ho
     simp only[Ctx.nq,if_neg hv]
     exact eZ.lC v o k ho hk
   ob:=fun v o ho=>by
    rw[pP gi]at ho
    by_cases hv:v=n
    ·subst hv
     rw[if_pos rfl]at ho
     cases ho
     simp only[Ctx.nq,if_true]
     have h0:=me.ob 0 _ rfl
     obtain⟨t,g,cs,rfl,iL⟩:=gD
     simp only[Ob.gen]at h0 ⊢
     cases hL:c2.ι 0 g with
     | none=>rw[hL]at h0;simp[gq]at h0
     | some L=>
      rw[hL]at h0
      simp only[gq]at h0 ⊢
      split
      ·rename_i lY;simp only[lY,if_true]at h0;exact h0
      ·rename_i lY
       simp only[lY]at h0
       obtain⟨arr,h1,h2,h3,h4⟩:=h0
       refine⟨arr,h1,h2,h3,fun i d hd=>?_⟩
       obtain⟨x,oX,kD,uz⟩:=h4 i d hd
       exact⟨x,oX,kD,hp d _ (iL d (aM hd)) uz⟩
    ·rw[if_neg hv]at ho
     simp only[Ctx.nq,if_neg hv]
     exact gq.pN (c:=c) (c':=c.nq c2 n F) rfl (fun _ _ h=>carry h) (fun l hl kP hd=>hg.kept _ (eZ.lt _ ⟨v,l,⟨o,ho,hd,hl⟩,kP,rfl⟩)) (eZ.ob v o ho)
   gl:=fun g cs hg=>by
    obtain⟨h1,h2⟩:=eZ.gl g cs hg
    exact⟨h1,carry h2⟩
   rt:=eZ.rt },?_,?_⟩
  ·cases d with
   | tup ds=>
    cases hv with
    | tup vs _ hl uu=>
     simp only[jK]
     refine .tup vs _ (by simpa using hl) fun i v d hv nR=>?_
     simp only[aq,aj]at nR
     obtain⟨d0,km,rfl⟩:=nR
     exact h1 d0 v (ar.1 hd d0 (aM km)) (uu i v d0 hv km)
   | agg ds=>
    cases hv with
    | agg vs _ hl ho uu=>
     simp only[jK]
     refine .agg vs _ (by simpa using hl) ho fun i v d hv nR=>?_
     simp only[aq,aj]at nR
     obtain⟨d0,km,rfl⟩:=nR
     exact h1 d0 v (ar.1 hd d0 (aM km)) (uu i v d0 hv km)
   | eX v g sz off len=>exact B8 _ _ _ _ _ _ hv (hz _ _ _ _ _ _ hv)
   | _=>exact hp _ _ hd hv
  ·exact{
    os:=hg.os
    tape:=hg.tape
    output:=hg.output
    size:=hg.size
    RT:=rfl
    Fm:=hle
    Fn:=fun b hb=>(lS b hb).imp id .inl
    kept:=fun b hb _=>hg.kept b hb
    old:=fun v k L hv h=>by
     have gE:v≠n:=fun e=>by rw[e,Qm]at h;cases h
     simp only[Ctx.nq,if_neg gE];exact h
    own:=fun b hb=>by
     obtain⟨v,L,hl,hv,e⟩:=hb
     rcases C0 hn hl with⟨_,hl⟩|⟨_,hl⟩
     ·exact .inr ⟨v,L,hl,hv,e⟩
     ·exact .inl (KS b ⟨_,L,hl,hv,e⟩) }
 by_cases gj:fE args=true
 ·simp only[if_pos gj,ah]at hc
  have e:args.map (e7 (fun _=>none) H 40)=args:=by
   conv=>rhs;rw[← aY args]
   exact au fun d hd=>ow (lO gj d hd)
  rw[e]at jh
  have sc:iS (c.data c.F) w vs args:=by
   clear jh hc e
   induction hr with
   | nil=>exact .nil
   | cons h _ ih=>
    simp only[fE,ah]at gj
    exact .cons (eW.closed (c:=c) (c':=c.data c.F) (fun b hb=>hb) h gj.1) (ih gj.2)
  refine(jh _ w vs (GN eZ) sc).mono ?_
  rintro e w' ⟨v,c2,he,h2,hv,fm⟩
  have hg:=xn fm
  have hF:∀ b,c2.F b→c.F b∨w.heap.size≤b:=fun b hb=>by
   rcases fm.Fn b hb with h|h|h
   ·exact .inl h
   ·exact .inr h
   ·exact absurd h qL
  obtain⟨m1,m2,m3⟩:=main c2 w' v c2.F h2 hv hg (fun b hb=>by
    rcases fm.own b hb with h|h
    ·exact h
    ·exact absurd h qL) (fun b hb=>fm.Fm b hb) h2.jY (fun b hb ho=>by
    rcases hF b hb with h|h
    ·exact eZ.nF b ho h
    ·have:=eZ.lt b ho;omega) (fun b hb ho=>h2.nF b ho hb) hF AL.closed (fun d u hd hu=>eW.closed (c:=c2) (c':=c.nq c2 n c2.F) (fun b hb=>hb) hu hd) hc.1 (by
    have:=hc.2
    cases ob<;>simp only[mL]at this<;>first|(cases this;done)|skip
    exact⟨_,_,_,rfl,lO this⟩)
  exact⟨v,_,he,m1,m2,m3⟩
 ·simp only[if_neg gj,ah]at hc
  have sc:iS (c.e7 [] H) w vs (args.map (e7 (fun _=>none) H 40)):=hr.map fun v d h=>by
   rw[MT];exact wv eZ 40 h
  have B7:fr G (c.e7 [] H) [] w:=Am (ks:=[]) eZ (fun i j p q hp=>by simp at hp)
  refine(jh _ w vs B7 sc).mono ?_
  rintro e w' ⟨v,c2,he,h2,hv,fm⟩
  have hg:=xn fm
  obtain⟨m1,m2,m3⟩:=main c2 w' v c.F h2 hv hg (fun b hb=>by
    rcases fm.own b hb with h|h
    ·exact h
    ·exact absurd h qL) (fun b hb=>hb) (fun b hb=>aJ (eZ.jY b hb) hg.size) (fun b hb ho=>eZ.nF b ho hb) (fun b hb ho=>by
    rcases fm.own b ho with h|h
    ·have:=eZ.jY b hb;omega
    ·exact absurd h qL) (fun b hb=>.inl hb) AL.flat (fun d u hd hu=>eW.flat hu hd) hc.1 (by
    have:=hc.2
    cases ob<;>simp only[oe]at this<;>first|(cases this;done)|skip
    refine⟨_,_,_,rfl,fun d hd=>?_⟩
    obtain⟨i,hi⟩:=aG.1 hd
    exact zo this hi)
  exact⟨v,_,he,m1,m2,m3⟩
def afB{S:List Nat}{v:Nat}(hv:v∈S):ic (lB H S) v=none:=by
 unfold ic lB
 rw[ec]
 intro p hp
 obtain⟨u,_,rfl⟩:=aw.1 hp
 by_cases hu:u=v
 ·subst hu;simp[hv]
 ·simp[hu]
theorem Tg{v:Nat}:∀ (k:Nat) (d:D),(∀ u∈gX H k d,u=v)→AL.e7 (ic (lB H [v])) H k d=AL.e7 (fun _=>none) H k d
 | 0,d,_=>rfl
 | k+1,d,h=>by
  have hv:ic (lB H [v]) v=none:=afB (by simp)
  have o3:∀ (ds:List D),(∀ u∈(ds.map (gX H k)).flatten,u=v)→ds.map (AL.e7 (ic (lB H [v])) H k)=ds.map (AL.e7 (fun _=>none) H k):=fun ds pg=>
   au fun d hd=>Tg k d fun u hu=>pg u (aV.2 ⟨_,aw.2 ⟨d,hd,rfl⟩,hu⟩)
  unfold gX at h
  unfold AL.e7
  by_cases hc:AL.closed d=true
  ·simp only[if_pos hc]
  ·simp only[if_neg hc]at h ⊢
   cases d with
   | agg cs=>simp only[o3 cs h]
   | tup cs=>simp only[o3 cs h]
   | fj cs=>simp only[o3 cs h]
   | sl sz es=>
    have:es.map (fun x=>x.map (AL.e7 (ic (lB H [v])) H k))=es.map (fun x=>x.map (AL.e7 (fun _=>none) H k)):=au fun e he=>o3 e fun u hu=>h u (aV.2 ⟨_,aw.2 ⟨e,he,rfl⟩,hu⟩)
    simp only[this]
   | fn g x y=>
    have h1:=o3 x fun u hu=>h u (bg _ hu)
    have h2:=o3 y fun u hu=>h u (bz _ hu)
    simp only[h1,h2]
   | eX u g sz off len=>
    have hu:u=v:=h u (by simp)
    subst hu
    simp only[hv]
    cases gH:rowsOf H u with
    | none=>simp only[wz,gH]
    | some p=>
     obtain⟨t,g',cs⟩:=p
     simp only[wz,gH]
     by_cases hg:g'=g
     ·simp only[hg,if_true]
      have:=o3 (cs.drop (off*sz)) fun w hw=>by
       obtain⟨l,hl,tf⟩:=aV.1 hw
       obtain⟨d,hd,rfl⟩:=aw.1 hl
       exact h w (by simp only[gH];exact aS _ (aV.2 ⟨_,aw.2 ⟨d,bp hd,rfl⟩,tf⟩))
      rw[this]
     ·simp only[if_neg hg]
   | ptr u g off=>
    have hu:u=v:=h u (by simp)
    subst hu
    simp only[hv]
    cases gH:rowsOf H u with
    | none=>simp only[wz,gH]
    | some p=>
     obtain⟨t,g',cs⟩:=p
     simp only[wz,gH]
     by_cases hg:g'=g
     ·simp only[hg,if_true]
      have:=o3 (cs.drop off) fun w hw=>by
       obtain⟨l,hl,tf⟩:=aV.1 hw
       obtain⟨d,hd,rfl⟩:=aw.1 hl
       exact h w (by simp only[gH];exact aS _ (aV.2 ⟨_,aw.2 ⟨d,bp hd,rfl⟩,tf⟩))
      rw[this]
     ·simp only[if_neg hg]
   | gF u=>
    have hu:u=v:=h u (by simp)
    subst hu
    simp only[hv]
   | iA u=>
    have hu:u=v:=h u (by simp)
    subst hu
    simp only[hv]
   | _=>rfl
def ZF(h:fr G c H w){v:Nat}{t:TypeId}{g:Nat}{cs:List D}(hv:H[v]? = some (.row t g cs)) :
  ∃ c',fr G c' (H.set v .dead) w∧Step H.length c H w c' (H.set v .dead) w∧(∀ u d,eW c w u d→eW c' w u d)∧∀ b,(c.e7 (lB H [v]) H).F b→c'.F b:=by
 have gi:=(af.1 hv).1
 have hL:∀ c':Ctx,(∀ u k,c'.ι u k=c.ι u k)→∀ u l,kR c' (H.set v .dead) u l→u≠v∧kR c H u l:=by
  rintro c' e9 u l ⟨o,ho,gu,hi⟩
  rw[pP gi]at ho
  split at ho
  ·cases ho;cases gu
  ·rename_i gE;exact⟨gE,o,ho,gu,by rw[← e9];exact hi⟩
 let c':Ctx:={ c with F:=fun b=>c.F b∨∃ L,c.ι v g=some L∧L.jc=false∧L.b=b }
 have e9:∀ u k,c'.ι u k=c.ι u k:=fun _ _=>rfl
 have hr:∀ u d,eW c w u d→eW c' w u d:=fun u d hd=>eW.carry (c:=c) (c':=c') (w:=w) (w':=w) (fun _ _ _ h=>h) (fun b hb=>Or.inl hb) (fun _ _ _=>rfl) hd
 have qb:∀ b,ly c' (H.set v .dead) b→ly c H b:=fun b ⟨u,l,hl,r⟩=>⟨u,l,(hL c' e9 u l hl).2,r⟩
 refine⟨c',{
  inj:=fun u u' l l' h1 h2=>h.inj u u' l l' (hL c' e9 _ _ h1).2 (hL c' e9 _ _ h2).2
  lt:=fun b hb=>h.lt b (qb b hb)
  nF:=fun b hb hF=>by
   obtain⟨u,l,hl,iV,e⟩:=hb
   obtain⟨gE,mc⟩:=hL c' e9 u l hl
   rcases hF with hF|⟨L,BK,gI,eL⟩
   ·exact h.nF b ⟨u,l,mc,iV,e⟩ hF
   ·exact gE (h.inj u v l L mc ⟨_,hv,rfl,BK⟩ iV gI (e.trans eL.symm))
  jY:=fun b hb=>by
   rcases hb with hb|⟨L,BK,gI,eL⟩
   ·exact h.jY b hb
   ·exact eL▸h.lt _ ⟨v,L,⟨_,hv,rfl,BK⟩,gI,rfl⟩
  out:=fun u k hu=>h.out u k (by simpa using hu)
  lC:=fun u o k ho hk=>by
   rw[pP gi]at ho
   split at ho
   ·cases ho
    rcases hk with hk|⟨hk,_⟩<;>cases hk
   ·exact h.lC u o k ho hk
  ob:=fun u o ho=>by
   rw[pP gi]at ho
   split at ho
   ·cases ho;simp[gq]
   ·exact gq.pN (c:=c) (c':=c') rfl hr (fun _ _ _ _=>rfl) (h.ob u o ho)
  gl:=fun g cs hg=>let ⟨a,b⟩:=h.gl g cs hg;⟨a,hr _ _ b⟩
  rt:=h.rt },?_,hr,fun b hb=>?_⟩
 ·exact{
   os:=⟨rfl,Nat.le_refl _⟩,tape:=rfl,output:=rfl,size:=Nat.le_refl _,RT:=rfl
   Fm:=fun b hb=>Or.inl hb
   Fn:=fun b hb=>by
    rcases hb with hb|⟨L,BK,gI,eL⟩
    ·exact .inl hb
    ·exact .inr (.inr ⟨v,L,⟨_,hv,rfl,BK⟩,gI,eL⟩)
   kept:=fun _ _ _=>rfl
   old:=fun _ _ _ _ h=>h
   own:=fun b hb=>.inr (qb b hb) }
 ·rcases hb with hb|⟨u,L,⟨o,ho,gu,YY⟩,QV,gI,e⟩
  ·exact .inl hb
  ·have hu:u=v:=by
    by_cases gE:u=v
    ·exact gE
    ·exfalso
     have pn:=(af.1 ho).1
     have:ic (lB H [v]) u=some u:=MH PZ (by
      unfold lB
      simp[pn,gE])
     rw[this]at QV;cases QV
   subst hu
   rw[hv]at ho
   cases ho
   exact .inr ⟨L,YY,gI,e⟩
def afe(eZ:fr G c H w){f:FuncId}{vs:List Value}{args:List D}{d:D}{v:Nat}(hr:iS c w vs args)(hS:∀ u∈(args.map (gX H 40)).flatten,u=v)(gH:(rowsOf H v).isSome=true)
  (jh:u3 P G f (args.map (AL.e7 (fun _=>none) H 40)) [] d []) (gj:fE (args.map (AL.e7 (fun _=>none) H 40))=true) (hd:AL.closed d=true) :
  Calls P f vs.toArray w fun e w'=>∃ u c',e = .returned u∧fr G c' (H.set v .dead) w'∧eW c' w' u d∧Step H.length c H w c' (H.set v .dead) w':=by
 have hv:∃ t g cs,H[v]? = some (.row t g cs):=by
  unfold rowsOf at gH
  split at gH
  ·exact⟨_,_,_,by assumption⟩
  ·cases gH
 obtain⟨t,g,cs,hv⟩:=hv
 obtain⟨c1,k1,k2,k3,k4⟩:=ZF eZ hv
 have Yo:iS c1 w vs (args.map (AL.e7 (fun _=>none) H 40)):=by
  have e:args.map (AL.e7 (fun _=>none) H 40)=args.map (AL.e7 (ic (lB H [v])) H 40):=
   au fun d hd=>(Tg 40 d fun u hu=>hS u (aV.2 ⟨_,aw.2 ⟨d,hd,rfl⟩,hu⟩)).symm
  have BO:=gj
  rw[e]at BO ⊢
  have h0:=hr.map (c':=c.e7 (lB H [v]) H) (f:=AL.e7 (ic (lB H [v])) H 40) fun _ _ h=>wv eZ 40 h
  generalize args.map (AL.e7 (ic (lB H [v])) H 40)=as at h0 BO
  clear e gj hS jh hr
  induction h0 with
  | nil=>exact .nil
  | cons h _ ih=>
   simp only[fE,ah]at BO
   exact .cons (eW.closed (c:=c.e7 (lB H [v]) H) (c':=c1) k4 h BO.1) (ih BO.2)
 have e2:(args.map (AL.e7 (fun _=>none) H 40)).map (AL.e7 (fun _=>none) (H.set v .dead) 40)=args.map (AL.e7 (fun _=>none) H 40):=by
  conv=>rhs;rw[← aY (args.map (AL.e7 (fun _=>none) H 40))]
  exact au fun d hd=>ow (lO gj d hd)
 have zQ:lU d=true∧jK (H.set v .dead).length d=d:=by
  cases d<;>first|(cases hd;done)|skip
  case tup ds=>
   simp only[AL.closed]at hd
   refine⟨?_,?_⟩
   ·simp only[lU,tu,ar]
    intro x hx
    have:=lO hd x hx
    cases x<;>first|rfl|exact this
   ·simp only[jK]
    congr 1
    conv=>rhs;rw[← aY ds]
    refine au fun x hx=>?_
    have:=lO hd x hx
    cases x<;>first|rfl|(cases this;done)
  case agg ds=>
   simp only[AL.closed]at hd
   refine⟨?_,?_⟩
   ·simp only[lU,tu,ar]
    intro x hx
    have:=lO hd x hx
    cases x<;>first|rfl|exact this
   ·simp only[jK]
    congr 1
    conv=>rhs;rw[← aY ds]
    refine au fun x hx=>?_
    have:=lO hd x hx
    cases x<;>first|rfl|(cases this;done)
  all_goals exact⟨hd,rfl⟩
 refine(SD k1 Yo (by rw[e2];exact jh) (by rw[if_pos gj];simp[zQ.1])).mono ?_
 rintro e w' ⟨u,c2,he,m1,m2,m3⟩
 rw[aA]at m1 m3
 rw[zQ.2]at m2
 exact⟨u,c2,he,m1,m2,k2.trans m3 (by simp)⟩
end
end Go.AL
namespace Go.AL
open Go
def pQ(o:Nat)(xs cs:List D):List D:=cs.take o++xs++cs.drop (o+xs.length)
def M5{o:Nat}{xs cs:List D}(h:o+xs.length≤cs.length):(pQ o xs cs).length=cs.length:=by simp[pQ];omega
def Dm{o:Nat}{xs cs:List D}(h:o+xs.length≤cs.length)(i:Nat):(pQ o xs cs)[i]? = if o≤i∧i<o+xs.length then xs[i-o]? else cs[i]? := by
 unfold pQ
 have hl:(cs.take o).length=o:=by simp;omega
 by_cases h1:i<o
 ·rw[ag (by simp;omega),ag (by omega),aC,if_pos h1,if_neg (by omega)]
 ·by_cases h2:i<o+xs.length
  ·rw[ag (by simp;omega),ao (by omega),hl,if_pos ⟨by omega,h2⟩]
  ·rw[ao (by simp;omega),aD,if_neg (by omega)]
   congr 1
   simp;omega
def uT(n:Nat):Dl→Option Nat
 | .no=>none
 | .cells v _ _=>some v
 | .obj v _=>some v
 | .new _=>some n
def Na:Dl→Ob→Ob
 | .no,o=>o
 | .cells _ o xs,.row t g cs=>.row t g (pQ o xs cs)
 | .cells _ _ _,o=>o
 | .obj _ ob,_=>ob
 | .new ob,_=>ob
abbrev kI(n:Nat)(δ:Dl)(H:U):U:=δ.app H (Al.kZ H n)
def y7(n:Nat)(δ:Dl)(H:U)(x:Nat):(kI n δ H)[x]? = if uT n δ=some x then(H[x]?).map (Na δ)else H[x]? := by
 have sf:∀ (v:Nat) (ob:Ob) (f:Ob→Ob),(∀ o,f o=ob)→(H.set v ob)[x]? = if some v=some x then(H[x]?).map f else H[x]? := by
  intro v ob f hf
  rw[bA]
  by_cases e:v=x
  ·subst e
   rw[if_pos rfl,if_pos rfl]
   split
   ·rename_i gi;simp[gi,hf]
   ·rename_i gi;rw[aQ (by omega)];rfl
  ·rw[if_neg e,if_neg (by simpa using e)]
 cases δ with
 | no=>simp[kI,Dl.app,uT]
 | obj v ob=>exact sf v ob _ fun _=>rfl
 | new ob=>exact sf n ob _ fun _=>rfl
 | cells v o xs=>
  have ht:uT n (.cells v o xs)=some v:=rfl
  by_cases e:v=x
  ·subst e
   rw[if_pos ht]
   simp only[kI,Dl.app]
   split
   ·rename_i t g cs hv
    rw[bA,if_pos rfl,if_pos (af.1 hv).1,hv]
    rfl
   ·rename_i gE
    cases hx:H[v]? with
    | none=>rfl
    | some ob=>
     cases ob<;>first|rfl|skip
     exact absurd hx (gE _ _ _)
  ·rw[if_neg (by rw[ht];simpa using e)]
   simp only[kI,Dl.app]
   split
   ·rw[bA,if_neg e]
   ·rfl
def Fits(n:Nat)(δ:Dl)(H:U):Prop:=match δ with
 | .cells v o xs=>∃ t g cs,H[v]? = some (.row t g cs)∧o+xs.length≤cs.length
 | .new _=>H[n]? = some .kZ
 | _=>True
def ve{a b:List Fp}(h:q5 a b=true){x y:Fp}(hx:x∈a)(hy:y∈b):qZ x y=true:=
 ar.1 (ar.1 h x hx) y hy
def Oo{n:Nat}{δ:Dl}{H:U}{fp:List Fp}(hf:Fits n δ H)(h:q5 (jm n δ) fp=true):qV fp (kI n δ H) H:=by
 intro x hx
 obtain⟨u,r⟩:=x
 have gE:∀ v q,(v,q)∈jm n δ→uT n δ=some v:=by
  intro v q hm
  cases δ<;>simp only[jm,List.mem_singleton,cZ]at hm<;>first|(cases hm;rfl)|cases hm
 have main:uT n δ≠some u→(kI n δ H)[u]? = H[u]? := fun hn=>by rw[y7,if_neg hn]
 by_cases ht:uT n δ=some u
 ·cases r with
  | none=>
   exfalso
   cases δ with
   | no=>cases ht
   | cells v o xs=>cases ht;have:=ve h (x:=(u,some (o,xs.length))) (by simp[jm]) hx;simp[qZ]at this
   | obj v ob=>cases ht;have:=ve h (x:=(u,none)) (by simp[jm]) hx;simp[qZ]at this
   | new ob=>cases ht;have:=ve h (x:=(n,none)) (by simp[jm]) hx;simp[qZ]at this
  | some q=>
   obtain⟨p,m⟩:=q
   cases δ with
   | no=>cases ht
   | obj v ob=>cases ht;exfalso;have:=ve h (x:=(u,none)) (by simp[jm]) hx;simp[qZ]at this
   | new ob=>cases ht;exfalso;have:=ve h (x:=(n,none)) (by simp[jm]) hx;simp[qZ]at this
   | cells v o xs=>
    cases ht
    obtain⟨t,g,cs,h1,h2⟩:=hf
    have ha:=ve h (x:=(u,some (o,xs.length))) (by simp[jm]) hx
    simp only[qZ,bne_self_eq_false,Bool.false_or,bP,decide_eq_true_eq]at ha
    refine .inr ⟨t,g,pQ o xs cs,cs,?_,h1,M5 h2,fun i hi1 jP=>?_⟩
    ·simp[y7,uT,h1,Na]
    ·rw[Dm h2,if_neg (by omega)]
 ·have e:=main ht
  cases r with
  | none=>exact e
  | some q=>exact .inl e
def agx{o p:Nat}{xs ys cs:List D}(h1:o+xs.length≤cs.length)(h2:p+ys.length≤cs.length)(h:o+xs.length≤p∨p+ys.length≤o) :
  pQ o xs (pQ p ys cs)=pQ p ys (pQ o xs cs):=by
 apply bM
 intro i
 rw[Dm (by rw[M5 h2];exact h1),Dm h2,Dm (by rw[M5 h1];exact h2),Dm h1]
 by_cases a:o≤i∧i<o+xs.length<;>by_cases b:p≤i∧i<p+ys.length
 ·omega
 ·rw[if_pos a,if_neg b,if_pos a]
 ·rw[if_neg a,if_pos b,if_pos b]
 ·rw[if_neg a,if_neg b,if_neg b,if_neg a]
def agZ{n m:Nat}{δ ε:Dl}{H:U}(hf:Fits n δ H)(hg:Fits m ε H)(h:q5 (jm n δ) (jm m ε)=true):kI m ε (kI n δ H)=kI n δ (kI m ε H):=by
 apply bM
 intro x
 rw[y7,y7,y7,y7]
 by_cases a:uT n δ=some x<;>by_cases b:uT m ε=some x
 ·rw[if_pos a,if_pos b,if_pos b,if_pos a]
  have bad:∀ {P:Prop},(∃ q r,(x,q)∈jm n δ∧(x,r)∈jm m ε∧(q=none∨r=none))→P:=by
   rintro P ⟨q,r,h1,h2,h3⟩
   have:=ve h h1 h2
   rcases h3 with rfl|rfl
   ·simp[qZ]at this
   ·cases q<;>simp[qZ]at this
  cases δ with
  | no=>cases a
  | obj v ob=>
   cases a
   cases ε with
   | no=>cases b
   | cells v o xs=>cases b;exact bad ⟨none,some (o,xs.length),by simp[jm],by simp[jm],.inl rfl⟩
   | obj v ob=>cases b;exact bad ⟨none,none,by simp[jm],by simp[jm],.inl rfl⟩
   | new ob=>cases b;exact bad ⟨none,none,by simp[jm],by simp[jm],.inl rfl⟩
  | new ob=>
   cases a
   cases ε with
   | no=>cases b
   | cells v o xs=>cases b;exact bad ⟨none,some (o,xs.length),by simp[jm],by simp[jm],.inl rfl⟩
   | obj v ob=>cases b;exact bad ⟨none,none,by simp[jm],by simp[jm],.inl rfl⟩
   | new ob=>cases b;exact bad ⟨none,none,by simp[jm],by simp[jm],.inl rfl⟩
  | cells v o xs=>
   cases a
   cases ε with
   | no=>cases b
   | obj v ob=>cases b;exact bad ⟨some (o,xs.length),none,by simp[jm],by simp[jm],.inr rfl⟩
   | new ob=>cases b;exact bad ⟨some (o,xs.length),none,by simp[jm],by simp[jm],.inr rfl⟩
   | cells v p ys=>
    cases b
    obtain⟨t,g,cs,h1,h2⟩:=hf
    obtain⟨t',g',mm,zt,Kj⟩:=hg
    rw[h1]at zt
    cases zt
    have ha:=ve h (x:=(x,some (o,xs.length))) (y:=(x,some (p,ys.length))) (by simp[jm]) (by simp[jm])
    simp only[qZ,bne_self_eq_false,Bool.false_or,bP,decide_eq_true_eq]at ha
    simp only[h1,aH,Na]
    rw[agx h2 Kj ha]
 ·rw[if_pos a,if_neg b,if_neg b,if_pos a]
 ·rw[if_neg a,if_pos b,if_neg a]
 ·rw[if_neg a,if_neg b,if_neg a]
structure Rc where
 R:List Fp
 W:List Fp
inductive Out where
 | norm (s:St)
 | exit (id:Nat) (s:St)
 | ret (s:St)
inductive wM where
 | ops (l:List ff) (s:St)
 | code (c:IR) (s:St)
 | loop (n:Nat) (live:List Nat) (a:IR) (s:St)
 | call (f:FuncId) (args:List D) (H:U)
 | trace (l:List ff) (s:St)
inductive n4 where
 | out (o:Out)
 | tr (rs:List Rc) (s:St)
 | val (d:D) (H:U)
def Out.stop:Out→Bool
 | .norm _=>false
 | _=>true
def sv(iW:List (Nat×Nat))(rs:List Rc):Bool:=iW.all fun p=>match rs[p.1]?,rs[p.2]? with
 | some a,some b=>q5 a.W (b.R++b.W)&&q5 b.W (a.R++a.W)
 | _,_=>false
def yieldOf(env:gd):ij→Option (Nat×List D)
 | .callv f args=>match ev env f with
  | .iA v=>some (v,args.map (ev env))
  | _=>none
 | _=>none
def Out.st:Out→St
 | .norm s=>s
 | .exit _ s=>s
 | .ret s=>s
def Out.wA:Out→qp
 | .norm _=>.ready
 | .exit id _=>.vw id
 | .ret _=>.w9
def ym(s:St):qp→Option Out
 | .ready=>some (.norm s)
 | .busy=>none
 | .w9=>some (.ret s)
 | .vw id=>some (.exit id s)
def kill:List Nat→U→Option U
 | [],H=>some H
 | v::vs,H=>match H[v]? with
  | some .kJ=>kill vs (H.set v .dead)
  | _=>none
def finish(fn:eV)(own n:Nat):Out→Option (D×U)
 | .norm s | .ret s=>match kill s.marks s.H with
  | some H=>match results fn { s with H:=H }with
   | some d=>some (leave own n H d)
   | none=>none
  | none=>none
 | .exit _ _=>none
def l7(id n:Nat)(live:List Nat):Out→Out
 | .norm s=>.norm (cut n live s)
 | .exit vZ s=>if vZ=id then .norm (cut n live s)else .exit vZ s
 | .ret s=>.ret s
inductive Ev(T:gP):wM→(n4→Prop)→Prop
 | mono {j R R'} (h:Ev T j R) (hi:∀ r,R r→R' r):Ev T j R'
 | nil {s R} (h:R (.out (.norm s))):Ev T (.ops [] s) R
 | op {e r s d δ R} (hg:guardOf s.env.get e.guard=some true) (h:fO s.env.get s.H s.H.length e.op=some (d,δ))
   (t:Ev T (.ops r { s with env:=put s.env e.dst d,H:=δ.app s.H (Al.last s.H) }) R):Ev T (.ops (e::r) s) R
 | yD {e r s d δ R} (hg:guardOf s.env.get e.guard=some true) (h:lu s.env.get s.H s.H.length e.op=some (d,δ))
   (t:Ev T (.ops r { s with env:=put s.env e.dst d,H:=δ.app s.H (Al.last s.H) }) R):Ev T (.ops (e::r) s) R
 | off {e r s R} (hg:guardOf s.env.get e.guard=some false) (t:Ev T (.ops r { s with env:=put s.env e.dst (.val undef) }) R):Ev T (.ops (e::r) s) R
 | kX {l s R} (S:List Nat) (hm:s.marks.all (fun v => !S.contains v)=true) (t:Ev T (.ops l (kX S s)) R):Ev T (.ops l s) R
 | BE {c s R} (S:List Nat) (hm:s.marks.all (fun v => !S.contains v)=true) (t:Ev T (.code c (kX S s)) R):Ev T (.code c s) R
 | J8 {l s R} (live:List Nat) (t:Ev T (.ops l { s with env:=forget live s.env }) R):Ev T (.ops l s) R
 | He {c s R} (live:List Nat) (t:Ev T (.code c { s with env:=forget live s.env }) R):Ev T (.code c s) R
 | Bf {e r s f args fn R1 R} (hg:guardOf s.env.get e.guard=some true) (hc:jN s.env.get e.op=some (f,args)) (hf:T.fn f=some fn) (hp:fn.full=false)
   (h:Ev T (.call f (args.map (e7 (fun _=>none) s.H 40)) []) R1) (ha:∀ d Hn,R1 (.val d Hn)→(after s e.dst args d Hn).isSome=true)
   (t:∀ d Hn s',R1 (.val d Hn)→after s e.dst args d Hn=some s'→Ev T (.ops r s') R):Ev T (.ops (e::r) s) R
 | Be {e r s f args fn R1 R} (hg:guardOf s.env.get e.guard=some true) (hc:jN s.env.get e.op=some (f,args)) (hf:T.fn f=some fn) (hp:fn.full=true)
   (h:Ev T (.call f args s.H) R1) (t:∀ d H',R1 (.val d H')→Ev T (.ops r { s with env:=put s.env e.dst d,H:=H' }) R):Ev T (.ops (e::r) s) R
 | Gr {e r s v args rf env0 Rd Ra Rb R} (hg:guardOf s.env.get e.guard=some true) (hc:yieldOf s.env.get e.op=some (v,args)) (hv:s.H[v]? = some (.gL rf env0 .ready)) (hR:T.round rf=some Rd) (hl:args.length=Rd.params.length)
   (ha:Ev T (.code Rd.a { env:=qQ Rd.params args env0,H:=s.H,gZ:=true }) Ra) (hn:∀ o,Ra (.out o)→o.stop=false∧∃ kA,o.st.H[v]? = some (.gL rf kA .ready))
   (hb:∀ s1 kA,Ra (.out (.norm s1))→s1.H[v]? = some (.gL rf kA .ready)→Ev T (.code Rd.b { s1 with H:=s1.H.set v (.gL rf kA .busy) }) Rb)
   (hm:∀ o,Rb (.out o)→∃ kj,o.st.H[v]? = some (.gL rf kj .busy))
   (t:∀ o kj,Rb (.out o)→o.st.H[v]? = some (.gL rf kj .busy)→Ev T (.ops r { s with env:=put s.env e.dst (.b !o.stop),H:=o.st.H.set v (.gL rf kj o.wA) }) R):Ev T (.ops (e::r) s) R
 | next {e r s x v m since seen kk es R} (hg:guardOf s.env.get e.guard=some true) (gW:e.op = .nextM x) (hx:ev s.env.get x = .ptr v 0 0) (hv:s.H[v]? = some (.lL (.gF m) since seen)) (hm:s.H[m]? = some (.map kk es)) (hs:es.length=since)
   (h0:(∀ i,i<es.length→i∈seen)→Ev T (.ops r { s with env:=put s.env e.dst (.tup [.b false]) }) R)
   (h1:∀ i k d,es[i]? = some (k,d)→i ∉ seen→Ev T (.ops r { s with env:=put s.env e.dst (.tup [.b true,ru k,d]),H:=s.H.set v (.lL (.gF m) since (seen ++ [i])) }) R):Ev T (.ops (e::r) s) R
 | Du {s R} (h:R (.tr [] s)):Ev T (.trace [] s) R
 | Dw {e r s d δ R1 R} (hg:guardOf s.env.get e.guard=some true) (h:fO s.env.get s.H s.H.length e.op=some (d,δ))
   (t:Ev T (.trace r { s with env:=put s.env e.dst d,H:=δ.app s.H (Al.last s.H) }) R1) (k:∀ rs s',R1 (.tr rs s')→R (.tr (⟨fX s.env.get s.H e.op,jm s.H.length δ⟩::rs) s')):Ev T (.trace (e::r) s) R
 | Dv {e r s R1 R} (hg:guardOf s.env.get e.guard=some false) (t:Ev T (.trace r { s with env:=put s.env e.dst (.val undef) }) R1) (k:∀ rs s',R1 (.tr rs s')→R (.tr (⟨[],[]⟩::rs) s')):Ev T (.trace (e::r) s) R
 | Dr {e r s f args fn d R0 R1 R} (hg:guardOf s.env.get e.guard=some true) (hc:jN s.env.get e.op=some (f,args)) (hf:T.fn f=some fn) (hp:fn.full=false)
   (h:Ev T (.call f (args.map (e7 (fun _=>none) s.H 40)) []) R0) (h0:∀ d' Hn,R0 (.val d' Hn)→d'=d∧Hn = []) (hr:(if fE args then closed d else flat d)=true)
   (t:Ev T (.trace r { s with env:=put s.env e.dst d }) R1) (k:∀ rs s',R1 (.tr rs s')→R (.tr (⟨fX s.env.get s.H e.op,[]⟩::rs) s')):Ev T (.trace (e::r) s) R
 | Ds {e r s f as args fn d ob R0 R1 R} (hg:guardOf s.env.get e.guard=some true) (gW:e.op = .callN f as) (ha:args=as.map (ev s.env.get)) (hf:T.fn f=some fn) (hp:fn.full=false)
   (h:Ev T (.call f (args.map (e7 (fun _=>none) s.H 40)) []) R0) (h0:∀ d' Hn,R0 (.val d' Hn)→d'=d∧Hn = [ob]) (hr:(if fE args then lU d&&mL ob else np d&&oe ob)=true)
   (t:Ev T (.trace r { s with env:=put s.env e.dst (jK s.H.length d),H:=s.H ++ [ob] }) R1) (k:∀ rs s',R1 (.tr rs s')→R (.tr (⟨fX s.env.get s.H e.op,[(s.H.length,none)]⟩::rs) s')):Ev T (.trace (e::r) s) R
 | Dt {e r s f as args fn d v R0 R1 R} (hg:guardOf s.env.get e.guard=some true) (gW:e.op = .callN f as) (ha:args=as.map (ev s.env.get)) (hf:T.fn f=some fn) (hp:fn.full=false)
   (hS:∀ u∈(args.map (gX s.H 40)).flatten,u=v) (hv:v∈(args.map (gX s.H 40)).flatten) (gH:(rowsOf s.H v).isSome=true) (gj:fE (args.map (e7 (fun _=>none) s.H 40))=true)
   (h:Ev T (.call f (args.map (e7 (fun _=>none) s.H 40)) []) R0) (h0:∀ d' Hn,R0 (.val d' Hn)→d'=d∧Hn = []) (hr:closed d=true)
   (t:Ev T (.trace r { s with env:=put s.env e.dst d,H:=s.H.set v .dead }) R1) (k:∀ rs s',R1 (.tr rs s')→R (.tr (⟨fX s.env.get s.H e.op,[(v,none)]⟩::rs) s')):Ev T (.trace (e::r) s) R
 | kK {iW l s R1 R} (t:Ev T (.trace l s) R1) (hp:∀ rs s',R1 (.tr rs s')→sv iW rs=true∧R (.out (.norm s'))):Ev T (.code (.kK iW l) s) R
 | lP {iW l es s R1 R} (t:Ev T (.trace l s) R1) (hp:∀ rs s',R1 (.tr rs s')→sv iW rs=true) (k:∀ rs s',R1 (.tr rs s')→Ev T (.ops es s') R):Ev T (.code (.lP iW l es) s) R
 | skip {s R} (h:R (.out (.norm s))):Ev T (.code .skip s) R
 | Bo {l s R} (h:Ev T (.ops l s) R):Ev T (.code (.ops l) s) R
 | seq {a b s R1 R} (h:Ev T (.code a s) R1) (k:∀ s',R1 (.out (.norm s'))→Ev T (.code b s') R) (hs:∀ o,R1 (.out o)→o.stop=true→R (.out o)):Ev T (.code (.seq a b) s) R
 | cond {c a b s x R} (hc:ev s.env.get c = .val (.bool x)) (h:Ev T (.code (if x then a else b) s) R):Ev T (.code (.cond c a b) s) R
 | block {id live a s R1 R} (h:Ev T (.code a s) R1) (k:∀ o,R1 (.out o)→R (.out (l7 id s.H.length live o))):Ev T (.code (.block id live a) s) R
 | loop {live a s R} (h:Ev T (.loop s.H.length live a { s with env:=forget live s.env }) R):Ev T (.code (.loop live a) s) R
 | we {n live a s R1 R} (h:Ev T (.code a s) R1) (k:∀ s',R1 (.out (.norm s'))→Ev T (.loop n live a (cut n live s')) R) (hs:∀ o,R1 (.out o)→o.stop=true→R (.out o)):Ev T (.loop n live a s) R
 | lZ {rf live x s f first cap fn R1 R} (hr:s.gZ=false) (hx:ev s.env.get x = .fn (.func f) first cap) (hf:T.fn f=some fn) (hp:fn.full=true)
   (h:Ev T (.call f (first ++ [.iA (s.H.length+1)]++cap) (s.H ++ [.kJ,.gL rf (forget live s.env) .ready])) R1)
   (k:∀ d H',R1 (.val d H')→∃ env st o,H'[s.H.length+1]? = some (.gL rf env st)∧ym { s with H:=H'.set (s.H.length+1) .dead,marks:=s.H.length::s.marks } st=some o∧R (.out o)):Ev T (.code (.lZ rf live x) s) R
 | exit {id s R} (h:R (.out (.exit id s))):Ev T (.code (.exit id) s) R
 | ret {s R} (h:R (.out (.ret s))):Ev T (.code .ret s) R
 | call {f args H fn R1 R} (own:Nat) (hf:T.fn f=some fn) (hl:args.length≤fn.ntmps) (h:Ev T (.code fn.body { env:=qI args,H:=H }) R1)
   (k:∀ o,R1 (.out o)→∃ d H',finish fn own H.length o=some (d,H')∧R (.val d H')):Ev T (.call f args H) R
 | sort {f g fn sz v gen t H R} {α:Type} (fc:α→List D) (l:List α) (cf:α→α→Int) (hs:T.sort f=some sz) (hg:T.fn g=some fn) (hl:∀ a∈l,(fc a).length=sz) (gj:∀ a∈l,fE (fc a)=true) (h0:0<l.length) (vD:l.length<4611686018427387904)
   (zZ:∀ x∈l,¬ cf x x<0) (tr:∀ x∈l,∀ y∈l,∀ z∈l,cf x y<0→cf y z<0→cf x z<0) (nt:∀ x∈l,∀ y∈l,∀ z∈l,¬ cf x y<0→¬ cf y z<0→¬ cf x z<0)
   (hc:∀ x∈l,∀ y∈l,Ev T (.call g [.agg (fc x),.agg (fc y)] []) (fun r=>∃ H',r = .val (.i (cf x y)) H')) (hv:H[v]? = some (.row t gen (l.map fc).flatten))
   (k:∀ l':List α,l'.Perm l→l'.Pairwise (fun x y=>¬ cf y x<0)→R (.val (.tup []) (H.set v (.row t gen (l'.map fc).flatten)))):Ev T (.call f [.eX v gen sz 0 l.length,.fn (.func g) [] []] H) R
 | Ar {f sz x H R} (hs:T.sort f=some sz) (k:R (.val (.tup []) H)):Ev T (.call f [.eU,x] H) R
 | qT {f v gen t H R} (l:List Int) (hs:T.qT f=true) (h0:0<l.length) (vD:l.length<4611686018427387904) (hv:H[v]? = some (.row t gen (l.map fun n=>D.i n)))
   (k:R (.val (.tup []) (H.set v (.row t gen ((l.mergeSort fun x y=>decide (x≤y)).map fun n=>D.i n))))):Ev T (.call f [.eX v gen 1 0 l.length] H) R
end Go.AL
namespace Go.AL
open Go
def lM(f:gd):Option Nat→D→gd
 | some k,d=>fun t=>if k=t then d else f t
 | none,_=>f
def C1(env:Env)(dst:Option Nat)(d:D):(put env dst d).get=lM env.get dst d:=by
 cases dst with
 | none=>rfl
 | some k=>funext t;simp[put,Env.sZ,lM]
def Kg:Option (Nat×Bool)→List Nat
 | some (t,_)=>[t]
 | none=>[]
def looks(e:ff):List Nat:=gv e.op++Kg e.guard
inductive Ef(C:FuncId→List D→D→U→Prop)(f:gd)(H:U)(e:ff)(n:Nat):Rc→D→Dl→Prop
 | op {d δ} (hg:guardOf f e.guard=some true) (h:fO f H n e.op=some (d,δ)) (hf:Fits n δ H):Ef C f H e n ⟨fX f H e.op,jm n δ⟩ d δ
 | off (hg:guardOf f e.guard=some false):Ef C f H e n ⟨[],[]⟩ (.val undef) .no
 | call {g args d} (hg:guardOf f e.guard=some true) (hc:jN f e.op=some (g,args))
   (h:C g (args.map (e7 (fun _=>none) H 40)) d []) (hr:(if fE args then closed d else flat d)=true):Ef C f H e n ⟨fX f H e.op,[]⟩ d .no
 | callN {g as args d ob} (hg:guardOf f e.guard=some true) (gW:e.op = .callN g as) (ha:args=as.map (ev f))
   (h:C g (args.map (e7 (fun _=>none) H 40)) d [ob]) (hr:(if fE args then lU d&&mL ob else np d&&oe ob)=true) (hf:Fits n (.new ob) H):Ef C f H e n ⟨fX f H e.op,jm n (.new ob)⟩ (jK n d) (.new ob)
 | w5 {g as args d v} (hg:guardOf f e.guard=some true) (gW:e.op = .callN g as) (ha:args=as.map (ev f)) (hS:∀ u∈(args.map (gX H 40)).flatten,u=v) (hv:v∈(args.map (gX H 40)).flatten) (gH:(rowsOf H v).isSome=true)
   (h:C g (args.map (e7 (fun _=>none) H 40)) d []) (gj:fE (args.map (e7 (fun _=>none) H 40))=true) (hr:closed d=true):Ef C f H e n ⟨fX f H e.op,[(v,none)]⟩ d (.obj v .dead)
def guard_congr{f f':gd}{g:Option (Nat×Bool)}(h:∀ t∈Kg g,f t=f' t):guardOf f g=guardOf f' g:=by
 cases g with
 | none=>rfl
 | some p=>simp only[guardOf,h p.1 (by simp[Kg])]
def T6{x:Fp}{H1 H2:U}(h:Alike x H1 H2):Alike x H2 H1:=by
 obtain⟨v,r⟩:=x
 cases r with
 | none=>exact h.symm
 | some q=>
  rcases h with h|⟨t,g,cs,ds,h1,h2,h3,h4⟩
  ·exact .inl h.symm
  ·exact .inr ⟨t,g,ds,cs,h2,h1,h3.symm,fun i a b=>(h4 i a b).symm⟩
def PN{n:Nat}{δ:Dl}{H H':U}(h:qV (jm n δ) H H')(hf:Fits n δ H):Fits n δ H':=by
 cases δ with
 | no=>trivial
 | obj v ob=>trivial
 | new ob=>
  have e:H[n]? = H'[n]? := h (n,none) (by simp[jm])
  show H'[n]? = some .kZ
  rw[← e];exact hf
 | cells v o xs=>
  obtain⟨t,g,cs,h1,h2⟩:=hf
  rcases h (v,some (o,xs.length)) (by simp[jm])with h|⟨t',g',mm,ds,h3,h4,h5,h6⟩
  ·exact⟨t,g,cs,h▸h1,h2⟩
  ·rw[h1]at h3;cases h3
   exact⟨t,g,ds,h4,by omega⟩
def IG{H H':U}{v:Nat}(h:Alike (v,none) H H'):rowsOf H v=rowsOf H' v:=by
 have e:H[v]? = H'[v]? := h
 simp only[rowsOf,e]
def Jz{f:gd}{H:U}{op:ij}{g:FuncId}{args:List D}(hc:jN f op=some (g,args)){H':U}(h:qV (fX f H op) H H') :
  fX f H' op=fX f H op∧args.map (e7 (fun _=>none) H' 40)=args.map (e7 (fun _=>none) H 40):=by
 have key:∀ args:List D,(∀ v∈(args.map (gX H 40)).flatten,rowsOf H v=rowsOf H' v)→args.map (gX H' 40)=args.map (gX H 40)∧args.map (e7 (fun _=>none) H' 40)=args.map (e7 (fun _=>none) H 40):=by
  intro args ha
  have h1:∀ d∈args,∀ v∈gX H 40 d,rowsOf H v=rowsOf H' v:=fun d hd v hv=>ha v (aV.2 ⟨_,aw.2 ⟨d,hd,rfl⟩,hv⟩)
  exact⟨au fun d hd=>(C6 40 d (h1 d hd)).1,au fun d hd=>(C6 40 d (h1 d hd)).2⟩
 cases op<;>first|(cases hc;done)|skip
 case call k as=>
  cases hc
  obtain⟨a,b⟩:=key (as.map (ev f)) fun v hv=>IG (h (v,none) (aw.2 ⟨v,hv,rfl⟩))
  exact⟨by simp only[fX,a],b⟩
 case callN k as=>
  cases hc
  obtain⟨a,b⟩:=key (as.map (ev f)) fun v hv=>IG (h (v,none) (aw.2 ⟨v,hv,rfl⟩))
  exact⟨by simp only[fX,a],b⟩
 case callv k as=>
  simp only[fX,hc]at h ⊢
  obtain⟨a,b⟩:=key args fun v hv=>IG (h (v,none) (aw.2 ⟨v,hv,rfl⟩))
  exact⟨by rw[a],b⟩
def WK{f:gd}{H H':U}{op:ij}(hn:jN f op=none):fX f H' op=fX f H op:=by
 cases op<;>first|rfl|(cases hn;done)|skip
 case callv=>simp only[fX,hn]
 case len k x=>cases k<;>rfl
def UC{f:gd}{H:U}{n:Nat}{op:ij}{r:D×Dl}(h:fO f H n op=some r):jN f op=none:=by
 cases op<;>first|rfl|cases h
variable{C:FuncId→List D→D→U→Prop}
def Ef.local{f f':gd}{H H':U}{e:ff}{n:Nat}{rc:Rc}{d:D}{δ:Dl}(h:Ef C f H e n rc d δ)(hf:∀ t∈looks e,f t=f' t)(hH:qV (rc.R++rc.W) H H'):Ef C f' H' e n rc d δ:=by
 have h1:∀ t∈gv e.op,f t=f' t:=fun t ht=>hf t (bg _ ht)
 have h2:guardOf f e.guard=guardOf f' e.guard:=guard_congr fun t ht=>hf t (bz _ ht)
 cases h with
 | op hg ho lH=>
  have e1:fX f H e.op=fX f' H' e.op:=by rw[Hf h1,WK (UC (by rw[← Ow h1];exact ho))]
  rw[e1]
  refine .op (h2▸hg) ?_ (PN hH.right lH)
  rw[← Ow h1,← T7 (H1:=H) hH.left]
  exact ho
 | off hg=>exact .off (h2▸hg)
 | call hg hc oT hr=>
  obtain⟨a,b⟩:=Jz hc hH.left
  have e1:fX f H e.op=fX f' H' e.op:=by rw[← a,Hf h1]
  rw[e1]
  exact .call (h2▸hg) (by rw[← Gt h1];exact hc) (by rw[b];exact oT) hr
 | @callN g as args _ _ hg gW ha oT hr lH=>
  have hc:jN f e.op=some (g,args):=by rw[gW,ha];rfl
  obtain⟨a,b⟩:=Jz hc hH.left
  have e1:fX f H e.op=fX f' H' e.op:=by rw[← a,Hf h1]
  rw[e1]
  have pf:jN f' e.op=some (g,args):=by rw[← Gt h1];exact hc
  have oF:args=as.map (ev f'):=by
   rw[gW]at pf
   cases pf;rfl
  exact .callN (h2▸hg) gW oF (by rw[b];exact oT) hr (PN hH.right lH)
 | @w5 g as args _ v hg gW ha hS hv gH oT gj hr=>
  have hc:jN f e.op=some (g,args):=by rw[gW,ha];rfl
  obtain⟨a,b⟩:=Jz hc hH.left
  have e1:fX f H e.op=fX f' H' e.op:=by rw[← a,Hf h1]
  rw[e1]
  have pf:jN f' e.op=some (g,args):=by rw[← Gt h1];exact hc
  have oF:args=as.map (ev f'):=by
   rw[gW]at pf
   cases pf;rfl
  have qz:(args.map (gX H' 40)).flatten=(args.map (gX H 40)).flatten:=by
   have a2:=a
   rw[gW]at a2
   simp only[fX,← ha]at a2
   exact(List.map_inj_right (fun x y h=>(Prod.mk.inj h).1)).1 a2
  have Yw:rowsOf H v=rowsOf H' v:=IG (hH.right (v,none) (by simp))
  exact .w5 (h2▸hg) gW oF (by rw[qz];exact hS) (by rw[qz];exact hv) (by rw[← Yw];exact gH) (by rw[b];exact oT) (by rw[b];exact gj) hr
def Ef.fits{f:gd}{H:U}{e:ff}{n:Nat}{rc:Rc}{d:D}{δ:Dl}(h:Ef C f H e n rc d δ):Fits n δ H∧rc.W=jm n δ:=by
 cases h with
 | op _ _ hf=>exact⟨hf,rfl⟩
 | off=>exact⟨trivial,rfl⟩
 | call=>exact⟨trivial,rfl⟩
 | callN _ _ _ _ _ hf=>exact⟨hf,rfl⟩
 | w5=>exact⟨trivial,rfl⟩
def uS(a b:ff):Bool:=
 (match a.dst with|some k => !(looks b).contains k&&b.dst != some k|none=>true)&&(match b.dst with|some k => !(looks a).contains k|none=>true)
def sx(a b:Rc):Bool:=q5 a.W (b.R++b.W)&&q5 b.W (a.R++a.W)
def TC{f:gd}{dst:Option Nat}{d:D}{l:List Nat}(h:∀ k,dst=some k→k ∉ l):∀ t∈l,lM f dst d t=f t:=by
 intro t ht
 cases dst with
 | none=>rfl
 | some k=>
  simp only[lM]
  rw[if_neg]
  rintro rfl
  exact h _ rfl ht
def agI{f:gd}{a b:Option Nat}{x y:D}(h:∀ k,a=some k→b≠some k):lM (lM f a x) b y=lM (lM f b y) a x:=by
 cases a with
 | none=>rfl
 | some k=>
  cases b with
  | none=>rfl
  | some j=>
   have gE:j≠k:=fun e=>h k rfl (by rw[e])
   funext t
   simp only[lM]
   by_cases h1:j=t<;>by_cases h2:k=t<;>simp[h1,h2]
   exact absurd (h1.trans h2.symm) gE
def agi{a b:ff}(h:uS a b=true):(∀ k,a.dst=some k→k ∉ looks b)∧(∀ k,b.dst=some k→k ∉ looks a)∧(∀ k,a.dst=some k→b.dst≠some k):=by
 unfold uS at h
 simp only[ah]at h
 refine⟨fun k hk=>?_,fun k hk=>?_,fun k hk=>?_⟩
 ·have:=h.1
  rw[hk]at this
  simp at this
  exact this.1
 ·have:=h.2
  rw[hk]at this
  simpa using this
 ·have:=h.1
  rw[hk]at this
  simp at this
  exact this.2
def swap{f:gd}{H:U}{a b:ff}{n m:Nat}{ra rb:Rc}{x y:D}{δ ε:Dl}(ha:Ef C f H a n ra x δ)(hb:Ef C (lM f a.dst x) (kI n δ H) b m rb y ε)
  (hs:uS a b=true) (hr:sx ra rb=true) :
  Ef C f H b m rb y ε∧Ef C (lM f b.dst y) (kI m ε H) a n ra x δ∧lM (lM f a.dst x) b.dst y=lM (lM f b.dst y) a.dst x∧kI m ε (kI n δ H)=kI n δ (kI m ε H):=by
 obtain⟨s1,s2,s3⟩:=agi hs
 simp only[sx,ah]at hr
 obtain⟨fa,wa⟩:=ha.fits
 have rU:Ef C f H b m rb y ε:=hb.local (TC s1) (Oo fa (by rw[← wa];exact hr.1))
 obtain⟨fb,wb⟩:=rU.fits
 refine⟨rU,ha.local (fun t ht=>(TC s2 t ht).symm) fun z hz=>T6 (Oo fb (by rw[← wb];exact hr.2) z hz),agI s3,agZ fa fb ?_⟩
 rw[← wa,← wb]
 simp only[q5,ar]at hr ⊢
 exact fun u hu z hz=>hr.1 u hu z (bz _ hz)
def LR{o:Option D}{d:D}{δ:Dl}(h:lift o=some (d,δ)):δ = .no:=by
 cases o<;>simp[lift]at h
 exact h.2.symm
def Mu{f:gd}{H:U}{e:ff}{n:Nat}{rc:Rc}{d:D}{δ:Dl}(h:Ef C f H e n rc d δ)(hp:CZ e.op=true):rc.R = []∧rc.W = []:=by
 cases h with
 | op hg ho hf=>
  cases gW:e.op<;>rw[gW]at ho hp<;>simp only[fO]at ho<;>first|(cases hp;done)|skip
  case len k x=>
   have:=LR ho
   subst this
   cases k<;>first|(cases hp;done)|exact⟨rfl,rfl⟩
  all_goals
   have:=LR ho
   subst this
   exact⟨rfl,rfl⟩
 | off hg=>exact⟨rfl,rfl⟩
 | call hg hc h hr=>cases gW:e.op<;>rw[gW]at hc hp<;>first|(cases hp;done)|(cases hc;done)
 | callN _ gW=>rw[gW]at hp;cases hp
 | w5 _ gW=>rw[gW]at hp;cases hp
def SM{f:gd}{H:U}{e:ff}{n:Nat}{rc:Rc}{d:D}{δ:Dl}(h:Ef C f H e n rc d δ)(hp:Mz e.op=true):rc.W = []:=by
 by_cases hq:CZ e.op=true
 ·exact(Mu h hq).2
 ·cases h with
  | op hg ho hf=>
   cases gW:e.op<;>rw[gW]at ho hp hq<;>simp only[fO]at ho<;>first|(cases hp;done)|(exact absurd rfl hq)|skip
   case call=>cases ho
   case callv=>cases ho
   all_goals
    have:=LR ho
    subst this
    rfl
  | off hg=>rfl
  | call=>rfl
  | callN _ gW=>rw[gW]at hp;cases hp
  | w5 _ gW=>rw[gW]at hp;cases hp
def Ts{f f':gd}{H H':U}{a b:ff}{n m:Nat}{ra rb:Rc}{x y:D}{δ ε:Dl}(ha:Ef C f H a n ra x δ)(hb:Ef C f' H' b m rb y ε)(h:IZ a.op b.op=true):sx ra rb=true:=by
 simp only[IZ,bP,ah]at h
 rcases h with(h|h)|⟨h1,h2⟩
 ·obtain⟨e1,e2⟩:=Mu ha h
  simp[sx,e1,e2,q5]
 ·obtain⟨e1,e2⟩:=Mu hb h
  simp[sx,e1,e2,q5]
 ·simp[sx,SM ha h1,SM hb h2,q5]
structure l6 where
 k:Nat
 e:ff
 n:Nat
 rc:Rc
inductive Tx(C:FuncId→List D→D→U→Prop):gd→U→List l6→gd→U→Prop
 | nil {f H}:Tx C f H [] f H
 | cons {f H it r d δ f' H'} (h:Ef C f H it.e it.n it.rc d δ) (t:Tx C (lM f it.e.dst d) (kI it.n δ H) r f' H'):Tx C f H (it::r) f' H'
def Tx.each{f:gd}{H:U}{l:List l6}{f':gd}{H':U}(h:Tx C f H l f' H'):∀ it∈l,∃ f H d δ,Ef C f H it.e it.n it.rc d δ:=by
 induction h with
 | nil=>intro it jw;cases jw
 | cons h t ih=>
  intro it jw
  rcases av.1 jw with rfl|jw
  ·exact⟨_,_,_,_,h⟩
  ·exact ih it jw
theorem Tx.front{it:l6}{post:List l6}{f':gd}{H':U}:∀ {pre:List l6} {f:gd} {H:U},Tx C f H (pre++it::post) f' H'→(∀ p∈pre,uS p.e it.e=true∧sx p.rc it.rc=true) →
  ∃ d δ,Ef C f H it.e it.n it.rc d δ∧Tx C (lM f it.e.dst d) (kI it.n δ H) (pre++post) f' H'
 | [],f,H,h,_=>by
  cases h with
  | cons h t=>exact⟨_,_,h,t⟩
 | p::pre,f,H,h,ha=>by
  cases h with
  | @cons _ _ _ _ d δ _ _ h t=>
   obtain⟨y,ε,hy,ht⟩:=Tx.front (pre:=pre) t fun q hq=>ha q (by simp[hq])
   obtain⟨s1,s2,s3,s4⟩:=swap h hy (ha p (by simp)).1 (ha p (by simp)).2
   refine⟨y,ε,s1,.cons s2 ?_⟩
   rw[← s3,← s4]
   exact ht
end Go.AL
namespace Go.AL
open Go
structure SX(G:GT)(N:Nat)(c:Ctx)(w:World)(f:gd)(H:U)(ms:List Nat)(a:Act):Prop where
 eZ:fr G c H w
 env:kb c w f a
 size:N≤a.tmps.size
 marks:pE c ms a.defers
section
variable{P:Program}{G:GT}{c:Ctx}{w:World}{f:gd}{H:U}{ms:List Nat}{a:Act}{N:Nat}
def afh{f:gd}{a:Act}{c:Ctx}{w:World}(he:kb c w f a)(hN:N≤a.tmps.size){dst:Option Tmp}(hd:qt N dst=true){v:Value}{d:D}(hr:eW c w v d) :
  kb c w (lM f dst d) (a.put dst v):=by
 cases dst with
 | none=>exact he
 | some t=>
  have ht:t<a.tmps.size:=aJ (by simpa[qt]using hd) hN
  intro k
  simp only[lM,Act.put]
  split
  ·rename_i e
   subst e
   have:(a.tmps.setIfInBounds t v).getD t undef=v:=by simp[Array.getD,ht]
   rw[this];exact hr
  ·rename_i e
   have:(a.tmps.setIfInBounds t v).getD k undef=a.tmps.getD k undef:=by
    simp only[bJ,bB e]
   rw[this];exact he k
def SX.next{c':Ctx}{w':World}{H':U}(hs:SX G N c w f H ms a)(eZ:fr G c' H' w')(fm:Step H.length c H w c' H' w'){dst:Option Tmp}(hd:qt N dst=true)
  {v:Value} {d:D} (hr:eW c' w' v d):SX G N c' w' (lM f dst d) H' ms (a.put dst v) where
 eZ:=eZ
 env:=afh (kb.carry (fun _ _ h=>h.ox hs.eZ.toHeapOK fm) hs.env) hs.size hd hr
 size:=by rw[SE];exact hs.size
 marks:=by
  rw[put_defers]
  refine hs.marks.mono fun v L h=>fm.old v 0 L ?_ h
  rcases a8 v H.length with h'|h'
  ·exact h'
  ·rw[hs.eZ.out v 0 h']at h;cases h
def T8{op:ij}{n n':Nat}{d:D}{δ:Dl}(h:fO f H n op=some (d,δ))(hn:∀ ob,δ≠.new ob):fO f H n' op=some (d,δ):=by
 cases op<;>simp only[fO]at h ⊢ <;> first|exact h|skip
 case box=>
  unfold qq at h
  split at h
  ·cases h;exact absurd rfl (hn _)
  ·cases h
 case alloc=>cases h;exact absurd rfl (hn _)
 case buildSl=>
  unfold vh at h
  split at h
  ·split at h
   ·cases h;exact absurd rfl (hn _)
   ·cases h
  ·cases h
 case mkmap=>cases h;exact absurd rfl (hn _)
 case mksl=>
  unfold Aa at h
  split at h
  ·split at h
   ·cases h;exact absurd rfl (hn _)
   ·cases h
  ·cases h
 case app=>
  unfold pX at h ⊢
  split at h
  ·split at h
   ·exact h
   ·split at h
    ·cases h;exact absurd rfl (hn _)
    ·cases h
   ·rename_i m _ _ _
    by_cases hm:m=0
    ·rw[if_pos hm]at h ⊢;exact h
    ·rw[if_neg hm]at h
     split at h
     ·cases h;exact absurd rfl (hn _)
     ·cases h
   ·cases h
  ·cases h
def Bi{d:D}(h:closed d=true):lU d=true∧jK H.length d=d:=by
 cases d<;>first|(cases h;done)|skip
 case tup ds=>
  have hc:=lO h
  refine⟨?_,?_⟩
  ·simp only[lU,tu,ar]
   intro d hd
   have:=hc d hd
   cases d<;>first|rfl|exact this
  ·simp only[jK]
   congr 1
   conv=>rhs;rw[← aY ds]
   refine au fun d hd=>?_
   have:=hc d hd
   cases d<;>first|(cases this;done)|rfl
 case agg ds=>
  have hc:=lO h
  refine⟨?_,?_⟩
  ·simp only[lU,tu,ar]
   intro d hd
   have:=hc d hd
   cases d<;>first|rfl|exact this
  ·simp only[jK]
   congr 1
   conv=>rhs;rw[← aY ds]
   refine au fun d hd=>?_
   have:=hc d hd
   cases d<;>first|(cases this;done)|rfl
 all_goals exact⟨h,rfl⟩
def J7{d:D}(h:flat d=true):np d=true∧jK H.length d=d:=by
 cases d<;>first|(cases h;done)|skip
 case tup ds=>
  have hc:∀ d∈ds,flat d=true:=fun d hd=>by
   obtain⟨i,hi⟩:=aG.1 hd
   exact zo h hi
  refine⟨?_,?_⟩
  ·simp only[np,tu,ar]
   intro d hd
   have:=hc d hd
   cases d<;>first|rfl|exact this
  ·simp only[jK]
   congr 1
   conv=>rhs;rw[← aY ds]
   refine au fun d hd=>?_
   have:=hc d hd
   cases d<;>first|(cases this;done)|rfl
 case agg ds=>
  have hc:∀ d∈ds,flat d=true:=fun d hd=>by
   obtain⟨i,hi⟩:=aG.1 hd
   exact zo h hi
  refine⟨?_,?_⟩
  ·simp only[np,tu,ar]
   intro d hd
   have:=hc d hd
   cases d<;>first|rfl|exact this
  ·simp only[jK]
   congr 1
   conv=>rhs;rw[← aY ds]
   refine au fun d hd=>?_
   have:=hc d hd
   cases d<;>first|(cases this;done)|rfl
 all_goals exact⟨h,rfl⟩
variable{C:FuncId→List D→D→U→Prop}
def Ph(hC:∀ g args d Hn,C g args d Hn→p8 P g=true∧u3 P G g args [] d Hn)(hs:SX G N c w f H ms a){A:Array Oper}{o:Oper}{e:ff}{i:Nat}(hA:A[i]? = some o)
  (ho:sT P G N A o=some e) {n:Nat} {rc:Rc} {d:D} {δ:Dl} (hE:Ef C f H e n rc d δ) {ro:Option Nat} {m:Nat} {Q:Exit→Act→World→Prop} {K:Act→World→Prop}
  (k:∀ c' w' a',SX G N c' w' (lM f e.dst d) (kI n δ H) ms a'→Step H.length c H w c' (kI n δ H) w'→K a' w'):wpOpIn (FW ro) m P A Q i K a w:=by
 obtain⟨s1,s2,s3,s4⟩:=vt ho
 unfold wpOpIn
 simp only[hA]
 cases hE with
 | op hg h lH=>
  have hw:=rF hs.env s4 hg
  have s1:=O1 s1 h
  simp only[hw,if_true]
  have main:∀ {al:Al},l5 H al→fO f H al.1 e.op=some (d,δ)→δ.app H al=kI n δ H→o.wpIn (FW ro) m P a w K Q:=by
   intro al gu h YX
   obtain⟨v,w',hy,d',H',c',⟨rfl,rfl⟩,eZ,hr,fm⟩:=SB (P:=P) (K:=fun d' H'=>d'=d∧H'=δ.app H al) hs.eZ hs.env gu s1 (Ox h ⟨rfl,rfl⟩)
   refine⟨fun _ _=>trivial,?_⟩
   rw[Oper.semAt_plain (FW ro) a.eval o (yg s1)]
   rw[YX]at eZ fm
   have hx:=hs.next eZ fm s3 hr
   rw[← s2]at hx
   have hn:=k c' w' _ hx fm
   rw[s2]at hn
   rcases hy with hy|⟨hy,rfl⟩
   ·rw[hy];exact hn
   ·rw[hy];exact hn
  by_cases lS:∃ ob,δ = .new ob
  ·obtain⟨ob,rfl⟩:=lS
   exact main (al:=Al.kZ H n) (l5.kZ lH) h rfl
  ·have qB:∀ ob,δ≠.new ob:=fun ob e=>lS ⟨ob,e⟩
   refine main (al:=Al.last H) (l5.last H) (T8 h qB) ?_
   cases δ<;>first|rfl|exact absurd rfl (qB _)
 | off hg=>
  have hw:=rF hs.env s4 hg
  simp only[hw,br,if_false]
  refine⟨fun _ _=>trivial,?_⟩
  have hx:=hs.next hs.eZ (Step.refl _ _ _ _) s3 (v:=undef) (d:=.val undef) (.val _)
  rw[← s2]at hx
  have:=k c w _ hx (Step.refl _ _ _ _)
  rw[s2]at this
  exact this
 | @call g args d hg hc h hr=>
  have hw:=rF hs.env s4 hg
  have s1:=Bl s1 hc
  simp only[hw,if_true]
  obtain⟨kn,jh⟩:=hC _ _ _ _ h
  obtain⟨vs,gK,iy⟩:=IL hs.eZ hs.env s1 hc kn
  have iJ:(if fE args then lU d&&([]:U).all mL else np d&&([]:U).all oe)=true∧jK H.length d=d:=by
   by_cases gj:fE args=true
   ·rw[if_pos gj]at hr ⊢
    obtain⟨a,b⟩:=Bi (H:=H) hr
    exact⟨by simp[a],b⟩
   ·rw[if_neg gj]at hr ⊢
    obtain⟨a,b⟩:=J7 (H:=H) hr
    exact⟨by simp[a],b⟩
  have hp:=SD hs.eZ iy jh iJ.1
  rw[iJ.2,aA]at hp
  refine⟨fun _ _=>trivial,?_⟩
  rw[Oper.semAt_plain (FW ro) a.eval o (yg s1),gK]
  refine⟨fun h=>by simp[Fence.wide]at h,Bg.2 (hp.mono ?_)⟩
  rintro e' w' ⟨v,c',rfl,eZ,mw,fm⟩
  have hx:=hs.next eZ fm s3 mw
  rw[← s2]at hx
  have:=k c' w' _ hx fm
  rw[s2]at this
  exact this
 | @callN g as args d ob hg gW ha h hr lH=>
  have hw:=rF hs.env s4 hg
  simp only[hw,if_true]
  have hc:jN f e.op=some (g,args):=by rw[gW,ha];rfl
  have s1:=Bl s1 hc
  obtain⟨kn,jh⟩:=hC _ _ _ _ h
  obtain⟨vs,gK,iy⟩:=IL hs.eZ hs.env s1 hc kn
  have hp:=aff hs.eZ iy jh hr lH
  refine⟨fun _ _=>trivial,?_⟩
  rw[Oper.semAt_plain (FW ro) a.eval o (yg s1),gK]
  refine⟨fun h=>by simp[Fence.wide]at h,Bg.2 (hp.mono ?_)⟩
  rintro e' w' ⟨v,c',rfl,eZ,mw,fm⟩
  have hx:=hs.next eZ fm s3 mw
  rw[← s2]at hx
  have:=k c' w' _ hx fm
  rw[s2]at this
  exact this
 | @w5 g as args d v hg gW ha hS hv gH h gj hr=>
  have hw:=rF hs.env s4 hg
  simp only[hw,if_true]
  have hc:jN f e.op=some (g,args):=by rw[gW,ha];rfl
  have s1:=Bl s1 hc
  obtain⟨kn,jh⟩:=hC _ _ _ _ h
  obtain⟨vs,gK,iy⟩:=IL hs.eZ hs.env s1 hc kn
  have hp:=afe hs.eZ iy hS gH jh gj hr
  refine⟨fun _ _=>trivial,?_⟩
  rw[Oper.semAt_plain (FW ro) a.eval o (yg s1),gK]
  refine⟨fun h=>by simp[Fence.wide]at h,Bg.2 (hp.mono ?_)⟩
  rintro e' w' ⟨u,c',rfl,eZ,mw,fm⟩
  have hx:=hs.next eZ fm s3 mw
  rw[← s2]at hx
  have:=k c' w' _ hx fm
  rw[s2]at this
  exact this
end
end Go.AL
namespace Go.AL
open Go
def vx(A:Array Oper):Bool:=(List.range A.size).all fun i=>match A[i]? with
 | some o=>o.after.all fun e => !Region.binds .any e||decide (e.on<i)
 | none=>true
def uM(A:Array Oper)(ord:List (List Nat)):Bool:=(List.range A.size).all fun i=>match A[i]? with
 | some o=>(ord.getD i []).all fun k=>o.after.any fun e=>Region.binds .any e&&(e.on == k||(ord.getD e.on []).contains k)
 | none=>true
def Mq(l:List ff)(ord:List (List Nat))(iW:List (Nat×Nat)):Bool:=(List.range l.length).all fun i=>(List.range i).all fun k=>
 (ord.getD i []).contains k||(match l[k]?,l[i]? with
  | some a,some b=>uS a b&&(iW.contains (k,i)||IZ a.op b.op)
  | _,_=>false)
section
variable{P:Program}{G:GT}{A:Array Oper}{ord:List (List Nat)}
def Vu(h:vx A=true){i:Nat}{o:Oper}(hi:A[i]? = some o){e:Edge}(he:e∈o.after)(hb:Region.binds .any e=true):e.on<i:=by
 have:=ar.1 h i (bC.2 (aK.1 hi).1)
 simp only[hi]at this
 have:=bZ.1 this e he
 simpa[hb]using this
def Sv(h:uM A ord=true){i:Nat}{o:Oper}(hi:A[i]? = some o){k:Nat}(hk:k∈ord.getD i []):∃ e∈o.after,Region.binds .any e=true∧(e.on=k∨k∈ord.getD e.on []):=by
 have:=ar.1 h i (bC.2 (aK.1 hi).1)
 simp only[hi]at this
 have:=ar.1 this k hk
 obtain⟨e,he,h2⟩:=Array.any_eq_true'.1 this
 simp only[ah,bP,beq_iff_eq,cV]at h2
 exact⟨e,he,h2.1,h2.2⟩
structure Left(A:Array Oper)(ord:List (List Nat))(rem:List l6)(listed:Array Bool):Prop where
 size:listed.size=A.size
 iff:∀ j,j<A.size→(listed.getD j true=false↔∃ it∈rem,it.k=j)
 sorted:rem.Pairwise fun p q=>p.k<q.k
 lt:∀ it∈rem,it.k<A.size
 down:∀ i,i<A.size→listed.getD i false=true→∀ k∈ord.getD i [],listed.getD k false=true
def ZY{rem:List l6}{listed:Array Bool}(h:Left A ord rem listed){j:Nat}(hj:j<A.size):listed.getD j false=true∨∃ it∈rem,it.k=j:=by
 have mP:j<listed.size:=by rw[h.size];exact hj
 cases hb:listed.getD j true with
 | false=>exact .inr ((h.iff j hj).1 hb)
 | true=>left;simp[mP]at hb ⊢;exact hb
def aaq{rem:List l6}{listed:Array Bool}(h:Left A ord rem listed){it:l6}(jw:it∈rem):listed.getD it.k false=false:=by
 have gi:=h.lt it jw
 have:=(h.iff it.k gi).2 ⟨it,jw,rfl⟩
 have mP:it.k<listed.size:=by rw[h.size];exact gi
 simp[mP]at this ⊢;exact this
def MA(he:vx A=true){it:l6}{rem:List l6}{listed:Array Bool}(h:Left A ord (it::rem) listed):it.k∈Region.ready .any A listed:=by
 rw[mem_ready]
 have gi:=h.lt it (by simp)
 refine⟨(h.iff it.k gi).2 ⟨it,by simp,rfl⟩,A[it.k],by simp[gi],fun e hm hb=>?_⟩
 have ph:=Vu he (i:=it.k) (o:=A[it.k]) (by simp[gi]) hm hb
 rcases ZY h (show e.on<A.size by omega)with hl|⟨q,hq,hqk⟩
 ·exact hl
 ·exfalso
  rcases av.1 hq with rfl|hq
  ·omega
  ·have:=(bj.1 h.sorted).1 q hq
   omega
def ID(ho:uM A ord=true){rem:List l6}{listed:Array Bool}(h:Left A ord rem listed){i:Nat}(hi:i∈Region.ready .any A listed){q:l6}(hq:q∈rem):q.k ∉ ord.getD i []:=by
 intro hk
 obtain⟨_,o,K9,jO⟩:=mem_ready.1 hi
 obtain⟨e,hm,hb,hc⟩:=Sv ho K9 hk
 have ph:=jO e hm hb
 have hn:=aaq h hq
 rcases hc with hc|hc
 ·rw[hc]at ph;rw[ph]at hn;cases hn
 ·have gi:e.on<A.size:=by
   rcases a8 e.on A.size with h'|h'
   ·exact h'
   ·have:listed.getD e.on false=false:=by
     have:listed.size≤e.on:=by rw[h.size];exact h'
     simp[dt this]
    rw[this]at ph;cases ph
  have:=h.down e.on gi ph q.k hc
  rw[this]at hn;cases hn
def LQ(ho:uM A ord=true){pre post:List l6}{it:l6}{listed:Array Bool}(h:Left A ord (pre++it::post) listed)(hi:it.k∈Region.ready .any A listed) :
  Left A ord (pre++post) (listed.setIfInBounds it.k true):=by
 have sg:(pre++post).Sublist (pre++it::post):=da (du it post) pre
 have gE:∀ q∈pre++post,q.k≠it.k:=by
  intro q hq
  have:=bK.1 h.sorted
  rcases List.mem_append.1 hq with hq|hq
  ·have:=this.2.2 q hq it (by simp);omega
  ·have:=(bj.1 this.2.1).1 q hq;omega
 have gi:=h.lt it (by simp)
 refine⟨by simp[h.size],fun j hj=>?_,h.sorted.sublist sg,fun q hq=>h.lt q (sg.subset hq),fun i xF hl k hk=>?_⟩
 ·by_cases e:it.k=j
  ·subst e
   have:(listed.setIfInBounds it.k true).getD it.k true=true:=by
    have:it.k<listed.size:=by rw[h.size];exact gi
    simp[this]
   rw[this]
   constructor
   ·intro h;cases h
   ·rintro⟨q,hq,e⟩
    exact absurd e (gE q hq)
  ·rw[getD_set_ne true e,h.iff j hj]
   constructor
   ·rintro⟨q,hq,rfl⟩
    rcases List.mem_append.1 hq with hq|hq
    ·exact⟨q,bg _ hq,rfl⟩
    ·rcases av.1 hq with rfl|hq
     ·exact absurd rfl e
     ·exact⟨q,bz _ hq,rfl⟩
   ·rintro⟨q,hq,rfl⟩
    exact⟨q,sg.subset hq,rfl⟩
 ·by_cases e:it.k=i
  ·subst e
   obtain⟨_,o,K9,jO⟩:=mem_ready.1 hi
   obtain⟨e,hm,hb,hc⟩:=Sv ho K9 hk
   have ph:=jO e hm hb
   rcases hc with rfl|hc
   ·exact getD_set_true ph
   ·have gi:e.on<A.size:=by
     rcases a8 e.on A.size with h'|h'
     ·exact h'
     ·have:listed.getD e.on false=false:=by
       have:listed.size≤e.on:=by rw[h.size];exact h'
       simp[dt this]
      rw[this]at ph;cases ph
    exact getD_set_true (h.down e.on gi ph k hc)
  ·rw[getD_set_ne false e]at hl
   exact getD_set_true (h.down i xF hl k hk)
variable{C:FuncId→List D→D→U→Prop}{N:Nat}
def Oy(n:Nat)(δ:Dl)(H:U):(kI n δ H).length=H.length:=by
 cases δ with
 | no=>rfl
 | cells v o xs=>simp only[kI,Dl.app];split<;>simp
 | obj v ob=>simp[kI,Dl.app]
 | new ob=>simp[kI,Dl.app,Al.kZ]
theorem Ot(hC:∀ g args d Hn,C g args d Hn→p8 P g=true∧u3 P G g args [] d Hn)(he:vx A=true)(ho:uM A ord=true){ro:Option Nat}{m:Nat}{Q:Exit→Act→World→Prop}{ms:List Nat}{f':gd}{H':U} :
  ∀ (fuel:Nat) (rem:List l6) (listed:Array Bool) (c:Ctx) (w:World) (f:gd) (H:U) (a:Act),rem.length=fuel→Left A ord rem listed→SX G N c w f H ms a→Tx C f H rem f' H' →
   (∀ it∈rem,∃ o,A[it.k]? = some o∧sT P G N A o=some it.e) →
   (∀ p∈rem,∀ q∈rem,p.k<q.k→p.k∈ord.getD q.k []∨(uS p.e q.e=true∧sx p.rc q.rc=true)) →
   (∀ c' w' a',SX G N c' w' f' H' ms a'→Step H.length c H w c' H' w'→Q .normal a' w')→wpAnyIn (FW ro) m P .any A Q fuel listed a w
 | 0,rem,listed,c,w,f,H,a,hl,lI,hs,ht,_,_,hQ=>by
  have:rem = []:=aW hl
  subst this
  cases ht
  refine⟨?_,hQ c w a hs (Step.refl _ _ _ _)⟩
  refine cP.2 fun j hj=>?_
  obtain⟨h1,o,h2,_⟩:=mem_ready.1 hj
  obtain⟨it,jw,_⟩:=(lI.iff j (aK.1 h2).1).1 h1
  cases jw
 | fuel+1,rem,listed,c,w,f,H,a,hl,lI,hs,ht,ue,B',hQ=>by
  refine⟨fun h0=>?_,fun i hi=>?_⟩
  ·cases rem with
   | nil=>cases hl
   | cons it rem=>
    have:=MA he lI
    rw[h0]at this
    cases this
  ·obtain⟨h1,o,h2,_⟩:=mem_ready.1 hi
   obtain⟨it,jw,rfl⟩:=(lI.iff i (aK.1 h2).1).1 h1
   obtain⟨pre,post,rfl⟩:=List.append_of_mem jw
   have Lg:∀ p∈pre,uS p.e it.e=true∧sx p.rc it.rc=true:=by
    intro p hp
    have gi:p.k<it.k:=(bK.1 lI.sorted).2.2 p hp it (by simp)
    rcases B' p (bg _ hp) it (by simp) gi with h|h
    ·exact absurd h (ID ho lI hi (bg _ hp))
    ·exact h
   obtain⟨d,δ,hE,hT⟩:=ht.front Lg
   obtain⟨o',K8,KH⟩:=ue it (by simp)
   have sg:∀ q∈pre++post,q∈pre++it::post:=fun q hq=>(da (du it post) pre).subset hq
   refine Ph hC hs K8 KH hE fun c' w' a' gw fm=>?_
   refine Ot hC he ho fuel (pre++post) _ c' w' _ _ a' (by simp at hl ⊢;omega) (LQ ho lI hi) gw hT (fun q hq=>ue q (sg q hq)) (fun p hp q hq=>B' p (sg p hp) q (sg q hq)) fun c2 w2 a2 mH qg=>?_
   rw[Oy]at qg
   exact hQ c2 w2 a2 mH (fm.trans qg (Nat.le_refl _))
theorem Ov(he:vx A=true)(ho:uM A ord=true){F:Fence}{m:Nat}{Q:Exit→Act→World→Prop} :
  ∀ (lasts:List l6) (ops:List Oper) (listed:Array Bool) (a:Act) (w:World),Left A ord lasts listed→(∀ q∈lasts,∀ k,k<q.k→k∈ord.getD q.k [])→lasts.map (fun q=>A[q.k]?)=ops.map some →
   wpListIn F m P A Q ops a w→wpAnyIn F m P .any A Q lasts.length listed a w
 | [],ops,listed,a,w,lI,_,uo,h=>by
  have:ops = []:=by simpa using uo.symm
  subst this
  refine⟨cP.2 fun j hj=>?_,h⟩
  obtain⟨h1,o,h2,_⟩:=mem_ready.1 hj
  obtain⟨it,jw,_⟩:=(lI.iff j (aK.1 h2).1).1 h1
  cases jw
 | q::lasts,ops,listed,a,w,lI,hl,uo,h=>by
  cases ops with
  | nil=>simp at uo
  | cons o ops=>
   simp only[List.map_cons,cQ]at uo
   refine⟨fun h0=>?_,fun i hi=>?_⟩
   ·have:=MA he lI
    rw[h0]at this
    cases this
   ·obtain⟨h1,o',h2,_⟩:=mem_ready.1 hi
    obtain⟨it,jw,rfl⟩:=(lI.iff i (aK.1 h2).1).1 h1
    have jw:it=q:=by
     rcases av.1 jw with h|h
     ·exact h
     ·have gi:q.k<it.k:=(bj.1 lI.sorted).1 it h
      exact absurd (hl it (aS _ h) q.k gi) (ID ho lI hi (q:=q) (by simp))
    subst jw
    have hn:=LQ (pre:=[]) (post:=lasts) ho lI hi
    have ih:∀ a w,wpListIn F m P A Q ops a w→wpAnyIn F m P .any A Q lasts.length (listed.setIfInBounds it.k true) a w:=fun a w h=>
     Ov he ho lasts ops _ a w hn (fun q hq=>hl q (aS _ hq)) uo.2 h
    unfold wpOpIn
    simp only[uo.1]
    simp only[wpListIn]at h
    split
    ·rename_i hw
     simp only[hw,if_true]at h
     exact Oper.wpIn_mono ih h
    ·rename_i hw
     simp only[hw]at h
     exact⟨h.1,ih _ _ h.2⟩
theorem Ou(hC:∀ g args d Hn,C g args d Hn→p8 P g=true∧u3 P G g args [] d Hn)(he:vx A=true)(ho:uM A ord=true){ro:Option Nat}{m:Nat}{Q:Exit→Act→World→Prop}{ms:List Nat}{f':gd}{H':U}{lasts:List l6}{ops:List Oper}
  (xL:∀ q∈lasts,∀ k,k<q.k→k∈ord.getD q.k []) (uo:lasts.map (fun q=>A[q.k]?)=ops.map some) :
  ∀ (fuel:Nat) (rem:List l6) (listed:Array Bool) (c:Ctx) (w:World) (f:gd) (H:U) (a:Act),rem.length=fuel→Left A ord (rem++lasts) listed→SX G N c w f H ms a→Tx C f H rem f' H' →
   (∀ it∈rem,∃ o,A[it.k]? = some o∧sT P G N A o=some it.e) →
   (∀ p∈rem,∀ q∈rem,p.k<q.k→p.k∈ord.getD q.k []∨(uS p.e q.e=true∧sx p.rc q.rc=true)) →
   (∀ c' w' a',SX G N c' w' f' H' ms a'→Step H.length c H w c' H' w'→wpListIn (FW ro) m P A Q ops a' w')→wpAnyIn (FW ro) m P .any A Q (fuel+lasts.length) listed a w
 | 0,rem,listed,c,w,f,H,a,hl,lI,hs,ht,_,_,hQ=>by
  have:rem = []:=aW hl
  subst this
  cases ht
  rw[aR]
  exact Ov he ho lasts ops listed a w lI xL uo (hQ c w a hs (Step.refl _ _ _ _))
 | fuel+1,rem,listed,c,w,f,H,a,hl,lI,hs,ht,ue,B',hQ=>by
  have oU:∀ q∈rem,∀ l∈lasts,q.k<l.k:=fun q hq l hl=>(bK.1 lI.sorted).2.2 q hq l hl
  rw[show fuel+1+lasts.length=(fuel+lasts.length)+1 by omega]
  refine⟨fun h0=>?_,fun i hi=>?_⟩
  ·cases rem with
   | nil=>cases hl
   | cons it rem=>
    have:=MA (rem:=rem++lasts) he lI
    rw[h0]at this
    cases this
  ·obtain⟨h1,o,h2,_⟩:=mem_ready.1 hi
   obtain⟨it,jw,rfl⟩:=(lI.iff i (aK.1 h2).1).1 h1
   have jw:it∈rem:=by
    rcases List.mem_append.1 jw with h|h
    ·exact h
    ·cases rem with
     | nil=>cases hl
     | cons q rem=>exact absurd (xL it h q.k (oU q (by simp) it h)) (ID ho lI hi (q:=q) (by simp))
   obtain⟨pre,post,rfl⟩:=List.append_of_mem jw
   have K3:Left A ord (pre++it::(post++lasts)) listed:=by simpa using lI
   have Lg:∀ p∈pre,uS p.e it.e=true∧sx p.rc it.rc=true:=by
    intro p hp
    have gi:p.k<it.k:=(bK.1 K3.sorted).2.2 p hp it (by simp)
    rcases B' p (bg _ hp) it (by simp) gi with h|h
    ·exact absurd h (ID ho K3 hi (bg _ hp))
    ·exact h
   obtain⟨d,δ,hE,hT⟩:=ht.front Lg
   obtain⟨o',K8,KH⟩:=ue it (by simp)
   have sg:∀ q∈pre++post,q∈pre++it::post:=fun q hq=>(da (du it post) pre).subset hq
   refine Ph hC hs K8 KH hE fun c' w' a' gw fm=>?_
   refine Ou hC he ho xL uo fuel (pre++post) _ c' w' _ _ a' (by simp at hl ⊢;omega) (by simpa using LQ ho K3 hi) gw hT (fun q hq=>ue q (sg q hq)) (fun p hp q hq=>B' p (sg p hp) q (sg q hq)) fun c2 w2 a2 mH qg=>?_
   rw[Oy]at qg
   exact hQ c2 w2 a2 mH (fm.trans qg (Nat.le_refl _))
end
end Go.AL
namespace Go.AL
open Go
abbrev room(k:Nat):U:=List.replicate k .kZ
section
variable{f:gd}{H:U}{r:Nat}
def Hj(v:Nat)(o:Ob)(ho:o≠.kZ):(H++room r)[v]? = some o↔H[v]? = some o:=by
 rcases a8 v H.length with h|h
 ·rw[ag h]
 ·rw[ao h,aQ h]
  constructor
  ·intro h1
   rw[eA]at h1
   split at h1
   ·cases h1;exact absurd rfl ho
   ·cases h1
  ·intro h1;cases h1
def MK(v:Nat):rowsOf (H++room r) v=rowsOf H v:=by
 unfold rowsOf
 cases h:H[v]? with
 | none=>
  cases h2:(H++room r)[v]? with
  | none=>rfl
  | some o=>
   cases o<;>first|rfl|skip
   rw[Hj v _ (by simp)]at h2
   rw[h]at h2;cases h2
 | some o=>
  have:(H++room r)[v]? = some o:=by
   rw[ag (af.1 h).1];exact h
  rw[this]
def wy(v g:Nat):rowAt (H++room r) v g=rowAt H v g:=by rw[wz,wz,MK]
def L4(v:Nat):lT (H++room r) v=lT H v:=by
 unfold lT
 cases h:H[v]? with
 | none=>
  cases h2:(H++room r)[v]? with
  | none=>rfl
  | some o=>
   cases o<;>first|rfl|skip
   rw[Hj v _ (by simp)]at h2
   rw[h]at h2;cases h2
 | some o=>
  have:(H++room r)[v]? = some o:=by
   rw[ag (af.1 h).1];exact h
  rw[this]
def M4(sz:Nat)(d:D):j' sz (H++room r) d=j' sz H d:=by
 cases d<;>first|rfl|skip
 simp only[j',wy]
def T9(n:Nat)(op:ij):fO f (H++room r) n op=fO f H n op:=by
 cases op<;>simp only[fO]<;>first|rfl|skip
 case ld1=>simp only[tl,wy]
 case ldN=>simp only[tm,wy]
 case st1=>simp only[yF,wy]
 case stN=>simp only[yG,wy]
 case lookup=>simp only[xZ,L4]
 case mapUpd=>simp only[wh,L4]
 case len=>simp only[oj,L4]
 case b2s=>simp only[y8,M4]
 case app=>simp only[pX,M4,wy]
 case copy=>simp only[vu,M4,wy]
 case slcArr=>simp only[wE,wy]
def C7(k:Nat)(d:D):gX (H++room r) k d=gX H k d∧e7 (fun _=>none) (H++room r) k d=e7 (fun _=>none) H k d:=
 C6 (H1:=H) (H2:=H++room r) k d fun v _=>(MK v).symm
def Hg(op:ij):fX f (H++room r) op=fX f H op:=by
 have key:∀ args:List D,args.map (gX (H++room r) 40)=args.map (gX H 40):=fun args=>au fun d _=>(C7 40 d).1
 cases op<;>first|rfl|skip
 case call g args=>simp only[fX,key]
 case callN g args=>simp only[fX,key]
 case callv g args=>simp only[fX,key]
 case len k x=>cases k<;>rfl
def S6{v g:Nat}{x:TypeId×List D}(h:rowAt H v g=some x):v<H.length:=(af.1 (Db h)).1
def aad{v:Nat}{x:KK×List (Value×D)}(h:lT H v=some x):v<H.length:=(af.1 (qH h)).1
def Safe(H:U):Dl→Prop
 | .no=>True
 | .cells v o xs=>∃ t g cs,H[v]? = some (.row t g cs)∧o+xs.length≤cs.length
 | .obj v _=>v<H.length
 | .new _=>True
def T'{op:ij}{n:Nat}{d:D}{δ:Dl}(h:fO f H n op=some (d,δ)):Safe H δ:=by
 have hl:∀ {o:Option D},lift o=some (d,δ)→Safe H δ:=fun h=>by rw[(lq h).2];trivial
 cases op<;>simp only[fO]at h<;>first|exact hl h|(cases h;done)|skip
 case box=>unfold qq at h;split at h<;>cases h;trivial
 case alloc=>cases h;trivial
 case mkmap=>cases h;trivial
 case buildSl=>
  unfold vh at h
  split at h
  ·split at h<;>cases h;trivial
  ·cases h
 case mksl=>
  unfold Aa at h
  split at h
  ·split at h<;>cases h;trivial
  ·cases h
 case st1=>
  unfold yF at h
  split at h
  ·split at h
   ·rename_i v g o _ t cs gH
    split at h
    ·rename_i hc;cases h;exact⟨_,_,_,Db gH,by simp;omega⟩
    ·cases h
   ·cases h
  ·cases h
 case stN=>
  unfold yG at h
  split at h
  ·split at h
   ·rename_i v g o xs _ _ t cs gH
    split at h
    ·rename_i hc;cases h;exact⟨_,_,_,Db gH,by simp;omega⟩
    ·cases h
   ·cases h
  ·cases h
 case mapUpd=>
  unfold wh at h
  split at h
  ·split at h
   ·rename_i hm
    split at h
    ·cases h;exact aad hm
    ·cases h
   ·cases h
  ·cases h
 case app=>
  unfold pX at h
  split at h
  ·split at h
   ·split at h
    ·rename_i gH
     split at h
     ·cases h;exact S6 gH
     ·cases h
    ·cases h
   ·split at h
    ·cases h;trivial
    ·cases h
   ·split at h
    ·cases h;trivial
    ·split at h
     ·cases h;trivial
     ·cases h
   ·cases h
  ·cases h
 case copy=>
  unfold vu at h
  split at h
  ·split at h
   ·rename_i gH
    split at h
    ·cases h;exact S6 gH
    ·cases h
   ·cases h
  ·cases h;trivial
  ·cases h
def Jr{δ:Dl}(hs:Safe H δ)(k:Nat)(hk:(δ.app H (Al.last H)).length≤k) :
  kI H.length δ (H++room (k-H.length))=δ.app H (Al.last H)++room (k-(δ.app H (Al.last H)).length)∧Fits H.length δ (H++room (k-H.length)):=by
 cases δ with
 | no=>exact⟨rfl,trivial⟩
 | cells v o xs=>
  obtain⟨t,g,cs,h1,h2⟩:=hs
  have gi:=(af.1 h1).1
  have h3:(H++room (k-H.length))[v]? = some (.row t g cs):=by rw[ag gi];exact h1
  refine⟨?_,t,g,cs,h3,h2⟩
  simp only[kI,Dl.app,h3,h1,b8]
  rw[List.set_append_left _ _ gi]
 | obj v ob=>
  refine⟨?_,trivial⟩
  simp only[kI,Dl.app,b8]
  rw[List.set_append_left _ _ hs]
 | new ob=>
  simp only[Dl.app,Al.last,az,aO,cO,aR]at hk ⊢
  have e:k-H.length=(k-(H.length+1))+1:=by omega
  refine⟨?_,?_⟩
  ·simp only[kI,Dl.app,Al.kZ]
   rw[e,room,bw,List.set_append_right _ _ (Nat.le_refl _)]
   simp[aZ]
  ·show(H++room (k-H.length))[H.length]? = some .kZ
   rw[e,ao (Nat.le_refl _)]
   simp[bw]
end
section
variable{G:GT}{c:Ctx}{w:World}{H:U}
def H8{r v:Nat}{L:Loc}:kR c (H++room r) v L↔kR c H v L:=by
 constructor
 ·rintro⟨o,ho,ha,e9⟩
  rw[Hj v o (by rintro rfl;cases ha)]at ho
  exact⟨o,ho,ha,e9⟩
 ·rintro⟨o,ho,ha,e9⟩
  exact⟨o,(Hj v o (by rintro rfl;cases ha)).2 ho,ha,e9⟩
def Mp{r b:Nat}:ly c (H++room r) b↔ly c H b:=by
 constructor
 ·rintro⟨v,L,hl,r⟩;exact⟨v,L,H8.1 hl,r⟩
 ·rintro⟨v,L,hl,r⟩;exact⟨v,L,H8.2 hl,r⟩
def S3(h:fr G c H w)(r:Nat):fr G c (H++room r) w where
 inj v v' L L' h1 h2:=h.inj v v' L L' (H8.1 h1) (H8.1 h2)
 lt b hb:=h.lt b (Mp.1 hb)
 nF b hb:=h.nF b (Mp.1 hb)
 jY:=h.jY
 out v k hv:=h.out v k (by simp at hv;omega)
 lC v o k ho hk:=by
  rcases a8 v H.length with hv|hv
  ·rw[ag hv]at ho;exact h.lC v o k ho hk
  ·exact h.out v k hv
 ob v o ho:=by
  rcases a8 v H.length with hv|hv
  ·rw[ag hv]at ho;exact h.ob v o ho
  ·rw[ao hv,eA]at ho
   split at ho
   ·cases ho
    simp only[gq]
    exact h.out v _ hv
   ·cases ho
 gl:=h.gl
 rt:=h.rt
def S4(r n:Nat):Step n c H w c (H++room r) w:=
 ⟨⟨rfl,Nat.le_refl _⟩,rfl,rfl,Nat.le_refl _,rfl,fun _ h=>h,fun _ h=>.inl h,fun _ _ _=>rfl,fun _ _ _ _ h=>h,fun _ h=>.inr (Mp.1 h)⟩
