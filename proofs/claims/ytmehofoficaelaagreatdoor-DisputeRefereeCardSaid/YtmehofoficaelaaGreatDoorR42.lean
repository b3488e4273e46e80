/- Part 42 of DisputeReferee. -/
import Derived.Test.YtmehofoficaelaaGreatDoorR41
set_option linter.all false
namespace Go.Proofs.YtmehofoficaelaaGreatDoor
open Go Go.AL Classical
set_option maxRecDepth 10000
set_option maxHeartbeats 16000000
attribute [-simp] rQ
def zp:Jd->D
 | .v a ls=>.tup [.agg [.i a,dN 1 f1 ls],.i 0]
 | .none=>.tup [.agg [.i 0,.fJ],.i 270]
 | .uj=>.tup [.agg [.i 0,.fJ],.i 180]
theorem abu(g:fH)(hg:gF g)(l:List Pos)(p:oR g l)(h0:0<l.length)(C:l.length<=1000){L:List Cw}{c:D}(n:c = .sl 36 (L.map gP)\/(L = []/\c = .fJ))
  (B:∀x∈L,x.ok) (A:∀x∈L,∀r∈x.c.es,r.2<=4000) (E:L.length<=100000) :
  Wf T 75 [dG g,gJ l,c] [] (Is (zp (lX (lQ g l (gd g l)) l.length (iY l.length) (cs L)))):=by
 have cn:=f52 g hg l p h0
 have f:closed c=true:=by
  rcases n with rfl|⟨rfl,rfl⟩
  .exact yh L
  .rfl
 have w:cellsOf c=some [c]:=by
  rcases n with rfl|⟨rfl,rfl⟩
  .rfl
  .rfl
 have k:=λH ck old (fG:jO H.length H) y=>abq g hg l p h0 C (H:=H) (ck:=ck) (old:=old) (n.elim .inl λh=>.inr (.inl h)) fG y B A E;obtain⟨J,q⟩:∃J,lX (lQ g l (gd g l)) l.length (iY l.length) (cs L)=J:=⟨_,rfl⟩;rw[q]at k ⊢;obtain⟨nx,s⟩:∃nx,gd g l=nx:=⟨_,rfl⟩;rw[s]at cn k;refine Yg Hx ?_;simp[Hx,f];refine fY.inl DI rfl rfl (by simp[DI]) rfl ?_;simp[DI,f];refine Yc (cn) ?_;simp[f,w];refine fY.w (by simp[f];rfl) ?_;refine fY.lW rfl rfl (k _ 2 .fJ (by simp[f]) (by simp[mZ])) ?_;rintro d H' hP;have h1:=hP.kp 1 (.row 89 0 [.i 0,.fJ]) (by simp) (by decide);have m:=mS h1;have j:∀o,(H'.set 1 o)[1]? = some o:=λo=>aY m
 have i:∀(o:Ob) (d:D),leave 0 0 (H'.set 1 o) d=(fL (λ_=>none) (H'.set 1 o) 40 d,[]):=λo d=>Wy λe=>by have:=congrArg List.length e;rw[aF]at this;simp at this;rw[this]at m;simp at m
 clear k q
 cases J with
 | v a ls=>
  obtain⟨x,rfl,z⟩:=hP.vd;rcases z with rfl|⟨w9,v,gn,rfl,b,_⟩
  .simp[h1,j,i,zp]
  .have u:v≠1:=λe=>by rw[e,h1]at b;simp at b
   have t:∀o,(H'.set 1 o)[v]? = some (.row 3 gn (cl f1 ls)):=λo=>by rw[bR (cF u)];exact b
   simp[h1,j,i,zp,t]
   cases ls with
   | nil=>exact absurd rfl w9
   | cons a r=>rfl
 | none=>
  have b:d=_:=hP.vd;subst b;simp[h1,j,i,zp]
 | uj=>
  have b:d=_:=hP.vd;subst b;simp[h1,j,i,zp]
end Go.Proofs.YtmehofoficaelaaGreatDoor
namespace Go.Proofs.YtmehofoficaelaaGreatDoor
open Go Go.AL Classical
theorem pd.kM{A:ny}{v:List fE}{i:Int}(a:A.ov i=true->1<=A.rs i/\A.rs i<=3)(h:pd A v i):kM (gt v i)=true:=by
 unfold Proofs.YtmehofoficaelaaGreatDoor.kM;rw[decide_eq_true_iff];rcases h with⟨o,e⟩|⟨_,⟨n,h1,e,_⟩|⟨n,h1,e,_⟩|⟨e,_⟩⟩
 .have:=a o;rw[e]
  by_cases b:A.rs i=2
  .exact .inl (by rw[b])
  .exact .inr ic
 .rw[e];exact .inr ⟨.inl rfl,by dsimp only;omega⟩
 .rw[e];exact .inr ⟨.inr rfl,by dsimp only;omega⟩
 .exact .inl e
theorem ad7(p:gp->Bool)(cl:List gp):(idx p cl).Pairwise (· < ·):=by rw[<-tJ];exact AX p cl _
theorem aek{A:ny}{n:Nat}{ad:gp->Bool}{cl:List gp}{a:Int}{ls:List Int}(h:lX A n ad cl = .v a ls):ls.Pairwise (· < ·)/\ls.length<=cl.length/\∀k∈ls,0<=k/\k<cl.length:=by
 have key:∀p,ls=idx p cl->ls.Pairwise (· < ·)/\ls.length<=cl.length/\∀k∈ls,0<=k/\k<cl.length:=λp e=>by subst e;refine⟨ad7 p cl,?_,λk b=>(C4.1 b).1⟩;have:=List.length_filter_le (λk=>p (gt cl k)) (upto cl.length);unfold idx;simpa[upto]using this
 unfold lX at h;split at h
 .cases h;exact key _ rfl
 split at h
 .cases h
 split at h
 .cases h;exact key _ rfl
 split at h
 .cases h
 .cases h;exact key _ rfl
theorem Pt{V:List fE}{c:gp}:AI V c=true↔J2 V (iY V.length) c:=by
 unfold AI J2;rw[Bool.and_eq_true,decide_eq_true_iff];refine and_congr_right λ_=>⟨λh i hi=>?_,λh i i0 a=>h i ?_⟩
 .unfold ie at hi;rw[decide_eq_true_iff]at hi;exact h i hi.1 hi.2
 .unfold ie;exact decide_eq_true ⟨i0,a⟩
theorem Sv{n:Int}{c:gp}(h:iY n c=true)(i:Int)(a:ie c i=true):0<=i/\i<n:=by unfold iY at h;rw[Bool.and_eq_true,decide_eq_true_iff]at h;have:=Rv h.1;unfold ie at a;rw[decide_eq_true_iff]at a;omega
noncomputable def pL(V:List fE):gp:=⟨0,0,V.length,V,ju V⟩
theorem Zh(V:List fE):AI V (pL V)=true:=by unfold AI iY snd pL;simp[iW]
structure Sl(A:ny)(n:Nat)(V:List fE):Prop where
 len:V.length=n
 gq:∀i:Int,0<=i->i<n->∀k∈gt A.nx i,0<=k/\k<n
 hV:∀i:Int,0<=i->i<n->pd A V i
 pT:∀i:Int,0<=i->i<n->kM (gt V i)=true
def adz(V:List fE)(L:List Cw):Jd->Prop
 | .none=>∀x∈L,AI V x.c=true
 | .uj=>False
 | .v a ls=>ls≠[]/\(-1<=a/\a<V.length)/\ls.Pairwise (· < ·)/\ls.length<=L.length/\∀k∈ls,(0<=k/\k<L.length)/\AI V (gt L k).c=false
theorem adA{A:ny}{n:Nat}{V:List fE}(h:Sl A n V){L:List Cw}(C:∃x∈L,x.c=pL V):adz V L (lX A n (iY n) (cs L)):=by
 obtain⟨w,y,H⟩:=C;have d:=h.len;subst d;have p:pL V∈cs L:=by rw[<-H];exact aq.2 ⟨w,y,rfl⟩
 have o:∀i:Int,0<=i->i<V.length->ie (pL V) i=true:=λi i0 b=>by unfold ie pL;exact decide_eq_true ⟨i0,b⟩
 have s:=Pt.1 (Zh V);have q:∀i:Int,0<=i->i<V.length->gt V i∈sd (cs L) i:=λi i0 b=>rA.2 ⟨_,p,o i i0 b,s.2 i (o i i0 b)⟩
 cases j:lX A V.length (iY V.length) (cs L)with
 | none=>
  obtain⟨h1,m⟩:=aej j;intro x z;have l:x.c∈cs L:=aq.2 ⟨x,z,rfl⟩;refine Pt.2 ⟨h1 _ l,λi hi=>?_⟩;have g:=Sv (h1 _ l) i hi;have t:=zM.1 (m i g.1 g.2).2;rw[t _ (rA.2 ⟨x.c,l,hi,rfl⟩),t _ (q i g.1 g.2)]
 | uj=>
  obtain⟨i,hi,e⟩:=aeg j;have:=q i hi.1 hi.2;rw[e]at this;cases this
 | v a ls=>
  obtain⟨h1,m,F⟩:=ael h.gq h.hV h.pT (λi i0 b=>⟨_,p,s,o i i0 b⟩) (λc B i hi=>Sv B i hi) j;obtain⟨E,I,D⟩:=aek j;have G:(cs L).length=L.length:=by unfold cs;rw[List.length_map]
  refine⟨h1,m,E,by omega,λk r=>?_⟩;have f:=D k r;rw[G]at f;refine⟨f,?_⟩;have u:=F k r;have hg:gt (cs L) k=(gt L k).c:=by rw[jc f.1 (by omega),jc f.1 f.2];unfold cs;rw[List.getElem_map]
  rw[hg]at u
  cases e:AI V (gt L k).c with
  | false=>rfl
  | true=>exact absurd (Pt.1 e) u
set_option maxRecDepth 10000
set_option maxHeartbeats 8000000
theorem abg(v:List fE)(d:v.length<=64):Wf T 28 [gY v] [] (Is (.agg (gP ⟨pL v,false⟩))):=by have c:=N5 (v:=v) (.inl rfl) d;have hl:=v8 v;rw[Cb];unfold pL;dsimp only;rw[Mu hl];obtain⟨r,a⟩:∃r,ju v=r:=⟨_,rfl⟩;rw[a]at c hl ⊢;clear a;have b:r.take 32=r:=af (by omega);refine Yg Ho ?_;simp[Ho];refine Yc (c) ?_;simp;refine fD ?_;simp[hl,b];rfl
theorem abf(v:List fE)(l:List B5)(K d a b c:Int)(hl:∀x∈l,x.ok)(p:0<v.length)(n:v.length<=64)(f:∀r∈v,r.2<=4000)(m:0<=K/\K<256)(k:0<=d/\d<256)
  (j:0<=a/\a<256) (i:0<=b/\b<256) (h:0<=c/\c<256) :
  Wf T 26 [gY v,.agg [.sl 5 (l.map f5),.val (.int .u8 K),.val (.int .u8 d),.val (.int .u8 a),.val (.int .u8 b),.val (.int .u8 c)]] [] (On v.length (decide (a % 8<6))):=by
 have e:fX (IntKind.i64.wrap K) 5=K % 5:=by rw[mO ic];exact jd m.1
 have rt:fX (IntKind.i64.wrap d) 6=d % 6:=by rw[mO ic];exact jd k.1
 have o:=abr v l (K % 5) (d % 6) a b c hl p n f (by omega) (by omega) j i h;refine Yg Hm ?_;simp[Hm,e,rt];refine ku e rt ?_;refine fY.on rfl rfl o (by simp) λL g hP=>?_;simp;exact⟨L,g,rfl,rfl,hP⟩
def LY:Jd->List D
 | .v a ls=>[.i a,dN 1 f1 ls,.i 0]
 | .none=>[.i 0,.fJ,.i 270]
 | .uj=>[.i 0,.fJ,.i 180]
theorem TU(g:fH)(hg:gF g)(l:List Pos)(d:oR g l)(h0:0<l.length)(h:l.length<=1000){L:List Cw}
  (f:∀x∈L,x.ok) (e:∀x∈L,∀r∈x.c.es,r.2<=4000) (i:L.length<=100000) :
  Wf T 30 [dG g,gJ l,.sl 36 (L.map gP)] [] (Is (.agg (LY (lX (lQ g l (gd g l)) l.length (iY l.length) (cs L))))):=by
 have c:=abu g hg l d h0 h (L:=L) (.inl rfl) f e i;obtain⟨J,b⟩:∃J,lX (lQ g l (gd g l)) l.length (iY l.length) (cs L)=J:=⟨_,rfl⟩;rw[b]at c ⊢;clear b
 cases J with
 | v a ls=>
  unfold zp at c;refine Yg xN ?_;simp[xN];refine Yc (c) ?_;simp;refine fD ?_;rfl
 | none=>
  unfold zp at c;refine Yg xN ?_;simp[xN];refine Yc (c) ?_;simp;refine fD ?_;rfl
 | uj=>
  unfold zp at c;refine Yg xN ?_;simp[xN];refine Yc (c) ?_;simp;refine fD ?_;rfl
theorem aci(g:fH)(hg:gF g)(p:Pos)(v:gT g p):Wf T 51 [dG g,dP p,.i 40] [] (Ey (λx:Bool×List Pos=>.agg [if x.1 then gJ x.2 else .fJ,.i (if x.1 then 0 else 2)]) (λx=>x.1=true->Hh g x.2/\x.2.length<=40)):=by
 have P:=v.small hg;refine Yz DS (jN 62 [6,7] (iB 34 [5] DS.body)) ?_;simp[DS,iB,jN,mw,mz,mH,lq];refine fO.fz [3,4] rfl ?_;refine fO.e (([p],[p]):List Pos×List Pos) (λy=>[(2,.i 40),(3,.ptr 0 0 0),(6,.ptr 2 0 0),(7,gJ y.1),(8,gJ y.2)]) (λy=>[.row 43 0 g.cells,.row 46 0 p.cells,.row 123 0 [.fJ,.i 0],.dead,.dead]) (λy=>J6 g p y.1 y.2/\y.1.length<=40) (λy=>(81-y.1.length)*2+(if y.2 = []then 0 else 1)) ?_ ?_
 .refine⟨⟨λi h1 s=>by simp at s;omega,by simpa using v,by simp,by simp,by simp,by simp,by simp⟩,by simp⟩
 rintro⟨c,last⟩ ⟨d,B⟩;have u:=d.len;have F:=d.aeC;dsimp only at d u F B ⊢;simp;refine jF ?_ ?_<;>intro h
 .refine fO.e ((0,0,[]):Int×Nat×List Pos) (λy=>[(2,.i 40),(3,.ptr 0 0 0),(6,.ptr 2 0 0),(7,gJ c),(8,gJ last),(9,.fy 5 y.2.1 5 0 y.2.2.length),(10,.i y.1)]) (λy=>[.row 43 0 g.cells,.row 46 0 p.cells,.row 123 0 [.fJ,.i 0],.dead,.dead,.row 46 y.2.1 (cl Pos.cells y.2.2)]) (λy=>0<=y.1/\y.1<=last.length/\(∀m,m∈y.2.2↔∃q∈last.take y.1.toNat,qd g q m)/\y.2.2.length<=y.1.toNat*4000000000) (λy=>last.length-y.1.toNat) ?_ ?_
  .simp
  rintro⟨i,K,nx⟩ ⟨i0,H,o,G⟩;dsimp only at i0 H o G ⊢;simp;refine jF ?_ ?_<;>intro h
  .have f:=d.ok _ (d.sub _ (fZ i0 ‹_›));have S:=y8 hg f;refine Yt (f60 g hg _ f) ?_;simp;refine fD ?_;refine LJ.e (i+1,K+1,nx++iz g (gt last i)) ?_;dsimp only;refine⟨by omega,by omega,by omega,λm=>?_,?_⟩
   .rw[List.mem_append,o,A3,iO i0 ‹_›];simp only[List.mem_append,List.mem_singleton];constructor
    .rintro(⟨q,a,b⟩|a)
     .exact⟨q,.inl a,b⟩
     .exact⟨_,.inr rfl,a⟩
    .rintro⟨q,a|rfl,b⟩
     .exact .inl ⟨q,a,b⟩
     .exact .inr b
   .rw[au,show(i+1).toNat=i.toNat+1 by omega,b7];omega
  .rw[kG (by omega)]at o
   have C:∀q∈nx,gT g q:=λq f=>by obtain⟨r,I,n⟩:=(o q).1 f;exact QB hg (d.ok r (d.sub r I)) n
   refine Yc (Ub nx (by omega) (λq f=>(C q f).small hg)) ?_;simp;have O:=MU nx;have E:=kr.nodup (Br nx);have t:∀q,q∈ka nx↔∃r∈last,qd g r q:=λq=>by rw[u9,o]
   have A:∀q∈ka nx,Small q:=λq f=>(C q (u9.1 f)).small hg;generalize hN:ka nx=N at *;refine fO.e ((0,0,[]):Int×Nat×List Pos) (λy=>[(2,.i 40),(3,.ptr 0 0 0),(6,.ptr 2 0 0),(7,gJ c),(8,.fy 6 y.2.1 5 0 y.2.2.length),(9,gJ N),(11,.i y.1)]) (λy=>[.row 43 0 g.cells,.row 46 0 p.cells,.row 123 0 [.fJ,.i 0],.dead,.dead,.dead,.row 46 y.2.1 (cl Pos.cells y.2.2)]) (λy=>0<=y.1/\y.1<=N.length/\(∀m,m∈y.2.2↔m∈N.take y.1.toNat/\m ∉ c)/\y.2.2.Nodup/\y.2.2.length<=y.1.toNat) (λy=>N.length-y.1.toNat) ?_ ?_
   .simp
   rintro⟨j,gm,l⟩ ⟨j0,j1,j2,j3,j4⟩;dsimp only at j0 j1 j2 j3 j4 ⊢;simp;refine jF ?_ ?_<;>intro h
   .refine Yc (f27 c (gt N j) (by omega) (λq f=>(d.ok q f).small hg) (A _ (fZ j0 ‹_›)) d.zm) ?_;simp
    have w:oW c (gt N j)<0↔gt N j ∉ c:=by
     by_cases n:gt N j∈c
     .have:=EM n;simp[n];omega
     .rw[Uk n];simp[n]
    refine jF ?_ ?_<;>intro h
    .refine LJ.e (j+1,gm+1,l ++ [gt N j]) ?_;dsimp only
     have D:gt N j ∉ l:=λn=>by have:=(j2 _).1 n;obtain⟨k,Q,e⟩:=dw.1 this.1;refine bA.1 E k j.toNat (by omega) (by omega) (by omega) ?_;rw[e,jc j0 ‹_›]
     refine⟨by omega,by omega,by omega,λm=>?_,c9.2 ⟨j3,by simp,λa J b z e=>?_⟩,by simp;omega⟩
     .rw[List.mem_append,j2,iO j0 ‹_›,List.mem_append,List.mem_singleton];constructor
      .rintro(⟨a,b⟩|rfl)
       .exact⟨.inl a,b⟩
       .exact⟨.inr rfl,w.1 h⟩
      .rintro⟨a|a,b⟩
       .exact .inl ⟨a,b⟩
       .exact .inr a
     .rw[List.mem_singleton]at z;subst z;subst e;exact D J
    .refine LJ.e (j+1,gm,l) ?_;dsimp only;refine⟨by omega,by omega,by omega,λm=>?_,j3,by omega⟩;rw[j2,iO j0 ‹_›,List.mem_append,List.mem_singleton];constructor
     .rintro⟨a,b⟩;exact⟨.inl a,b⟩
     .rintro⟨a|rfl,b⟩
      .exact⟨a,b⟩
      .exact absurd (w.2 b) h
   .rw[kG (by omega)]at j2;refine Yc (Ub (c++l) (by simp;omega) (λq f=>(List.mem_append.1 f).elim (λh=>(d.ok q h).small hg) λh=>A q ((j2 q).1 h).1)) ?_;simp;have L:=d.step hg (next:=N) (last':=l) (all':=ka (c++l)) t j2 j3 (Br _) (λq=>by rw[u9,List.mem_append]);refine jF ?_ ?_<;>intro h
    .exact Ey.i (false,[]) (by simp) rfl (λh=>by cases h)
    .obtain⟨h1,s,R⟩:=L (by omega);refine LJ.e (ka (c++l),l) ?_;dsimp only;refine⟨?_,h1,by simp at *;omega⟩;have M:last≠[]:=λe=>by subst e;simp at *
     rw[if_neg M]
     by_cases e:l = []
     .rw[if_pos e];omega
     .have:=s e;rw[if_neg e];have:=h1.len;omega
 .refine Ey.i (true,c) (by simp) rfl λ_=>⟨⟨d.zm,d.ok,λq f=>d.cl q f ?_,?_⟩,B⟩
  .have:last = []:=az.1 (by omega);rw[this];simp
  .have:=fe d.has;exact⟨this,u⟩
theorem ab8(x:pH)(c:Hf x):Wf T 13 [.agg x.cells,.i 40] [] (Ey (λy:fH×Pos×Bool×List Pos=>.agg (y.1.cells++(y.2.1.cells ++ [if y.2.2.1 then gJ y.2.2.2 else .fJ,.b y.2.2.1]))) λy=>gF y.1/\gT y.1 y.2.1/\(y.2.2.1=true->Hh y.1 y.2.2.2/\y.2.2.2.length<=40)):=by
 have hl:x.l.length=18:=c.len;have f:x.cells.length=31:=by simp[pH.cells,Raw.cells,c.len]
 have e:x.cells.take 31=x.cells:=af (by omega);refine Yg HW ?_;simp[HW,hl];refine⟨by omega,?_⟩;rw[e];refine fY.q rfl rfl (f32 x c) (by simpa using Te x) (λ_=>by simp) ?_;rintro⟨g,p⟩ ⟨hg,a⟩;dsimp only at hg a;simp;refine fY.q rfl rfl (aci g hg p a) (by simp) (λy=>by obtain⟨b,l⟩:=y;cases b<;>simp) ?_;intro y d;simp;obtain⟨b,l⟩:=y;cases b
 .simp;exact Ey.i (g,p,false,l) rfl rfl ⟨hg,a,λh=>by cases h⟩
 .simp;exact Ey.i (g,p,true,l) rfl rfl ⟨hg,a,d⟩
end Go.Proofs.YtmehofoficaelaaGreatDoor
namespace Go.Proofs.YtmehofoficaelaaGreatDoor
open Go Go.AL Classical
set_option maxRecDepth 10000
set_option maxHeartbeats 4000000
section
variable{g:fH}{l:List Pos}
theorem Uq(hg:gF g)(a:oR g l):wx g l (gd g l) (upto l.length) 1:=
 ⟨hg,a.ok,a.len,by simp[gd],λi i0 b=>⟨(qw a i0 b).2,by rw[(qw a i0 b).1,List.length_map];have:=y8 hg (a.ok _ (fZ i0 b));omega⟩,λi hi=>jj.1 hi,
  List.pairwise_map.2 (List.nodup_range.imp λh e=>h (Int.ofNat.inj e)),by simp[upto];exact a.len,by omega⟩
theorem FI.congr{v0 v v':List fE}{b x:List Bool}{n:Int}(F:oR g l)(h:FI g l (gd g l) (upto l.length) v0 n v b)(E:v'.length=l.length)(G:x.length=l.length)
  (u:∀k:Int,0<=k->k<l.length->gt x k=gt b k) (z:∀k:Int,0<=k->k<l.length->gt b k=false->gt v' k=gt v k):FI g l (gd g l) (upto l.length) v0 n v' x:=by
 have gq:=λ(i:Int) (hi:i∈upto l.length)=>(qw F (jj.1 hi).1 (jj.1 hi).2).2;have t:=λ(i:Int) (hi:i∈upto l.length) k d=>u k (gq i hi k d).1 (gq i hi k d).2;have p:=λ(i:Int) (hi:i∈upto l.length) k d=>z k (gq i hi k d).1 (gq i hi k d).2;refine⟨E,G,λk k0 k1 d=>absurd (jj.2 ⟨k0,k1⟩) d,λi hi e=>?_,λi hi e n0=>?_⟩
 .have r:=jj.1 hi;rw[u i r.1 r.2]at e;obtain⟨a,c⟩:=h.dec i hi e;rw[z i r.1 r.2 e];refine⟨a,?_⟩;rcases c with c|⟨A,⟨m,m1,c2,⟨k,d,s,w⟩,J⟩|⟨m,m1,c2,s,k,d,w⟩⟩
  .exact .inl c
  .refine .inr ⟨A,.inl ⟨m,m1,c2,⟨k,d,by rw[t i hi k d];exact s,by rw[p i hi k d s];exact w⟩,λq j f o=>?_⟩⟩;rw[t i hi q j]at f;rw[p i hi q j f]at o ⊢;exact J q j f o
  .refine .inr ⟨A,.inr ⟨m,m1,c2,λq j=>?_,k,d,by rw[p i hi k d (s k d).1];exact w⟩⟩;rw[t i hi q j,p i hi q j (s q j).1];exact s q j
 .have r:=jj.1 hi;rw[u i r.1 r.2]at e;obtain⟨D,C,B⟩:=h.Bc i hi e n0;refine⟨D,λk d f o=>?_,λI H=>?_⟩
  .rw[t i hi k d]at f;rw[p i hi k d f]at o ⊢;exact C k d f o
  .have y:∀k∈gt (gd g l) i,gt b k=false/\(gt v k).1=1:=λk d=>by obtain⟨f,o⟩:=H k d;rw[t i hi k d]at f;rw[p i hi k d f]at o;exact⟨f,o⟩
   obtain⟨k,d,h1⟩:=B I y;exact⟨k,d,by rw[p i hi k d (y k d).1];exact h1⟩
structure KI(g:fH)(l:List Pos)(n:Int)(v:List Kn):Prop where
 len:v.length=l.length
 fi:FI g l (gd g l) (upto l.length) [] n (kV v) (kB v)
theorem V'(v:List Kn):(kV v).length=v.length:=by simp[kV]
theorem V9(v:List Kn):(kB v).length=v.length:=by simp[kB]
theorem KI.start(h:oR g l):KI g l 1 (l.map (rS g)):=by
 have hl:(l.map (rS g)).length=l.length:=by simp
 have f:∀k:Int,0<=k->k<l.length->gt (l.map (rS g)) k=rS g (gt l k):=λk k0 k1=>by rw[jc k0 (by rw[hl];exact k1),jc k0 k1,List.getElem_map]
 have hV:∀k:Int,0<=k->k<l.length->gt (kV (l.map (rS g))) k=((stat g (gt l k)).1,0):=λk k0 k1=>by rw[Aa k0 (by rw[hl];exact k1),f k k0 k1];rfl
 have d:∀k:Int,0<=k->k<l.length->gt (kB (l.map (rS g))) k = !(stat g (gt l k)).2:=λk k0 k1=>by rw[vD k0 (by rw[hl];exact k1),f k k0 k1];rfl
 have gq:=λ(i:Int) (hi:i∈upto l.length)=>(qw h (jj.1 hi).1 (jj.1 hi).2).2;refine⟨hl,by rw[V',hl],by rw[V9,hl],λk k0 k1 b=>absurd (jj.2 ⟨k0,k1⟩) b,λi hi e=>?_,λi hi e _=>?_⟩
 .have a:=jj.1 hi;rw[d i a.1 a.2]at e;rw[hV i a.1 a.2];exact⟨by simp,.inl ⟨by simpa using e,rfl⟩⟩
 .have a:=jj.1 hi;rw[d i a.1 a.2]at e;refine⟨by simpa using e,λk b _ _=>by rw[hV k (gq i hi k b).1 (gq i hi k b).2];simp,λj _=>?_⟩;have m:=av.2 j;have c:=fZ (l:=gt (gd g l) i) (n:=0) (by omega) (by omega);exact⟨_,c,by rw[hV _ (gq i hi _ c).1 (gq i hi _ c).2];simp⟩
theorem KI.nn{n:Int}{v:List Kn}(h:KI g l n v){k:Int}(k0:0<=k)(k1:k<l.length)(e:(gt v k).2.2=true):0<=(gt v k).2.1:=by
 have k2:k<v.length:=by rw[h.len];exact k1
 have:=(h.fi.dec k (jj.2 ⟨k0,k1⟩) (by rw[vD k0 k2,e];rfl)).1.1;rwa [Aa k0 k2]at this
theorem KI.ne{n:Int}{v:List Kn}(b:oR g l)(h:KI g l n v)(n0:0<n){k:Int}(k0:0<=k)(k1:k<l.length)(e:(gt v k).2.2=false):gt (gd g l) k≠[]:=λa=>by
 have k2:k<v.length:=by rw[h.len];exact k1
 have:=(h.fi.Bc k (jj.2 ⟨k0,k1⟩) (by rw[vD k0 k2,e];rfl) n0).1;rw[(qw b k0 k1).1,List.map_eq_nil_iff]at a;unfold stat at this;simp[a]at this
theorem KI.step(hg:gF g)(m:oR g l){n:Int}{v now:List Kn}(h:KI g l n v)(n1:1<=n)(hl:now.length=l.length)
  (q:∀k:Int,0<=k->k<l.length->gt now k=if (gt v k).2.2=false then oT v (gt (gd g l) k) n else gt v k):KI g l (n+1) now:=by
 have o:=Uq hg m;have s:=h.fi.vl;have p:=h.fi.bl;have hs:=h.fi.step (v0:=[]) o (λk k0 k1=>(Int.le_refl 0:0<=(gt ([]:List fE) k).2)) (by omega:0<=n)
 have d:∀k:Int,0<=k->k<l.length->(k∈rm g l (gd g l) (upto l.length) (kV v) (kB v) n↔(gt v k).2.2=false/\(ot g (gt l k) (kV v) (kB v) (gt (gd g l) k) n).2=true):=λk k0 k1=>by
  have k2:k<v.length:=by rw[h.len];exact k1
  unfold rm QG;rw[aO,Bool.and_eq_true,vD k0 k2,jj];simp only[eM];exact⟨λa=>⟨a.2.2,a.2.1⟩,λa=>⟨⟨k0,k1⟩,a.2,a.1⟩⟩
 have j:∀k:Int,0<=k->k<l.length->(gt v k).2.2=false->((ot g (gt l k) (kV v) (kB v) (gt (gd g l) k) n).2=true->oT v (gt (gd g l) k) n=((ot g (gt l k) (kV v) (kB v) (gt (gd g l) k) n).1.1,(ot g (gt l k) (kV v) (kB v) (gt (gd g l) k) n).1.2,true))/\((ot g (gt l k) (kV v) (kB v) (gt (gd g l) k) n).2=false->oT v (gt (gd g l) k) n=(0,0,false)):=λk k0 k1 e=>by
  have r:=av.2 (h.ne m (by omega) k0 k1 e);unfold ot oT;rw[if_neg (by omega)]
  by_cases i:A0 (kV v) (kB v) (gt (gd g l) k) n
  .rw[if_pos i,if_pos i];exact⟨λ_=>rfl,λe=>by cases e⟩
  .rw[if_neg i,if_neg i];simp only[decide_eq_true_eq,decide_eq_false_iff_not];exact⟨λa=>by rw[if_pos ⟨a.2.1,a.2.2⟩],λa=>by rw[if_neg λb=>a ⟨r,b⟩]⟩
 refine⟨hl,hs.congr m (by rw[V',hl]) (by rw[V9,hl]) (λk k0 k1=>?_) λk k0 k1 e=>?_⟩
 .have k2:k<now.length:=by rw[hl];exact k1
  have k3:k<v.length:=by rw[h.len];exact k1
  rw[vD k0 k2,Oy o p k0 k1,q k k0 k1,vD k0 k3]
  by_cases e:(gt v k).2.2=false
  .rw[if_pos e]
   by_cases c:(ot g (gt l k) (kV v) (kB v) (gt (gd g l) k) n).2=true
   .rw[(j k k0 k1 e).1 c,if_pos ((d k k0 k1).2 ⟨e,c⟩)];rfl
   .rw[(j k k0 k1 e).2 (by simpa using c),if_neg λa=>c ((d k k0 k1).1 a).2,e]
  .rw[if_neg e,if_neg λa=>e ((d k k0 k1).1 a).1]
 .have k2:k<now.length:=by rw[hl];exact k1
  have k3:k<v.length:=by rw[h.len];exact k1
  rw[Oy o p k0 k1,vD k0 k3]at e;rw[Aa k0 k2,UH o s p k0 k1,q k k0 k1,Aa k0 k3]
  by_cases f:(gt v k).2.2=false
  .rw[if_pos f]
   by_cases c:(ot g (gt l k) (kV v) (kB v) (gt (gd g l) k) n).2=true
   .rw[(j k k0 k1 f).1 c,if_pos ((d k k0 k1).2 ⟨f,c⟩)];rfl
   .rw[if_neg λa=>c ((d k k0 k1).1 a).2,f]at e;cases e
  .rw[if_neg f,if_neg λa=>f ((d k k0 k1).1 a).1]
theorem KI.done(hg:gF g)(q:oR g l){v:List Kn}(h:KI g l (l.length+1) v){out:List fE}(hl:out.length=l.length)
  (r:∀k:Int,0<=k->k<l.length->gt out k=if (gt v k).2.2=true then((gt v k).1,(gt v k).2.1)else(2,0)):∀k:Int,0<=k->k<l.length->pd (lQ g l (gd g l)) out k:=by
 have o:=Uq hg q;have gq:=λ(i:Int) (hi:i∈upto l.length)=>(qw q (jj.1 hi).1 (jj.1 hi).2).2
 have t:=SU (n:=l.length) (N:=λi=>(gt (kV v) i).2) (K:=λi=>i∈upto l.length/\gt (kB v) i=false) (λi hi=>⟨jj.1 hi.1,(h.fi.dec i hi.1 hi.2).1.1⟩) (λi hi=>by
  rcases(h.fi.dec i hi.1 hi.2).2 with⟨_,c⟩|⟨_,⟨m,m1,c2,⟨k,b,j,f⟩,_⟩|⟨m,m1,c2,j,k,b,f⟩⟩
  .left;show(gt (kV v) i).2=0;rw[c]
  .right;exact⟨k,⟨jj.2 (gq i hi.1 k b),j⟩,by show(gt (kV v) k).2=(gt (kV v) i).2-1;rw[c2,f]⟩
  .right;exact⟨k,⟨jj.2 (gq i hi.1 k b),(j k b).1⟩,by show(gt (kV v) k).2=(gt (kV v) i).2-1;rw[c2,f]⟩)
 have s:=acx o (by omega) h.fi (λk k0 k1 e _=>by have:=t k ⟨jj.2 ⟨k0,k1⟩,e⟩;omega);obtain⟨_,f2⟩:=Ug o h.fi.vl h.fi.bl
 have p:∀k:Int,0<=k->k<l.length->gt out k=gt (vB (upto l.length) (kV v) (kB v)).1 k:=λk k0 k1=>by
  have k2:k<v.length:=by rw[h.len];exact k1
  rw[r k k0 k1,(f2 k k0 k1).1,vD k0 k2,Aa k0 k2]
  by_cases e:(gt v k).2.2=true
  .rw[if_pos e,if_neg λa=>by rw[e]at a;exact absurd a.2 (by simp)]
  .rw[if_neg e,if_pos ⟨jj.2 ⟨k0,k1⟩,by simpa using e⟩]
 exactλi i0 d=>(s i (jj.2 ⟨i0,d⟩)).congr (p i i0 d) λk b=>p k (gq i (jj.2 ⟨i0,d⟩) k b).1 (gq i (jj.2 ⟨i0,d⟩) k b).2
end
end Go.Proofs.YtmehofoficaelaaGreatDoor
namespace Go.Proofs.YtmehofoficaelaaGreatDoor
open Go Go.AL Classical
set_option maxRecDepth 10000
set_option maxHeartbeats 4000000
theorem acV{α:Type}[Inhabited α]{l:List α}{x:α}{n:Int}(h:n.toNat=l.length):gt (l ++ [x]) n=x:=by unfold gt;rw[List.getD_eq_getElem?_getD,ai (by omega),h,bS];rfl
theorem acj(g:fH)(hg:gF g)(l:List Pos)(hl:oR g l)(O:0<l.length):Wf T 71 [dG g,gJ l,.sl 1 ((gd g l).map fI)] [] (Ey gY λr=>r.length=l.length/\∀k:Int,0<=k->k<l.length->pd (lQ g l (gd g l)) r k):=by
 have B:=hl.len;have N:(gd g l).length=l.length:=by simp[gd]
 refine Yg Jz ?_;simp[Jz];refine Yn (aco g hg l hl) ?_;simp;have P:(l.map (rS g)).length=l.length:=by simp
 have M:=KI.start hl;generalize Q:l.map (rS g)=v0 at *;refine fO.e ((1,true,l.length,v0):Int×Bool×Nat×List Kn) (λy=>[(1,gJ l),(2,.sl 1 ((gd g l).map fI)),(7,.fy (if y.2.1 then 1 else 2) y.2.2.1 3 0 l.length),(8,.i y.1)]) (λy=>.row 43 0 g.cells :: .row 245 l.length (cl fK v0)::(if y.2.1 then []else [.row 245 y.2.2.1 (cl fK y.2.2.2)])) (λy=>1<=y.1/\y.1<=l.length+1/\KI g l y.1 y.2.2.2/\(y.2.1=true->y.2.2.1=l.length/\y.2.2.2=v0/\y.1=1)) (λy=>l.length+1-y.1.toNat) ?_ ?_
 .exact⟨by simp,by simp;omega,M,λ_=>⟨rfl,rfl,rfl⟩⟩
 rintro⟨n,b,p,v⟩ ⟨n0,n1,m,A⟩;dsimp only at n0 n1 m A ⊢;have n2:=m.len
 have H:∀i:Int,0<=i->i<l.length->∀k∈gt (gd g l) i,0<=k/\k<v.length:=λi a c k o=>by have:=(qw hl a c).2 k o;omega
 have E:∀i:Int,0<=i->i<l.length->(gt (gd g l) i).length<2 ^ 40:=λi a c=>by rw[(qw hl a c).1,List.length_map];have:=y8 hg (hl.ok _ (fZ a c));omega
 have u:∀i:Int,0<=i->i<l.length->∀k∈gt (gd g l) i,(gt v k).2.2=true->0<=(gt v k).2.1:=λi a c k o e=>m.nn ((qw hl a c).2 k o).1 ((qw hl a c).2 k o).2 e;have F:∀i:Int,0<=i->i<l.length->(gt v i).2.2=false->0<(gt (gd g l) i).length:=λi a c e=>av.2 (m.ne hl (by omega) a c e);cases b
 .simp;refine jF ?_ ?_<;>intro h
  .refine fO.e ((0,v):Int×List Kn) (λy=>[(1,gJ l),(2,.sl 1 ((gd g l).map fI)),(7,.fy 2 p 3 0 l.length),(8,.i n),(9,.fy 3 1 3 0 l.length),(10,.i y.1)]) (λy=>[.row 43 0 g.cells,.row 245 l.length (cl fK v0),.row 245 p (cl fK v),.row 245 1 (cl fK y.2)]) (λy=>0<=y.1/\y.1<=l.length/\y.2.length=l.length/\∀k:Int,0<=k->k<l.length->gt y.2 k=if k<y.1/\(gt v k).2.2=false then oT v (gt (gd g l) k) n else gt v k) (λy=>l.length-y.1.toNat) ?_ ?_
   .exact⟨by simp,by simp,n2,λk k0 k1=>by rw[if_neg (by dsimp only;omega)]⟩
   rintro⟨j,now⟩ ⟨j0,j1,j2,j3⟩;dsimp only at j0 j1 j2 j3 ⊢;simp;(with_reducible repeat' first|refine Xk ?_<;>try simp|refine Xs ?_ ?_<;>intro h<;>(try intro C)<;>(try simp[h])<;>try omega|refine Xg ?_|omega)
   .refine LJ.e (j+1,now) ?_;refine gx ⟨j2,λk k0 k1=>?_⟩;dsimp only;rw[j3 k k0 k1]
    by_cases e:k=j
    .subst e;rw[if_neg (by omega),if_neg (by simp[*])]
    .simp only[show k<j+1↔k<j by omega]
   .refine fY.r rfl rfl (Uc v _ n (by omega) (F j j0 ‹_› ‹_›) (E j j0 ‹_›) (H j j0 ‹_›) (u j j0 ‹_›)) (by simp[n2]) (by simp[flat,tB]) (by simp) ?_;simp;refine fD ?_;have d:=Kr (f:=fK) now j (by omega) (oT v (gt (gd g l) j) n);rw[Cc]at d;refine LJ.i (j+1,pt now j (oT v (gt (gd g l) j) n)) (by first|rfl|simp[<-d]) (by first|rfl|simp[<-d]) rfl rfl ?_;have L:=iq (l:=now) (n:=j) (v:=oT v (gt (gd g l) j) n) j0 (by omega);refine zb (λk k0 k1=>?_);dsimp only;rw[oz j0 (by omega) k0,j3 k k0 k1]
    by_cases e:k=j
    .subst e;rw[if_pos rfl,if_pos ⟨by omega,‹_›⟩]
    .rw[if_neg e];simp only[show k<j+1↔k<j by omega]
   .refine LJ.e (n+1,false,1,now) ?_;refine gx ⟨?_,λh=>by cases h⟩;refine m.step hg hl n0 j2 λk k0 k1=>?_;rw[j3 k k0 k1];simp only[show k<j by omega,true_and]
  .have t:n=l.length+1:=by omega
   subst t;refine fO.e ((0,v,[]):Int×List Kn×List fE) (λy=>[(1,gJ l),(7,.fy 2 p 3 0 l.length),(11,.fy 3 y.2.2.length 2 0 y.2.2.length),(12,.i y.1)]) (λy=>[.row 43 0 g.cells,.row 245 l.length (cl fK v0),.row 245 p (cl fK y.2.1),.row 86 y.2.2.length (cl fS y.2.2)]) (λy=>0<=y.1/\y.1<=l.length/\y.2.1.length=l.length/\y.2.2.length=y.1.toNat/\(∀k:Int,0<=k->k<y.1->gt y.2.2 k=if (gt v k).2.2=true then((gt v k).1,(gt v k).2.1)else(2,0))/\(∀k:Int,y.1<=k->k<l.length->gt y.2.1 k=gt v k)) (λy=>l.length-y.1.toNat) ?_ ?_
   .exact⟨by simp,by simp,n2,by simp,λk k0 k1=>by dsimp only at k1;omega,λk k0 k1=>rfl⟩
   rintro⟨j,w,out⟩ ⟨j0,j1,j2,j3,j4,j5⟩;dsimp only at j0 j1 j2 j3 j4 j5 ⊢
   by_cases s:j<l.length
   .have d:=Z7 (l:=w) (n:=j) (by omega) 2 0;have D:∀v,(pt w j v).length=w.length:=λv=>iq j0 (by omega);have K:∀v,gt (pt w j v) j=v:=λv=>Cg j0 (by omega);have G:=j5 j (by omega) s
    have z:∀(x:fE),((gt v j).2.2=true->x=((gt v j).1,(gt v j).2.1))->((gt v j).2.2=false->x=(2,0))->∀k:Int,0<=k->k<j+1->gt (out ++ [x]) k=if (gt v k).2.2=true then((gt v k).1,(gt v k).2.1)else(2,0):=λx J I k k0 k1=>by
     by_cases e:k=j
     .subst e;rw[acV (by omega)]
      by_cases q:(gt v k).2.2=true
      .rw[if_pos q];exact J q
      .rw[if_neg q];exact I (by simpa using q)
     .rw[acU (by omega) (by omega)];exact j4 k k0 (by omega)
    simp[s,d];refine Zc d D K ?_ ?_<;>intro h
    .refine LJ.e (j+1,w,out ++ [((gt w j).1,(gt w j).2.1)]) ?_;rw[G]at *;refine⟨by dsimp only;omega,by dsimp only;omega,by dsimp only;omega,by dsimp only;omega,by simp;omega,z _ (λ_=>rfl) (λe=>by simp[*]at e),λk k0 k1=>j5 k (by dsimp only at k0;omega) k1⟩
    .refine LJ.e (j+1,pt w j (2,0,false),out ++ [(2,0)]) ?_;rw[G]at *;refine⟨by dsimp only;omega,by dsimp only;omega,by dsimp only;omega,by dsimp only;rw[D];omega,by simp;omega,z _ (λe=>by simp[*]at e) (λ_=>rfl),λk k0 k1=>?_⟩;dsimp only at k0 ⊢;rw[oz j0 (by omega) (by omega),if_neg (by omega)];exact j5 k (by omega) k1
   .simp[s];exact Ey.i out rfl rfl ⟨by omega,m.done hg hl (by omega) λk k0 k1=>j4 k k0 (by omega)⟩
 .obtain⟨rfl,rfl,rfl⟩:=A rfl;simp;(with_reducible repeat' first|refine Xk ?_<;>try simp|refine Xs ?_ ?_<;>intro h<;>(try intro C)<;>(try simp[h])<;>try omega|refine Xg ?_|omega)
  .refine fO.e ((0,v):Int×List Kn) (λy=>[(1,gJ l),(2,.sl 1 ((gd g l).map fI)),(7,.fy 1 l.length 3 0 l.length),(8,.i 1),(9,.fy 2 1 3 0 l.length),(10,.i y.1)]) (λy=>[.row 43 0 g.cells,.row 245 l.length (cl fK v),.row 245 1 (cl fK y.2)]) (λy=>0<=y.1/\y.1<=l.length/\y.2.length=l.length/\∀k:Int,0<=k->k<l.length->gt y.2 k=if k<y.1/\(gt v k).2.2=false then oT v (gt (gd g l) k) 1 else gt v k) (λy=>l.length-y.1.toNat) ?_ ?_
   .exact⟨by simp,by simp,n2,λk k0 k1=>by rw[if_neg (by dsimp only;omega)]⟩
   rintro⟨j,now⟩ ⟨j0,j1,j2,j3⟩;dsimp only at j0 j1 j2 j3 ⊢;simp;(with_reducible repeat' first|refine Xk ?_<;>try simp|refine Xs ?_ ?_<;>intro h<;>(try intro C)<;>(try simp[h])<;>try omega|refine Xg ?_|omega)
   .refine LJ.e (j+1,now) ?_;refine gx ⟨j2,λk k0 k1=>?_⟩;dsimp only;rw[j3 k k0 k1]
    by_cases e:k=j
    .subst e;rw[if_neg (by omega),if_neg (by simp[*])]
    .simp only[show k<j+1↔k<j by omega]
   .refine fY.r rfl rfl (Uc v _ 1 (by omega) (F j j0 ‹_› ‹_›) (E j j0 ‹_›) (H j j0 ‹_›) (u j j0 ‹_›)) (by simp[n2]) (by simp[flat,tB]) (by simp) ?_;simp;refine fD ?_;have d:=Kr (f:=fK) now j (by omega) (oT v (gt (gd g l) j) 1);rw[Cc]at d;refine LJ.i (j+1,pt now j (oT v (gt (gd g l) j) 1)) (by first|rfl|simp[<-d]) (by first|rfl|simp[<-d]) rfl rfl ?_;have L:=iq (l:=now) (n:=j) (v:=oT v (gt (gd g l) j) 1) j0 (by omega);refine zb (λk k0 k1=>?_);dsimp only;rw[oz j0 (by omega) k0,j3 k k0 k1]
    by_cases e:k=j
    .subst e;rw[if_pos rfl,if_pos ⟨by omega,‹_›⟩]
    .rw[if_neg e];simp only[show k<j+1↔k<j by omega]
   .refine LJ.e (1+1,false,1,now) ?_;refine gx ⟨?_,λh=>by cases h⟩;refine m.step hg hl (by omega) j2 λk k0 k1=>?_;rw[j3 k k0 k1];simp only[show k<j by omega,true_and]
theorem aca(g:fH)(hg:gF g)(l:List Pos)(hl:oR g l)(b:0<l.length):Wf T 25 [dG g,gJ l] [] (Ey (λx:List fE×List Int=>.agg [gY x.1,dI x.2,.i 0]) λx=>x.1.length=l.length/\∀k:Int,0<=k->k<l.length->pd (lQ g l (gd g l)) x.1 k):=by refine Yg Iw ?_;simp[Iw];refine Yc (f37 g hg l hl) ?_;simp;refine Yq (acj g hg l hl b) λv a=>?_;simp;refine Yq (f39 g hg l hl v a.1) λf c=>?_;simp;exact Ey.i (v,f) rfl rfl a
