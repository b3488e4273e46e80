/- Part 16 of DisputeLocal. -/
import Derived.Test.YtmehofoficaelaaGreatDoorL15
set_option linter.all false
namespace Go.Proofs.YtmehofoficaelaaGreatDoor
open Go Go.AL Classical
set_option maxRecDepth 10000
set_option maxHeartbeats 1000000
def Pa{g:eY}{p:Pos}(h:¬ ended g p){r:List Pos}(hs:kc r)(hm:∀ q,q∈r↔pa g p q):gA r=qJ g p:=by
 unfold qJ;rw[if_neg h,Mj hs hm]
def f60(g:eY)(hg:gh g)(p:Pos)(hp:gG g p):Wf T 85 [dG g,dP p] [] (Is (qJ g p)):=by
 refine Yz AX (iu 66 [2] AX.body) ?_
 simp[AX,iu,jJ,mj,mn,mG,ln]
 refine Yc (f106 g hg p hp) ?_
 simp
 (with_reducible repeat' first|refine Xk ?_<;>try simp|refine Xs ?_ ?_<;>intro h<;>(try intro h')<;>(try simp[h])<;>try omega|refine Xg ?_|omega)
 ·unfold qJ;rw[if_pos (G0.1 ‹_›)]
 have gE:¬ ended g p:=fun h2=>h (G0.2 h2)
 refine Yq (f107 g hg p hp) fun l hl=>?_
 simp
 have iZ:=hl.2
 refine fh.e ((0,false):Int×Bool) (fun y=>[(2,.ptr 0 0 0),(3,.ptr 1 0 0),(5,mD l),(6,.eX 2 0 5 0 0),(7,.b y.2),(8,.i y.1)]) (fun y=>[.row 43 0 g.cells,.row 46 0 p.cells,.row 46 0 []]) (fun y=>0≤y.1∧y.1≤l.length∧(y.2=true↔g.om=true∧∃ o∈l.take y.1.toNat,o.jb=true)) (fun y=>l.length-y.1.toNat) ?_ ?_
 ·simp
 rintro⟨i,om⟩ ⟨h0,h1,h2⟩
 dsimp only at h0 h1 h2 ⊢
 by_cases s8:i<l.length
 ·have e:∀ o,o∈l.take (i+1).toNat↔o∈l.take i.toNat∨o=gt l i:=fun o=>by rw[iD h0 s8,List.mem_append,List.mem_singleton]
  cases nf:g.om<;>cases om<;>simp[nf,s8]
  ·(with_reducible repeat' first|refine Xk ?_<;>try simp|refine Xs ?_ ?_<;>intro h<;>(try intro h')<;>(try simp[h])<;>try omega|refine Xg ?_|omega)
   refine LJ.i (i+1,false) (by first|rfl|simp[nf]) (by first|rfl|simp[nf]) rfl rfl ?_
   dsimp only
   exact fQ (by simp[nf])
  ·simp[nf]at h2
  ·(with_reducible repeat' first|refine Xk ?_<;>try simp|refine Xs ?_ ?_<;>intro h<;>(try intro h')<;>(try simp[h])<;>try omega|refine Xg ?_|omega)
   refine LJ.i (i+1,(gt l i).jb) (by first|rfl|simp[nf]) (by first|rfl|simp[nf]) rfl rfl ?_
   dsimp only
   refine fQ ?_
   simp[nf]at h2 ⊢
   constructor
   ·intro h;exact⟨_,(e _).2 (.inr rfl),h⟩
   ·rintro⟨o,ho,h⟩
    rcases(e o).1 ho with ho|ho
    ·exact absurd h (by simpa using h2 o ho)
    ·rw[← ho];exact h
  ·(with_reducible repeat' first|refine Xk ?_<;>try simp|refine Xs ?_ ?_<;>intro h<;>(try intro h')<;>(try simp[h])<;>try omega|refine Xg ?_|omega)
   refine LJ.i (i+1,true) (by first|rfl|simp[nf]) (by first|rfl|simp[nf]) rfl rfl ?_
   dsimp only
   refine fQ ?_
   simp[nf]at h2 ⊢
   obtain⟨o,ho,h⟩:=h2
   exact⟨o,(e o).2 (.inl ho),h⟩
 ·simp[s8]
  rw[ky (by omega)]at h2
  refine fh.e ((0,0,[]):Int×Nat×List Pos) (fun y=>[(2,.ptr 0 0 0),(3,.ptr 1 0 0),(5,mD l),(6,.eX 2 y.2.1 5 0 y.2.2.length),(7,.b om),(9,.i y.1)]) (fun y=>[.row 43 0 g.cells,.row 46 0 p.cells,.row 46 y.2.1 (cl Pos.cells y.2.2)]) (fun y=>0≤y.1∧y.1≤l.length∧(∀ q,q∈y.2.2↔∃ o∈l.take y.1.toNat,(om=true→o.jb=true)∧o.p=q)∧y.2.2.length≤y.1.toNat) (fun y=>l.length-y.1.toNat) ?_ ?_
  ·simp
  rintro⟨j,gn,out⟩ ⟨j0,j1,j2,j3⟩
  dsimp only at j0 j1 j2 j3 ⊢
  by_cases mP:j<l.length
  ·have e:∀ o,o∈l.take (j+1).toNat↔o∈l.take j.toNat∨o=gt l j:=fun o=>by rw[iD j0 mP,List.mem_append,List.mem_singleton]
   simp[mP]
   cases om<;>simp
   ·(with_reducible repeat' first|refine Xk ?_<;>try simp|refine Xs ?_ ?_<;>intro h<;>(try intro h')<;>(try simp[h])<;>try omega|refine Xg ?_|omega)
    refine LJ.e (j+1,gn+1,out ++ [(gt l j).p]) ?_
    dsimp only
    refine⟨by omega,by omega,by omega,fun q=>?_,by simp;omega⟩
    rw[List.mem_append,List.mem_singleton,j2]
    simp only[e]
    constructor
    ·rintro(⟨o,a,b⟩|a)
     ·exact⟨o,.inl a,b⟩
     ·exact⟨_,.inr rfl,(fun h=>by cases h),a.symm⟩
    ·rintro⟨o,a|a,b,d⟩
     ·exact .inl ⟨o,a,b,d⟩
     ·subst a;exact .inr d.symm
   ·(with_reducible repeat' first|refine Xk ?_<;>try simp|refine Xs ?_ ?_<;>intro h<;>(try intro h')<;>(try simp[h])<;>try omega|refine Xg ?_|omega)
    ·skip
     refine LJ.e (j+1,gn+1,out ++ [(gt l j).p]) ?_
     dsimp only
     refine⟨by omega,by omega,by omega,fun q=>?_,by simp;omega⟩
     rw[List.mem_append,List.mem_singleton,j2]
     simp only[e]
     constructor
     ·rintro(⟨o,a,b⟩|a)
      ·exact⟨o,.inl a,b⟩
      ·exact⟨_,.inr rfl,(fun _ => ‹_›),a.symm⟩
     ·rintro⟨o,a|a,b,d⟩
      ·exact .inl ⟨o,a,b,d⟩
      ·subst a;exact .inr d.symm
    ·refine LJ.e (j+1,gn,out) ?_
     dsimp only
     refine⟨by omega,by omega,by omega,fun q=>?_,by omega⟩
     rw[j2]
     simp only[e]
     constructor
     ·rintro⟨o,a,b⟩
      exact⟨o,.inl a,b⟩
     ·rintro⟨o,a|a,b,d⟩
      ·exact⟨o,a,b,d⟩
      ·subst a;have:=b trivial;simp_all
  ·simp[mP]
   rw[ky (by omega)]at j2
   have vS:∀ q∈out,Small q:=fun q hq=>by
    obtain⟨o,a,_,rfl⟩:=(j2 q).1 hq
    exact(Ix hg hp ((hl.1 o).1 a)).small hg
   cases om<;>simp
   ·have hm:¬ (g.om=true∧∃ o∈oJ g p,o.jb=true):=by
     simp only[← hl.1]
     exact fun h=>by have:=h2.2 h;cases this
    refine Yq (f108 g hg p hp) fun dr Qq=>?_
    simp
    (with_reducible repeat' first|refine Xk ?_<;>try simp|refine Xs ?_ ?_<;>intro h<;>(try intro h')<;>(try simp[h])<;>try omega|refine Xg ?_|omega)
    refine Yq (f61 (out++dr) (by simp;omega) (fun q hq=>(List.mem_append.1 hq).elim (vS q) (fun h=>Pg hg hp ((Qq.2.2 q).1 h)))) fun r hr=>?_
    simp
    refine Pa gE hr.1 fun q=>?_
    rw[hr.2.2,List.mem_append,Qq.2.2,j2]
    unfold pa
    rw[if_neg hm]
    simp only[CS gE,hl.1]
    simp
    exact fun _ c hc=>CS gE c hc
   ·have hm:=h2.1 rfl
    refine Yq (f61 out (by omega) vS) fun r hr=>?_
    simp
    refine Pa gE hr.1 fun q=>?_
    rw[hr.2.2,j2]
    unfold pa
    simp only[hl.1]at hm ⊢
    rw[if_pos hm]
    constructor
    ·rintro⟨o,a,b,rfl⟩
     have:=b trivial
     refine⟨CS gE,?_⟩
     cases o;simp_all
    ·rintro⟨_,a⟩
     exact⟨_,a,fun _=>rfl,rfl⟩
def f112(g:eY)(hg:gh g)(p:Pos)(hp:gG g p):Wf T 82 [dG g,dP p] [] (Is (.agg [.i (stat g p).1,.b (stat g p).2])):=by
 refine Yg DY ?_
 simp[DY]
 refine Yc (f106 g hg p hp) ?_
 simp
 (with_reducible repeat' first|refine Xk ?_<;>try simp|refine Xs ?_ ?_<;>intro h<;>(try intro h')<;>(try simp[h])<;>try omega|refine Xg ?_|omega)
 ·have he:=G0.1 h
  have:=Pj he
  (with_reducible repeat' first|refine Xk ?_<;>try simp|refine Xs ?_ ?_<;>intro h<;>(try intro h')<;>(try simp[h])<;>try omega|refine Xg ?_|omega)
  simp[stat,he,Ih he]
 ·have he:¬ ended g p:=fun h2=>h (G0.2 h2)
  refine Yc (f60 g hg p hp) ?_
  simp
  (with_reducible repeat' first|refine Xk ?_<;>try simp|refine Xs ?_ ?_<;>intro h<;>(try intro h')<;>(try simp[h])<;>try omega|refine Xg ?_|omega)
  all_goals simp[stat, *]
def f58(g:eY)(hg:gh g)(p:Pos)(hp:gG g p)(l:List Int)(hl:l.length≤100)(h0:∀ n∈l,0≤n∧n<256):Wf T 99 [dG g,dP p,dI l] [] (Ey gA fun r=>(0<r.length∧r.length≤101)∧∀ q∈r,gG g q):=by
 refine Yg FR ?_
 simp[FR]
 refine fh.e ((0,p,0,[p]):Int×Pos×Nat×List Pos) (fun y=>[(2,dI l),(3,.ptr 0 0 0),(4,.ptr 1 0 0),(7,.eX 2 y.2.2.1 5 0 y.2.2.2.length),(8,.i y.1)]) (fun y=>[.row 43 0 g.cells,.row 46 0 y.2.1.cells,.row 46 y.2.2.1 (cl Pos.cells y.2.2.2)]) (fun y=>0≤y.1∧y.1≤l.length∧gG g y.2.1∧(0<y.2.2.2.length∧y.2.2.2.length≤y.1.toNat+1)∧∀ q∈y.2.2.2,gG g q) (fun y=>l.length-y.1.toNat) ?_ ?_
 ·simp;exact hp
 rintro⟨i,p,gn,out⟩ ⟨i0,i1,hp,i2,i3⟩
 dsimp only at i0 i1 hp i2 i3 ⊢
 simp
 (with_reducible repeat' first|refine Xk ?_<;>try simp|refine Xs ?_ ?_<;>intro h<;>(try intro h')<;>(try simp[h])<;>try omega|refine Xg ?_|omega)
 ·refine Yc (f60 g hg p hp) ?_
  simp
  have hn:=h0 _ (ft i0 ‹_›)
  have zR:0<(ig g p).length→0≤fq (gt l i) (ig g p).length∧fq (gt l i) (ig g p).length<(ig g p).length:=fun h=>by
   rw[jT hn.1]
   exact⟨bW _ (by omega),bS _ (by omega)⟩
  (with_reducible repeat' first|refine Xk ?_<;>try simp|refine Xs ?_ ?_<;>intro h<;>(try intro h')<;>(try simp[h])<;>try omega|refine Xg ?_|omega)
  ·exact Ey.i out rfl rfl (ql i3)
  ·have hlen:0<(ig g p).length:=ay.2 ‹_›
   have:=zR hlen
   omega
  ·have hlen:0<(ig g p).length:=ay.2 ‹_›
   have:=zR hlen
   (with_reducible repeat' first|refine Xk ?_<;>try simp|refine Xs ?_ ?_<;>intro h<;>(try intro h')<;>(try simp[h])<;>try omega|refine Xg ?_|omega)
   have eZ:=Mi hg hp (yd.1 (ft (l:=ig g p) this.1 this.2))
   refine LJ.e (i+1,gt (ig g p) (fq (gt l i) (ig g p).length),gn+1,out ++ [gt (ig g p) (fq (gt l i) (ig g p).length)]) ?_
   dsimp only
   refine⟨by omega,by omega,by omega,eZ,by simp;omega,fun q hq=>?_⟩
   rcases List.mem_append.1 hq with hq|hq
   ·exact i3 q hq
   ·rw[List.mem_singleton]at hq;subst hq;exact eZ
 ·exact Ey.i out rfl rfl (ql i3)
structure Gj(g:eY)(p:Pos)(all last:List Pos):Prop where
 wF:kc all
 ok:∀ q∈all,gG g q
 has:p∈all
 sub:∀ q∈last,q∈all
 cl:∀ q∈all,q ∉ last→∀ m,pa g q m→m∈all
 len:all.length≤80
 ZR:last.length≤all.length
def Gj.step{g:eY}(hg:gh g){p:Pos}{all last next last' all':List Pos}(h:Gj g p all last)(hn:∀ m,m∈next↔∃ q∈last,pa g q m)(hl:∀ m,m∈last'↔m∈next∧m ∉ all)
  (rk:last'.Nodup) (hs:kc all') (ha:∀ q,q∈all'↔q∈all∨q∈last') (hlen:all'.length≤80):Gj g p all' last'∧(last'≠[]→all.length<all'.length)∧all.length≤all'.length:=by
 have h1:all.length+last'.length≤all'.length:=by
  rw[← az]
  refine Io (cT.2 ⟨h.wF.nodup,rk,fun a ha b hb e=>?_⟩) fun x hx=>(ha x).2 (List.mem_append.1 hx)
  subst e;exact((hl a).1 hb).2 ha
 refine⟨⟨hs,fun q hq=>?_,(ha p).2 (.inl h.has),fun q hq=>(ha q).2 (.inr hq),fun q hq r9 m hm=>?_,hlen,by omega⟩,fun he=>?_,by omega⟩
 ·rcases(ha q).1 hq with hq|hq
  ·exact h.ok q hq
  ·obtain⟨r,hr,hm⟩:=(hn q).1 ((hl q).1 hq).1
   exact Mi hg (h.ok r (h.sub r hr)) hm
 ·rcases(ha q).1 hq with hq|hq
  ·by_cases QT:q∈last
   ·by_cases QG:m∈all
    ·exact(ha m).2 (.inl QG)
    ·exact(ha m).2 (.inr ((hl m).2 ⟨(hn m).2 ⟨q,QT,hm⟩,QG⟩))
   ·exact(ha m).2 (.inl (h.cl q hq QT m hm))
  ·exact absurd hq r9
 ·have:0<last'.length:=ay.2 he
  omega
structure DG(g:eY)(l:List Pos):Prop where
 wF:kc l
 ok:∀ q∈l,gG g q
 cl:∀ q∈l,∀ m,pa g q m→m∈l
 len:0<l.length∧l.length≤80
end Go.Proofs.YtmehofoficaelaaGreatDoor
namespace Go.AL
open Go
def Ss(S:List Nat):ij→Bool
 | .call f _ | .callN f _=>elem f S
 | .callv _ _=>false
 | .nextM _=>false
 | _=>true
def oc(S:List Nat):List ff→Bool
 | []=>true
 | e::r=>Ss S e.op&&oc S r
def pv(S:List Nat):IR→Bool
 | .ops l=>oc S l
 | .kK _ l=>oc S l
 | .lP _ l es=>oc S l&&oc S es
 | .seq a b=>pv S a&&pv S b
 | .cond _ a b=>pv S a&&pv S b
 | .block _ _ a=>pv S a
 | .loop _ a=>pv S a
 | .lZ _ _ _=>false
 | _=>true
def px(S:List Nat):wM→Bool
 | .ops l _=>oc S l
 | .code c _=>pv S c
 | .loop _ _ a _=>pv S a
 | .call f _ _=>elem f S
 | .trace l _=>oc S l
def One(T:gP)(j:wM)(R:n4→Prop):Prop:=match j with
 | .ops _ _ | .code _ _ | .loop _ _ _ _=>∃ o,R (.out o)∧Ev T j (fun r=>r = .out o)
 | .call _ _ _=>∃ d H,R (.val d H)∧Ev T j (fun r=>r = .val d H)
 | .trace _ _=>∃ rs s,R (.tr rs s)∧Ev T j (fun r=>r = .tr rs s)
def One.mono{T:gP}{j:wM}{R R':n4→Prop}(h:One T j R)(hi:∀ r,R r→R' r):One T j R':=by
 cases j with
 | call f a H=>obtain⟨d,H',h1,h2⟩:=h;exact⟨d,H',hi _ h1,h2⟩
 | trace l s=>obtain⟨d,H',h1,h2⟩:=h;exact⟨d,H',hi _ h1,h2⟩
 | _=>obtain⟨o,h1,h2⟩:=h;exact⟨o,hi _ h1,h2⟩
def Su{S:List Nat}{env:gd}{op:ij}{f:FuncId}{args:List D}(h:Ss S op=true)(hc:jN env op=some (f,args)):elem f S=true:=by
 cases op<;>first|(cases hc;exact h)|(cases h;done)|(cases hc;done)
section
variable{T:gP}{S:List Nat}(hS:∀ f fn,elem f S=true→T.fn f=some fn→pv S fn.body=true)(hN:∀ f,elem f S=true→T.sort f=none∧T.qT f=false)
include hS hN
theorem ae1{j:wM}{R:n4→Prop}(h:Ev T j R):px S j=true→One T j R:=by
 induction h with
 | mono h hi ih=>exact fun hj=>(ih hj).mono hi
 | sort fc l cf hs=>intro hj;rw[(hN _ hj).1]at hs;cases hs
 | Ar hs=>intro hj;rw[(hN _ hj).1]at hs;cases hs
 | qT l hs=>intro hj;rw[(hN _ hj).2]at hs;cases hs
 | nil h=>exact fun _=>⟨_,h,.nil rfl⟩
 | op hg h t ih=>
  intro hj
  simp only[px,oc,ah]at hj
  obtain⟨o,h1,h2⟩:=ih hj.2
  exact⟨o,h1,.op hg h h2⟩
 | yD hg h t ih=>
  intro hj
  simp only[px,oc,ah]at hj
  obtain⟨o,h1,h2⟩:=ih hj.2
  exact⟨o,h1,.yD hg h h2⟩
 | off hg t ih=>
  intro hj
  simp only[px,oc,ah]at hj
  obtain⟨o,h1,h2⟩:=ih hj.2
  exact⟨o,h1,.off hg h2⟩
 | kX S' hm t ih=>intro hj;obtain⟨o,h1,h2⟩:=ih hj;exact⟨o,h1,.kX S' hm h2⟩
 | BE S' hm t ih=>intro hj;obtain⟨o,h1,h2⟩:=ih hj;exact⟨o,h1,.BE S' hm h2⟩
 | J8 live t ih=>intro hj;obtain⟨o,h1,h2⟩:=ih hj;exact⟨o,h1,.J8 live h2⟩
 | He live t ih=>intro hj;obtain⟨o,h1,h2⟩:=ih hj;exact⟨o,h1,.He live h2⟩
 | Bf hg hc hf hp h ha t ih sr=>
  intro hj
  simp only[px,oc,ah]at hj
  obtain⟨d,Hn,h1,h2⟩:=ih (Su hj.1 hc)
  obtain⟨s',gw⟩:=cJ.1 (ha d Hn h1)
  obtain⟨o,h3,h4⟩:=sr d Hn s' h1 gw hj.2
  exact⟨o,h3,.Bf hg hc hf hp h2 (fun d' Gf e=>by cases e;exact ha _ _ h1) fun d' Gf s2 e mH=>by
   cases e;rw[gw]at mH;cases mH;exact h4⟩
 | Be hg hc hf hp h t ih sr=>
  intro hj
  simp only[px,oc,ah]at hj
  obtain⟨d,Hn,h1,h2⟩:=ih (Su hj.1 hc)
  obtain⟨o,h3,h4⟩:=sr d Hn h1 hj.2
  exact⟨o,h3,.Be hg hc hf hp h2 fun d' Gf e=>by cases e;exact h4⟩
 | @Gr e r s v args rf env0 Rd Ra Rb R hg hc=>
  intro hj
  simp only[px,oc,ah]at hj
  exfalso
  have h1:=hj.1
  revert hc h1
  cases e.op<;>intro hc h1<;>first|(cases hc;done)|(cases h1;done)
 | next hg gW=>
  intro hj
  simp only[px,oc,ah]at hj
  have h1:=hj.1
  rw[gW]at h1;cases h1
 | Du h=>exact fun _=>⟨_,_,h,.Du rfl⟩
 | Dw hg h t k ih=>
  intro hj
  simp only[px,oc,ah]at hj
  obtain⟨rs,s',h1,h2⟩:=ih hj.2
  exact⟨_,s',k rs s' h1,.Dw hg h h2 fun yx s2 e=>by cases e;rfl⟩
 | Dv hg t k ih=>
  intro hj
  simp only[px,oc,ah]at hj
  obtain⟨rs,s',h1,h2⟩:=ih hj.2
  exact⟨_,s',k rs s' h1,.Dv hg h2 fun yx s2 e=>by cases e;rfl⟩
 | Dr hg hc hf hp h h0 hr t k ih sr=>
  intro hj
  simp only[px,oc,ah]at hj
  obtain⟨rs,s',h1,h2⟩:=sr hj.2
  exact⟨_,s',k rs s' h1,.Dr hg hc hf hp h h0 hr h2 fun yx s2 e=>by cases e;rfl⟩
 | Ds hg gW ha hf hp h h0 hr t k ih sr=>
  intro hj
  simp only[px,oc,ah]at hj
  obtain⟨rs,s',h1,h2⟩:=sr hj.2
  exact⟨_,s',k rs s' h1,.Ds hg gW ha hf hp h h0 hr h2 fun yx s2 e=>by cases e;rfl⟩
 | Dt hg gW ha hf hp Xh hv gH gj h h0 hr t k ih sr=>
  intro hj
  simp only[px,oc,ah]at hj
  obtain⟨rs,s',h1,h2⟩:=sr hj.2
  exact⟨_,s',k rs s' h1,.Dt hg gW ha hf hp Xh hv gH gj h h0 hr h2 fun yx s2 e=>by cases e;rfl⟩
 | kK t hp ih=>
  intro hj
  obtain⟨rs,s',h1,h2⟩:=ih hj
  exact⟨_,(hp rs s' h1).2,.kK h2 fun yx s2 e=>by cases e;exact⟨(hp rs s' h1).1,rfl⟩⟩
 | lP t hp k ih uC=>
  intro hj
  simp only[px,pv,ah]at hj
  obtain⟨rs,s',h1,h2⟩:=ih hj.1
  obtain⟨o,h3,h4⟩:=uC rs s' h1 hj.2
  exact⟨o,h3,.lP h2 (fun yx s2 e=>by cases e;exact hp _ _ h1) fun yx s2 e=>by cases e;exact h4⟩
 | skip h=>exact fun _=>⟨_,h,.skip rfl⟩
 | Bo h ih=>intro hj;obtain⟨o,h1,h2⟩:=ih hj;exact⟨o,h1,.Bo h2⟩
 | seq h k hs ih uC=>
  intro hj
  simp only[px,pv,ah]at hj
  obtain⟨o,h1,h2⟩:=ih hj.1
  cases o with
  | norm s'=>
   obtain⟨o,h3,h4⟩:=uC s' h1 hj.2
   exact⟨o,h3,.seq h2 (fun s2 e=>by cases e;exact h4) fun o e hs=>by cases e;cases hs⟩
  | exit id s'=>exact⟨_,hs _ h1 rfl,.seq h2 (fun s2 e=>by cases e) fun o e hs=>by cases e;rfl⟩
  | ret s'=>exact⟨_,hs _ h1 rfl,.seq h2 (fun s2 e=>by cases e) fun o e hs=>by cases e;rfl⟩
 | @cond c a b s x R hc h ih=>
  intro hj
  simp only[px,pv,ah]at hj
  obtain⟨o,h1,h2⟩:=ih (by cases x;exact hj.2;exact hj.1)
  exact⟨o,h1,.cond hc h2⟩
 | block h k ih=>
  intro hj
  obtain⟨o,h1,h2⟩:=ih hj
  exact⟨_,k o h1,.block h2 fun o e=>by cases e;rfl⟩
 | loop h ih=>intro hj;obtain⟨o,h1,h2⟩:=ih hj;exact⟨o,h1,.loop h2⟩
 | we h k hs ih uC=>
  intro hj
  obtain⟨o,h1,h2⟩:=ih hj
  cases o with
  | norm s'=>
   obtain⟨o,h3,h4⟩:=uC s' h1 hj
   exact⟨o,h3,.we h2 (fun s2 e=>by cases e;exact h4) fun o e hs=>by cases e;cases hs⟩
  | exit id s'=>exact⟨_,hs _ h1 rfl,.we h2 (fun s2 e=>by cases e) fun o e hs=>by cases e;rfl⟩
  | ret s'=>exact⟨_,hs _ h1 rfl,.we h2 (fun s2 e=>by cases e) fun o e hs=>by cases e;rfl⟩
 | lZ=>intro hj;cases hj
 | exit h=>exact fun _=>⟨_,h,.exit rfl⟩
 | ret h=>exact fun _=>⟨_,h,.ret rfl⟩
 | call own hf hl h k ih=>
  intro hj
  obtain⟨o,h1,h2⟩:=ih (hS _ _ hj hf)
  obtain⟨d,H',h3,h4⟩:=k o h1
  exact⟨d,H',h4,.call own hf hl h2 fun o' e=>by cases e;exact⟨d,H',h3,rfl⟩⟩
end
end Go.AL
namespace Go.AL
open Go
def Gw(S:List Nat):Nat→List (Option eV)→Bool
 | _,[]=>true
 | k,a::l=>(bif elem k S then(match a with|some fn=>pv S fn.body|none=>true)else true)&&Gw S (k+1) l
theorem OE{S:List Nat}{fn:eV}:∀ {l:List (Option eV)} {k i:Nat},Gw S k l=true→nth l i=some fn→elem (k+i) S=true→pv S fn.body=true
 | [],_,_,_,h,_=>by cases h
 | a::l,k,0,h,h2,h3=>by
  simp only[Gw,ah]at h
  cases h2
  rw[bQ]at h3
  simpa only[h3,cond_true]using h.1
 | a::l,k,i+1,h,h2,h3=>by
  simp only[Gw,ah]at h
  exact OE (l:=l) (k:=k+1) (i:=i) h.2 h2 (by rw[a7,dD 1 i];exact h3)
def Wf.one{T:gP}{S:List Nat}(hS:∀ f fn,elem f S=true→T.fn f=some fn→pv S fn.body=true)(hN:∀ f,elem f S=true→T.sort f=none∧T.qT f=false){f:FuncId}{args:List D}{H:U}{K:D→U→Prop}(h:Wf T f args H K)(hf:elem f S=true) :
  ∃ d H',K d H'∧Wf T f args H fun d2 H2=>d2=d∧H2=H':=by
 obtain⟨d,H',⟨d2,H2,e,h1⟩,h2⟩:=ae1 hS hN h hf
 cases e
 exact⟨d,H',h1,Ev.mono h2 fun r e=>⟨_,_,e,rfl,rfl⟩⟩
end Go.AL
namespace Go.Proofs.YtmehofoficaelaaGreatDoor
open Go Go.AL
def Ah:List Nat:=[13,17,18,21,22,25,27,29,31,32,34,36,38,39,40,41,43,44,50,51,60,68,69,71,72,73,74,76,77,78,79,80,82,83,84,85,86,87,88,90,91,92,98,99,100,101,127,128,129,130,131,132,133,134,136,137,138,139,140,141,142,143,144,159,160,161,162,200,201,202,203,204,205,206,207,208,209,210,211,225,226,227,228,252,253,254,255,256,257,258,278,283,284,285,294,295,296,297,298,299,321]
def afo:∀ f fn,elem f Ah=true→T.fn f=some fn→pv Ah fn.body=true:=fun f fn h h2=>
 OE (S:=Ah) (l:=fns) (k:=0) (i:=f) (by kernel_rfl) h2 (by rw[aR];exact h)
def afp:∀ f,elem f Ah=true→T.sort f=none∧T.qT f=false:=fun f h=>by
 by_cases h1:f=151
 ·subst h1;exact absurd h (by decide)
 by_cases h2:f=261
 ·subst h2;exact absurd h (by decide)
 by_cases h3:f=67
 ·subst h3;exact absurd h (by decide)
 refine⟨?_,?_⟩
 ·show(if f=151 then some 5 else if f=261 then some 6 else none)=none
  rw[if_neg h1,if_neg h2]
 ·show Nat.beq f 67=false
  cases hb:Nat.beq f 67 with
  | false=>rfl
  | true=>exact absurd (cz hb) h3
section
variable{f:FuncId}{args:List D}{dst:Option Nat}{s:St}{fn:eV}{R:List Fp}{Q:Rc→St→Prop}
def iC.q{α:Type}{g:α→D}{P:α→Prop}(hf:T.fn f=some fn)(hp:fn.full=false)(h1:elem f Ah=true)(h:Wf T f args [] (Ex g P))(hc:fE args=true)(hx:∀ r,closed (g r)=true)
  (k:∀ r,P r→Q ⟨R,[]⟩ { s with env:=put s.env dst (g r) }):iC T f args R dst s Q .mk:=by
 obtain⟨d,H',⟨r,rfl,rfl,hr⟩,h2⟩:=Wf.one afo afp h h1
 exact iC.c hf hp h2 hc (hx r) (k r hr)
end
def Yv{f:FuncId}{args:List D}{R:List Fp}{dst:Option Nat}{s:St}{Q:Rc→St→Prop}{fn:eV}{α:Type}{g:α→D}{P:α→Prop}(h:Wf T f args [] (Ex g P))(k:∀ r,P r→Q ⟨R,[]⟩ { s with env:=put s.env dst (g r) })
  (hf:T.fn f=some fn:=by exact rfl) (hp:fn.full=false:=by exact rfl) (h1:elem f Ah=true:=by exact rfl) (hc:fE args=true:=by simp) (hx:∀ r,closed (g r)=true:=by intro;simp):iC T f args R dst s Q .mk:=iC.q hf hp h1 h hc hx k
end Go.Proofs.YtmehofoficaelaaGreatDoor
namespace Go.AL
open Go
abbrev Kn:=Int×Int×Bool
@[irreducible] def fK(x:Kn):List D:=[.i x.1,.i x.2.1,.b x.2.2]
@[simp] theorem zm(x:Kn):fK x = [.i x.1,.i x.2.1,.b x.2.2]:=by unfold fK;rfl
instance:Fl fK 3:=⟨fun _=>by simp,fun _=>by simp[fE]⟩
@[simp] theorem akz(l:List Kn)(a b:Int)(c:Bool):cl fK l ++ [.i a,.i b,.b c]=cl fK (l ++ [(a,b,c)]):=by rw[← oR,zm]
@[simp] theorem UK(l:List Bool)(c:Bool):cl fB l ++ [.b c]=cl fB (l ++ [c]):=by rw[← oR,By]
theorem GC{α:Type}[Inhabited α]{f:α→List D}{sz:Nat}[F:Fl f sz]{l:List α}{n:Int}{j:Nat}(hj:j<sz){P:D→Prop}:oA (cl f l)[n.toNat*sz+j]? P .mk=(n.toNat<l.length∧oA (f (gt l n))[j]? P .mk):=by
 rw[OR (f:=f) l n.toNat j hj]
 by_cases hn:n.toNat<l.length
 ·rw[List.getElem?_eq_getElem hn]
  have e:gt l n=l[n.toNat]:=by unfold gt;rw[List.getD_eq_getElem?_getD,List.getElem?_eq_getElem hn];rfl
  simp[hn,e]
 ·rw[aQ (by omega)];simp[hn]
@[simp] theorem anW{l:List Kn}{n:Int}{P:D→Prop}:oA (cl fK l)[n.toNat*3+2]? P .mk=(n.toNat<l.length∧P (.b (gt l n).2.2)):=by
 have:=GC (f:=fK) (l:=l) (n:=n) (j:=2) (by decide) (P:=P)
 simpa using this
@[simp] theorem anV{l:List Bool}{n:Int}{P:D→Prop}:oA (cl fB l)[n.toNat]? P .mk=(n.toNat<l.length∧P (.b (gt l n))):=by
 have:=GC (f:=fB) (l:=l) (n:=n) (j:=0) (by decide) (P:=P)
 simpa using this
def OL{l:List Kn}{n:Int}(h:n.toNat<l.length):(cl fK l).drop (n.toNat*3)=fK (gt l n)++cl fK (l.drop (n.toNat+1)):=by
 rw[sR,bG h,na]
 congr 1
 unfold gt;rw[List.getD_eq_getElem?_getD,List.getElem?_eq_getElem h];rfl
def UL{l:List Kn}{n:Int}(h:n.toNat<l.length)(a b:Int):(cl fK l).take (n.toNat*3) ++ .i a :: .i b::(cl fK l).drop (n.toNat*3+2)=cl fK (pt l n (a,b,(gt l n).2.2)):=by
 have e:(cl fK l).drop (n.toNat*3+2) = .b (gt l n).2.2::cl fK (l.drop (n.toNat+1)):=by
  rw[← bT,OL h,zm];rfl
 rw[e,tW]
 unfold pt
 rw[← ze,na,zm]
 rfl
@[simp] theorem amU{l:List Kn}{t:TypeId}{n:Int}:ry 2 (n.toNat*3) (some (t,cl fK l))=if n.toNat<l.length then some (.agg [.i (gt l n).1,.i (gt l n).2.1])else none:=by
 unfold ry
 dsimp only
 by_cases h:n.toNat<l.length
 ·rw[if_pos h,if_pos (by rw[sS];omega),OL h,zm];rfl
 ·rw[if_neg h,if_neg (by rw[sS];omega)]
def GD{α:Type}{f:α→List D}{sz:Nat}[F:Fl f sz](l:List α)(n:Int)(h1:n.toNat<l.length)(a:α):(cl f l).take (n.toNat*sz)++(f a++(cl f l).drop (n.toNat*sz+sz))=cl f (pt l n a):=by
 have:=US (f:=f) l n.toNat a h1
 rw[aZ]at this
 exact this
theorem C8{α:Type}{f:α→List D}(a:α):∀ n:Nat,(List.replicate n (f a)).flatten=cl f (List.replicate n a)
 | 0=>by simp
 | n+1=>by rw[bw,aU,C8 a n,bw,na]
@[simp] theorem afs(b:Bool)(n:Nat):(List.replicate n [D.b b]).flatten=cl fB (List.replicate n b):=by rw[← C8,By]
@[simp] theorem afu(b:Int)(n:Nat):(List.replicate n [D.i b]).flatten=cl f1 (List.replicate n b):=by rw[← C8,zl]
@[simp] theorem apq(a b:Int)(n:Nat):(List.replicate n [D.i a,D.i b]).flatten=cl fS (List.replicate n (a,b)):=by rw[← C8,Bz]
@[simp] theorem apn(b:Bool)(n:Nat):List.replicate n (D.b b)=cl fB (List.replicate n b):=by rw[← afs];simp
@[simp] theorem apo(b:Int)(n:Nat):List.replicate n (D.i b)=cl f1 (List.replicate n b):=by rw[← afu];simp
def q8(l:List Bool):Nat:=l.countP fun b => !b
def SC{α:Type}[Inhabited α]{l:List α}{n:Int}{a b:α}(h0:0≤n)(h:n<l.length):pt (pt l n a) n b=pt l n b:=by
 rw[CX (l:=pt l n a) h0 (by rw[il h0 h];exact h),CX h0 h,CX h0 h,List.set_set]
def Wy{l:List Bool}{n:Int}(h0:0≤n)(h:n<l.length)(hf:gt l n=false)(b:Bool):q8 (pt l n b)+(if b then 1 else 0)=q8 l:=by
 have e:l=l.take n.toNat++gt l n::l.drop (n.toNat+1):=by
  rw[← mM h0 h,bI]
 unfold pt
 conv=>rhs;rw[e]
 unfold q8
 rw[cy,cy,cj,cj,hf]
 cases b<;>simp<;>omega
end Go.AL
namespace Go.Proofs.YtmehofoficaelaaGreatDoor
open Go Go.AL Classical
set_option maxRecDepth 10000
set_option maxHeartbeats 1000000
structure oz(g:eY)(l:List Pos):Prop where
 wF:kc l
 ok:∀ q∈l,gG g q
 cl:∀ q∈l,∀ m,pa g q m→m∈l
 len:l.length≤4000
def DG.c2{g:eY}{l:List Pos}(h:DG g l):oz g l:=⟨h.wF,h.ok,h.cl,by have:=h.len;omega⟩
noncomputable def fw(g:eY)(l:List Pos):List (List Int):=l.map fun p=>(ig g p).map (od l)
def f37(g:eY)(hg:gh g)(l:List Pos)(hl:oz g l):Wf T 39 [dG g,gA l] [] (Is (.tup [.sl 1 ((fw g l).map fI),.b true])):=by
 have hlen:=hl.len
 have jR:∀ q∈l,Small q:=fun q hq=>(hl.ok q hq).small hg
 refine Yz AU (iu 59 [2] AU.body) ?_
 simp[AU,iu,jJ,mj,mn,mG,ln]
 (with_reducible repeat' first|refine Xk ?_<;>try simp|refine Xs ?_ ?_<;>intro h<;>(try intro h')<;>(try simp[h])<;>try omega|refine Xg ?_|omega)
 refine Yc (f64 l (by omega) jR) ?_
 simp
 have hs:=hl.wF
 (with_reducible repeat' first|refine Xk ?_<;>try simp|refine Xs ?_ ?_<;>intro h<;>(try intro h')<;>(try simp[h])<;>try omega|refine Xg ?_|omega)
 refine fh.e ((0,0,[]):Int×Nat×List (List Int)) (fun y=>[(1,gA l),(2,.ptr 0 0 0),(6,.eX 1 y.2.1 1 0 y.2.2.length),(7,.i y.1)]) (fun y=>[.row 43 0 g.cells,.row 37 y.2.1 (cl fI y.2.2)]) (fun y=>0≤y.1∧y.1≤l.length∧y.2.2=(l.take y.1.toNat).map fun p=>(ig g p).map (od l)) (fun y=>l.length-y.1.toNat) ?_ ?_
 ·simp
 rintro⟨i,gn,out⟩ ⟨i0,i1,i2⟩
 dsimp only at i0 i1 i2 ⊢
 simp
 have La:out.length≤4000:=by rw[i2];simp;omega
 (with_reducible repeat' first|refine Xk ?_<;>try simp|refine Xs ?_ ?_<;>intro h<;>(try intro h')<;>(try simp[h])<;>try omega|refine Xg ?_|omega)
 ·have hp:=hl.ok _ (ft i0 ‹_›)
  refine Yt (f65 g _ hg hp) ?_
  simp
  (with_reducible repeat' first|refine Xk ?_<;>try simp|refine Xs ?_ ?_<;>intro h<;>(try intro h')<;>(try simp[h])<;>try omega|refine Xg ?_|omega)
  refine Yt (f60 g hg _ hp) ?_
  simp
  have QH:=wi hg hp
  have oU:∀ q∈ig g (gt l i),q∈l:=fun q hq=>hl.cl _ (ft i0 ‹_›) q (yd.1 hq)
  refine fh.e ((0,0,[]):Int×Nat×List Int) (fun y=>[(1,gA l),(2,.ptr 0 0 0),(6,.eX 1 gn 1 0 out.length),(7,.i i),(8,qJ g (gt l i)),(9,.eX 2 y.2.1 1 0 y.2.2.length),(10,.i y.1)]) (fun y=>[.row 43 0 g.cells,.row 37 gn (cl fI out),.row 3 y.2.1 (cl f1 y.2.2)]) (fun y=>0≤y.1∧y.1≤(ig g (gt l i)).length∧y.2.2=((ig g (gt l i)).take y.1.toNat).map (od l)) (fun y=>(ig g (gt l i)).length-y.1.toNat) ?_ ?_
  ·simp
  rintro⟨j,gm,row⟩ ⟨j0,j1,j2⟩
  dsimp only at j0 j1 j2 ⊢
  have iy:row.length≤j.toNat:=by rw[j2];simp;omega
  simp
  (with_reducible repeat' first|refine Xk ?_<;>try simp|refine Xs ?_ ?_<;>intro h<;>(try intro h')<;>(try simp[h])<;>try omega|refine Xg ?_|omega)
  ·have hm:=oU _ (ft j0 ‹_›)
   refine Yc (f27 l _ (by omega) jR (jR _ hm) hs) ?_
   simp
   have hf:=BD hm
   (with_reducible repeat' first|refine Xk ?_<;>try simp|refine Xs ?_ ?_<;>intro h<;>(try intro h')<;>(try simp[h])<;>try omega|refine Xg ?_|omega)
   refine LJ.e (j+1,gm+1,row ++ [od l (gt (ig g (gt l i)) j)]) ?_
   dsimp only
   refine fQ ?_
   rw[iD j0 ‹_›,List.map_append,j2];rfl
  ·(with_reducible repeat' first|refine Xk ?_<;>try simp|refine Xs ?_ ?_<;>intro h<;>(try intro h')<;>(try simp[h])<;>try omega|refine Xg ?_|omega)
   refine LJ.e (i+1,gn+1,out ++ [row]) ?_
   dsimp only
   refine fQ ?_
   rw[iD i0 ‹_›,List.map_append,i2]
   rw[ky (by omega)]at j2
   rw[j2];rfl
 ·rw[i2,ky (by omega)];rfl
noncomputable def p7(g:eY)(p:Pos):Kn:=((stat g p).1,0,(stat g p).2)
def Ws(g:eY)(hg:gh g)(l:List Pos)(hl:oz g l):Wf T 128 [dG g,gA l] [] (fun d H=>d = .eX 0 l.length 3 0 l.length∧H = [.row 245 l.length (cl fK (l.map (p7 g)))]):=by
 have hlen:=hl.len
 refine Wf.xo 1 (fn:=AY) rfl (by simp[AY]) ?_
 simp[AY]
 refine fh.e ((0,[]):Int×List Kn) (fun y=>[(1,gA l),(2,.ptr 0 0 0),(5,.eX 1 y.2.length 3 0 y.2.length),(6,.i y.1)]) (fun y=>[.row 43 0 g.cells,.row 245 y.2.length (cl fK y.2)]) (fun y=>0≤y.1∧y.1≤l.length∧y.2=(l.take y.1.toNat).map (p7 g)) (fun y=>l.length-y.1.toNat) ?_ ?_
 ·simp
 rintro⟨i,out⟩ ⟨i0,i1,i2⟩
 dsimp only at i0 i1 i2 ⊢
 have La:out.length=i.toNat:=by rw[i2];simp;omega
 simp
 (with_reducible repeat' first|refine Xk ?_<;>try simp|refine Xs ?_ ?_<;>intro h<;>(try intro h')<;>(try simp[h])<;>try omega|refine Xg ?_|omega)
 ·refine Yt (f112 g hg _ (hl.ok _ (ft i0 ‹_›))) ?_
  simp
  (with_reducible repeat' first|refine Xk ?_<;>try simp|refine Xs ?_ ?_<;>intro h<;>(try intro h')<;>(try simp[h])<;>try omega|refine Xg ?_|omega)
  refine LJ.i (i+1,out ++ [p7 g (gt l i)]) (by first|rfl|simp[p7]) (by first|rfl|simp[p7]) rfl rfl ?_
  dsimp only
  refine fQ ?_
  rw[iD i0 ‹_›,List.map_append,i2];rfl
 ·have e:out=l.map (p7 g):=by rw[i2,ky (by omega)]
  have e2:out.length=l.length:=by rw[e];simp
  rw[← e]
def o5{g:eY}{l:List Pos}(hl:oz g l){i:Int}(h0:0≤i)(h1:i<l.length):gt (fw g l) i=(ig g (gt l i)).map (od l)∧∀ k∈gt (fw g l) i,0≤k∧k<l.length:=by
 have e:gt (fw g l) i=(ig g (gt l i)).map (od l):=by
  unfold fw gt
  simp only[List.getD_eq_getElem?_getD,aq]
  rw[List.getElem?_eq_getElem (by omega)]
  rfl
 refine⟨e,fun k hk=>?_⟩
 rw[e]at hk
 obtain⟨q,hq,rfl⟩:=aw.1 hk
 have:=BD (hl.cl _ (ft h0 h1) q (yd.1 hq))
 exact⟨this.1,this.2.1⟩
