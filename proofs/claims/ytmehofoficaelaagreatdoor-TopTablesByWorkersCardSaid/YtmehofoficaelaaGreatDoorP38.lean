/- 38 -/
import Derived.Test.YtmehofoficaelaaGreatDoorP36
set_option linter.all false
open List renaming replicate→aE,mem_singleton→bf,length_map→cc,range→cp,length→List.l
open Int renaming toNat→Int.n
namespace Go.Proofs.YtmehofoficaelaaGreatDoor
open Go Go.AL Classical
set_option maxRecDepth 10000
set_option maxHeartbeats 8000000
section
variable{m:List Int}{ls:List (Int×List Int)}{G:gQ}
@[simp] theorem auu(h:0<(LH m ls).l):(LH m ls)[0]'h = .row 56 0 [dI m]:=rfl
@[simp] theorem auv(h:1<(LH m ls).l):(LH m ls)[1]'h = .map (.int .i64) (kI 2 ls):=rfl
theorem CT:(LH m ls++G)[ls.l+2]? = G[0]? := by rw[ao gP,IP,b6]
theorem CU:(LH m ls++G)[ls.l+3]? = G[1]? := by rw[ao gP,IP,(U:ls.l+3-(ls.l+2)=1)]
theorem CW:(LH m ls++G)[ls.l+4]? = G[2]? := by rw[ao gP,IP,(U:ls.l+4-(ls.l+2)=2)]
theorem CX(x:Ob):(LH m ls++G).set (ls.l+2) x=LH m ls++G.set 0 x:=by rw[c8 _ _ gP,IP,b6]
theorem CY(x:Ob):(LH m ls++G).set (ls.l+3) x=LH m ls++G.set 1 x:=by rw[c8 _ _ gP,IP,(U:ls.l+3-(ls.l+2)=1)]
end
def S3{m:List Int}{ls:List (Int×List Int)}{G:gQ}{k:Nat}{y:Ob}(h:1<((LH m ls++G).set (2+k) y).l):((LH m ls++G).set (2+k) y)[1]'h = .map (.int .i64) (kI 2 ls):=by rw[List.getElem_set_ne U,List.getElem_append_left gP];rfl
def YW{n:Nat}{live:List Nat}{env:Env}{m:List Int}{ls:List (Int×List Int)}{r:Bool}(c:vD live=false)(d:2<=n)(a:n<=ls.l+2)(b:ph n (forget live env)) :
  cut n live { env:=env,H:=LH m ls,marks:=[],iI:=r } = { env:=forget live env,H:=LH m ls,marks:=[],iI:=r }:=by
 have:=YV (m:=m) (ls:=ls) (G:=[]) (r:=r) c d a b;rwa [az]at this
def af9{id n:Nat}{live:List Nat}{K:jD}{env:Env}{H G:gQ}{r:Bool}{m:List Int}{ls:List (Int×List Int)}(c:H=LH m ls++G)(d:vD live=false)(e:2<=n)(a:n<=ls.l+2)(b:ph n (forget live env))
  (k:K (.norm { env:=forget live env,H:=LH m ls,marks:=[],iI:=r })):vN id n live K (.norm { env:=env,H:=H,marks:=[],iI:=r }):=by
 subst c;rw[C5,YV d e a b];exact k
def aga{id n:Nat}{live:List Nat}{K:jD}{env:Env}{H:gQ}{r:Bool}{m:List Int}{ls:List (Int×List Int)}{b a:Ob}{k i:Int}(e:H=(LH m ls).set 1 (.map (.int .i64) (kI 2 ls ++ [(.int .i64 k,.gR (ls.l+4) 0 1 0 1)])) ++ [b,a,.row 3 0 [.i i]])(f:vD live=false)(g:2<=n)(c:n<=ls.l+2)(d:ph n (forget live env))
  (h:K (.norm { env:=forget live env,H:=LH m (ls ++ [(k,[i])]),marks:=[],iI:=r })):vN id n live K (.norm { env:=env,H:=H,marks:=[],iI:=r }):=by
 subst e;rw[<-aP _ _ gP,C5,afD f g c d];exact h
def R5{n:Nat}(h:2<=n)(l:List Pos)(a i:Int):ph n [(2,.ptr 0 0 0),(5,.im 1),(13,iZ l),(14,.i a),(15,.i i)]:=
 WM U (aq6 U (rQ (agP l) (rQ rfl (rQ rfl EI))))
@[simp] theorem axu(t:TypeId)(v n:Nat):sU t (.im v) n=some (.ptr n 0 0,.new (.row t 0 [.im v])):=rfl
@[simp] theorem axr(t:TypeId)(n:Nat):sU t .gV n=some (.ptr n 0 0,.new (.row t 0 [.gV])):=rfl
@[simp] theorem aEU(n:Nat)(ls:List (Int×List Int)):((oo ls).map λx=>jQ n x.2)=ls.map λ_=>[]:=by unfold oo;rw[bC];exact au λe _=>gP
@[simp] theorem ayX(ls:List (Int×List Int)):(oo ls).l=ls.l:=by simp[oo]
@[simp] theorem ahO(ρ:Nat->Option Nat)(H:gQ)(ls:List (Int×List Int)):((oo ls).map λx=>(x.1,ib ρ H 40 x.2))=oo ls:=by unfold oo;rw[bC];refine au λe _=>?_;have:ib ρ H 40 (dI e.2)=dI e.2:=qn (PR e.2);simp[this]
def ahN{env:Env}{m:List Int}{ls:List (Int×List Int)}{k:Nat}{r:Bool}(a:forget [5] env = [(5,.im 1)]) :
  cut 2 [5] { env:=env,H:=.row 56 0 [dI m] :: .map (.int .i64) (oo ls)::aE k .dead,marks:=[],iI:=r } = { env:=[(5,.im 1)],H:=[.row 56 0 [dI m],.map (.int .i64) (oo ls)],marks:=[],iI:=r }:=by
 by_cases c:k=0
 .subst c;rw[Jq gP,a];rfl
 .rw[pQ iz gP,a];have h1:ib (iP (jx 2 [])) (.row 56 0 [dI m] :: .map (.int .i64) (oo ls)::aE k .dead) 40 (dI m)=dI m:=qn (PR m)
  have b:AP 2 [(5,D.im 1)] (.row 56 0 [dI m] :: .map (.int .i64) (oo ls)::aE k .dead) [] = []:=by unfold AP;simp
  rw[b];unfold F1;simp only[alh,List.map_nil,List.map_cons]at h1 ⊢;simp[ahO,h1,vG,lG]
theorem abt{ds:List Int}(h:ds.Nodup):∀ {b:List Nat},b.Nodup->(∀j∈b,j<ds.l)->(gk ds b).Nodup
 | [],_,_=>gF
 | j::r,hn,hl=>by obtain⟨h1,g⟩:=bT.1 hn;refine bT.2 ⟨λd=>?_,abt h g λk a=>hl k (by simp[a])⟩;obtain⟨k,a,e⟩:=aj.1 d;have f:=hl j gP;have c:=hl k (by simp[a]);dsimp only at e;rw[w8 f,w8 c]at e;have:=(fZ h).1 e;exact h1 (this▸a)
def HK(m:List Int)(ls:List (Int×List Int))(x:D)(st:sx):gQ:=[.row 56 0 [dI m],.map (.int .i64) (oo ls),.row 37 0 (aE ls.l .gV),.row 216 0 [.im 1],.row 37 0 [x],.jJ,.iV 14656 [(2,.ptr 4 0 0)] st]
def aaz{ls:List (Int×List Int)}{ds:List Int}(b:ls.map (·.1)=ds){i:Nat}{k:Value}{d:D}(h:(oo ls)[i]? = some (k,d)):i<ls.l/\k = .int .i64 (gt ds (i:Int)):=by subst b;unfold oo at h;rw[aw]at h;obtain⟨a,f,c⟩:=ar.1 h;obtain⟨hi,e⟩:=ae.1 f;refine⟨hi,?_⟩;rw[w8 (by simpa using hi),br,e];exact(congrArg Prod.fst c).symm
def aha{env:Env}{m:List Int}{ls:List (Int×List Int)}{k:Int}{n:Nat}{a:List Nat}{b:Ob} :
  cut 8 [] { env:=env,H:=[.row 56 0 [dI m],.map (.int .i64) (oo ls),.row 37 0 (aE n .gV),.row 216 0 [.im 1],.row 37 0 [.gR 9 0 1 0 1],.jJ,.iV 14656 [(2,.ptr 4 0 0)] .busy,.jO (.im 1) n a,b,.row 3 0 [.i k]],marks:=[],iI:=true } =
   { env:=[],H:=[.row 56 0 [dI m],.map (.int .i64) (oo ls),.row 37 0 (aE n .gV),.row 216 0 [.im 1],.row 37 0 [.gR 8 0 1 0 1],.jJ,.iV 14656 [(2,.ptr 4 0 0)] .busy,.jO (.im 1) n a,.row 3 0 [.i k]],marks:=[],iI:=true }:=by
 rw[pQ gP gP]
 have c:AP 8 (forget [] env) [.row 56 0 [dI m],.map (.int .i64) (oo ls),.row 37 0 (aE n .gV),.row 216 0 [.im 1],.row 37 0 [.gR 9 0 1 0 1],.jJ,.iV 14656 [(2,.ptr 4 0 0)] .busy,.jO (.im 1) n a,b,.row 3 0 [.i k]] [] = [9]:=by simp[AP]
 rw[c];simp[F1]
def f161(m:List Int)(ls:List (Int×List Int))(G:ls.l<=4000)(h0:0<ls.l)(ds:List Int)(s:ls.map (·.1)=ds)(B:ds.Nodup) :
  Wf T 165 [.jF 6,.ptr 3 0 0] (HK m ls .gV .ready) (λ_ H'=>∃ks:List Int,ks.Nodup/\(∀n,n∈ks↔n∈ds)/\H'=HK m ls (.gR 7 (ks.l-1) 1 0 ks.l) .ready ++ [.row 3 (ks.l-1) (cl f1 ks)]):=by
 have r:ds.l=ls.l:=by rw[<-s,cc]
 have p:∀c,(gk ds c).l=c.l:=λc=>by simp[gk]
 unfold HK;refine Yg NW ?_;simp[NW];refine gZ.e ([]:List Nat) (λy=>[(0,.jF 6),(5,.ptr 7 0 0)]) (λy=>HK m ls (if y = []then .gV else .gR 8 (y.l-1) 1 0 y.l) .ready ++ .jO (.im 1) ls.l y::(if y = []then []else [.row 3 (y.l-1) (cl f1 (gk ds y))])) (λy=>y.Nodup/\∀j∈y,j<ls.l) (λy=>ls.l-y.l) ?_ ?_
 .simp
 rintro c ⟨q,h⟩;dsimp only at q h ⊢
 have A:∀i,i ∉ c->i<ls.l->ls.l-(c ++ [i]).l<ls.l-c.l/\(c ++ [i]).Nodup/\∀j∈c ++ [i],j<ls.l:=λi hi g=>by
  have z:(c ++ [i]).Nodup:=by rw[a8];exact⟨q,gP,λa D b C e=>hi (by rw[bf.1 C]at e;exact e▸D)⟩
  have o:∀j∈c ++ [i],j<ls.l:=λj f=>by
   rcases ai.1 f with f|f
   .exact h j f
   .rw[bf.1 f];exact g
  have:=wL z (m:=cp ls.l) λx v=>aZ.2 (o x v);simp only[aq,aT,fQ]at this;exact⟨by simp only[aq,aT];omega,z,o⟩
 by_cases u:c = []
 .subst u;simp[HK];refine ub.at (m:=1) (since:=ls.l) (seen:=[]) (kk:=.int .i64) (es:=oo ls) gP gP gP (λt=>?_) λi k d l hi=>?_
  .exact absurd (t 0 (by simpa using h0)) gP
  .obtain⟨g,rfl⟩:=aaz s l;simp[l];refine nJ.r (rf:=14656) (env0:=[(2,.ptr 4 0 0)]) (Rd:=yM) gP rfl rfl yM.a yM.b (ng rfl) (ng rfl) ?_;simp[yM,-pQ,aha];simp;refine LJ.i [i] gP (by simp[jw,gk]) rfl rfl ?_;exact⟨iz,gP,λj f=>by rw[bf.1 f];exact g⟩
 .have F:0<c.l:=ay.2 u;have w:=wL q (m:=cp ls.l) λx v=>aZ.2 (h x v);rw[fQ]at w;simp only[if_neg u];simp[HK];refine ub.at (m:=1) (since:=ls.l) (seen:=c) (kk:=.int .i64) (es:=oo ls) gP gP gP (λt=>?_) λi k d l hi=>?_
  .simp;refine⟨gk ds c,?_,Wz (by rw[r];exact h) (by rw[r];simpa using t),?_⟩
   .exact abt B q (by rw[r];exact h)
   .rw[p];exact⟨rfl,rfl,rfl,rfl⟩
  .obtain⟨g,rfl⟩:=aaz s l;have E:=A i hi g;simp[l];refine nJ.r (rf:=14656) (env0:=[(2,.ptr 4 0 0)]) (Rd:=yM) gP rfl rfl yM.a yM.b (ng rfl) (ng rfl) ?_;simp[yM,p];refine gU ?_;refine LJ.i (c ++ [i]) (by first|rfl|simp[Ga,(U:c.l-1+1=c.l)]) (by first|rfl|simp[Ga,(U:c.l-1+1=c.l)]) rfl rfl ?_;exact E
def f160{v gen t:Nat}{l:List Int}{H:gQ}{K:D->gQ->Prop}(h0:0<l.l)(b:l.l<4611686018427387904)(a:H[v]? = some (.row t gen (cl f1 l)))
  (k:K (.tup []) (H.set v (.row t gen (cl f1 (l.mergeSort λx y=>decide (x<=y)))))):Wf T 67 [.gR v gen 1 0 l.l] H K:=by
 rw[yS]at a k;exact Ev.vI l rfl h0 b a ⟨_,_,rfl,k⟩
attribute [-simp] pQ
section
variable{g:gY}{m:List Int}{l:List Pos}
theorem f77(hg:iE g)(J:oF g m)(hl:∀p∈l,ja g p)(Z:l.l<=4000)(h0:0<l.l):Wf T 53 [.agg [dI m],iZ l] [] (Is (.sl 1 ((pR m l).map fI))):=by
 refine Yg O8 ?_;simp[O8];refine gZ.v ((0,[]):Int×List (Int×List Int)) (λy=>[(2,.ptr 0 0 0),(5,.im 1),(13,iZ l),(14,.i l.l),(15,.i y.1)]) (λy=>LH m y.2) (λy=>0<=y.1/\y.1<=l.l/\GI m l y.1 y.2) (λy=>(l.l-y.1).n) ?_ gP (by first|rfl|(simp[jw];done)|(simp[*];done)) rfl rfl rfl ?_
 .exact⟨gP,gP,GI.nil m l⟩
 rintro⟨i,ls⟩ ⟨i0,C,c⟩;dsimp only at i0 C c ⊢
 by_cases hi:i<l.l
 .refine XC.wc ?_;have I:=hl _ (ij i0 hi);have iG:=alG hg J I;simp[hi,CT,CU,CW,CX,CY];(with_reducible repeat' first|refine Xk ?_<;>try simp[CT,CU,CW,CX,CY]|refine Xs ?_ ?_<;>intro h<;>(try intro S)<;>(try simp[h,CT,CU,CW,CX,CY])<;>try omega|refine Xg ?_|omega);refine Yc (f114 hg J I) ?_;simp[CT,CU,CW,CX,CY]
  by_cases k:jn m (gt l i)∈ls.map (·.1)
  .obtain⟨a,x,b,e,L,z⟩:=c.old i0 k;generalize jn m (gt l i)=n at *;have q:=c.pos (n,x) (by rw[e];simp);have O:=c.ar2 (n,x) (by rw[e];simp);dsimp only at q O;have j:oN (kI 2 ls) (.int .i64 n)=some (.gR (2+a.l) (x.l-1) 1 0 x.l):=by rw[e];exact ahI L 2 x b
   have P:∀G,(LH m ls++G)[2+a.l]? = some (.row 3 (x.l-1) (cl f1 x)):=λG=>by rw[e];exact YU m a (n,x) b G
   have F:(x ++ [i]).l=x.l+1:=gP
   have w:lF (kI 2 ls) (.int .i64 n) (.gR (2+a.l) (x.l-1+1) 1 0 (x.l+1))=kI 2 (a++(n,x ++ [i])::b):=by have:=ahK L 2 x (x ++ [i]) b;rw[<-e,F,(U:x.l+1-1=x.l-1+1)]at this;exact this
   have X:∀G,((LH m ls++G).set (2+a.l) (.row 3 (x.l-1+1) (cl f1 (x ++ [i])))).set 1 (.map (.int .i64) (kI 2 (a++(n,x ++ [i])::b)))=LH m (a++(n,x ++ [i])::b)++G:=λG=>by have:=afG m a n x (x ++ [i]) b G;rw[<-e,F,(U:x.l+1-1=x.l-1+1)]at this;exact this
   have E:ls.l=(a++(n,x ++ [i])::b).l:=by rw[e];simp
   simp[j,P,CT,CU,CW,CX,CY,S3,w,-C5];refine gU ?_;refine af9 (ls:=a++(n,x ++ [i])::b) (m:=m) (G:=?_) (by simp[X,w,CT,CU,CW,CX,CY,S3];rfl) gP gP U (by simp;exact R5 U _ _ _) ?_;simp[-Et];refine gU ?_;rw[Et,YW gP U gP (by simp;exact R5 U _ _ _)];refine LJ.e (i+1,a++(n,x ++ [i])::b) ?_;exact iQ z
  .have z:=c.new i0 k;have E:=z.len;rw[aq,aT]at E;generalize jn m (gt l i)=n at *;have j:oN (kI 2 ls) (.int .i64 n)=none:=ahJ k 2;have w:lF (kI 2 ls) (.int .i64 n) (.gR (ls.l+4) 0 1 0 1)=kI 2 ls ++ [(.int .i64 n,.gR (ls.l+4) 0 1 0 1)]:=ahL k 2 _;simp[j,CT,CU,CW,CX,CY,S3,w,-C5];refine aga (m:=m) rfl gP U U (by simp;exact R5 U _ _ _) ?_;simp[-Et];refine gU ?_;rw[Et,YW gP U gP (by simp;exact R5 U _ _ _)];refine LJ.e (i+1,ls ++ [(n,[i])]) ?_;exact iQ z
 .have Q:i=l.l:=by omega
  subst Q;have BY:=c.len;refine Wc.mC (List.range' 2 ls.l) (ac4 _) ?_;rw[afE _ _ _ _ _ c.pos];refine XC.wc ?_;simp[-I4];rw[I4,ahN gP];simp;refine gU ?_;refine ik.inl Iq rfl rfl (by simp[Iq]) rfl ?_;simp[Iq];refine ik.inl Ip rfl rfl (by simp[Ip]) rfl ?_;simp[Ip];refine ik.inl Iy rfl rfl (by simp[Iy]) rfl ?_;simp[Iy];refine ik.inl IA rfl rfl (by simp[IA]) rfl ?_;simp[IA];refine sT.r (f:=165) (first:=[]) (cap:=[.ptr 3 0 0]) rfl rfl rfl rfl ?_;simp
  have D:0<ls.l:=by have:=(c.keys (jn m (gt l 0))).2 (RQ.2 ⟨0,U,U,rfl⟩);obtain⟨e,R,_⟩:=aj.1 this;exact dz R
  refine Wf.mono (f161 m ls U D (ls.map (·.1)) rfl c.nd) ?_;rintro _ H' ⟨ks,k1,k2,rfl⟩
  have Y:ks.l=ls.l:=by have W:=wL k1 (m:=ls.map (·.1)) λx q=>(k2 x).1 q;have V:=wL c.nd (m:=ks) λx q=>(k2 x).2 q;rw[cc]at W V;omega
  have o:=c.AY k1 k2;refine⟨[(2,.ptr 4 0 0)],.ready,by simp[HK],?_⟩;simp[HK,pQ];refine ik.kZ rfl rfl (f160 (l:=ks) (v:=4) (t:=3) (gen:=ks.l-1) (K:=λd H'=>d = .tup []/\H' = [.row 56 0 [dI m],.map (.int .i64) (oo ls),.row 37 0 (aE ls.l .gV),.row 216 0 [.im 1],.row 3 (ks.l-1) (cl f1 (pH m l))]) U U gP ⟨rfl,by simp[o]⟩) ?_;rintro _ H' ⟨rfl,rfl⟩;simp;have s:(pH m l).l=ks.l:=by rw[<-o,dZ]
  have B:(pR m l).l=ks.l:=by unfold pR;rw[cc,s]
  refine gZ.s (by simp[pQ];rfl) ?_;refine gZ.e ((0,0):Int×Nat) (λy=>[(5,.im 1),(9,.gR 2 y.2 1 0 y.1.n),(37,.gR 4 (ks.l-1) 1 0 ks.l),(38,.i ks.l),(39,.i y.1)]) (λy=>[.row 56 0 [dI m],.map (.int .i64) (oo ls),.row 37 y.2 (if y.1=0 then aE ls.l .gV else cl fI ((pR m l).take y.1.n)),.row 216 0 [.im 1],.row 3 (ks.l-1) (cl f1 (pH m l))]) (λy=>0<=y.1/\y.1<=ks.l) (λy=>(ks.l-y.1).n) ?_ ?_
  .simp
  rintro⟨i,M⟩ ⟨i0,C⟩;dsimp only at i0 C ⊢
  by_cases hi:i<ks.l
  .have k:=ij (l:=pH m l) i0 U;have j:=c.get k
   have N:gt (pR m l) i=oW m l (gt (pH m l) i):=by rw[jU i0 U,jU i0 U];unfold pR;rw[br]
   have u:(pR m l).take (i+1).n=(pR m l).take i.n ++ [oW m l (gt (pH m l) i)]:=by rw[jP i0 U,N]
   by_cases H:i=0
   .subst H;rw[if_pos rfl];have r:(pR m l).take 1 = [oW m l (gt (pH m l) 0)]:=u
    have A:∀h,(cl f1 (pH m l))[0]'h = .i (gt (pH m l) 0):=λh=>by rw[jU U U];simp[yS]
    simp[hi,s,j,pQ,A];(with_reducible repeat' first|refine Xk ?_<;>try simp[j,s,pQ,A]|refine Xs ?_ ?_<;>intro h<;>(try intro S)<;>(try simp[h,j,s,pQ,A])<;>try omega|refine Xg ?_|omega);refine LJ.i ((1:Int),M+1) (by first|rfl|simp[r,jw]) (by first|rfl|simp[r,jw]) rfl rfl ?_;exact nE
   .rw[if_neg H];rw[(U:(i+1).n=i.n+1)]at u;simp[hi,s,j,pQ];refine gU ?_;refine LJ.i (i+1,M+1) (by first|rfl|simp[(U:¬(i+1=0)),(U:(i+1).n=i.n+1),u,dH]) (by first|rfl|simp[(U:¬(i+1=0)),(U:(i+1).n=i.n+1),u,dH]) rfl rfl ?_;exact nE
  .have:i=ks.l:=by omega
   subst this;rw[if_neg U];simp[pQ,B]
