/- 16 -/
import Derived.Test.YtmehofoficaelaaGreatDoorP15
set_option linter.all false
open Go.IntKind renaming i64→aE,u8→cc
open And renaming intro→bf
open UInt8 renaming ofNat→cp
open List renaming replicate→di,map_cons→dx,take→er,length→List.l
open Bool renaming true→eh,false→ek,eq_iff_iff→ep
open Option renaming some→ej
open Int renaming toNat→Int.n
namespace Go.Proofs.YtmehofoficaelaaGreatDoor
open Go Go.AL Classical
set_option maxRecDepth 10000
set_option maxHeartbeats 1000000
@[simp] theorem aym(n:Int)(nx:List (List Int))(tn:List Int):closed (bD n nx tn)=true:=by simp[bD]
theorem f104(w d c:Int)(g:0<=w/\w<256)(i:0<=d/\d<256)(j:0<=c/\c<256):Wf T 159 [.val (.int .u8 w),.val (.int .u8 d),.val (.int .u8 c)] [] (Ey (λx:Int×List (List Int)×List Int=>bD x.1 x.2.1 x.2.2) λx=>qp (EC x.1 x.2.1 x.2.2)):=by
 have w1:=kK (a:=w) (b:=3) g.1;have h1:=kK (a:=d) (b:=3) i.1;have w2:aE.wrap (iu w 3)=iu w 3:=qo jc;have k:aE.wrap (iu d 3)=iu d 3:=qo jc;have c2:aE.wrap c=c:=qo jc;refine Yg ME ?_;simp[ME,w2,k];refine gU ?_;obtain⟨n,nx,tn,hg,e⟩:=f149 (1+iu w 3) (1+iu d 3) U U;have o:1<=n/\n<=9:=e.size;refine ik.c rfl rfl hg gP (by simp[bD]) ?_;simp[bD,c2];refine ma ?_ ?_<;>intro h
 .rw[c2];have m:=kK (a:=c) (b:=n) j.1;have l:=bZ c (U:n≠0);have p:=bR c (U:0<n);refine Yv (f150 n nx tn e (iu c n) U) λx f=>?_;simp;simp[bD];exact Ey.i (n,x,tn) rfl rfl f
 .exact Ey.i (n,nx,tn) rfl rfl e
theorem kT.s{T:jt}{n:Nat}{live:List Nat}{a:IR}{s s':St}{K:jD}(hs:s=s')(h:kT T n live a s' K .mk):kT T n live a s K .mk:=by subst hs;exact h
theorem gZ.s{T:jt}{live:List Nat}{a:IR}{s s':St}{K:jD}(hs:s=s')(h:gZ T live a s' K .mk):gZ T live a s K .mk:=by subst hs;exact h
def ZI(l:List Int):cl fU l=l.map λn=>D.val (.int .u8 n):=by
 rw[pO]
 induction l with
 | nil=>rfl
 | cons a r b=>simp[<-b]
@[simp] theorem ams{l:List Int}{k:Nat}{P:D->Prop}:oA (cl fU l)[k]? P .mk=(k<l.l/\P (.val (.int .u8 (gt l k)))):=by
 rw[ZI]
 by_cases h:k<l.l
 .simp[h,gt]
 .simp[h]
@[simp] theorem aw0{l:List Int}{k:Nat}(h:k<(cl fU l).l):(cl fU l)[k] = .val (.int .u8 (gt l k)):=by
 have a:k<l.l:=by simpa using h
 simp[ZI,gt,a]
def f59(g:gY)(hg:iE g)(l:List Int)(hl:l.l=18)(h:∀n∈l,0<=n/\n<256) :
  Wf T 100 [dG g,.agg (cl fU l)] [] (Ey dP (ja g)):=by
 have hb:=hg.kC.size;have w:=hg.kinds;have O:=hg.iw;have P:=Xo O.1 U;have h5:=Hz O.1 U;have h6:(0:Int)<2 ^ g.iw.n:=Int.pow_pos jo;have p:∀k:Nat,k<18->0<=gt l k/\gt l k<256:=λk w=>h _ (ij U U)
 have q:∀k:Nat,k<18->aE.wrap (gt l k)=gt l k:=λk w=>by have:=p k w;exact qo jc
 have N:=q 16 U;have M:=q 17 U;have D:=p 16 U;have z:=p 17 U;simp at N M D z;have Y:=kK (a:=gt l 16) (b:=2 ^ g.iw.n) D.1;have m16:=bZ (gt l 16) (U:(2:Int) ^ g.iw.n≠0);have Z:=bR (gt l 16) h6;have X:=kK (a:=gt l 17) (b:=2) z.1;have r:aE.wrap (iu (gt l 17) 2)=iu (gt l 17) 2:=qo jc;have hR:0<=iu (gt l 16) (2 ^ g.iw.n)/\iu (gt l 16) (2 ^ g.iw.n)<2 ^ g.iw.n:=U;have hS:0<=iu (gt l 17) 2/\iu (gt l 17) 2<=1:=U;refine Yg O5 ?_;simp[O5,P,hl,N,r];generalize iu (gt l 16) (2 ^ g.iw.n)=R at *;generalize iu (gt l 17) 2=S at *;refine pM P hl N r ?_;refine gZ.e ((0,di g.size.n 0):Int×List Int) (λy=>[(2,.ptr 0 0 0),(3,.ptr 1 0 0),(4,.ptr 2 0 0),(5,.ptr 4 0 0),(6,.i y.1)]) (λy=>[.row 43 0 g.cells,.row 30 0 (cl fU l),.row 46 0 [.gV,.gV,.gV,.i 0,.i 0],.row 3 0 (cl f1 y.2),.row 46 0 [.gR 3 0 1 0 g.size.n,.gV,.gV,.i R,.i S]]) (λy=>0<=y.1/\y.1<=6/\y.2.l=g.size.n/\∀x∈y.2,0<=x/\x<=2*g.kinds.l) (λy=>6-y.1.n) ?_ ?_
 .simp;exact oS
 rintro⟨i,cs⟩ ⟨i0,o,I,E⟩;dsimp only at i0 o I E ⊢;have c:max i 0=i:=U
 by_cases hi:i<6
 .have w1:aE.wrap (gt l i)=gt l i:=by have:=q i.n U;rwa [Int.toNat_of_nonneg i0]at this
  have w2:aE.wrap (gt l (6+i))=gt l (6+i):=by have:=q (6+i.n) U;rwa [(U:((6+i.n:Nat):Int)=6+i)]at this
  have s:0<=gt l i:=by have:=p i.n U;rw[Int.toNat_of_nonneg i0]at this;exact this.1
  have Q:0<=gt l (6+i):=by have:=p (6+i.n) U;rw[(U:((6+i.n:Nat):Int)=6+i)]at this;exact this.1
  have G:=kK (a:=gt l i) (b:=g.size+1) s;have e1:=bZ (gt l i) (U:g.size+1≠0);have W:=kK (a:=gt l (6+i)) (b:=g.kinds.l) Q;have e2:=bZ (gt l (6+i)) (U:(g.kinds.l:Int)≠0);have e3:=bR (gt l (6+i)) (U:(0:Int)<g.kinds.l);have V:=kK (a:=i) (b:=2) i0;simp[hl,c,hi,w1,w2];have H:g.kinds≠[]:=by intro h;simp[h]at w
  obtain⟨A,F⟩:∃A,iu (gt l i) (g.size+1)=A:=⟨_,rfl⟩;obtain⟨B,L⟩:∃B,iu (gt l (6+i)) g.kinds.l=B:=⟨_,rfl⟩;obtain⟨C,K⟩:∃B,iu i 2=B:=⟨_,rfl⟩;rw[F]at G;rw[L]at W;rw[K]at V;simp only[F];(with_reducible repeat' first|refine Xk ?_<;>try simp[hl,c,w1,w2,F,L,K,H]|refine Xs ?_ ?_<;>intro h<;>(try intro h')<;>(try simp[h,hl,c,w1,w2,F,L,K,H])<;>try omega|refine Xg ?_|omega)
  .refine jM H ?_;refine LJ.e (i+1,pt cs A (1+2*B+C)) ?_;dsimp only;have hv:0<=1+2*B+C/\1+2*B+C<=2*g.kinds.l:=U;refine iQ ⟨?_,?_⟩
   .have:=jy (l:=cs) (n:=A) (v:=1+2*B+C) U U;omega
   .intro x J;rcases adi J with rfl|J
    .exact hv
    .exact E x J
  .refine LJ.e (i+1,cs) ?_;exact iQ ⟨I,E⟩
 simp[hi]
 have z0:ua g (di g.kinds.l 0):=⟨gP,λk w lS=>by
  have e:gt (di g.kinds.l (0:Int)) k=0:=by simp at lS;have:k.n<g.kinds.l:=U;simp[gt,this]
  rw[e];omega⟩
 refine gZ.un ?_;refine kT.s lO ?_;refine kT.u ?_;simp;refine gU ?_;refine gZ.e ((0,di g.kinds.l 0):Int×List Int) (λy=>[(2,.ptr 0 0 0),(3,.ptr 1 0 0),(4,.ptr 2 0 0),(5,.ptr 4 0 0),(8,.i 0),(9,.i y.1)]) (λy=>[.row 43 0 g.cells,.row 30 0 (cl fU l),.row 46 0 [.gV,.gV,.gV,.i 0,.i 0],.row 3 0 (cl f1 cs),.row 46 0 [.gR 3 0 1 0 g.size.n,.gR 5 0 1 0 g.kinds.l,.gV,.i R,.i S],.row 3 0 (cl f1 y.2)]) (λy=>0<=y.1/\y.1<=g.kinds.l/\ua g y.2) (λy=>g.kinds.l-y.1.n) ?_ ?_
 .simp;exact z0
 rintro⟨i,h0⟩ ⟨i0,o,f⟩;dsimp only at i0 o f ⊢;have c:max i 0=i:=U;have m:=f.len
 by_cases hi:i<g.kinds.l
 .have j:i<2:=by omega
  have w1:aE.wrap (gt l (12+i))=gt l (12+i):=by have:=q (12+i.n) U;rwa [(U:((12+i.n:Nat):Int)=12+i)]at this
  have s:0<=gt l (12+i):=by have:=p (12+i.n) U;rw[(U:((12+i.n:Nat):Int)=12+i)]at this;exact this.1
  have G:=kK (a:=gt l (12+i)) (b:=3) s
  by_cases d:(gt g.kinds i).keep=eh
  .have u:∀v,(pt h0 i v).l=h0.l:=λv=>jy i0 U;have t:i.n<g.kinds.l:=U;simp[hl,c,hi,j,d,w1,u,m,t];refine YZ (bf hl (bf c hi)) (bf j (bf d w1)) (bf u (bf m t)) ?_ ?_<;>intro h
   .refine LJ.e (i+1,pt (pt h0 i (iu (gt l (12+i)) 3)) i 8) ?_;refine iQ ?_;exact(f.set i0 U (oO (λ_=>d))).set i0 (by rw[jy i0 U];omega) (oO (λ_=>d))
   .refine LJ.e (i+1,pt h0 i (iu (gt l (12+i)) 3)) ?_;exact iQ (f.set i0 U (oO (λ_=>d)))
  .simp[hl,c,hi,j,d,w1];refine kf (bf hl c) (bf hi j) (bf d w1) ?_;refine LJ.e (i+1,h0) ?_;exact iQ f
 simp[hi];refine jM hi ?_;clear hi c i0 o m
 rename ua g h0=>ok0
 refine kT.s lO ?_;refine kT.u ?_;simp;refine gU ?_;refine gZ.e ((0,di g.kinds.l 0):Int×List Int) (λy=>[(2,.ptr 0 0 0),(3,.ptr 1 0 0),(4,.ptr 2 0 0),(5,.ptr 4 0 0),(8,.i 1),(9,.i y.1)]) (λy=>[.row 43 0 g.cells,.row 30 0 (cl fU l),.row 46 0 [.gV,.gV,.gV,.i 0,.i 0],.row 3 0 (cl f1 cs),.row 46 0 [.gR 3 0 1 0 g.size.n,.gR 5 0 1 0 g.kinds.l,.gR 6 0 1 0 g.kinds.l,.i R,.i S],.row 3 0 (cl f1 h0),.row 3 0 (cl f1 y.2)]) (λy=>0<=y.1/\y.1<=g.kinds.l/\ua g y.2) (λy=>g.kinds.l-y.1.n) ?_ ?_
 .simp;exact z0
 rintro⟨i,h1⟩ ⟨i0,o,f⟩;dsimp only at i0 o f ⊢;have c:max (2+i) 0=(2+i):=U;have m:=f.len
 by_cases hi:i<g.kinds.l
 .have j:i<2:=by omega
  have w1:aE.wrap (gt l (12+(2+i)))=gt l (12+(2+i)):=by have:=q (12+(2+i).n) U;rwa [(U:((12+(2+i).n:Nat):Int)=12+(2+i))]at this
  have s:0<=gt l (12+(2+i)):=by have:=p (12+(2+i).n) U;rw[(U:((12+(2+i).n:Nat):Int)=12+(2+i))]at this;exact this.1
  have G:=kK (a:=gt l (12+(2+i))) (b:=3) s
  by_cases d:(gt g.kinds i).keep=eh
  .have u:∀v,(pt h1 i v).l=h1.l:=λv=>jy i0 U;have t:i.n<g.kinds.l:=U;simp[hl,c,hi,j,d,w1,u,m,t];refine YZ (bf hl (bf c hi)) (bf j (bf d w1)) (bf u (bf m t)) ?_ ?_<;>intro h
   .refine LJ.e (i+1,pt (pt h1 i (iu (gt l (12+(2+i))) 3)) i 8) ?_;refine iQ ?_;exact(f.set i0 U (oO (λ_=>d))).set i0 (by rw[jy i0 U];omega) (oO (λ_=>d))
   .refine LJ.e (i+1,pt h1 i (iu (gt l (12+(2+i))) 3)) ?_;exact iQ (f.set i0 U (oO (λ_=>d)))
  .simp[hl,c,hi,j,d,w1];refine kf (bf hl c) (bf hi j) (bf d w1) ?_;refine LJ.e (i+1,h1) ?_;exact iQ f
 simp[hi];refine jM hi ?_;clear hi c i0 o m
 rename ua g h1=>ok1
 refine kT.s lO ?_;refine kT.u ?_;simp;refine gU ?_;exact Ey.i ⟨cs,h0,h1,R,S⟩ (by simp[I,ok0.len,ok1.len,dP,Pos.cells]) rfl ⟨by simp only;omega,ok0,ok1,hR,hS,E⟩
end Go.Proofs.YtmehofoficaelaaGreatDoor
namespace Go.AL
open Go
@[simp] theorem as8(ρ:Nat->Option Nat)(H:gQ)(k:Nat)(f:Fn)(a b:List D):ib ρ H (k+1) (.fn f a b) = .fn f (a.map (ib ρ H k)) (b.map (ib ρ H k)):=by
 by_cases h:closed (.fn f a b)=eh
 .have c:=h;simp only[Tu,Bool.and_eq_true]at c;rw[qn h,Ew c.1,Ew c.2]
 .rw[ib,if_neg h]
@[simp] theorem aDT(ρ:Nat->Option Nat)(H:gQ)(k:Nat)(cs:List D):ib ρ H (k+1) (.ie cs) = .ie (cs.map (ib ρ H k)):=by
 by_cases h:closed (.ie cs)=eh
 .rw[qn h,Ew (by simpa using h)]
 .rw[ib,if_neg h]
def yS(l:List Int):cl f1 l=l.map λn=>D.i n:=by
 rw[pO]
 induction l with
 | nil=>rfl
 | cons a r b=>simp[<-b]
def ahj{ρ:Nat->Option Nat}{H:gQ}{k n:Nat}{t:TypeId}{cs:List D}(l:List Int)(h:cs=l.map λn=>D.i n)(a:n=l.l):oq ρ H (k+1) 1 0 n (ej (t,cs))=dI l:=by rw[h,<-yS,uX a];rfl
@[simp] theorem aEE(a b:ByteArray):H6 .eql a b=ej (.b (decide (a=b))):=by
 have:(a.data.toList == b.data.toList)=decide (a=b):=by
  rw[ep,beq_iff_eq,decide_eq_true_iff];constructor
  .intro h;cases a;cases b;congr 1;exact gq.1 h
  .rintro rfl;rfl
 show ej (D.val (.bool _))=_;rw[this]
@[simp] theorem axw(t:TypeId)(s:ByteArray)(n:Nat):sU t (.val (.string s)) n=ej (.ptr n 0 0,.new (.row t 0 [.val (.string s)])):=rfl
@[simp] theorem axt(t:TypeId)(m:Int)(n:Nat):sU t (.i m) n=ej (.ptr n 0 0,.new (.row t 0 [.i m])):=rfl
@[simp] theorem ayu(l:List (List gT)):closed (dN 1 fP l)=true:=Db (λa=>by simp[iB]) l
def LC(rf:Nat)(st:sx)(x:Option Ob)(P:Env->Prop):Prop:=∃env,x=ej (.iV rf env st)/\P env
@[simp] theorem aC9{rf:Nat}{st:sx}{env:Env}{P:Env->Prop}:LC rf st (ej (.iV rf env st)) P=P env:=propext ⟨λ⟨_,h,k⟩=>by cases h;exact k,λk=>⟨_,rfl,k⟩⟩
section
variable{T:jt}{v rf:Nat}{b:IR}{dst:Option Nat}{s s1:St}{K:St->Prop}
@[simp] theorem aDx:aen T v rf b dst s K (.norm s1)=LC rf .ready s1.H[v]? λa=>XC T b { s1 with H:=s1.H.set v (.iV rf a .busy) } (EN v rf dst s K):=rfl
@[simp] theorem aDz:EN v rf dst s K (.norm s1)=LC rf .busy s1.H[v]? λa=>K { s with env:=put s.env dst (.b eh),H:=s1.H.set v (.iV rf a .ready) }:=rfl
@[simp] theorem aDy{id:Nat}:EN v rf dst s K (.exit id s1)=LC rf .busy s1.H[v]? λa=>K { s with env:=put s.env dst (.b ek),H:=s1.H.set v (.iV rf a (.Bu id)) }:=rfl
@[simp] theorem aDA:EN v rf dst s K (.ret s1)=LC rf .busy s1.H[v]? λa=>K { s with env:=put s.env dst (.b ek),H:=s1.H.set v (.iV rf a .Df) }:=rfl
@[simp] theorem aDE{l:List D}{e:Env}:wP [] l e=e:=by cases l<;>rfl
@[simp] theorem aDD{k:Nat}{d:D}{ks:List Nat}{l:List D}{e:Env}:wP (k::ks) (d::l) e=wP ks l ((k,d)::e):=rfl
@[simp] theorem aC7{s:St}:Cu s .ready=ej (.norm s):=rfl
@[simp] theorem aC6{s:St}{id:Nat}:Cu s (.Bu id)=ej (.exit id s):=rfl
@[simp] theorem aC8{s:St}:Cu s .Df=ej (.ret s):=rfl
end
@[simp] theorem aCh(n:Nat):pg n .jJ = []:=rfl
@[simp] theorem aCj(n rf:Nat)(e:Env)(st:sx):pg n (.iV rf e st) = []:=rfl
theorem ik.nr{T:jt}{f:FuncId}{args qt:List D}{dst:Option Nat}{s:St}{K:St->Prop}{fn:kn}{d:D}{Hn:gQ}(g:T.fn f=ej fn)(e:fn.full=ek)(h:Wf T f qt [] λd' H'=>d'=d/\H'=Hn)
  (hs:args.map (ib (λ_=>none) s.H 40)=qt) (c:(rl d&&Hn.all r8)=eh) (b:(oC d&&Hn.all pP)=eh) (k:K { s with env:=put s.env dst (lL s.H.l d),H:=s.H++Hn }):ik T f args dst s K .mk:=by
 refine ik.is g e (K0:=λd' H'=>d'=d/\H'=Hn) (by rw[hs];exact h) ?_;rintro d' i ⟨rfl,rfl⟩;refine⟨_,?_,k⟩;unfold after
 by_cases a:iB args=eh
 .rw[if_pos a,if_pos b]
 .rw[if_neg a,if_pos c]
@[simp] theorem aCn(v g sz off n:Nat):rl (.gR v g sz off n)=true:=rfl
@[simp] theorem azh(t g:Nat)(cs:List D):r8 (.row t g cs)=w7 cs:=rfl
@[simp] theorem azg(l:List Int):w7 (cl f1 l)=true:=by
 rw[yS]
 induction l with
 | nil=>rfl
 | cons a r b=>simpa[w7,flat]using b
end Go.AL
namespace Go.Proofs.YtmehofoficaelaaGreatDoor
open Go Go.AL Classical
set_option maxRecDepth 10000
set_option maxHeartbeats 4000000
def f133(g:gY)(hg:iE g)(n:Int)(a:0<=n/\n<=2*g.kinds.l):Wf T 168 [dG g,.i n] [] (Is (.b eh)):=by have b:=hg.kinds;refine Yg ND ?_;simp[ND];exact oS
def f134(g:gY)(hg:iE g)(n:Int)(a:0<=n/\n<=2*g.kinds.l):Wf T 169 [.i n,.ie [.fn (.func 168) [dG g] []]] [] (Is (.b ek)):=by refine Yg NF ?_;simp[NF];refine Yc (f133 g hg n a) ?_;simp
def f178(g:gY)(hg:iE g)(l:List Int)(hl:∀n∈l,0<=n/\n<=2*g.kinds.l)(b:l.l<=9):Wf T 230 [dI l,.fn (.func 169) [] [.ie [.fn (.func 168) [dG g] []]]] [] (Is (.i (-1))):=by
 refine Yg Fw ?_;simp[Fw];refine gZ.e (0:Int) (λy=>[(0,dI l),(1,.fn (.func 169) [] [.ie [.fn (.func 168) [dG g] []]]),(7,.i l.l),(8,.i y)]) (λy=>[]) (λy=>0<=y/\y<=l.l) (λy=>(l.l-y).n) ?_ ?_
 .simp
 rintro i ⟨i0,a⟩;dsimp only at i0 a ⊢
 by_cases hi:i<l.l
 .simp[hi];refine gU ?_;refine Yc (f134 g hg (gt l i) (hl _ (ij i0 hi))) ?_;simp;refine gU ?_;refine LJ.e (i+1) ?_;exact nE
 .simp[hi]
def f135(g:gY)(hg:iE g)(l:List Int)(hl:∀n∈l,0<=n/\n<=2*g.kinds.l)(a:l.l<=9):Wf T 170 [dI l,.fn (.func 169) [] [.ie [.fn (.func 168) [dG g] []]]] [] (Is (.b ek)):=by refine Yg Fv ?_;simp[Fv];refine Yc (f178 g hg l hl a) ?_;simp
def f136(g:gY)(hg:iE g)(l:List Int)(hl:ua g l):Wf T 171 [dG g,dI l] [] (Is (.b eh)):=by
 have h:=hg.kinds;have d:=hl.len;refine Yg NG ?_;simp[NG];refine jM d ?_;refine gZ.e (0:Int) (λy=>[(2,.ptr 0 0 0),(14,dI l),(15,.i g.kinds.l),(16,.i y)]) (λy=>[.row 279 0 g.cells]) (λy=>0<=y/\y<=l.l) (λy=>(l.l-y).n) ?_ ?_
 .simp
 rintro i ⟨i0,c⟩;dsimp only at i0 c ⊢
 by_cases hi:i<l.l
 .have e:=hl.at_ i i0 hi;have f:i<g.kinds.l:=U
  by_cases a:0<gt l i
  .have b:=e.2.2 a;simp[hi];refine ko b a ?_;refine LJ.e (i+1) ?_;exact nE
  .simp[hi];refine jM a ?_;refine LJ.e (i+1) ?_;exact nE
 .simp[(U:¬i<g.kinds.l)]
def f97(g:gY)(hg:iE g)(p:Pos)(a:ja g p):Wf T 109 [dG g,dP p] [] (Is (.b eh)):=by
 have f:=hg.kinds;have d:=hg.iw;have e:=a.iw;have hs:=a.side;have c:=a.size;have i:=hg.kC.size;have b:=Xo d.1 U;refine Yg Pn ?_;simp[Pn,b,c];refine ke.r rfl rfl (f135 g hg p.cs a.cs U) gP (by simp[flat]) gP ?_;simp;refine Yt (f136 g hg p.h0 a.h0) ?_;simp;refine Yt (f136 g hg p.h1 a.h1) ?_;simp;refine FK b ?_ ?_<;>intro h
 .simp[*]
 .have:p.side=1:=by omega
  simp[*]
def f177(n:Int):Wf T 251 [.i n] [] (Is (.b ek)):=by refine Yg N2 ?_;simp[N2]
def f131(a b:Int):Wf T 220 [.i a,.i b] [] (Is (.i (mf a b))):=by
 refine Yg NB ?_;simp[NB];refine Yc (f177 a) ?_;simp;refine Yc (f177 b) ?_;simp;(with_reducible repeat' first|refine Xk ?_<;>try simp|refine Xs ?_ ?_<;>intro h<;>(try intro c)<;>(try simp[h])<;>try omega|refine Xg ?_|omega)
 all_goals
  unfold mf;(repeat' split)<;>(first|rfl|(exfalso;omega))
def f130(a b:List Int)(l:a.l<2 ^ 40)(k:b.l<2 ^ 40):Wf T 219 [dI a,dI b] [] (Is (.i (l7 a b))):=by
 refine Yg NA ?_;simp[NA];refine gZ.e (0:Int) (λi=>[(0,dI a),(1,dI b),(9,dI a),(10,.i a.l),(11,.i i)]) (λi=>[]) (λi=>0<=i/\i<=a.l/\i<=b.l/\a.take i.n=b.take i.n) (λi=>a.l-i.n) ?_ ?_
 .simp
 rintro i ⟨h0,h1,j,f⟩;have e:=acP f U U
 by_cases hi:i<a.l
 .by_cases d:i<b.l
  .simp[hi,d];refine gU ?_;refine Yc (f131 (gt a i) (gt b i)) ?_;simp
   by_cases c:mf (gt a i) (gt b i)=0
   .simp[c];refine gU ?_;refine LJ.e (i+1) ?_;refine Hy ?_;rw[jP h0 hi,jP h0 d,f,AI.1 c]
   .simp[c];rw[e,pa h0 hi,pa h0 d,l7,if_neg (λh=>c (AI.2 h))]
  .simp[hi,d];refine gU ?_
   have g:mf ((a.drop i.n).l) ((b.drop i.n).l)=1:=by simp only[aU,mf];rw[if_neg U,if_pos U]
   rw[e,Wd (by simp only[aU];omega),g]
 .simp[hi];refine ma ?_ ?_<;>intro h
  all_goals
   rw[e,Wd (by simp only[aU];omega)];simp only[aU,mf];(repeat' split)<;>omega
def f129(l:List Int)(hl:l.l<2 ^ 40):Wf T 218 [dI l] [] (Is (.i (pc l))):=by
 refine Yg Nx ?_;simp[Nx];refine gZ.e (0:Int) (λi=>[(3,.i 0),(6,dI l),(7,.i l.l),(8,.i i)]) (λi=>[]) (λi=>0<=i/\i<=l.l/\pc l=pc (l.drop i.n)) (λi=>l.l-i.n) ?_ ?_
 .simp
 rintro i ⟨h0,h1,b⟩
 by_cases hi:i<l.l
 .rw[pa h0 hi]at b
  by_cases a:gt l i=0
  .simp[hi,a];refine gU ?_;refine LJ.e (i+1) ?_;refine iQ ?_;rw[b];simp only[pc,a];rw[if_neg gP,(U:(i+1).n=i.n+1)]
  .simp[hi,a];refine gU ?_;rw[b];simp[pc,a]
 .simp[hi];rw[b,bF U];rfl
def f88(p q:Pos)(b:Small p)(a:Small q):Wf T 152 [dP p,dP q] [] (Is (.i (jz p q))):=by refine Yg Pd ?_;simp[Pd];refine Yt (f130 _ _ b.1 a.1) ?_;simp;refine Yt (f130 _ _ b.2.1 a.2.1) ?_;simp;refine Yt (f130 _ _ b.2.2 a.2.2) ?_;simp;refine Yt (f131 _ _) ?_;simp;refine Yt (f131 _ _) ?_;simp;refine ke.r rfl rfl (f129 [l7 p.cs q.cs,l7 p.h0 q.h0,l7 p.h1 q.h1,mf p.iw q.iw,mf p.side q.side] gP) (by simp;exact ahj _ rfl rfl) (by simp[flat]) gP ?_;simp;rfl
def f100(l:List Pos)(hl:l.l<2 ^ 40)(hs:∀p∈l,Small p)(a:mr l):Wf T 112 [iZ l] [] (Is (.b eh)):=by
 refine Yg Mv ?_;simp[Mv];refine gU ?_;refine gZ.e (0:Int) (λi=>[(0,iZ l),(6,.i (l.l-1)),(7,.i i)]) (λi=>[]) (λi=>0<=i) (λi=>l.l-i.n) ?_ ?_
 .simp
 rintro i h0
 by_cases hi:i<l.l-1
 .simp[hi];refine gU ?_;refine Yt (f88 _ _ (hs _ (ij h0 U)) (hs _ (ij (n:=i+1) U U))) ?_;simp;have:=a (i+1) U U;rw[eD]at this;simp[(U:¬ 0<=jz (gt l i) (gt l (i+1)))];refine gU ?_;refine LJ.e (i+1) ?_;exact jc
 .simp[hi]
def f96(g:gY)(hg:iE g)(p:Pos)(a:ja g p):Wf T 108 [dP p,.ie g.cells] [] (Is (.b ek)):=by refine Yg Pm ?_;simp[Pm];refine Yc (f97 g hg p a) ?_;simp
def f147(g:gY)(hg:iE g)(l:List Pos)(hl:∀p∈l,ja g p)(b:l.l<2 ^ 40):Wf T 182 [iZ l,.fn (.func 108) [] [.ie g.cells]] [] (Is (.i (-1))):=by
 refine Yg NQ ?_;simp[NQ];refine gZ.e (0:Int) (λy=>[(0,iZ l),(1,.fn (.func 108) [] [.ie g.cells]),(7,.i l.l),(8,.i y)]) (λy=>[]) (λy=>0<=y/\y<=l.l) (λy=>(l.l-y).n) ?_ ?_
 .simp
 rintro i ⟨i0,a⟩
 by_cases hi:i<l.l
 .simp[hi];refine gU ?_;refine Yc (f96 g hg (gt l i) (hl _ (ij i0 hi))) ?_;simp;refine gU ?_;refine LJ.e (i+1) ?_;exact nE
 .simp[hi]
def f99(g:gY)(hg:iE g)(l:List Pos)(hl:∀p∈l,ja g p)(a:l.l<2 ^ 40):Wf T 111 [iZ l,.fn (.func 108) [] [.ie g.cells]] [] (Is (.b ek)):=by refine Yg Pp ?_;simp[Pp];refine Yc (f147 g hg l hl a) ?_;simp
def rC(l:List il):D:=dN 8 il.cells l
@[simp] theorem agQ(l:List il):closed (rC l)=true:=Db (λa=>by simp[il.cells,iB]) l
theorem f132(l:List Int)(h:0<l.l)(b:l.l<2 ^ 40):Wf T 265 [dI l] [] (λd H=>d = .gR 0 1 1 0 l.l/\H = [.row 3 1 (cl f1 l)]):=by refine Yg NC ?_;simp[NC];refine oA.i (a:=.b ek) (by cases l with|nil=>exact absurd h gP|cons a r=>rfl) ?_;simp;exact oS
def f91(s:il)(hs:Small s.p)(h0:0<s.p.cs.l/\0<s.p.h0.l/\0<s.p.h1.l):Wf T 215 [.agg s.cells] [] (λd H=>d = .agg [.gR 0 1 1 0 s.p.cs.l,.gR 1 1 1 0 s.p.h0.l,.gR 2 1 1 0 s.p.h1.l,.i s.p.iw,.i s.p.side,.i s.kind,.i s.cur,.b s.kP]/\H = [.row 3 1 (cl f1 s.p.cs),.row 3 1 (cl f1 s.p.h0),.row 3 1 (cl f1 s.p.h1)]):=by refine Yg Pf ?_;simp[Pf,il.cells];refine Yn (f132 s.p.cs h0.1 hs.1) ?_;simp;refine rX.n rfl rfl (f132 s.p.h0 h0.2.1 hs.2.1) gP gP ?_;simp;refine rX.n rfl rfl (f132 s.p.h1 h0.2.2 hs.2.2) gP gP ?_;simp
def f241(s:il)(b:Bool):Wf T 323 [.agg s.cells,.b b] [] (Is (rC (if b then [s]else []))):=by
 refine Yg OB ?_;simp[OB,il.cells];cases b
 .simp;rfl
 .simp;rfl
def f243(s:il)(h:0<=s.cur/\s.cur<s.p.cs.l)(hs:Small s.p):Wf T 325 [.agg s.cells] [] (Is (.tup [.i (iC (gt s.p.cs s.cur)),.i (lg (gt s.p.cs s.cur))])):=by refine Yg OD ?_;simp[OD,il.cells];refine gU ?_;refine Yc (f84 _) ?_;simp
def f199(g:gY)(hg:iE g)(s:il)(hs:lj g s)(n:Int):Wf T 300 [.agg s.cells,dG g,.i n] [] (Is (rC (jT g s (1,n)))):=by refine Yg Oh ?_;simp[Oh,il.cells];refine Yc (f240 g hg.kC s.p.side n s.cur) ?_;simp;refine ik.c rfl rfl (f241 { s with cur:=mK g s.p.side n s.cur } (decide (0<=mK g s.p.side n s.cur))) (by simp[il.cells]) gP ?_;simp[jT]
def f201(g:gY)(hg:iE g)(s:il)(hs:lj g s)(n:Int):Wf T 302 [.agg s.cells,dG g,.i n] [] (Is (rC (jT g s (3,n)))):=by have b:=hs.p.size;have a:=hs.cur;refine Yg Oj ?_;simp[Oj,il.cells];refine gU ?_;refine ke.c rfl rfl (f241 s (decide (gt s.p.cs s.cur=0))) (by simp[il.cells]) gP ?_;simp[jT]
def f202(g:gY)(hg:iE g)(s:il)(hs:lj g s)(n:Int):Wf T 303 [.agg s.cells,dG g,.i n] [] (Is (rC (jT g s (4,n)))):=by have b:=hs.p.size;have a:=hs.cur;have c:=hs.p.side;refine Yg Ol ?_;simp[Ol,il.cells];refine ik.c rfl rfl (f243 s U (hs.p.small hg)) (by simp[il.cells]) gP ?_;simp;refine gU ?_;refine ik.c rfl rfl (f241 s (decide (lg (gt s.p.cs s.cur)=1-s.p.side))) (by simp[il.cells]) gP ?_;simp[jT]
def f203(g:gY)(hg:iE g)(s:il)(hs:lj g s)(n:Int):Wf T 304 [.agg s.cells,dG g,.i n] [] (Is (rC (jT g s (5,n)))):=by have b:=hs.p.size;have a:=hs.cur;refine Yg Om ?_;simp[Om,il.cells];refine ik.c rfl rfl (f243 s U (hs.p.small hg)) (by simp[il.cells]) gP ?_;simp;refine ik.c rfl rfl (f241 s (decide (lg (gt s.p.cs s.cur)=s.p.side))) (by simp[il.cells]) gP ?_;simp[jT]
def f206(g:gY)(s:il)(n:Int):Wf T 307 [.agg s.cells,dG g,.i n] [] (Is (rC (jT g s (8,n)))):=by refine Yg Oo ?_;simp[Oo,il.cells];rfl
def f207(g:gY)(hg:iE g)(s:il)(hs:lj g s)(n:Int)(c:0<=n/\n<g.iw):Wf T 308 [.agg s.cells,dG g,.i n] [] (Is (rC (jT g s (9,n)))):=by have b:=hs.p.iw;have a:=hg.iw;have e:=Hz a.1 U;have d:=aeg (r:=s.p.iw) (n:=n) b.1 U c.1 U;refine Yg Oq ?_;simp[Oq,il.cells];refine gU ?_;refine ke.c rfl rfl (f241 s (decide (bits BinOp.and aE (nV aE s.p.iw n) 1=1))) (by simp[il.cells]) gP ?_;simp[jT,d]
def f208(g:gY)(hg:iE g)(s:il)(hs:lj g s)(n:Int)(d:0<=n/\n<g.iw):Wf T 309 [.agg s.cells,dG g,.i n] [] (Is (rC (jT g s (10,n)))):=by have c:=hs.p.iw;have b:=hg.iw;have e:=Hz b.1 U;have a:=aeh (r:=s.p.iw) (n:=n) c.1 U d.1 U;refine Yg Ot ?_;simp[Ot,il.cells,a];refine jM a ?_;rfl
def f205(g:gY)(hg:iE g)(s:il)(hs:lj g s)(n:Int):Wf T 306 [.agg s.cells,dG g,.i n] [] (Is (rC (jT g s (7,n)))):=by
 have i:=hs.p.size;have a:=hs.cur;have b:=hs.p.small hg;have c:=hg.kC.size;have k:=hg.kinds;have f:=hs.p.h0.len;have d:=hs.p.h1.len;have j:=hg.kC.to s.p.side n s.cur;have e:jT g s (7,n)=vE g s n:=by simp[jT]
 rw[e];refine Yg On ?_;simp[On,il.cells];refine Yc (f240 g hg.kC s.p.side n s.cur) ?_;simp;(with_reducible repeat' first|refine Xk ?_<;>try simp|refine Xs ?_ ?_<;>intro h<;>(try intro m)<;>(try simp[h])<;>try omega|refine Xg ?_|omega)
 .rw[vE,if_pos pK];rfl
 .rw[vE,if_pos pK];rfl
 .have q0:=jy (l:=s.p.cs) (n:=mK g s.p.side n s.cur) (v:=gt s.p.cs s.cur) U U;have q1:=jy (l:=pt s.p.cs (mK g s.p.side n s.cur) (gt s.p.cs s.cur)) (n:=s.cur) (v:=0) a.1 U;refine Yn (f91 s b U) ?_;simp;refine ko q0 q1 ?_;simp[vE, *];rfl
 .rw[vE,if_pos pK];rfl
def f204(g:gY)(hg:iE g)(s:il)(hs:lj g s)(n:Int):Wf T 305 [.agg s.cells,dG g,.i n] [] (Is (rC (jT g s (6,n)))):=by
 have t:=hs.p.size;have c:=hs.cur;have d:=hs.p.small hg;have o:=hg.kC.size;have f:=hg.kinds;have r:=hs.p.h0.len;have q:=hs.p.h1.len;have i:=hs.p.cs _ (ij c.1 U);have u:=hs.p.side;have e:jT g s (6,n)=uK g s:=by simp[jT]
 rw[e];refine Yz IB (jY 52 [2,3,4] IB.body) ?_;simp[IB,jY,lV,po,py,pY,nQ,il.cells];refine ik.c rfl rfl (f243 s U d) (by simp[il.cells]) gP ?_;simp
 by_cases a:lg (gt s.p.cs s.cur)=1-s.p.side
 .have x:0<=iC (gt s.p.cs s.cur):=by
   unfold lg at a;unfold iC;split at a<;>rename_i k
   .rw[if_pos k];omega
   .omega
  have w:iC (gt s.p.cs s.cur)<g.kinds.l:=zq i.2 f.1;have m:s.p.side=0\/s.p.side=1:=U;have q0:=jy (l:=s.p.cs) (n:=s.cur) (v:=0) c.1 U;simp[a];refine gU ?_;refine Yn (f91 s d U) ?_;simp;refine FK q0 ?_ ?_<;>intro h
  .have b:=h;rcases m with e|e
   .have j:=hs.p.h0.at_ _ U (U:iC (gt s.p.cs s.cur)<s.p.h0.l);have q1:=Dx (l:=s.p.h0) (n:=iC (gt s.p.cs s.cur)) (v:=gt s.p.h0 (iC (gt s.p.cs s.cur))+1) U U;have q2:=jy (l:=s.p.h0) (n:=iC (gt s.p.cs s.cur)) (v:=gt s.p.h0 (iC (gt s.p.cs s.cur))+1) U U;simp[e,q0,q1,q2];refine kf q0 q1 q2 ?_;refine ke.c rfl rfl (f241 { p:={ s.p with cs:=pt s.p.cs s.cur 0,h0:=pt s.p.h0 (iC (gt s.p.cs s.cur)) (gt s.p.h0 (iC (gt s.p.cs s.cur))+1),side:=0 },kind:=s.kind,cur:=s.cur,kP:=eh } (decide (gt s.p.h0 (iC (gt s.p.cs s.cur))+1<=8))) (by simp[il.cells]) gP ?_;simp[uK,a,b,Pos.hand,Pos.mW,e];done
   .have j:=hs.p.h1.at_ _ U (U:iC (gt s.p.cs s.cur)<s.p.h1.l);have q1:=Dx (l:=s.p.h1) (n:=iC (gt s.p.cs s.cur)) (v:=gt s.p.h1 (iC (gt s.p.cs s.cur))+1) U U;have q2:=jy (l:=s.p.h1) (n:=iC (gt s.p.cs s.cur)) (v:=gt s.p.h1 (iC (gt s.p.cs s.cur))+1) U U;simp[e,q0,q1,q2];refine kf q0 q1 q2 ?_;refine ke.c rfl rfl (f241 { p:={ s.p with cs:=pt s.p.cs s.cur 0,h1:=pt s.p.h1 (iC (gt s.p.cs s.cur)) (gt s.p.h1 (iC (gt s.p.cs s.cur))+1),side:=1 },kind:=s.kind,cur:=s.cur,kP:=eh } (decide (gt s.p.h1 (iC (gt s.p.cs s.cur))+1<=8))) (by simp[il.cells]) gP ?_;simp[uK,a,b,Pos.hand,Pos.mW,e];done
  .simp[uK,a,h,q0];rfl
 .simp[a];refine gU ?_;rw[uK,if_pos a];rfl
def f259(g:gY)(s d c:Int):Wf T 331 [g.kC,.i s,.i d,.i c] [] (Is (.fn (.func 335) [] [.ie [.i g.size,.sl 1 (g.next.map fI),dI g.jC],.ie [.i s],.ie [.i d],.ie [.i c]])):=by refine Yg OM ?_;simp[OM]
def f266(l:List Int)(n:Int)(hl:l.l<2 ^ 40):Wf T 336 [dI l,.i n] [] (Ey (λr:Int=>.i r) λr=>0<=r↔n∈l):=by
 refine Yg Fy ?_;simp[Fy];refine gZ.e (0:Int) (λy=>[(0,dI l),(1,.i n),(7,.i l.l),(8,.i y)]) (λy=>[]) (λy=>0<=y/\y<=l.l/\n ∉ l.take y.n) (λy=>(l.l-y).n) ?_ ?_
 .simp
 rintro i ⟨i0,b,a⟩
 by_cases hi:i<l.l
 .simp[hi];refine ma ?_ ?_<;>intro h
  .exact Ey.i i rfl rfl ⟨λ_=>by have:=ij i0 hi;simp_all,λ_=>i0⟩
  .refine LJ.e (i+1) ?_;refine iQ ?_;rw[jP i0 hi];simp[a];omega
 .simp[hi];rw[nf U]at a;exact Ey.i (-1) rfl rfl ⟨λh=>U,λh=>absurd h a⟩
def f260(l:List Int)(n:Int)(hl:l.l<2 ^ 40):Wf T 332 [dI l,.i n] [] (Is (.b (decide (n∈l)))):=by refine Yg Fx ?_;simp[Fx];refine Yq (f266 l n hl) λr a=>?_;simp;simp[a]
def ai4(n:Int):Wf T 336 [.gV,.i n] [] (Is (.i (-1))):=by refine Yg Fy ?_;simp[Fy];refine gZ.un ?_;refine kT.u ?_;simp
def ai3(n:Int):Wf T 332 [.gV,.i n] [] (Is (.b ek)):=by refine Yg Fx ?_;simp[Fx];refine Yc (ai4 n) ?_;simp
def f265(g:gY)(hg:qp g)(s d c:Int):Wf T 335 [.jF 4,.ie [.i g.size,.sl 1 (g.next.map fI),dI g.jC],.ie [.i s],.ie [.i d],.ie [.i c]]
  [.row 39 0 [.i g.size,.sl 1 (g.next.map fI),dI g.jC],.row 3 0 [.i c],.row 37 0 [.gV],.jJ,.iV 20736 [(7,.ptr 1 0 0),(9,.ptr 2 0 0)] .ready]
  (λ_ H'=>∃st,(st = .ready\/st = .Bu 0)/\H' = [.row 39 0 [.i g.size,.sl 1 (g.next.map fI),dI g.jC],.row 3 0 [.i c],.row 37 0 [if mI g s d c = []then .gV else .gR 5 ((mI g s d c).l-1) 1 0 (mI g s d c).l],.jJ,.iV 20736 [(7,.ptr 1 0 0),(9,.ptr 2 0 0)] st]++(if mI g s d c = []then []else [.row 3 ((mI g s d c).l-1) (cl f1 (mI g s d c))])):=by
 have q:=hg.size;refine Yg OP ?_;simp[OP];refine Yr (f240 g hg s d c) ?_;simp;refine gZ.e ((0,mK g s d c,[]):Nat×Int×List Int) (λx=>[(0,.jF 4),(1,.ie [.i g.size,.sl 1 (g.next.map fI),dI g.jC]),(2,.ie [.i s]),(3,.ie [.i d]),(6,.i x.2.1)]) (λx=>[.row 39 0 [.i g.size,.sl 1 (g.next.map fI),dI g.jC],.row 3 0 [.i c],.row 37 0 [if x.2.2 = []then .gV else .gR 5 (x.2.2.l-1) 1 0 x.2.2.l],.jJ,.iV 20736 [(7,.ptr 1 0 0),(9,.ptr 2 0 0)] .ready]++(if x.2.2 = []then []else [.row 3 (x.2.2.l-1) (cl f1 x.2.2)])) (λx=>x.1=x.2.2.l/\x.2.1<g.size/\x.2.2.Nodup/\(∀y∈x.2.2,0<=y/\y<g.size)/\mI g s d c=wE g s d c (10-x.1) x.2.1 x.2.2) (λx=>10-x.1) ?_ ?_
 .have:=hg.to s d c;simp[mI];omega
 rintro⟨m,x,out⟩ ⟨h0,h1,o,n,l⟩;dsimp only at h0 h1 o n l ⊢;have p:out.l<=9:=yl 9 out o (λy k=>by have:=n y k;omega);have e:=l;rw[(U:10-m=(9-m)+1),wE]at e;have j:=hg.to s d x
 by_cases i:out = []
 .subst i
  by_cases b:0<=x
  .simp[b];refine nJ.r (rf:=20736) (env0:=[(7,.ptr 1 0 0),(9,.ptr 2 0 0)]) (Rd:=yN) gP rfl rfl yN.a yN.b (ng rfl) (ng rfl) ?_;simp[yN]
   by_cases a:x=c
   .have f:mI g s d c = []:=by rw[e,if_neg (λh=>h.2.1 a)]
    simp[a,f]
   .have e2:mI g s d c=wE g s d c (9-m) (mK g s d x) [x]:=by rw[e,if_pos ⟨b,a,gP⟩];rfl
    simp[a];refine Yc (ai3 x) ?_;simp;refine gU ?_;refine Yr (f240 g hg s d x) ?_;simp;refine LJ.i (m+1,mK g s d x,[x]) (by first|rfl|simp[jw]) (by first|rfl|simp[jw]) rfl rfl ?_;dsimp only;refine⟨by simp at h0;omega,by simp at h0;simp;omega,j.2,gP,iz,?_⟩;rw[e2];congr 1;omega
  .have f:mI g s d c = []:=by rw[e,if_neg (λh=>b h.1)]
   simp[b,f]
 .simp only[if_neg i,bz,aS]
  by_cases b:0<=x
  .simp[b];refine nJ.r (rf:=20736) (env0:=[(7,.ptr 1 0 0),(9,.ptr 2 0 0)]) (Rd:=yN) gP rfl rfl yN.a yN.b (ng rfl) (ng rfl) ?_;simp[yN]
   by_cases a:x=c
   .have f:mI g s d c=out:=by rw[e,if_neg (λh=>h.2.1 a)]
    simp[a,f,i]
   .simp[a];refine Yr (f260 out x U) ?_;simp;refine X2.z a ?_;simp
    by_cases iG:x∈out
    .have f:mI g s d c=out:=by rw[e,if_neg (λh=>h.2.2 iG)]
     simp[iG,f,i]
    .have e2:mI g s d c=wE g s d c (9-m) (mK g s d x) (out ++ [x]):=by rw[e,if_pos ⟨b,a,iG⟩]
     have hl:0<out.l:=ay.2 i;simp[iG];refine gU ?_;refine Yr (f240 g hg s d x) ?_;simp;refine LJ.i (m+1,mK g s d x,out ++ [x]) (by first|rfl|simp[(U:out.l-1+1=out.l)]) (by first|rfl|simp[(U:out.l-1+1=out.l)]) rfl rfl ?_;dsimp only;refine⟨U,iz,j.2,?_,λy k=>?_,?_⟩
     .grind
     .grind
     .grind
  .have f:mI g s d c=out:=by rw[e,if_neg (λh=>b h.1)]
   simp[b,f,i]
def f242(g:gY)(hg:qp g)(s d c:Int):Wf T 324 [g.kC,.i s,.i d,.i c] [] (Is (dN 1 f1 (mI g s d c))):=by
 refine Yg OC ?_;simp[OC];refine Yc (f259 g s d c) ?_;simp;refine sT.r (f:=335) (first:=[]) (cap:=[.ie [.i g.size,.sl 1 (g.next.map fI),dI g.jC],.ie [.i s],.ie [.i d],.ie [.i c]]) rfl rfl rfl rfl ?_;simp;refine Wf.mono (f265 g hg s d c) ?_;rintro _ H' ⟨st,b,rfl⟩;refine⟨[(7,.ptr 1 0 0),(9,.ptr 2 0 0)],st,gP,?_⟩
 by_cases h:mI g s d c = []
 .rcases b with rfl|rfl
  .simp[h];rfl
  .simp[h];rfl
 .have e:dI (mI g s d c)=dN 1 f1 (mI g s d c):=by
   revert h
   cases mI g s d c with
   | nil=>intro h;exact absurd rfl h
   | cons a r=>intro _;rfl
  rcases b with rfl|rfl
  .simp[h,e]
  .simp[h,e]
@[simp] theorem ayq(l:List Int):closed (dN 1 f1 l)=true:=Db (λa=>by simp[iB]) l
theorem TH{l:List il}(h:l≠[]):lR l=rC l:=by
 cases l with
 | nil=>exact absurd rfl h
 | cons a r=>rfl
def f200(g:gY)(hg:iE g)(s:il)(hs:lj g s)(n:Int):Wf T 301 [.agg s.cells,dG g,.i n] [] (Is (rC (jT g s (2,n)))):=by
 have m:=hs.p.size;have k:=hg.kC.size;have e:jT g s (2,n)=sN s (mI g s.p.side n s.cur):=by simp[jT]
 have iG:∀y∈mI g s.p.side n s.cur,0<=y/\y<g.size:=λy j=>V9 hg.kC j;have d:(mI g s.p.side n s.cur).l<=10:=Wa;rw[e];refine Yg Oi ?_;simp[Oi,il.cells];refine Yc (f242 g hg.kC s.p.side n s.cur) ?_;simp;generalize mI g s.p.side n s.cur=l at *;refine gZ.e ((0,[]):Int×List il) (λy=>[(3,.ptr 0 0 0),(7,if y.1=0 then .gV else .gR 2 (y.2.l-1) 8 0 y.2.l),(19,dN 1 f1 l),(20,.i l.l),(21,.i y.1)]) (λy=>.row 330 0 s.cells :: .row 43 0 g.cells::(if y.1=0 then []else [.row 330 (y.2.l-1) (cl il.cells y.2)])) (λy=>0<=y.1/\y.1<=l.l/\y.2.l=y.1.n/\sN s l=y.2++sN s (l.drop y.1.n)) (λy=>(l.l-y.1).n) ?_ ?_
 .simp
 rintro⟨i,st⟩ ⟨i0,f,c,a⟩;dsimp only at i0 f c a ⊢
 by_cases hi:i<l.l
 .have o:=iG _ (ij i0 hi);rw[pa i0 hi,sN]at a
  by_cases b:i=0
  .have:st = []:=aA.1 U;subst b;subst this;simp[hi,il.cells];(with_reducible repeat' first|refine Xk ?_<;>try simp|refine Xs ?_ ?_<;>intro h<;>(try intro p)<;>(try simp[h])<;>try omega|refine Xg ?_|omega)
   .refine LJ.i (1,[{ s with cur:=gt l 0 }]) (by first|rfl|simp[jw,il.cells]) (by first|rfl|simp[jw,il.cells]) rfl rfl ?_;refine iQ ⟨rfl,?_⟩;rw[a,if_pos h];rfl
   .rw[a,if_neg h];rfl
  .have hl:0<st.l:=by omega
   rw[if_neg b,if_neg b];simp[hi,il.cells];refine ma ?_ ?_<;>intro h
   .refine LJ.i (i+1,st ++ [{ s with cur:=gt l i }]) (by first|rfl|simp[(U:¬(i+1=0)),(U:st.l-1+1=st.l),il.cells]) (by first|rfl|simp[(U:¬(i+1=0)),(U:st.l-1+1=st.l),il.cells]) rfl rfl ?_;refine⟨iv,iv,iv,iz,?_⟩;rw[a,if_pos h,(U:(i+1).n=i.n+1)];simp
   .rw[a,if_neg h,<-TH gP];simp[lR,il.cells]
 .rw[bF U,sN,az]at a
  by_cases b:i=0
  .have:st = []:=aA.1 U;subst b;subst this;simp[(U:¬ 0<l.l),il.cells];rw[a];rfl
  .rw[if_neg b,if_neg b];simp[hi,il.cells];rw[a,TH (by intro h;rw[h]at c;simp at c;omega)]
def f164(g:gY)(hg:iE g)(s:il)(hs:lj g s)(x:gT)(b:C3 g x):Wf T 286 [dG g,.agg s.cells,.agg [.i x.1,.i x.2]] [] (Is (rC (jT g s x))):=by
 obtain⟨k,n⟩:=x;have a:=b.ok;dsimp only at a ⊢;rcases(U:k=1\/k=2\/k=3\/k=4\/k=5\/k=6\/k=7\/k=8\/k=9\/k=10)with rfl|rfl|rfl|rfl|rfl|rfl|rfl|rfl|rfl|rfl
 all_goals
  refine Yg N0 ?_;simp[N0,il.cells]
 .refine ke.c rfl rfl (f199 g hg s hs n) gP gP ?_;simp
 .refine ke.c rfl rfl (f200 g hg s hs n) gP gP ?_;simp
 .refine ke.c rfl rfl (f201 g hg s hs n) gP gP ?_;simp
 .refine ke.c rfl rfl (f202 g hg s hs n) gP gP ?_;simp
 .refine ke.c rfl rfl (f203 g hg s hs n) gP gP ?_;simp
 .refine ke.c rfl rfl (f204 g hg s hs n) gP gP ?_;simp
 .refine ke.c rfl rfl (f205 g hg s hs n) gP gP ?_;simp
 .refine ke.c rfl rfl (f206 g s n) gP gP ?_;simp
 .refine ke.c rfl rfl (f207 g hg s hs n U) gP gP ?_;simp
 .refine ke.c rfl rfl (f208 g hg s hs n U) gP gP ?_;simp
@[simp] theorem awD(t sz bytes:Nat)(z:List D)(m:Int)(a:Nat):Pw t sz bytes z .gV (.val (.int .i64 m)) a=if 0<m/\tb (m*bytes) 140737488355328/\tb m 9223372036854775807 then ej (.gR a 0 sz 0 m.n,.new (.row t 0 (di m.n z).flatten))else none:=rfl
theorem f191(n:Int)(a:0<n/\n<1000):Wf T 212 [.gV,.i n] [] (λd H=>d = .gR 0 0 1 0 0/\H = [.row 3 0 (cl f1 (di n.n 0))]):=by refine Yg Oc ?_;simp[Oc];exact oS
@[irreducible] def fl(l:List (List Int)):List Int:=l.flatten
theorem BC(l:List (List Int)):fl l=l.flatten:=by unfold fl;rfl
@[simp] theorem aze:fl [] = []:=by simp[BC]
theorem abg{l:List (List Int)}{i:Int}(h0:0<=i)(h:i<l.l):fl (l.take (i+1).n)=fl (l.take i.n)++gt l i:=by rw[jP h0 h];simp[BC]
def abf(l:List (List Int))(n:Nat):(fl (l.take n)).l<=(fl l).l:=by
 simp only[BC]
 conv=>rhs;rw[<-cj n l]
 simp only[eo,aq];omega
def f148(l:List (List Int))(hl:l.l<=10)(k:0<(fl l).l/\(fl l).l<1000):Wf T 147 [.sl 1 (l.map fI)] [] (λd H=>d = .gR 0 l.l 1 0 (fl l).l/\H = [.row 3 l.l (cl f1 (fl l))]):=by
 have m:0<l.l:=by
  cases l with
  | nil=>simp at k
  | cons a r=>simp
 refine Yg NR ?_;simp[NR];refine gZ.e (0:Int) (λi=>[(0,.sl 1 (l.map fI)),(3,.i (fl (l.take i.n)).l),(9,.sl 1 (l.map fI)),(10,.i l.l),(11,.i i)]) (λi=>[]) (λi=>0<=i/\i<=l.l) (λi=>(l.l-i).n) ?_ ?_
 .simp
 rintro i ⟨i0,n⟩
 by_cases hi:i<l.l
 .have h1:=abg i0 hi;have c:=abf l (i+1).n;rw[h1,aq]at c;simp[hi];(with_reducible repeat' first|refine Xk ?_<;>try simp|refine Xs ?_ ?_<;>intro h<;>(try intro o)<;>(try simp[h])<;>try omega|refine Xg ?_|omega);refine LJ.i (i+1) (by first|rfl|simp[h1]) (by first|rfl|simp[h1]) rfl rfl ?_;exact nE
 .have e:(l.take i.n)=l:=nf U;simp[hi,e];refine Yn (f191 (fl l).l U) ?_;simp;refine gZ.e (0:Int) (λj=>[(6,.gR 0 j.n 1 0 (fl (l.take j.n)).l),(25,.sl 1 (l.map fI)),(26,.i l.l),(27,.i j)]) (λj=>[.row 3 j.n (if j=0 then cl f1 (di (fl l).l 0)else cl f1 (fl (l.take j.n)))]) (λj=>0<=j/\j<=l.l) (λj=>(l.l-j).n) ?_ ?_
  .simp
  rintro j ⟨j0,j1⟩
  by_cases b:j<l.l
  .have h1:=abg j0 b;have c:=abf l (j+1).n;rw[h1,aq]at c
   by_cases f:j=0
   .subst f;simp at h1 c;simp[b];refine gU ?_;refine LJ.i (1) (by first|rfl|simp[h1]) (by first|rfl|simp[h1]) rfl rfl ?_;exact nE
   .rw[if_neg f];simp[b];refine gU ?_;have e2:(j+1).n=j.n+1:=U;rw[e2]at h1;refine LJ.i (j+1) (by first|rfl|simp[h1,e2,(U:¬(j+1=0))]) (by first|rfl|simp[h1,e2,(U:¬(j+1=0))]) rfl rfl ?_;exact nE
  .have e:(l.take j.n)=l:=nf U;have g:j.n=l.l:=U;rw[if_neg U];simp[b,e,g]
@[irreducible] def p7(p:Pos):List Int:=fl [p.cs,p.h0,p.h1,[p.iw,p.side]]
theorem Er(p:Pos):p7 p=fl [p.cs,p.h0,p.h1,[p.iw,p.side]]:=by unfold p7;rfl
def qk(p:Pos):ByteArray:=((p7 p).map λn=>cc.wrap n).foldl (λr n=>r.push (cp n.n)) ByteArray.empty
@[simp] theorem agE(l:List Int)(n:Int):cl fU l ++ [.val (.int .u8 n)]=cl fU (l ++ [n]):=by rw[<-tE,By]
@[simp] theorem agk:∀l:List Int,bytesOf (cl fU l)=ej l
 | []=>by simp[bytesOf]
 | a::r=>by rw[oG,By,e9,bytesOf,agk r]
def f101(p:Pos)(h:0<p.cs.l)(hl:(p7 p).l<1000):Wf T 93 [dP p] [] (Is (.val (.string (qk p)))):=by
 have e:0<(p7 p).l:=by simp[Er,BC];omega
 have d:=f148 [p.cs,p.h0,p.h1,[p.iw,p.side]] gP (by rw[<-Er];exact⟨e,hl⟩);rw[<-Er]at d;refine Yg Mx ?_;simp[Mx];refine ik.nr rfl rfl d (by simp[oq,chunks];unfold dI;simp only[dx,List.map_nil,Bw]) gP gP ?_;simp;refine gZ.e (0:Int) (λy=>[(3,if y=0 then .gV else .gR 4 (y.n-1) 1 0 y.n),(20,.gR 3 4 1 0 (p7 p).l),(21,.i (p7 p).l),(22,.i y)]) (λy=>[.row 46 0 p.cells,.row 3 0 [.i p.iw,.i p.side],.row 37 0 [dI p.cs,dI p.h0,dI p.h1,.gR 1 0 1 0 2],.row 3 4 (cl f1 (p7 p))]++(if y=0 then []else [.row 5 (y.n-1) (cl fU (((p7 p).take y.n).map λn=>cc.wrap n))])) (λy=>0<=y/\y<=(p7 p).l) (λy=>((p7 p).l-y).n) ?_ ?_
 .simp
 rintro i ⟨i0,j⟩
 by_cases hi:i<(p7 p).l
 .have a:(er (i.n+1) (p7 p)).map (λn=>cc.wrap n)=(er i.n (p7 p)).map (λn=>cc.wrap n) ++ [cc.wrap (gt (p7 p) i)]:=by rw[<-(U:(i+1).n=i.n+1),jP i0 hi];simp
  have b:(i+1).n=i.n+1:=U
  by_cases c:i=0
  .rw[if_pos c,if_pos c];have f:i.n=0:=U;rw[f]at a b;simp at a;simp[hi];refine gU ?_;refine LJ.i (i+1) (by first|rfl|simp[(U:¬(i+1=0)),b,a,jw]) (by first|rfl|simp[(U:¬(i+1=0)),b,a,jw]) rfl rfl ?_;exact nE
  .rw[if_neg c,if_neg c];simp[hi];refine gU ?_;have e2:i.n-1+1=i.n:=U;simp at a;refine LJ.i (i+1) (by first|rfl|simp[(U:¬(i+1=0)),b,a,e2,dH]) (by first|rfl|simp[(U:¬(i+1=0)),b,a,e2,dH]) rfl rfl ?_;exact nE
 .rw[if_neg U,if_neg U];have g:i.n=(p7 p).l:=U;simp[hi,FO,g];rfl
set_option maxRecDepth 100000
def Js(n:Int):ByteArray:=⟨#[cp (48+n.n)]⟩
def f209(n:Int)(a:0<=n/\n<=9):Wf T 310 [.i n] [] (Is (.val (.string (Js n)))):=by
 rcases(U:n=0\/n=1\/n=2\/n=3\/n=4\/n=5\/n=6\/n=7\/n=8\/n=9)with rfl|rfl|rfl|rfl|rfl|rfl|rfl|rfl|rfl|rfl
 all_goals exact rn (k:=100) ia
def Bj(b:Bool):ByteArray:=if b then⟨#[116,114,117,101]⟩else⟨#[102,97,108,115,101]⟩
def f210(b:Bool):Wf T 311 [.b b] [] (Is (.val (.string (Bj b)))):=by
 cases b
 .exact rn (k:=100) ia
 .exact rn (k:=100) ia
@[simp] theorem aED(a b:ByteArray):H6 .add a b=if tb ((a.size+b.size:Nat):Int) 9223372036854775807 then ej (.val (.string (a++b)))else none:=rfl
theorem foldl_push(l:List Int):∀r:ByteArray,(l.foldl (λr n=>r.push (cp n.n)) r).data.toList=r.data.toList++l.map λn=>cp n.n:=by
 induction l with
 | nil=>intro r;simp
 | cons a l b=>intro r;rw[cK,b];simp[ByteArray.push]
def acx(p:Pos):(qk p).data.toList=(p7 p).map λn=>cp (cc.wrap n).n:=by unfold qk;rw[foldl_push];simp[ByteArray.empty,ByteArray.emptyWithCapacity];rfl
@[simp] theorem aAx(p:Pos):(qk p).size=(p7 p).l:=by show(qk p).data.size=_;rw[<-dK,acx,List.length_map]
@[simp] theorem aD9(a:Array UInt8):ByteArray.size ⟨a⟩=a.size:=rfl
@[simp] theorem ayQ(n:Int):(Js n).size=1:=rfl
@[simp] theorem agc(b:Bool):(Bj b).size<=5:=by cases b<;>decide
def ri(s:il):ByteArray:=Js s.kind++⟨#[32]⟩++Js s.cur++⟨#[32]⟩++Bj s.kP++⟨#[32]⟩++qk s.p
def f165(s:il)(h1:0<=s.kind/\s.kind<=9)(a:0<=s.cur/\s.cur<=9)(h:0<s.p.cs.l)(hl:(p7 s.p).l<1000):Wf T 287 [.agg s.cells] [] (Is (.val (.string (ri s)))):=by have b:=agc s.kP;refine Yg N1 ?_;simp[N1,il.cells];refine Yt (f209 s.kind h1) ?_;simp;refine gU ?_;refine Yt (f209 s.cur a) ?_;simp;refine gU ?_;refine Yt (f210 s.kP) ?_;simp;refine gU ?_;refine Yt (f101 s.p h hl) ?_;simp;refine gU ?_;rfl
def ofNat_inj{m n:Nat}(b:m<256)(a:n<256)(h:cp m=cp n):m=n:=by have:=congrArg UInt8.toNat h;simp only[UInt8.toNat_ofNat']at this;omega
def afo{n:Int}(h:0<=n/\n<256):cc.wrap n=n:=by simp only[IntKind.wrap,IntKind.bits,IntKind.signed];simp;omega
theorem adg:∀ {a b:List Int},(∀n∈a,0<=n/\n<256)->(∀n∈b,0<=n/\n<256)->(a.map λn=>cp (cc.wrap n).n)=(b.map λn=>cp (cc.wrap n).n)->a=b
 | [],[],_,_,_=>rfl
 | [],_::_,_,_,h=>by simp at h
 | _::_,[],_,_,h=>by simp at h
 | x::a,y::b,ha,hb,h=>by simp only[dx,cN]at h;have f:=ha x gP;have d:=hb y gP;rw[afo f,afo d]at h;have e:=ofNat_inj U U h.1;rw[adg (λn c=>ha n (by simp[c])) (λn c=>hb n (by simp[c])) h.2,(U:x=y)]
def V1{g:gY}(hg:iE g){p:Pos}(b:ja g p):∀n∈p7 p,0<=n/\n<256:=by
 have e:=hg.kinds;have d:=hg.iw;have f:=Hz d.1 U
 have c:∀ {l:List Int},ua g l->∀n∈l,0<=n/\n<256:=λ{l} h n a=>by obtain⟨i,h0,h1,rfl⟩:=th.1 a;have:=h.at_ i h0 h1;omega
 intro n a;rw[Er,BC]at a;simp only[bg,ea,ai,ak,eZ,or_false]at a;have j:=b.iw;have k:=b.side;rcases a with a|a|a|rfl|rfl
 .have:=b.cs n a;omega
 .exact c b.h0 n a
 .exact c b.h1 n a
 .omega
 .omega
def alj{g:gY}{p q:Pos}(b:ja g p)(a:ja g q)(h:p7 p=p7 q):p=q:=by rw[Er,Er,BC,BC]at h;simp only[bg,ea,az]at h;have j:=b.size;have i:=a.size;have f:=b.h0.len;have b2:=a.h0.len;have e:=b.h1.len;have c2:=a.h1.len;obtain⟨d,h⟩:=gC h U;obtain⟨e2,h⟩:=gC h U;obtain⟨c,h⟩:=gC h U;simp only[cN,and_true]at h;cases p;cases q;simp_all
def acw{g:gY}(hg:iE g){p q:Pos}(c:ja g p)(a:ja g q)(h:qk p=qk q):p=q:=by have d:=congrArg (λb:ByteArray=>b.data.toList) h;simp only[acx]at d;exact alj c a (adg (V1 hg c) (V1 hg a) d)
def alk(s:il):(ri s).data.toList=cp (48+s.kind.n)::32::cp (48+s.cur.n)::32::((Bj s.kP).data.toList++32::(qk s.p).data.toList):=by unfold ri Js;simp
def acB{g:gY}(hg:iE g){s t:il}(hs:lj g s)(e:lj g t)(h:ri s=ri t):s=t:=by
 have i:=congrArg (λb:ByteArray=>b.data.toList) h;simp only[alk,cN,true_and]at i;obtain⟨q,e2,d⟩:=i;have v:=hg.kinds;have w:=hg.kC.size;have k1:=hs.kind;have k2:=e.kind;have u:=hs.cur;have r:=e.cur;have f1:=ofNat_inj U U q;have f2:=ofNat_inj U U e2;obtain⟨p,k,c,b⟩:=s;obtain⟨a,l,c',j⟩:=t;dsimp only at *
 have f:b=j/\qk p=qk a:=by
  cases b<;>cases j
  .simp[Bj]at d;exact⟨rfl,by cases n:qk p;cases m:qk a;simp_all [gq]⟩
  .simp[Bj]at d
  .simp[Bj]at d
  .simp[Bj]at d;exact⟨rfl,by cases n:qk p;cases m:qk a;simp_all [gq]⟩
 have o:p=a:=acw hg hs.p e.p f.2;rw[f.1,o,(U:k=l),(U:c=c')]
def RA(a b:ByteArray):oz (.string a) (.string b)=decide (a=b):=by obtain⟨a⟩:=a;obtain⟨b⟩:=b;show(a == b)=_;rw[ep,beq_iff_eq,decide_eq_true_iff,ByteArray.mk.injEq]
theorem Wq{g:gY}(hg:iE g){t:il}(b:lj g t):∀ {l:List il},(∀s∈l,lj g s)->oN (l.map λs=>((.string (ri s):Value),D.b eh)) (.string (ri t))=if t∈l then ej (.b eh)else none
 | [],_=>by simp[oN]
 | a::l,h=>by
  rw[dx,oN,RA,Wq hg b λs hs=>h s (by simp[hs])]
  by_cases e:t=a
  .subst e;simp
  .have:¬ri t=ri a:=λk=>e (acB hg b (h a gP) k);simp[this,e]
theorem Wx{g:gY}(hg:iE g){t:il}(b:lj g t):∀ {l:List il},(∀s∈l,lj g s)->t ∉ l->lF (l.map λs=>((.string (ri s):Value),D.b eh)) (.string (ri t)) (.b eh)=(l ++ [t]).map λs=>((.string (ri s):Value),D.b eh)
 | [],_,_=>by simp[lF]
 | a::l,h,hn=>by simp only[ak,not_or]at hn;have:¬ri t=ri a:=λk=>hn.1 (acB hg b (h a gP) k);rw[dx,lF,RA,Wx hg b (λs hs=>h s (by simp[hs])) hn.2];simp[this]
set_option maxRecDepth 10000
set_option maxHeartbeats 8000000
def ik.inl{T:jt}{f:FuncId}{args:List D}{dst:Option Nat}{s:St}{K:St->Prop}(fn:kn)(a:T.fn f=ej fn)(c:fn.full=eh)(hl:args.l<=fn.ntmps)(b:wJ fn.body=eh)
  (h:XC T fn.body { env:=wH args,H:=s.H } (BB fn.results fn.own s.H.l λd H'=>K { s with env:=put s.env dst d,H:=H' })):ik T f args dst s K .mk:=.inr ⟨fn,a,c,Wf.x a hl h b⟩
abbrev Ag(g:gY)(p:Pos)(st:il)(outs:D):gQ:=[.row 43 0 g.cells,.row 46 0 p.cells,.row 256 0 [outs],.row 43 0 g.cells,.row 46 0 p.cells,.dead,.dead,.dead,.row 330 0 st.cells,.dead]
def aiN(g:gY)(hg:iE g)(p:Pos)(e:ja g p)(st t:il)(a:lj g t):Wf T 260 [.agg t.cells,.agg [.i 0,.i 0],.ptr 1 0 0,.ptr 2 0 0] (Ag g p st .gV ++ [.row 330 0 t.cells])
  (λ_ H'=>match pT p.side t with
   | none=>H'=Ag g p st .gV ++ [.row 330 0 t.cells]
   | some o=>H'=Ag g p st (.gR 11 0 6 0 1) ++ [.row 330 0 t.cells,.row 259 0 (cl iJ.cells [o])]):=by
 have m:=a.p.size;have c:=a.cur;have d:=a.p.small hg;have h:=hg.kC.size;have q:=hg.kinds;have j:=a.p.h0.len;have i:=a.p.h1.len;have b:=e.side;have f:=a.p.side;refine Yz uN (jY 37 [13,14,15] uN.body) ?_;simp[uN,jY,lV,po,py,pY,nQ,Ag,il.cells]
 by_cases h0:gt t.p.cs t.cur=0
 .simp[h0];refine gU ?_;refine Yn (f91 t d U) ?_;simp;refine gU ?_;refine Yt (f92 (k:=t.kind) (s:=p.side) a.kind.1 (by have:=a.kind;omega) b.1 b.2) ?_;simp;refine gU ?_;have q0:=jy (l:=t.p.cs) (n:=t.cur) (v:=1+2*t.kind+p.side) c.1 U;simp[pT,h0,lQ,jw,q0]
 .simp[h0,pT];exact oS
def aiO(g:gY)(hg:iE g)(p:Pos)(e:ja g p)(st t:il)(a:lj g t)(outs:List iJ)(u:outs.l<2 ^ 39)(f:0<outs.l):Wf T 260 [.agg t.cells,.agg [.i 0,.i 0],.ptr 1 0 0,.ptr 2 0 0] (Ag g p st (.gR 10 (outs.l-1) 6 0 outs.l) ++ [.row 259 (outs.l-1) (cl iJ.cells outs),.row 330 0 t.cells])
  (λ_ H'=>match pT p.side t with
   | none=>H'=Ag g p st (.gR 10 (outs.l-1) 6 0 outs.l) ++ [.row 259 (outs.l-1) (cl iJ.cells outs),.row 330 0 t.cells]
   | some o=>H'=Ag g p st (.gR 10 (outs ++ [o]).l.pred 6 0 (outs ++ [o]).l) ++ [.row 259 (outs ++ [o]).l.pred (cl iJ.cells (outs ++ [o])),.row 330 0 t.cells]):=by
 have r:=a.p.size;have c:=a.cur;have d:=a.p.small hg;have j:=hg.kC.size;have w:=hg.kinds;have q:=a.p.h0.len;have m:=a.p.h1.len;have b:=e.side;have i:=a.p.side;refine Yz uN (jY 37 [14,15,16] uN.body) ?_;simp[uN,jY,lV,po,py,pY,nQ,Ag,il.cells]
 by_cases h0:gt t.p.cs t.cur=0
 .simp[h0];refine gU ?_;refine Yn (f91 t d U) ?_;simp;refine gU ?_;refine Yt (f92 (k:=t.kind) (s:=p.side) a.kind.1 (by have:=a.kind;omega) b.1 b.2) ?_;simp;refine gU ?_;have q0:=jy (l:=t.p.cs) (n:=t.cur) (v:=1+2*t.kind+p.side) c.1 U;simp[pT,h0,lQ,q0];(with_reducible repeat' first|refine Xk ?_<;>try simp[(U:outs.l-1+1=outs.l)]|refine Xs ?_ ?_<;>intro h<;>(try intro x)<;>(try simp[h,(U:outs.l-1+1=outs.l)])<;>try omega|refine Xg ?_|omega)
 .simp[h0,pT];exact oS
