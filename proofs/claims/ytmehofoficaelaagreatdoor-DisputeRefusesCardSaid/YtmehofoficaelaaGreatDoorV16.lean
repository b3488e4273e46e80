/- 16 -/
import Derived.Test.YtmehofoficaelaaGreatDoorV15
set_option linter.all false
open Go.IntKind renaming i64→aE,u8→bb
open UInt8 renaming ofNat→bs
open List renaming replicate→b4,map_cons→cc,take→eh,length→List.l
open Bool renaming true→cp,false→dr,eq_iff_iff→dx
open Option renaming some→di
open Int renaming toNat→Int.n
namespace Go.Proofs.YtmehofoficaelaaGreatDoor
open Go Go.AL Classical
set_option maxRecDepth 10000
set_option maxHeartbeats 1000000
@[simp] theorem asR(n:Int)(nx:List (List Int))(tn:List Int):closed (bD n nx tn)=true:=by simp[bD]
theorem f104(w d c:Int)(g:0<=w/\w<256)(i:0<=d/\d<256)(j:0<=c/\c<256):Wf T 159 [.val (.int .u8 w),.val (.int .u8 d),.val (.int .u8 c)] [] (Ey (λx:Int×List (List Int)×List Int=>bD x.1 x.2.1 x.2.2) λx=>oU (Cj x.1 x.2.1 x.2.2)):=by
 have w1:=jM (a:=w) (b:=3) g.1;have h1:=jM (a:=d) (b:=3) i.1;have w2:aE.wrap (gG w 3)=gG w 3:=n5 iM;have k:aE.wrap (gG d 3)=gG d 3:=n5 iM;have c2:aE.wrap c=c:=n5 iM;refine Yg JA ?_;simp[JA,w2,k];refine gh ?_;obtain⟨n,nx,tn,hg,e⟩:=f149 (1+gG w 3) (1+gG d 3) U U;have o:1<=n/\n<=9:=e.size;refine gy.c rfl rfl hg fZ (by simp[bD]) ?_;simp[bD,c2];refine kj ?_ ?_<;>intro h
 .rw[c2];have m:=jM (a:=c) (b:=n) j.1;have l:=bY c (U:n≠0);have p:=bO c (U:0<n);refine Yv (f150 n nx tn e (gG c n) U) λx f=>?_;simp;simp[bD];exact Ey.i (n,x,tn) rfl rfl f
 .exact Ey.i (n,nx,tn) rfl rfl e
theorem kU.s{T:iF}{n:Nat}{live:List Nat}{a:IR}{s b:St}{K:jb}(hs:s=b)(h:kU T n live a b K .mk):kU T n live a s K .mk:=by subst hs;exact h
theorem gx.s{T:iF}{live:List Nat}{a:IR}{s b:St}{K:jb}(hs:s=b)(h:gx T live a b K .mk):gx T live a s K .mk:=by subst hs;exact h
def Ve(l:List Int):cl fU l=l.map λn=>D.val (.int .u8 n):=by
 rw[oV]
 induction l with
 | nil=>rfl
 | cons a r b=>simp[<-b]
@[simp] theorem ahS{l:List Int}{k:Nat}{P:D->Prop}:oA (cl fU l)[k]? P .mk=(k<l.l/\P (.val (.int .u8 (gt l k)))):=by
 rw[Ve]
 by_cases h:k<l.l
 .simp[h,gt]
 .simp[h]
@[simp] theorem aru{l:List Int}{k:Nat}(h:k<(cl fU l).l):(cl fU l)[k] = .val (.int .u8 (gt l k)):=by
 have a:k<l.l:=by simpa using h
 simp[Ve,gt,a]
def f59(g:gq)(hg:gR g)(l:List Int)(hl:l.l=18)(h:∀n∈l,0<=n/\n<256) :
  Wf T 100 [dG g,.agg (cl fU l)] [] (Ey dP (iC g)):=by
 have hb:=hg.jU.size;have w:=hg.kinds;have N:=hg.gO;have O:=TL N.1 U;have h5:=EX N.1 U;have h6:(0:Int)<2 ^ g.gO.n:=Int.pow_pos jh;have r:∀k:Nat,k<18->0<=gt l k/\gt l k<256:=λk w=>h _ (gF U U)
 have s:∀k:Nat,k<18->aE.wrap (gt l k)=gt l k:=λk w=>by have:=r k w;exact n5 iM
 have M:=s 16 U;have L:=s 17 U;have Q:=r 16 U;have P:=r 17 U;simp at M L Q P;have Z:=jM (a:=gt l 16) (b:=2 ^ g.gO.n) Q.1;have m16:=bY (gt l 16) (U:(2:Int) ^ g.gO.n≠0);have a':=bO (gt l 16) h6;have Y:=jM (a:=gt l 17) (b:=2) P.1;have t:aE.wrap (gG (gt l 17) 2)=gG (gt l 17) 2:=n5 iM;have hR:0<=gG (gt l 16) (2 ^ g.gO.n)/\gG (gt l 16) (2 ^ g.gO.n)<2 ^ g.gO.n:=U;have hS:0<=gG (gt l 17) 2/\gG (gt l 17) 2<=1:=U;refine Yg LP ?_;simp[LP,O,hl,M,t];generalize gG (gt l 16) (2 ^ g.gO.n)=R at *;generalize gG (gt l 17) 2=S at *;refine xQ O hl M t ?_;refine gx.e ((0,b4 g.size.n 0):Int×List Int) (λy=>[(2,.ptr 0 0 0),(3,.ptr 1 0 0),(4,.ptr 2 0 0),(5,.ptr 4 0 0),(6,.i y.1)]) (λy=>[.row 43 0 g.cells,.row 30 0 (cl fU l),.row 46 0 [.gi,.gi,.gi,.i 0,.i 0],.row 3 0 (cl f1 y.2),.row 46 0 [.gf 3 0 1 0 g.size.n,.gi,.gi,.i R,.i S]]) (λy=>0<=y.1/\y.1<=6/\y.2.l=g.size.n/\∀x∈y.2,0<=x/\x<=2*g.kinds.l) (λy=>6-y.1.n) ?_ ?_
 .simp;exact mI
 rintro⟨i,cs⟩ ⟨i0,q,H,z⟩;dsimp only at i0 q H z ⊢;have c:max i 0=i:=U
 by_cases hi:i<6
 .have w1:aE.wrap (gt l i)=gt l i:=by have:=s i.n U;rwa [cd i0]at this
  have w2:aE.wrap (gt l (6+i))=gt l (6+i):=by have:=s (6+i.n) U;rwa [(U:((6+i.n:Nat):Int)=6+i)]at this
  have u:0<=gt l i:=by have:=r i.n U;rw[cd i0]at this;exact this.1
  have V:0<=gt l (6+i):=by have:=r (6+i.n) U;rw[(U:((6+i.n:Nat):Int)=6+i)]at this;exact this.1
  have F:=jM (a:=gt l i) (b:=g.size+1) u;have e1:=bY (gt l i) (U:g.size+1≠0);have X:=jM (a:=gt l (6+i)) (b:=g.kinds.l) V;have e2:=bY (gt l (6+i)) (U:(g.kinds.l:Int)≠0);have e3:=bO (gt l (6+i)) (U:(0:Int)<g.kinds.l);have W:=jM (a:=i) (b:=2) i0;simp[hl,c,hi,w1,w2];have G:g.kinds≠[]:=by intro h;simp[h]at w
  obtain⟨A,D⟩:∃A,gG (gt l i) (g.size+1)=A:=⟨_,rfl⟩;obtain⟨B,K⟩:∃B,gG (gt l (6+i)) g.kinds.l=B:=⟨_,rfl⟩;obtain⟨C,J⟩:∃B,gG i 2=B:=⟨_,rfl⟩;rw[D]at F;rw[K]at X;rw[J]at W;simp only[D];(with_reducible repeat' first|refine Xk ?_<;>try simp[hl,c,w1,w2,D,K,J,G]|refine Xs ?_ ?_<;>intro h<;>(try intro E)<;>(try simp[h,hl,c,w1,w2,D,K,J,G])<;>try omega|refine Xg ?_|omega)
  .refine jT G ?_;refine LJ.e (i+1,pt cs A (1+2*B+C)) ?_;dsimp only;have hv:0<=1+2*B+C/\1+2*B+C<=2*g.kinds.l:=U;refine gX ⟨?_,?_⟩
   .have:=iW (l:=cs) (n:=A) (v:=1+2*B+C) U U;omega
   .intro x I;rcases ZK I with rfl|I
    .exact hv
    .exact z x I
  .refine LJ.e (i+1,cs) ?_;exact gX ⟨H,z⟩
 simp[hi]
 have z0:sn g (b4 g.kinds.l 0):=⟨fZ,λk w mP=>by
  have e:gt (b4 g.kinds.l (0:Int)) k=0:=by simp at mP;have:k.n<g.kinds.l:=U;simp[gt,this]
  rw[e];omega⟩
 refine gx.un ?_;refine kU.s mu ?_;refine kU.u ?_;simp;refine gh ?_;refine gx.e ((0,b4 g.kinds.l 0):Int×List Int) (λy=>[(2,.ptr 0 0 0),(3,.ptr 1 0 0),(4,.ptr 2 0 0),(5,.ptr 4 0 0),(8,.i 0),(9,.i y.1)]) (λy=>[.row 43 0 g.cells,.row 30 0 (cl fU l),.row 46 0 [.gi,.gi,.gi,.i 0,.i 0],.row 3 0 (cl f1 cs),.row 46 0 [.gf 3 0 1 0 g.size.n,.gf 5 0 1 0 g.kinds.l,.gi,.i R,.i S],.row 3 0 (cl f1 y.2)]) (λy=>0<=y.1/\y.1<=g.kinds.l/\sn g y.2) (λy=>g.kinds.l-y.1.n) ?_ ?_
 .simp;exact z0
 rintro⟨i,h0⟩ ⟨i0,q,j⟩;dsimp only at i0 q j ⊢;have c:max i 0=i:=U;have m:=j.len
 by_cases hi:i<g.kinds.l
 .have f:i<2:=by omega
  have w1:aE.wrap (gt l (12+i))=gt l (12+i):=by have:=s (12+i.n) U;rwa [(U:((12+i.n:Nat):Int)=12+i)]at this
  have u:0<=gt l (12+i):=by have:=r (12+i.n) U;rw[(U:((12+i.n:Nat):Int)=12+i)]at this;exact this.1
  have F:=jM (a:=gt l (12+i)) (b:=3) u
  by_cases d:(gt g.kinds i).keep=cp
  .have p:∀v,(pt h0 i v).l=h0.l:=λv=>iW i0 U;have o:i.n<g.kinds.l:=U;simp[hl,c,hi,f,d,w1,p,m,o];(with_reducible repeat' first|refine Xk ?_<;>try simp[hl,c,hi,f,d,w1,p,m,o]|refine Xs ?_ ?_<;>intro h<;>(try intro E)<;>(try simp[h,hl,c,hi,f,d,w1,p,m,o])<;>try omega|refine Xg ?_|omega)
   .refine LJ.e (i+1,pt (pt h0 i (gG (gt l (12+i)) 3)) i 8) ?_;refine gX ?_;exact(j.set i0 U (pb (λ_=>d))).set i0 (by rw[iW i0 U];omega) (pb (λ_=>d))
   .refine LJ.e (i+1,pt h0 i (gG (gt l (12+i)) 3)) ?_;exact gX (j.set i0 U (pb (λ_=>d)))
  .simp[hl,c,hi,f,d,w1];(with_reducible repeat' first|refine Xk ?_<;>try simp[hl,c,hi,f,d,w1]|refine Xs ?_ ?_<;>intro h<;>(try intro E)<;>(try simp[h,hl,c,hi,f,d,w1])<;>try omega|refine Xg ?_|omega);refine LJ.e (i+1,h0) ?_;exact gX j
 simp[hi];refine jT hi ?_;clear hi c i0 q m
 rename sn g h0=>Z0
 refine kU.s mu ?_;refine kU.u ?_;simp;refine gh ?_;refine gx.e ((0,b4 g.kinds.l 0):Int×List Int) (λy=>[(2,.ptr 0 0 0),(3,.ptr 1 0 0),(4,.ptr 2 0 0),(5,.ptr 4 0 0),(8,.i 1),(9,.i y.1)]) (λy=>[.row 43 0 g.cells,.row 30 0 (cl fU l),.row 46 0 [.gi,.gi,.gi,.i 0,.i 0],.row 3 0 (cl f1 cs),.row 46 0 [.gf 3 0 1 0 g.size.n,.gf 5 0 1 0 g.kinds.l,.gf 6 0 1 0 g.kinds.l,.i R,.i S],.row 3 0 (cl f1 h0),.row 3 0 (cl f1 y.2)]) (λy=>0<=y.1/\y.1<=g.kinds.l/\sn g y.2) (λy=>g.kinds.l-y.1.n) ?_ ?_
 .simp;exact z0
 rintro⟨i,h1⟩ ⟨i0,q,j⟩;dsimp only at i0 q j ⊢;have c:max (2+i) 0=(2+i):=U;have m:=j.len
 by_cases hi:i<g.kinds.l
 .have f:i<2:=by omega
  have w1:aE.wrap (gt l (12+(2+i)))=gt l (12+(2+i)):=by have:=s (12+(2+i).n) U;rwa [(U:((12+(2+i).n:Nat):Int)=12+(2+i))]at this
  have u:0<=gt l (12+(2+i)):=by have:=r (12+(2+i).n) U;rw[(U:((12+(2+i).n:Nat):Int)=12+(2+i))]at this;exact this.1
  have F:=jM (a:=gt l (12+(2+i))) (b:=3) u
  by_cases d:(gt g.kinds i).keep=cp
  .have p:∀v,(pt h1 i v).l=h1.l:=λv=>iW i0 U;have o:i.n<g.kinds.l:=U;simp[hl,c,hi,f,d,w1,p,m,o];(with_reducible repeat' first|refine Xk ?_<;>try simp[hl,c,hi,f,d,w1,p,m,o]|refine Xs ?_ ?_<;>intro h<;>(try intro E)<;>(try simp[h,hl,c,hi,f,d,w1,p,m,o])<;>try omega|refine Xg ?_|omega)
   .refine LJ.e (i+1,pt (pt h1 i (gG (gt l (12+(2+i))) 3)) i 8) ?_;refine gX ?_;exact(j.set i0 U (pb (λ_=>d))).set i0 (by rw[iW i0 U];omega) (pb (λ_=>d))
   .refine LJ.e (i+1,pt h1 i (gG (gt l (12+(2+i))) 3)) ?_;exact gX (j.set i0 U (pb (λ_=>d)))
  .simp[hl,c,hi,f,d,w1];(with_reducible repeat' first|refine Xk ?_<;>try simp[hl,c,hi,f,d,w1]|refine Xs ?_ ?_<;>intro h<;>(try intro E)<;>(try simp[h,hl,c,hi,f,d,w1])<;>try omega|refine Xg ?_|omega);refine LJ.e (i+1,h1) ?_;exact gX j
 simp[hi];refine jT hi ?_;clear hi c i0 q m
 rename sn g h1=>Z1
 refine kU.s mu ?_;refine kU.u ?_;simp;refine gh ?_;exact Ey.i ⟨cs,h0,h1,R,S⟩ (by simp[H,Z0.len,Z1.len,dP,Pos.cells]) rfl ⟨by simp only;omega,Z0,Z1,hR,hS,z⟩
end Go.Proofs.YtmehofoficaelaaGreatDoor
namespace Go.AL
open Go
@[simp] theorem ayq(ρ:Nat->Option Nat)(H:gd)(k:Nat)(f:Fn)(a b:List D):gw ρ H (k+1) (.fn f a b) = .fn f (a.map (gw ρ H k)) (b.map (gw ρ H k)):=by
 by_cases h:closed (.fn f a b)=cp
 .have c:=h;simp only[Vm,ai]at c;rw[p7 h,Ci c.1,Ci c.2]
 .rw[gw,if_neg h]
@[simp] theorem ayr(ρ:Nat->Option Nat)(H:gd)(k:Nat)(cs:List D):gw ρ H (k+1) (.gC cs) = .gC (cs.map (gw ρ H k)):=by
 by_cases h:closed (.gC cs)=cp
 .rw[p7 h,Ci (by simpa using h)]
 .rw[gw,if_neg h]
def zy(l:List Int):cl f1 l=l.map λn=>D.i n:=by
 rw[oV]
 induction l with
 | nil=>rfl
 | cons a r b=>simp[<-b]
def ade{ρ:Nat->Option Nat}{H:gd}{k n:Nat}{t:TypeId}{cs:List D}(l:List Int)(h:cs=l.map λn=>D.i n)(a:n=l.l):mT ρ H (k+1) 1 0 n (di (t,cs))=dI l:=by rw[h,<-zy,vx a];rfl
@[simp] theorem azc(a b:ByteArray):Fh .eql a b=di (.b (decide (a=b))):=by
 have:(a.data.toList == b.data.toList)=decide (a=b):=by
  rw[dx,beq_iff_eq,decide_eq_true_iff];constructor
  .intro h;cases a;cases b;congr 1;exact fu.1 h
  .rintro rfl;rfl
 show di (D.val (.bool _))=_;rw[this]
@[simp] theorem arY(t:TypeId)(s:ByteArray)(n:Nat):sY t (.val (.string s)) n=di (.ptr n 0 0,.new (.row t 0 [.val (.string s)])):=rfl
@[simp] theorem arV(t:TypeId)(m:Int)(n:Nat):sY t (.i m) n=di (.ptr n 0 0,.new (.row t 0 [.i m])):=rfl
@[simp] theorem as0(l:List (List gg)):closed (dN 1 fP l)=true:=Bb (λa=>by simp[gK]) l
def IP(rf:Nat)(st:qz)(x:Option Ob)(P:Env->Prop):Prop:=∃env,x=di (.iu rf env st)/\P env
@[simp] theorem axJ{rf:Nat}{st:qz}{env:Env}{P:Env->Prop}:IP rf st (di (.iu rf env st)) P=P env:=propext ⟨λ⟨_,h,k⟩=>by cases h;exact k,λk=>⟨_,rfl,k⟩⟩
section
variable{T:iF}{v rf:Nat}{b:IR}{dst:Option Nat}{s s1:St}{K:St->Prop}
@[simp] theorem ax5:aaL T v rf b dst s K (.norm s1)=IP rf .ready s1.H[v]? λa=>XC T b { s1 with H:=s1.H.set v (.iu rf a .busy) } (Cv v rf dst s K):=rfl
@[simp] theorem ax7:Cv v rf dst s K (.norm s1)=IP rf .busy s1.H[v]? λa=>K { s with env:=put s.env dst (.b cp),H:=s1.H.set v (.iu rf a .ready) }:=rfl
@[simp] theorem ax6{id:Nat}:Cv v rf dst s K (.exit id s1)=IP rf .busy s1.H[v]? λa=>K { s with env:=put s.env dst (.b dr),H:=s1.H.set v (.iu rf a (.zD id)) }:=rfl
@[simp] theorem ax8:Cv v rf dst s K (.ret s1)=IP rf .busy s1.H[v]? λa=>K { s with env:=put s.env dst (.b dr),H:=s1.H.set v (.iu rf a .Be) }:=rfl
@[simp] theorem ayc{l:List D}{e:Env}:uq [] l e=e:=by cases l<;>rfl
@[simp] theorem ayb{k:Nat}{d:D}{ks:List Nat}{l:List D}{e:Env}:uq (k::ks) (d::l) e=uq ks l ((k,d)::e):=rfl
@[simp] theorem axH{s:St}:AE s .ready=di (.norm s):=rfl
@[simp] theorem axG{s:St}{id:Nat}:AE s (.zD id)=di (.exit id s):=rfl
@[simp] theorem axI{s:St}:AE s .Be=di (.ret s):=rfl
end
@[simp] theorem awP(n:Nat):o9 n .jH = []:=rfl
@[simp] theorem awS(n rf:Nat)(e:Env)(st:qz):o9 n (.iu rf e st) = []:=rfl
theorem gy.nr{T:iF}{f:FuncId}{args nM:List D}{dst:Option Nat}{s:St}{K:St->Prop}{fn:jq}{d:D}{Hn:gd}(g:T.fn f=di fn)(e:fn.full=dr)(h:Wf T f nM [] λd' H'=>d'=d/\H'=Hn)
  (hs:args.map (gw (λ_=>none) s.H 40)=nM) (c:(oR d&&Hn.all pv)=cp) (b:(mL d&&Hn.all nN)=cp) (k:K { s with env:=put s.env dst (kE s.H.l d),H:=s.H++Hn }):gy T f args dst s K .mk:=by
 refine gy.is g e (K0:=λd' H'=>d'=d/\H'=Hn) (by rw[hs];exact h) ?_;rintro d' i ⟨rfl,rfl⟩;refine⟨_,?_,k⟩;unfold after
 by_cases a:gK args=cp
 .rw[if_pos a,if_pos b]
 .rw[if_neg a,if_pos c]
@[simp] theorem awX(v g sz off n:Nat):oR (.gf v g sz off n)=true:=rfl
@[simp] theorem atM(t g:Nat)(cs:List D):pv (.row t g cs)=oX cs:=rfl
@[simp] theorem atL(l:List Int):oX (cl f1 l)=true:=by
 rw[zy]
 induction l with
 | nil=>rfl
 | cons a r b=>simpa[oX,flat]using b
end Go.AL
namespace Go.Proofs.YtmehofoficaelaaGreatDoor
open Go Go.AL Classical
set_option maxRecDepth 10000
set_option maxHeartbeats 4000000
def f133(g:gq)(hg:gR g)(n:Int)(a:0<=n/\n<=2*g.kinds.l):Wf T 168 [dG g,.i n] [] (Is (.b cp)):=by have b:=hg.kinds;refine Yg Ko ?_;simp[Ko];exact mI
def f134(g:gq)(hg:gR g)(n:Int)(a:0<=n/\n<=2*g.kinds.l):Wf T 169 [.i n,.gC [.fn (.func 168) [dG g] []]] [] (Is (.b dr)):=by refine Yg Kp ?_;simp[Kp];refine Yc (f133 g hg n a) ?_;simp
def f178(g:gq)(hg:gR g)(l:List Int)(hl:∀n∈l,0<=n/\n<=2*g.kinds.l)(b:l.l<=9):Wf T 230 [dI l,.fn (.func 169) [] [.gC [.fn (.func 168) [dG g] []]]] [] (Is (.i (-1))):=by
 refine Yg Da ?_;simp[Da];refine gx.e (0:Int) (λy=>[(0,dI l),(1,.fn (.func 169) [] [.gC [.fn (.func 168) [dG g] []]]),(7,.i l.l),(8,.i y)]) (λy=>[]) (λy=>0<=y/\y<=l.l) (λy=>(l.l-y).n) ?_ ?_
 .simp
 rintro i ⟨i0,a⟩;dsimp only at i0 a ⊢
 by_cases hi:i<l.l
 .simp[hi];refine gh ?_;refine Yc (f134 g hg (gt l i) (hl _ (gF i0 hi))) ?_;simp;refine gh ?_;refine LJ.e (i+1) ?_;exact mF
 .simp[hi]
def f135(g:gq)(hg:gR g)(l:List Int)(hl:∀n∈l,0<=n/\n<=2*g.kinds.l)(a:l.l<=9):Wf T 170 [dI l,.fn (.func 169) [] [.gC [.fn (.func 168) [dG g] []]]] [] (Is (.b dr)):=by refine Yg C' ?_;simp[C'];refine Yc (f178 g hg l hl a) ?_;simp
def f136(g:gq)(hg:gR g)(l:List Int)(hl:sn g l):Wf T 171 [dG g,dI l] [] (Is (.b cp)):=by
 have f:=hg.kinds;have d:=hl.len;refine Yg Kq ?_;simp[Kq];refine jT d ?_;refine gx.e (0:Int) (λy=>[(2,.ptr 0 0 0),(14,dI l),(15,.i g.kinds.l),(16,.i y)]) (λy=>[.row 279 0 g.cells]) (λy=>0<=y/\y<=l.l) (λy=>(l.l-y).n) ?_ ?_
 .simp
 rintro i ⟨i0,c⟩;dsimp only at i0 c ⊢
 by_cases hi:i<l.l
 .have e:=hl.at_ i i0 hi;have h:i<g.kinds.l:=U
  by_cases a:0<gt l i
  .have b:=e.2.2 a;simp[hi];refine kP b a ?_;refine LJ.e (i+1) ?_;exact mF
  .simp[hi];refine jT a ?_;refine LJ.e (i+1) ?_;exact mF
 .simp[(U:¬i<g.kinds.l)]
def f97(g:gq)(hg:gR g)(p:Pos)(a:iC g p):Wf T 109 [dG g,dP p] [] (Is (.b cp)):=by
 have f:=hg.kinds;have d:=hg.gO;have e:=a.gO;have hs:=a.side;have c:=a.size;have i:=hg.jU.size;have b:=TL d.1 U;refine Yg Mb ?_;simp[Mb,b,c];refine iZ.r rfl rfl (f135 g hg p.cs a.cs U) fZ (by simp[flat]) fZ ?_;simp;refine Yt (f136 g hg p.h0 a.h0) ?_;simp;refine Yt (f136 g hg p.h1 a.h1) ?_;simp;refine FZ b ?_ ?_<;>intro h
 .simp[*]
 .have:p.side=1:=by omega
  simp[*]
def f177(n:Int):Wf T 251 [.i n] [] (Is (.b dr)):=by refine Yg KL ?_;simp[KL]
def f131(a b:Int):Wf T 220 [.i a,.i b] [] (Is (.i (lh a b))):=by
 refine Yg Kl ?_;simp[Kl];refine Yc (f177 a) ?_;simp;refine Yc (f177 b) ?_;simp;(with_reducible repeat' first|refine Xk ?_<;>try simp|refine Xs ?_ ?_<;>intro h<;>(try intro c)<;>(try simp[h])<;>try omega|refine Xg ?_|omega)
 all_goals
  unfold lh;(repeat' split)<;>(first|rfl|(exfalso;omega))
def f130(a b:List Int)(l:a.l<2 ^ 40)(k:b.l<2 ^ 40):Wf T 219 [dI a,dI b] [] (Is (.i (kS a b))):=by
 refine Yg Kk ?_;simp[Kk];refine gx.e (0:Int) (λi=>[(0,dI a),(1,dI b),(9,dI a),(10,.i a.l),(11,.i i)]) (λi=>[]) (λi=>0<=i/\i<=a.l/\i<=b.l/\a.take i.n=b.take i.n) (λi=>a.l-i.n) ?_ ?_
 .simp
 rintro i ⟨h0,h1,j,f⟩;have e:=Zs f U U
 by_cases hi:i<a.l
 .by_cases d:i<b.l
  .simp[hi,d];refine gh ?_;refine Yc (f131 (gt a i) (gt b i)) ?_;simp
   by_cases c:lh (gt a i) (gt b i)=0
   .simp[c];refine gh ?_;refine LJ.e (i+1) ?_;refine AB ?_;rw[jt h0 hi,jt h0 d,f,yO.1 c]
   .simp[c];rw[e,oe h0 hi,oe h0 d,kS,if_neg (λh=>c (yO.2 h))]
  .simp[hi,d];refine gh ?_
   have g:lh ((a.drop i.n).l) ((b.drop i.n).l)=1:=by simp only[aU,lh];rw[if_neg U,if_pos U]
   rw[e,SB (by simp only[aU];omega),g]
 .simp[hi];refine kj ?_ ?_<;>intro h
  all_goals
   rw[e,SB (by simp only[aU];omega)];simp only[aU,lh];(repeat' split)<;>omega
def f129(l:List Int)(hl:l.l<2 ^ 40):Wf T 218 [dI l] [] (Is (.i (nz l))):=by
 refine Yg Kh ?_;simp[Kh];refine gx.e (0:Int) (λi=>[(3,.i 0),(6,dI l),(7,.i l.l),(8,.i i)]) (λi=>[]) (λi=>0<=i/\i<=l.l/\nz l=nz (l.drop i.n)) (λi=>l.l-i.n) ?_ ?_
 .simp
 rintro i ⟨h0,h1,b⟩
 by_cases hi:i<l.l
 .rw[oe h0 hi]at b
  by_cases a:gt l i=0
  .simp[hi,a];refine gh ?_;refine LJ.e (i+1) ?_;refine gX ?_;rw[b];simp only[nz,a];rw[if_neg fZ,(U:(i+1).n=i.n+1)]
  .simp[hi,a];refine gh ?_;rw[b];simp[nz,a]
 .simp[hi];rw[b,bQ U];rfl
def f88(p q:Pos)(b:Small p)(a:Small q):Wf T 152 [dP p,dP q] [] (Is (.i (iH p q))):=by refine Yg L3 ?_;simp[L3];refine Yt (f130 _ _ b.1 a.1) ?_;simp;refine Yt (f130 _ _ b.2.1 a.2.1) ?_;simp;refine Yt (f130 _ _ b.2.2 a.2.2) ?_;simp;refine Yt (f131 _ _) ?_;simp;refine Yt (f131 _ _) ?_;simp;refine iZ.r rfl rfl (f129 [kS p.cs q.cs,kS p.h0 q.h0,kS p.h1 q.h1,lh p.gO q.gO,lh p.side q.side] fZ) (by simp;exact ade _ rfl rfl) (by simp[flat]) fZ ?_;simp;rfl
def f100(l:List Pos)(hl:l.l<2 ^ 40)(hs:∀p∈l,Small p)(a:kT l):Wf T 112 [gP l] [] (Is (.b cp)):=by
 refine Yg CY ?_;simp[CY];refine gh ?_;refine gx.e (0:Int) (λi=>[(0,gP l),(6,.i (l.l-1)),(7,.i i)]) (λi=>[]) (λi=>0<=i) (λi=>l.l-i.n) ?_ ?_
 .simp
 rintro i h0
 by_cases hi:i<l.l-1
 .simp[hi];refine gh ?_;refine Yt (f88 _ _ (hs _ (gF h0 U)) (hs _ (gF (n:=i+1) U U))) ?_;simp;have:=a (i+1) U U;rw[dq]at this;simp[(U:¬ 0<=iH (gt l i) (gt l (i+1)))];refine gh ?_;refine LJ.e (i+1) ?_;exact iM
 .simp[hi]
def f96(g:gq)(hg:gR g)(p:Pos)(a:iC g p):Wf T 108 [dP p,.gC g.cells] [] (Is (.b dr)):=by refine Yg Ma ?_;simp[Ma];refine Yc (f97 g hg p a) ?_;simp
def f147(g:gq)(hg:gR g)(l:List Pos)(hl:∀p∈l,iC g p)(b:l.l<2 ^ 40):Wf T 182 [gP l,.fn (.func 108) [] [.gC g.cells]] [] (Is (.i (-1))):=by
 refine Yg KA ?_;simp[KA];refine gx.e (0:Int) (λy=>[(0,gP l),(1,.fn (.func 108) [] [.gC g.cells]),(7,.i l.l),(8,.i y)]) (λy=>[]) (λy=>0<=y/\y<=l.l) (λy=>(l.l-y).n) ?_ ?_
 .simp
 rintro i ⟨i0,a⟩
 by_cases hi:i<l.l
 .simp[hi];refine gh ?_;refine Yc (f96 g hg (gt l i) (hl _ (gF i0 hi))) ?_;simp;refine gh ?_;refine LJ.e (i+1) ?_;exact mF
 .simp[hi]
def f99(g:gq)(hg:gR g)(l:List Pos)(hl:∀p∈l,iC g p)(a:l.l<2 ^ 40):Wf T 111 [gP l,.fn (.func 108) [] [.gC g.cells]] [] (Is (.b dr)):=by refine Yg Md ?_;simp[Md];refine Yc (f147 g hg l hl a) ?_;simp
def pn(l:List gD):D:=dN 8 gD.cells l
@[simp] theorem acP(l:List gD):closed (pn l)=true:=Bb (λa=>by simp[gD.cells,gK]) l
theorem f132(l:List Int)(h:0<l.l)(b:l.l<2 ^ 40):Wf T 265 [dI l] [] (λd H=>d = .gf 0 1 1 0 l.l/\H = [.row 3 1 (cl f1 l)]):=by refine Yg Km ?_;simp[Km];refine oA.i (a:=.b dr) (by cases l with|nil=>exact absurd h fZ|cons a r=>rfl) ?_;simp;exact mI
def f91(s:gD)(hs:Small s.p)(h0:0<s.p.cs.l/\0<s.p.h0.l/\0<s.p.h1.l):Wf T 215 [.agg s.cells] [] (λd H=>d = .agg [.gf 0 1 1 0 s.p.cs.l,.gf 1 1 1 0 s.p.h0.l,.gf 2 1 1 0 s.p.h1.l,.i s.p.gO,.i s.p.side,.i s.kind,.i s.cur,.b s.jY]/\H = [.row 3 1 (cl f1 s.p.cs),.row 3 1 (cl f1 s.p.h0),.row 3 1 (cl f1 s.p.h1)]):=by refine Yg L5 ?_;simp[L5,gD.cells];refine Yn (f132 s.p.cs h0.1 hs.1) ?_;simp;refine wT.n rfl rfl (f132 s.p.h0 h0.2.1 hs.2.1) fZ fZ ?_;simp;refine wT.n rfl rfl (f132 s.p.h1 h0.2.2 hs.2.2) fZ fZ ?_;simp
def f241(s:gD)(b:Bool):Wf T 323 [.agg s.cells,.b b] [] (Is (pn (if b then [s]else []))):=by
 refine Yg Lj ?_;simp[Lj,gD.cells];cases b
 .simp;rfl
 .simp;rfl
def f243(s:gD)(h:0<=s.cur/\s.cur<s.p.cs.l)(hs:Small s.p):Wf T 325 [.agg s.cells] [] (Is (.tup [.i (gN (gt s.p.cs s.cur)),.i (kh (gt s.p.cs s.cur))])):=by refine Yg Ll ?_;simp[Ll,gD.cells];refine gh ?_;refine Yc (f84 _) ?_;simp
def f199(g:gq)(hg:gR g)(s:gD)(hs:kA g s)(n:Int):Wf T 300 [.agg s.cells,dG g,.i n] [] (Is (pn (jj g s (1,n)))):=by refine Yg K3 ?_;simp[K3,gD.cells];refine Yc (f240 g hg.jU s.p.side n s.cur) ?_;simp;refine gy.c rfl rfl (f241 { s with cur:=mr g s.p.side n s.cur } (decide (0<=mr g s.p.side n s.cur))) (by simp[gD.cells]) fZ ?_;simp[jj]
def f201(g:gq)(hg:gR g)(s:gD)(hs:kA g s)(n:Int):Wf T 302 [.agg s.cells,dG g,.i n] [] (Is (pn (jj g s (3,n)))):=by have b:=hs.p.size;have a:=hs.cur;refine Yg K5 ?_;simp[K5,gD.cells];refine gh ?_;refine iZ.c rfl rfl (f241 s (decide (gt s.p.cs s.cur=0))) (by simp[gD.cells]) fZ ?_;simp[jj]
def f202(g:gq)(hg:gR g)(s:gD)(hs:kA g s)(n:Int):Wf T 303 [.agg s.cells,dG g,.i n] [] (Is (pn (jj g s (4,n)))):=by have c:=hs.p.size;have a:=hs.cur;have b:=hs.p.side;refine Yg K6 ?_;simp[K6,gD.cells];refine gy.c rfl rfl (f243 s U (hs.p.small hg)) (by simp[gD.cells]) fZ ?_;simp;refine gh ?_;refine gy.c rfl rfl (f241 s (decide (kh (gt s.p.cs s.cur)=1-s.p.side))) (by simp[gD.cells]) fZ ?_;simp[jj]
def f203(g:gq)(hg:gR g)(s:gD)(hs:kA g s)(n:Int):Wf T 304 [.agg s.cells,dG g,.i n] [] (Is (pn (jj g s (5,n)))):=by have b:=hs.p.size;have a:=hs.cur;refine Yg K7 ?_;simp[K7,gD.cells];refine gy.c rfl rfl (f243 s U (hs.p.small hg)) (by simp[gD.cells]) fZ ?_;simp;refine gy.c rfl rfl (f241 s (decide (kh (gt s.p.cs s.cur)=s.p.side))) (by simp[gD.cells]) fZ ?_;simp[jj]
def f206(g:gq)(s:gD)(n:Int):Wf T 307 [.agg s.cells,dG g,.i n] [] (Is (pn (jj g s (8,n)))):=by refine Yg K9 ?_;simp[K9,gD.cells];rfl
def f207(g:gq)(hg:gR g)(s:gD)(hs:kA g s)(n:Int)(c:0<=n/\n<g.gO):Wf T 308 [.agg s.cells,dG g,.i n] [] (Is (pn (jj g s (9,n)))):=by have b:=hs.p.gO;have a:=hg.gO;have e:=EX a.1 U;have d:=aaH (r:=s.p.gO) (n:=n) b.1 U c.1 U;refine Yg La ?_;simp[La,gD.cells];refine gh ?_;refine iZ.c rfl rfl (f241 s (decide (bits BinOp.and aE (mG aE s.p.gO n) 1=1))) (by simp[gD.cells]) fZ ?_;simp[jj,d]
def f208(g:gq)(hg:gR g)(s:gD)(hs:kA g s)(n:Int)(d:0<=n/\n<g.gO):Wf T 309 [.agg s.cells,dG g,.i n] [] (Is (pn (jj g s (10,n)))):=by have c:=hs.p.gO;have b:=hg.gO;have e:=EX b.1 U;have a:=aaI (r:=s.p.gO) (n:=n) c.1 U d.1 U;refine Yg Lb ?_;simp[Lb,gD.cells,a];refine jT a ?_;rfl
def f205(g:gq)(hg:gR g)(s:gD)(hs:kA g s)(n:Int):Wf T 306 [.agg s.cells,dG g,.i n] [] (Is (pn (jj g s (7,n)))):=by
 have i:=hs.p.size;have a:=hs.cur;have b:=hs.p.small hg;have c:=hg.jU.size;have k:=hg.kinds;have f:=hs.p.h0.len;have d:=hs.p.h1.len;have j:=hg.jU.to s.p.side n s.cur;have e:jj g s (7,n)=uk g s n:=by simp[jj]
 rw[e];refine Yg K8 ?_;simp[K8,gD.cells];refine Yc (f240 g hg.jU s.p.side n s.cur) ?_;simp;(with_reducible repeat' first|refine Xk ?_<;>try simp|refine Xs ?_ ?_<;>intro h<;>(try intro m)<;>(try simp[h])<;>try omega|refine Xg ?_|omega)
 .rw[uk,if_pos n9];rfl
 .rw[uk,if_pos n9];rfl
 .have q0:=iW (l:=s.p.cs) (n:=mr g s.p.side n s.cur) (v:=gt s.p.cs s.cur) U U;have q1:=iW (l:=pt s.p.cs (mr g s.p.side n s.cur) (gt s.p.cs s.cur)) (n:=s.cur) (v:=0) a.1 U;refine Yn (f91 s b U) ?_;simp;refine kP q0 q1 ?_;simp[uk, *];rfl
 .rw[uk,if_pos n9];rfl
def f204(g:gq)(hg:gR g)(s:gD)(hs:kA g s)(n:Int):Wf T 305 [.agg s.cells,dG g,.i n] [] (Is (pn (jj g s (6,n)))):=by
 have u:=hs.p.size;have c:=hs.cur;have d:=hs.p.small hg;have o:=hg.jU.size;have f:=hg.kinds;have r:=hs.p.h0.len;have q:=hs.p.h1.len;have i:=hs.p.cs _ (gF c.1 U);have t:=hs.p.side;have e:jj g s (6,n)=tq g s:=by simp[jj]
 rw[e];refine Yz FG (ji 52 [2,3,4] FG.body) ?_;simp[FG,ji,kK,nq,nA,nR,mm,gD.cells];refine gy.c rfl rfl (f243 s U d) (by simp[gD.cells]) fZ ?_;simp
 by_cases a:kh (gt s.p.cs s.cur)=1-s.p.side
 .have x:0<=gN (gt s.p.cs s.cur):=by
   unfold kh at a;unfold gN;split at a<;>rename_i k
   .rw[if_pos k];omega
   .omega
  have w:gN (gt s.p.cs s.cur)<g.kinds.l:=yI i.2 f.1;have m:s.p.side=0\/s.p.side=1:=U;have q0:=iW (l:=s.p.cs) (n:=s.cur) (v:=0) c.1 U;simp[a];refine gh ?_;refine Yn (f91 s d U) ?_;simp;refine FZ q0 ?_ ?_<;>intro h
  .have b:=h;rcases m with e|e
   .have j:=hs.p.h0.at_ _ U (U:gN (gt s.p.cs s.cur)<s.p.h0.l);have q1:=DN (l:=s.p.h0) (n:=gN (gt s.p.cs s.cur)) (v:=gt s.p.h0 (gN (gt s.p.cs s.cur))+1) U U;have q2:=iW (l:=s.p.h0) (n:=gN (gt s.p.cs s.cur)) (v:=gt s.p.h0 (gN (gt s.p.cs s.cur))+1) U U;simp[e,q0,q1,q2];refine nL q0 q1 q2 ?_;refine iZ.c rfl rfl (f241 { p:={ s.p with cs:=pt s.p.cs s.cur 0,h0:=pt s.p.h0 (gN (gt s.p.cs s.cur)) (gt s.p.h0 (gN (gt s.p.cs s.cur))+1),side:=0 },kind:=s.kind,cur:=s.cur,jY:=cp } (decide (gt s.p.h0 (gN (gt s.p.cs s.cur))+1<=8))) (by simp[gD.cells]) fZ ?_;simp[tq,a,b,Pos.hand,Pos.mZ,e];done
   .have j:=hs.p.h1.at_ _ U (U:gN (gt s.p.cs s.cur)<s.p.h1.l);have q1:=DN (l:=s.p.h1) (n:=gN (gt s.p.cs s.cur)) (v:=gt s.p.h1 (gN (gt s.p.cs s.cur))+1) U U;have q2:=iW (l:=s.p.h1) (n:=gN (gt s.p.cs s.cur)) (v:=gt s.p.h1 (gN (gt s.p.cs s.cur))+1) U U;simp[e,q0,q1,q2];refine nL q0 q1 q2 ?_;refine iZ.c rfl rfl (f241 { p:={ s.p with cs:=pt s.p.cs s.cur 0,h1:=pt s.p.h1 (gN (gt s.p.cs s.cur)) (gt s.p.h1 (gN (gt s.p.cs s.cur))+1),side:=1 },kind:=s.kind,cur:=s.cur,jY:=cp } (decide (gt s.p.h1 (gN (gt s.p.cs s.cur))+1<=8))) (by simp[gD.cells]) fZ ?_;simp[tq,a,b,Pos.hand,Pos.mZ,e];done
  .simp[tq,a,h,q0];rfl
 .simp[a];refine gh ?_;rw[tq,if_pos a];rfl
def f259(g:gq)(s d c:Int):Wf T 331 [g.jU,.i s,.i d,.i c] [] (Is (.fn (.func 335) [] [.gC [.i g.size,.sl 1 (g.next.map fI),dI g.jD],.gC [.i s],.gC [.i d],.gC [.i c]])):=by refine Yg Lu ?_;simp[Lu]
def f266(l:List Int)(n:Int)(hl:l.l<2 ^ 40):Wf T 336 [dI l,.i n] [] (Ey (λr:Int=>.i r) λr=>0<=r↔n∈l):=by
 refine Yg Dc ?_;simp[Dc];refine gx.e (0:Int) (λy=>[(0,dI l),(1,.i n),(7,.i l.l),(8,.i y)]) (λy=>[]) (λy=>0<=y/\y<=l.l/\n ∉ l.take y.n) (λy=>(l.l-y).n) ?_ ?_
 .simp
 rintro i ⟨i0,b,a⟩
 by_cases hi:i<l.l
 .simp[hi];refine kj ?_ ?_<;>intro h
  .exact Ey.i i rfl rfl ⟨λ_=>by have:=gF i0 hi;simp_all,λ_=>i0⟩
  .refine LJ.e (i+1) ?_;refine gX ?_;rw[jt i0 hi];simp[a];omega
 .simp[hi];rw[lC U]at a;exact Ey.i (-1) rfl rfl ⟨λh=>U,λh=>absurd h a⟩
def f260(l:List Int)(n:Int)(hl:l.l<2 ^ 40):Wf T 332 [dI l,.i n] [] (Is (.b (decide (n∈l)))):=by refine Yg Db ?_;simp[Db];refine Yq (f266 l n hl) λr a=>?_;simp;simp[a]
def aeV(n:Int):Wf T 336 [.gi,.i n] [] (Is (.i (-1))):=by refine Yg Dc ?_;simp[Dc];refine gx.un ?_;refine kU.u ?_;simp
def aeU(n:Int):Wf T 332 [.gi,.i n] [] (Is (.b dr)):=by refine Yg Db ?_;simp[Db];refine Yc (aeV n) ?_;simp
def f265(g:gq)(hg:oU g)(s d c:Int):Wf T 335 [.iQ 4,.gC [.i g.size,.sl 1 (g.next.map fI),dI g.jD],.gC [.i s],.gC [.i d],.gC [.i c]]
  [.row 39 0 [.i g.size,.sl 1 (g.next.map fI),dI g.jD],.row 3 0 [.i c],.row 37 0 [.gi],.jH,.iu 20736 [(7,.ptr 1 0 0),(9,.ptr 2 0 0)] .ready]
  (λ_ H'=>∃st,(st = .ready\/st = .zD 0)/\H' = [.row 39 0 [.i g.size,.sl 1 (g.next.map fI),dI g.jD],.row 3 0 [.i c],.row 37 0 [if lK g s d c = []then .gi else .gf 5 ((lK g s d c).l-1) 1 0 (lK g s d c).l],.jH,.iu 20736 [(7,.ptr 1 0 0),(9,.ptr 2 0 0)] st]++(if lK g s d c = []then []else [.row 3 ((lK g s d c).l-1) (cl f1 (lK g s d c))])):=by
 have t:=hg.size;refine Yg Lw ?_;simp[Lw];refine Yr (f240 g hg s d c) ?_;simp;refine gx.e ((0,mr g s d c,[]):Nat×Int×List Int) (λx=>[(0,.iQ 4),(1,.gC [.i g.size,.sl 1 (g.next.map fI),dI g.jD]),(2,.gC [.i s]),(3,.gC [.i d]),(6,.i x.2.1)]) (λx=>[.row 39 0 [.i g.size,.sl 1 (g.next.map fI),dI g.jD],.row 3 0 [.i c],.row 37 0 [if x.2.2 = []then .gi else .gf 5 (x.2.2.l-1) 1 0 x.2.2.l],.jH,.iu 20736 [(7,.ptr 1 0 0),(9,.ptr 2 0 0)] .ready]++(if x.2.2 = []then []else [.row 3 (x.2.2.l-1) (cl f1 x.2.2)])) (λx=>x.1=x.2.2.l/\x.2.1<g.size/\x.2.2.Nodup/\(∀y∈x.2.2,0<=y/\y<g.size)/\lK g s d c=ua g s d c (10-x.1) x.2.1 x.2.2) (λx=>10-x.1) ?_ ?_
 .have:=hg.to s d c;simp[lK];omega
 rintro⟨m,x,out⟩ ⟨h0,h1,p,o,n⟩;dsimp only at h0 h1 p o n ⊢;have r:out.l<=9:=Ax 9 out p (λy l=>by have:=o y l;omega);have e:=n;rw[(U:10-m=(9-m)+1),ua]at e;have k:=hg.to s d x
 by_cases i:out = []
 .subst i
  by_cases b:0<=x
  .simp[b];refine q'.r (rf:=20736) (env0:=[(7,.ptr 1 0 0),(9,.ptr 2 0 0)]) (Rd:=wQ) fZ rfl rfl wQ.a wQ.b (oT rfl) (oT rfl) ?_;simp[wQ]
   by_cases a:x=c
   .have f:lK g s d c = []:=by rw[e,if_neg (λh=>h.2.1 a)]
    simp[a,f]
   .have q:lK g s d c=ua g s d c (9-m) (mr g s d x) [x]:=by rw[e,if_pos ⟨b,a,fZ⟩];rfl
    simp[a];refine Yc (aeU x) ?_;simp;refine gh ?_;refine Yr (f240 g hg s d x) ?_;simp;refine LJ.i (m+1,mr g s d x,[x]) (by first|rfl|simp[je]) (by first|rfl|simp[je]) rfl rfl ?_;dsimp only;refine⟨by simp at h0;omega,by simp at h0;simp;omega,k.2,fZ,gL,?_⟩;rw[q];congr 1;omega
  .have f:lK g s d c = []:=by rw[e,if_neg (λh=>b h.1)]
   simp[b,f]
 .simp only[if_neg i,cE,bI]
  by_cases b:0<=x
  .simp[b];refine q'.r (rf:=20736) (env0:=[(7,.ptr 1 0 0),(9,.ptr 2 0 0)]) (Rd:=wQ) fZ rfl rfl wQ.a wQ.b (oT rfl) (oT rfl) ?_;simp[wQ]
   by_cases a:x=c
   .have f:lK g s d c=out:=by rw[e,if_neg (λh=>h.2.1 a)]
    simp[a,f,i]
   .simp[a];refine Yr (f260 out x U) ?_;simp;refine X2.z a ?_;simp
    by_cases j:x∈out
    .have f:lK g s d c=out:=by rw[e,if_neg (λh=>h.2.2 j)]
     simp[j,f,i]
    .have q:lK g s d c=ua g s d c (9-m) (mr g s d x) (out ++ [x]):=by rw[e,if_pos ⟨b,a,j⟩]
     have hl:0<out.l:=ay.2 i;simp[j];refine gh ?_;refine Yr (f240 g hg s d x) ?_;simp;refine LJ.i (m+1,mr g s d x,out ++ [x]) (by first|rfl|simp[(U:out.l-1+1=out.l)]) (by first|rfl|simp[(U:out.l-1+1=out.l)]) rfl rfl ?_;dsimp only;refine⟨U,gL,k.2,?_,λy l=>?_,?_⟩
     .grind
     .grind
     .grind
  .have f:lK g s d c=out:=by rw[e,if_neg (λh=>b h.1)]
   simp[b,f,i]
def f242(g:gq)(hg:oU g)(s d c:Int):Wf T 324 [g.jU,.i s,.i d,.i c] [] (Is (dN 1 f1 (lK g s d c))):=by
 refine Yg Lk ?_;simp[Lk];refine Yc (f259 g s d c) ?_;simp;refine tv.r (f:=335) (first:=[]) (cap:=[.gC [.i g.size,.sl 1 (g.next.map fI),dI g.jD],.gC [.i s],.gC [.i d],.gC [.i c]]) rfl rfl rfl rfl ?_;simp;refine Wf.mono (f265 g hg s d c) ?_;rintro _ H' ⟨st,b,rfl⟩;refine⟨[(7,.ptr 1 0 0),(9,.ptr 2 0 0)],st,fZ,?_⟩
 by_cases h:lK g s d c = []
 .rcases b with rfl|rfl
  .simp[h];rfl
  .simp[h];rfl
 .have e:dI (lK g s d c)=dN 1 f1 (lK g s d c):=by
   revert h
   cases lK g s d c with
   | nil=>intro h;exact absurd rfl h
   | cons a r=>intro _;rfl
  rcases b with rfl|rfl
  .simp[h,e]
  .simp[h,e]
@[simp] theorem asW(l:List Int):closed (dN 1 f1 l)=true:=Bb (λa=>by simp[gK]) l
theorem P8{l:List gD}(h:l≠[]):kL l=pn l:=by
 cases l with
 | nil=>exact absurd rfl h
 | cons a r=>rfl
def f200(g:gq)(hg:gR g)(s:gD)(hs:kA g s)(n:Int):Wf T 301 [.agg s.cells,dG g,.i n] [] (Is (pn (jj g s (2,n)))):=by
 have o:=hs.p.size;have m:=hg.jU.size;have e:jj g s (2,n)=qt s (lK g s.p.side n s.cur):=by simp[jj]
 have f:∀y∈lK g s.p.side n s.cur,0<=y/\y<g.size:=λy k=>Sz hg.jU k;have d:(lK g s.p.side n s.cur).l<=10:=SA;rw[e];refine Yg K4 ?_;simp[K4,gD.cells];refine Yc (f242 g hg.jU s.p.side n s.cur) ?_;simp;generalize lK g s.p.side n s.cur=l at *;refine gx.e ((0,[]):Int×List gD) (λy=>[(3,.ptr 0 0 0),(7,if y.1=0 then .gi else .gf 2 (y.2.l-1) 8 0 y.2.l),(19,dN 1 f1 l),(20,.i l.l),(21,.i y.1)]) (λy=>.row 330 0 s.cells :: .row 43 0 g.cells::(if y.1=0 then []else [.row 330 (y.2.l-1) (cl gD.cells y.2)])) (λy=>0<=y.1/\y.1<=l.l/\y.2.l=y.1.n/\qt s l=y.2++qt s (l.drop y.1.n)) (λy=>(l.l-y.1).n) ?_ ?_
 .simp
 rintro⟨i,st⟩ ⟨i0,j,c,a⟩;dsimp only at i0 j c a ⊢
 by_cases hi:i<l.l
 .have p:=f _ (gF i0 hi);rw[oe i0 hi,qt]at a
  by_cases b:i=0
  .have:st = []:=aA.1 U;subst b;subst this;simp[hi,gD.cells];(with_reducible repeat' first|refine Xk ?_<;>try simp|refine Xs ?_ ?_<;>intro h<;>(try intro q)<;>(try simp[h])<;>try omega|refine Xg ?_|omega)
   .refine LJ.i (1,[{ s with cur:=gt l 0 }]) (by first|rfl|simp[je,gD.cells]) (by first|rfl|simp[je,gD.cells]) rfl rfl ?_;refine gX ⟨rfl,?_⟩;rw[a,if_pos h];rfl
   .rw[a,if_neg h];rfl
  .have hl:0<st.l:=by omega
   rw[if_neg b,if_neg b];simp[hi,gD.cells];refine kj ?_ ?_<;>intro h
   .refine LJ.i (i+1,st ++ [{ s with cur:=gt l i }]) (by first|rfl|simp[(U:¬(i+1=0)),(U:st.l-1+1=st.l),gD.cells]) (by first|rfl|simp[(U:¬(i+1=0)),(U:st.l-1+1=st.l),gD.cells]) rfl rfl ?_;refine⟨gJ,gJ,gJ,gL,?_⟩;rw[a,if_pos h,(U:(i+1).n=i.n+1)];simp
   .rw[a,if_neg h,<-P8 fZ];simp[kL,gD.cells]
 .rw[bQ U,qt,aB]at a
  by_cases b:i=0
  .have:st = []:=aA.1 U;subst b;subst this;simp[(U:¬ 0<l.l),gD.cells];rw[a];rfl
  .rw[if_neg b,if_neg b];simp[hi,gD.cells];rw[a,P8 (by intro h;rw[h]at c;simp at c;omega)]
def f164(g:gq)(hg:gR g)(s:gD)(hs:kA g s)(x:gg)(b:FY g x):Wf T 286 [dG g,.agg s.cells,.agg [.i x.1,.i x.2]] [] (Is (pn (jj g s x))):=by
 obtain⟨k,n⟩:=x;have a:=b.ok;dsimp only at a ⊢;rcases(U:k=1\/k=2\/k=3\/k=4\/k=5\/k=6\/k=7\/k=8\/k=9\/k=10)with rfl|rfl|rfl|rfl|rfl|rfl|rfl|rfl|rfl|rfl
 all_goals
  refine Yg KH ?_;simp[KH,gD.cells]
 .refine iZ.c rfl rfl (f199 g hg s hs n) fZ fZ ?_;simp
 .refine iZ.c rfl rfl (f200 g hg s hs n) fZ fZ ?_;simp
 .refine iZ.c rfl rfl (f201 g hg s hs n) fZ fZ ?_;simp
 .refine iZ.c rfl rfl (f202 g hg s hs n) fZ fZ ?_;simp
 .refine iZ.c rfl rfl (f203 g hg s hs n) fZ fZ ?_;simp
 .refine iZ.c rfl rfl (f204 g hg s hs n) fZ fZ ?_;simp
 .refine iZ.c rfl rfl (f205 g hg s hs n) fZ fZ ?_;simp
 .refine iZ.c rfl rfl (f206 g s n) fZ fZ ?_;simp
 .refine iZ.c rfl rfl (f207 g hg s hs n U) fZ fZ ?_;simp
 .refine iZ.c rfl rfl (f208 g hg s hs n U) fZ fZ ?_;simp
@[simp] theorem aq3(t sz bytes:Nat)(z:List D)(m:Int)(a:Nat):Mj t sz bytes z .gi (.val (.int .i64 m)) a=if 0<m/\rr (m*bytes) 140737488355328/\rr m 9223372036854775807 then di (.gf a 0 sz 0 m.n,.new (.row t 0 (b4 m.n z).flatten))else none:=rfl
theorem f191(n:Int)(a:0<n/\n<1000):Wf T 212 [.gi,.i n] [] (λd H=>d = .gf 0 0 1 0 0/\H = [.row 3 0 (cl f1 (b4 n.n 0))]):=by refine Yg KX ?_;simp[KX];exact mI
@[irreducible] def fl(l:List (List Int)):List Int:=l.flatten
theorem zI(l:List (List Int)):fl l=l.flatten:=by unfold fl;rfl
@[simp] theorem atI:fl [] = []:=by simp[zI]
theorem WL{l:List (List Int)}{i:Int}(h0:0<=i)(h:i<l.l):fl (l.take (i+1).n)=fl (l.take i.n)++gt l i:=by rw[jt h0 h];simp[zI]
def WK(l:List (List Int))(n:Nat):(fl (l.take n)).l<=(fl l).l:=by
 simp only[zI]
 conv=>rhs;rw[<-bV n l]
 simp only[eM,aq];omega
def f148(l:List (List Int))(hl:l.l<=10)(m:0<(fl l).l/\(fl l).l<1000):Wf T 147 [.sl 1 (l.map fI)] [] (λd H=>d = .gf 0 l.l 1 0 (fl l).l/\H = [.row 3 l.l (cl f1 (fl l))]):=by
 have n:0<l.l:=by
  cases l with
  | nil=>simp at m
  | cons a r=>simp
 refine Yg KB ?_;simp[KB];refine gx.e (0:Int) (λi=>[(0,.sl 1 (l.map fI)),(3,.i (fl (l.take i.n)).l),(9,.sl 1 (l.map fI)),(10,.i l.l),(11,.i i)]) (λi=>[]) (λi=>0<=i/\i<=l.l) (λi=>(l.l-i).n) ?_ ?_
 .simp
 rintro i ⟨i0,o⟩
 by_cases hi:i<l.l
 .have h1:=WL i0 hi;have c:=WK l (i+1).n;rw[h1,aq]at c;simp[hi];(with_reducible repeat' first|refine Xk ?_<;>try simp|refine Xs ?_ ?_<;>intro h<;>(try intro p)<;>(try simp[h])<;>try omega|refine Xg ?_|omega);refine LJ.i (i+1) (by first|rfl|simp[h1]) (by first|rfl|simp[h1]) rfl rfl ?_;exact mF
 .have f:(l.take i.n)=l:=lC U;simp[hi,f];refine Yn (f191 (fl l).l U) ?_;simp;refine gx.e (0:Int) (λj=>[(6,.gf 0 j.n 1 0 (fl (l.take j.n)).l),(25,.sl 1 (l.map fI)),(26,.i l.l),(27,.i j)]) (λj=>[.row 3 j.n (if j=0 then cl f1 (b4 (fl l).l 0)else cl f1 (fl (l.take j.n)))]) (λj=>0<=j/\j<=l.l) (λj=>(l.l-j).n) ?_ ?_
  .simp
  rintro j ⟨j0,j1⟩
  by_cases b:j<l.l
  .have h1:=WL j0 b;have c:=WK l (j+1).n;rw[h1,aq]at c
   by_cases g:j=0
   .subst g;simp at h1 c;simp[b];refine gh ?_;refine LJ.i (1) (by first|rfl|simp[h1]) (by first|rfl|simp[h1]) rfl rfl ?_;exact mF
   .rw[if_neg g];simp[b];refine gh ?_;have e:(j+1).n=j.n+1:=U;rw[e]at h1;refine LJ.i (j+1) (by first|rfl|simp[h1,e,(U:¬(j+1=0))]) (by first|rfl|simp[h1,e,(U:¬(j+1=0))]) rfl rfl ?_;exact mF
  .have f:(l.take j.n)=l:=lC U;have k:j.n=l.l:=U;rw[if_neg U];simp[b,f,k]
@[irreducible] def oz(p:Pos):List Int:=fl [p.cs,p.h0,p.h1,[p.gO,p.side]]
theorem Ce(p:Pos):oz p=fl [p.cs,p.h0,p.h1,[p.gO,p.side]]:=by unfold oz;rfl
def oO(p:Pos):ByteArray:=((oz p).map λn=>bb.wrap n).foldl (λr n=>r.push (bs n.n)) ByteArray.empty
@[simp] theorem acC(l:List Int)(n:Int):cl fU l ++ [.val (.int .u8 n)]=cl fU (l ++ [n]):=by rw[<-qc,zG]
@[simp] theorem acj:∀l:List Int,bytesOf (cl fU l)=di l
 | []=>by simp[bytesOf]
 | a::r=>by rw[nb,zG,fH,bytesOf,acj r]
def f101(p:Pos)(h:0<p.cs.l)(hl:(oz p).l<1000):Wf T 93 [dP p] [] (Is (.val (.string (oO p)))):=by
 have f:0<(oz p).l:=by simp[Ce,zI];omega
 have d:=f148 [p.cs,p.h0,p.h1,[p.gO,p.side]] fZ (by rw[<-Ce];exact⟨f,hl⟩);rw[<-Ce]at d;refine Yg Jv ?_;simp[Jv];refine gy.nr rfl rfl d (by simp[mT,chunks];unfold dI;simp only[cc,List.map_nil,DH]) fZ fZ ?_;simp;refine gx.e (0:Int) (λy=>[(3,if y=0 then .gi else .gf 4 (y.n-1) 1 0 y.n),(20,.gf 3 4 1 0 (oz p).l),(21,.i (oz p).l),(22,.i y)]) (λy=>[.row 46 0 p.cells,.row 3 0 [.i p.gO,.i p.side],.row 37 0 [dI p.cs,dI p.h0,dI p.h1,.gf 1 0 1 0 2],.row 3 4 (cl f1 (oz p))]++(if y=0 then []else [.row 5 (y.n-1) (cl fU (((oz p).take y.n).map λn=>bb.wrap n))])) (λy=>0<=y/\y<=(oz p).l) (λy=>((oz p).l-y).n) ?_ ?_
 .simp
 rintro i ⟨i0,k⟩
 by_cases hi:i<(oz p).l
 .have a:(eh (i.n+1) (oz p)).map (λn=>bb.wrap n)=(eh i.n (oz p)).map (λn=>bb.wrap n) ++ [bb.wrap (gt (oz p) i)]:=by rw[<-(U:(i+1).n=i.n+1),jt i0 hi];simp
  have b:(i+1).n=i.n+1:=U
  by_cases c:i=0
  .rw[if_pos c,if_pos c];have g:i.n=0:=U;rw[g]at a b;simp at a;simp[hi];refine gh ?_;refine LJ.i (i+1) (by first|rfl|simp[(U:¬(i+1=0)),b,a,je]) (by first|rfl|simp[(U:¬(i+1=0)),b,a,je]) rfl rfl ?_;exact mF
  .rw[if_neg c,if_neg c];simp[hi];refine gh ?_;have e:i.n-1+1=i.n:=U;simp at a;refine LJ.i (i+1) (by first|rfl|simp[(U:¬(i+1=0)),b,a,e,dX]) (by first|rfl|simp[(U:¬(i+1=0)),b,a,e,dX]) rfl rfl ?_;exact mF
 .rw[if_neg U,if_neg U];have j:i.n=(oz p).l:=U;simp[hi,Dr,j];rfl
set_option maxRecDepth 100000
def Gt(n:Int):ByteArray:=⟨#[bs (48+n.n)]⟩
def f209(n:Int)(a:0<=n/\n<=9):Wf T 310 [.i n] [] (Is (.val (.string (Gt n)))):=by
 rcases(U:n=0\/n=1\/n=2\/n=3\/n=4\/n=5\/n=6\/n=7\/n=8\/n=9)with rfl|rfl|rfl|rfl|rfl|rfl|rfl|rfl|rfl|rfl
 all_goals exact pc (k:=100) gu
def zp(b:Bool):ByteArray:=if b then⟨#[116,114,117,101]⟩else⟨#[102,97,108,115,101]⟩
def f210(b:Bool):Wf T 311 [.b b] [] (Is (.val (.string (zp b)))):=by
 cases b
 .exact pc (k:=100) gu
 .exact pc (k:=100) gu
@[simp] theorem azb(a b:ByteArray):Fh .add a b=if rr ((a.size+b.size:Nat):Int) 9223372036854775807 then di (.val (.string (a++b)))else none:=rfl
theorem foldl_push(l:List Int):∀r:ByteArray,(l.foldl (λr n=>r.push (bs n.n)) r).data.toList=r.data.toList++l.map λn=>bs n.n:=by
 induction l with
 | nil=>intro r;simp
 | cons a l b=>intro r;rw[cj,b];simp[ByteArray.push]
def Za(p:Pos):(oO p).data.toList=(oz p).map λn=>bs (bb.wrap n).n:=by unfold oO;rw[foldl_push];simp[ByteArray.empty,ByteArray.emptyWithCapacity];rfl
@[simp] theorem au3(p:Pos):(oO p).size=(oz p).l:=by show(oO p).data.size=_;rw[<-dj,Za,List.length_map]
@[simp] theorem ayG(a:Array UInt8):ByteArray.size ⟨a⟩=a.size:=rfl
@[simp] theorem atl(n:Int):(Gt n).size=1:=rfl
@[simp] theorem acd(b:Bool):(zp b).size<=5:=by cases b<;>decide
def o6(s:gD):ByteArray:=Gt s.kind++⟨#[32]⟩++Gt s.cur++⟨#[32]⟩++zp s.jY++⟨#[32]⟩++oO s.p
def f165(s:gD)(h1:0<=s.kind/\s.kind<=9)(a:0<=s.cur/\s.cur<=9)(h:0<s.p.cs.l)(hl:(oz s.p).l<1000):Wf T 287 [.agg s.cells] [] (Is (.val (.string (o6 s)))):=by have b:=acd s.jY;refine Yg KJ ?_;simp[KJ,gD.cells];refine Yt (f209 s.kind h1) ?_;simp;refine gh ?_;refine Yt (f209 s.cur a) ?_;simp;refine gh ?_;refine Yt (f210 s.jY) ?_;simp;refine gh ?_;refine Yt (f101 s.p h hl) ?_;simp;refine gh ?_;rfl
def ofNat_inj{m n:Nat}(b:m<256)(a:n<256)(h:bs m=bs n):m=n:=by have:=congrArg UInt8.toNat h;simp only[UInt8.toNat_ofNat']at this;omega
def abB{n:Int}(h:0<=n/\n<256):bb.wrap n=n:=by simp only[IntKind.wrap,IntKind.bits,IntKind.signed];simp;omega
theorem ZI:∀ {a b:List Int},(∀n∈a,0<=n/\n<256)->(∀n∈b,0<=n/\n<256)->(a.map λn=>bs (bb.wrap n).n)=(b.map λn=>bs (bb.wrap n).n)->a=b
 | [],[],_,_,_=>rfl
 | [],_::_,_,_,h=>by simp at h
 | _::_,[],_,_,h=>by simp at h
 | x::a,y::b,ha,hb,h=>by simp only[cc,cY]at h;have f:=ha x fZ;have d:=hb y fZ;rw[abB f,abB d]at h;have e:=ofNat_inj U U h.1;rw[ZI (λn c=>ha n (by simp[c])) (λn c=>hb n (by simp[c])) h.2,(U:x=y)]
def Sr{g:gq}(hg:gR g){p:Pos}(b:iC g p):∀n∈oz p,0<=n/\n<256:=by
 have e:=hg.kinds;have d:=hg.gO;have f:=EX d.1 U
 have c:∀ {l:List Int},sn g l->∀n∈l,0<=n/\n<256:=λ{l} h n a=>by obtain⟨i,h0,h1,rfl⟩:=yM.1 a;have:=h.at_ i h0 h1;omega
 intro n a;rw[Ce,zI]at a;simp only[a7,ew,aj,av,eu,or_false]at a;have j:=b.gO;have k:=b.side;rcases a with a|a|a|rfl|rfl
 .have:=b.cs n a;omega
 .exact c b.h0 n a
 .exact c b.h1 n a
 .omega
 .omega
def agW{g:gq}{p q:Pos}(b:iC g p)(a:iC g q)(h:oz p=oz q):p=q:=by rw[Ce,Ce,zI,zI]at h;simp only[a7,ew,aB]at h;have k:=b.size;have j:=a.size;have i:=b.h0.len;have b2:=a.h0.len;have f:=b.h1.len;have c2:=a.h1.len;obtain⟨e,h⟩:=fE h U;obtain⟨d,h⟩:=fE h U;obtain⟨c,h⟩:=fE h U;simp only[cY,and_true]at h;cases p;cases q;simp_all
def Y'{g:gq}(hg:gR g){p q:Pos}(c:iC g p)(a:iC g q)(h:oO p=oO q):p=q:=by have d:=congrArg (λb:ByteArray=>b.data.toList) h;simp only[Za]at d;exact agW c a (ZI (Sr hg c) (Sr hg a) d)
def agX(s:gD):(o6 s).data.toList=bs (48+s.kind.n)::32::bs (48+s.cur.n)::32::((zp s.jY).data.toList++32::(oO s.p).data.toList):=by unfold o6 Gt;simp
def Zf{g:gq}(hg:gR g){s t:gD}(hs:kA g s)(e:kA g t)(h:o6 s=o6 t):s=t:=by
 have i:=congrArg (λb:ByteArray=>b.data.toList) h;simp only[agX,cY,true_and]at i;obtain⟨r,q,d⟩:=i;have w:=hg.kinds;have x:=hg.jU.size;have k1:=hs.kind;have k2:=e.kind;have v:=hs.cur;have u:=e.cur;have f1:=ofNat_inj U U r;have f2:=ofNat_inj U U q;obtain⟨p,k,c,b⟩:=s;obtain⟨a,l,c',j⟩:=t;dsimp only at *
 have f:b=j/\oO p=oO a:=by
  cases b<;>cases j
  .simp[zp]at d;exact⟨rfl,by cases n:oO p;cases m:oO a;simp_all [fu]⟩
  .simp[zp]at d
  .simp[zp]at d
  .simp[zp]at d;exact⟨rfl,by cases n:oO p;cases m:oO a;simp_all [fu]⟩
 have o:p=a:=Y' hg hs.p e.p f.2;rw[f.1,o,(U:k=l),(U:c=c')]
def N'(a b:ByteArray):nY (.string a) (.string b)=decide (a=b):=by obtain⟨a⟩:=a;obtain⟨b⟩:=b;show(a == b)=_;rw[dx,beq_iff_eq,decide_eq_true_iff,ByteArray.mk.injEq]
theorem SL{g:gq}(hg:gR g){t:gD}(b:kA g t):∀ {l:List gD},(∀s∈l,kA g s)->rz (l.map λs=>((.string (o6 s):Value),D.b cp)) (.string (o6 t))=if t∈l then di (.b cp)else none
 | [],_=>by simp[rz]
 | a::l,h=>by
  rw[cc,rz,N',SL hg b λs hs=>h s (by simp[hs])]
  by_cases e:t=a
  .subst e;simp
  .have:¬o6 t=o6 a:=λk=>e (Zf hg b (h a fZ) k);simp[this,e]
theorem SR{g:gq}(hg:gR g){t:gD}(b:kA g t):∀ {l:List gD},(∀s∈l,kA g s)->t ∉ l->mE (l.map λs=>((.string (o6 s):Value),D.b cp)) (.string (o6 t)) (.b cp)=(l ++ [t]).map λs=>((.string (o6 s):Value),D.b cp)
 | [],_,_=>by simp[mE]
 | a::l,h,hn=>by simp only[av,not_or]at hn;have:¬o6 t=o6 a:=λk=>hn.1 (Zf hg b (h a fZ) k);rw[cc,mE,N',SR hg b (λs hs=>h s (by simp[hs])) hn.2];simp[this]
set_option maxRecDepth 10000
set_option maxHeartbeats 8000000
def gy.inl{T:iF}{f:FuncId}{args:List D}{dst:Option Nat}{s:St}{K:St->Prop}(fn:jq)(a:T.fn f=di fn)(c:fn.full=cp)(hl:args.l<=fn.ntmps)(b:uf fn.body=cp)
  (h:XC T fn.body { env:=ti args,H:=s.H } (zH fn.results fn.own s.H.l λd H'=>K { s with env:=put s.env dst d,H:=H' })):gy T f args dst s K .mk:=.inr ⟨fn,a,c,Wf.x a hl h b⟩
abbrev yg(g:gq)(p:Pos)(st:gD)(outs:D):gd:=[.row 43 0 g.cells,.row 46 0 p.cells,.row 256 0 [outs],.row 43 0 g.cells,.row 46 0 p.cells,.dead,.dead,.dead,.row 330 0 st.cells,.dead]
def aeG(g:gq)(hg:gR g)(p:Pos)(e:iC g p)(st t:gD)(a:kA g t):Wf T 260 [.agg t.cells,.agg [.i 0,.i 0],.ptr 1 0 0,.ptr 2 0 0] (yg g p st .gi ++ [.row 330 0 t.cells])
  (λ_ H'=>match oF p.side t with
   | none=>H'=yg g p st .gi ++ [.row 330 0 t.cells]
   | some o=>H'=yg g p st (.gf 11 0 6 0 1) ++ [.row 330 0 t.cells,.row 259 0 (cl gY.cells [o])]):=by
 have m:=a.p.size;have c:=a.cur;have d:=a.p.small hg;have h:=hg.jU.size;have q:=hg.kinds;have j:=a.p.h0.len;have i:=a.p.h1.len;have b:=e.side;have f:=a.p.side;refine Yz sT (ji 37 [13,14,15] sT.body) ?_;simp[sT,ji,kK,nq,nA,nR,mm,yg,gD.cells]
 by_cases h0:gt t.p.cs t.cur=0
 .simp[h0];refine gh ?_;refine Yn (f91 t d U) ?_;simp;refine gh ?_;refine Yt (f92 (k:=t.kind) (s:=p.side) a.kind.1 (by have:=a.kind;omega) b.1 b.2) ?_;simp;refine gh ?_;have q0:=iW (l:=t.p.cs) (n:=t.cur) (v:=1+2*t.kind+p.side) c.1 U;simp[oF,h0,l5,je,q0]
 .simp[h0,oF];exact mI
def aeH(g:gq)(hg:gR g)(p:Pos)(e:iC g p)(st t:gD)(a:kA g t)(outs:List gY)(u:outs.l<2 ^ 39)(f:0<outs.l):Wf T 260 [.agg t.cells,.agg [.i 0,.i 0],.ptr 1 0 0,.ptr 2 0 0] (yg g p st (.gf 10 (outs.l-1) 6 0 outs.l) ++ [.row 259 (outs.l-1) (cl gY.cells outs),.row 330 0 t.cells])
  (λ_ H'=>match oF p.side t with
   | none=>H'=yg g p st (.gf 10 (outs.l-1) 6 0 outs.l) ++ [.row 259 (outs.l-1) (cl gY.cells outs),.row 330 0 t.cells]
   | some o=>H'=yg g p st (.gf 10 (outs ++ [o]).l.pred 6 0 (outs ++ [o]).l) ++ [.row 259 (outs ++ [o]).l.pred (cl gY.cells (outs ++ [o])),.row 330 0 t.cells]):=by
 have r:=a.p.size;have c:=a.cur;have d:=a.p.small hg;have j:=hg.jU.size;have w:=hg.kinds;have q:=a.p.h0.len;have m:=a.p.h1.len;have b:=e.side;have i:=a.p.side;refine Yz sT (ji 37 [14,15,16] sT.body) ?_;simp[sT,ji,kK,nq,nA,nR,mm,yg,gD.cells]
 by_cases h0:gt t.p.cs t.cur=0
 .simp[h0];refine gh ?_;refine Yn (f91 t d U) ?_;simp;refine gh ?_;refine Yt (f92 (k:=t.kind) (s:=p.side) a.kind.1 (by have:=a.kind;omega) b.1 b.2) ?_;simp;refine gh ?_;have q0:=iW (l:=t.p.cs) (n:=t.cur) (v:=1+2*t.kind+p.side) c.1 U;simp[oF,h0,l5,q0];(with_reducible repeat' first|refine Xk ?_<;>try simp[(U:outs.l-1+1=outs.l)]|refine Xs ?_ ?_<;>intro h<;>(try intro x)<;>(try simp[h,(U:outs.l-1+1=outs.l)])<;>try omega|refine Xg ?_|omega)
 .simp[h0,oF];exact mI
