/- Part 16 of DisputeWorkers. -/
import Derived.Test.YtmehofoficaelaaGreatDoorW15
set_option linter.all false
namespace Go.Proofs.YtmehofoficaelaaGreatDoor
open Go Go.AL Classical
set_option maxRecDepth 10000
set_option maxHeartbeats 1000000
@[simp] theorem asZ(n:Int)(nx:List (List Int))(tn:List Int):closed (bD n nx tn)=true:=by simp[bD]
theorem f104(w d c:Int)(g:0<=w/\w<256)(i:0<=d/\d<256)(j:0<=c/\c<256):Wf T 159 [.val (.int .u8 w),.val (.int .u8 d),.val (.int .u8 c)] [] (Ey (λx:Int×List (List Int)×List Int=>bD x.1 x.2.1 x.2.2) λx=>oM (Cg x.1 x.2.1 x.2.2)):=by
 have w1:=jH (a:=w) (b:=3) g.1;have h1:=jH (a:=d) (b:=3) i.1;have w2:IntKind.i64.wrap (gA w 3)=gA w 3:=o9 iy;have k:IntKind.i64.wrap (gA d 3)=gA d 3:=o9 iy;have c2:IntKind.i64.wrap c=c:=o9 iy;refine Yg Jr ?_;simp[Jr,w2,k];refine gd ?_;obtain⟨n,nx,tn,hg,e⟩:=f149 (1+gA w 3) (1+gA d 3) (by omega) (by omega);have o:1<=n/\n<=9:=e.size;refine gx.c rfl rfl hg (by simp) (by simp[bD]) ?_;simp[bD,c2];refine j' ?_ ?_<;>intro h
 .rw[c2];have m:=jH (a:=c) (b:=n) j.1;have l:=bL c (show n≠0 by omega);have p:=bE c (show 0<n by omega);refine Yv (f150 n nx tn e (gA c n) (by omega)) λx f=>?_;simp;simp[bD];exact Ey.i (n,x,tn) rfl rfl f
 .exact Ey.i (n,nx,tn) rfl rfl e
theorem kP.s{T:iB}{n:Nat}{live:List Nat}{a:IR}{s b:St}{K:iY}(hs:s=b)(h:kP T n live a b K .mk):kP T n live a s K .mk:=by subst hs;exact h
theorem gj.s{T:iB}{live:List Nat}{a:IR}{s b:St}{K:iY}(hs:s=b)(h:gj T live a b K .mk):gj T live a s K .mk:=by subst hs;exact h
theorem Vg(l:List Int):cl fU l=l.map λn=>D.val (.int .u8 n):=by
 rw[oC]
 induction l with
 | nil=>rfl
 | cons a r b=>simp[<-b]
@[simp] theorem ahO{l:List Int}{k:Nat}{P:D->Prop}:oA (cl fU l)[k]? P .mk=(k<l.length/\P (.val (.int .u8 (gt l k)))):=by
 rw[Vg]
 by_cases h:k<l.length
 .simp[h,gt]
 .simp[h]
@[simp] theorem arE{l:List Int}{k:Nat}(h:k<(cl fU l).length):(cl fU l)[k] = .val (.int .u8 (gt l k)):=by
 have a:k<l.length:=by simpa using h
 simp[Vg,gt,a]
theorem f59(g:gi)(hg:gV g)(l:List Int)(hl:l.length=18)(h:∀n∈l,0<=n/\n<256) :
  Wf T 100 [dG g,.agg (cl fU l)] [] (Ey dP (iw g)):=by
 have hb:=hg.jJ.size;have w:=hg.kinds;have N:=hg.gL;have O:=TI N.1 (by omega);have h5:=EJ N.1 (by omega);have h6:(0:Int)<2 ^ g.gL.toNat:=Int.pow_pos (by decide);have r:∀k:Nat,k<18->0<=gt l k/\gt l k<256:=λk w=>h _ (gy (by omega) (by omega))
 have s:∀k:Nat,k<18->IntKind.i64.wrap (gt l k)=gt l k:=λk w=>by have:=r k w;exact o9 iy
 have M:=s 16 (by omega);have L:=s 17 (by omega);have Q:=r 16 (by omega);have P:=r 17 (by omega);simp at M L Q P;have Y:=jH (a:=gt l 16) (b:=2 ^ g.gL.toNat) Q.1;have m16:=bL (gt l 16) (show(2:Int) ^ g.gL.toNat≠0 by omega);have Z:=bE (gt l 16) h6;have X:=jH (a:=gt l 17) (b:=2) P.1;have t:IntKind.i64.wrap (gA (gt l 17) 2)=gA (gt l 17) 2:=o9 iy;have hR:0<=gA (gt l 16) (2 ^ g.gL.toNat)/\gA (gt l 16) (2 ^ g.gL.toNat)<2 ^ g.gL.toNat:=by omega
 have hS:0<=gA (gt l 17) 2/\gA (gt l 17) 2<=1:=by omega
 refine Yg LU ?_;simp[LU,O,hl,M,t];generalize gA (gt l 16) (2 ^ g.gL.toNat)=R at *;generalize gA (gt l 17) 2=S at *;refine FK O hl M t ?_;refine gj.e ((0,List.replicate g.size.toNat 0):Int×List Int) (λy=>[(2,.ptr 0 0 0),(3,.ptr 1 0 0),(4,.ptr 2 0 0),(5,.ptr 4 0 0),(6,.i y.1)]) (λy=>[.row 43 0 g.cells,.row 30 0 (cl fU l),.row 46 0 [.gg,.gg,.gg,.i 0,.i 0],.row 3 0 (cl f1 y.2),.row 46 0 [.fY 3 0 1 0 g.size.toNat,.gg,.gg,.i R,.i S]]) (λy=>0<=y.1/\y.1<=6/\y.2.length=g.size.toNat/\∀x∈y.2,0<=x/\x<=2*g.kinds.length) (λy=>6-y.1.toNat) ?_ ?_
 .simp;exact mK
 rintro⟨i,cs⟩ ⟨i0,q,H,z⟩;dsimp only at i0 q H z ⊢;have c:max i 0=i:=by omega
 by_cases hi:i<6
 .have w1:IntKind.i64.wrap (gt l i)=gt l i:=by have:=s i.toNat (by omega);rwa [b7 i0]at this
  have w2:IntKind.i64.wrap (gt l (6+i))=gt l (6+i):=by have:=s (6+i.toNat) (by omega);rwa [show((6+i.toNat:Nat):Int)=6+i by omega]at this
  have u:0<=gt l i:=by have:=r i.toNat (by omega);rw[b7 i0]at this;exact this.1
  have U:0<=gt l (6+i):=by have:=r (6+i.toNat) (by omega);rw[show((6+i.toNat:Nat):Int)=6+i by omega]at this;exact this.1
  have F:=jH (a:=gt l i) (b:=g.size+1) u;have e1:=bL (gt l i) (show g.size+1≠0 by omega);have W:=jH (a:=gt l (6+i)) (b:=g.kinds.length) U;have e2:=bL (gt l (6+i)) (show(g.kinds.length:Int)≠0 by omega);have e3:=bE (gt l (6+i)) (show(0:Int)<g.kinds.length by omega);have V:=jH (a:=i) (b:=2) i0;simp[hl,c,hi,w1,w2];have G:g.kinds≠[]:=by intro h;simp[h]at w
  obtain⟨A,D⟩:∃A,gA (gt l i) (g.size+1)=A:=⟨_,rfl⟩;obtain⟨B,K⟩:∃B,gA (gt l (6+i)) g.kinds.length=B:=⟨_,rfl⟩;obtain⟨C,J⟩:∃B,gA i 2=B:=⟨_,rfl⟩;rw[D]at F;rw[K]at W;rw[J]at V;simp only[D];(with_reducible repeat' first|refine Xk ?_<;>try simp[hl,c,w1,w2,D,K,J,G]|refine Xs ?_ ?_<;>intro h<;>(try intro E)<;>(try simp[h,hl,c,w1,w2,D,K,J,G])<;>try omega|refine Xg ?_|omega)
  .refine jP G ?_;refine LJ.e (i+1,pt cs A (1+2*B+C)) ?_;dsimp only;have hv:0<=1+2*B+C/\1+2*B+C<=2*g.kinds.length:=by omega
   refine gO ⟨?_,?_⟩
   .have:=iP (l:=cs) (n:=A) (v:=1+2*B+C) (by omega) (by omega);omega
   .intro x I;rcases Zz I with rfl|I
    .exact hv
    .exact z x I
  .refine LJ.e (i+1,cs) ?_;exact gO ⟨H,z⟩
 simp[hi]
 have z0:sn g (List.replicate g.kinds.length 0):=⟨by simp,λk w mN=>by
  have e:gt (List.replicate g.kinds.length (0:Int)) k=0:=by
   simp at mN;have:k.toNat<g.kinds.length:=by omega
   simp[gt,this]
  rw[e];omega⟩
 refine gj.un ?_;refine kP.s (by simp;rfl) ?_;refine kP.u ?_;simp;refine gd ?_;refine gj.e ((0,List.replicate g.kinds.length 0):Int×List Int) (λy=>[(2,.ptr 0 0 0),(3,.ptr 1 0 0),(4,.ptr 2 0 0),(5,.ptr 4 0 0),(8,.i 0),(9,.i y.1)]) (λy=>[.row 43 0 g.cells,.row 30 0 (cl fU l),.row 46 0 [.gg,.gg,.gg,.i 0,.i 0],.row 3 0 (cl f1 cs),.row 46 0 [.fY 3 0 1 0 g.size.toNat,.fY 5 0 1 0 g.kinds.length,.gg,.i R,.i S],.row 3 0 (cl f1 y.2)]) (λy=>0<=y.1/\y.1<=g.kinds.length/\sn g y.2) (λy=>g.kinds.length-y.1.toNat) ?_ ?_
 .simp;exact z0
 rintro⟨i,h0⟩ ⟨i0,q,j⟩;dsimp only at i0 q j ⊢;have c:max i 0=i:=by omega
 have m:=j.len
 by_cases hi:i<g.kinds.length
 .have f:i<2:=by omega
  have w1:IntKind.i64.wrap (gt l (12+i))=gt l (12+i):=by have:=s (12+i.toNat) (by omega);rwa [show((12+i.toNat:Nat):Int)=12+i by omega]at this
  have u:0<=gt l (12+i):=by have:=r (12+i.toNat) (by omega);rw[show((12+i.toNat:Nat):Int)=12+i by omega]at this;exact this.1
  have F:=jH (a:=gt l (12+i)) (b:=3) u
  by_cases d:(gt g.kinds i).keep=true
  .have p:∀v,(pt h0 i v).length=h0.length:=λv=>iP i0 (by omega);have o:i.toNat<g.kinds.length:=by omega
   simp[hl,c,hi,f,d,w1,p,m,o];(with_reducible repeat' first|refine Xk ?_<;>try simp[hl,c,hi,f,d,w1,p,m,o]|refine Xs ?_ ?_<;>intro h<;>(try intro E)<;>(try simp[h,hl,c,hi,f,d,w1,p,m,o])<;>try omega|refine Xg ?_|omega)
   .refine LJ.e (i+1,pt (pt h0 i (gA (gt l (12+i)) 3)) i 8) ?_;refine gO ?_;exact(j.set i0 (by omega) (p9 (λ_=>d))).set i0 (by rw[iP i0 (by omega)];omega) (p9 (λ_=>d))
   .refine LJ.e (i+1,pt h0 i (gA (gt l (12+i)) 3)) ?_;exact gO (j.set i0 (by omega) (p9 (λ_=>d)))
  .simp[hl,c,hi,f,d,w1];(with_reducible repeat' first|refine Xk ?_<;>try simp[hl,c,hi,f,d,w1]|refine Xs ?_ ?_<;>intro h<;>(try intro E)<;>(try simp[h,hl,c,hi,f,d,w1])<;>try omega|refine Xg ?_|omega);refine LJ.e (i+1,h0) ?_;exact gO j
 simp[hi];refine jP hi ?_;clear hi c i0 q m
 rename sn g h0=>ZQ
 refine kP.s (by simp;rfl) ?_;refine kP.u ?_;simp;refine gd ?_;refine gj.e ((0,List.replicate g.kinds.length 0):Int×List Int) (λy=>[(2,.ptr 0 0 0),(3,.ptr 1 0 0),(4,.ptr 2 0 0),(5,.ptr 4 0 0),(8,.i 1),(9,.i y.1)]) (λy=>[.row 43 0 g.cells,.row 30 0 (cl fU l),.row 46 0 [.gg,.gg,.gg,.i 0,.i 0],.row 3 0 (cl f1 cs),.row 46 0 [.fY 3 0 1 0 g.size.toNat,.fY 5 0 1 0 g.kinds.length,.fY 6 0 1 0 g.kinds.length,.i R,.i S],.row 3 0 (cl f1 h0),.row 3 0 (cl f1 y.2)]) (λy=>0<=y.1/\y.1<=g.kinds.length/\sn g y.2) (λy=>g.kinds.length-y.1.toNat) ?_ ?_
 .simp;exact z0
 rintro⟨i,h1⟩ ⟨i0,q,j⟩;dsimp only at i0 q j ⊢;have c:max (2+i) 0=(2+i):=by omega
 have m:=j.len
 by_cases hi:i<g.kinds.length
 .have f:i<2:=by omega
  have w1:IntKind.i64.wrap (gt l (12+(2+i)))=gt l (12+(2+i)):=by have:=s (12+(2+i).toNat) (by omega);rwa [show((12+(2+i).toNat:Nat):Int)=12+(2+i)by omega]at this
  have u:0<=gt l (12+(2+i)):=by have:=r (12+(2+i).toNat) (by omega);rw[show((12+(2+i).toNat:Nat):Int)=12+(2+i)by omega]at this;exact this.1
  have F:=jH (a:=gt l (12+(2+i))) (b:=3) u
  by_cases d:(gt g.kinds i).keep=true
  .have p:∀v,(pt h1 i v).length=h1.length:=λv=>iP i0 (by omega);have o:i.toNat<g.kinds.length:=by omega
   simp[hl,c,hi,f,d,w1,p,m,o];(with_reducible repeat' first|refine Xk ?_<;>try simp[hl,c,hi,f,d,w1,p,m,o]|refine Xs ?_ ?_<;>intro h<;>(try intro E)<;>(try simp[h,hl,c,hi,f,d,w1,p,m,o])<;>try omega|refine Xg ?_|omega)
   .refine LJ.e (i+1,pt (pt h1 i (gA (gt l (12+(2+i))) 3)) i 8) ?_;refine gO ?_;exact(j.set i0 (by omega) (p9 (λ_=>d))).set i0 (by rw[iP i0 (by omega)];omega) (p9 (λ_=>d))
   .refine LJ.e (i+1,pt h1 i (gA (gt l (12+(2+i))) 3)) ?_;exact gO (j.set i0 (by omega) (p9 (λ_=>d)))
  .simp[hl,c,hi,f,d,w1];(with_reducible repeat' first|refine Xk ?_<;>try simp[hl,c,hi,f,d,w1]|refine Xs ?_ ?_<;>intro h<;>(try intro E)<;>(try simp[h,hl,c,hi,f,d,w1])<;>try omega|refine Xg ?_|omega);refine LJ.e (i+1,h1) ?_;exact gO j
 simp[hi];refine jP hi ?_;clear hi c i0 q m
 rename sn g h1=>ZR
 refine kP.s (by simp;rfl) ?_;refine kP.u ?_;simp;refine gd ?_;exact Ey.i ⟨cs,h0,h1,R,S⟩ (by simp[H,ZQ.len,ZR.len,dP,Pos.cells]) rfl ⟨by simp only;omega,ZQ,ZR,hR,hS,z⟩
end Go.Proofs.YtmehofoficaelaaGreatDoor
namespace Go.AL
open Go
@[simp] theorem ayB(ρ:Nat->Option Nat)(H:U)(k:Nat)(f:Fn)(a b:List D):gq ρ H (k+1) (.fn f a b) = .fn f (a.map (gq ρ H k)) (b.map (gq ρ H k)):=by
 by_cases h:closed (.fn f a b)=true
 .have c:=h;simp only[Vm,Bool.and_eq_true]at c;rw[qt h,Cd c.1,Cd c.2]
 .rw[gq,if_neg h]
@[simp] theorem ayC(ρ:Nat->Option Nat)(H:U)(k:Nat)(cs:List D):gq ρ H (k+1) (.gu cs) = .gu (cs.map (gq ρ H k)):=by
 by_cases h:closed (.gu cs)=true
 .rw[qt h,Cd (by simpa using h)]
 .rw[gq,if_neg h]
theorem zt(l:List Int):cl f1 l=l.map λn=>D.i n:=by
 rw[oC]
 induction l with
 | nil=>rfl
 | cons a r b=>simp[<-b]
theorem ac7{ρ:Nat->Option Nat}{H:U}{k n:Nat}{t:TypeId}{cs:List D}(l:List Int)(h:cs=l.map λn=>D.i n)(a:n=l.length):mS ρ H (k+1) 1 0 n (some (t,cs))=dI l:=by rw[h,<-zt,vu a];rfl
@[simp] theorem azq(a b:ByteArray):E5 .eql a b=some (.b (decide (a=b))):=by
 have:(a.data.toList == b.data.toList)=decide (a=b):=by
  rw[Bool.eq_iff_iff,beq_iff_eq,decide_eq_true_iff];constructor
  .intro h;cases a;cases b;congr 1;exact fu.1 h
  .rintro rfl;rfl
 show some (D.val (.bool _))=_;rw[this]
@[simp] theorem ar8(t:TypeId)(s:ByteArray)(n:Nat):rK t (.val (.string s)) n=some (.ptr n 0 0,.new (.row t 0 [.val (.string s)])):=rfl
@[simp] theorem ar5(t:TypeId)(m:Int)(n:Nat):rK t (.i m) n=some (.ptr n 0 0,.new (.row t 0 [.i m])):=rfl
@[simp] theorem as8(l:List (List fZ)):closed (dN 1 fP l)=true:=A4 (λa=>by simp[gF]) l
def IE(rf:Nat)(st:qx)(x:Option Ob)(P:Env->Prop):Prop:=∃env,x=some (.ib rf env st)/\P env
@[simp] theorem axT{rf:Nat}{st:qx}{env:Env}{P:Env->Prop}:IE rf st (some (.ib rf env st)) P=P env:=propext ⟨λ⟨_,h,k⟩=>by cases h;exact k,λk=>⟨_,rfl,k⟩⟩
section
variable{T:iB}{v rf:Nat}{b:IR}{dst:Option Nat}{s s1:St}{K:St->Prop}
@[simp] theorem ayg:aaB T v rf b dst s K (.norm s1)=IE rf .ready s1.H[v]? λa=>XC T b { s1 with H:=s1.H.set v (.ib rf a .busy) } (Cr v rf dst s K):=rfl
@[simp] theorem ayi:Cr v rf dst s K (.norm s1)=IE rf .busy s1.H[v]? λa=>K { s with env:=put s.env dst (.b true),H:=s1.H.set v (.ib rf a .ready) }:=rfl
@[simp] theorem ayh{id:Nat}:Cr v rf dst s K (.exit id s1)=IE rf .busy s1.H[v]? λa=>K { s with env:=put s.env dst (.b false),H:=s1.H.set v (.ib rf a (.zA id)) }:=rfl
@[simp] theorem ayj:Cr v rf dst s K (.ret s1)=IE rf .busy s1.H[v]? λa=>K { s with env:=put s.env dst (.b false),H:=s1.H.set v (.ib rf a .A7) }:=rfl
@[simp] theorem ayn{l:List D}{e:Env}:uw [] l e=e:=by cases l<;>rfl
@[simp] theorem aym{k:Nat}{d:D}{ks:List Nat}{l:List D}{e:Env}:uw (k::ks) (d::l) e=uw ks l ((k,d)::e):=rfl
@[simp] theorem axR{s:St}:AA s .ready=some (.norm s):=rfl
@[simp] theorem axQ{s:St}{id:Nat}:AA s (.zA id)=some (.exit id s):=rfl
@[simp] theorem axS{s:St}:AA s .A7=some (.ret s):=rfl
end
@[simp] theorem awY(n:Nat):oZ n .ja = []:=rfl
@[simp] theorem aw1(n rf:Nat)(e:Env)(st:qx):oZ n (.ib rf e st) = []:=rfl
theorem gx.nr{T:iB}{f:FuncId}{args oN:List D}{dst:Option Nat}{s:St}{K:St->Prop}{fn:jw}{d:D}{Hn:U}(g:T.fn f=some fn)(e:fn.full=false)(h:Wf T f oN [] λd' H'=>d'=d/\H'=Hn)
  (hs:args.map (gq (λ_=>none) s.H 40)=oN) (c:(o3 d&&Hn.all pP)=true) (b:(mO d&&Hn.all n5)=true) (k:K { s with env:=put s.env dst (kE s.H.length d),H:=s.H++Hn }):gx T f args dst s K .mk:=by
 refine gx.is g e (K0:=λd' H'=>d'=d/\H'=Hn) (by rw[hs];exact h) ?_;rintro d' i ⟨rfl,rfl⟩;refine⟨_,?_,k⟩;unfold after
 by_cases a:gF args=true
 .rw[if_pos a,if_pos b]
 .rw[if_neg a,if_pos c]
@[simp] theorem aw6(v g sz off n:Nat):o3 (.fY v g sz off n)=true:=rfl
@[simp] theorem atW(t g:Nat)(cs:List D):pP (.row t g cs)=tF cs:=rfl
@[simp] theorem atV(l:List Int):tF (cl f1 l)=true:=by
 rw[zt]
 induction l with
 | nil=>rfl
 | cons a r b=>simpa[tF,flat]using b
end Go.AL
namespace Go.Proofs.YtmehofoficaelaaGreatDoor
open Go Go.AL Classical
set_option maxRecDepth 10000
set_option maxHeartbeats 4000000
theorem f133(g:gi)(hg:gV g)(n:Int)(a:0<=n/\n<=2*g.kinds.length):Wf T 168 [dG g,.i n] [] (Is (.b true)):=by have b:=hg.kinds;refine Yg Km ?_;simp[Km];exact mK
theorem f134(g:gi)(hg:gV g)(n:Int)(a:0<=n/\n<=2*g.kinds.length):Wf T 169 [.i n,.gu [.fn (.func 168) [dG g] []]] [] (Is (.b false)):=by refine Yg Ko ?_;simp[Ko];refine Yc (f133 g hg n a) ?_;simp
theorem f178(g:gi)(hg:gV g)(l:List Int)(hl:∀n∈l,0<=n/\n<=2*g.kinds.length)(b:l.length<=9):Wf T 230 [dI l,.fn (.func 169) [] [.gu [.fn (.func 168) [dG g] []]]] [] (Is (.i (-1))):=by
 refine Yg C9 ?_;simp[C9];refine gj.e (0:Int) (λy=>[(0,dI l),(1,.fn (.func 169) [] [.gu [.fn (.func 168) [dG g] []]]),(7,.i l.length),(8,.i y)]) (λy=>[]) (λy=>0<=y/\y<=l.length) (λy=>(l.length-y).toNat) ?_ ?_
 .simp
 rintro i ⟨i0,a⟩;dsimp only at i0 a ⊢
 by_cases hi:i<l.length
 .simp[hi];refine gd ?_;refine Yc (f134 g hg (gt l i) (hl _ (gy i0 hi))) ?_;simp;refine gd ?_;refine LJ.e (i+1) ?_;exact mI
 .simp[hi]
theorem f135(g:gi)(hg:gV g)(l:List Int)(hl:∀n∈l,0<=n/\n<=2*g.kinds.length)(a:l.length<=9):Wf T 170 [dI l,.fn (.func 169) [] [.gu [.fn (.func 168) [dG g] []]]] [] (Is (.b false)):=by refine Yg C8 ?_;simp[C8];refine Yc (f178 g hg l hl a) ?_;simp
theorem f136(g:gi)(hg:gV g)(l:List Int)(hl:sn g l):Wf T 171 [dG g,dI l] [] (Is (.b true)):=by
 have j:=hg.kinds;have c:=hl.len;refine Yg Kp ?_;simp[Kp];(with_reducible repeat' first|refine Xk ?_<;>try simp[c]|refine Xs ?_ ?_<;>intro h<;>(try intro d)<;>(try simp[h,c])<;>try omega|refine Xg ?_|omega);refine gj.e (0:Int) (λy=>[(2,.ptr 0 0 0),(14,dI l),(15,.i g.kinds.length),(16,.i y)]) (λy=>[.row 279 0 g.cells]) (λy=>0<=y/\y<=l.length) (λy=>(l.length-y).toNat) ?_ ?_
 .simp
 rintro i ⟨i0,e⟩;dsimp only at i0 e ⊢
 by_cases hi:i<l.length
 .have f:=hl.at_ i i0 hi;have k:i<g.kinds.length:=by omega
  by_cases a:0<gt l i
  .have b:=f.2.2 a;simp[hi];(with_reducible repeat' first|refine Xk ?_<;>try simp[b,a]|refine Xs ?_ ?_<;>intro h<;>(try intro d)<;>(try simp[h,b,a])<;>try omega|refine Xg ?_|omega);refine LJ.e (i+1) ?_;exact mI
  .simp[hi];(with_reducible repeat' first|refine Xk ?_<;>try simp[a]|refine Xs ?_ ?_<;>intro h<;>(try intro d)<;>(try simp[h,a])<;>try omega|refine Xg ?_|omega);refine LJ.e (i+1) ?_;exact mI
 .simp[show¬i<g.kinds.length by omega]
theorem f97(g:gi)(hg:gV g)(p:Pos)(a:iw g p):Wf T 109 [dG g,dP p] [] (Is (.b true)):=by
 have f:=hg.kinds;have d:=hg.gL;have e:=a.gL;have hs:=a.side;have c:=a.size;have i:=hg.jJ.size;have b:=TI d.1 (by omega);refine Yg Mf ?_;simp[Mf,b,c];refine je.r rfl rfl (f135 g hg p.cs a.cs (by omega)) (by simp) (by simp[flat]) (by simp) ?_;simp;refine Yt (f136 g hg p.h0 a.h0) ?_;simp;refine Yt (f136 g hg p.h1 a.h1) ?_;simp;(with_reducible repeat' first|refine Xk ?_<;>try simp[b]|refine Xs ?_ ?_<;>intro h<;>(try intro j)<;>(try simp[h,b])<;>try omega|refine Xg ?_|omega)
 .simp[*]
 .have:p.side=1:=by omega
  simp[*]
theorem f177(n:Int):Wf T 251 [.i n] [] (Is (.b false)):=by refine Yg KL ?_;simp[KL]
theorem f131(a b:Int):Wf T 220 [.i a,.i b] [] (Is (.i (kR a b))):=by
 refine Yg Kk ?_;simp[Kk];refine Yc (f177 a) ?_;simp;refine Yc (f177 b) ?_;simp;(with_reducible repeat' first|refine Xk ?_<;>try simp|refine Xs ?_ ?_<;>intro h<;>(try intro c)<;>(try simp[h])<;>try omega|refine Xg ?_|omega)
 all_goals
  unfold kR;(repeat' split)<;>(first|rfl|(exfalso;omega))
theorem f130(a b:List Int)(m:a.length<2 ^ 40)(l:b.length<2 ^ 40):Wf T 219 [dI a,dI b] [] (Is (.i (kN a b))):=by
 refine Yg Kj ?_;simp[Kj];refine gj.e (0:Int) (λi=>[(0,dI a),(1,dI b),(9,dI a),(10,.i a.length),(11,.i i)]) (λi=>[]) (λi=>0<=i/\i<=a.length/\i<=b.length/\a.take i.toNat=b.take i.toNat) (λi=>a.length-i.toNat) ?_ ?_
 .simp
 rintro i ⟨h0,h1,k,f⟩;have e:=Zg f (by omega) (by omega)
 by_cases hi:i<a.length
 .by_cases d:i<b.length
  .simp[hi,d];(with_reducible repeat' first|refine Xk ?_<;>try simp|refine Xs ?_ ?_<;>intro h<;>(try intro j)<;>(try simp[h])<;>try omega|refine Xg ?_|omega);refine Yc (f131 (gt a i) (gt b i)) ?_;simp
   by_cases c:kR (gt a i) (gt b i)=0
   .simp[c];refine gd ?_;refine LJ.e (i+1) ?_;refine Ay ?_;rw[jq h0 hi,jq h0 d,f,yK.1 c]
   .simp[c];rw[e,oc h0 hi,oc h0 d,kN,if_neg (λh=>c (yK.2 h))]
  .simp[hi,d];(with_reducible repeat' first|refine Xk ?_<;>try simp|refine Xs ?_ ?_<;>intro h<;>(try intro j)<;>(try simp[h])<;>try omega|refine Xg ?_|omega)
   have g:kR ((a.drop i.toNat).length) ((b.drop i.toNat).length)=1:=by simp only[aR,kR];rw[if_neg (by omega),if_pos (by omega)]
   rw[e,SA (by simp only[aR];omega),g]
 .simp[hi];refine j' ?_ ?_<;>intro h
  all_goals
   rw[e,SA (by simp only[aR];omega)];simp only[aR,kR];(repeat' split)<;>omega
theorem f129(l:List Int)(hl:l.length<2 ^ 40):Wf T 218 [dI l] [] (Is (.i (ny l))):=by
 refine Yg Kg ?_;simp[Kg];refine gj.e (0:Int) (λi=>[(3,.i 0),(6,dI l),(7,.i l.length),(8,.i i)]) (λi=>[]) (λi=>0<=i/\i<=l.length/\ny l=ny (l.drop i.toNat)) (λi=>l.length-i.toNat) ?_ ?_
 .simp
 rintro i ⟨h0,h1,b⟩
 by_cases hi:i<l.length
 .rw[oc h0 hi]at b
  by_cases a:gt l i=0
  .simp[hi,a];refine gd ?_;refine LJ.e (i+1) ?_;refine gO ?_;rw[b];simp only[ny,a];rw[if_neg (by simp),show(i+1).toNat=i.toNat+1 by omega]
  .simp[hi,a];refine gd ?_;rw[b];simp[ny,a]
 .simp[hi];rw[b,bV (by omega)];rfl
theorem f88(p q:Pos)(b:Small p)(a:Small q):Wf T 152 [dP p,dP q] [] (Is (.i (iE p q))):=by refine Yg L7 ?_;simp[L7];refine Yt (f130 _ _ b.1 a.1) ?_;simp;refine Yt (f130 _ _ b.2.1 a.2.1) ?_;simp;refine Yt (f130 _ _ b.2.2 a.2.2) ?_;simp;refine Yt (f131 _ _) ?_;simp;refine Yt (f131 _ _) ?_;simp;refine je.r rfl rfl (f129 [kN p.cs q.cs,kN p.h0 q.h0,kN p.h1 q.h1,kR p.gL q.gL,kR p.side q.side] (by simp)) (by simp;exact ac7 _ rfl rfl) (by simp[flat]) (by simp) ?_;simp;rfl
theorem f100(l:List Pos)(hl:l.length<2 ^ 40)(hs:∀p∈l,Small p)(a:kU l):Wf T 112 [gZ l] [] (Is (.b true)):=by
 refine Yg Jj ?_;simp[Jj];refine gd ?_;refine gj.e (0:Int) (λi=>[(0,gZ l),(6,.i (l.length-1)),(7,.i i)]) (λi=>[]) (λi=>0<=i) (λi=>l.length-i.toNat) ?_ ?_
 .simp
 rintro i h0
 by_cases hi:i<l.length-1
 .simp[hi];refine gd ?_;refine Yt (f88 _ _ (hs _ (gy h0 (by omega))) (hs _ (gy (n:=i+1) (by omega) (by omega)))) ?_;simp;have:=a (i+1) (by omega) (by omega);rw[dR]at this;simp[show¬ 0<=iE (gt l i) (gt l (i+1))by omega];refine gd ?_;refine LJ.e (i+1) ?_;exact iy
 .simp[hi]
theorem f96(g:gi)(hg:gV g)(p:Pos)(a:iw g p):Wf T 108 [dP p,.gu g.cells] [] (Is (.b false)):=by refine Yg Me ?_;simp[Me];refine Yc (f97 g hg p a) ?_;simp
theorem f147(g:gi)(hg:gV g)(l:List Pos)(hl:∀p∈l,iw g p)(b:l.length<2 ^ 40):Wf T 182 [gZ l,.fn (.func 108) [] [.gu g.cells]] [] (Is (.i (-1))):=by
 refine Yg KA ?_;simp[KA];refine gj.e (0:Int) (λy=>[(0,gZ l),(1,.fn (.func 108) [] [.gu g.cells]),(7,.i l.length),(8,.i y)]) (λy=>[]) (λy=>0<=y/\y<=l.length) (λy=>(l.length-y).toNat) ?_ ?_
 .simp
 rintro i ⟨i0,a⟩
 by_cases hi:i<l.length
 .simp[hi];refine gd ?_;refine Yc (f96 g hg (gt l i) (hl _ (gy i0 hi))) ?_;simp;refine gd ?_;refine LJ.e (i+1) ?_;exact mI
 .simp[hi]
theorem f99(g:gi)(hg:gV g)(l:List Pos)(hl:∀p∈l,iw g p)(a:l.length<2 ^ 40):Wf T 111 [gZ l,.fn (.func 108) [] [.gu g.cells]] [] (Is (.b false)):=by refine Yg Mh ?_;simp[Mh];refine Yc (f147 g hg l hl a) ?_;simp
def pe(l:List gv):D:=dN 8 gv.cells l
@[simp] theorem acI(l:List gv):closed (pe l)=true:=A4 (λa=>by simp[gv.cells,gF]) l
theorem f132(l:List Int)(h:0<l.length)(b:l.length<2 ^ 40):Wf T 265 [dI l] [] (λd H=>d = .fY 0 1 1 0 l.length/\H = [.row 3 1 (cl f1 l)]):=by refine Yg Kl ?_;simp[Kl];refine oA.i (a:=.b false) (by cases l with|nil=>exact absurd h (by simp)|cons a r=>rfl) ?_;simp;exact mK
theorem f91(s:gv)(hs:Small s.p)(h0:0<s.p.cs.length/\0<s.p.h0.length/\0<s.p.h1.length):Wf T 215 [.agg s.cells] [] (λd H=>d = .agg [.fY 0 1 1 0 s.p.cs.length,.fY 1 1 1 0 s.p.h0.length,.fY 2 1 1 0 s.p.h1.length,.i s.p.gL,.i s.p.side,.i s.kind,.i s.cur,.b s.jN]/\H = [.row 3 1 (cl f1 s.p.cs),.row 3 1 (cl f1 s.p.h0),.row 3 1 (cl f1 s.p.h1)]):=by refine Yg L9 ?_;simp[L9,gv.cells];refine Yn (f132 s.p.cs h0.1 hs.1) ?_;simp;refine pK.n rfl rfl (f132 s.p.h0 h0.2.1 hs.2.1) (by simp) (by simp) ?_;simp;refine pK.n rfl rfl (f132 s.p.h1 h0.2.2 hs.2.2) (by simp) (by simp) ?_;simp
theorem f241(s:gv)(b:Bool):Wf T 323 [.agg s.cells,.b b] [] (Is (pe (if b then [s]else []))):=by
 refine Yg Lk ?_;simp[Lk,gv.cells];cases b
 .simp;rfl
 .simp;rfl
theorem f243(s:gv)(h:0<=s.cur/\s.cur<s.p.cs.length)(hs:Small s.p):Wf T 325 [.agg s.cells] [] (Is (.tup [.i (gJ (gt s.p.cs s.cur)),.i (jY (gt s.p.cs s.cur))])):=by refine Yg Ln ?_;simp[Ln,gv.cells];refine gd ?_;refine Yc (f84 _) ?_;simp
theorem f199(g:gi)(hg:gV g)(s:gv)(hs:kn g s)(n:Int):Wf T 300 [.agg s.cells,dG g,.i n] [] (Is (pe (jd g s (1,n)))):=by refine Yg K3 ?_;simp[K3,gv.cells];refine Yc (f240 g hg.jJ s.p.side n s.cur) ?_;simp;refine gx.c rfl rfl (f241 { s with cur:=mf g s.p.side n s.cur } (decide (0<=mf g s.p.side n s.cur))) (by simp[gv.cells]) (by simp) ?_;simp[jd]
theorem f201(g:gi)(hg:gV g)(s:gv)(hs:kn g s)(n:Int):Wf T 302 [.agg s.cells,dG g,.i n] [] (Is (pe (jd g s (3,n)))):=by have b:=hs.p.size;have a:=hs.cur;refine Yg K5 ?_;simp[K5,gv.cells];refine gd ?_;refine je.c rfl rfl (f241 s (decide (gt s.p.cs s.cur=0))) (by simp[gv.cells]) (by simp) ?_;simp[jd]
theorem f202(g:gi)(hg:gV g)(s:gv)(hs:kn g s)(n:Int):Wf T 303 [.agg s.cells,dG g,.i n] [] (Is (pe (jd g s (4,n)))):=by have c:=hs.p.size;have a:=hs.cur;have b:=hs.p.side;refine Yg K6 ?_;simp[K6,gv.cells];refine gx.c rfl rfl (f243 s (by omega) (hs.p.small hg)) (by simp[gv.cells]) (by simp) ?_;simp;refine gd ?_;refine gx.c rfl rfl (f241 s (decide (jY (gt s.p.cs s.cur)=1-s.p.side))) (by simp[gv.cells]) (by simp) ?_;simp[jd]
theorem f203(g:gi)(hg:gV g)(s:gv)(hs:kn g s)(n:Int):Wf T 304 [.agg s.cells,dG g,.i n] [] (Is (pe (jd g s (5,n)))):=by have b:=hs.p.size;have a:=hs.cur;refine Yg K7 ?_;simp[K7,gv.cells];refine gx.c rfl rfl (f243 s (by omega) (hs.p.small hg)) (by simp[gv.cells]) (by simp) ?_;simp;refine gx.c rfl rfl (f241 s (decide (jY (gt s.p.cs s.cur)=s.p.side))) (by simp[gv.cells]) (by simp) ?_;simp[jd]
theorem f206(g:gi)(s:gv)(n:Int):Wf T 307 [.agg s.cells,dG g,.i n] [] (Is (pe (jd g s (8,n)))):=by refine Yg K9 ?_;simp[K9,gv.cells];rfl
theorem f207(g:gi)(hg:gV g)(s:gv)(hs:kn g s)(n:Int)(c:0<=n/\n<g.gL):Wf T 308 [.agg s.cells,dG g,.i n] [] (Is (pe (jd g s (9,n)))):=by have b:=hs.p.gL;have a:=hg.gL;have e:=EJ a.1 (by omega);have d:=aav (r:=s.p.gL) (n:=n) b.1 (by omega) c.1 (by omega);refine Yg La ?_;simp[La,gv.cells];refine gd ?_;refine je.c rfl rfl (f241 s (decide (bits BinOp.and IntKind.i64 (my IntKind.i64 s.p.gL n) 1=1))) (by simp[gv.cells]) (by simp) ?_;simp[jd,d]
theorem f208(g:gi)(hg:gV g)(s:gv)(hs:kn g s)(n:Int)(d:0<=n/\n<g.gL):Wf T 309 [.agg s.cells,dG g,.i n] [] (Is (pe (jd g s (10,n)))):=by have c:=hs.p.gL;have b:=hg.gL;have e:=EJ b.1 (by omega);have a:=aaw (r:=s.p.gL) (n:=n) c.1 (by omega) d.1 (by omega);refine Yg Lb ?_;simp[Lb,gv.cells,a];refine jP a ?_;rfl
theorem f205(g:gi)(hg:gV g)(s:gv)(hs:kn g s)(n:Int):Wf T 306 [.agg s.cells,dG g,.i n] [] (Is (pe (jd g s (7,n)))):=by
 have i:=hs.p.size;have a:=hs.cur;have b:=hs.p.small hg;have c:=hg.jJ.size;have k:=hg.kinds;have f:=hs.p.h0.len;have d:=hs.p.h1.len;have j:=hg.jJ.to s.p.side n s.cur;have e:jd g s (7,n)=uo g s n:=by simp[jd]
 rw[e];refine Yg K8 ?_;simp[K8,gv.cells];refine Yc (f240 g hg.jJ s.p.side n s.cur) ?_;simp;(with_reducible repeat' first|refine Xk ?_<;>try simp|refine Xs ?_ ?_<;>intro h<;>(try intro m)<;>(try simp[h])<;>try omega|refine Xg ?_|omega)
 .rw[uo,if_pos (by simp_all)];rfl
 .rw[uo,if_pos (by simp_all)];rfl
 .have q0:=iP (l:=s.p.cs) (n:=mf g s.p.side n s.cur) (v:=gt s.p.cs s.cur) (by omega) (by omega);have q1:=iP (l:=pt s.p.cs (mf g s.p.side n s.cur) (gt s.p.cs s.cur)) (n:=s.cur) (v:=0) a.1 (by omega);refine Yn (f91 s b (by omega)) ?_;simp;refine lh q0 q1 ?_;simp[uo, *];rfl
 .rw[uo,if_pos (by simp_all)];rfl
theorem f204(g:gi)(hg:gV g)(s:gv)(hs:kn g s)(n:Int):Wf T 305 [.agg s.cells,dG g,.i n] [] (Is (pe (jd g s (6,n)))):=by
 have w:=hs.p.size;have c:=hs.cur;have d:=hs.p.small hg;have q:=hg.jJ.size;have f:=hg.kinds;have t:=hs.p.h0.len;have r:=hs.p.h1.len;have i:=hs.p.cs _ (gy c.1 (by omega));have u:=hs.p.side;have e:jd g s (6,n)=tv g s:=by simp[jd]
 rw[e];refine Yz Fu (iZ 52 [2,3,4] Fu.body) ?_;simp[Fu,iZ,kD,np,nz,nP,ma,gv.cells];refine gx.c rfl rfl (f243 s (by omega) d) (by simp[gv.cells]) (by simp) ?_;simp
 by_cases a:jY (gt s.p.cs s.cur)=1-s.p.side
 .have o:0<=gJ (gt s.p.cs s.cur):=by
   unfold jY at a;unfold gJ;split at a<;>rename_i k
   .rw[if_pos k];omega
   .omega
  have x:gJ (gt s.p.cs s.cur)<g.kinds.length:=yG i.2 f.1;have m:s.p.side=0\/s.p.side=1:=by omega
  have q0:=iP (l:=s.p.cs) (n:=s.cur) (v:=0) c.1 (by omega);simp[a];refine gd ?_;refine Yn (f91 s d (by omega)) ?_;simp;refine Mo q0 ?_ ?_<;>intro h
  .have b:=h;rcases m with e|e
   .have j:=hs.p.h0.at_ _ (by omega) (show gJ (gt s.p.cs s.cur)<s.p.h0.length by omega);have q1:=DG (l:=s.p.h0) (n:=gJ (gt s.p.cs s.cur)) (v:=gt s.p.h0 (gJ (gt s.p.cs s.cur))+1) (by omega) (by omega);have q2:=iP (l:=s.p.h0) (n:=gJ (gt s.p.cs s.cur)) (v:=gt s.p.h0 (gJ (gt s.p.cs s.cur))+1) (by omega) (by omega);simp[e,q0,q1,q2];refine qz q0 q1 q2 ?_;refine je.c rfl rfl (f241 { p:={ s.p with cs:=pt s.p.cs s.cur 0,h0:=pt s.p.h0 (gJ (gt s.p.cs s.cur)) (gt s.p.h0 (gJ (gt s.p.cs s.cur))+1),side:=0 },kind:=s.kind,cur:=s.cur,jN:=true } (decide (gt s.p.h0 (gJ (gt s.p.cs s.cur))+1<=8))) (by simp[gv.cells]) (by simp) ?_;simp[tv,a,b,Pos.hand,Pos.mY,e];done
   .have j:=hs.p.h1.at_ _ (by omega) (show gJ (gt s.p.cs s.cur)<s.p.h1.length by omega);have q1:=DG (l:=s.p.h1) (n:=gJ (gt s.p.cs s.cur)) (v:=gt s.p.h1 (gJ (gt s.p.cs s.cur))+1) (by omega) (by omega);have q2:=iP (l:=s.p.h1) (n:=gJ (gt s.p.cs s.cur)) (v:=gt s.p.h1 (gJ (gt s.p.cs s.cur))+1) (by omega) (by omega);simp[e,q0,q1,q2];refine qz q0 q1 q2 ?_;refine je.c rfl rfl (f241 { p:={ s.p with cs:=pt s.p.cs s.cur 0,h1:=pt s.p.h1 (gJ (gt s.p.cs s.cur)) (gt s.p.h1 (gJ (gt s.p.cs s.cur))+1),side:=1 },kind:=s.kind,cur:=s.cur,jN:=true } (decide (gt s.p.h1 (gJ (gt s.p.cs s.cur))+1<=8))) (by simp[gv.cells]) (by simp) ?_;simp[tv,a,b,Pos.hand,Pos.mY,e];done
  .simp[tv,a,h,q0];rfl
 .simp[a];refine gd ?_;rw[tv,if_pos a];rfl
theorem f259(g:gi)(s d c:Int):Wf T 331 [g.jJ,.i s,.i d,.i c] [] (Is (.fn (.func 335) [] [.gu [.i g.size,.sl 1 (g.next.map fI),dI g.jy],.gu [.i s],.gu [.i d],.gu [.i c]])):=by refine Yg Lv ?_;simp[Lv]
theorem f266(l:List Int)(n:Int)(hl:l.length<2 ^ 40):Wf T 336 [dI l,.i n] [] (Ey (λr:Int=>.i r) λr=>0<=r↔n∈l):=by
 refine Yg Da ?_;simp[Da];refine gj.e (0:Int) (λy=>[(0,dI l),(1,.i n),(7,.i l.length),(8,.i y)]) (λy=>[]) (λy=>0<=y/\y<=l.length/\n ∉ l.take y.toNat) (λy=>(l.length-y).toNat) ?_ ?_
 .simp
 rintro i ⟨i0,b,a⟩
 by_cases hi:i<l.length
 .simp[hi];refine j' ?_ ?_<;>intro h
  .exact Ey.i i rfl rfl ⟨λ_=>by have:=gy i0 hi;simp_all,λ_=>i0⟩
  .refine LJ.e (i+1) ?_;refine gO ?_;rw[jq i0 hi];simp[a];omega
 .simp[hi];rw[ln (by omega)]at a;exact Ey.i (-1) rfl rfl ⟨λh=>by omega,λh=>absurd h a⟩
theorem f260(l:List Int)(n:Int)(hl:l.length<2 ^ 40):Wf T 332 [dI l,.i n] [] (Is (.b (decide (n∈l)))):=by refine Yg C' ?_;simp[C'];refine Yq (f266 l n hl) λr a=>?_;simp;simp[a]
theorem aeQ(n:Int):Wf T 336 [.gg,.i n] [] (Is (.i (-1))):=by refine Yg Da ?_;simp[Da];refine gj.un ?_;refine kP.u ?_;simp
theorem aeP(n:Int):Wf T 332 [.gg,.i n] [] (Is (.b false)):=by refine Yg C' ?_;simp[C'];refine Yc (aeQ n) ?_;simp
theorem f265(g:gi)(hg:oM g)(s d c:Int):Wf T 335 [.iT 4,.gu [.i g.size,.sl 1 (g.next.map fI),dI g.jy],.gu [.i s],.gu [.i d],.gu [.i c]]
  [.row 39 0 [.i g.size,.sl 1 (g.next.map fI),dI g.jy],.row 3 0 [.i c],.row 37 0 [.gg],.ja,.ib 20736 [(7,.ptr 1 0 0),(9,.ptr 2 0 0)] .ready]
  (λ_ H'=>∃st,(st = .ready\/st = .zA 0)/\H' = [.row 39 0 [.i g.size,.sl 1 (g.next.map fI),dI g.jy],.row 3 0 [.i c],.row 37 0 [if lB g s d c = []then .gg else .fY 5 ((lB g s d c).length-1) 1 0 (lB g s d c).length],.ja,.ib 20736 [(7,.ptr 1 0 0),(9,.ptr 2 0 0)] st]++(if lB g s d c = []then []else [.row 3 ((lB g s d c).length-1) (cl f1 (lB g s d c))])):=by
 have r:=hg.size;refine Yg Lx ?_;simp[Lx];refine Yr (f240 g hg s d c) ?_;simp;refine gj.e ((0,mf g s d c,[]):Nat×Int×List Int) (λx=>[(0,.iT 4),(1,.gu [.i g.size,.sl 1 (g.next.map fI),dI g.jy]),(2,.gu [.i s]),(3,.gu [.i d]),(6,.i x.2.1)]) (λx=>[.row 39 0 [.i g.size,.sl 1 (g.next.map fI),dI g.jy],.row 3 0 [.i c],.row 37 0 [if x.2.2 = []then .gg else .fY 5 (x.2.2.length-1) 1 0 x.2.2.length],.ja,.ib 20736 [(7,.ptr 1 0 0),(9,.ptr 2 0 0)] .ready]++(if x.2.2 = []then []else [.row 3 (x.2.2.length-1) (cl f1 x.2.2)])) (λx=>x.1=x.2.2.length/\x.2.1<g.size/\x.2.2.Nodup/\(∀y∈x.2.2,0<=y/\y<g.size)/\lB g s d c=ub g s d c (10-x.1) x.2.1 x.2.2) (λx=>10-x.1) ?_ ?_
 .have:=hg.to s d c;simp[lB];omega
 rintro⟨m,x,out⟩ ⟨h0,h1,o,n,l⟩;dsimp only at h0 h1 o n l ⊢;have q:out.length<=9:=Av 9 out o (λy k=>by have:=n y k;omega);have e:=l;rw[show 10-m=(9-m)+1 by omega,ub]at e;have j:=hg.to s d x
 by_cases i:out = []
 .subst i
  by_cases b:0<=x
  .simp[b];refine na.r (rf:=20736) (env0:=[(7,.ptr 1 0 0),(9,.ptr 2 0 0)]) (Rd:=wK) (by simp) rfl rfl wK.a wK.b (nj rfl) (nj rfl) ?_;simp[wK]
   by_cases a:x=c
   .have f:lB g s d c = []:=by rw[e,if_neg (λh=>h.2.1 a)]
    simp[a,f]
   .have p:lB g s d c=ub g s d c (9-m) (mf g s d x) [x]:=by rw[e,if_pos ⟨b,a,by simp⟩];rfl
    simp[a];refine Yc (aeP x) ?_;simp;refine gd ?_;refine Yr (f240 g hg s d x) ?_;simp;refine LJ.i (m+1,mf g s d x,[x]) (by first|rfl|simp[iQ]) (by first|rfl|simp[iQ]) rfl rfl ?_;dsimp only;refine⟨by simp at h0;omega,by simp at h0;simp;omega,j.2,by simp,by simp;omega,?_⟩;rw[p];congr 1;omega
  .have f:lB g s d c = []:=by rw[e,if_neg (λh=>b h.1)]
   simp[b,f]
 .simp only[if_neg i,bU,bq]
  by_cases b:0<=x
  .simp[b];refine na.r (rf:=20736) (env0:=[(7,.ptr 1 0 0),(9,.ptr 2 0 0)]) (Rd:=wK) (by simp) rfl rfl wK.a wK.b (nj rfl) (nj rfl) ?_;simp[wK]
   by_cases a:x=c
   .have f:lB g s d c=out:=by rw[e,if_neg (λh=>h.2.1 a)]
    simp[a,f,i]
   .simp[a];refine Yr (f260 out x (by omega)) ?_;simp;refine X2.z a ?_;simp
    by_cases gH:x∈out
    .have f:lB g s d c=out:=by rw[e,if_neg (λh=>h.2.2 gH)]
     simp[gH,f,i]
    .have p:lB g s d c=ub g s d c (9-m) (mf g s d x) (out ++ [x]):=by rw[e,if_pos ⟨b,a,gH⟩]
     have hl:0<out.length:=ax.2 i;simp[gH];refine gd ?_;refine Yr (f240 g hg s d x) ?_;simp;refine LJ.i (m+1,mf g s d x,out ++ [x]) (by first|rfl|simp[show out.length-1+1=out.length by omega]) (by first|rfl|simp[show out.length-1+1=out.length by omega]) rfl rfl ?_;dsimp only;refine⟨by omega,by simp;omega,j.2,?_,λy k=>?_,?_⟩
     .grind
     .grind
     .grind
  .have f:lB g s d c=out:=by rw[e,if_neg (λh=>b h.1)]
   simp[b,f,i]
theorem f242(g:gi)(hg:oM g)(s d c:Int):Wf T 324 [g.jJ,.i s,.i d,.i c] [] (Is (dN 1 f1 (lB g s d c))):=by
 refine Yg Ll ?_;simp[Ll];refine Yc (f259 g s d c) ?_;simp;refine sT.r (f:=335) (first:=[]) (cap:=[.gu [.i g.size,.sl 1 (g.next.map fI),dI g.jy],.gu [.i s],.gu [.i d],.gu [.i c]]) rfl rfl rfl rfl ?_;simp;refine Wf.mono (f265 g hg s d c) ?_;rintro _ H' ⟨st,b,rfl⟩;refine⟨[(7,.ptr 1 0 0),(9,.ptr 2 0 0)],st,by simp,?_⟩
 by_cases h:lB g s d c = []
 .rcases b with rfl|rfl
  .simp[h];rfl
  .simp[h];rfl
 .have e:dI (lB g s d c)=dN 1 f1 (lB g s d c):=by
   revert h
   cases lB g s d c with
   | nil=>intro h;exact absurd rfl h
   | cons a r=>intro _;rfl
  rcases b with rfl|rfl
  .simp[h,e]
  .simp[h,e]
@[simp] theorem as4(l:List Int):closed (dN 1 f1 l)=true:=A4 (λa=>by simp[gF]) l
theorem P6{l:List gv}(h:l≠[]):kF l=pe l:=by
 cases l with
 | nil=>exact absurd rfl h
 | cons a r=>rfl
theorem f200(g:gi)(hg:gV g)(s:gv)(hs:kn g s)(n:Int):Wf T 301 [.agg s.cells,dG g,.i n] [] (Is (pe (jd g s (2,n)))):=by
 have m:=hs.p.size;have k:=hg.jJ.size;have e:jd g s (2,n)=qo s (lB g s.p.side n s.cur):=by simp[jd]
 have gH:∀y∈lB g s.p.side n s.cur,0<=y/\y<g.size:=λy j=>Sy hg.jJ j;have d:(lB g s.p.side n s.cur).length<=10:=Sz;rw[e];refine Yg K4 ?_;simp[K4,gv.cells];refine Yc (f242 g hg.jJ s.p.side n s.cur) ?_;simp;generalize lB g s.p.side n s.cur=l at *;refine gj.e ((0,[]):Int×List gv) (λy=>[(3,.ptr 0 0 0),(7,if y.1=0 then .gg else .fY 2 (y.2.length-1) 8 0 y.2.length),(19,dN 1 f1 l),(20,.i l.length),(21,.i y.1)]) (λy=>.row 330 0 s.cells :: .row 43 0 g.cells::(if y.1=0 then []else [.row 330 (y.2.length-1) (cl gv.cells y.2)])) (λy=>0<=y.1/\y.1<=l.length/\y.2.length=y.1.toNat/\qo s l=y.2++qo s (l.drop y.1.toNat)) (λy=>(l.length-y.1).toNat) ?_ ?_
 .simp
 rintro⟨i,st⟩ ⟨i0,f,c,a⟩;dsimp only at i0 f c a ⊢
 by_cases hi:i<l.length
 .have o:=gH _ (gy i0 hi);rw[oc i0 hi,qo]at a
  by_cases b:i=0
  .have:st = []:=ay.1 (by omega);subst b;subst this;simp[hi,gv.cells];(with_reducible repeat' first|refine Xk ?_<;>try simp|refine Xs ?_ ?_<;>intro h<;>(try intro p)<;>(try simp[h])<;>try omega|refine Xg ?_|omega)
   .refine LJ.i (1,[{ s with cur:=gt l 0 }]) (by first|rfl|simp[iQ,gv.cells]) (by first|rfl|simp[iQ,gv.cells]) rfl rfl ?_;refine gO ⟨rfl,?_⟩;rw[a,if_pos h];rfl
   .rw[a,if_neg h];rfl
  .have hl:0<st.length:=by omega
   rw[if_neg b,if_neg b];simp[hi,gv.cells];refine j' ?_ ?_<;>intro h
   .refine LJ.i (i+1,st ++ [{ s with cur:=gt l i }]) (by first|rfl|simp[show¬(i+1=0)by omega,show st.length-1+1=st.length by omega,gv.cells]) (by first|rfl|simp[show¬(i+1=0)by omega,show st.length-1+1=st.length by omega,gv.cells]) rfl rfl ?_;refine⟨by dsimp only;omega,by dsimp only;omega,by dsimp only;omega,by simp;omega,?_⟩;rw[a,if_pos h,show(i+1).toNat=i.toNat+1 by omega];simp
   .rw[a,if_neg h,<-P6 (by simp)];simp[kF,gv.cells]
 .rw[bV (by omega),qo,az]at a
  by_cases b:i=0
  .have:st = []:=ay.1 (by omega);subst b;subst this;simp[show¬ 0<l.length by omega,gv.cells];rw[a];rfl
  .rw[if_neg b,if_neg b];simp[hi,gv.cells];rw[a,P6 (by intro h;rw[h]at c;simp at c;omega)]
theorem f164(g:gi)(hg:gV g)(s:gv)(hs:kn g s)(x:fZ)(b:FJ g x):Wf T 286 [dG g,.agg s.cells,.agg [.i x.1,.i x.2]] [] (Is (pe (jd g s x))):=by
 obtain⟨k,n⟩:=x;have a:=b.ok;dsimp only at a ⊢;rcases(show k=1\/k=2\/k=3\/k=4\/k=5\/k=6\/k=7\/k=8\/k=9\/k=10 by omega)with rfl|rfl|rfl|rfl|rfl|rfl|rfl|rfl|rfl|rfl
 all_goals
  refine Yg KH ?_;simp[KH,gv.cells]
 .refine je.c rfl rfl (f199 g hg s hs n) (by simp) (by simp) ?_;simp
 .refine je.c rfl rfl (f200 g hg s hs n) (by simp) (by simp) ?_;simp
 .refine je.c rfl rfl (f201 g hg s hs n) (by simp) (by simp) ?_;simp
 .refine je.c rfl rfl (f202 g hg s hs n) (by simp) (by simp) ?_;simp
 .refine je.c rfl rfl (f203 g hg s hs n) (by simp) (by simp) ?_;simp
 .refine je.c rfl rfl (f204 g hg s hs n) (by simp) (by simp) ?_;simp
 .refine je.c rfl rfl (f205 g hg s hs n) (by simp) (by simp) ?_;simp
 .refine je.c rfl rfl (f206 g s n) (by simp) (by simp) ?_;simp
 .refine je.c rfl rfl (f207 g hg s hs n (by omega)) (by simp) (by simp) ?_;simp
 .refine je.c rfl rfl (f208 g hg s hs n (by omega)) (by simp) (by simp) ?_;simp
@[simp] theorem ard(t sz bytes:Nat)(z:List D)(m:Int)(a:Nat):Mq t sz bytes z .gg (.val (.int .i64 m)) a=if 0<m/\rm (m*bytes) 140737488355328/\rm m 9223372036854775807 then some (.fY a 0 sz 0 m.toNat,.new (.row t 0 (List.replicate m.toNat z).flatten))else none:=rfl
theorem f191(n:Int)(a:0<n/\n<1000):Wf T 212 [.gg,.i n] [] (λd H=>d = .fY 0 0 1 0 0/\H = [.row 3 0 (cl f1 (List.replicate n.toNat 0))]):=by refine Yg KX ?_;simp[KX];exact mK
@[irreducible] def fl(l:List (List Int)):List Int:=l.flatten
theorem zG(l:List (List Int)):fl l=l.flatten:=by unfold fl;rfl
@[simp] theorem atT:fl [] = []:=by simp[zG]
theorem WI{l:List (List Int)}{i:Int}(h0:0<=i)(h:i<l.length):fl (l.take (i+1).toNat)=fl (l.take i.toNat)++gt l i:=by rw[jq h0 h];simp[zG]
theorem WH(l:List (List Int))(n:Nat):(fl (l.take n)).length<=(fl l).length:=by
 simp only[zG]
 conv=>rhs;rw[<-bX n l]
 simp only[eO,ak];omega
theorem f148(l:List (List Int))(hl:l.length<=10)(m:0<(fl l).length/\(fl l).length<1000):Wf T 147 [.sl 1 (l.map fI)] [] (λd H=>d = .fY 0 l.length 1 0 (fl l).length/\H = [.row 3 l.length (cl f1 (fl l))]):=by
 have n:0<l.length:=by
  cases l with
  | nil=>simp at m
  | cons a r=>simp
 refine Yg KB ?_;simp[KB];refine gj.e (0:Int) (λi=>[(0,.sl 1 (l.map fI)),(3,.i (fl (l.take i.toNat)).length),(9,.sl 1 (l.map fI)),(10,.i l.length),(11,.i i)]) (λi=>[]) (λi=>0<=i/\i<=l.length) (λi=>(l.length-i).toNat) ?_ ?_
 .simp
 rintro i ⟨i0,o⟩
 by_cases hi:i<l.length
 .have h1:=WI i0 hi;have c:=WH l (i+1).toNat;rw[h1,ak]at c;simp[hi];(with_reducible repeat' first|refine Xk ?_<;>try simp|refine Xs ?_ ?_<;>intro h<;>(try intro p)<;>(try simp[h])<;>try omega|refine Xg ?_|omega);refine LJ.i (i+1) (by first|rfl|simp[h1]) (by first|rfl|simp[h1]) rfl rfl ?_;exact mI
 .have f:(l.take i.toNat)=l:=ln (by omega);simp[hi,f];refine Yn (f191 (fl l).length (by omega)) ?_;simp;refine gj.e (0:Int) (λj=>[(6,.fY 0 j.toNat 1 0 (fl (l.take j.toNat)).length),(25,.sl 1 (l.map fI)),(26,.i l.length),(27,.i j)]) (λj=>[.row 3 j.toNat (if j=0 then cl f1 (List.replicate (fl l).length 0)else cl f1 (fl (l.take j.toNat)))]) (λj=>0<=j/\j<=l.length) (λj=>(l.length-j).toNat) ?_ ?_
  .simp
  rintro j ⟨j0,j1⟩
  by_cases b:j<l.length
  .have h1:=WI j0 b;have c:=WH l (j+1).toNat;rw[h1,ak]at c
   by_cases g:j=0
   .subst g;simp at h1 c;simp[b];refine gd ?_;refine LJ.i (1) (by first|rfl|simp[h1]) (by first|rfl|simp[h1]) rfl rfl ?_;exact mI
   .rw[if_neg g];simp[b];refine gd ?_;have e:(j+1).toNat=j.toNat+1:=by omega
    rw[e]at h1;refine LJ.i (j+1) (by first|rfl|simp[h1,e,show¬(j+1=0)by omega]) (by first|rfl|simp[h1,e,show¬(j+1=0)by omega]) rfl rfl ?_;exact mI
  .have f:(l.take j.toNat)=l:=ln (by omega);have k:j.toNat=l.length:=by omega
   rw[if_neg (by omega)];simp[b,f,k]
@[irreducible] def ot(p:Pos):List Int:=fl [p.cs,p.h0,p.h1,[p.gL,p.side]]
theorem Ca(p:Pos):ot p=fl [p.cs,p.h0,p.h1,[p.gL,p.side]]:=by unfold ot;rfl
def oJ(p:Pos):ByteArray:=((ot p).map λn=>IntKind.u8.wrap n).foldl (λr n=>r.push (UInt8.ofNat n.toNat)) ByteArray.empty
@[simp] theorem acx(l:List Int)(n:Int):cl fU l ++ [.val (.int .u8 n)]=cl fU (l ++ [n]):=by rw[<-q',zD]
@[simp] theorem ace:∀l:List Int,bytesOf (cl fU l)=some l
 | []=>by simp[bytesOf]
 | a::r=>by rw[nM,zD,fH,bytesOf,ace r]
theorem f101(p:Pos)(h:0<p.cs.length)(hl:(ot p).length<1000):Wf T 93 [dP p] [] (Is (.val (.string (oJ p)))):=by
 have f:0<(ot p).length:=by simp[Ca,zG];omega
 have d:=f148 [p.cs,p.h0,p.h1,[p.gL,p.side]] (by simp) (by rw[<-Ca];exact⟨f,hl⟩);rw[<-Ca]at d;refine Yg Jk ?_;simp[Jk];refine gx.nr rfl rfl d (by simp[mS,chunks];unfold dI;simp only[List.map_cons,List.map_nil,DB]) (by simp) (by simp) ?_;simp;refine gj.e (0:Int) (λy=>[(3,if y=0 then .gg else .fY 4 (y.toNat-1) 1 0 y.toNat),(20,.fY 3 4 1 0 (ot p).length),(21,.i (ot p).length),(22,.i y)]) (λy=>[.row 46 0 p.cells,.row 3 0 [.i p.gL,.i p.side],.row 37 0 [dI p.cs,dI p.h0,dI p.h1,.fY 1 0 1 0 2],.row 3 4 (cl f1 (ot p))]++(if y=0 then []else [.row 5 (y.toNat-1) (cl fU (((ot p).take y.toNat).map λn=>IntKind.u8.wrap n))])) (λy=>0<=y/\y<=(ot p).length) (λy=>((ot p).length-y).toNat) ?_ ?_
 .simp
 rintro i ⟨i0,k⟩
 by_cases hi:i<(ot p).length
 .have a:(List.take (i.toNat+1) (ot p)).map (λn=>IntKind.u8.wrap n)=(List.take i.toNat (ot p)).map (λn=>IntKind.u8.wrap n) ++ [IntKind.u8.wrap (gt (ot p) i)]:=by rw[<-show(i+1).toNat=i.toNat+1 by omega,jq i0 hi];simp
  have b:(i+1).toNat=i.toNat+1:=by omega
  by_cases c:i=0
  .rw[if_pos c,if_pos c];have g:i.toNat=0:=by omega
   rw[g]at a b;simp at a;simp[hi];refine gd ?_;refine LJ.i (i+1) (by first|rfl|simp[show¬(i+1=0)by omega,b,a,iQ]) (by first|rfl|simp[show¬(i+1=0)by omega,b,a,iQ]) rfl rfl ?_;exact mI
  .rw[if_neg c,if_neg c];simp[hi];refine gd ?_;have e:i.toNat-1+1=i.toNat:=by omega
   simp at a;refine LJ.i (i+1) (by first|rfl|simp[show¬(i+1=0)by omega,b,a,e,dW]) (by first|rfl|simp[show¬(i+1=0)by omega,b,a,e,dW]) rfl rfl ?_;exact mI
 .rw[if_neg (by omega),if_neg (by omega)];have j:i.toNat=(ot p).length:=by omega
  simp[hi,Dn,j];rfl
set_option maxRecDepth 100000
def Gj(n:Int):ByteArray:=⟨#[UInt8.ofNat (48+n.toNat)]⟩
theorem f209(n:Int)(a:0<=n/\n<=9):Wf T 310 [.i n] [] (Is (.val (.string (Gj n)))):=by
 rcases(show n=0\/n=1\/n=2\/n=3\/n=4\/n=5\/n=6\/n=7\/n=8\/n=9 by omega)with rfl|rfl|rfl|rfl|rfl|rfl|rfl|rfl|rfl|rfl
 all_goals exact o5 (k:=100) (by kernel_rfl)
def zl(b:Bool):ByteArray:=if b then⟨#[116,114,117,101]⟩else⟨#[102,97,108,115,101]⟩
theorem f210(b:Bool):Wf T 311 [.b b] [] (Is (.val (.string (zl b)))):=by
 cases b
 .exact o5 (k:=100) (by kernel_rfl)
 .exact o5 (k:=100) (by kernel_rfl)
@[simp] theorem azp(a b:ByteArray):E5 .add a b=if rm ((a.size+b.size:Nat):Int) 9223372036854775807 then some (.val (.string (a++b)))else none:=rfl
theorem foldl_push(l:List Int):∀r:ByteArray,(l.foldl (λr n=>r.push (UInt8.ofNat n.toNat)) r).data.toList=r.data.toList++l.map λn=>UInt8.ofNat n.toNat:=by
 induction l with
 | nil=>intro r;simp
 | cons a l b=>intro r;rw[b9,b];simp[ByteArray.push]
theorem YU(p:Pos):(oJ p).data.toList=(ot p).map λn=>UInt8.ofNat (IntKind.u8.wrap n).toNat:=by unfold oJ;rw[foldl_push];simp[ByteArray.empty,ByteArray.emptyWithCapacity];rfl
@[simp] theorem avc(p:Pos):(oJ p).size=(ot p).length:=by show(oJ p).data.size=_;rw[<-db,YU,List.length_map]
@[simp] theorem ayS(a:Array UInt8):ByteArray.size ⟨a⟩=a.size:=rfl
@[simp] theorem atu(n:Int):(Gj n).size=1:=rfl
@[simp] theorem ab6(b:Bool):(zl b).size<=5:=by cases b<;>decide
def oW(s:gv):ByteArray:=Gj s.kind++⟨#[32]⟩++Gj s.cur++⟨#[32]⟩++zl s.jN++⟨#[32]⟩++oJ s.p
theorem f165(s:gv)(h1:0<=s.kind/\s.kind<=9)(a:0<=s.cur/\s.cur<=9)(h:0<s.p.cs.length)(hl:(ot s.p).length<1000):Wf T 287 [.agg s.cells] [] (Is (.val (.string (oW s)))):=by have b:=ab6 s.jN;refine Yg KJ ?_;simp[KJ,gv.cells];refine Yt (f209 s.kind h1) ?_;simp;refine gd ?_;refine Yt (f209 s.cur a) ?_;simp;refine gd ?_;refine Yt (f210 s.jN) ?_;simp;refine gd ?_;refine Yt (f101 s.p h hl) ?_;simp;refine gd ?_;rfl
theorem ofNat_inj{m n:Nat}(b:m<256)(a:n<256)(h:UInt8.ofNat m=UInt8.ofNat n):m=n:=by have:=congrArg UInt8.toNat h;simp only[UInt8.toNat_ofNat']at this;omega
theorem abt{n:Int}(h:0<=n/\n<256):IntKind.u8.wrap n=n:=by simp only[IntKind.wrap,IntKind.bits,IntKind.signed];simp;omega
theorem Zx:∀ {a b:List Int},(∀n∈a,0<=n/\n<256)->(∀n∈b,0<=n/\n<256)->(a.map λn=>UInt8.ofNat (IntKind.u8.wrap n).toNat)=(b.map λn=>UInt8.ofNat (IntKind.u8.wrap n).toNat)->a=b
 | [],[],_,_,_=>rfl
 | [],_::_,_,_,h=>by simp at h
 | _::_,[],_,_,h=>by simp at h
 | x::a,y::b,ha,hb,h=>by simp only[List.map_cons,cY]at h;have f:=ha x (by simp);have d:=hb y (by simp);rw[abt f,abt d]at h;have e:=ofNat_inj (by omega) (by omega) h.1;rw[Zx (λn c=>ha n (by simp[c])) (λn c=>hb n (by simp[c])) h.2,show x=y by omega]
theorem Sp{g:gi}(hg:gV g){p:Pos}(b:iw g p):∀n∈ot p,0<=n/\n<256:=by
 have e:=hg.kinds;have d:=hg.gL;have f:=EJ d.1 (by omega)
 have c:∀ {l:List Int},sn g l->∀n∈l,0<=n/\n<256:=λ{l} h n a=>by obtain⟨i,h0,h1,rfl⟩:=wm.1 a;have:=h.at_ i h0 h1;omega
 intro n a;rw[Ca,zG]at a;simp only[a7,ew,List.mem_append,av,eu,or_false]at a;have j:=b.gL;have k:=b.side;rcases a with a|a|a|rfl|rfl
 .have:=b.cs n a;omega
 .exact c b.h0 n a
 .exact c b.h1 n a
 .omega
 .omega
theorem agS{g:gi}{p q:Pos}(b:iw g p)(a:iw g q)(h:ot p=ot q):p=q:=by rw[Ca,Ca,zG,zG]at h;simp only[a7,ew,az]at h;have k:=b.size;have j:=a.size;have i:=b.h0.len;have b2:=a.h0.len;have f:=b.h1.len;have c2:=a.h1.len;obtain⟨e,h⟩:=fE h (by omega);obtain⟨d,h⟩:=fE h (by omega);obtain⟨c,h⟩:=fE h (by omega);simp only[cY,and_true]at h;cases p;cases q;simp_all
theorem YT{g:gi}(hg:gV g){p q:Pos}(c:iw g p)(a:iw g q)(h:oJ p=oJ q):p=q:=by have d:=congrArg (λb:ByteArray=>b.data.toList) h;simp only[YU]at d;exact agS c a (Zx (Sp hg c) (Sp hg a) d)
theorem agT(s:gv):(oW s).data.toList=UInt8.ofNat (48+s.kind.toNat)::32::UInt8.ofNat (48+s.cur.toNat)::32::((zl s.jN).data.toList++32::(oJ s.p).data.toList):=by unfold oW Gj;simp
theorem YY{g:gi}(hg:gV g){s t:gv}(hs:kn g s)(e:kn g t)(h:oW s=oW t):s=t:=by
 have i:=congrArg (λb:ByteArray=>b.data.toList) h;simp only[agT,cY,true_and]at i;obtain⟨r,q,d⟩:=i;have w:=hg.kinds;have x:=hg.jJ.size;have k1:=hs.kind;have k2:=e.kind;have v:=hs.cur;have u:=e.cur;have f1:=ofNat_inj (by omega) (by omega) r;have f2:=ofNat_inj (by omega) (by omega) q;obtain⟨p,k,c,b⟩:=s;obtain⟨a,l,c',j⟩:=t;dsimp only at *
 have f:b=j/\oJ p=oJ a:=by
  cases b<;>cases j
  .simp[zl]at d;exact⟨rfl,by cases n:oJ p;cases m:oJ a;simp_all [fu]⟩
  .simp[zl]at d
  .simp[zl]at d
  .simp[zl]at d;exact⟨rfl,by cases n:oJ p;cases m:oJ a;simp_all [fu]⟩
 have o:p=a:=YT hg hs.p e.p f.2;rw[f.1,o,show k=l by omega,show c=c' by omega]
theorem Oc(a b:ByteArray):nX (.string a) (.string b)=decide (a=b):=by obtain⟨a⟩:=a;obtain⟨b⟩:=b;show(a == b)=_;rw[Bool.eq_iff_iff,beq_iff_eq,decide_eq_true_iff,ByteArray.mk.injEq]
theorem SK{g:gi}(hg:gV g){t:gv}(b:kn g t):∀ {l:List gv},(∀s∈l,kn g s)->rr (l.map λs=>((.string (oW s):Value),D.b true)) (.string (oW t))=if t∈l then some (.b true)else none
 | [],_=>by simp[rr]
 | a::l,h=>by
  rw[List.map_cons,rr,Oc,SK hg b λs hs=>h s (by simp[hs])]
  by_cases e:t=a
  .subst e;simp
  .have:¬oW t=oW a:=λk=>e (YY hg b (h a (by simp)) k);simp[this,e]
theorem SQ{g:gi}(hg:gV g){t:gv}(b:kn g t):∀ {l:List gv},(∀s∈l,kn g s)->t ∉ l->mu (l.map λs=>((.string (oW s):Value),D.b true)) (.string (oW t)) (.b true)=(l ++ [t]).map λs=>((.string (oW s):Value),D.b true)
 | [],_,_=>by simp[mu]
 | a::l,h,hn=>by simp only[av,not_or]at hn;have:¬oW t=oW a:=λk=>hn.1 (YY hg b (h a (by simp)) k);rw[List.map_cons,mu,Oc,SQ hg b (λs hs=>h s (by simp[hs])) hn.2];simp[this]
set_option maxRecDepth 10000
set_option maxHeartbeats 8000000
theorem gx.inl{T:iB}{f:FuncId}{args:List D}{dst:Option Nat}{s:St}{K:St->Prop}(fn:jw)(a:T.fn f=some fn)(c:fn.full=true)(hl:args.length<=fn.ntmps)(b:ui fn.body=true)
  (h:XC T fn.body { env:=uf args,H:=s.H } (zF fn.results fn.own s.H.length λd H'=>K { s with env:=put s.env dst d,H:=H' })):gx T f args dst s K .mk:=.inr ⟨fn,a,c,Wf.x a hl h b⟩
abbrev yi(g:gi)(p:Pos)(st:gv)(outs:D):U:=[.row 43 0 g.cells,.row 46 0 p.cells,.row 256 0 [outs],.row 43 0 g.cells,.row 46 0 p.cells,.dead,.dead,.dead,.row 330 0 st.cells,.dead]
theorem aey(g:gi)(hg:gV g)(p:Pos)(e:iw g p)(st t:gv)(a:kn g t):Wf T 260 [.agg t.cells,.agg [.i 0,.i 0],.ptr 1 0 0,.ptr 2 0 0] (yi g p st .gg ++ [.row 330 0 t.cells])
  (λ_ H'=>match oD p.side t with
   | none=>H'=yi g p st .gg ++ [.row 330 0 t.cells]
   | some o=>H'=yi g p st (.fY 11 0 6 0 1) ++ [.row 330 0 t.cells,.row 259 0 (cl gQ.cells [o])]):=by
 have m:=a.p.size;have c:=a.cur;have d:=a.p.small hg;have h:=hg.jJ.size;have q:=hg.kinds;have j:=a.p.h0.len;have i:=a.p.h1.len;have b:=e.side;have f:=a.p.side;refine Yz sQ (iZ 37 [13,14,15] sQ.body) ?_;simp[sQ,iZ,kD,np,nz,nP,ma,yi,gv.cells]
 by_cases h0:gt t.p.cs t.cur=0
 .simp[h0];refine gd ?_;refine Yn (f91 t d (by omega)) ?_;simp;refine gd ?_;refine Yt (f92 (k:=t.kind) (s:=p.side) a.kind.1 (by have:=a.kind;omega) b.1 b.2) ?_;simp;refine gd ?_;have q0:=iP (l:=t.p.cs) (n:=t.cur) (v:=1+2*t.kind+p.side) c.1 (by omega);simp[oD,h0,lQ,iQ,q0]
 .simp[h0,oD];exact mK
theorem aez(g:gi)(hg:gV g)(p:Pos)(e:iw g p)(st t:gv)(a:kn g t)(outs:List gQ)(u:outs.length<2 ^ 39)(f:0<outs.length):Wf T 260 [.agg t.cells,.agg [.i 0,.i 0],.ptr 1 0 0,.ptr 2 0 0] (yi g p st (.fY 10 (outs.length-1) 6 0 outs.length) ++ [.row 259 (outs.length-1) (cl gQ.cells outs),.row 330 0 t.cells])
  (λ_ H'=>match oD p.side t with
   | none=>H'=yi g p st (.fY 10 (outs.length-1) 6 0 outs.length) ++ [.row 259 (outs.length-1) (cl gQ.cells outs),.row 330 0 t.cells]
   | some o=>H'=yi g p st (.fY 10 (outs ++ [o]).length.pred 6 0 (outs ++ [o]).length) ++ [.row 259 (outs ++ [o]).length.pred (cl gQ.cells (outs ++ [o])),.row 330 0 t.cells]):=by
 have r:=a.p.size;have c:=a.cur;have d:=a.p.small hg;have j:=hg.jJ.size;have w:=hg.kinds;have q:=a.p.h0.len;have m:=a.p.h1.len;have b:=e.side;have i:=a.p.side;refine Yz sQ (iZ 37 [14,15,16] sQ.body) ?_;simp[sQ,iZ,kD,np,nz,nP,ma,yi,gv.cells]
 by_cases h0:gt t.p.cs t.cur=0
 .simp[h0];refine gd ?_;refine Yn (f91 t d (by omega)) ?_;simp;refine gd ?_;refine Yt (f92 (k:=t.kind) (s:=p.side) a.kind.1 (by have:=a.kind;omega) b.1 b.2) ?_;simp;refine gd ?_;have q0:=iP (l:=t.p.cs) (n:=t.cur) (v:=1+2*t.kind+p.side) c.1 (by omega);simp[oD,h0,lQ,q0];(with_reducible repeat' first|refine Xk ?_<;>try simp[show outs.length-1+1=outs.length by omega]|refine Xs ?_ ?_<;>intro h<;>(try intro x)<;>(try simp[h,show outs.length-1+1=outs.length by omega])<;>try omega|refine Xg ?_|omega)
 .simp[h0,oD];exact mK
