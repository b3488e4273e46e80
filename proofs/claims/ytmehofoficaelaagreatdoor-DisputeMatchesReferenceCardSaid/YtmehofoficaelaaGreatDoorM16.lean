/- Part 16 of DisputeMatchesReference. -/
import Derived.Test.YtmehofoficaelaaGreatDoorM15
set_option linter.all false
open UInt8 renaming ofNat→aE
open List renaming replicate→bb,map_cons→bs,take→dr,length→List.l
open Bool renaming true→b4,false→cp,eq_iff_iff→di
open Option renaming some→cj
open Int renaming toNat→Int.n
namespace Go.Proofs.YtmehofoficaelaaGreatDoor
open Go Go.AL Classical
set_option maxRecDepth 10000
set_option maxHeartbeats 1000000
@[simp] theorem auC(n:Int)(nx:List (List Int))(tn:List Int):closed (bD n nx tn)=true:=by simp[bD]
theorem f104(w d c:Int)(g:0<=w/\w<256)(i:0<=d/\d<256)(j:0<=c/\c<256):Wf T 159 [.val (.int .u8 w),.val (.int .u8 d),.val (.int .u8 c)] [] (Ey (λx:Int×List (List Int)×List Int=>bD x.1 x.2.1 x.2.2) λx=>pL (Du x.1 x.2.1 x.2.2)):=by
 have w1:=jO (a:=w) (b:=3) g.1;have h1:=jO (a:=d) (b:=3) i.1;have w2:IntKind.i64.wrap (gJ w 3)=gJ w 3:=nH gU;have k:IntKind.i64.wrap (gJ d 3)=gJ d 3:=nH gU;have c2:IntKind.i64.wrap c=c:=nH gU;refine Yg Kz ?_;simp[Kz,w2,k];refine gi ?_;obtain⟨n,nx,tn,hg,e⟩:=f149 (1+gJ w 3) (1+gJ d 3) U U;have p:1<=n/\n<=9:=e.size;refine gE.c rfl rfl hg gf (by simp[bD]) ?_;simp[bD,c2];refine kz ?_ ?_<;>intro h
 .rw[c2];have o:=jO (a:=c) (b:=n) j.1;have m:=bS c (U:n≠0);have l:=bM c (U:0<n);refine Yv (f150 n nx tn e (gJ c n) U) λx f=>?_;simp;simp[bD];exact Ey.i (n,x,tn) rfl rfl f
 .exact Ey.i (n,nx,tn) rfl rfl e
theorem lG.s{T:iL}{n:Nat}{live:List Nat}{a:IR}{s b:St}{K:ju}(hs:s=b)(h:lG T n live a b K .mk):lG T n live a s K .mk:=by subst hs;exact h
theorem gx.s{T:iL}{live:List Nat}{a:IR}{s b:St}{K:ju}(hs:s=b)(h:gx T live a b K .mk):gx T live a s K .mk:=by subst hs;exact h
def WL(l:List Int):cl fU l=l.map λn=>D.val (.int .u8 n):=by
 rw[pN]
 induction l with
 | nil=>rfl
 | cons a r b=>simp[<-b]
@[simp] theorem aji{l:List Int}{k:Nat}{P:D->Prop}:oA (cl fU l)[k]? P .mk=(k<l.l/\P (.val (.int .u8 (gt l k)))):=by
 rw[WL]
 by_cases h:k<l.l
 .simp[h,gt]
 .simp[h]
@[simp] theorem ata{l:List Int}{k:Nat}(h:k<(cl fU l).l):(cl fU l)[k] = .val (.int .u8 (gt l k)):=by
 have a:k<l.l:=by simpa using h
 simp[WL,gt,a]
def f59(g:gv)(hg:gZ g)(l:List Int)(hl:l.l=18)(h:∀n∈l,0<=n/\n<256) :
  Wf T 100 [dG g,.agg (cl fU l)] [] (Ey dP (iI g)):=by
 have hb:=hg.ki.size;have w:=hg.kinds;have P:=hg.gX;have Q:=U7 P.1 U;have h5:=F4 P.1 U;have h6:(0:Int)<2 ^ g.gX.n:=Int.pow_pos jr;have r:∀k:Nat,k<18->0<=gt l k/\gt l k<256:=λk w=>h _ (gF U U)
 have s:∀k:Nat,k<18->IntKind.i64.wrap (gt l k)=gt l k:=λk w=>by have:=r k w;exact nH gU
 have O:=s 16 U;have N:=s 17 U;have D:=r 16 U;have z:=r 17 U;simp at O N D z;have Z:=jO (a:=gt l 16) (b:=2 ^ g.gX.n) D.1;have m16:=bS (gt l 16) (U:(2:Int) ^ g.gX.n≠0);have a0:=bM (gt l 16) h6;have Y:=jO (a:=gt l 17) (b:=2) z.1;have t:IntKind.i64.wrap (gJ (gt l 17) 2)=gJ (gt l 17) 2:=nH gU;have hR:0<=gJ (gt l 16) (2 ^ g.gX.n)/\gJ (gt l 16) (2 ^ g.gX.n)<2 ^ g.gX.n:=U;have hS:0<=gJ (gt l 17) 2/\gJ (gt l 17) 2<=1:=U;refine Yg M4 ?_;simp[M4,Q,hl,O,t];generalize gJ (gt l 16) (2 ^ g.gX.n)=R at *;generalize gJ (gt l 17) 2=S at *;refine o5 Q hl O t ?_;refine gx.e ((0,bb g.size.n 0):Int×List Int) (λy=>[(2,.ptr 0 0 0),(3,.ptr 1 0 0),(4,.ptr 2 0 0),(5,.ptr 4 0 0),(6,.i y.1)]) (λy=>[.row 43 0 g.cells,.row 30 0 (cl fU l),.row 46 0 [.gp,.gp,.gp,.i 0,.i 0],.row 3 0 (cl f1 y.2),.row 46 0 [.gh 3 0 1 0 g.size.n,.gp,.gp,.i R,.i S]]) (λy=>0<=y.1/\y.1<=6/\y.2.l=g.size.n/\∀x∈y.2,0<=x/\x<=2*g.kinds.l) (λy=>6-y.1.n) ?_ ?_
 .simp;exact nb
 rintro⟨i,cs⟩ ⟨i0,q,J,E⟩;dsimp only at i0 q J E ⊢;have d:max i 0=i:=U
 by_cases hi:i<6
 .have w1:IntKind.i64.wrap (gt l i)=gt l i:=by have:=s i.n U;rwa [cA i0]at this
  have w2:IntKind.i64.wrap (gt l (6+i))=gt l (6+i):=by have:=s (6+i.n) U;rwa [(U:((6+i.n:Nat):Int)=6+i)]at this
  have u:0<=gt l i:=by have:=r i.n U;rw[cA i0]at this;exact this.1
  have V:0<=gt l (6+i):=by have:=r (6+i.n) U;rw[(U:((6+i.n:Nat):Int)=6+i)]at this;exact this.1
  have H:=jO (a:=gt l i) (b:=g.size+1) u;have e1:=bS (gt l i) (U:g.size+1≠0);have X:=jO (a:=gt l (6+i)) (b:=g.kinds.l) V;have e2:=bS (gt l (6+i)) (U:(g.kinds.l:Int)≠0);have e3:=bM (gt l (6+i)) (U:(0:Int)<g.kinds.l);have W:=jO (a:=i) (b:=2) i0;simp[hl,d,hi,w1,w2];have I:g.kinds≠[]:=by intro h;simp[h]at w
  obtain⟨A,F⟩:∃A,gJ (gt l i) (g.size+1)=A:=⟨_,rfl⟩;obtain⟨B,M⟩:∃B,gJ (gt l (6+i)) g.kinds.l=B:=⟨_,rfl⟩;obtain⟨C,L⟩:∃B,gJ i 2=B:=⟨_,rfl⟩;rw[F]at H;rw[M]at X;rw[L]at W;simp only[F];(with_reducible repeat' first|refine Xk ?_<;>try simp[hl,d,w1,w2,F,M,L,I]|refine Xs ?_ ?_<;>intro h<;>(try intro G)<;>(try simp[h,hl,d,w1,w2,F,M,L,I])<;>try omega|refine Xg ?_|omega)
  .refine iU I ?_;refine LJ.e (i+1,pt cs A (1+2*B+C)) ?_;dsimp only;have hv:0<=1+2*B+C/\1+2*B+C<=2*g.kinds.l:=U;refine ic ⟨?_,?_⟩
   .have:=jg (l:=cs) (n:=A) (v:=1+2*B+C) U U;omega
   .intro x K;rcases abg K with rfl|K
    .exact hv
    .exact E x K
  .refine LJ.e (i+1,cs) ?_;exact ic ⟨J,E⟩
 simp[hi]
 have z0:tE g (bb g.kinds.l 0):=⟨gf,λk w nN=>by
  have e:gt (bb g.kinds.l (0:Int)) k=0:=by simp at nN;have:k.n<g.kinds.l:=U;simp[gt,this]
  rw[e];omega⟩
 refine gx.un ?_;refine lG.s ny ?_;refine lG.u ?_;simp;refine gi ?_;refine gx.e ((0,bb g.kinds.l 0):Int×List Int) (λy=>[(2,.ptr 0 0 0),(3,.ptr 1 0 0),(4,.ptr 2 0 0),(5,.ptr 4 0 0),(8,.i 0),(9,.i y.1)]) (λy=>[.row 43 0 g.cells,.row 30 0 (cl fU l),.row 46 0 [.gp,.gp,.gp,.i 0,.i 0],.row 3 0 (cl f1 cs),.row 46 0 [.gh 3 0 1 0 g.size.n,.gh 5 0 1 0 g.kinds.l,.gp,.i R,.i S],.row 3 0 (cl f1 y.2)]) (λy=>0<=y.1/\y.1<=g.kinds.l/\tE g y.2) (λy=>g.kinds.l-y.1.n) ?_ ?_
 .simp;exact z0
 rintro⟨i,h0⟩ ⟨i0,q,j⟩;dsimp only at i0 q j ⊢;have d:max i 0=i:=U;have m:=j.len
 by_cases hi:i<g.kinds.l
 .have f:i<2:=by omega
  have w1:IntKind.i64.wrap (gt l (12+i))=gt l (12+i):=by have:=s (12+i.n) U;rwa [(U:((12+i.n:Nat):Int)=12+i)]at this
  have u:0<=gt l (12+i):=by have:=r (12+i.n) U;rw[(U:((12+i.n:Nat):Int)=12+i)]at this;exact this.1
  have H:=jO (a:=gt l (12+i)) (b:=3) u
  by_cases c:(gt g.kinds i).keep=b4
  .have p:∀v,(pt h0 i v).l=h0.l:=λv=>jg i0 U;have o:i.n<g.kinds.l:=U;simp[hl,d,hi,f,c,w1,p,m,o];(with_reducible repeat' first|refine Xk ?_<;>try simp[hl,d,hi,f,c,w1,p,m,o]|refine Xs ?_ ?_<;>intro h<;>(try intro G)<;>(try simp[h,hl,d,hi,f,c,w1,p,m,o])<;>try omega|refine Xg ?_|omega)
   .refine LJ.e (i+1,pt (pt h0 i (gJ (gt l (12+i)) 3)) i 8) ?_;refine ic ?_;exact(j.set i0 U (sk (λ_=>c))).set i0 (by rw[jg i0 U];omega) (sk (λ_=>c))
   .refine LJ.e (i+1,pt h0 i (gJ (gt l (12+i)) 3)) ?_;exact ic (j.set i0 U (sk (λ_=>c)))
  .simp[hl,d,hi,f,c,w1];(with_reducible repeat' first|refine Xk ?_<;>try simp[hl,d,hi,f,c,w1]|refine Xs ?_ ?_<;>intro h<;>(try intro G)<;>(try simp[h,hl,d,hi,f,c,w1])<;>try omega|refine Xg ?_|omega);refine LJ.e (i+1,h0) ?_;exact ic j
 simp[hi];refine iU hi ?_;clear hi d i0 q m
 rename tE g h0=>ok0
 refine lG.s ny ?_;refine lG.u ?_;simp;refine gi ?_;refine gx.e ((0,bb g.kinds.l 0):Int×List Int) (λy=>[(2,.ptr 0 0 0),(3,.ptr 1 0 0),(4,.ptr 2 0 0),(5,.ptr 4 0 0),(8,.i 1),(9,.i y.1)]) (λy=>[.row 43 0 g.cells,.row 30 0 (cl fU l),.row 46 0 [.gp,.gp,.gp,.i 0,.i 0],.row 3 0 (cl f1 cs),.row 46 0 [.gh 3 0 1 0 g.size.n,.gh 5 0 1 0 g.kinds.l,.gh 6 0 1 0 g.kinds.l,.i R,.i S],.row 3 0 (cl f1 h0),.row 3 0 (cl f1 y.2)]) (λy=>0<=y.1/\y.1<=g.kinds.l/\tE g y.2) (λy=>g.kinds.l-y.1.n) ?_ ?_
 .simp;exact z0
 rintro⟨i,h1⟩ ⟨i0,q,j⟩;dsimp only at i0 q j ⊢;have d:max (2+i) 0=(2+i):=U;have m:=j.len
 by_cases hi:i<g.kinds.l
 .have f:i<2:=by omega
  have w1:IntKind.i64.wrap (gt l (12+(2+i)))=gt l (12+(2+i)):=by have:=s (12+(2+i).n) U;rwa [(U:((12+(2+i).n:Nat):Int)=12+(2+i))]at this
  have u:0<=gt l (12+(2+i)):=by have:=r (12+(2+i).n) U;rw[(U:((12+(2+i).n:Nat):Int)=12+(2+i))]at this;exact this.1
  have H:=jO (a:=gt l (12+(2+i))) (b:=3) u
  by_cases c:(gt g.kinds i).keep=b4
  .have p:∀v,(pt h1 i v).l=h1.l:=λv=>jg i0 U;have o:i.n<g.kinds.l:=U;simp[hl,d,hi,f,c,w1,p,m,o];(with_reducible repeat' first|refine Xk ?_<;>try simp[hl,d,hi,f,c,w1,p,m,o]|refine Xs ?_ ?_<;>intro h<;>(try intro G)<;>(try simp[h,hl,d,hi,f,c,w1,p,m,o])<;>try omega|refine Xg ?_|omega)
   .refine LJ.e (i+1,pt (pt h1 i (gJ (gt l (12+(2+i))) 3)) i 8) ?_;refine ic ?_;exact(j.set i0 U (sk (λ_=>c))).set i0 (by rw[jg i0 U];omega) (sk (λ_=>c))
   .refine LJ.e (i+1,pt h1 i (gJ (gt l (12+(2+i))) 3)) ?_;exact ic (j.set i0 U (sk (λ_=>c)))
  .simp[hl,d,hi,f,c,w1];(with_reducible repeat' first|refine Xk ?_<;>try simp[hl,d,hi,f,c,w1]|refine Xs ?_ ?_<;>intro h<;>(try intro G)<;>(try simp[h,hl,d,hi,f,c,w1])<;>try omega|refine Xg ?_|omega);refine LJ.e (i+1,h1) ?_;exact ic j
 simp[hi];refine iU hi ?_;clear hi d i0 q m
 rename tE g h1=>ok1
 refine lG.s ny ?_;refine lG.u ?_;simp;refine gi ?_;exact Ey.i ⟨cs,h0,h1,R,S⟩ (by simp[J,ok0.len,ok1.len,dP,Pos.cells]) rfl ⟨by simp only;omega,ok0,ok1,hR,hS,E⟩
end Go.Proofs.YtmehofoficaelaaGreatDoor
namespace Go.AL
open Go
@[simp] theorem az4(ρ:Nat->Option Nat)(H:gg)(k:Nat)(f:Fn)(a b:List D):gA ρ H (k+1) (.fn f a b) = .fn f (a.map (gA ρ H k)) (b.map (gA ρ H k)):=by
 by_cases h:closed (.fn f a b)=b4
 .have c:=h;simp only[WT,ai]at c;rw[sq h,Dt c.1,Dt c.2]
 .rw[gA,if_neg h]
@[simp] theorem az5(ρ:Nat->Option Nat)(H:gg)(k:Nat)(cs:List D):gA ρ H (k+1) (.gH cs) = .gH (cs.map (gA ρ H k)):=by
 by_cases h:closed (.gH cs)=b4
 .rw[sq h,Dt (by simpa using h)]
 .rw[gA,if_neg h]
def y8(l:List Int):cl f1 l=l.map λn=>D.i n:=by
 rw[pN]
 induction l with
 | nil=>rfl
 | cons a r b=>simp[<-b]
def aeI{ρ:Nat->Option Nat}{H:gg}{k n:Nat}{t:TypeId}{cs:List D}(l:List Int)(h:cs=l.map λn=>D.i n)(a:n=l.l):oj ρ H (k+1) 1 0 n (cj (t,cs))=dI l:=by rw[h,<-y8,xd a];rfl
@[simp] theorem aAR(a b:ByteArray):Gn .eql a b=cj (.b (decide (a=b))):=by
 have:(a.data.toList == b.data.toList)=decide (a=b):=by
  rw[di,beq_iff_eq,decide_eq_true_iff];constructor
  .intro h;cases a;cases b;congr 1;exact fD.1 h
  .rintro rfl;rfl
 show cj (D.val (.bool _))=_;rw[this]
@[simp] theorem atG(t:TypeId)(s:ByteArray)(n:Nat):uk t (.val (.string s)) n=cj (.ptr n 0 0,.new (.row t 0 [.val (.string s)])):=rfl
@[simp] theorem atB(t:TypeId)(m:Int)(n:Nat):uk t (.i m) n=cj (.ptr n 0 0,.new (.row t 0 [.i m])):=rfl
@[simp] theorem auL(l:List (List gj)):closed (dN 1 fP l)=true:=Cg (λa=>by simp[gN]) l
def JG(rf:Nat)(st:sB)(x:Option Ob)(P:Env->Prop):Prop:=∃env,x=cj (.iE rf env st)/\P env
@[simp] theorem azn{rf:Nat}{st:sB}{env:Env}{P:Env->Prop}:JG rf st (cj (.iE rf env st)) P=P env:=propext ⟨λ⟨_,h,k⟩=>by cases h;exact k,λk=>⟨_,rfl,k⟩⟩
section
variable{T:iL}{v rf:Nat}{b:IR}{dst:Option Nat}{s s1:St}{K:St->Prop}
@[simp] theorem azJ:ack T v rf b dst s K (.norm s1)=JG rf .ready s1.H[v]? λa=>XC T b { s1 with H:=s1.H.set v (.iE rf a .busy) } (DG v rf dst s K):=rfl
@[simp] theorem azL:DG v rf dst s K (.norm s1)=JG rf .busy s1.H[v]? λa=>K { s with env:=put s.env dst (.b b4),H:=s1.H.set v (.iE rf a .ready) }:=rfl
@[simp] theorem azK{id:Nat}:DG v rf dst s K (.exit id s1)=JG rf .busy s1.H[v]? λa=>K { s with env:=put s.env dst (.b cp),H:=s1.H.set v (.iE rf a (.AJ id)) }:=rfl
@[simp] theorem azM:DG v rf dst s K (.ret s1)=JG rf .busy s1.H[v]? λa=>K { s with env:=put s.env dst (.b cp),H:=s1.H.set v (.iE rf a .Ck) }:=rfl
@[simp] theorem azQ{l:List D}{e:Env}:vG [] l e=e:=by cases l<;>rfl
@[simp] theorem azP{k:Nat}{d:D}{ks:List Nat}{l:List D}{e:Env}:vG (k::ks) (d::l) e=vG ks l ((k,d)::e):=rfl
@[simp] theorem azl{s:St}:BG s .ready=cj (.norm s):=rfl
@[simp] theorem azk{s:St}{id:Nat}:BG s (.AJ id)=cj (.exit id s):=rfl
@[simp] theorem azm{s:St}:BG s .Ck=cj (.ret s):=rfl
end
@[simp] theorem ayu(n:Nat):pZ n .ka = []:=rfl
@[simp] theorem ayx(n rf:Nat)(e:Env)(st:sB):pZ n (.iE rf e st) = []:=rfl
theorem gE.nr{T:iL}{f:FuncId}{args pM:List D}{dst:Option Nat}{s:St}{K:St->Prop}{fn:jK}{d:D}{Hn:gg}(g:T.fn f=cj fn)(e:fn.full=cp)(h:Wf T f pM [] λd' H'=>d'=d/\H'=Hn)
  (hs:args.map (gA (λ_=>none) s.H 40)=pM) (c:(p5 d&&Hn.all rl)=b4) (b:(od d&&Hn.all pq)=b4) (k:K { s with env:=put s.env dst (lz s.H.l d),H:=s.H++Hn }):gE T f args dst s K .mk:=by
 refine gE.is g e (K0:=λd' H'=>d'=d/\H'=Hn) (by rw[hs];exact h) ?_;rintro d' i ⟨rfl,rfl⟩;refine⟨_,?_,k⟩;unfold after
 by_cases a:gN args=b4
 .rw[if_pos a,if_pos b]
 .rw[if_neg a,if_pos c]
@[simp] theorem ayC(v g sz off n:Nat):p5 (.gh v g sz off n)=true:=rfl
@[simp] theorem avv(t g:Nat)(cs:List D):rl (.row t g cs)=tI cs:=rfl
@[simp] theorem avu(l:List Int):tI (cl f1 l)=true:=by
 rw[y8]
 induction l with
 | nil=>rfl
 | cons a r b=>simpa[tI,flat]using b
end Go.AL
namespace Go.Proofs.YtmehofoficaelaaGreatDoor
open Go Go.AL Classical
set_option maxRecDepth 10000
set_option maxHeartbeats 4000000
def f133(g:gv)(hg:gZ g)(n:Int)(a:0<=n/\n<=2*g.kinds.l):Wf T 168 [dG g,.i n] [] (Is (.b b4)):=by have b:=hg.kinds;refine Yg LD ?_;simp[LD];exact nb
def f134(g:gv)(hg:gZ g)(n:Int)(a:0<=n/\n<=2*g.kinds.l):Wf T 169 [.i n,.gH [.fn (.func 168) [dG g] []]] [] (Is (.b cp)):=by refine Yg LF ?_;simp[LF];refine Yc (f133 g hg n a) ?_;simp
def f178(g:gv)(hg:gZ g)(l:List Int)(hl:∀n∈l,0<=n/\n<=2*g.kinds.l)(b:l.l<=9):Wf T 230 [dI l,.fn (.func 169) [] [.gH [.fn (.func 168) [dG g] []]]] [] (Is (.i (-1))):=by
 refine Yg Eg ?_;simp[Eg];refine gx.e (0:Int) (λy=>[(0,dI l),(1,.fn (.func 169) [] [.gH [.fn (.func 168) [dG g] []]]),(7,.i l.l),(8,.i y)]) (λy=>[]) (λy=>0<=y/\y<=l.l) (λy=>(l.l-y).n) ?_ ?_
 .simp
 rintro i ⟨i0,a⟩;dsimp only at i0 a ⊢
 by_cases hi:i<l.l
 .simp[hi];refine gi ?_;refine Yc (f134 g hg (gt l i) (hl _ (gF i0 hi))) ?_;simp;refine gi ?_;refine LJ.e (i+1) ?_;exact mw
 .simp[hi]
def f135(g:gv)(hg:gZ g)(l:List Int)(hl:∀n∈l,0<=n/\n<=2*g.kinds.l)(a:l.l<=9):Wf T 170 [dI l,.fn (.func 169) [] [.gH [.fn (.func 168) [dG g] []]]] [] (Is (.b cp)):=by refine Yg Ee ?_;simp[Ee];refine Yc (f178 g hg l hl a) ?_;simp
def f136(g:gv)(hg:gZ g)(l:List Int)(hl:tE g l):Wf T 171 [dG g,dI l] [] (Is (.b b4)):=by
 have f:=hg.kinds;have d:=hl.len;refine Yg LG ?_;simp[LG];refine iU d ?_;refine gx.e (0:Int) (λy=>[(2,.ptr 0 0 0),(14,dI l),(15,.i g.kinds.l),(16,.i y)]) (λy=>[.row 279 0 g.cells]) (λy=>0<=y/\y<=l.l) (λy=>(l.l-y).n) ?_ ?_
 .simp
 rintro i ⟨i0,c⟩;dsimp only at i0 c ⊢
 by_cases hi:i<l.l
 .have e:=hl.at_ i i0 hi;have h:i<g.kinds.l:=U
  by_cases a:0<gt l i
  .have b:=e.2.2 a;simp[hi];refine jT b a ?_;refine LJ.e (i+1) ?_;exact mw
  .simp[hi];refine iU a ?_;refine LJ.e (i+1) ?_;exact mw
 .simp[(U:¬i<g.kinds.l)]
def f97(g:gv)(hg:gZ g)(p:Pos)(a:iI g p):Wf T 109 [dG g,dP p] [] (Is (.b b4)):=by
 have f:=hg.kinds;have d:=hg.gX;have e:=a.gX;have hs:=a.side;have c:=a.size;have i:=hg.ki.size;have b:=U7 d.1 U;refine Yg No ?_;simp[No,b,c];refine ji.r rfl rfl (f135 g hg p.cs a.cs U) gf (by simp[flat]) gf ?_;simp;refine Yt (f136 g hg p.h0 a.h0) ?_;simp;refine Yt (f136 g hg p.h1 a.h1) ?_;simp;refine G6 b ?_ ?_<;>intro h
 .simp[*]
 .have:p.side=1:=by omega
  simp[*]
def f177(n:Int):Wf T 251 [.i n] [] (Is (.b cp)):=by refine Yg L7 ?_;simp[L7]
def f131(a b:Int):Wf T 220 [.i a,.i b] [] (Is (.i (lM a b))):=by
 refine Yg Lz ?_;simp[Lz];refine Yc (f177 a) ?_;simp;refine Yc (f177 b) ?_;simp;(with_reducible repeat' first|refine Xk ?_<;>try simp|refine Xs ?_ ?_<;>intro h<;>(try intro c)<;>(try simp[h])<;>try omega|refine Xg ?_|omega)
 all_goals
  unfold lM;(repeat' split)<;>(first|rfl|(exfalso;omega))
def f130(a b:List Int)(k:a.l<2 ^ 40)(j:b.l<2 ^ 40):Wf T 219 [dI a,dI b] [] (Is (.i (lE a b))):=by
 refine Yg Ly ?_;simp[Ly];refine gx.e (0:Int) (λi=>[(0,dI a),(1,dI b),(9,dI a),(10,.i a.l),(11,.i i)]) (λi=>[]) (λi=>0<=i/\i<=a.l/\i<=b.l/\a.take i.n=b.take i.n) (λi=>a.l-i.n) ?_ ?_
 .simp
 rintro i ⟨h0,h1,l,f⟩;have e:=aaU f U U
 by_cases hi:i<a.l
 .by_cases d:i<b.l
  .simp[hi,d];refine gi ?_;refine Yc (f131 (gt a i) (gt b i)) ?_;simp
   by_cases c:lM (gt a i) (gt b i)=0
   .simp[c];refine gi ?_;refine LJ.e (i+1) ?_;refine BE ?_;rw[jI h0 hi,jI h0 d,f,zR.1 c]
   .simp[c];rw[e,o7 h0 hi,o7 h0 d,lE,if_neg (λh=>c (zR.2 h))]
  .simp[hi,d];refine gi ?_
   have g:lM ((a.drop i.n).l) ((b.drop i.n).l)=1:=by simp only[aX,lM];rw[if_neg U,if_pos U]
   rw[e,TZ (by simp only[aX];omega),g]
 .simp[hi];refine kz ?_ ?_<;>intro h
  all_goals
   rw[e,TZ (by simp only[aX];omega)];simp only[aX,lM];(repeat' split)<;>omega
def f129(l:List Int)(hl:l.l<2 ^ 40):Wf T 218 [dI l] [] (Is (.i (oH l))):=by
 refine Yg Lv ?_;simp[Lv];refine gx.e (0:Int) (λi=>[(3,.i 0),(6,dI l),(7,.i l.l),(8,.i i)]) (λi=>[]) (λi=>0<=i/\i<=l.l/\oH l=oH (l.drop i.n)) (λi=>l.l-i.n) ?_ ?_
 .simp
 rintro i ⟨h0,h1,b⟩
 by_cases hi:i<l.l
 .rw[o7 h0 hi]at b
  by_cases a:gt l i=0
  .simp[hi,a];refine gi ?_;refine LJ.e (i+1) ?_;refine ic ?_;rw[b];simp only[oH,a];rw[if_neg gf,(U:(i+1).n=i.n+1)]
  .simp[hi,a];refine gi ?_;rw[b];simp[oH,a]
 .simp[hi];rw[b,bV U];rfl
def f88(p q:Pos)(b:Small p)(a:Small q):Wf T 152 [dP p,dP q] [] (Is (.i (iQ p q))):=by refine Yg Nf ?_;simp[Nf];refine Yt (f130 _ _ b.1 a.1) ?_;simp;refine Yt (f130 _ _ b.2.1 a.2.1) ?_;simp;refine Yt (f130 _ _ b.2.2 a.2.2) ?_;simp;refine Yt (f131 _ _) ?_;simp;refine Yt (f131 _ _) ?_;simp;refine ji.r rfl rfl (f129 [lE p.cs q.cs,lE p.h0 q.h0,lE p.h1 q.h1,lM p.gX q.gX,lM p.side q.side] gf) (by simp;exact aeI _ rfl rfl) (by simp[flat]) gf ?_;simp;rfl
def f100(l:List Pos)(hl:l.l<2 ^ 40)(hs:∀p∈l,Small p)(a:lP l):Wf T 112 [gT l] [] (Is (.b b4)):=by
 refine Yg Kl ?_;simp[Kl];refine gi ?_;refine gx.e (0:Int) (λi=>[(0,gT l),(6,.i (l.l-1)),(7,.i i)]) (λi=>[]) (λi=>0<=i) (λi=>l.l-i.n) ?_ ?_
 .simp
 rintro i h0
 by_cases hi:i<l.l-1
 .simp[hi];refine gi ?_;refine Yt (f88 _ _ (hs _ (gF h0 U)) (hs _ (gF (n:=i+1) U U))) ?_;simp;have:=a (i+1) U U;rw[ec]at this;simp[(U:¬ 0<=iQ (gt l i) (gt l (i+1)))];refine gi ?_;refine LJ.e (i+1) ?_;exact gU
 .simp[hi]
def f96(g:gv)(hg:gZ g)(p:Pos)(a:iI g p):Wf T 108 [dP p,.gH g.cells] [] (Is (.b cp)):=by refine Yg Nn ?_;simp[Nn];refine Yc (f97 g hg p a) ?_;simp
def f147(g:gv)(hg:gZ g)(l:List Pos)(hl:∀p∈l,iI g p)(b:l.l<2 ^ 40):Wf T 182 [gT l,.fn (.func 108) [] [.gH g.cells]] [] (Is (.i (-1))):=by
 refine Yg LW ?_;simp[LW];refine gx.e (0:Int) (λy=>[(0,gT l),(1,.fn (.func 108) [] [.gH g.cells]),(7,.i l.l),(8,.i y)]) (λy=>[]) (λy=>0<=y/\y<=l.l) (λy=>(l.l-y).n) ?_ ?_
 .simp
 rintro i ⟨i0,a⟩
 by_cases hi:i<l.l
 .simp[hi];refine gi ?_;refine Yc (f96 g hg (gt l i) (hl _ (gF i0 hi))) ?_;simp;refine gi ?_;refine LJ.e (i+1) ?_;exact mw
 .simp[hi]
def f99(g:gv)(hg:gZ g)(l:List Pos)(hl:∀p∈l,iI g p)(a:l.l<2 ^ 40):Wf T 111 [gT l,.fn (.func 108) [] [.gH g.cells]] [] (Is (.b cp)):=by refine Yg Nq ?_;simp[Nq];refine Yc (f147 g hg l hl a) ?_;simp
def qf(l:List gG):D:=dN 8 gG.cells l
@[simp] theorem aen(l:List gG):closed (qf l)=true:=Cg (λa=>by simp[gG.cells,gN]) l
theorem f132(l:List Int)(h:0<l.l)(b:l.l<2 ^ 40):Wf T 265 [dI l] [] (λd H=>d = .gh 0 1 1 0 l.l/\H = [.row 3 1 (cl f1 l)]):=by refine Yg LC ?_;simp[LC];refine oA.i (a:=.b cp) (by cases l with|nil=>exact absurd h gf|cons a r=>rfl) ?_;simp;exact nb
def f91(s:gG)(hs:Small s.p)(h0:0<s.p.cs.l/\0<s.p.h0.l/\0<s.p.h1.l):Wf T 215 [.agg s.cells] [] (λd H=>d = .agg [.gh 0 1 1 0 s.p.cs.l,.gh 1 1 1 0 s.p.h0.l,.gh 2 1 1 0 s.p.h1.l,.i s.p.gX,.i s.p.side,.i s.kind,.i s.cur,.b s.kn]/\H = [.row 3 1 (cl f1 s.p.cs),.row 3 1 (cl f1 s.p.h0),.row 3 1 (cl f1 s.p.h1)]):=by refine Yg Nh ?_;simp[Nh,gG.cells];refine Yn (f132 s.p.cs h0.1 hs.1) ?_;simp;refine vQ.n rfl rfl (f132 s.p.h0 h0.2.1 hs.2.1) gf gf ?_;simp;refine vQ.n rfl rfl (f132 s.p.h1 h0.2.2 hs.2.2) gf gf ?_;simp
def f241(s:gG)(b:Bool):Wf T 323 [.agg s.cells,.b b] [] (Is (qf (if b then [s]else []))):=by
 refine Yg MB ?_;simp[MB,gG.cells];cases b
 .simp;rfl
 .simp;rfl
def f243(s:gG)(h:0<=s.cur/\s.cur<s.p.cs.l)(hs:Small s.p):Wf T 325 [.agg s.cells] [] (Is (.tup [.i (gV (gt s.p.cs s.cur)),.i (kE (gt s.p.cs s.cur))])):=by refine Yg MD ?_;simp[MD,gG.cells];refine gi ?_;refine Yc (f84 _) ?_;simp
def f199(g:gv)(hg:gZ g)(s:gG)(hs:kU g s)(n:Int):Wf T 300 [.agg s.cells,dG g,.i n] [] (Is (qf (jz g s (1,n)))):=by refine Yg Mm ?_;simp[Mm,gG.cells];refine Yc (f240 g hg.ki s.p.side n s.cur) ?_;simp;refine gE.c rfl rfl (f241 { s with cur:=mX g s.p.side n s.cur } (decide (0<=mX g s.p.side n s.cur))) (by simp[gG.cells]) gf ?_;simp[jz]
def f201(g:gv)(hg:gZ g)(s:gG)(hs:kU g s)(n:Int):Wf T 302 [.agg s.cells,dG g,.i n] [] (Is (qf (jz g s (3,n)))):=by have b:=hs.p.size;have a:=hs.cur;refine Yg Mo ?_;simp[Mo,gG.cells];refine gi ?_;refine ji.c rfl rfl (f241 s (decide (gt s.p.cs s.cur=0))) (by simp[gG.cells]) gf ?_;simp[jz]
def f202(g:gv)(hg:gZ g)(s:gG)(hs:kU g s)(n:Int):Wf T 303 [.agg s.cells,dG g,.i n] [] (Is (qf (jz g s (4,n)))):=by have c:=hs.p.size;have a:=hs.cur;have b:=hs.p.side;refine Yg Mp ?_;simp[Mp,gG.cells];refine gE.c rfl rfl (f243 s U (hs.p.small hg)) (by simp[gG.cells]) gf ?_;simp;refine gi ?_;refine gE.c rfl rfl (f241 s (decide (kE (gt s.p.cs s.cur)=1-s.p.side))) (by simp[gG.cells]) gf ?_;simp[jz]
def f203(g:gv)(hg:gZ g)(s:gG)(hs:kU g s)(n:Int):Wf T 304 [.agg s.cells,dG g,.i n] [] (Is (qf (jz g s (5,n)))):=by have b:=hs.p.size;have a:=hs.cur;refine Yg Mq ?_;simp[Mq,gG.cells];refine gE.c rfl rfl (f243 s U (hs.p.small hg)) (by simp[gG.cells]) gf ?_;simp;refine gE.c rfl rfl (f241 s (decide (kE (gt s.p.cs s.cur)=s.p.side))) (by simp[gG.cells]) gf ?_;simp[jz]
def f206(g:gv)(s:gG)(n:Int):Wf T 307 [.agg s.cells,dG g,.i n] [] (Is (qf (jz g s (8,n)))):=by refine Yg Ms ?_;simp[Ms,gG.cells];rfl
def f207(g:gv)(hg:gZ g)(s:gG)(hs:kU g s)(n:Int)(c:0<=n/\n<g.gX):Wf T 308 [.agg s.cells,dG g,.i n] [] (Is (qf (jz g s (9,n)))):=by have b:=hs.p.gX;have a:=hg.gX;have e:=F4 a.1 U;have d:=acg (r:=s.p.gX) (n:=n) b.1 U c.1 U;refine Yg Mt ?_;simp[Mt,gG.cells];refine gi ?_;refine ji.c rfl rfl (f241 s (decide (bits BinOp.and IntKind.i64 (nu IntKind.i64 s.p.gX n) 1=1))) (by simp[gG.cells]) gf ?_;simp[jz,d]
def f208(g:gv)(hg:gZ g)(s:gG)(hs:kU g s)(n:Int)(d:0<=n/\n<g.gX):Wf T 309 [.agg s.cells,dG g,.i n] [] (Is (qf (jz g s (10,n)))):=by have c:=hs.p.gX;have b:=hg.gX;have e:=F4 b.1 U;have a:=ach (r:=s.p.gX) (n:=n) c.1 U d.1 U;refine Yg Mu ?_;simp[Mu,gG.cells,a];refine iU a ?_;rfl
def f205(g:gv)(hg:gZ g)(s:gG)(hs:kU g s)(n:Int):Wf T 306 [.agg s.cells,dG g,.i n] [] (Is (qf (jz g s (7,n)))):=by
 have i:=hs.p.size;have a:=hs.cur;have b:=hs.p.small hg;have c:=hg.ki.size;have k:=hg.kinds;have f:=hs.p.h0.len;have d:=hs.p.h1.len;have j:=hg.ki.to s.p.side n s.cur;have e:jz g s (7,n)=vE g s n:=by simp[jz]
 rw[e];refine Yg Mr ?_;simp[Mr,gG.cells];refine Yc (f240 g hg.ki s.p.side n s.cur) ?_;simp;(with_reducible repeat' first|refine Xk ?_<;>try simp|refine Xs ?_ ?_<;>intro h<;>(try intro m)<;>(try simp[h])<;>try omega|refine Xg ?_|omega)
 .rw[vE,if_pos oh];rfl
 .rw[vE,if_pos oh];rfl
 .have q0:=jg (l:=s.p.cs) (n:=mX g s.p.side n s.cur) (v:=gt s.p.cs s.cur) U U;have q1:=jg (l:=pt s.p.cs (mX g s.p.side n s.cur) (gt s.p.cs s.cur)) (n:=s.cur) (v:=0) a.1 U;refine Yn (f91 s b U) ?_;simp;refine jT q0 q1 ?_;simp[vE, *];rfl
 .rw[vE,if_pos oh];rfl
def f204(g:gv)(hg:gZ g)(s:gG)(hs:kU g s)(n:Int):Wf T 305 [.agg s.cells,dG g,.i n] [] (Is (qf (jz g s (6,n)))):=by
 have u:=hs.p.size;have c:=hs.cur;have d:=hs.p.small hg;have o:=hg.ki.size;have f:=hg.kinds;have r:=hs.p.h0.len;have q:=hs.p.h1.len;have i:=hs.p.cs _ (gF c.1 U);have t:=hs.p.side;have e:jz g s (6,n)=uN g s:=by simp[jz]
 rw[e];refine Yz GO (jm 52 [2,3,4] GO.body) ?_;simp[GO,jm,kS,nR,nU,oo,mm,gG.cells];refine gE.c rfl rfl (f243 s U d) (by simp[gG.cells]) gf ?_;simp
 by_cases a:kE (gt s.p.cs s.cur)=1-s.p.side
 .have x:0<=gV (gt s.p.cs s.cur):=by
   unfold kE at a;unfold gV;split at a<;>rename_i k
   .rw[if_pos k];omega
   .omega
  have w:gV (gt s.p.cs s.cur)<g.kinds.l:=zN i.2 f.1;have m:s.p.side=0\/s.p.side=1:=U;have q0:=jg (l:=s.p.cs) (n:=s.cur) (v:=0) c.1 U;simp[a];refine gi ?_;refine Yn (f91 s d U) ?_;simp;refine G6 q0 ?_ ?_<;>intro h
  .have b:=h;rcases m with e|e
   .have j:=hs.p.h0.at_ _ U (U:gV (gt s.p.cs s.cur)<s.p.h0.l);have q1:=ES (l:=s.p.h0) (n:=gV (gt s.p.cs s.cur)) (v:=gt s.p.h0 (gV (gt s.p.cs s.cur))+1) U U;have q2:=jg (l:=s.p.h0) (n:=gV (gt s.p.cs s.cur)) (v:=gt s.p.h0 (gV (gt s.p.cs s.cur))+1) U U;simp[e,q0,q1,q2];refine kG q0 q1 q2 ?_;refine ji.c rfl rfl (f241 { p:={ s.p with cs:=pt s.p.cs s.cur 0,h0:=pt s.p.h0 (gV (gt s.p.cs s.cur)) (gt s.p.h0 (gV (gt s.p.cs s.cur))+1),side:=0 },kind:=s.kind,cur:=s.cur,kn:=b4 } (decide (gt s.p.h0 (gV (gt s.p.cs s.cur))+1<=8))) (by simp[gG.cells]) gf ?_;simp[uN,a,b,Pos.hand,Pos.oe,e];done
   .have j:=hs.p.h1.at_ _ U (U:gV (gt s.p.cs s.cur)<s.p.h1.l);have q1:=ES (l:=s.p.h1) (n:=gV (gt s.p.cs s.cur)) (v:=gt s.p.h1 (gV (gt s.p.cs s.cur))+1) U U;have q2:=jg (l:=s.p.h1) (n:=gV (gt s.p.cs s.cur)) (v:=gt s.p.h1 (gV (gt s.p.cs s.cur))+1) U U;simp[e,q0,q1,q2];refine kG q0 q1 q2 ?_;refine ji.c rfl rfl (f241 { p:={ s.p with cs:=pt s.p.cs s.cur 0,h1:=pt s.p.h1 (gV (gt s.p.cs s.cur)) (gt s.p.h1 (gV (gt s.p.cs s.cur))+1),side:=1 },kind:=s.kind,cur:=s.cur,kn:=b4 } (decide (gt s.p.h1 (gV (gt s.p.cs s.cur))+1<=8))) (by simp[gG.cells]) gf ?_;simp[uN,a,b,Pos.hand,Pos.oe,e];done
  .simp[uN,a,h,q0];rfl
 .simp[a];refine gi ?_;rw[uN,if_pos a];rfl
def f259(g:gv)(s d c:Int):Wf T 331 [g.ki,.i s,.i d,.i c] [] (Is (.fn (.func 335) [] [.gH [.i g.size,.sl 1 (g.next.map fI),dI g.jS],.gH [.i s],.gH [.i d],.gH [.i c]])):=by refine Yg ML ?_;simp[ML]
def f266(l:List Int)(n:Int)(hl:l.l<2 ^ 40):Wf T 336 [dI l,.i n] [] (Ey (λr:Int=>.i r) λr=>0<=r↔n∈l):=by
 refine Yg Ei ?_;simp[Ei];refine gx.e (0:Int) (λy=>[(0,dI l),(1,.i n),(7,.i l.l),(8,.i y)]) (λy=>[]) (λy=>0<=y/\y<=l.l/\n ∉ l.take y.n) (λy=>(l.l-y).n) ?_ ?_
 .simp
 rintro i ⟨i0,b,a⟩
 by_cases hi:i<l.l
 .simp[hi];refine kz ?_ ?_<;>intro h
  .exact Ey.i i rfl rfl ⟨λ_=>by have:=gF i0 hi;simp_all,λ_=>i0⟩
  .refine LJ.e (i+1) ?_;refine ic ?_;rw[jI i0 hi];simp[a];omega
 .simp[hi];rw[lW U]at a;exact Ey.i (-1) rfl rfl ⟨λh=>U,λh=>absurd h a⟩
def f260(l:List Int)(n:Int)(hl:l.l<2 ^ 40):Wf T 332 [dI l,.i n] [] (Is (.b (decide (n∈l)))):=by refine Yg Eh ?_;simp[Eh];refine Yq (f266 l n hl) λr a=>?_;simp;simp[a]
def agu(n:Int):Wf T 336 [.gp,.i n] [] (Is (.i (-1))):=by refine Yg Ei ?_;simp[Ei];refine gx.un ?_;refine lG.u ?_;simp
def agt(n:Int):Wf T 332 [.gp,.i n] [] (Is (.b cp)):=by refine Yg Eh ?_;simp[Eh];refine Yc (agu n) ?_;simp
def f265(g:gv)(hg:pL g)(s d c:Int):Wf T 335 [.jt 4,.gH [.i g.size,.sl 1 (g.next.map fI),dI g.jS],.gH [.i s],.gH [.i d],.gH [.i c]]
  [.row 39 0 [.i g.size,.sl 1 (g.next.map fI),dI g.jS],.row 3 0 [.i c],.row 37 0 [.gp],.ka,.iE 20736 [(7,.ptr 1 0 0),(9,.ptr 2 0 0)] .ready]
  (λ_ H'=>∃st,(st = .ready\/st = .AJ 0)/\H' = [.row 39 0 [.i g.size,.sl 1 (g.next.map fI),dI g.jS],.row 3 0 [.i c],.row 37 0 [if mb g s d c = []then .gp else .gh 5 ((mb g s d c).l-1) 1 0 (mb g s d c).l],.ka,.iE 20736 [(7,.ptr 1 0 0),(9,.ptr 2 0 0)] st]++(if mb g s d c = []then []else [.row 3 ((mb g s d c).l-1) (cl f1 (mb g s d c))])):=by
 have r:=hg.size;refine Yg MO ?_;simp[MO];refine Yr (f240 g hg s d c) ?_;simp;refine gx.e ((0,mX g s d c,[]):Nat×Int×List Int) (λx=>[(0,.jt 4),(1,.gH [.i g.size,.sl 1 (g.next.map fI),dI g.jS]),(2,.gH [.i s]),(3,.gH [.i d]),(6,.i x.2.1)]) (λx=>[.row 39 0 [.i g.size,.sl 1 (g.next.map fI),dI g.jS],.row 3 0 [.i c],.row 37 0 [if x.2.2 = []then .gp else .gh 5 (x.2.2.l-1) 1 0 x.2.2.l],.ka,.iE 20736 [(7,.ptr 1 0 0),(9,.ptr 2 0 0)] .ready]++(if x.2.2 = []then []else [.row 3 (x.2.2.l-1) (cl f1 x.2.2)])) (λx=>x.1=x.2.2.l/\x.2.1<g.size/\x.2.2.Nodup/\(∀y∈x.2.2,0<=y/\y<g.size)/\mb g s d c=vq g s d c (10-x.1) x.2.1 x.2.2) (λx=>10-x.1) ?_ ?_
 .have:=hg.to s d c;simp[mb];omega
 rintro⟨m,x,out⟩ ⟨h0,h1,o,n,l⟩;dsimp only at h0 h1 o n l ⊢;have q:out.l<=9:=zQ 9 out o (λy k=>by have:=n y k;omega);have e:=l;rw[(U:10-m=(9-m)+1),vq]at e;have j:=hg.to s d x
 by_cases i:out = []
 .subst i
  by_cases b:0<=x
  .simp[b];refine sD.r (rf:=20736) (env0:=[(7,.ptr 1 0 0),(9,.ptr 2 0 0)]) (Rd:=x4) gf rfl rfl x4.a x4.b (pK rfl) (pK rfl) ?_;simp[x4]
   by_cases a:x=c
   .have f:mb g s d c = []:=by rw[e,if_neg (λh=>h.2.1 a)]
    simp[a,f]
   .have p:mb g s d c=vq g s d c (9-m) (mX g s d x) [x]:=by rw[e,if_pos ⟨b,a,gf⟩];rfl
    simp[a];refine Yc (agt x) ?_;simp;refine gi ?_;refine Yr (f240 g hg s d x) ?_;simp;refine LJ.i (m+1,mX g s d x,[x]) (by first|rfl|simp[iY]) (by first|rfl|simp[iY]) rfl rfl ?_;dsimp only;refine⟨by simp at h0;omega,by simp at h0;simp;omega,j.2,gf,gO,?_⟩;rw[p];congr 1;omega
  .have f:mb g s d c = []:=by rw[e,if_neg (λh=>b h.1)]
   simp[b,f]
 .simp only[if_neg i,cy,bI]
  by_cases b:0<=x
  .simp[b];refine sD.r (rf:=20736) (env0:=[(7,.ptr 1 0 0),(9,.ptr 2 0 0)]) (Rd:=x4) gf rfl rfl x4.a x4.b (pK rfl) (pK rfl) ?_;simp[x4]
   by_cases a:x=c
   .have f:mb g s d c=out:=by rw[e,if_neg (λh=>h.2.1 a)]
    simp[a,f,i]
   .simp[a];refine Yr (f260 out x U) ?_;simp;refine X2.z a ?_;simp
    by_cases gQ:x∈out
    .have f:mb g s d c=out:=by rw[e,if_neg (λh=>h.2.2 gQ)]
     simp[gQ,f,i]
    .have p:mb g s d c=vq g s d c (9-m) (mX g s d x) (out ++ [x]):=by rw[e,if_pos ⟨b,a,gQ⟩]
     have hl:0<out.l:=ao.2 i;simp[gQ];refine gi ?_;refine Yr (f240 g hg s d x) ?_;simp;refine LJ.i (m+1,mX g s d x,out ++ [x]) (by first|rfl|simp[(U:out.l-1+1=out.l)]) (by first|rfl|simp[(U:out.l-1+1=out.l)]) rfl rfl ?_;dsimp only;refine⟨U,gO,j.2,?_,λy k=>?_,?_⟩
     .grind
     .grind
     .grind
  .have f:mb g s d c=out:=by rw[e,if_neg (λh=>b h.1)]
   simp[b,f,i]
def f242(g:gv)(hg:pL g)(s d c:Int):Wf T 324 [g.ki,.i s,.i d,.i c] [] (Is (dN 1 f1 (mb g s d c))):=by
 refine Yg MC ?_;simp[MC];refine Yc (f259 g s d c) ?_;simp;refine uP.r (f:=335) (first:=[]) (cap:=[.gH [.i g.size,.sl 1 (g.next.map fI),dI g.jS],.gH [.i s],.gH [.i d],.gH [.i c]]) rfl rfl rfl rfl ?_;simp;refine Wf.mono (f265 g hg s d c) ?_;rintro _ H' ⟨st,b,rfl⟩;refine⟨[(7,.ptr 1 0 0),(9,.ptr 2 0 0)],st,gf,?_⟩
 by_cases h:mb g s d c = []
 .rcases b with rfl|rfl
  .simp[h];rfl
  .simp[h];rfl
 .have e:dI (mb g s d c)=dN 1 f1 (mb g s d c):=by
   revert h
   cases mb g s d c with
   | nil=>intro h;exact absurd rfl h
   | cons a r=>intro _;rfl
  rcases b with rfl|rfl
  .simp[h,e]
  .simp[h,e]
@[simp] theorem auH(l:List Int):closed (dN 1 f1 l)=true:=Cg (λa=>by simp[gN]) l
theorem Rq{l:List gG}(h:l≠[]):lr l=qf l:=by
 cases l with
 | nil=>exact absurd rfl h
 | cons a r=>rfl
def f200(g:gv)(hg:gZ g)(s:gG)(hs:kU g s)(n:Int):Wf T 301 [.agg s.cells,dG g,.i n] [] (Is (qf (jz g s (2,n)))):=by
 have m:=hs.p.size;have k:=hg.ki.size;have e:jz g s (2,n)=sf s (mb g s.p.side n s.cur):=by simp[jz]
 have gQ:∀y∈mb g s.p.side n s.cur,0<=y/\y<g.size:=λy j=>TX hg.ki j;have d:(mb g s.p.side n s.cur).l<=10:=TY;rw[e];refine Yg Mn ?_;simp[Mn,gG.cells];refine Yc (f242 g hg.ki s.p.side n s.cur) ?_;simp;generalize mb g s.p.side n s.cur=l at *;refine gx.e ((0,[]):Int×List gG) (λy=>[(3,.ptr 0 0 0),(7,if y.1=0 then .gp else .gh 2 (y.2.l-1) 8 0 y.2.l),(19,dN 1 f1 l),(20,.i l.l),(21,.i y.1)]) (λy=>.row 330 0 s.cells :: .row 43 0 g.cells::(if y.1=0 then []else [.row 330 (y.2.l-1) (cl gG.cells y.2)])) (λy=>0<=y.1/\y.1<=l.l/\y.2.l=y.1.n/\sf s l=y.2++sf s (l.drop y.1.n)) (λy=>(l.l-y.1).n) ?_ ?_
 .simp
 rintro⟨i,st⟩ ⟨i0,f,c,a⟩;dsimp only at i0 f c a ⊢
 by_cases hi:i<l.l
 .have o:=gQ _ (gF i0 hi);rw[o7 i0 hi,sf]at a
  by_cases b:i=0
  .have:st = []:=aC.1 U;subst b;subst this;simp[hi,gG.cells];(with_reducible repeat' first|refine Xk ?_<;>try simp|refine Xs ?_ ?_<;>intro h<;>(try intro p)<;>(try simp[h])<;>try omega|refine Xg ?_|omega)
   .refine LJ.i (1,[{ s with cur:=gt l 0 }]) (by first|rfl|simp[iY,gG.cells]) (by first|rfl|simp[iY,gG.cells]) rfl rfl ?_;refine ic ⟨rfl,?_⟩;rw[a,if_pos h];rfl
   .rw[a,if_neg h];rfl
  .have hl:0<st.l:=by omega
   rw[if_neg b,if_neg b];simp[hi,gG.cells];refine kz ?_ ?_<;>intro h
   .refine LJ.i (i+1,st ++ [{ s with cur:=gt l i }]) (by first|rfl|simp[(U:¬(i+1=0)),(U:st.l-1+1=st.l),gG.cells]) (by first|rfl|simp[(U:¬(i+1=0)),(U:st.l-1+1=st.l),gG.cells]) rfl rfl ?_;refine⟨gI,gI,gI,gO,?_⟩;rw[a,if_pos h,(U:(i+1).n=i.n+1)];simp
   .rw[a,if_neg h,<-Rq gf];simp[lr,gG.cells]
 .rw[bV U,sf,aD]at a
  by_cases b:i=0
  .have:st = []:=aC.1 U;subst b;subst this;simp[(U:¬ 0<l.l),gG.cells];rw[a];rfl
  .rw[if_neg b,if_neg b];simp[hi,gG.cells];rw[a,Rq (by intro h;rw[h]at c;simp at c;omega)]
def f164(g:gv)(hg:gZ g)(s:gG)(hs:kU g s)(x:gj)(b:G5 g x):Wf T 286 [dG g,.agg s.cells,.agg [.i x.1,.i x.2]] [] (Is (qf (jz g s x))):=by
 obtain⟨k,n⟩:=x;have a:=b.ok;dsimp only at a ⊢;rcases(U:k=1\/k=2\/k=3\/k=4\/k=5\/k=6\/k=7\/k=8\/k=9\/k=10)with rfl|rfl|rfl|rfl|rfl|rfl|rfl|rfl|rfl|rfl
 all_goals
  refine Yg L5 ?_;simp[L5,gG.cells]
 .refine ji.c rfl rfl (f199 g hg s hs n) gf gf ?_;simp
 .refine ji.c rfl rfl (f200 g hg s hs n) gf gf ?_;simp
 .refine ji.c rfl rfl (f201 g hg s hs n) gf gf ?_;simp
 .refine ji.c rfl rfl (f202 g hg s hs n) gf gf ?_;simp
 .refine ji.c rfl rfl (f203 g hg s hs n) gf gf ?_;simp
 .refine ji.c rfl rfl (f204 g hg s hs n) gf gf ?_;simp
 .refine ji.c rfl rfl (f205 g hg s hs n) gf gf ?_;simp
 .refine ji.c rfl rfl (f206 g s n) gf gf ?_;simp
 .refine ji.c rfl rfl (f207 g hg s hs n U) gf gf ?_;simp
 .refine ji.c rfl rfl (f208 g hg s hs n U) gf gf ?_;simp
@[simp] theorem asO(t sz bytes:Nat)(z:List D)(m:Int)(a:Nat):Ny t sz bytes z .gp (.val (.int .i64 m)) a=if 0<m/\sM (m*bytes) 140737488355328/\sM m 9223372036854775807 then cj (.gh a 0 sz 0 m.n,.new (.row t 0 (bb m.n z).flatten))else none:=rfl
theorem f191(n:Int)(a:0<n/\n<1000):Wf T 212 [.gp,.i n] [] (λd H=>d = .gh 0 0 1 0 0/\H = [.row 3 0 (cl f1 (bb n.n 0))]):=by refine Yg Mh ?_;simp[Mh];exact nb
@[irreducible] def fl(l:List (List Int)):List Int:=l.flatten
theorem AQ(l:List (List Int)):fl l=l.flatten:=by unfold fl;rfl
@[simp] theorem avs:fl [] = []:=by simp[AQ]
theorem Yw{l:List (List Int)}{i:Int}(h0:0<=i)(h:i<l.l):fl (l.take (i+1).n)=fl (l.take i.n)++gt l i:=by rw[jI h0 h];simp[AQ]
def Yu(l:List (List Int))(n:Nat):(fl (l.take n)).l<=(fl l).l:=by
 simp only[AQ]
 conv=>rhs;rw[<-bZ n l]
 simp only[eU,ar];omega
def f148(l:List (List Int))(hl:l.l<=10)(m:0<(fl l).l/\(fl l).l<1000):Wf T 147 [.sl 1 (l.map fI)] [] (λd H=>d = .gh 0 l.l 1 0 (fl l).l/\H = [.row 3 l.l (cl f1 (fl l))]):=by
 have n:0<l.l:=by
  cases l with
  | nil=>simp at m
  | cons a r=>simp
 refine Yg LX ?_;simp[LX];refine gx.e (0:Int) (λi=>[(0,.sl 1 (l.map fI)),(3,.i (fl (l.take i.n)).l),(9,.sl 1 (l.map fI)),(10,.i l.l),(11,.i i)]) (λi=>[]) (λi=>0<=i/\i<=l.l) (λi=>(l.l-i).n) ?_ ?_
 .simp
 rintro i ⟨i0,o⟩
 by_cases hi:i<l.l
 .have h1:=Yw i0 hi;have c:=Yu l (i+1).n;rw[h1,ar]at c;simp[hi];(with_reducible repeat' first|refine Xk ?_<;>try simp|refine Xs ?_ ?_<;>intro h<;>(try intro p)<;>(try simp[h])<;>try omega|refine Xg ?_|omega);refine LJ.i (i+1) (by first|rfl|simp[h1]) (by first|rfl|simp[h1]) rfl rfl ?_;exact mw
 .have f:(l.take i.n)=l:=lW U;simp[hi,f];refine Yn (f191 (fl l).l U) ?_;simp;refine gx.e (0:Int) (λj=>[(6,.gh 0 j.n 1 0 (fl (l.take j.n)).l),(25,.sl 1 (l.map fI)),(26,.i l.l),(27,.i j)]) (λj=>[.row 3 j.n (if j=0 then cl f1 (bb (fl l).l 0)else cl f1 (fl (l.take j.n)))]) (λj=>0<=j/\j<=l.l) (λj=>(l.l-j).n) ?_ ?_
  .simp
  rintro j ⟨j0,j1⟩
  by_cases b:j<l.l
  .have h1:=Yw j0 b;have c:=Yu l (j+1).n;rw[h1,ar]at c
   by_cases g:j=0
   .subst g;simp at h1 c;simp[b];refine gi ?_;refine LJ.i (1) (by first|rfl|simp[h1]) (by first|rfl|simp[h1]) rfl rfl ?_;exact mw
   .rw[if_neg g];simp[b];refine gi ?_;have e:(j+1).n=j.n+1:=U;rw[e]at h1;refine LJ.i (j+1) (by first|rfl|simp[h1,e,(U:¬(j+1=0))]) (by first|rfl|simp[h1,e,(U:¬(j+1=0))]) rfl rfl ?_;exact mw
  .have f:(l.take j.n)=l:=lW U;have k:j.n=l.l:=U;rw[if_neg U];simp[b,f,k]
@[irreducible] def pk(p:Pos):List Int:=fl [p.cs,p.h0,p.h1,[p.gX,p.side]]
theorem Dq(p:Pos):pk p=fl [p.cs,p.h0,p.h1,[p.gX,p.side]]:=by unfold pk;rfl
def pG(p:Pos):ByteArray:=((pk p).map λn=>IntKind.u8.wrap n).foldl (λr n=>r.push (aE n.n)) ByteArray.empty
@[simp] theorem aec(l:List Int)(n:Int):cl fU l ++ [.val (.int .u8 n)]=cl fU (l ++ [n]):=by rw[<-rK,AO]
@[simp] theorem adU:∀l:List Int,bytesOf (cl fU l)=cj l
 | []=>by simp[bytesOf]
 | a::r=>by rw[nS,AO,fM,bytesOf,adU r]
def f101(p:Pos)(h:0<p.cs.l)(hl:(pk p).l<1000):Wf T 93 [dP p] [] (Is (.val (.string (pG p)))):=by
 have f:0<(pk p).l:=by simp[Dq,AQ];omega
 have d:=f148 [p.cs,p.h0,p.h1,[p.gX,p.side]] gf (by rw[<-Dq];exact⟨f,hl⟩);rw[<-Dq]at d;refine Yg Km ?_;simp[Km];refine gE.nr rfl rfl d (by simp[oj,chunks];unfold dI;simp only[bs,List.map_nil,EN]) gf gf ?_;simp;refine gx.e (0:Int) (λy=>[(3,if y=0 then .gp else .gh 4 (y.n-1) 1 0 y.n),(20,.gh 3 4 1 0 (pk p).l),(21,.i (pk p).l),(22,.i y)]) (λy=>[.row 46 0 p.cells,.row 3 0 [.i p.gX,.i p.side],.row 37 0 [dI p.cs,dI p.h0,dI p.h1,.gh 1 0 1 0 2],.row 3 4 (cl f1 (pk p))]++(if y=0 then []else [.row 5 (y.n-1) (cl fU (((pk p).take y.n).map λn=>IntKind.u8.wrap n))])) (λy=>0<=y/\y<=(pk p).l) (λy=>((pk p).l-y).n) ?_ ?_
 .simp
 rintro i ⟨i0,k⟩
 by_cases hi:i<(pk p).l
 .have a:(dr (i.n+1) (pk p)).map (λn=>IntKind.u8.wrap n)=(dr i.n (pk p)).map (λn=>IntKind.u8.wrap n) ++ [IntKind.u8.wrap (gt (pk p) i)]:=by rw[<-(U:(i+1).n=i.n+1),jI i0 hi];simp
  have b:(i+1).n=i.n+1:=U
  by_cases c:i=0
  .rw[if_pos c,if_pos c];have g:i.n=0:=U;rw[g]at a b;simp at a;simp[hi];refine gi ?_;refine LJ.i (i+1) (by first|rfl|simp[(U:¬(i+1=0)),b,a,iY]) (by first|rfl|simp[(U:¬(i+1=0)),b,a,iY]) rfl rfl ?_;exact mw
  .rw[if_neg c,if_neg c];simp[hi];refine gi ?_;have e:i.n-1+1=i.n:=U;simp at a;refine LJ.i (i+1) (by first|rfl|simp[(U:¬(i+1=0)),b,a,e,ej]) (by first|rfl|simp[(U:¬(i+1=0)),b,a,e,ej]) rfl rfl ?_;exact mw
 .rw[if_neg U,if_neg U];have j:i.n=(pk p).l:=U;simp[hi,Ez,j];rfl
set_option maxRecDepth 100000
def HO(n:Int):ByteArray:=⟨#[aE (48+n.n)]⟩
def f209(n:Int)(a:0<=n/\n<=9):Wf T 310 [.i n] [] (Is (.val (.string (HO n)))):=by
 rcases(U:n=0\/n=1\/n=2\/n=3\/n=4\/n=5\/n=6\/n=7\/n=8\/n=9)with rfl|rfl|rfl|rfl|rfl|rfl|rfl|rfl|rfl|rfl
 all_goals exact p7 (k:=100) gw
def Ay(b:Bool):ByteArray:=if b then⟨#[116,114,117,101]⟩else⟨#[102,97,108,115,101]⟩
def f210(b:Bool):Wf T 311 [.b b] [] (Is (.val (.string (Ay b)))):=by
 cases b
 .exact p7 (k:=100) gw
 .exact p7 (k:=100) gw
@[simp] theorem aAQ(a b:ByteArray):Gn .add a b=if sM ((a.size+b.size:Nat):Int) 9223372036854775807 then cj (.val (.string (a++b)))else none:=rfl
theorem foldl_push(l:List Int):∀r:ByteArray,(l.foldl (λr n=>r.push (aE n.n)) r).data.toList=r.data.toList++l.map λn=>aE n.n:=by
 induction l with
 | nil=>intro r;simp
 | cons a l b=>intro r;rw[cD,b];simp[ByteArray.push]
def aaB(p:Pos):(pG p).data.toList=(pk p).map λn=>aE (IntKind.u8.wrap n).n:=by unfold pG;rw[foldl_push];simp[ByteArray.empty,ByteArray.emptyWithCapacity];rfl
@[simp] theorem awH(p:Pos):(pG p).size=(pk p).l:=by show(pG p).data.size=_;rw[<-du,aaB,List.length_map]
@[simp] theorem aAk(a:Array UInt8):ByteArray.size ⟨a⟩=a.size:=rfl
@[simp] theorem au6(n:Int):(HO n).size=1:=rfl
@[simp] theorem adO(b:Bool):(Ay b).size<=5:=by cases b<;>decide
def pW(s:gG):ByteArray:=HO s.kind++⟨#[32]⟩++HO s.cur++⟨#[32]⟩++Ay s.kn++⟨#[32]⟩++pG s.p
def f165(s:gG)(h1:0<=s.kind/\s.kind<=9)(a:0<=s.cur/\s.cur<=9)(h:0<s.p.cs.l)(hl:(pk s.p).l<1000):Wf T 287 [.agg s.cells] [] (Is (.val (.string (pW s)))):=by have b:=adO s.kn;refine Yg L6 ?_;simp[L6,gG.cells];refine Yt (f209 s.kind h1) ?_;simp;refine gi ?_;refine Yt (f209 s.cur a) ?_;simp;refine gi ?_;refine Yt (f210 s.kn) ?_;simp;refine gi ?_;refine Yt (f101 s.p h hl) ?_;simp;refine gi ?_;rfl
def ofNat_inj{m n:Nat}(b:m<256)(a:n<256)(h:aE m=aE n):m=n:=by have:=congrArg UInt8.toNat h;simp only[UInt8.toNat_ofNat']at this;omega
def ac8{n:Int}(h:0<=n/\n<256):IntKind.u8.wrap n=n:=by simp only[IntKind.wrap,IntKind.bits,IntKind.signed];simp;omega
theorem abe:∀ {a b:List Int},(∀n∈a,0<=n/\n<256)->(∀n∈b,0<=n/\n<256)->(a.map λn=>aE (IntKind.u8.wrap n).n)=(b.map λn=>aE (IntKind.u8.wrap n).n)->a=b
 | [],[],_,_,_=>rfl
 | [],_::_,_,_,h=>by simp at h
 | _::_,[],_,_,h=>by simp at h
 | x::a,y::b,ha,hb,h=>by simp only[bs,dj]at h;have f:=ha x gf;have d:=hb y gf;rw[ac8 f,ac8 d]at h;have e:=ofNat_inj U U h.1;rw[abe (λn c=>ha n (by simp[c])) (λn c=>hb n (by simp[c])) h.2,(U:x=y)]
def TQ{g:gv}(hg:gZ g){p:Pos}(b:iI g p):∀n∈pk p,0<=n/\n<256:=by
 have e:=hg.kinds;have d:=hg.gX;have f:=F4 d.1 U
 have c:∀ {l:List Int},tE g l->∀n∈l,0<=n/\n<256:=λ{l} h n a=>by obtain⟨i,h0,h1,rfl⟩:=xJ.1 a;have:=h.at_ i h0 h1;omega
 intro n a;rw[Dq,AQ]at a;simp only[a8,eH,aj,ay,eG,or_false]at a;have j:=b.gX;have k:=b.side;rcases a with a|a|a|rfl|rfl
 .have:=b.cs n a;omega
 .exact c b.h0 n a
 .exact c b.h1 n a
 .omega
 .omega
def ain{g:gv}{p q:Pos}(b:iI g p)(a:iI g q)(h:pk p=pk q):p=q:=by rw[Dq,Dq,AQ,AQ]at h;simp only[a8,eH,aD]at h;have k:=b.size;have j:=a.size;have i:=b.h0.len;have b2:=a.h0.len;have f:=b.h1.len;have c2:=a.h1.len;obtain⟨e,h⟩:=fH h U;obtain⟨d,h⟩:=fH h U;obtain⟨c,h⟩:=fH h U;simp only[dj,and_true]at h;cases p;cases q;simp_all
def aaA{g:gv}(hg:gZ g){p q:Pos}(c:iI g p)(a:iI g q)(h:pG p=pG q):p=q:=by have d:=congrArg (λb:ByteArray=>b.data.toList) h;simp only[aaB]at d;exact ain c a (abe (TQ hg c) (TQ hg a) d)
def aio(s:gG):(pW s).data.toList=aE (48+s.kind.n)::32::aE (48+s.cur.n)::32::((Ay s.kn).data.toList++32::(pG s.p).data.toList):=by unfold pW HO;simp
def aaF{g:gv}(hg:gZ g){s t:gG}(hs:kU g s)(e:kU g t)(h:pW s=pW t):s=t:=by
 have i:=congrArg (λb:ByteArray=>b.data.toList) h;simp only[aio,dj,true_and]at i;obtain⟨r,q,d⟩:=i;have w:=hg.kinds;have x:=hg.ki.size;have k1:=hs.kind;have k2:=e.kind;have v:=hs.cur;have u:=e.cur;have f1:=ofNat_inj U U r;have f2:=ofNat_inj U U q;obtain⟨p,k,c,b⟩:=s;obtain⟨a,l,c',j⟩:=t;dsimp only at *
 have f:b=j/\pG p=pG a:=by
  cases b<;>cases j
  .simp[Ay]at d;exact⟨rfl,by cases n:pG p;cases m:pG a;simp_all [fD]⟩
  .simp[Ay]at d
  .simp[Ay]at d
  .simp[Ay]at d;exact⟨rfl,by cases n:pG p;cases m:pG a;simp_all [fD]⟩
 have o:p=a:=aaA hg hs.p e.p f.2;rw[f.1,o,(U:k=l),(U:c=c')]
def Pv(a b:ByteArray):oY (.string a) (.string b)=decide (a=b):=by obtain⟨a⟩:=a;obtain⟨b⟩:=b;show(a == b)=_;rw[di,beq_iff_eq,decide_eq_true_iff,ByteArray.mk.injEq]
theorem Ub{g:gv}(hg:gZ g){t:gG}(b:kU g t):∀ {l:List gG},(∀s∈l,kU g s)->sP (l.map λs=>((.string (pW s):Value),D.b b4)) (.string (pW t))=if t∈l then cj (.b b4)else none
 | [],_=>by simp[sP]
 | a::l,h=>by
  rw[bs,sP,Pv,Ub hg b λs hs=>h s (by simp[hs])]
  by_cases e:t=a
  .subst e;simp
  .have:¬pW t=pW a:=λk=>e (aaF hg b (h a gf) k);simp[this,e]
theorem Uh{g:gv}(hg:gZ g){t:gG}(b:kU g t):∀ {l:List gG},(∀s∈l,kU g s)->t ∉ l->np (l.map λs=>((.string (pW s):Value),D.b b4)) (.string (pW t)) (.b b4)=(l ++ [t]).map λs=>((.string (pW s):Value),D.b b4)
 | [],_,_=>by simp[np]
 | a::l,h,hn=>by simp only[ay,not_or]at hn;have:¬pW t=pW a:=λk=>hn.1 (aaF hg b (h a gf) k);rw[bs,np,Pv,Uh hg b (λs hs=>h s (by simp[hs])) hn.2];simp[this]
set_option maxRecDepth 10000
set_option maxHeartbeats 8000000
def gE.inl{T:iL}{f:FuncId}{args:List D}{dst:Option Nat}{s:St}{K:St->Prop}(fn:jK)(a:T.fn f=cj fn)(c:fn.full=b4)(hl:args.l<=fn.ntmps)(b:vA fn.body=b4)
  (h:XC T fn.body { env:=vx args,H:=s.H } (AP fn.results fn.own s.H.l λd H'=>K { s with env:=put s.env dst d,H:=H' })):gE T f args dst s K .mk:=.inr ⟨fn,a,c,Wf.x a hl h b⟩
abbrev zo(g:gv)(p:Pos)(st:gG)(outs:D):gg:=[.row 43 0 g.cells,.row 46 0 p.cells,.row 256 0 [outs],.row 43 0 g.cells,.row 46 0 p.cells,.dead,.dead,.dead,.row 330 0 st.cells,.dead]
def age(g:gv)(hg:gZ g)(p:Pos)(e:iI g p)(st t:gG)(a:kU g t):Wf T 260 [.agg t.cells,.agg [.i 0,.i 0],.ptr 1 0 0,.ptr 2 0 0] (zo g p st .gp ++ [.row 330 0 t.cells])
  (λ_ H'=>match pv p.side t with
   | none=>H'=zo g p st .gp ++ [.row 330 0 t.cells]
   | some o=>H'=zo g p st (.gh 11 0 6 0 1) ++ [.row 330 0 t.cells,.row 259 0 (cl ij.cells [o])]):=by
 have m:=a.p.size;have c:=a.cur;have d:=a.p.small hg;have h:=hg.ki.size;have q:=hg.kinds;have j:=a.p.h0.len;have i:=a.p.h1.len;have b:=e.side;have f:=a.p.side;refine Yz ue (jm 37 [13,14,15] ue.body) ?_;simp[ue,jm,kS,nR,nU,oo,mm,zo,gG.cells]
 by_cases h0:gt t.p.cs t.cur=0
 .simp[h0];refine gi ?_;refine Yn (f91 t d U) ?_;simp;refine gi ?_;refine Yt (f92 (k:=t.kind) (s:=p.side) a.kind.1 (by have:=a.kind;omega) b.1 b.2) ?_;simp;refine gi ?_;have q0:=jg (l:=t.p.cs) (n:=t.cur) (v:=1+2*t.kind+p.side) c.1 U;simp[pv,h0,mC,iY,q0]
 .simp[h0,pv];exact nb
def agf(g:gv)(hg:gZ g)(p:Pos)(e:iI g p)(st t:gG)(a:kU g t)(outs:List ij)(u:outs.l<2 ^ 39)(f:0<outs.l):Wf T 260 [.agg t.cells,.agg [.i 0,.i 0],.ptr 1 0 0,.ptr 2 0 0] (zo g p st (.gh 10 (outs.l-1) 6 0 outs.l) ++ [.row 259 (outs.l-1) (cl ij.cells outs),.row 330 0 t.cells])
  (λ_ H'=>match pv p.side t with
   | none=>H'=zo g p st (.gh 10 (outs.l-1) 6 0 outs.l) ++ [.row 259 (outs.l-1) (cl ij.cells outs),.row 330 0 t.cells]
   | some o=>H'=zo g p st (.gh 10 (outs ++ [o]).l.pred 6 0 (outs ++ [o]).l) ++ [.row 259 (outs ++ [o]).l.pred (cl ij.cells (outs ++ [o])),.row 330 0 t.cells]):=by
 have r:=a.p.size;have c:=a.cur;have d:=a.p.small hg;have j:=hg.ki.size;have w:=hg.kinds;have q:=a.p.h0.len;have m:=a.p.h1.len;have b:=e.side;have i:=a.p.side;refine Yz ue (jm 37 [14,15,16] ue.body) ?_;simp[ue,jm,kS,nR,nU,oo,mm,zo,gG.cells]
 by_cases h0:gt t.p.cs t.cur=0
 .simp[h0];refine gi ?_;refine Yn (f91 t d U) ?_;simp;refine gi ?_;refine Yt (f92 (k:=t.kind) (s:=p.side) a.kind.1 (by have:=a.kind;omega) b.1 b.2) ?_;simp;refine gi ?_;have q0:=jg (l:=t.p.cs) (n:=t.cur) (v:=1+2*t.kind+p.side) c.1 U;simp[pv,h0,mC,q0];(with_reducible repeat' first|refine Xk ?_<;>try simp[(U:outs.l-1+1=outs.l)]|refine Xs ?_ ?_<;>intro h<;>(try intro x)<;>(try simp[h,(U:outs.l-1+1=outs.l)])<;>try omega|refine Xg ?_|omega)
 .simp[h0,pv];exact nb
