/- Part 16 of DisputeReferee. -/
import Derived.Test.YtmehofoficaelaaGreatDoorR15
set_option linter.all false
namespace Go.Proofs.YtmehofoficaelaaGreatDoor
open Go Go.AL Classical
set_option maxRecDepth 10000
set_option maxHeartbeats 1000000
@[simp] theorem apO(n:Int)(nx:List (List Int))(tn:List Int):closed (bD n nx tn)=true:=by simp[bD]
theorem f104(w d c:Int)(g:0<=w/\w<256)(i:0<=d/\d<256)(j:0<=c/\c<256):Wf T 159 [.val (.int .u8 w),.val (.int .u8 d),.val (.int .u8 c)] [] (Ey (λx:Int×List (List Int)×List Int=>bD x.1 x.2.1 x.2.2) λx=>nM (A2 x.1 x.2.1 x.2.2)):=by
 have w1:=jd (a:=w) (b:=3) g.1;have h1:=jd (a:=d) (b:=3) i.1;have w2:IntKind.i64.wrap (fX w 3)=fX w 3:=mO ic;have k:IntKind.i64.wrap (fX d 3)=fX d 3:=mO ic;have c2:IntKind.i64.wrap c=c:=mO ic;refine Yg Hr ?_;simp[Hr,w2,k];refine fD ?_;obtain⟨n,nx,tn,hg,e⟩:=f149 (1+fX w 3) (1+fX d 3) (by omega) (by omega);have o:1<=n/\n<=9:=e.size;refine fY.c rfl rfl hg (by simp) (by simp[bD]) ?_;simp[bD,c2];refine jF ?_ ?_<;>intro h
 .rw[c2];have m:=jd (a:=c) (b:=n) j.1;have l:=bJ c (show n≠0 by omega);have p:=bB c (show 0<n by omega);refine Yv (f150 n nx tn e (fX c n) (by omega)) λx f=>?_;simp;simp[bD];exact Ey.i (n,x,tn) rfl rfl f
 .exact Ey.i (n,nx,tn) rfl rfl e
theorem kj.s{T:ia}{n:Nat}{live:List Nat}{a:IR}{s b:St}{K:iE}(hs:s=b)(h:kj T n live a b K .mk):kj T n live a s K .mk:=by subst hs;exact h
theorem fO.s{T:ia}{live:List Nat}{a:IR}{s b:St}{K:iE}(hs:s=b)(h:fO T live a b K .mk):fO T live a s K .mk:=by subst hs;exact h
theorem Ta(l:List Int):cl fU l=l.map λn=>D.val (.int .u8 n):=by
 rw[mY]
 induction l with
 | nil=>rfl
 | cons a r b=>simp[<-b]
@[simp] theorem afd{l:List Int}{k:Nat}{P:D->Prop}:oA (cl fU l)[k]? P .mk=(k<l.length/\P (.val (.int .u8 (gt l k)))):=by
 rw[Ta]
 by_cases h:k<l.length
 .simp[h,gt]
 .simp[h]
@[simp] theorem aot{l:List Int}{k:Nat}(h:k<(cl fU l).length):(cl fU l)[k] = .val (.int .u8 (gt l k)):=by
 have a:k<l.length:=by simpa using h
 simp[Ta,gt,a]
theorem f59(g:fH)(hg:gF g)(l:List Int)(hl:l.length=18)(h:∀n∈l,0<=n/\n<256) :
  Wf T 100 [dG g,.agg (cl fU l)] [] (Ey dP (gT g)):=by
 have hb:=hg.jm.size;have u:=hg.kinds;have M:=hg.gj;have N:=Ro M.1 (by omega);have h5:=Dc M.1 (by omega);have h6:(0:Int)<2 ^ g.gj.toNat:=Int.pow_pos (by decide);have q:∀k:Nat,k<18->0<=gt l k/\gt l k<256:=λk u=>h _ (fZ (by omega) (by omega))
 have s:∀k:Nat,k<18->IntKind.i64.wrap (gt l k)=gt l k:=λk u=>by have:=q k u;exact mO ic
 have L:=s 16 (by omega);have K:=s 17 (by omega);have Q:=q 16 (by omega);have P:=q 17 (by omega);simp at L K Q P;have Y:=jd (a:=gt l 16) (b:=2 ^ g.gj.toNat) Q.1;have m16:=bJ (gt l 16) (show(2:Int) ^ g.gj.toNat≠0 by omega);have Z:=bB (gt l 16) h6;have X:=jd (a:=gt l 17) (b:=2) P.1;have O:IntKind.i64.wrap (fX (gt l 17) 2)=fX (gt l 17) 2:=mO ic;have hR:0<=fX (gt l 16) (2 ^ g.gj.toNat)/\fX (gt l 16) (2 ^ g.gj.toNat)<2 ^ g.gj.toNat:=by omega
 have hS:0<=fX (gt l 17) 2/\fX (gt l 17) 2<=1:=by omega
 refine Yg JG ?_;simp[JG,N,hl,L,O];generalize fX (gt l 16) (2 ^ g.gj.toNat)=R at *;generalize fX (gt l 17) 2=S at *;refine zC N hl L O ?_;refine fO.e ((0,List.replicate g.size.toNat 0):Int×List Int) (λy=>[(2,.ptr 0 0 0),(3,.ptr 1 0 0),(4,.ptr 2 0 0),(5,.ptr 4 0 0),(6,.i y.1)]) (λy=>[.row 43 0 g.cells,.row 30 0 (cl fU l),.row 46 0 [.fJ,.fJ,.fJ,.i 0,.i 0],.row 3 0 (cl f1 y.2),.row 46 0 [.fy 3 0 1 0 g.size.toNat,.fJ,.fJ,.i R,.i S]]) (λy=>0<=y.1/\y.1<=6/\y.2.length=g.size.toNat/\∀x∈y.2,0<=x/\x<=2*g.kinds.length) (λy=>6-y.1.toNat) ?_ ?_
 .simp;exact mE
 rintro⟨i,cs⟩ ⟨i0,p,F,w⟩;dsimp only at i0 p F w ⊢;have c:max i 0=i:=by omega
 by_cases hi:i<6
 .have w1:IntKind.i64.wrap (gt l i)=gt l i:=by have:=s i.toNat (by omega);rwa [bV i0]at this
  have w2:IntKind.i64.wrap (gt l (6+i))=gt l (6+i):=by have:=s (6+i.toNat) (by omega);rwa [show((6+i.toNat:Nat):Int)=6+i by omega]at this
  have t:0<=gt l i:=by have:=q i.toNat (by omega);rw[bV i0]at this;exact this.1
  have U:0<=gt l (6+i):=by have:=q (6+i.toNat) (by omega);rw[show((6+i.toNat:Nat):Int)=6+i by omega]at this;exact this.1
  have E:=jd (a:=gt l i) (b:=g.size+1) t;have e1:=bJ (gt l i) (show g.size+1≠0 by omega);have W:=jd (a:=gt l (6+i)) (b:=g.kinds.length) U;have e2:=bJ (gt l (6+i)) (show(g.kinds.length:Int)≠0 by omega);have e3:=bB (gt l (6+i)) (show(0:Int)<g.kinds.length by omega);have V:=jd (a:=i) (b:=2) i0;simp[hl,c,hi,w1,w2];have J:g.kinds≠[]:=by intro h;simp[h]at u
  obtain⟨A,z⟩:∃A,fX (gt l i) (g.size+1)=A:=⟨_,rfl⟩;obtain⟨B,I⟩:∃B,fX (gt l (6+i)) g.kinds.length=B:=⟨_,rfl⟩;obtain⟨C,H⟩:∃B,fX i 2=B:=⟨_,rfl⟩;rw[z]at E;rw[I]at W;rw[H]at V;simp only[z];(with_reducible repeat' first|refine Xk ?_<;>try simp[hl,c,w1,w2,z,I,H,J]|refine Xs ?_ ?_<;>intro h<;>(try intro D)<;>(try simp[h,hl,c,w1,w2,z,I,H,J])<;>try omega|refine Xg ?_|omega)
  .refine jw J ?_;refine LJ.e (i+1,pt cs A (1+2*B+C)) ?_;dsimp only;have hv:0<=1+2*B+C/\1+2*B+C<=2*g.kinds.length:=by omega
   refine gx ⟨?_,?_⟩
   .have:=iq (l:=cs) (n:=A) (v:=1+2*B+C) (by omega) (by omega);omega
   .intro x G;rcases WU G with rfl|G
    .exact hv
    .exact w x G
  .refine LJ.e (i+1,cs) ?_;exact gx ⟨F,w⟩
 simp[hi]
 have z0:rh g (List.replicate g.kinds.length 0):=⟨by simp,λk u mm=>by
  have e:gt (List.replicate g.kinds.length (0:Int)) k=0:=by
   simp at mm;have:k.toNat<g.kinds.length:=by omega
   simp[gt,this]
  rw[e];omega⟩
 refine fO.un ?_;refine kj.s (by simp;rfl) ?_;refine kj.u ?_;simp;refine fD ?_;refine fO.e ((0,List.replicate g.kinds.length 0):Int×List Int) (λy=>[(2,.ptr 0 0 0),(3,.ptr 1 0 0),(4,.ptr 2 0 0),(5,.ptr 4 0 0),(8,.i 0),(9,.i y.1)]) (λy=>[.row 43 0 g.cells,.row 30 0 (cl fU l),.row 46 0 [.fJ,.fJ,.fJ,.i 0,.i 0],.row 3 0 (cl f1 cs),.row 46 0 [.fy 3 0 1 0 g.size.toNat,.fy 5 0 1 0 g.kinds.length,.fJ,.i R,.i S],.row 3 0 (cl f1 y.2)]) (λy=>0<=y.1/\y.1<=g.kinds.length/\rh g y.2) (λy=>g.kinds.length-y.1.toNat) ?_ ?_
 .simp;exact z0
 rintro⟨i,h0⟩ ⟨i0,p,j⟩;dsimp only at i0 p j ⊢;have c:max i 0=i:=by omega
 have m:=j.len
 by_cases hi:i<g.kinds.length
 .have f:i<2:=by omega
  have w1:IntKind.i64.wrap (gt l (12+i))=gt l (12+i):=by have:=s (12+i.toNat) (by omega);rwa [show((12+i.toNat:Nat):Int)=12+i by omega]at this
  have t:0<=gt l (12+i):=by have:=q (12+i.toNat) (by omega);rw[show((12+i.toNat:Nat):Int)=12+i by omega]at this;exact this.1
  have E:=jd (a:=gt l (12+i)) (b:=3) t
  by_cases d:(gt g.kinds i).keep=true
  .have r:∀v,(pt h0 i v).length=h0.length:=λv=>iq i0 (by omega);have o:i.toNat<g.kinds.length:=by omega
   simp[hl,c,hi,f,d,w1,r,m,o];(with_reducible repeat' first|refine Xk ?_<;>try simp[hl,c,hi,f,d,w1,r,m,o]|refine Xs ?_ ?_<;>intro h<;>(try intro D)<;>(try simp[h,hl,c,hi,f,d,w1,r,m,o])<;>try omega|refine Xg ?_|omega)
   .refine LJ.e (i+1,pt (pt h0 i (fX (gt l (12+i)) 3)) i 8) ?_;refine gx ?_;exact(j.set i0 (by omega) (qy (λ_=>d))).set i0 (by rw[iq i0 (by omega)];omega) (qy (λ_=>d))
   .refine LJ.e (i+1,pt h0 i (fX (gt l (12+i)) 3)) ?_;exact gx (j.set i0 (by omega) (qy (λ_=>d)))
  .simp[hl,c,hi,f,d,w1];(with_reducible repeat' first|refine Xk ?_<;>try simp[hl,c,hi,f,d,w1]|refine Xs ?_ ?_<;>intro h<;>(try intro D)<;>(try simp[h,hl,c,hi,f,d,w1])<;>try omega|refine Xg ?_|omega);refine LJ.e (i+1,h0) ?_;exact gx j
 simp[hi];refine jw hi ?_;clear hi c i0 p m
 rename rh g h0=>W9
 refine kj.s (by simp;rfl) ?_;refine kj.u ?_;simp;refine fD ?_;refine fO.e ((0,List.replicate g.kinds.length 0):Int×List Int) (λy=>[(2,.ptr 0 0 0),(3,.ptr 1 0 0),(4,.ptr 2 0 0),(5,.ptr 4 0 0),(8,.i 1),(9,.i y.1)]) (λy=>[.row 43 0 g.cells,.row 30 0 (cl fU l),.row 46 0 [.fJ,.fJ,.fJ,.i 0,.i 0],.row 3 0 (cl f1 cs),.row 46 0 [.fy 3 0 1 0 g.size.toNat,.fy 5 0 1 0 g.kinds.length,.fy 6 0 1 0 g.kinds.length,.i R,.i S],.row 3 0 (cl f1 h0),.row 3 0 (cl f1 y.2)]) (λy=>0<=y.1/\y.1<=g.kinds.length/\rh g y.2) (λy=>g.kinds.length-y.1.toNat) ?_ ?_
 .simp;exact z0
 rintro⟨i,h1⟩ ⟨i0,p,j⟩;dsimp only at i0 p j ⊢;have c:max (2+i) 0=(2+i):=by omega
 have m:=j.len
 by_cases hi:i<g.kinds.length
 .have f:i<2:=by omega
  have w1:IntKind.i64.wrap (gt l (12+(2+i)))=gt l (12+(2+i)):=by have:=s (12+(2+i).toNat) (by omega);rwa [show((12+(2+i).toNat:Nat):Int)=12+(2+i)by omega]at this
  have t:0<=gt l (12+(2+i)):=by have:=q (12+(2+i).toNat) (by omega);rw[show((12+(2+i).toNat:Nat):Int)=12+(2+i)by omega]at this;exact this.1
  have E:=jd (a:=gt l (12+(2+i))) (b:=3) t
  by_cases d:(gt g.kinds i).keep=true
  .have r:∀v,(pt h1 i v).length=h1.length:=λv=>iq i0 (by omega);have o:i.toNat<g.kinds.length:=by omega
   simp[hl,c,hi,f,d,w1,r,m,o];(with_reducible repeat' first|refine Xk ?_<;>try simp[hl,c,hi,f,d,w1,r,m,o]|refine Xs ?_ ?_<;>intro h<;>(try intro D)<;>(try simp[h,hl,c,hi,f,d,w1,r,m,o])<;>try omega|refine Xg ?_|omega)
   .refine LJ.e (i+1,pt (pt h1 i (fX (gt l (12+(2+i))) 3)) i 8) ?_;refine gx ?_;exact(j.set i0 (by omega) (qy (λ_=>d))).set i0 (by rw[iq i0 (by omega)];omega) (qy (λ_=>d))
   .refine LJ.e (i+1,pt h1 i (fX (gt l (12+(2+i))) 3)) ?_;exact gx (j.set i0 (by omega) (qy (λ_=>d)))
  .simp[hl,c,hi,f,d,w1];(with_reducible repeat' first|refine Xk ?_<;>try simp[hl,c,hi,f,d,w1]|refine Xs ?_ ?_<;>intro h<;>(try intro D)<;>(try simp[h,hl,c,hi,f,d,w1])<;>try omega|refine Xg ?_|omega);refine LJ.e (i+1,h1) ?_;exact gx j
 simp[hi];refine jw hi ?_;clear hi c i0 p m
 rename rh g h1=>Xa
 refine kj.s (by simp;rfl) ?_;refine kj.u ?_;simp;refine fD ?_;exact Ey.i ⟨cs,h0,h1,R,S⟩ (by simp[F,W9.len,Xa.len,dP,Pos.cells]) rfl ⟨by simp only;omega,W9,Xa,hR,hS,w⟩
end Go.Proofs.YtmehofoficaelaaGreatDoor
namespace Go.AL
open Go
@[simp] theorem avs(ρ:Nat->Option Nat)(H:U)(k:Nat)(f:Fn)(a b:List D):fL ρ H (k+1) (.fn f a b) = .fn f (a.map (fL ρ H k)) (b.map (fL ρ H k)):=by
 by_cases h:closed (.fn f a b)=true
 .have c:=h;simp only[Tf,Bool.and_eq_true]at c;rw[pF h,A1 c.1,A1 c.2]
 .rw[fL,if_neg h]
@[simp] theorem avt(ρ:Nat->Option Nat)(H:U)(k:Nat)(cs:List D):fL ρ H (k+1) (.fV cs) = .fV (cs.map (fL ρ H k)):=by
 by_cases h:closed (.fV cs)=true
 .rw[pF h,A1 (by simpa using h)]
 .rw[fL,if_neg h]
theorem NF(l:List Int):cl f1 l=l.map λn=>D.i n:=by
 rw[mY]
 induction l with
 | nil=>rfl
 | cons a r b=>simp[<-b]
theorem aaK{ρ:Nat->Option Nat}{H:U}{k n:Nat}{t:TypeId}{cs:List D}(l:List Int)(h:cs=l.map λn=>D.i n)(a:n=l.length):ml ρ H (k+1) 1 0 n (some (t,cs))=dI l:=by rw[h,<-NF,uq a];rfl
@[simp] theorem awf(a b:ByteArray):Dv .eql a b=some (.b (decide (a=b))):=by
 have:(a.data.toList == b.data.toList)=decide (a=b):=by
  rw[Bool.eq_iff_iff,beq_iff_eq,decide_eq_true_iff];constructor
  .intro h;cases a;cases b;congr 1;exact eZ.1 h
  .rintro rfl;rfl
 show some (D.val (.bool _))=_;rw[this]
@[simp] theorem aoX(t:TypeId)(s:ByteArray)(n:Nat):sB t (.val (.string s)) n=some (.ptr n 0 0,.new (.row t 0 [.val (.string s)])):=rfl
@[simp] theorem aoU(t:TypeId)(m:Int)(n:Nat):sB t (.i m) n=some (.ptr n 0 0,.new (.row t 0 [.i m])):=rfl
@[simp] theorem apX(l:List (List fE)):closed (dN 1 fP l)=true:=zJ (λa=>by simp[gh]) l
def Gt(rf:Nat)(st:sw)(x:Option Ob)(P:Env->Prop):Prop:=∃env,x=some (.gV rf env st)/\P env
@[simp] theorem auL{rf:Nat}{st:sw}{env:Env}{P:Env->Prop}:Gt rf st (some (.gV rf env st)) P=P env:=propext ⟨λ⟨_,h,k⟩=>by cases h;exact k,λk=>⟨_,rfl,k⟩⟩
section
variable{T:ia}{v rf:Nat}{b:IR}{dst:Option Nat}{s s1:St}{K:St->Prop}
@[simp] theorem au7:X5 T v rf b dst s K (.norm s1)=Gt rf .ready s1.H[v]? λa=>XC T b { s1 with H:=s1.H.set v (.gV rf a .busy) } (Bg v rf dst s K):=rfl
@[simp] theorem au9:Bg v rf dst s K (.norm s1)=Gt rf .busy s1.H[v]? λa=>K { s with env:=put s.env dst (.b true),H:=s1.H.set v (.gV rf a .ready) }:=rfl
@[simp] theorem au8{id:Nat}:Bg v rf dst s K (.exit id s1)=Gt rf .busy s1.H[v]? λa=>K { s with env:=put s.env dst (.b false),H:=s1.H.set v (.gV rf a (.ym id)) }:=rfl
@[simp] theorem ava:Bg v rf dst s K (.ret s1)=Gt rf .busy s1.H[v]? λa=>K { s with env:=put s.env dst (.b false),H:=s1.H.set v (.gV rf a .zN) }:=rfl
@[simp] theorem ave{l:List D}{e:Env}:tf [] l e=e:=by cases l<;>rfl
@[simp] theorem avd{k:Nat}{d:D}{ks:List Nat}{l:List D}{e:Env}:tf (k::ks) (d::l) e=tf ks l ((k,d)::e):=rfl
@[simp] theorem auJ{s:St}:Be s .ready=some (.norm s):=rfl
@[simp] theorem auI{s:St}{id:Nat}:Be s (.ym id)=some (.exit id s):=rfl
@[simp] theorem auK{s:St}:Be s .zN=some (.ret s):=rfl
end
@[simp] theorem atM(n:Nat):nZ n .kD = []:=rfl
@[simp] theorem atP(n rf:Nat)(e:Env)(st:sw):nZ n (.gV rf e st) = []:=rfl
theorem fY.nr{T:ia}{f:FuncId}{args nN:List D}{dst:Option Nat}{s:St}{K:St->Prop}{fn:iP}{d:D}{Hn:U}(g:T.fn f=some fn)(e:fn.full=false)(h:Wf T f nN [] λd' H'=>d'=d/\H'=Hn)
  (hs:args.map (fL (λ_=>none) s.H 40)=nN) (c:(n5 d&&Hn.all oX)=true) (b:(mq d&&Hn.all nz)=true) (k:K { s with env:=put s.env dst (j' s.H.length d),H:=s.H++Hn }):fY T f args dst s K .mk:=by
 refine fY.is g e (K0:=λd' H'=>d'=d/\H'=Hn) (by rw[hs];exact h) ?_;rintro d' i ⟨rfl,rfl⟩;refine⟨_,?_,k⟩;unfold after
 by_cases a:gh args=true
 .rw[if_pos a,if_pos b]
 .rw[if_neg a,if_pos c]
@[simp] theorem atW(v g sz off n:Nat):n5 (.fy v g sz off n)=true:=rfl
@[simp] theorem aqG(t g:Nat)(cs:List D):oX (.row t g cs)=tB cs:=rfl
@[simp] theorem aqF(l:List Int):tB (cl f1 l)=true:=by
 rw[NF]
 induction l with
 | nil=>rfl
 | cons a r b=>simpa[tB,flat]using b
end Go.AL
namespace Go.Proofs.YtmehofoficaelaaGreatDoor
open Go Go.AL Classical
set_option maxRecDepth 10000
set_option maxHeartbeats 4000000
theorem f133(g:fH)(hg:gF g)(n:Int)(a:0<=n/\n<=2*g.kinds.length):Wf T 168 [dG g,.i n] [] (Is (.b true)):=by have b:=hg.kinds;refine Yg Io ?_;simp[Io];exact mE
theorem f134(g:fH)(hg:gF g)(n:Int)(a:0<=n/\n<=2*g.kinds.length):Wf T 169 [.i n,.fV [.fn (.func 168) [dG g] []]] [] (Is (.b false)):=by refine Yg Ip ?_;simp[Ip];refine Yc (f133 g hg n a) ?_;simp
theorem f178(g:fH)(hg:gF g)(l:List Int)(hl:∀n∈l,0<=n/\n<=2*g.kinds.length)(b:l.length<=9):Wf T 230 [dI l,.fn (.func 169) [] [.fV [.fn (.func 168) [dG g] []]]] [] (Is (.i (-1))):=by
 refine Yg BJ ?_;simp[BJ];refine fO.e (0:Int) (λy=>[(0,dI l),(1,.fn (.func 169) [] [.fV [.fn (.func 168) [dG g] []]]),(7,.i l.length),(8,.i y)]) (λy=>[]) (λy=>0<=y/\y<=l.length) (λy=>(l.length-y).toNat) ?_ ?_
 .simp
 rintro i ⟨i0,a⟩;dsimp only at i0 a ⊢
 by_cases hi:i<l.length
 .simp[hi];refine fD ?_;refine Yc (f134 g hg (gt l i) (hl _ (fZ i0 hi))) ?_;simp;refine fD ?_;refine LJ.e (i+1) ?_;exact mr
 .simp[hi]
theorem f135(g:fH)(hg:gF g)(l:List Int)(hl:∀n∈l,0<=n/\n<=2*g.kinds.length)(a:l.length<=9):Wf T 170 [dI l,.fn (.func 169) [] [.fV [.fn (.func 168) [dG g] []]]] [] (Is (.b false)):=by refine Yg BI ?_;simp[BI];refine Yc (f178 g hg l hl a) ?_;simp
theorem f136(g:fH)(hg:gF g)(l:List Int)(hl:rh g l):Wf T 171 [dG g,dI l] [] (Is (.b true)):=by
 have j:=hg.kinds;have c:=hl.len;refine Yg Iq ?_;simp[Iq];(with_reducible repeat' first|refine Xk ?_<;>try simp[c]|refine Xs ?_ ?_<;>intro h<;>(try intro d)<;>(try simp[h,c])<;>try omega|refine Xg ?_|omega);refine fO.e (0:Int) (λy=>[(2,.ptr 0 0 0),(14,dI l),(15,.i g.kinds.length),(16,.i y)]) (λy=>[.row 279 0 g.cells]) (λy=>0<=y/\y<=l.length) (λy=>(l.length-y).toNat) ?_ ?_
 .simp
 rintro i ⟨i0,e⟩;dsimp only at i0 e ⊢
 by_cases hi:i<l.length
 .have f:=hl.at_ i i0 hi;have k:i<g.kinds.length:=by omega
  by_cases a:0<gt l i
  .have b:=f.2.2 a;simp[hi];(with_reducible repeat' first|refine Xk ?_<;>try simp[b,a]|refine Xs ?_ ?_<;>intro h<;>(try intro d)<;>(try simp[h,b,a])<;>try omega|refine Xg ?_|omega);refine LJ.e (i+1) ?_;exact mr
  .simp[hi];(with_reducible repeat' first|refine Xk ?_<;>try simp[a]|refine Xs ?_ ?_<;>intro h<;>(try intro d)<;>(try simp[h,a])<;>try omega|refine Xg ?_|omega);refine LJ.e (i+1) ?_;exact mr
 .simp[show¬i<g.kinds.length by omega]
theorem f97(g:fH)(hg:gF g)(p:Pos)(a:gT g p):Wf T 109 [dG g,dP p] [] (Is (.b true)):=by
 have f:=hg.kinds;have d:=hg.gj;have e:=a.gj;have hs:=a.side;have c:=a.size;have i:=hg.jm.size;have b:=Ro d.1 (by omega);refine Yg JZ ?_;simp[JZ,b,c];refine iF.r rfl rfl (f135 g hg p.cs a.cs (by omega)) (by simp) (by simp[flat]) (by simp) ?_;simp;refine Yt (f136 g hg p.h0 a.h0) ?_;simp;refine Yt (f136 g hg p.h1 a.h1) ?_;simp;(with_reducible repeat' first|refine Xk ?_<;>try simp[b]|refine Xs ?_ ?_<;>intro h<;>(try intro j)<;>(try simp[h,b])<;>try omega|refine Xg ?_|omega)
 .simp[*]
 .have:p.side=1:=by omega
  simp[*]
theorem f177(n:Int):Wf T 251 [.i n] [] (Is (.b false)):=by refine Yg IL ?_;simp[IL]
theorem f131(a b:Int):Wf T 220 [.i a,.i b] [] (Is (.i (kn a b))):=by
 refine Yg Il ?_;simp[Il];refine Yc (f177 a) ?_;simp;refine Yc (f177 b) ?_;simp;(with_reducible repeat' first|refine Xk ?_<;>try simp|refine Xs ?_ ?_<;>intro h<;>(try intro c)<;>(try simp[h])<;>try omega|refine Xg ?_|omega)
 all_goals
  unfold kn;(repeat' split)<;>(first|rfl|(exfalso;omega))
theorem f130(a b:List Int)(l:a.length<2 ^ 40)(k:b.length<2 ^ 40):Wf T 219 [dI a,dI b] [] (Is (.i (kh a b))):=by
 refine Yg Ik ?_;simp[Ik];refine fO.e (0:Int) (λi=>[(0,dI a),(1,dI b),(9,dI a),(10,.i a.length),(11,.i i)]) (λi=>[]) (λi=>0<=i/\i<=a.length/\i<=b.length/\a.take i.toNat=b.take i.toNat) (λi=>a.length-i.toNat) ?_ ?_
 .simp
 rintro i ⟨h0,h1,m,f⟩;have e:=WE f (by omega) (by omega)
 by_cases hi:i<a.length
 .by_cases d:i<b.length
  .simp[hi,d];(with_reducible repeat' first|refine Xk ?_<;>try simp|refine Xs ?_ ?_<;>intro h<;>(try intro j)<;>(try simp[h])<;>try omega|refine Xg ?_|omega);refine Yc (f131 (gt a i) (gt b i)) ?_;simp
   by_cases c:kn (gt a i) (gt b i)=0
   .simp[c];refine fD ?_;refine LJ.e (i+1) ?_;refine zb ?_;rw[iO h0 hi,iO h0 d,f,xx.1 c]
   .simp[c];rw[e,nb h0 hi,nb h0 d,kh,if_neg (λh=>c (xx.2 h))]
  .simp[hi,d];(with_reducible repeat' first|refine Xk ?_<;>try simp|refine Xs ?_ ?_<;>intro h<;>(try intro j)<;>(try simp[h])<;>try omega|refine Xg ?_|omega)
   have g:kn ((a.drop i.toNat).length) ((b.drop i.toNat).length)=1:=by simp only[aR,kn];rw[if_neg (by omega),if_pos (by omega)]
   rw[e,Qg (by simp only[aR];omega),g]
 .simp[hi];refine jF ?_ ?_<;>intro h
  all_goals
   rw[e,Qg (by simp only[aR];omega)];simp only[aR,kn];(repeat' split)<;>omega
theorem f129(l:List Int)(hl:l.length<2 ^ 40):Wf T 218 [dI l] [] (Is (.i (mG l))):=by
 refine Yg Ih ?_;simp[Ih];refine fO.e (0:Int) (λi=>[(3,.i 0),(6,dI l),(7,.i l.length),(8,.i i)]) (λi=>[]) (λi=>0<=i/\i<=l.length/\mG l=mG (l.drop i.toNat)) (λi=>l.length-i.toNat) ?_ ?_
 .simp
 rintro i ⟨h0,h1,b⟩
 by_cases hi:i<l.length
 .rw[nb h0 hi]at b
  by_cases a:gt l i=0
  .simp[hi,a];refine fD ?_;refine LJ.e (i+1) ?_;refine gx ?_;rw[b];simp only[mG,a];rw[if_neg (by simp),show(i+1).toNat=i.toNat+1 by omega]
  .simp[hi,a];refine fD ?_;rw[b];simp[mG,a]
 .simp[hi];rw[b,aU (by omega)];rfl
theorem f88(p q:Pos)(b:Small p)(a:Small q):Wf T 152 [dP p,dP q] [] (Is (.i (ib p q))):=by refine Yg JR ?_;simp[JR];refine Yt (f130 _ _ b.1 a.1) ?_;simp;refine Yt (f130 _ _ b.2.1 a.2.1) ?_;simp;refine Yt (f130 _ _ b.2.2 a.2.2) ?_;simp;refine Yt (f131 _ _) ?_;simp;refine Yt (f131 _ _) ?_;simp;refine iF.r rfl rfl (f129 [kh p.cs q.cs,kh p.h0 q.h0,kh p.h1 q.h1,kn p.gj q.gj,kn p.side q.side] (by simp)) (by simp;exact aaK _ rfl rfl) (by simp[flat]) (by simp) ?_;simp;rfl
theorem f100(l:List Pos)(hl:l.length<2 ^ 40)(hs:∀p∈l,Small p)(a:kr l):Wf T 112 [gJ l] [] (Is (.b true)):=by
 refine Yg Hi ?_;simp[Hi];refine fD ?_;refine fO.e (0:Int) (λi=>[(0,gJ l),(6,.i (l.length-1)),(7,.i i)]) (λi=>[]) (λi=>0<=i) (λi=>l.length-i.toNat) ?_ ?_
 .simp
 rintro i h0
 by_cases hi:i<l.length-1
 .simp[hi];refine fD ?_;refine Yt (f88 _ _ (hs _ (fZ h0 (by omega))) (hs _ (fZ (n:=i+1) (by omega) (by omega)))) ?_;simp;have:=a (i+1) (by omega) (by omega);rw[dA]at this;simp[show¬ 0<=ib (gt l i) (gt l (i+1))by omega];refine fD ?_;refine LJ.e (i+1) ?_;exact ic
 .simp[hi]
theorem f96(g:fH)(hg:gF g)(p:Pos)(a:gT g p):Wf T 108 [dP p,.fV g.cells] [] (Is (.b false)):=by refine Yg JY ?_;simp[JY];refine Yc (f97 g hg p a) ?_;simp
theorem f147(g:fH)(hg:gF g)(l:List Pos)(hl:∀p∈l,gT g p)(b:l.length<2 ^ 40):Wf T 182 [gJ l,.fn (.func 108) [] [.fV g.cells]] [] (Is (.i (-1))):=by
 refine Yg ID ?_;simp[ID];refine fO.e (0:Int) (λy=>[(0,gJ l),(1,.fn (.func 108) [] [.fV g.cells]),(7,.i l.length),(8,.i y)]) (λy=>[]) (λy=>0<=y/\y<=l.length) (λy=>(l.length-y).toNat) ?_ ?_
 .simp
 rintro i ⟨i0,a⟩
 by_cases hi:i<l.length
 .simp[hi];refine fD ?_;refine Yc (f96 g hg (gt l i) (hl _ (fZ i0 hi))) ?_;simp;refine fD ?_;refine LJ.e (i+1) ?_;exact mr
 .simp[hi]
theorem f99(g:fH)(hg:gF g)(l:List Pos)(hl:∀p∈l,gT g p)(a:l.length<2 ^ 40):Wf T 111 [gJ l,.fn (.func 108) [] [.fV g.cells]] [] (Is (.b false)):=by refine Yg J1 ?_;simp[J1];refine Yc (f147 g hg l hl a) ?_;simp
def oq(l:List fQ):D:=dN 8 fQ.cells l
@[simp] theorem aam(l:List fQ):closed (oq l)=true:=zJ (λa=>by simp[fQ.cells,gh]) l
theorem f132(l:List Int)(h:0<l.length)(b:l.length<2 ^ 40):Wf T 265 [dI l] [] (λd H=>d = .fy 0 1 1 0 l.length/\H = [.row 3 1 (cl f1 l)]):=by refine Yg Im ?_;simp[Im];refine oA.i (a:=.b false) (by cases l with|nil=>exact absurd h (by simp)|cons a r=>rfl) ?_;simp;exact mE
theorem f91(s:fQ)(hs:Small s.p)(h0:0<s.p.cs.length/\0<s.p.h0.length/\0<s.p.h1.length):Wf T 215 [.agg s.cells] [] (λd H=>d = .agg [.fy 0 1 1 0 s.p.cs.length,.fy 1 1 1 0 s.p.h0.length,.fy 2 1 1 0 s.p.h1.length,.i s.p.gj,.i s.p.side,.i s.kind,.i s.cur,.b s.jq]/\H = [.row 3 1 (cl f1 s.p.cs),.row 3 1 (cl f1 s.p.h0),.row 3 1 (cl f1 s.p.h1)]):=by refine Yg JT ?_;simp[JT,fQ.cells];refine Yn (f132 s.p.cs h0.1 hs.1) ?_;simp;refine vt.n rfl rfl (f132 s.p.h0 h0.2.1 hs.2.1) (by simp) (by simp) ?_;simp;refine vt.n rfl rfl (f132 s.p.h1 h0.2.2 hs.2.2) (by simp) (by simp) ?_;simp
theorem f241(s:fQ)(b:Bool):Wf T 323 [.agg s.cells,.b b] [] (Is (oq (if b then [s]else []))):=by
 refine Yg Jh ?_;simp[Jh,fQ.cells];cases b
 .simp;rfl
 .simp;rfl
theorem f243(s:fQ)(h:0<=s.cur/\s.cur<s.p.cs.length)(hs:Small s.p):Wf T 325 [.agg s.cells] [] (Is (.tup [.i (gi (gt s.p.cs s.cur)),.i (jD (gt s.p.cs s.cur))])):=by refine Yg Jj ?_;simp[Jj,fQ.cells];refine fD ?_;refine Yc (f84 _) ?_;simp
theorem f199(g:fH)(hg:gF g)(s:fQ)(hs:jQ g s)(n:Int):Wf T 300 [.agg s.cells,dG g,.i n] [] (Is (oq (iD g s (1,n)))):=by refine Yg I2 ?_;simp[I2,fQ.cells];refine Yc (f240 g hg.jm s.p.side n s.cur) ?_;simp;refine fY.c rfl rfl (f241 { s with cur:=lM g s.p.side n s.cur } (decide (0<=lM g s.p.side n s.cur))) (by simp[fQ.cells]) (by simp) ?_;simp[iD]
theorem f201(g:fH)(hg:gF g)(s:fQ)(hs:jQ g s)(n:Int):Wf T 302 [.agg s.cells,dG g,.i n] [] (Is (oq (iD g s (3,n)))):=by have b:=hs.p.size;have a:=hs.cur;refine Yg I4 ?_;simp[I4,fQ.cells];refine fD ?_;refine iF.c rfl rfl (f241 s (decide (gt s.p.cs s.cur=0))) (by simp[fQ.cells]) (by simp) ?_;simp[iD]
theorem f202(g:fH)(hg:gF g)(s:fQ)(hs:jQ g s)(n:Int):Wf T 303 [.agg s.cells,dG g,.i n] [] (Is (oq (iD g s (4,n)))):=by have b:=hs.p.size;have a:=hs.cur;have c:=hs.p.side;refine Yg I5 ?_;simp[I5,fQ.cells];refine fY.c rfl rfl (f243 s (by omega) (hs.p.small hg)) (by simp[fQ.cells]) (by simp) ?_;simp;refine fD ?_;refine fY.c rfl rfl (f241 s (decide (jD (gt s.p.cs s.cur)=1-s.p.side))) (by simp[fQ.cells]) (by simp) ?_;simp[iD]
theorem f203(g:fH)(hg:gF g)(s:fQ)(hs:jQ g s)(n:Int):Wf T 304 [.agg s.cells,dG g,.i n] [] (Is (oq (iD g s (5,n)))):=by have b:=hs.p.size;have a:=hs.cur;refine Yg I6 ?_;simp[I6,fQ.cells];refine fY.c rfl rfl (f243 s (by omega) (hs.p.small hg)) (by simp[fQ.cells]) (by simp) ?_;simp;refine fY.c rfl rfl (f241 s (decide (jD (gt s.p.cs s.cur)=s.p.side))) (by simp[fQ.cells]) (by simp) ?_;simp[iD]
theorem f206(g:fH)(s:fQ)(n:Int):Wf T 307 [.agg s.cells,dG g,.i n] [] (Is (oq (iD g s (8,n)))):=by refine Yg I8 ?_;simp[I8,fQ.cells];rfl
theorem f207(g:fH)(hg:gF g)(s:fQ)(hs:jQ g s)(n:Int)(c:0<=n/\n<g.gj):Wf T 308 [.agg s.cells,dG g,.i n] [] (Is (oq (iD g s (9,n)))):=by have b:=hs.p.gj;have a:=hg.gj;have e:=Dc a.1 (by omega);have d:=X1 (r:=s.p.gj) (n:=n) b.1 (by omega) c.1 (by omega);refine Yg I9 ?_;simp[I9,fQ.cells];refine fD ?_;refine iF.c rfl rfl (f241 s (decide (bits BinOp.and IntKind.i64 (l4 IntKind.i64 s.p.gj n) 1=1))) (by simp[fQ.cells]) (by simp) ?_;simp[iD,d]
theorem f208(g:fH)(hg:gF g)(s:fQ)(hs:jQ g s)(n:Int)(d:0<=n/\n<g.gj):Wf T 309 [.agg s.cells,dG g,.i n] [] (Is (oq (iD g s (10,n)))):=by have c:=hs.p.gj;have b:=hg.gj;have e:=Dc b.1 (by omega);have a:=X3 (r:=s.p.gj) (n:=n) c.1 (by omega) d.1 (by omega);refine Yg I' ?_;simp[I',fQ.cells,a];refine jw a ?_;rfl
theorem f205(g:fH)(hg:gF g)(s:fQ)(hs:jQ g s)(n:Int):Wf T 306 [.agg s.cells,dG g,.i n] [] (Is (oq (iD g s (7,n)))):=by
 have i:=hs.p.size;have a:=hs.cur;have b:=hs.p.small hg;have c:=hg.jm.size;have k:=hg.kinds;have f:=hs.p.h0.len;have d:=hs.p.h1.len;have j:=hg.jm.to s.p.side n s.cur;have e:iD g s (7,n)=tc g s n:=by simp[iD]
 rw[e];refine Yg I7 ?_;simp[I7,fQ.cells];refine Yc (f240 g hg.jm s.p.side n s.cur) ?_;simp;(with_reducible repeat' first|refine Xk ?_<;>try simp|refine Xs ?_ ?_<;>intro h<;>(try intro m)<;>(try simp[h])<;>try omega|refine Xg ?_|omega)
 .rw[tc,if_pos (by simp_all)];rfl
 .rw[tc,if_pos (by simp_all)];rfl
 .have q0:=iq (l:=s.p.cs) (n:=lM g s.p.side n s.cur) (v:=gt s.p.cs s.cur) (by omega) (by omega);have q1:=iq (l:=pt s.p.cs (lM g s.p.side n s.cur) (gt s.p.cs s.cur)) (n:=s.cur) (v:=0) a.1 (by omega);refine Yn (f91 s b (by omega)) ?_;simp;refine ku q0 q1 ?_;simp[tc, *];rfl
 .rw[tc,if_pos (by simp_all)];rfl
theorem f204(g:fH)(hg:gF g)(s:fQ)(hs:jQ g s)(n:Int):Wf T 305 [.agg s.cells,dG g,.i n] [] (Is (oq (iD g s (6,n)))):=by
 have u:=hs.p.size;have c:=hs.cur;have d:=hs.p.small hg;have q:=hg.jm.size;have f:=hg.kinds;have t:=hs.p.h0.len;have r:=hs.p.h1.len;have i:=hs.p.cs _ (fZ c.1 (by omega));have w:=hs.p.side;have e:iD g s (6,n)=sv g s:=by simp[iD]
 rw[e];refine Yz DP (iB 52 [2,3,4] DP.body) ?_;simp[DP,iB,jN,mw,mz,mH,lq,fQ.cells];refine fY.c rfl rfl (f243 s (by omega) d) (by simp[fQ.cells]) (by simp) ?_;simp
 by_cases a:jD (gt s.p.cs s.cur)=1-s.p.side
 .have o:0<=gi (gt s.p.cs s.cur):=by
   unfold jD at a;unfold gi;split at a<;>rename_i k
   .rw[if_pos k];omega
   .omega
  have x:gi (gt s.p.cs s.cur)<g.kinds.length:=xt i.2 f.1;have m:s.p.side=0\/s.p.side=1:=by omega
  have q0:=iq (l:=s.p.cs) (n:=s.cur) (v:=0) c.1 (by omega);simp[a];refine fD ?_;refine Yn (f91 s d (by omega)) ?_;simp;refine J7 q0 ?_ ?_<;>intro h
  .have b:=h;rcases m with e|e
   .have j:=hs.p.h0.at_ _ (by omega) (show gi (gt s.p.cs s.cur)<s.p.h0.length by omega);have q1:=Cg (l:=s.p.h0) (n:=gi (gt s.p.cs s.cur)) (v:=gt s.p.h0 (gi (gt s.p.cs s.cur))+1) (by omega) (by omega);have q2:=iq (l:=s.p.h0) (n:=gi (gt s.p.cs s.cur)) (v:=gt s.p.h0 (gi (gt s.p.cs s.cur))+1) (by omega) (by omega);simp[e,q0,q1,q2];refine pe q0 q1 q2 ?_;refine iF.c rfl rfl (f241 { p:={ s.p with cs:=pt s.p.cs s.cur 0,h0:=pt s.p.h0 (gi (gt s.p.cs s.cur)) (gt s.p.h0 (gi (gt s.p.cs s.cur))+1),side:=0 },kind:=s.kind,cur:=s.cur,jq:=true } (decide (gt s.p.h0 (gi (gt s.p.cs s.cur))+1<=8))) (by simp[fQ.cells]) (by simp) ?_;simp[sv,a,b,Pos.hand,Pos.mu,e];done
   .have j:=hs.p.h1.at_ _ (by omega) (show gi (gt s.p.cs s.cur)<s.p.h1.length by omega);have q1:=Cg (l:=s.p.h1) (n:=gi (gt s.p.cs s.cur)) (v:=gt s.p.h1 (gi (gt s.p.cs s.cur))+1) (by omega) (by omega);have q2:=iq (l:=s.p.h1) (n:=gi (gt s.p.cs s.cur)) (v:=gt s.p.h1 (gi (gt s.p.cs s.cur))+1) (by omega) (by omega);simp[e,q0,q1,q2];refine pe q0 q1 q2 ?_;refine iF.c rfl rfl (f241 { p:={ s.p with cs:=pt s.p.cs s.cur 0,h1:=pt s.p.h1 (gi (gt s.p.cs s.cur)) (gt s.p.h1 (gi (gt s.p.cs s.cur))+1),side:=1 },kind:=s.kind,cur:=s.cur,jq:=true } (decide (gt s.p.h1 (gi (gt s.p.cs s.cur))+1<=8))) (by simp[fQ.cells]) (by simp) ?_;simp[sv,a,b,Pos.hand,Pos.mu,e];done
  .simp[sv,a,h,q0];rfl
 .simp[a];refine fD ?_;rw[sv,if_pos a];rfl
theorem f259(g:fH)(s d c:Int):Wf T 331 [g.jm,.i s,.i d,.i c] [] (Is (.fn (.func 335) [] [.fV [.i g.size,.sl 1 (g.next.map fI),dI g.iX],.fV [.i s],.fV [.i d],.fV [.i c]])):=by refine Yg Jr ?_;simp[Jr]
theorem f266(l:List Int)(n:Int)(hl:l.length<2 ^ 40):Wf T 336 [dI l,.i n] [] (Ey (λr:Int=>.i r) λr=>0<=r↔n∈l):=by
 refine Yg BL ?_;simp[BL];refine fO.e (0:Int) (λy=>[(0,dI l),(1,.i n),(7,.i l.length),(8,.i y)]) (λy=>[]) (λy=>0<=y/\y<=l.length/\n ∉ l.take y.toNat) (λy=>(l.length-y).toNat) ?_ ?_
 .simp
 rintro i ⟨i0,b,a⟩
 by_cases hi:i<l.length
 .simp[hi];refine jF ?_ ?_<;>intro h
  .exact Ey.i i rfl rfl ⟨λ_=>by have:=fZ i0 hi;simp_all,λ_=>i0⟩
  .refine LJ.e (i+1) ?_;refine gx ?_;rw[iO i0 hi];simp[a];omega
 .simp[hi];rw[kG (by omega)]at a;exact Ey.i (-1) rfl rfl ⟨λh=>by omega,λh=>absurd h a⟩
theorem f260(l:List Int)(n:Int)(hl:l.length<2 ^ 40):Wf T 332 [dI l,.i n] [] (Is (.b (decide (n∈l)))):=by refine Yg BK ?_;simp[BK];refine Yq (f266 l n hl) λr a=>?_;simp;simp[a]
theorem ach(n:Int):Wf T 336 [.fJ,.i n] [] (Is (.i (-1))):=by refine Yg BL ?_;simp[BL];refine fO.un ?_;refine kj.u ?_;simp
theorem acg(n:Int):Wf T 332 [.fJ,.i n] [] (Is (.b false)):=by refine Yg BK ?_;simp[BK];refine Yc (ach n) ?_;simp
theorem f265(g:fH)(hg:nM g)(s d c:Int):Wf T 335 [.iH 4,.fV [.i g.size,.sl 1 (g.next.map fI),dI g.iX],.fV [.i s],.fV [.i d],.fV [.i c]]
  [.row 39 0 [.i g.size,.sl 1 (g.next.map fI),dI g.iX],.row 3 0 [.i c],.row 37 0 [.fJ],.kD,.gV 20736 [(7,.ptr 1 0 0),(9,.ptr 2 0 0)] .ready]
  (λ_ H'=>∃st,(st = .ready\/st = .ym 0)/\H' = [.row 39 0 [.i g.size,.sl 1 (g.next.map fI),dI g.iX],.row 3 0 [.i c],.row 37 0 [if kL g s d c = []then .fJ else .fy 5 ((kL g s d c).length-1) 1 0 (kL g s d c).length],.kD,.gV 20736 [(7,.ptr 1 0 0),(9,.ptr 2 0 0)] st]++(if kL g s d c = []then []else [.row 3 ((kL g s d c).length-1) (cl f1 (kL g s d c))])):=by
 have r:=hg.size;refine Yg Jt ?_;simp[Jt];refine Yr (f240 g hg s d c) ?_;simp;refine fO.e ((0,lM g s d c,[]):Nat×Int×List Int) (λx=>[(0,.iH 4),(1,.fV [.i g.size,.sl 1 (g.next.map fI),dI g.iX]),(2,.fV [.i s]),(3,.fV [.i d]),(6,.i x.2.1)]) (λx=>[.row 39 0 [.i g.size,.sl 1 (g.next.map fI),dI g.iX],.row 3 0 [.i c],.row 37 0 [if x.2.2 = []then .fJ else .fy 5 (x.2.2.length-1) 1 0 x.2.2.length],.kD,.gV 20736 [(7,.ptr 1 0 0),(9,.ptr 2 0 0)] .ready]++(if x.2.2 = []then []else [.row 3 (x.2.2.length-1) (cl f1 x.2.2)])) (λx=>x.1=x.2.2.length/\x.2.1<g.size/\x.2.2.Nodup/\(∀y∈x.2.2,0<=y/\y<g.size)/\kL g s d c=s0 g s d c (10-x.1) x.2.1 x.2.2) (λx=>10-x.1) ?_ ?_
 .have:=hg.to s d c;simp[kL];omega
 rintro⟨m,x,out⟩ ⟨h0,h1,o,n,l⟩;dsimp only at h0 h1 o n l ⊢;have q:out.length<=9:=A8 9 out o (λy k=>by have:=n y k;omega);have e:=l;rw[show 10-m=(9-m)+1 by omega,s0]at e;have j:=hg.to s d x
 by_cases i:out = []
 .subst i
  by_cases b:0<=x
  .simp[b];refine rK.r (rf:=20736) (env0:=[(7,.ptr 1 0 0),(9,.ptr 2 0 0)]) (Rd:=vo) (by simp) rfl rfl vo.a vo.b (oP rfl) (oP rfl) ?_;simp[vo]
   by_cases a:x=c
   .have f:kL g s d c = []:=by rw[e,if_neg (λh=>h.2.1 a)]
    simp[a,f]
   .have p:kL g s d c=s0 g s d c (9-m) (lM g s d x) [x]:=by rw[e,if_pos ⟨b,a,by simp⟩];rfl
    simp[a];refine Yc (acg x) ?_;simp;refine fD ?_;refine Yr (f240 g hg s d x) ?_;simp;refine LJ.i (m+1,lM g s d x,[x]) (by first|rfl|simp[iQ]) (by first|rfl|simp[iQ]) rfl rfl ?_;dsimp only;refine⟨by simp at h0;omega,by simp at h0;simp;omega,j.2,by simp,by simp;omega,?_⟩;rw[p];congr 1;omega
  .have f:kL g s d c = []:=by rw[e,if_neg (λh=>b h.1)]
   simp[b,f]
 .simp only[if_neg i,cy,bG]
  by_cases b:0<=x
  .simp[b];refine rK.r (rf:=20736) (env0:=[(7,.ptr 1 0 0),(9,.ptr 2 0 0)]) (Rd:=vo) (by simp) rfl rfl vo.a vo.b (oP rfl) (oP rfl) ?_;simp[vo]
   by_cases a:x=c
   .have f:kL g s d c=out:=by rw[e,if_neg (λh=>h.2.1 a)]
    simp[a,f,i]
   .simp[a];refine Yr (f260 out x (by omega)) ?_;simp;refine X2.z a ?_;simp
    by_cases gq:x∈out
    .have f:kL g s d c=out:=by rw[e,if_neg (λh=>h.2.2 gq)]
     simp[gq,f,i]
    .have p:kL g s d c=s0 g s d c (9-m) (lM g s d x) (out ++ [x]):=by rw[e,if_pos ⟨b,a,gq⟩]
     have hl:0<out.length:=av.2 i;simp[gq];refine fD ?_;refine Yr (f240 g hg s d x) ?_;simp;refine LJ.i (m+1,lM g s d x,out ++ [x]) (by first|rfl|simp[show out.length-1+1=out.length by omega]) (by first|rfl|simp[show out.length-1+1=out.length by omega]) rfl rfl ?_;dsimp only;refine⟨by omega,by simp;omega,j.2,?_,λy k=>?_,?_⟩
     .grind
     .grind
     .grind
  .have f:kL g s d c=out:=by rw[e,if_neg (λh=>b h.1)]
   simp[b,f,i]
theorem f242(g:fH)(hg:nM g)(s d c:Int):Wf T 324 [g.jm,.i s,.i d,.i c] [] (Is (dN 1 f1 (kL g s d c))):=by
 refine Yg Ji ?_;simp[Ji];refine Yc (f259 g s d c) ?_;simp;refine x4.r (f:=335) (first:=[]) (cap:=[.fV [.i g.size,.sl 1 (g.next.map fI),dI g.iX],.fV [.i s],.fV [.i d],.fV [.i c]]) rfl rfl rfl rfl ?_;simp;refine Wf.mono (f265 g hg s d c) ?_;rintro _ H' ⟨st,b,rfl⟩;refine⟨[(7,.ptr 1 0 0),(9,.ptr 2 0 0)],st,by simp,?_⟩
 by_cases h:kL g s d c = []
 .rcases b with rfl|rfl
  .simp[h];rfl
  .simp[h];rfl
 .have e:dI (kL g s d c)=dN 1 f1 (kL g s d c):=by
   revert h
   cases kL g s d c with
   | nil=>intro h;exact absurd rfl h
   | cons a r=>intro _;rfl
  rcases b with rfl|rfl
  .simp[h,e]
  .simp[h,e]
@[simp] theorem apT(l:List Int):closed (dN 1 f1 l)=true:=zJ (λa=>by simp[gh]) l
theorem NP{l:List fQ}(h:l≠[]):jX l=oq l:=by
 cases l with
 | nil=>exact absurd rfl h
 | cons a r=>rfl
theorem f200(g:fH)(hg:gF g)(s:fQ)(hs:jQ g s)(n:Int):Wf T 301 [.agg s.cells,dG g,.i n] [] (Is (oq (iD g s (2,n)))):=by
 have m:=hs.p.size;have k:=hg.jm.size;have e:iD g s (2,n)=pC s (kL g s.p.side n s.cur):=by simp[iD]
 have gq:∀y∈kL g s.p.side n s.cur,0<=y/\y<g.size:=λy j=>Qe hg.jm j;have d:(kL g s.p.side n s.cur).length<=10:=Qf;rw[e];refine Yg I3 ?_;simp[I3,fQ.cells];refine Yc (f242 g hg.jm s.p.side n s.cur) ?_;simp;generalize kL g s.p.side n s.cur=l at *;refine fO.e ((0,[]):Int×List fQ) (λy=>[(3,.ptr 0 0 0),(7,if y.1=0 then .fJ else .fy 2 (y.2.length-1) 8 0 y.2.length),(19,dN 1 f1 l),(20,.i l.length),(21,.i y.1)]) (λy=>.row 330 0 s.cells :: .row 43 0 g.cells::(if y.1=0 then []else [.row 330 (y.2.length-1) (cl fQ.cells y.2)])) (λy=>0<=y.1/\y.1<=l.length/\y.2.length=y.1.toNat/\pC s l=y.2++pC s (l.drop y.1.toNat)) (λy=>(l.length-y.1).toNat) ?_ ?_
 .simp
 rintro⟨i,st⟩ ⟨i0,f,c,a⟩;dsimp only at i0 f c a ⊢
 by_cases hi:i<l.length
 .have o:=gq _ (fZ i0 hi);rw[nb i0 hi,pC]at a
  by_cases b:i=0
  .have:st = []:=az.1 (by omega);subst b;subst this;simp[hi,fQ.cells];(with_reducible repeat' first|refine Xk ?_<;>try simp|refine Xs ?_ ?_<;>intro h<;>(try intro p)<;>(try simp[h])<;>try omega|refine Xg ?_|omega)
   .refine LJ.i (1,[{ s with cur:=gt l 0 }]) (by first|rfl|simp[iQ,fQ.cells]) (by first|rfl|simp[iQ,fQ.cells]) rfl rfl ?_;refine gx ⟨rfl,?_⟩;rw[a,if_pos h];rfl
   .rw[a,if_neg h];rfl
  .have hl:0<st.length:=by omega
   rw[if_neg b,if_neg b];simp[hi,fQ.cells];refine jF ?_ ?_<;>intro h
   .refine LJ.i (i+1,st ++ [{ s with cur:=gt l i }]) (by first|rfl|simp[show¬(i+1=0)by omega,show st.length-1+1=st.length by omega,fQ.cells]) (by first|rfl|simp[show¬(i+1=0)by omega,show st.length-1+1=st.length by omega,fQ.cells]) rfl rfl ?_;refine⟨by dsimp only;omega,by dsimp only;omega,by dsimp only;omega,by simp;omega,?_⟩;rw[a,if_pos h,show(i+1).toNat=i.toNat+1 by omega];simp
   .rw[a,if_neg h,<-NP (by simp)];simp[jX,fQ.cells]
 .rw[aU (by omega),pC,ax]at a
  by_cases b:i=0
  .have:st = []:=az.1 (by omega);subst b;subst this;simp[show¬ 0<l.length by omega,fQ.cells];rw[a];rfl
  .rw[if_neg b,if_neg b];simp[hi,fQ.cells];rw[a,NP (by intro h;rw[h]at c;simp at c;omega)]
theorem f164(g:fH)(hg:gF g)(s:fQ)(hs:jQ g s)(x:fE)(b:D3 g x):Wf T 286 [dG g,.agg s.cells,.agg [.i x.1,.i x.2]] [] (Is (oq (iD g s x))):=by
 obtain⟨k,n⟩:=x;have a:=b.ok;dsimp only at a ⊢;rcases(show k=1\/k=2\/k=3\/k=4\/k=5\/k=6\/k=7\/k=8\/k=9\/k=10 by omega)with rfl|rfl|rfl|rfl|rfl|rfl|rfl|rfl|rfl|rfl
 all_goals
  refine Yg IJ ?_;simp[IJ,fQ.cells]
 .refine iF.c rfl rfl (f199 g hg s hs n) (by simp) (by simp) ?_;simp
 .refine iF.c rfl rfl (f200 g hg s hs n) (by simp) (by simp) ?_;simp
 .refine iF.c rfl rfl (f201 g hg s hs n) (by simp) (by simp) ?_;simp
 .refine iF.c rfl rfl (f202 g hg s hs n) (by simp) (by simp) ?_;simp
 .refine iF.c rfl rfl (f203 g hg s hs n) (by simp) (by simp) ?_;simp
 .refine iF.c rfl rfl (f204 g hg s hs n) (by simp) (by simp) ?_;simp
 .refine iF.c rfl rfl (f205 g hg s hs n) (by simp) (by simp) ?_;simp
 .refine iF.c rfl rfl (f206 g s n) (by simp) (by simp) ?_;simp
 .refine iF.c rfl rfl (f207 g hg s hs n (by omega)) (by simp) (by simp) ?_;simp
 .refine iF.c rfl rfl (f208 g hg s hs n (by omega)) (by simp) (by simp) ?_;simp
@[simp] theorem an6(t sz bytes:Nat)(z:List D)(m:Int)(a:Nat):J9 t sz bytes z .fJ (.val (.int .i64 m)) a=if 0<m/\pW (m*bytes) 140737488355328/\pW m 9223372036854775807 then some (.fy a 0 sz 0 m.toNat,.new (.row t 0 (List.replicate m.toNat z).flatten))else none:=rfl
theorem f191(n:Int)(a:0<n/\n<1000):Wf T 212 [.fJ,.i n] [] (λd H=>d = .fy 0 0 1 0 0/\H = [.row 3 0 (cl f1 (List.replicate n.toNat 0))]):=by refine Yg IX ?_;simp[IX];exact mE
@[irreducible] def fl(l:List (List Int)):List Int:=l.flatten
theorem yv(l:List (List Int)):fl l=l.flatten:=by unfold fl;rfl
@[simp] theorem aqD:fl [] = []:=by simp[yv]
theorem Up{l:List (List Int)}{i:Int}(h0:0<=i)(h:i<l.length):fl (l.take (i+1).toNat)=fl (l.take i.toNat)++gt l i:=by rw[iO h0 h];simp[yv]
theorem Uo(l:List (List Int))(n:Nat):(fl (l.take n)).length<=(fl l).length:=by
 simp only[yv]
 conv=>rhs;rw[<-bO n l]
 simp only[eo,au];omega
theorem f148(l:List (List Int))(hl:l.length<=10)(m:0<(fl l).length/\(fl l).length<1000):Wf T 147 [.sl 1 (l.map fI)] [] (λd H=>d = .fy 0 l.length 1 0 (fl l).length/\H = [.row 3 l.length (cl f1 (fl l))]):=by
 have p:0<l.length:=by
  cases l with
  | nil=>simp at m
  | cons a r=>simp
 refine Yg IE ?_;simp[IE];refine fO.e (0:Int) (λi=>[(0,.sl 1 (l.map fI)),(3,.i (fl (l.take i.toNat)).length),(9,.sl 1 (l.map fI)),(10,.i l.length),(11,.i i)]) (λi=>[]) (λi=>0<=i/\i<=l.length) (λi=>(l.length-i).toNat) ?_ ?_
 .simp
 rintro i ⟨i0,n⟩
 by_cases hi:i<l.length
 .have h1:=Up i0 hi;have c:=Uo l (i+1).toNat;rw[h1,au]at c;simp[hi];(with_reducible repeat' first|refine Xk ?_<;>try simp|refine Xs ?_ ?_<;>intro h<;>(try intro o)<;>(try simp[h])<;>try omega|refine Xg ?_|omega);refine LJ.i (i+1) (by first|rfl|simp[h1]) (by first|rfl|simp[h1]) rfl rfl ?_;exact mr
 .have f:(l.take i.toNat)=l:=kG (by omega);simp[hi,f];refine Yn (f191 (fl l).length (by omega)) ?_;simp;refine fO.e (0:Int) (λj=>[(6,.fy 0 j.toNat 1 0 (fl (l.take j.toNat)).length),(25,.sl 1 (l.map fI)),(26,.i l.length),(27,.i j)]) (λj=>[.row 3 j.toNat (if j=0 then cl f1 (List.replicate (fl l).length 0)else cl f1 (fl (l.take j.toNat)))]) (λj=>0<=j/\j<=l.length) (λj=>(l.length-j).toNat) ?_ ?_
  .simp
  rintro j ⟨j0,j1⟩
  by_cases b:j<l.length
  .have h1:=Up j0 b;have c:=Uo l (j+1).toNat;rw[h1,au]at c
   by_cases g:j=0
   .subst g;simp at h1 c;simp[b];refine fD ?_;refine LJ.i (1) (by first|rfl|simp[h1]) (by first|rfl|simp[h1]) rfl rfl ?_;exact mr
   .rw[if_neg g];simp[b];refine fD ?_;have e:(j+1).toNat=j.toNat+1:=by omega
    rw[e]at h1;refine LJ.i (j+1) (by first|rfl|simp[h1,e,show¬(j+1=0)by omega]) (by first|rfl|simp[h1,e,show¬(j+1=0)by omega]) rfl rfl ?_;exact mr
  .have f:(l.take j.toNat)=l:=kG (by omega);have k:j.toNat=l.length:=by omega
   rw[if_neg (by omega)];simp[b,f,k]
@[irreducible] def nu(p:Pos):List Int:=fl [p.cs,p.h0,p.h1,[p.gj,p.side]]
theorem AY(p:Pos):nu p=fl [p.cs,p.h0,p.h1,[p.gj,p.side]]:=by unfold nu;rfl
def nI(p:Pos):ByteArray:=((nu p).map λn=>IntKind.u8.wrap n).foldl (λr n=>r.push (UInt8.ofNat n.toNat)) ByteArray.empty
@[simp] theorem Z'(l:List Int)(n:Int):cl fU l ++ [.val (.int .u8 n)]=cl fU (l ++ [n]):=by rw[<-ph,yq]
@[simp] theorem ZM:∀l:List Int,bytesOf (cl fU l)=some l
 | []=>by simp[bytesOf]
 | a::r=>by rw[mi,yq,fg,bytesOf,ZM r]
theorem f101(p:Pos)(h:0<p.cs.length)(hl:(nu p).length<1000):Wf T 93 [dP p] [] (Is (.val (.string (nI p)))):=by
 have f:0<(nu p).length:=by simp[AY,yv];omega
 have d:=f148 [p.cs,p.h0,p.h1,[p.gj,p.side]] (by simp) (by rw[<-AY];exact⟨f,hl⟩);rw[<-AY]at d;refine Yg Hj ?_;simp[Hj];refine fY.nr rfl rfl d (by simp[ml,chunks];unfold dI;simp only[List.map_cons,List.map_nil,Ca]) (by simp) (by simp) ?_;simp;refine fO.e (0:Int) (λy=>[(3,if y=0 then .fJ else .fy 4 (y.toNat-1) 1 0 y.toNat),(20,.fy 3 4 1 0 (nu p).length),(21,.i (nu p).length),(22,.i y)]) (λy=>[.row 46 0 p.cells,.row 3 0 [.i p.gj,.i p.side],.row 37 0 [dI p.cs,dI p.h0,dI p.h1,.fy 1 0 1 0 2],.row 3 4 (cl f1 (nu p))]++(if y=0 then []else [.row 5 (y.toNat-1) (cl fU (((nu p).take y.toNat).map λn=>IntKind.u8.wrap n))])) (λy=>0<=y/\y<=(nu p).length) (λy=>((nu p).length-y).toNat) ?_ ?_
 .simp
 rintro i ⟨i0,k⟩
 by_cases hi:i<(nu p).length
 .have a:(List.take (i.toNat+1) (nu p)).map (λn=>IntKind.u8.wrap n)=(List.take i.toNat (nu p)).map (λn=>IntKind.u8.wrap n) ++ [IntKind.u8.wrap (gt (nu p) i)]:=by rw[<-show(i+1).toNat=i.toNat+1 by omega,iO i0 hi];simp
  have b:(i+1).toNat=i.toNat+1:=by omega
  by_cases c:i=0
  .rw[if_pos c,if_pos c];have g:i.toNat=0:=by omega
   rw[g]at a b;simp at a;simp[hi];refine fD ?_;refine LJ.i (i+1) (by first|rfl|simp[show¬(i+1=0)by omega,b,a,iQ]) (by first|rfl|simp[show¬(i+1=0)by omega,b,a,iQ]) rfl rfl ?_;exact mr
  .rw[if_neg c,if_neg c];simp[hi];refine fD ?_;have e:i.toNat-1+1=i.toNat:=by omega
   simp at a;refine LJ.i (i+1) (by first|rfl|simp[show¬(i+1=0)by omega,b,a,e,dD]) (by first|rfl|simp[show¬(i+1=0)by omega,b,a,e,dD]) rfl rfl ?_;exact mr
 .rw[if_neg (by omega),if_neg (by omega)];have j:i.toNat=(nu p).length:=by omega
  simp[hi,BW,j];rfl
set_option maxRecDepth 100000
def EB(n:Int):ByteArray:=⟨#[UInt8.ofNat (48+n.toNat)]⟩
theorem f209(n:Int)(a:0<=n/\n<=9):Wf T 310 [.i n] [] (Is (.val (.string (EB n)))):=by
 rcases(show n=0\/n=1\/n=2\/n=3\/n=4\/n=5\/n=6\/n=7\/n=8\/n=9 by omega)with rfl|rfl|rfl|rfl|rfl|rfl|rfl|rfl|rfl|rfl
 all_goals exact od (k:=100) (by kernel_rfl)
def x7(b:Bool):ByteArray:=if b then⟨#[116,114,117,101]⟩else⟨#[102,97,108,115,101]⟩
theorem f210(b:Bool):Wf T 311 [.b b] [] (Is (.val (.string (x7 b)))):=by
 cases b
 .exact od (k:=100) (by kernel_rfl)
 .exact od (k:=100) (by kernel_rfl)
@[simp] theorem awe(a b:ByteArray):Dv .add a b=if pW ((a.size+b.size:Nat):Int) 9223372036854775807 then some (.val (.string (a++b)))else none:=rfl
theorem foldl_push(l:List Int):∀r:ByteArray,(l.foldl (λr n=>r.push (UInt8.ofNat n.toNat)) r).data.toList=r.data.toList++l.map λn=>UInt8.ofNat n.toNat:=by
 induction l with
 | nil=>intro r;simp
 | cons a l b=>intro r;rw[bW,b];simp[ByteArray.push]
theorem Wi(p:Pos):(nI p).data.toList=(nu p).map λn=>UInt8.ofNat (IntKind.u8.wrap n).toNat:=by unfold nI;rw[foldl_push];simp[ByteArray.empty,ByteArray.emptyWithCapacity];rfl
@[simp] theorem arY(p:Pos):(nI p).size=(nu p).length:=by show(nI p).data.size=_;rw[<-cU,Wi,List.length_map]
@[simp] theorem avI(a:Array UInt8):ByteArray.size ⟨a⟩=a.size:=rfl
@[simp] theorem aqi(n:Int):(EB n).size=1:=rfl
@[simp] theorem ZG(b:Bool):(x7 b).size<=5:=by cases b<;>decide
def nV(s:fQ):ByteArray:=EB s.kind++⟨#[32]⟩++EB s.cur++⟨#[32]⟩++x7 s.jq++⟨#[32]⟩++nI s.p
theorem f165(s:fQ)(h1:0<=s.kind/\s.kind<=9)(a:0<=s.cur/\s.cur<=9)(h:0<s.p.cs.length)(hl:(nu s.p).length<1000):Wf T 287 [.agg s.cells] [] (Is (.val (.string (nV s)))):=by have b:=ZG s.jq;refine Yg IK ?_;simp[IK,fQ.cells];refine Yt (f209 s.kind h1) ?_;simp;refine fD ?_;refine Yt (f209 s.cur a) ?_;simp;refine fD ?_;refine Yt (f210 s.jq) ?_;simp;refine fD ?_;refine Yt (f101 s.p h hl) ?_;simp;refine fD ?_;rfl
theorem ofNat_inj{m n:Nat}(b:m<256)(a:n<256)(h:UInt8.ofNat m=UInt8.ofNat n):m=n:=by have:=congrArg UInt8.toNat h;simp only[UInt8.toNat_ofNat']at this;omega
theorem YW{n:Int}(h:0<=n/\n<256):IntKind.u8.wrap n=n:=by simp only[IntKind.wrap,IntKind.bits,IntKind.signed];simp;omega
theorem WR:∀ {a b:List Int},(∀n∈a,0<=n/\n<256)->(∀n∈b,0<=n/\n<256)->(a.map λn=>UInt8.ofNat (IntKind.u8.wrap n).toNat)=(b.map λn=>UInt8.ofNat (IntKind.u8.wrap n).toNat)->a=b
 | [],[],_,_,_=>rfl
 | [],_::_,_,_,h=>by simp at h
 | _::_,[],_,_,h=>by simp at h
 | x::a,y::b,ha,hb,h=>by simp only[List.map_cons,cZ]at h;have f:=ha x (by simp);have d:=hb y (by simp);rw[YW f,YW d]at h;have e:=ofNat_inj (by omega) (by omega) h.1;rw[WR (λn c=>ha n (by simp[c])) (λn c=>hb n (by simp[c])) h.2,show x=y by omega]
theorem P9{g:fH}(hg:gF g){p:Pos}(b:gT g p):∀n∈nu p,0<=n/\n<256:=by
 have e:=hg.kinds;have d:=hg.gj;have f:=Dc d.1 (by omega)
 have c:∀ {l:List Int},rh g l->∀n∈l,0<=n/\n<256:=λ{l} h n a=>by obtain⟨i,h0,h1,rfl⟩:=xw.1 a;have:=h.at_ i h0 h1;omega
 intro n a;rw[AY,yv]at a;simp only[aQ,dS,List.mem_append,aw,dR,or_false]at a;have j:=b.gj;have k:=b.side;rcases a with a|a|a|rfl|rfl
 .have:=b.cs n a;omega
 .exact c b.h0 n a
 .exact c b.h1 n a
 .omega
 .omega
theorem aem{g:fH}{p q:Pos}(b:gT g p)(a:gT g q)(h:nu p=nu q):p=q:=by rw[AY,AY,yv,yv]at h;simp only[aQ,dS,ax]at h;have k:=b.size;have j:=a.size;have i:=b.h0.len;have b2:=a.h0.len;have f:=b.h1.len;have c2:=a.h1.len;obtain⟨e,h⟩:=e9 h (by omega);obtain⟨d,h⟩:=e9 h (by omega);obtain⟨c,h⟩:=e9 h (by omega);simp only[cZ,and_true]at h;cases p;cases q;simp_all
theorem Wh{g:fH}(hg:gF g){p q:Pos}(c:gT g p)(a:gT g q)(h:nI p=nI q):p=q:=by have d:=congrArg (λb:ByteArray=>b.data.toList) h;simp only[Wi]at d;exact aem c a (WR (P9 hg c) (P9 hg a) d)
theorem aen(s:fQ):(nV s).data.toList=UInt8.ofNat (48+s.kind.toNat)::32::UInt8.ofNat (48+s.cur.toNat)::32::((x7 s.jq).data.toList++32::(nI s.p).data.toList):=by unfold nV EB;simp
theorem Wn{g:fH}(hg:gF g){s t:fQ}(hs:jQ g s)(e:jQ g t)(h:nV s=nV t):s=t:=by
 have i:=congrArg (λb:ByteArray=>b.data.toList) h;simp only[aen,cZ,true_and]at i;obtain⟨r,q,d⟩:=i;have w:=hg.kinds;have x:=hg.jm.size;have k1:=hs.kind;have k2:=e.kind;have v:=hs.cur;have u:=e.cur;have f1:=ofNat_inj (by omega) (by omega) r;have f2:=ofNat_inj (by omega) (by omega) q;obtain⟨p,k,c,b⟩:=s;obtain⟨a,l,c',j⟩:=t;dsimp only at *
 have f:b=j/\nI p=nI a:=by
  cases b<;>cases j
  .simp[x7]at d;exact⟨rfl,by cases n:nI p;cases m:nI a;simp_all [eZ]⟩
  .simp[x7]at d
  .simp[x7]at d
  .simp[x7]at d;exact⟨rfl,by cases n:nI p;cases m:nI a;simp_all [eZ]⟩
 have o:p=a:=Wh hg hs.p e.p f.2;rw[f.1,o,show k=l by omega,show c=c' by omega]
theorem L4(a b:ByteArray):mV (.string a) (.string b)=decide (a=b):=by obtain⟨a⟩:=a;obtain⟨b⟩:=b;show(a == b)=_;rw[Bool.eq_iff_iff,beq_iff_eq,decide_eq_true_iff,ByteArray.mk.injEq]
theorem Qp{g:fH}(hg:gF g){t:fQ}(b:jQ g t):∀ {l:List fQ},(∀s∈l,jQ g s)->pY (l.map λs=>((.string (nV s):Value),D.b true)) (.string (nV t))=if t∈l then some (.b true)else none
 | [],_=>by simp[pY]
 | a::l,h=>by
  rw[List.map_cons,pY,L4,Qp hg b λs hs=>h s (by simp[hs])]
  by_cases e:t=a
  .subst e;simp
  .have:¬nV t=nV a:=λk=>e (Wn hg b (h a (by simp)) k);simp[this,e]
theorem Qv{g:fH}(hg:gF g){t:fQ}(b:jQ g t):∀ {l:List fQ},(∀s∈l,jQ g s)->t ∉ l->lZ (l.map λs=>((.string (nV s):Value),D.b true)) (.string (nV t)) (.b true)=(l ++ [t]).map λs=>((.string (nV s):Value),D.b true)
 | [],_,_=>by simp[lZ]
 | a::l,h,hn=>by simp only[aw,not_or]at hn;have:¬nV t=nV a:=λk=>hn.1 (Wn hg b (h a (by simp)) k);rw[List.map_cons,lZ,L4,Qv hg b (λs hs=>h s (by simp[hs])) hn.2];simp[this]
set_option maxRecDepth 10000
set_option maxHeartbeats 8000000
theorem fY.inl{T:ia}{f:FuncId}{args:List D}{dst:Option Nat}{s:St}{K:St->Prop}(fn:iP)(a:T.fn f=some fn)(c:fn.full=true)(hl:args.length<=fn.ntmps)(b:s9 fn.body=true)
  (h:XC T fn.body { env:=s7 args,H:=s.H } (yu fn.results fn.own s.H.length λd H'=>K { s with env:=put s.env dst d,H:=H' })):fY T f args dst s K .mk:=.inr ⟨fn,a,c,Wf.x a hl h b⟩
abbrev w5(g:fH)(p:Pos)(st:fQ)(outs:D):U:=[.row 43 0 g.cells,.row 46 0 p.cells,.row 256 0 [outs],.row 43 0 g.cells,.row 46 0 p.cells,.dead,.dead,.dead,.row 330 0 st.cells,.dead]
theorem ab0(g:fH)(hg:gF g)(p:Pos)(e:gT g p)(st t:fQ)(a:jQ g t):Wf T 260 [.agg t.cells,.agg [.i 0,.i 0],.ptr 1 0 0,.ptr 2 0 0] (w5 g p st .fJ ++ [.row 330 0 t.cells])
  (λ_ H'=>match nA p.side t with
   | none=>H'=w5 g p st .fJ ++ [.row 330 0 t.cells]
   | some o=>H'=w5 g p st (.fy 11 0 6 0 1) ++ [.row 330 0 t.cells,.row 259 0 (cl gy.cells [o])]):=by
 have m:=a.p.size;have c:=a.cur;have d:=a.p.small hg;have h:=hg.jm.size;have q:=hg.kinds;have j:=a.p.h0.len;have i:=a.p.h1.len;have b:=e.side;have f:=a.p.side;refine Yz rH (iB 37 [13,14,15] rH.body) ?_;simp[rH,iB,jN,mw,mz,mH,lq,w5,fQ.cells]
 by_cases h0:gt t.p.cs t.cur=0
 .simp[h0];refine fD ?_;refine Yn (f91 t d (by omega)) ?_;simp;refine fD ?_;refine Yt (f92 (k:=t.kind) (s:=p.side) a.kind.1 (by have:=a.kind;omega) b.1 b.2) ?_;simp;refine fD ?_;have q0:=iq (l:=t.p.cs) (n:=t.cur) (v:=1+2*t.kind+p.side) c.1 (by omega);simp[nA,h0,lj,iQ,q0]
 .simp[h0,nA];exact mE
theorem ab1(g:fH)(hg:gF g)(p:Pos)(e:gT g p)(st t:fQ)(a:jQ g t)(outs:List gy)(u:outs.length<2 ^ 39)(f:0<outs.length):Wf T 260 [.agg t.cells,.agg [.i 0,.i 0],.ptr 1 0 0,.ptr 2 0 0] (w5 g p st (.fy 10 (outs.length-1) 6 0 outs.length) ++ [.row 259 (outs.length-1) (cl gy.cells outs),.row 330 0 t.cells])
  (λ_ H'=>match nA p.side t with
   | none=>H'=w5 g p st (.fy 10 (outs.length-1) 6 0 outs.length) ++ [.row 259 (outs.length-1) (cl gy.cells outs),.row 330 0 t.cells]
   | some o=>H'=w5 g p st (.fy 10 (outs ++ [o]).length.pred 6 0 (outs ++ [o]).length) ++ [.row 259 (outs ++ [o]).length.pred (cl gy.cells (outs ++ [o])),.row 330 0 t.cells]):=by
 have r:=a.p.size;have c:=a.cur;have d:=a.p.small hg;have j:=hg.jm.size;have w:=hg.kinds;have q:=a.p.h0.len;have m:=a.p.h1.len;have b:=e.side;have i:=a.p.side;refine Yz rH (iB 37 [14,15,16] rH.body) ?_;simp[rH,iB,jN,mw,mz,mH,lq,w5,fQ.cells]
 by_cases h0:gt t.p.cs t.cur=0
 .simp[h0];refine fD ?_;refine Yn (f91 t d (by omega)) ?_;simp;refine fD ?_;refine Yt (f92 (k:=t.kind) (s:=p.side) a.kind.1 (by have:=a.kind;omega) b.1 b.2) ?_;simp;refine fD ?_;have q0:=iq (l:=t.p.cs) (n:=t.cur) (v:=1+2*t.kind+p.side) c.1 (by omega);simp[nA,h0,lj,q0];(with_reducible repeat' first|refine Xk ?_<;>try simp[show outs.length-1+1=outs.length by omega]|refine Xs ?_ ?_<;>intro h<;>(try intro x)<;>(try simp[h,show outs.length-1+1=outs.length by omega])<;>try omega|refine Xg ?_|omega)
 .simp[h0,nA];exact mE
