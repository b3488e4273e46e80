/- Part 16 of DisputeTruth. -/
import Derived.Test.YtmehofoficaelaaGreatDoorV15
set_option linter.all false
namespace Go.Proofs.YtmehofoficaelaaGreatDoor
open Go Go.AL Classical
set_option maxRecDepth 10000
set_option maxHeartbeats 1000000
@[simp] theorem asg(n:Int)(nx:List (List Int))(tn:List Int):closed (bD n nx tn)=true:=by simp[bD]
theorem f104(w d c:Int)(g:0<=w/\w<256)(i:0<=d/\d<256)(j:0<=c/\c<256):Wf T 159 [.val (.int .u8 w),.val (.int .u8 d),.val (.int .u8 c)] [] (Ey (λx:Int×List (List Int)×List Int=>bD x.1 x.2.1 x.2.2) λx=>oo (BO x.1 x.2.1 x.2.2)):=by
 have w1:=jt (a:=w) (b:=3) g.1;have h1:=jt (a:=d) (b:=3) i.1;have w2:IntKind.i64.wrap (gp w 3)=gp w 3:=mV im;have k:IntKind.i64.wrap (gp d 3)=gp d 3:=mV im;have c2:IntKind.i64.wrap c=c:=mV im;refine Yg IY ?_;simp[IY,w2,k];refine fQ ?_;obtain⟨n,nx,tn,hg,e⟩:=f149 (1+gp w 3) (1+gp d 3) (by omega) (by omega);have o:1<=n/\n<=9:=e.size;refine gj.c rfl rfl hg (by simp) (by simp[bD]) ?_;simp[bD,c2];refine jU ?_ ?_<;>intro h
 .rw[c2];have m:=jt (a:=c) (b:=n) j.1;have l:=bW c (show n≠0 by omega);have p:=bO c (show 0<n by omega);refine Yv (f150 n nx tn e (gp c n) (by omega)) λx f=>?_;simp;simp[bD];exact Ey.i (n,x,tn) rfl rfl f
 .exact Ey.i (n,nx,tn) rfl rfl e
theorem kH.s{T:il}{n:Nat}{live:List Nat}{a:IR}{s b:St}{K:iQ}(hs:s=b)(h:kH T n live a b K .mk):kH T n live a s K .mk:=by subst hs;exact h
theorem fZ.s{T:il}{live:List Nat}{a:IR}{s b:St}{K:iQ}(hs:s=b)(h:fZ T live a b K .mk):fZ T live a s K .mk:=by subst hs;exact h
theorem UZ(l:List Int):cl fU l=l.map λn=>D.val (.int .u8 n):=by
 rw[nX]
 induction l with
 | nil=>rfl
 | cons a r b=>simp[<-b]
@[simp] theorem ahi{l:List Int}{k:Nat}{P:D->Prop}:oA (cl fU l)[k]? P .mk=(k<l.length/\P (.val (.int .u8 (gt l k)))):=by
 rw[UZ]
 by_cases h:k<l.length
 .simp[h,gt]
 .simp[h]
@[simp] theorem aqR{l:List Int}{k:Nat}(h:k<(cl fU l).length):(cl fU l)[k] = .val (.int .u8 (gt l k)):=by
 have a:k<l.length:=by simpa using h
 simp[UZ,gt,a]
theorem f59(g:fY)(hg:gN g)(l:List Int)(hl:l.length=18)(h:∀n∈l,0<=n/\n<256) :
  Wf T 100 [dG g,.agg (cl fU l)] [] (Ey dP (ij g)):=by
 have hb:=hg.jB.size;have w:=hg.kinds;have N:=hg.gD;have O:=Tl N.1 (by omega);have h5:=Ed N.1 (by omega);have h6:(0:Int)<2 ^ g.gD.toNat:=Int.pow_pos (by decide);have r:∀k:Nat,k<18->0<=gt l k/\gt l k<256:=λk w=>h _ (gq (by omega) (by omega))
 have s:∀k:Nat,k<18->IntKind.i64.wrap (gt l k)=gt l k:=λk w=>by have:=r k w;exact mV im
 have M:=s 16 (by omega);have L:=s 17 (by omega);have Q:=r 16 (by omega);have P:=r 17 (by omega);simp at M L Q P;have Y:=jt (a:=gt l 16) (b:=2 ^ g.gD.toNat) Q.1;have m16:=bW (gt l 16) (show(2:Int) ^ g.gD.toNat≠0 by omega);have Z:=bO (gt l 16) h6;have X:=jt (a:=gt l 17) (b:=2) P.1;have t:IntKind.i64.wrap (gp (gt l 17) 2)=gp (gt l 17) 2:=mV im;have hR:0<=gp (gt l 16) (2 ^ g.gD.toNat)/\gp (gt l 16) (2 ^ g.gD.toNat)<2 ^ g.gD.toNat:=by omega
 have hS:0<=gp (gt l 17) 2/\gp (gt l 17) 2<=1:=by omega
 refine Yg La ?_;simp[La,O,hl,M,t];generalize gp (gt l 16) (2 ^ g.gD.toNat)=R at *;generalize gp (gt l 17) 2=S at *;refine CN O hl M t ?_;refine fZ.e ((0,List.replicate g.size.toNat 0):Int×List Int) (λy=>[(2,.ptr 0 0 0),(3,.ptr 1 0 0),(4,.ptr 2 0 0),(5,.ptr 4 0 0),(6,.i y.1)]) (λy=>[.row 43 0 g.cells,.row 30 0 (cl fU l),.row 46 0 [.fX,.fX,.fX,.i 0,.i 0],.row 3 0 (cl f1 y.2),.row 46 0 [.fM 3 0 1 0 g.size.toNat,.fX,.fX,.i R,.i S]]) (λy=>0<=y.1/\y.1<=6/\y.2.length=g.size.toNat/\∀x∈y.2,0<=x/\x<=2*g.kinds.length) (λy=>6-y.1.toNat) ?_ ?_
 .simp;exact mE
 rintro⟨i,cs⟩ ⟨i0,q,G,z⟩;dsimp only at i0 q G z ⊢;have c:max i 0=i:=by omega
 by_cases hi:i<6
 .have w1:IntKind.i64.wrap (gt l i)=gt l i:=by have:=s i.toNat (by omega);rwa [b6 i0]at this
  have w2:IntKind.i64.wrap (gt l (6+i))=gt l (6+i):=by have:=s (6+i.toNat) (by omega);rwa [show((6+i.toNat:Nat):Int)=6+i by omega]at this
  have u:0<=gt l i:=by have:=r i.toNat (by omega);rw[b6 i0]at this;exact this.1
  have U:0<=gt l (6+i):=by have:=r (6+i.toNat) (by omega);rw[show((6+i.toNat:Nat):Int)=6+i by omega]at this;exact this.1
  have F:=jt (a:=gt l i) (b:=g.size+1) u;have e1:=bW (gt l i) (show g.size+1≠0 by omega);have W:=jt (a:=gt l (6+i)) (b:=g.kinds.length) U;have e2:=bW (gt l (6+i)) (show(g.kinds.length:Int)≠0 by omega);have e3:=bO (gt l (6+i)) (show(0:Int)<g.kinds.length by omega);have V:=jt (a:=i) (b:=2) i0;simp[hl,c,hi,w1,w2];have K:g.kinds≠[]:=by intro h;simp[h]at w
  obtain⟨A,D⟩:∃A,gp (gt l i) (g.size+1)=A:=⟨_,rfl⟩;obtain⟨B,J⟩:∃B,gp (gt l (6+i)) g.kinds.length=B:=⟨_,rfl⟩;obtain⟨C,I⟩:∃B,gp i 2=B:=⟨_,rfl⟩;rw[D]at F;rw[J]at W;rw[I]at V;simp only[D];(with_reducible repeat' first|refine Xk ?_<;>try simp[hl,c,w1,w2,D,J,I,K]|refine Xs ?_ ?_<;>intro h<;>(try intro E)<;>(try simp[h,hl,c,w1,w2,D,J,I,K])<;>try omega|refine Xg ?_|omega)
  .refine jH K ?_;refine LJ.e (i+1,pt cs A (1+2*B+C)) ?_;dsimp only;have hv:0<=1+2*B+C/\1+2*B+C<=2*g.kinds.length:=by omega
   refine gI ⟨?_,?_⟩
   .have:=iH (l:=cs) (n:=A) (v:=1+2*B+C) (by omega) (by omega);omega
   .intro x H;rcases Za H with rfl|H
    .exact hv
    .exact z x H
  .refine LJ.e (i+1,cs) ?_;exact gI ⟨G,z⟩
 simp[hi]
 have z0:rN g (List.replicate g.kinds.length 0):=⟨by simp,λk w mw=>by
  have e:gt (List.replicate g.kinds.length (0:Int)) k=0:=by
   simp at mw;have:k.toNat<g.kinds.length:=by omega
   simp[gt,this]
  rw[e];omega⟩
 refine fZ.un ?_;refine kH.s (by simp;rfl) ?_;refine kH.u ?_;simp;refine fQ ?_;refine fZ.e ((0,List.replicate g.kinds.length 0):Int×List Int) (λy=>[(2,.ptr 0 0 0),(3,.ptr 1 0 0),(4,.ptr 2 0 0),(5,.ptr 4 0 0),(8,.i 0),(9,.i y.1)]) (λy=>[.row 43 0 g.cells,.row 30 0 (cl fU l),.row 46 0 [.fX,.fX,.fX,.i 0,.i 0],.row 3 0 (cl f1 cs),.row 46 0 [.fM 3 0 1 0 g.size.toNat,.fM 5 0 1 0 g.kinds.length,.fX,.i R,.i S],.row 3 0 (cl f1 y.2)]) (λy=>0<=y.1/\y.1<=g.kinds.length/\rN g y.2) (λy=>g.kinds.length-y.1.toNat) ?_ ?_
 .simp;exact z0
 rintro⟨i,h0⟩ ⟨i0,q,j⟩;dsimp only at i0 q j ⊢;have c:max i 0=i:=by omega
 have m:=j.len
 by_cases hi:i<g.kinds.length
 .have f:i<2:=by omega
  have w1:IntKind.i64.wrap (gt l (12+i))=gt l (12+i):=by have:=s (12+i.toNat) (by omega);rwa [show((12+i.toNat:Nat):Int)=12+i by omega]at this
  have u:0<=gt l (12+i):=by have:=r (12+i.toNat) (by omega);rw[show((12+i.toNat:Nat):Int)=12+i by omega]at this;exact this.1
  have F:=jt (a:=gt l (12+i)) (b:=3) u
  by_cases d:(gt g.kinds i).keep=true
  .have p:∀v,(pt h0 i v).length=h0.length:=λv=>iH i0 (by omega);have o:i.toNat<g.kinds.length:=by omega
   simp[hl,c,hi,f,d,w1,p,m,o];(with_reducible repeat' first|refine Xk ?_<;>try simp[hl,c,hi,f,d,w1,p,m,o]|refine Xs ?_ ?_<;>intro h<;>(try intro E)<;>(try simp[h,hl,c,hi,f,d,w1,p,m,o])<;>try omega|refine Xg ?_|omega)
   .refine LJ.e (i+1,pt (pt h0 i (gp (gt l (12+i)) 3)) i 8) ?_;refine gI ?_;exact(j.set i0 (by omega) (pI (λ_=>d))).set i0 (by rw[iH i0 (by omega)];omega) (pI (λ_=>d))
   .refine LJ.e (i+1,pt h0 i (gp (gt l (12+i)) 3)) ?_;exact gI (j.set i0 (by omega) (pI (λ_=>d)))
  .simp[hl,c,hi,f,d,w1];(with_reducible repeat' first|refine Xk ?_<;>try simp[hl,c,hi,f,d,w1]|refine Xs ?_ ?_<;>intro h<;>(try intro E)<;>(try simp[h,hl,c,hi,f,d,w1])<;>try omega|refine Xg ?_|omega);refine LJ.e (i+1,h0) ?_;exact gI j
 simp[hi];refine jH hi ?_;clear hi c i0 q m
 rename rN g h0=>Zs
 refine kH.s (by simp;rfl) ?_;refine kH.u ?_;simp;refine fQ ?_;refine fZ.e ((0,List.replicate g.kinds.length 0):Int×List Int) (λy=>[(2,.ptr 0 0 0),(3,.ptr 1 0 0),(4,.ptr 2 0 0),(5,.ptr 4 0 0),(8,.i 1),(9,.i y.1)]) (λy=>[.row 43 0 g.cells,.row 30 0 (cl fU l),.row 46 0 [.fX,.fX,.fX,.i 0,.i 0],.row 3 0 (cl f1 cs),.row 46 0 [.fM 3 0 1 0 g.size.toNat,.fM 5 0 1 0 g.kinds.length,.fM 6 0 1 0 g.kinds.length,.i R,.i S],.row 3 0 (cl f1 h0),.row 3 0 (cl f1 y.2)]) (λy=>0<=y.1/\y.1<=g.kinds.length/\rN g y.2) (λy=>g.kinds.length-y.1.toNat) ?_ ?_
 .simp;exact z0
 rintro⟨i,h1⟩ ⟨i0,q,j⟩;dsimp only at i0 q j ⊢;have c:max (2+i) 0=(2+i):=by omega
 have m:=j.len
 by_cases hi:i<g.kinds.length
 .have f:i<2:=by omega
  have w1:IntKind.i64.wrap (gt l (12+(2+i)))=gt l (12+(2+i)):=by have:=s (12+(2+i).toNat) (by omega);rwa [show((12+(2+i).toNat:Nat):Int)=12+(2+i)by omega]at this
  have u:0<=gt l (12+(2+i)):=by have:=r (12+(2+i).toNat) (by omega);rw[show((12+(2+i).toNat:Nat):Int)=12+(2+i)by omega]at this;exact this.1
  have F:=jt (a:=gt l (12+(2+i))) (b:=3) u
  by_cases d:(gt g.kinds i).keep=true
  .have p:∀v,(pt h1 i v).length=h1.length:=λv=>iH i0 (by omega);have o:i.toNat<g.kinds.length:=by omega
   simp[hl,c,hi,f,d,w1,p,m,o];(with_reducible repeat' first|refine Xk ?_<;>try simp[hl,c,hi,f,d,w1,p,m,o]|refine Xs ?_ ?_<;>intro h<;>(try intro E)<;>(try simp[h,hl,c,hi,f,d,w1,p,m,o])<;>try omega|refine Xg ?_|omega)
   .refine LJ.e (i+1,pt (pt h1 i (gp (gt l (12+(2+i))) 3)) i 8) ?_;refine gI ?_;exact(j.set i0 (by omega) (pI (λ_=>d))).set i0 (by rw[iH i0 (by omega)];omega) (pI (λ_=>d))
   .refine LJ.e (i+1,pt h1 i (gp (gt l (12+(2+i))) 3)) ?_;exact gI (j.set i0 (by omega) (pI (λ_=>d)))
  .simp[hl,c,hi,f,d,w1];(with_reducible repeat' first|refine Xk ?_<;>try simp[hl,c,hi,f,d,w1]|refine Xs ?_ ?_<;>intro h<;>(try intro E)<;>(try simp[h,hl,c,hi,f,d,w1])<;>try omega|refine Xg ?_|omega);refine LJ.e (i+1,h1) ?_;exact gI j
 simp[hi];refine jH hi ?_;clear hi c i0 q m
 rename rN g h1=>Zt
 refine kH.s (by simp;rfl) ?_;refine kH.u ?_;simp;refine fQ ?_;exact Ey.i ⟨cs,h0,h1,R,S⟩ (by simp[G,Zs.len,Zt.len,dP,Pos.cells]) rfl ⟨by simp only;omega,Zs,Zt,hR,hS,z⟩
end Go.Proofs.YtmehofoficaelaaGreatDoor
namespace Go.AL
open Go
@[simp] theorem axR(ρ:Nat->Option Nat)(H:U)(k:Nat)(f:Fn)(a b:List D):gd ρ H (k+1) (.fn f a b) = .fn f (a.map (gd ρ H k)) (b.map (gd ρ H k)):=by
 by_cases h:closed (.fn f a b)=true
 .have c:=h;simp only[U4,Bool.and_eq_true]at c;rw[p5 h,BL c.1,BL c.2]
 .rw[gd,if_neg h]
@[simp] theorem axS(ρ:Nat->Option Nat)(H:U)(k:Nat)(cs:List D):gd ρ H (k+1) (.gi cs) = .gi (cs.map (gd ρ H k)):=by
 by_cases h:closed (.gi cs)=true
 .rw[p5 h,BL (by simpa using h)]
 .rw[gd,if_neg h]
theorem yX(l:List Int):cl f1 l=l.map λn=>D.i n:=by
 rw[nX]
 induction l with
 | nil=>rfl
 | cons a r b=>simp[<-b]
theorem acN{ρ:Nat->Option Nat}{H:U}{k n:Nat}{t:TypeId}{cs:List D}(l:List Int)(h:cs=l.map λn=>D.i n)(a:n=l.length):mG ρ H (k+1) 1 0 n (some (t,cs))=dI l:=by rw[h,<-yX,u6 a];rfl
@[simp] theorem ayD(a b:ByteArray):EB .eql a b=some (.b (decide (a=b))):=by
 have:(a.data.toList == b.data.toList)=decide (a=b):=by
  rw[Bool.eq_iff_iff,beq_iff_eq,decide_eq_true_iff];constructor
  .intro h;cases a;cases b;congr 1;exact fo.1 h
  .rintro rfl;rfl
 show some (D.val (.bool _))=_;rw[this]
@[simp] theorem aro(t:TypeId)(s:ByteArray)(n:Nat):sA t (.val (.string s)) n=some (.ptr n 0 0,.new (.row t 0 [.val (.string s)])):=rfl
@[simp] theorem ark(t:TypeId)(m:Int)(n:Nat):sA t (.i m) n=some (.ptr n 0 0,.new (.row t 0 [.i m])):=rfl
@[simp] theorem asq(l:List (List fO)):closed (dN 1 fP l)=true:=AB (λa=>by simp[gw]) l
def HW(rf:Nat)(st:p9)(x:Option Ob)(P:Env->Prop):Prop:=∃env,x=some (.ia rf env st)/\P env
@[simp] theorem aw9{rf:Nat}{st:p9}{env:Env}{P:Env->Prop}:HW rf st (some (.ia rf env st)) P=P env:=propext ⟨λ⟨_,h,k⟩=>by cases h;exact k,λk=>⟨_,rfl,k⟩⟩
section
variable{T:il}{v rf:Nat}{b:IR}{dst:Option Nat}{s s1:St}{K:St->Prop}
@[simp] theorem axw:aal T v rf b dst s K (.norm s1)=HW rf .ready s1.H[v]? λa=>XC T b { s1 with H:=s1.H.set v (.ia rf a .busy) } (BZ v rf dst s K):=rfl
@[simp] theorem axy:BZ v rf dst s K (.norm s1)=HW rf .busy s1.H[v]? λa=>K { s with env:=put s.env dst (.b true),H:=s1.H.set v (.ia rf a .ready) }:=rfl
@[simp] theorem axx{id:Nat}:BZ v rf dst s K (.exit id s1)=HW rf .busy s1.H[v]? λa=>K { s with env:=put s.env dst (.b false),H:=s1.H.set v (.ia rf a (.y6 id)) }:=rfl
@[simp] theorem axz:BZ v rf dst s K (.ret s1)=HW rf .busy s1.H[v]? λa=>K { s with env:=put s.env dst (.b false),H:=s1.H.set v (.ia rf a .AG) }:=rfl
@[simp] theorem axD{l:List D}{e:Env}:tR [] l e=e:=by cases l<;>rfl
@[simp] theorem axC{k:Nat}{d:D}{ks:List Nat}{l:List D}{e:Env}:tR (k::ks) (d::l) e=tR ks l ((k,d)::e):=rfl
@[simp] theorem aw7{s:St}:z6 s .ready=some (.norm s):=rfl
@[simp] theorem aw6{s:St}{id:Nat}:z6 s (.y6 id)=some (.exit id s):=rfl
@[simp] theorem aw8{s:St}:z6 s .AG=some (.ret s):=rfl
end
@[simp] theorem awg(n:Nat):oG n .jv = []:=rfl
@[simp] theorem awj(n rf:Nat)(e:Env)(st:p9):oG n (.ia rf e st) = []:=rfl
theorem gj.nr{T:il}{f:FuncId}{args oq:List D}{dst:Option Nat}{s:St}{K:St->Prop}{fn:je}{d:D}{Hn:U}(g:T.fn f=some fn)(e:fn.full=false)(h:Wf T f oq [] λd' H'=>d'=d/\H'=Hn)
  (hs:args.map (gd (λ_=>none) s.H 40)=oq) (c:(oH d&&Hn.all pn)=true) (b:(mL d&&Hn.all nY)=true) (k:K { s with env:=put s.env dst (ku s.H.length d),H:=s.H++Hn }):gj T f args dst s K .mk:=by
 refine gj.is g e (K0:=λd' H'=>d'=d/\H'=Hn) (by rw[hs];exact h) ?_;rintro d' i ⟨rfl,rfl⟩;refine⟨_,?_,k⟩;unfold after
 by_cases a:gw args=true
 .rw[if_pos a,if_pos b]
 .rw[if_neg a,if_pos c]
@[simp] theorem awo(v g sz off n:Nat):oH (.fM v g sz off n)=true:=rfl
@[simp] theorem ata(t g:Nat)(cs:List D):pn (.row t g cs)=tb cs:=rfl
@[simp] theorem as9(l:List Int):tb (cl f1 l)=true:=by
 rw[yX]
 induction l with
 | nil=>rfl
 | cons a r b=>simpa[tb,flat]using b
end Go.AL
namespace Go.Proofs.YtmehofoficaelaaGreatDoor
open Go Go.AL Classical
set_option maxRecDepth 10000
set_option maxHeartbeats 4000000
theorem f133(g:fY)(hg:gN g)(n:Int)(a:0<=n/\n<=2*g.kinds.length):Wf T 168 [dG g,.i n] [] (Is (.b true)):=by have b:=hg.kinds;refine Yg JM ?_;simp[JM];exact mE
theorem f134(g:fY)(hg:gN g)(n:Int)(a:0<=n/\n<=2*g.kinds.length):Wf T 169 [.i n,.gi [.fn (.func 168) [dG g] []]] [] (Is (.b false)):=by refine Yg JN ?_;simp[JN];refine Yc (f133 g hg n a) ?_;simp
theorem f178(g:fY)(hg:gN g)(l:List Int)(hl:∀n∈l,0<=n/\n<=2*g.kinds.length)(b:l.length<=9):Wf T 230 [dI l,.fn (.func 169) [] [.gi [.fn (.func 168) [dG g] []]]] [] (Is (.i (-1))):=by
 refine Yg Cz ?_;simp[Cz];refine fZ.e (0:Int) (λy=>[(0,dI l),(1,.fn (.func 169) [] [.gi [.fn (.func 168) [dG g] []]]),(7,.i l.length),(8,.i y)]) (λy=>[]) (λy=>0<=y/\y<=l.length) (λy=>(l.length-y).toNat) ?_ ?_
 .simp
 rintro i ⟨i0,a⟩;dsimp only at i0 a ⊢
 by_cases hi:i<l.length
 .simp[hi];refine fQ ?_;refine Yc (f134 g hg (gt l i) (hl _ (gq i0 hi))) ?_;simp;refine fQ ?_;refine LJ.e (i+1) ?_;exact l4
 .simp[hi]
theorem f135(g:fY)(hg:gN g)(l:List Int)(hl:∀n∈l,0<=n/\n<=2*g.kinds.length)(a:l.length<=9):Wf T 170 [dI l,.fn (.func 169) [] [.gi [.fn (.func 168) [dG g] []]]] [] (Is (.b false)):=by refine Yg Cy ?_;simp[Cy];refine Yc (f178 g hg l hl a) ?_;simp
theorem f136(g:fY)(hg:gN g)(l:List Int)(hl:rN g l):Wf T 171 [dG g,dI l] [] (Is (.b true)):=by
 have j:=hg.kinds;have c:=hl.len;refine Yg JO ?_;simp[JO];(with_reducible repeat' first|refine Xk ?_<;>try simp[c]|refine Xs ?_ ?_<;>intro h<;>(try intro d)<;>(try simp[h,c])<;>try omega|refine Xg ?_|omega);refine fZ.e (0:Int) (λy=>[(2,.ptr 0 0 0),(14,dI l),(15,.i g.kinds.length),(16,.i y)]) (λy=>[.row 279 0 g.cells]) (λy=>0<=y/\y<=l.length) (λy=>(l.length-y).toNat) ?_ ?_
 .simp
 rintro i ⟨i0,e⟩;dsimp only at i0 e ⊢
 by_cases hi:i<l.length
 .have f:=hl.at_ i i0 hi;have k:i<g.kinds.length:=by omega
  by_cases a:0<gt l i
  .have b:=f.2.2 a;simp[hi];(with_reducible repeat' first|refine Xk ?_<;>try simp[b,a]|refine Xs ?_ ?_<;>intro h<;>(try intro d)<;>(try simp[h,b,a])<;>try omega|refine Xg ?_|omega);refine LJ.e (i+1) ?_;exact l4
  .simp[hi];(with_reducible repeat' first|refine Xk ?_<;>try simp[a]|refine Xs ?_ ?_<;>intro h<;>(try intro d)<;>(try simp[h,a])<;>try omega|refine Xg ?_|omega);refine LJ.e (i+1) ?_;exact l4
 .simp[show¬i<g.kinds.length by omega]
theorem f97(g:fY)(hg:gN g)(p:Pos)(a:ij g p):Wf T 109 [dG g,dP p] [] (Is (.b true)):=by
 have f:=hg.kinds;have d:=hg.gD;have e:=a.gD;have hs:=a.side;have c:=a.size;have i:=hg.jB.size;have b:=Tl d.1 (by omega);refine Yg Lu ?_;simp[Lu,b,c];refine iW.r rfl rfl (f135 g hg p.cs a.cs (by omega)) (by simp) (by simp[flat]) (by simp) ?_;simp;refine Yt (f136 g hg p.h0 a.h0) ?_;simp;refine Yt (f136 g hg p.h1 a.h1) ?_;simp;(with_reducible repeat' first|refine Xk ?_<;>try simp[b]|refine Xs ?_ ?_<;>intro h<;>(try intro j)<;>(try simp[h,b])<;>try omega|refine Xg ?_|omega)
 .simp[*]
 .have:p.side=1:=by omega
  simp[*]
theorem f177(n:Int):Wf T 251 [.i n] [] (Is (.b false)):=by refine Yg J8 ?_;simp[J8]
theorem f131(a b:Int):Wf T 220 [.i a,.i b] [] (Is (.i (kJ a b))):=by
 refine Yg JK ?_;simp[JK];refine Yc (f177 a) ?_;simp;refine Yc (f177 b) ?_;simp;(with_reducible repeat' first|refine Xk ?_<;>try simp|refine Xs ?_ ?_<;>intro h<;>(try intro c)<;>(try simp[h])<;>try omega|refine Xg ?_|omega)
 all_goals
  unfold kJ;(repeat' split)<;>(first|rfl|(exfalso;omega))
theorem f130(a b:List Int)(m:a.length<2 ^ 40)(l:b.length<2 ^ 40):Wf T 219 [dI a,dI b] [] (Is (.i (kF a b))):=by
 refine Yg JJ ?_;simp[JJ];refine fZ.e (0:Int) (λi=>[(0,dI a),(1,dI b),(9,dI a),(10,.i a.length),(11,.i i)]) (λi=>[]) (λi=>0<=i/\i<=a.length/\i<=b.length/\a.take i.toNat=b.take i.toNat) (λi=>a.length-i.toNat) ?_ ?_
 .simp
 rintro i ⟨h0,h1,k,f⟩;have e:=YQ f (by omega) (by omega)
 by_cases hi:i<a.length
 .by_cases d:i<b.length
  .simp[hi,d];(with_reducible repeat' first|refine Xk ?_<;>try simp|refine Xs ?_ ?_<;>intro h<;>(try intro j)<;>(try simp[h])<;>try omega|refine Xg ?_|omega);refine Yc (f131 (gt a i) (gt b i)) ?_;simp
   by_cases c:kJ (gt a i) (gt b i)=0
   .simp[c];refine fQ ?_;refine LJ.e (i+1) ?_;refine zY ?_;rw[jd h0 hi,jd h0 d,f,yj.1 c]
   .simp[c];rw[e,nN h0 hi,nN h0 d,kF,if_neg (λh=>c (yj.2 h))]
  .simp[hi,d];(with_reducible repeat' first|refine Xk ?_<;>try simp|refine Xs ?_ ?_<;>intro h<;>(try intro j)<;>(try simp[h])<;>try omega|refine Xg ?_|omega)
   have g:kJ ((a.drop i.toNat).length) ((b.drop i.toNat).length)=1:=by simp only[aR,kJ];rw[if_neg (by omega),if_pos (by omega)]
   rw[e,Sb (by simp only[aR];omega),g]
 .simp[hi];refine jU ?_ ?_<;>intro h
  all_goals
   rw[e,Sb (by simp only[aR];omega)];simp only[aR,kJ];(repeat' split)<;>omega
theorem f129(l:List Int)(hl:l.length<2 ^ 40):Wf T 218 [dI l] [] (Is (.i (nb l))):=by
 refine Yg JG ?_;simp[JG];refine fZ.e (0:Int) (λi=>[(3,.i 0),(6,dI l),(7,.i l.length),(8,.i i)]) (λi=>[]) (λi=>0<=i/\i<=l.length/\nb l=nb (l.drop i.toNat)) (λi=>l.length-i.toNat) ?_ ?_
 .simp
 rintro i ⟨h0,h1,b⟩
 by_cases hi:i<l.length
 .rw[nN h0 hi]at b
  by_cases a:gt l i=0
  .simp[hi,a];refine fQ ?_;refine LJ.e (i+1) ?_;refine gI ?_;rw[b];simp only[nb,a];rw[if_neg (by simp),show(i+1).toNat=i.toNat+1 by omega]
  .simp[hi,a];refine fQ ?_;rw[b];simp[nb,a]
 .simp[hi];rw[b,bR (by omega)];rfl
theorem f88(p q:Pos)(b:Small p)(a:Small q):Wf T 152 [dP p,dP q] [] (Is (.i (iw p q))):=by refine Yg Ll ?_;simp[Ll];refine Yt (f130 _ _ b.1 a.1) ?_;simp;refine Yt (f130 _ _ b.2.1 a.2.1) ?_;simp;refine Yt (f130 _ _ b.2.2 a.2.2) ?_;simp;refine Yt (f131 _ _) ?_;simp;refine Yt (f131 _ _) ?_;simp;refine iW.r rfl rfl (f129 [kF p.cs q.cs,kF p.h0 q.h0,kF p.h1 q.h1,kJ p.gD q.gD,kJ p.side q.side] (by simp)) (by simp;exact acN _ rfl rfl) (by simp[flat]) (by simp) ?_;simp;rfl
theorem f100(l:List Pos)(hl:l.length<2 ^ 40)(hs:∀p∈l,Small p)(a:kL l):Wf T 112 [gQ l] [] (Is (.b true)):=by
 refine Yg IM ?_;simp[IM];refine fQ ?_;refine fZ.e (0:Int) (λi=>[(0,gQ l),(6,.i (l.length-1)),(7,.i i)]) (λi=>[]) (λi=>0<=i) (λi=>l.length-i.toNat) ?_ ?_
 .simp
 rintro i h0
 by_cases hi:i<l.length-1
 .simp[hi];refine fQ ?_;refine Yt (f88 _ _ (hs _ (gq h0 (by omega))) (hs _ (gq (n:=i+1) (by omega) (by omega)))) ?_;simp;have:=a (i+1) (by omega) (by omega);rw[dM]at this;simp[show¬ 0<=iw (gt l i) (gt l (i+1))by omega];refine fQ ?_;refine LJ.e (i+1) ?_;exact im
 .simp[hi]
theorem f96(g:fY)(hg:gN g)(p:Pos)(a:ij g p):Wf T 108 [dP p,.gi g.cells] [] (Is (.b false)):=by refine Yg Lt ?_;simp[Lt];refine Yc (f97 g hg p a) ?_;simp
theorem f147(g:fY)(hg:gN g)(l:List Pos)(hl:∀p∈l,ij g p)(b:l.length<2 ^ 40):Wf T 182 [gQ l,.fn (.func 108) [] [.gi g.cells]] [] (Is (.i (-1))):=by
 refine Yg J0 ?_;simp[J0];refine fZ.e (0:Int) (λy=>[(0,gQ l),(1,.fn (.func 108) [] [.gi g.cells]),(7,.i l.length),(8,.i y)]) (λy=>[]) (λy=>0<=y/\y<=l.length) (λy=>(l.length-y).toNat) ?_ ?_
 .simp
 rintro i ⟨i0,a⟩
 by_cases hi:i<l.length
 .simp[hi];refine fQ ?_;refine Yc (f96 g hg (gt l i) (hl _ (gq i0 hi))) ?_;simp;refine fQ ?_;refine LJ.e (i+1) ?_;exact l4
 .simp[hi]
theorem f99(g:fY)(hg:gN g)(l:List Pos)(hl:∀p∈l,ij g p)(a:l.length<2 ^ 40):Wf T 111 [gQ l,.fn (.func 108) [] [.gi g.cells]] [] (Is (.b false)):=by refine Yg Lw ?_;simp[Lw];refine Yc (f147 g hg l hl a) ?_;simp
def oT(l:List gg):D:=dN 8 gg.cells l
@[simp] theorem acq(l:List gg):closed (oT l)=true:=AB (λa=>by simp[gg.cells,gw]) l
theorem f132(l:List Int)(h:0<l.length)(b:l.length<2 ^ 40):Wf T 265 [dI l] [] (λd H=>d = .fM 0 1 1 0 l.length/\H = [.row 3 1 (cl f1 l)]):=by refine Yg JL ?_;simp[JL];refine oA.i (a:=.b false) (by cases l with|nil=>exact absurd h (by simp)|cons a r=>rfl) ?_;simp;exact mE
theorem f91(s:gg)(hs:Small s.p)(h0:0<s.p.cs.length/\0<s.p.h0.length/\0<s.p.h1.length):Wf T 215 [.agg s.cells] [] (λd H=>d = .agg [.fM 0 1 1 0 s.p.cs.length,.fM 1 1 1 0 s.p.h0.length,.fM 2 1 1 0 s.p.h1.length,.i s.p.gD,.i s.p.side,.i s.kind,.i s.cur,.b s.jF]/\H = [.row 3 1 (cl f1 s.p.cs),.row 3 1 (cl f1 s.p.h0),.row 3 1 (cl f1 s.p.h1)]):=by refine Yg Lo ?_;simp[Lo,gg.cells];refine Yn (f132 s.p.cs h0.1 hs.1) ?_;simp;refine wm.n rfl rfl (f132 s.p.h0 h0.2.1 hs.2.1) (by simp) (by simp) ?_;simp;refine wm.n rfl rfl (f132 s.p.h1 h0.2.2 hs.2.2) (by simp) (by simp) ?_;simp
theorem f241(s:gg)(b:Bool):Wf T 323 [.agg s.cells,.b b] [] (Is (oT (if b then [s]else []))):=by
 refine Yg KE ?_;simp[KE,gg.cells];cases b
 .simp;rfl
 .simp;rfl
theorem f243(s:gg)(h:0<=s.cur/\s.cur<s.p.cs.length)(hs:Small s.p):Wf T 325 [.agg s.cells] [] (Is (.tup [.i (gC (gt s.p.cs s.cur)),.i (jS (gt s.p.cs s.cur))])):=by refine Yg KG ?_;simp[KG,gg.cells];refine fQ ?_;refine Yc (f84 _) ?_;simp
theorem f199(g:fY)(hg:gN g)(s:gg)(hs:kd g s)(n:Int):Wf T 300 [.agg s.cells,dG g,.i n] [] (Is (oT (iT g s (1,n)))):=by refine Yg Km ?_;simp[Km,gg.cells];refine Yc (f240 g hg.jB s.p.side n s.cur) ?_;simp;refine gj.c rfl rfl (f241 { s with cur:=l5 g s.p.side n s.cur } (decide (0<=l5 g s.p.side n s.cur))) (by simp[gg.cells]) (by simp) ?_;simp[iT]
theorem f201(g:fY)(hg:gN g)(s:gg)(hs:kd g s)(n:Int):Wf T 302 [.agg s.cells,dG g,.i n] [] (Is (oT (iT g s (3,n)))):=by have b:=hs.p.size;have a:=hs.cur;refine Yg Kp ?_;simp[Kp,gg.cells];refine fQ ?_;refine iW.c rfl rfl (f241 s (decide (gt s.p.cs s.cur=0))) (by simp[gg.cells]) (by simp) ?_;simp[iT]
theorem f202(g:fY)(hg:gN g)(s:gg)(hs:kd g s)(n:Int):Wf T 303 [.agg s.cells,dG g,.i n] [] (Is (oT (iT g s (4,n)))):=by have c:=hs.p.size;have a:=hs.cur;have b:=hs.p.side;refine Yg Kq ?_;simp[Kq,gg.cells];refine gj.c rfl rfl (f243 s (by omega) (hs.p.small hg)) (by simp[gg.cells]) (by simp) ?_;simp;refine fQ ?_;refine gj.c rfl rfl (f241 s (decide (jS (gt s.p.cs s.cur)=1-s.p.side))) (by simp[gg.cells]) (by simp) ?_;simp[iT]
theorem f203(g:fY)(hg:gN g)(s:gg)(hs:kd g s)(n:Int):Wf T 304 [.agg s.cells,dG g,.i n] [] (Is (oT (iT g s (5,n)))):=by have b:=hs.p.size;have a:=hs.cur;refine Yg Kr ?_;simp[Kr,gg.cells];refine gj.c rfl rfl (f243 s (by omega) (hs.p.small hg)) (by simp[gg.cells]) (by simp) ?_;simp;refine gj.c rfl rfl (f241 s (decide (jS (gt s.p.cs s.cur)=s.p.side))) (by simp[gg.cells]) (by simp) ?_;simp[iT]
theorem f206(g:fY)(s:gg)(n:Int):Wf T 307 [.agg s.cells,dG g,.i n] [] (Is (oT (iT g s (8,n)))):=by refine Yg Kt ?_;simp[Kt,gg.cells];rfl
theorem f207(g:fY)(hg:gN g)(s:gg)(hs:kd g s)(n:Int)(c:0<=n/\n<g.gD):Wf T 308 [.agg s.cells,dG g,.i n] [] (Is (oT (iT g s (9,n)))):=by have b:=hs.p.gD;have a:=hg.gD;have e:=Ed a.1 (by omega);have d:=aaf (r:=s.p.gD) (n:=n) b.1 (by omega) c.1 (by omega);refine Yg Ku ?_;simp[Ku,gg.cells];refine fQ ?_;refine iW.c rfl rfl (f241 s (decide (bits BinOp.and IntKind.i64 (mj IntKind.i64 s.p.gD n) 1=1))) (by simp[gg.cells]) (by simp) ?_;simp[iT,d]
theorem f208(g:fY)(hg:gN g)(s:gg)(hs:kd g s)(n:Int)(d:0<=n/\n<g.gD):Wf T 309 [.agg s.cells,dG g,.i n] [] (Is (oT (iT g s (10,n)))):=by have c:=hs.p.gD;have b:=hg.gD;have e:=Ed b.1 (by omega);have a:=aag (r:=s.p.gD) (n:=n) c.1 (by omega) d.1 (by omega);refine Yg Kv ?_;simp[Kv,gg.cells,a];refine jH a ?_;rfl
theorem f205(g:fY)(hg:gN g)(s:gg)(hs:kd g s)(n:Int):Wf T 306 [.agg s.cells,dG g,.i n] [] (Is (oT (iT g s (7,n)))):=by
 have i:=hs.p.size;have a:=hs.cur;have b:=hs.p.small hg;have c:=hg.jB.size;have k:=hg.kinds;have f:=hs.p.h0.len;have d:=hs.p.h1.len;have j:=hg.jB.to s.p.side n s.cur;have e:iT g s (7,n)=tP g s n:=by simp[iT]
 rw[e];refine Yg Ks ?_;simp[Ks,gg.cells];refine Yc (f240 g hg.jB s.p.side n s.cur) ?_;simp;(with_reducible repeat' first|refine Xk ?_<;>try simp|refine Xs ?_ ?_<;>intro h<;>(try intro m)<;>(try simp[h])<;>try omega|refine Xg ?_|omega)
 .rw[tP,if_pos (by simp_all)];rfl
 .rw[tP,if_pos (by simp_all)];rfl
 .have q0:=iH (l:=s.p.cs) (n:=l5 g s.p.side n s.cur) (v:=gt s.p.cs s.cur) (by omega) (by omega);have q1:=iH (l:=pt s.p.cs (l5 g s.p.side n s.cur) (gt s.p.cs s.cur)) (n:=s.cur) (v:=0) a.1 (by omega);refine Yn (f91 s b (by omega)) ?_;simp;refine kM q0 q1 ?_;simp[tP, *];rfl
 .rw[tP,if_pos (by simp_all)];rfl
theorem f204(g:fY)(hg:gN g)(s:gg)(hs:kd g s)(n:Int):Wf T 305 [.agg s.cells,dG g,.i n] [] (Is (oT (iT g s (6,n)))):=by
 have u:=hs.p.size;have c:=hs.cur;have d:=hs.p.small hg;have o:=hg.jB.size;have f:=hg.kinds;have r:=hs.p.h0.len;have q:=hs.p.h1.len;have i:=hs.p.cs _ (gq c.1 (by omega));have t:=hs.p.side;have e:iT g s (6,n)=sX g s:=by simp[iT]
 rw[e];refine Yz EV (iO 52 [2,3,4] EV.body) ?_;simp[EV,iO,kh,mN,mQ,nf,lK,gg.cells];refine gj.c rfl rfl (f243 s (by omega) d) (by simp[gg.cells]) (by simp) ?_;simp
 by_cases a:jS (gt s.p.cs s.cur)=1-s.p.side
 .have x:0<=gC (gt s.p.cs s.cur):=by
   unfold jS at a;unfold gC;split at a<;>rename_i k
   .rw[if_pos k];omega
   .omega
  have w:gC (gt s.p.cs s.cur)<g.kinds.length:=yf i.2 f.1;have m:s.p.side=0\/s.p.side=1:=by omega
  have q0:=iH (l:=s.p.cs) (n:=s.cur) (v:=0) c.1 (by omega);simp[a];refine fQ ?_;refine Yn (f91 s d (by omega)) ?_;simp;refine LD q0 ?_ ?_<;>intro h
  .have b:=h;rcases m with e|e
   .have j:=hs.p.h0.at_ _ (by omega) (show gC (gt s.p.cs s.cur)<s.p.h0.length by omega);have q1:=Da (l:=s.p.h0) (n:=gC (gt s.p.cs s.cur)) (v:=gt s.p.h0 (gC (gt s.p.cs s.cur))+1) (by omega) (by omega);have q2:=iH (l:=s.p.h0) (n:=gC (gt s.p.cs s.cur)) (v:=gt s.p.h0 (gC (gt s.p.cs s.cur))+1) (by omega) (by omega);simp[e,q0,q1,q2];refine qJ q0 q1 q2 ?_;refine iW.c rfl rfl (f241 { p:={ s.p with cs:=pt s.p.cs s.cur 0,h0:=pt s.p.h0 (gC (gt s.p.cs s.cur)) (gt s.p.h0 (gC (gt s.p.cs s.cur))+1),side:=0 },kind:=s.kind,cur:=s.cur,jF:=true } (decide (gt s.p.h0 (gC (gt s.p.cs s.cur))+1<=8))) (by simp[gg.cells]) (by simp) ?_;simp[sX,a,b,Pos.hand,Pos.mM,e];done
   .have j:=hs.p.h1.at_ _ (by omega) (show gC (gt s.p.cs s.cur)<s.p.h1.length by omega);have q1:=Da (l:=s.p.h1) (n:=gC (gt s.p.cs s.cur)) (v:=gt s.p.h1 (gC (gt s.p.cs s.cur))+1) (by omega) (by omega);have q2:=iH (l:=s.p.h1) (n:=gC (gt s.p.cs s.cur)) (v:=gt s.p.h1 (gC (gt s.p.cs s.cur))+1) (by omega) (by omega);simp[e,q0,q1,q2];refine qJ q0 q1 q2 ?_;refine iW.c rfl rfl (f241 { p:={ s.p with cs:=pt s.p.cs s.cur 0,h1:=pt s.p.h1 (gC (gt s.p.cs s.cur)) (gt s.p.h1 (gC (gt s.p.cs s.cur))+1),side:=1 },kind:=s.kind,cur:=s.cur,jF:=true } (decide (gt s.p.h1 (gC (gt s.p.cs s.cur))+1<=8))) (by simp[gg.cells]) (by simp) ?_;simp[sX,a,b,Pos.hand,Pos.mM,e];done
  .simp[sX,a,h,q0];rfl
 .simp[a];refine fQ ?_;rw[sX,if_pos a];rfl
theorem f259(g:fY)(s d c:Int):Wf T 331 [g.jB,.i s,.i d,.i c] [] (Is (.fn (.func 335) [] [.gi [.i g.size,.sl 1 (g.next.map fI),dI g.jn],.gi [.i s],.gi [.i d],.gi [.i c]])):=by refine Yg KR ?_;simp[KR]
theorem f266(l:List Int)(n:Int)(hl:l.length<2 ^ 40):Wf T 336 [dI l,.i n] [] (Ey (λr:Int=>.i r) λr=>0<=r↔n∈l):=by
 refine Yg CD ?_;simp[CD];refine fZ.e (0:Int) (λy=>[(0,dI l),(1,.i n),(7,.i l.length),(8,.i y)]) (λy=>[]) (λy=>0<=y/\y<=l.length/\n ∉ l.take y.toNat) (λy=>(l.length-y).toNat) ?_ ?_
 .simp
 rintro i ⟨i0,b,a⟩
 by_cases hi:i<l.length
 .simp[hi];refine jU ?_ ?_<;>intro h
  .exact Ey.i i rfl rfl ⟨λ_=>by have:=gq i0 hi;simp_all,λ_=>i0⟩
  .refine LJ.e (i+1) ?_;refine gI ?_;rw[jd i0 hi];simp[a];omega
 .simp[hi];rw[kW (by omega)]at a;exact Ey.i (-1) rfl rfl ⟨λh=>by omega,λh=>absurd h a⟩
theorem f260(l:List Int)(n:Int)(hl:l.length<2 ^ 40):Wf T 332 [dI l,.i n] [] (Is (.b (decide (n∈l)))):=by refine Yg CA ?_;simp[CA];refine Yq (f266 l n hl) λr a=>?_;simp;simp[a]
theorem aen(n:Int):Wf T 336 [.fX,.i n] [] (Is (.i (-1))):=by refine Yg CD ?_;simp[CD];refine fZ.un ?_;refine kH.u ?_;simp
theorem aem(n:Int):Wf T 332 [.fX,.i n] [] (Is (.b false)):=by refine Yg CA ?_;simp[CA];refine Yc (aen n) ?_;simp
theorem f265(g:fY)(hg:oo g)(s d c:Int):Wf T 335 [.iP 4,.gi [.i g.size,.sl 1 (g.next.map fI),dI g.jn],.gi [.i s],.gi [.i d],.gi [.i c]]
  [.row 39 0 [.i g.size,.sl 1 (g.next.map fI),dI g.jn],.row 3 0 [.i c],.row 37 0 [.fX],.jv,.ia 20736 [(7,.ptr 1 0 0),(9,.ptr 2 0 0)] .ready]
  (λ_ H'=>∃st,(st = .ready\/st = .y6 0)/\H' = [.row 39 0 [.i g.size,.sl 1 (g.next.map fI),dI g.jn],.row 3 0 [.i c],.row 37 0 [if lk g s d c = []then .fX else .fM 5 ((lk g s d c).length-1) 1 0 (lk g s d c).length],.jv,.ia 20736 [(7,.ptr 1 0 0),(9,.ptr 2 0 0)] st]++(if lk g s d c = []then []else [.row 3 ((lk g s d c).length-1) (cl f1 (lk g s d c))])):=by
 have r:=hg.size;refine Yg KU ?_;simp[KU];refine Yr (f240 g hg s d c) ?_;simp;refine fZ.e ((0,l5 g s d c,[]):Nat×Int×List Int) (λx=>[(0,.iP 4),(1,.gi [.i g.size,.sl 1 (g.next.map fI),dI g.jn]),(2,.gi [.i s]),(3,.gi [.i d]),(6,.i x.2.1)]) (λx=>[.row 39 0 [.i g.size,.sl 1 (g.next.map fI),dI g.jn],.row 3 0 [.i c],.row 37 0 [if x.2.2 = []then .fX else .fM 5 (x.2.2.length-1) 1 0 x.2.2.length],.jv,.ia 20736 [(7,.ptr 1 0 0),(9,.ptr 2 0 0)] .ready]++(if x.2.2 = []then []else [.row 3 (x.2.2.length-1) (cl f1 x.2.2)])) (λx=>x.1=x.2.2.length/\x.2.1<g.size/\x.2.2.Nodup/\(∀y∈x.2.2,0<=y/\y<g.size)/\lk g s d c=tG g s d c (10-x.1) x.2.1 x.2.2) (λx=>10-x.1) ?_ ?_
 .have:=hg.to s d c;simp[lk];omega
 rintro⟨m,x,out⟩ ⟨h0,h1,o,n,l⟩;dsimp only at h0 h1 o n l ⊢;have q:out.length<=9:=zV 9 out o (λy k=>by have:=n y k;omega);have e:=l;rw[show 10-m=(9-m)+1 by omega,tG]at e;have j:=hg.to s d x
 by_cases i:out = []
 .subst i
  by_cases b:0<=x
  .simp[b];refine qc.r (rf:=20736) (env0:=[(7,.ptr 1 0 0),(9,.ptr 2 0 0)]) (Rd:=wh) (by simp) rfl rfl wh.a wh.b (om rfl) (om rfl) ?_;simp[wh]
   by_cases a:x=c
   .have f:lk g s d c = []:=by rw[e,if_neg (λh=>h.2.1 a)]
    simp[a,f]
   .have p:lk g s d c=tG g s d c (9-m) (l5 g s d x) [x]:=by rw[e,if_pos ⟨b,a,by simp⟩];rfl
    simp[a];refine Yc (aem x) ?_;simp;refine fQ ?_;refine Yr (f240 g hg s d x) ?_;simp;refine LJ.i (m+1,l5 g s d x,[x]) (by first|rfl|simp[iI]) (by first|rfl|simp[iI]) rfl rfl ?_;dsimp only;refine⟨by simp at h0;omega,by simp at h0;simp;omega,j.2,by simp,by simp;omega,?_⟩;rw[p];congr 1;omega
  .have f:lk g s d c = []:=by rw[e,if_neg (λh=>b h.1)]
   simp[b,f]
 .simp only[if_neg i,bQ,bp]
  by_cases b:0<=x
  .simp[b];refine qc.r (rf:=20736) (env0:=[(7,.ptr 1 0 0),(9,.ptr 2 0 0)]) (Rd:=wh) (by simp) rfl rfl wh.a wh.b (om rfl) (om rfl) ?_;simp[wh]
   by_cases a:x=c
   .have f:lk g s d c=out:=by rw[e,if_neg (λh=>h.2.1 a)]
    simp[a,f,i]
   .simp[a];refine Yr (f260 out x (by omega)) ?_;simp;refine X2.z a ?_;simp
    by_cases gy:x∈out
    .have f:lk g s d c=out:=by rw[e,if_neg (λh=>h.2.2 gy)]
     simp[gy,f,i]
    .have p:lk g s d c=tG g s d c (9-m) (l5 g s d x) (out ++ [x]):=by rw[e,if_pos ⟨b,a,gy⟩]
     have hl:0<out.length:=ax.2 i;simp[gy];refine fQ ?_;refine Yr (f240 g hg s d x) ?_;simp;refine LJ.i (m+1,l5 g s d x,out ++ [x]) (by first|rfl|simp[show out.length-1+1=out.length by omega]) (by first|rfl|simp[show out.length-1+1=out.length by omega]) rfl rfl ?_;dsimp only;refine⟨by omega,by simp;omega,j.2,?_,λy k=>?_,?_⟩
     .grind
     .grind
     .grind
  .have f:lk g s d c=out:=by rw[e,if_neg (λh=>b h.1)]
   simp[b,f,i]
theorem f242(g:fY)(hg:oo g)(s d c:Int):Wf T 324 [g.jB,.i s,.i d,.i c] [] (Is (dN 1 f1 (lk g s d c))):=by
 refine Yg KF ?_;simp[KF];refine Yc (f259 g s d c) ?_;simp;refine sZ.r (f:=335) (first:=[]) (cap:=[.gi [.i g.size,.sl 1 (g.next.map fI),dI g.jn],.gi [.i s],.gi [.i d],.gi [.i c]]) rfl rfl rfl rfl ?_;simp;refine Wf.mono (f265 g hg s d c) ?_;rintro _ H' ⟨st,b,rfl⟩;refine⟨[(7,.ptr 1 0 0),(9,.ptr 2 0 0)],st,by simp,?_⟩
 by_cases h:lk g s d c = []
 .rcases b with rfl|rfl
  .simp[h];rfl
  .simp[h];rfl
 .have e:dI (lk g s d c)=dN 1 f1 (lk g s d c):=by
   revert h
   cases lk g s d c with
   | nil=>intro h;exact absurd rfl h
   | cons a r=>intro _;rfl
  rcases b with rfl|rfl
  .simp[h,e]
  .simp[h,e]
@[simp] theorem asm(l:List Int):closed (dN 1 f1 l)=true:=AB (λa=>by simp[gw]) l
theorem Pz{l:List gg}(h:l≠[]):kq l=oT l:=by
 cases l with
 | nil=>exact absurd rfl h
 | cons a r=>rfl
theorem f200(g:fY)(hg:gN g)(s:gg)(hs:kd g s)(n:Int):Wf T 301 [.agg s.cells,dG g,.i n] [] (Is (oT (iT g s (2,n)))):=by
 have m:=hs.p.size;have k:=hg.jB.size;have e:iT g s (2,n)=pX s (lk g s.p.side n s.cur):=by simp[iT]
 have gy:∀y∈lk g s.p.side n s.cur,0<=y/\y<g.size:=λy j=>R9 hg.jB j;have d:(lk g s.p.side n s.cur).length<=10:=Sa;rw[e];refine Yg Ko ?_;simp[Ko,gg.cells];refine Yc (f242 g hg.jB s.p.side n s.cur) ?_;simp;generalize lk g s.p.side n s.cur=l at *;refine fZ.e ((0,[]):Int×List gg) (λy=>[(3,.ptr 0 0 0),(7,if y.1=0 then .fX else .fM 2 (y.2.length-1) 8 0 y.2.length),(19,dN 1 f1 l),(20,.i l.length),(21,.i y.1)]) (λy=>.row 330 0 s.cells :: .row 43 0 g.cells::(if y.1=0 then []else [.row 330 (y.2.length-1) (cl gg.cells y.2)])) (λy=>0<=y.1/\y.1<=l.length/\y.2.length=y.1.toNat/\pX s l=y.2++pX s (l.drop y.1.toNat)) (λy=>(l.length-y.1).toNat) ?_ ?_
 .simp
 rintro⟨i,st⟩ ⟨i0,f,c,a⟩;dsimp only at i0 f c a ⊢
 by_cases hi:i<l.length
 .have o:=gy _ (gq i0 hi);rw[nN i0 hi,pX]at a
  by_cases b:i=0
  .have:st = []:=ay.1 (by omega);subst b;subst this;simp[hi,gg.cells];(with_reducible repeat' first|refine Xk ?_<;>try simp|refine Xs ?_ ?_<;>intro h<;>(try intro p)<;>(try simp[h])<;>try omega|refine Xg ?_|omega)
   .refine LJ.i (1,[{ s with cur:=gt l 0 }]) (by first|rfl|simp[iI,gg.cells]) (by first|rfl|simp[iI,gg.cells]) rfl rfl ?_;refine gI ⟨rfl,?_⟩;rw[a,if_pos h];rfl
   .rw[a,if_neg h];rfl
  .have hl:0<st.length:=by omega
   rw[if_neg b,if_neg b];simp[hi,gg.cells];refine jU ?_ ?_<;>intro h
   .refine LJ.i (i+1,st ++ [{ s with cur:=gt l i }]) (by first|rfl|simp[show¬(i+1=0)by omega,show st.length-1+1=st.length by omega,gg.cells]) (by first|rfl|simp[show¬(i+1=0)by omega,show st.length-1+1=st.length by omega,gg.cells]) rfl rfl ?_;refine⟨by dsimp only;omega,by dsimp only;omega,by dsimp only;omega,by simp;omega,?_⟩;rw[a,if_pos h,show(i+1).toNat=i.toNat+1 by omega];simp
   .rw[a,if_neg h,<-Pz (by simp)];simp[kq,gg.cells]
 .rw[bR (by omega),pX,az]at a
  by_cases b:i=0
  .have:st = []:=ay.1 (by omega);subst b;subst this;simp[show¬ 0<l.length by omega,gg.cells];rw[a];rfl
  .rw[if_neg b,if_neg b];simp[hi,gg.cells];rw[a,Pz (by intro h;rw[h]at c;simp at c;omega)]
theorem f164(g:fY)(hg:gN g)(s:gg)(hs:kd g s)(x:fO)(b:Fb g x):Wf T 286 [dG g,.agg s.cells,.agg [.i x.1,.i x.2]] [] (Is (oT (iT g s x))):=by
 obtain⟨k,n⟩:=x;have a:=b.ok;dsimp only at a ⊢;rcases(show k=1\/k=2\/k=3\/k=4\/k=5\/k=6\/k=7\/k=8\/k=9\/k=10 by omega)with rfl|rfl|rfl|rfl|rfl|rfl|rfl|rfl|rfl|rfl
 all_goals
  refine Yg J6 ?_;simp[J6,gg.cells]
 .refine iW.c rfl rfl (f199 g hg s hs n) (by simp) (by simp) ?_;simp
 .refine iW.c rfl rfl (f200 g hg s hs n) (by simp) (by simp) ?_;simp
 .refine iW.c rfl rfl (f201 g hg s hs n) (by simp) (by simp) ?_;simp
 .refine iW.c rfl rfl (f202 g hg s hs n) (by simp) (by simp) ?_;simp
 .refine iW.c rfl rfl (f203 g hg s hs n) (by simp) (by simp) ?_;simp
 .refine iW.c rfl rfl (f204 g hg s hs n) (by simp) (by simp) ?_;simp
 .refine iW.c rfl rfl (f205 g hg s hs n) (by simp) (by simp) ?_;simp
 .refine iW.c rfl rfl (f206 g s n) (by simp) (by simp) ?_;simp
 .refine iW.c rfl rfl (f207 g hg s hs n (by omega)) (by simp) (by simp) ?_;simp
 .refine iW.c rfl rfl (f208 g hg s hs n (by omega)) (by simp) (by simp) ?_;simp
@[simp] theorem aqv(t sz bytes:Nat)(z:List D)(m:Int)(a:Nat):LG t sz bytes z .fX (.val (.int .i64 m)) a=if 0<m/\qj (m*bytes) 140737488355328/\qj m 9223372036854775807 then some (.fM a 0 sz 0 m.toNat,.new (.row t 0 (List.replicate m.toNat z).flatten))else none:=rfl
theorem f191(n:Int)(a:0<n/\n<1000):Wf T 212 [.fX,.i n] [] (λd H=>d = .fM 0 0 1 0 0/\H = [.row 3 0 (cl f1 (List.replicate n.toNat 0))]):=by refine Yg Kh ?_;simp[Kh];exact mE
@[irreducible] def fl(l:List (List Int)):List Int:=l.flatten
theorem za(l:List (List Int)):fl l=l.flatten:=by unfold fl;rfl
@[simp] theorem as7:fl [] = []:=by simp[za]
theorem Wj{l:List (List Int)}{i:Int}(h0:0<=i)(h:i<l.length):fl (l.take (i+1).toNat)=fl (l.take i.toNat)++gt l i:=by rw[jd h0 h];simp[za]
theorem Wi(l:List (List Int))(n:Nat):(fl (l.take n)).length<=(fl l).length:=by
 simp only[za]
 conv=>rhs;rw[<-bU n l]
 simp only[eH,aj];omega
theorem f148(l:List (List Int))(hl:l.length<=10)(m:0<(fl l).length/\(fl l).length<1000):Wf T 147 [.sl 1 (l.map fI)] [] (λd H=>d = .fM 0 l.length 1 0 (fl l).length/\H = [.row 3 l.length (cl f1 (fl l))]):=by
 have p:0<l.length:=by
  cases l with
  | nil=>simp at m
  | cons a r=>simp
 refine Yg J1 ?_;simp[J1];refine fZ.e (0:Int) (λi=>[(0,.sl 1 (l.map fI)),(3,.i (fl (l.take i.toNat)).length),(9,.sl 1 (l.map fI)),(10,.i l.length),(11,.i i)]) (λi=>[]) (λi=>0<=i/\i<=l.length) (λi=>(l.length-i).toNat) ?_ ?_
 .simp
 rintro i ⟨i0,n⟩
 by_cases hi:i<l.length
 .have h1:=Wj i0 hi;have c:=Wi l (i+1).toNat;rw[h1,aj]at c;simp[hi];(with_reducible repeat' first|refine Xk ?_<;>try simp|refine Xs ?_ ?_<;>intro h<;>(try intro o)<;>(try simp[h])<;>try omega|refine Xg ?_|omega);refine LJ.i (i+1) (by first|rfl|simp[h1]) (by first|rfl|simp[h1]) rfl rfl ?_;exact l4
 .have f:(l.take i.toNat)=l:=kW (by omega);simp[hi,f];refine Yn (f191 (fl l).length (by omega)) ?_;simp;refine fZ.e (0:Int) (λj=>[(6,.fM 0 j.toNat 1 0 (fl (l.take j.toNat)).length),(25,.sl 1 (l.map fI)),(26,.i l.length),(27,.i j)]) (λj=>[.row 3 j.toNat (if j=0 then cl f1 (List.replicate (fl l).length 0)else cl f1 (fl (l.take j.toNat)))]) (λj=>0<=j/\j<=l.length) (λj=>(l.length-j).toNat) ?_ ?_
  .simp
  rintro j ⟨j0,j1⟩
  by_cases b:j<l.length
  .have h1:=Wj j0 b;have c:=Wi l (j+1).toNat;rw[h1,aj]at c
   by_cases g:j=0
   .subst g;simp at h1 c;simp[b];refine fQ ?_;refine LJ.i (1) (by first|rfl|simp[h1]) (by first|rfl|simp[h1]) rfl rfl ?_;exact l4
   .rw[if_neg g];simp[b];refine fQ ?_;have e:(j+1).toNat=j.toNat+1:=by omega
    rw[e]at h1;refine LJ.i (j+1) (by first|rfl|simp[h1,e,show¬(j+1=0)by omega]) (by first|rfl|simp[h1,e,show¬(j+1=0)by omega]) rfl rfl ?_;exact l4
  .have f:(l.take j.toNat)=l:=kW (by omega);have k:j.toNat=l.length:=by omega
   rw[if_neg (by omega)];simp[b,f,k]
@[irreducible] def nV(p:Pos):List Int:=fl [p.cs,p.h0,p.h1,[p.gD,p.side]]
theorem BI(p:Pos):nV p=fl [p.cs,p.h0,p.h1,[p.gD,p.side]]:=by unfold nV;rfl
def oh(p:Pos):ByteArray:=((nV p).map λn=>IntKind.u8.wrap n).foldl (λr n=>r.push (UInt8.ofNat n.toNat)) ByteArray.empty
@[simp] theorem ace(l:List Int)(n:Int):cl fU l ++ [.val (.int .u8 n)]=cl fU (l ++ [n]):=by rw[<-pL,y8]
@[simp] theorem abV:∀l:List Int,bytesOf (cl fU l)=some l
 | []=>by simp[bytesOf]
 | a::r=>by rw[mO,y8,fy,bytesOf,abV r]
theorem f101(p:Pos)(h:0<p.cs.length)(hl:(nV p).length<1000):Wf T 93 [dP p] [] (Is (.val (.string (oh p)))):=by
 have f:0<(nV p).length:=by simp[BI,za];omega
 have d:=f148 [p.cs,p.h0,p.h1,[p.gD,p.side]] (by simp) (by rw[<-BI];exact⟨f,hl⟩);rw[<-BI]at d;refine Yg IN ?_;simp[IN];refine gj.nr rfl rfl d (by simp[mG,chunks];unfold dI;simp only[List.map_cons,List.map_nil,C6]) (by simp) (by simp) ?_;simp;refine fZ.e (0:Int) (λy=>[(3,if y=0 then .fX else .fM 4 (y.toNat-1) 1 0 y.toNat),(20,.fM 3 4 1 0 (nV p).length),(21,.i (nV p).length),(22,.i y)]) (λy=>[.row 46 0 p.cells,.row 3 0 [.i p.gD,.i p.side],.row 37 0 [dI p.cs,dI p.h0,dI p.h1,.fM 1 0 1 0 2],.row 3 4 (cl f1 (nV p))]++(if y=0 then []else [.row 5 (y.toNat-1) (cl fU (((nV p).take y.toNat).map λn=>IntKind.u8.wrap n))])) (λy=>0<=y/\y<=(nV p).length) (λy=>((nV p).length-y).toNat) ?_ ?_
 .simp
 rintro i ⟨i0,k⟩
 by_cases hi:i<(nV p).length
 .have a:(List.take (i.toNat+1) (nV p)).map (λn=>IntKind.u8.wrap n)=(List.take i.toNat (nV p)).map (λn=>IntKind.u8.wrap n) ++ [IntKind.u8.wrap (gt (nV p) i)]:=by rw[<-show(i+1).toNat=i.toNat+1 by omega,jd i0 hi];simp
  have b:(i+1).toNat=i.toNat+1:=by omega
  by_cases c:i=0
  .rw[if_pos c,if_pos c];have g:i.toNat=0:=by omega
   rw[g]at a b;simp at a;simp[hi];refine fQ ?_;refine LJ.i (i+1) (by first|rfl|simp[show¬(i+1=0)by omega,b,a,iI]) (by first|rfl|simp[show¬(i+1=0)by omega,b,a,iI]) rfl rfl ?_;exact l4
  .rw[if_neg c,if_neg c];simp[hi];refine fQ ?_;have e:i.toNat-1+1=i.toNat:=by omega
   simp at a;refine LJ.i (i+1) (by first|rfl|simp[show¬(i+1=0)by omega,b,a,e,dR]) (by first|rfl|simp[show¬(i+1=0)by omega,b,a,e,dR]) rfl rfl ?_;exact l4
 .rw[if_neg (by omega),if_neg (by omega)];have j:i.toNat=(nV p).length:=by omega
  simp[hi,CR,j];rfl
set_option maxRecDepth 100000
def FN(n:Int):ByteArray:=⟨#[UInt8.ofNat (48+n.toNat)]⟩
theorem f209(n:Int)(a:0<=n/\n<=9):Wf T 310 [.i n] [] (Is (.val (.string (FN n)))):=by
 rcases(show n=0\/n=1\/n=2\/n=3\/n=4\/n=5\/n=6\/n=7\/n=8\/n=9 by omega)with rfl|rfl|rfl|rfl|rfl|rfl|rfl|rfl|rfl|rfl
 all_goals exact oL (k:=100) (by kernel_rfl)
def yR(b:Bool):ByteArray:=if b then⟨#[116,114,117,101]⟩else⟨#[102,97,108,115,101]⟩
theorem f210(b:Bool):Wf T 311 [.b b] [] (Is (.val (.string (yR b)))):=by
 cases b
 .exact oL (k:=100) (by kernel_rfl)
 .exact oL (k:=100) (by kernel_rfl)
@[simp] theorem ayC(a b:ByteArray):EB .add a b=if qj ((a.size+b.size:Nat):Int) 9223372036854775807 then some (.val (.string (a++b)))else none:=rfl
theorem foldl_push(l:List Int):∀r:ByteArray,(l.foldl (λr n=>r.push (UInt8.ofNat n.toNat)) r).data.toList=r.data.toList++l.map λn=>UInt8.ofNat n.toNat:=by
 induction l with
 | nil=>intro r;simp
 | cons a l b=>intro r;rw[b7,b];simp[ByteArray.push]
theorem Yy(p:Pos):(oh p).data.toList=(nV p).map λn=>UInt8.ofNat (IntKind.u8.wrap n).toNat:=by unfold oh;rw[foldl_push];simp[ByteArray.empty,ByteArray.emptyWithCapacity];rfl
@[simp] theorem auu(p:Pos):(oh p).size=(nV p).length:=by show(oh p).data.size=_;rw[<-c9,Yy,List.length_map]
@[simp] theorem ax7(a:Array UInt8):ByteArray.size ⟨a⟩=a.size:=rfl
@[simp] theorem asL(n:Int):(FN n).size=1:=rfl
@[simp] theorem abP(b:Bool):(yR b).size<=5:=by cases b<;>decide
def oD(s:gg):ByteArray:=FN s.kind++⟨#[32]⟩++FN s.cur++⟨#[32]⟩++yR s.jF++⟨#[32]⟩++oh s.p
theorem f165(s:gg)(h1:0<=s.kind/\s.kind<=9)(a:0<=s.cur/\s.cur<=9)(h:0<s.p.cs.length)(hl:(nV s.p).length<1000):Wf T 287 [.agg s.cells] [] (Is (.val (.string (oD s)))):=by have b:=abP s.jF;refine Yg J7 ?_;simp[J7,gg.cells];refine Yt (f209 s.kind h1) ?_;simp;refine fQ ?_;refine Yt (f209 s.cur a) ?_;simp;refine fQ ?_;refine Yt (f210 s.jF) ?_;simp;refine fQ ?_;refine Yt (f101 s.p h hl) ?_;simp;refine fQ ?_;rfl
theorem ofNat_inj{m n:Nat}(b:m<256)(a:n<256)(h:UInt8.ofNat m=UInt8.ofNat n):m=n:=by have:=congrArg UInt8.toNat h;simp only[UInt8.toNat_ofNat']at this;omega
theorem aa8{n:Int}(h:0<=n/\n<256):IntKind.u8.wrap n=n:=by simp only[IntKind.wrap,IntKind.bits,IntKind.signed];simp;omega
theorem Y':∀ {a b:List Int},(∀n∈a,0<=n/\n<256)->(∀n∈b,0<=n/\n<256)->(a.map λn=>UInt8.ofNat (IntKind.u8.wrap n).toNat)=(b.map λn=>UInt8.ofNat (IntKind.u8.wrap n).toNat)->a=b
 | [],[],_,_,_=>rfl
 | [],_::_,_,_,h=>by simp at h
 | _::_,[],_,_,h=>by simp at h
 | x::a,y::b,ha,hb,h=>by simp only[List.map_cons,de]at h;have f:=ha x (by simp);have d:=hb y (by simp);rw[aa8 f,aa8 d]at h;have e:=ofNat_inj (by omega) (by omega) h.1;rw[Y' (λn c=>ha n (by simp[c])) (λn c=>hb n (by simp[c])) h.2,show x=y by omega]
theorem RY{g:fY}(hg:gN g){p:Pos}(b:ij g p):∀n∈nV p,0<=n/\n<256:=by
 have e:=hg.kinds;have d:=hg.gD;have f:=Ed d.1 (by omega)
 have c:∀ {l:List Int},rN g l->∀n∈l,0<=n/\n<256:=λ{l} h n a=>by obtain⟨i,h0,h1,rfl⟩:=vL.1 a;have:=h.at_ i h0 h1;omega
 intro n a;rw[BI,za]at a;simp only[aX,ei,List.mem_append,aw,ef,or_false]at a;have j:=b.gD;have k:=b.side;rcases a with a|a|a|rfl|rfl
 .have:=b.cs n a;omega
 .exact c b.h0 n a
 .exact c b.h1 n a
 .omega
 .omega
theorem agm{g:fY}{p q:Pos}(b:ij g p)(a:ij g q)(h:nV p=nV q):p=q:=by rw[BI,BI,za,za]at h;simp only[aX,ei,az]at h;have k:=b.size;have j:=a.size;have i:=b.h0.len;have b2:=a.h0.len;have f:=b.h1.len;have c2:=a.h1.len;obtain⟨e,h⟩:=ft h (by omega);obtain⟨d,h⟩:=ft h (by omega);obtain⟨c,h⟩:=ft h (by omega);simp only[de,and_true]at h;cases p;cases q;simp_all
theorem Yx{g:fY}(hg:gN g){p q:Pos}(c:ij g p)(a:ij g q)(h:oh p=oh q):p=q:=by have d:=congrArg (λb:ByteArray=>b.data.toList) h;simp only[Yy]at d;exact agm c a (Y' (RY hg c) (RY hg a) d)
theorem agn(s:gg):(oD s).data.toList=UInt8.ofNat (48+s.kind.toNat)::32::UInt8.ofNat (48+s.cur.toNat)::32::((yR s.jF).data.toList++32::(oh s.p).data.toList):=by unfold oD FN;simp
theorem YD{g:fY}(hg:gN g){s t:gg}(hs:kd g s)(e:kd g t)(h:oD s=oD t):s=t:=by
 have i:=congrArg (λb:ByteArray=>b.data.toList) h;simp only[agn,de,true_and]at i;obtain⟨r,q,d⟩:=i;have w:=hg.kinds;have x:=hg.jB.size;have k1:=hs.kind;have k2:=e.kind;have v:=hs.cur;have u:=e.cur;have f1:=ofNat_inj (by omega) (by omega) r;have f2:=ofNat_inj (by omega) (by omega) q;obtain⟨p,k,c,b⟩:=s;obtain⟨a,l,c',j⟩:=t;dsimp only at *
 have f:b=j/\oh p=oh a:=by
  cases b<;>cases j
  .simp[yR]at d;exact⟨rfl,by cases n:oh p;cases m:oh a;simp_all [fo]⟩
  .simp[yR]at d
  .simp[yR]at d
  .simp[yR]at d;exact⟨rfl,by cases n:oh p;cases m:oh a;simp_all [fo]⟩
 have o:p=a:=Yx hg hs.p e.p f.2;rw[f.1,o,show k=l by omega,show c=c' by omega]
theorem NB(a b:ByteArray):nI (.string a) (.string b)=decide (a=b):=by obtain⟨a⟩:=a;obtain⟨b⟩:=b;show(a == b)=_;rw[Bool.eq_iff_iff,beq_iff_eq,decide_eq_true_iff,ByteArray.mk.injEq]
theorem Sk{g:fY}(hg:gN g){t:gg}(b:kd g t):∀ {l:List gg},(∀s∈l,kd g s)->qm (l.map λs=>((.string (oD s):Value),D.b true)) (.string (oD t))=if t∈l then some (.b true)else none
 | [],_=>by simp[qm]
 | a::l,h=>by
  rw[List.map_cons,qm,NB,Sk hg b λs hs=>h s (by simp[hs])]
  by_cases e:t=a
  .subst e;simp
  .have:¬oD t=oD a:=λk=>e (YD hg b (h a (by simp)) k);simp[this,e]
theorem Sr{g:fY}(hg:gN g){t:gg}(b:kd g t):∀ {l:List gg},(∀s∈l,kd g s)->t ∉ l->mg (l.map λs=>((.string (oD s):Value),D.b true)) (.string (oD t)) (.b true)=(l ++ [t]).map λs=>((.string (oD s):Value),D.b true)
 | [],_,_=>by simp[mg]
 | a::l,h,hn=>by simp only[aw,not_or]at hn;have:¬oD t=oD a:=λk=>hn.1 (YD hg b (h a (by simp)) k);rw[List.map_cons,mg,NB,Sr hg b (λs hs=>h s (by simp[hs])) hn.2];simp[this]
set_option maxRecDepth 10000
set_option maxHeartbeats 8000000
theorem gj.inl{T:il}{f:FuncId}{args:List D}{dst:Option Nat}{s:St}{K:St->Prop}(fn:je)(a:T.fn f=some fn)(c:fn.full=true)(hl:args.length<=fn.ntmps)(b:tL fn.body=true)
  (h:XC T fn.body { env:=tJ args,H:=s.H } (y9 fn.results fn.own s.H.length λd H'=>K { s with env:=put s.env dst d,H:=H' })):gj T f args dst s K .mk:=.inr ⟨fn,a,c,Wf.x a hl h b⟩
abbrev xN(g:fY)(p:Pos)(st:gg)(outs:D):U:=[.row 43 0 g.cells,.row 46 0 p.cells,.row 256 0 [outs],.row 43 0 g.cells,.row 46 0 p.cells,.dead,.dead,.dead,.row 330 0 st.cells,.dead]
theorem ad7(g:fY)(hg:gN g)(p:Pos)(e:ij g p)(st t:gg)(a:kd g t):Wf T 260 [.agg t.cells,.agg [.i 0,.i 0],.ptr 1 0 0,.ptr 2 0 0] (xN g p st .fX ++ [.row 330 0 t.cells])
  (λ_ H'=>match nZ p.side t with
   | none=>H'=xN g p st .fX ++ [.row 330 0 t.cells]
   | some o=>H'=xN g p st (.fM 11 0 6 0 1) ++ [.row 330 0 t.cells,.row 259 0 (cl gJ.cells [o])]):=by
 have m:=a.p.size;have c:=a.cur;have d:=a.p.small hg;have h:=hg.jB.size;have q:=hg.kinds;have j:=a.p.h0.len;have i:=a.p.h1.len;have b:=e.side;have f:=a.p.side;refine Yz su (iO 37 [13,14,15] su.body) ?_;simp[su,iO,kh,mN,mQ,nf,lK,xN,gg.cells]
 by_cases h0:gt t.p.cs t.cur=0
 .simp[h0];refine fQ ?_;refine Yn (f91 t d (by omega)) ?_;simp;refine fQ ?_;refine Yt (f92 (k:=t.kind) (s:=p.side) a.kind.1 (by have:=a.kind;omega) b.1 b.2) ?_;simp;refine fQ ?_;have q0:=iH (l:=t.p.cs) (n:=t.cur) (v:=1+2*t.kind+p.side) c.1 (by omega);simp[nZ,h0,lI,iI,q0]
 .simp[h0,nZ];exact mE
theorem ad8(g:fY)(hg:gN g)(p:Pos)(e:ij g p)(st t:gg)(a:kd g t)(outs:List gJ)(u:outs.length<2 ^ 39)(f:0<outs.length):Wf T 260 [.agg t.cells,.agg [.i 0,.i 0],.ptr 1 0 0,.ptr 2 0 0] (xN g p st (.fM 10 (outs.length-1) 6 0 outs.length) ++ [.row 259 (outs.length-1) (cl gJ.cells outs),.row 330 0 t.cells])
  (λ_ H'=>match nZ p.side t with
   | none=>H'=xN g p st (.fM 10 (outs.length-1) 6 0 outs.length) ++ [.row 259 (outs.length-1) (cl gJ.cells outs),.row 330 0 t.cells]
   | some o=>H'=xN g p st (.fM 10 (outs ++ [o]).length.pred 6 0 (outs ++ [o]).length) ++ [.row 259 (outs ++ [o]).length.pred (cl gJ.cells (outs ++ [o])),.row 330 0 t.cells]):=by
 have r:=a.p.size;have c:=a.cur;have d:=a.p.small hg;have j:=hg.jB.size;have w:=hg.kinds;have q:=a.p.h0.len;have m:=a.p.h1.len;have b:=e.side;have i:=a.p.side;refine Yz su (iO 37 [14,15,16] su.body) ?_;simp[su,iO,kh,mN,mQ,nf,lK,xN,gg.cells]
 by_cases h0:gt t.p.cs t.cur=0
 .simp[h0];refine fQ ?_;refine Yn (f91 t d (by omega)) ?_;simp;refine fQ ?_;refine Yt (f92 (k:=t.kind) (s:=p.side) a.kind.1 (by have:=a.kind;omega) b.1 b.2) ?_;simp;refine fQ ?_;have q0:=iH (l:=t.p.cs) (n:=t.cur) (v:=1+2*t.kind+p.side) c.1 (by omega);simp[nZ,h0,lI,q0];(with_reducible repeat' first|refine Xk ?_<;>try simp[show outs.length-1+1=outs.length by omega]|refine Xs ?_ ?_<;>intro h<;>(try intro x)<;>(try simp[h,show outs.length-1+1=outs.length by omega])<;>try omega|refine Xg ?_|omega)
 .simp[h0,nZ];exact mE
