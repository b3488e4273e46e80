/- Part 16 of DisputeSettles. -/
import Derived.Test.YtmehofoficaelaaGreatDoorS15
set_option linter.all false
namespace Go.Proofs.YtmehofoficaelaaGreatDoor
open Go Go.AL Classical
set_option maxRecDepth 10000
set_option maxHeartbeats 1000000
@[simp] theorem atT(n:Int)(nx:List (List Int))(tn:List Int):closed (bD n nx tn)=true:=by simp[bD]
theorem f104(w d c:Int)(g:0<=w/\w<256)(i:0<=d/\d<256)(j:0<=c/\c<256):Wf T 159 [.val (.int .u8 w),.val (.int .u8 d),.val (.int .u8 c)] [] (Ey (λx:Int×List (List Int)×List Int=>bD x.1 x.2.1 x.2.2) λx=>oM (CA x.1 x.2.1 x.2.2)):=by
 have w1:=jB (a:=w) (b:=3) g.1;have h1:=jB (a:=d) (b:=3) i.1;have w2:IntKind.i64.wrap (gD w 3)=gD w 3:=np iE;have k:IntKind.i64.wrap (gD d 3)=gD d 3:=np iE;have c2:IntKind.i64.wrap c=c:=np iE;refine Yg JW ?_;simp[JW,w2,k];refine gf ?_;obtain⟨n,nx,tn,hg,e⟩:=f149 (1+gD w 3) (1+gD d 3) (by omega) (by omega);have o:1<=n/\n<=9:=e.size;refine gx.c rfl rfl hg (by simp) (by simp[bD]) ?_;simp[bD,c2];refine jT ?_ ?_<;>intro h
 .rw[c2];have m:=jB (a:=c) (b:=n) j.1;have l:=b9 c (show n≠0 by omega);have p:=bT c (show 0<n by omega);refine Yv (f150 n nx tn e (gD c n) (by omega)) λx f=>?_;simp;simp[bD];exact Ey.i (n,x,tn) rfl rfl f
 .exact Ey.i (n,nx,tn) rfl rfl e
theorem kS.s{T:iD}{n:Nat}{live:List Nat}{a:IR}{s s':St}{K:iU}(hs:s=s')(h:kS T n live a s' K .mk):kS T n live a s K .mk:=by subst hs;exact h
theorem gp.s{T:iD}{live:List Nat}{a:IR}{s s':St}{K:iU}(hs:s=s')(h:gp T live a s' K .mk):gp T live a s K .mk:=by subst hs;exact h
def V9(l:List Int):cl fU l=l.map λn=>D.val (.int .u8 n):=by
 rw[nO]
 induction l with
 | nil=>rfl
 | cons a r b=>simp[<-b]
@[simp] theorem aiI{l:List Int}{k:Nat}{P:D->Prop}:oA (cl fU l)[k]? P .mk=(k<l.length/\P (.val (.int .u8 (gt l k)))):=by
 rw[V9]
 by_cases h:k<l.length
 .simp[h,gt]
 .simp[h]
@[simp] theorem asv{l:List Int}{k:Nat}(h:k<(cl fU l).length):(cl fU l)[k] = .val (.int .u8 (gt l k)):=by
 have a:k<l.length:=by simpa using h
 simp[V9,gt,a]
def f59(g:gj)(hg:gU g)(l:List Int)(hl:l.length=18)(h:∀n∈l,0<=n/\n<256) :
  Wf T 100 [dG g,.agg (cl fU l)] [] (Ey dP (iz g)):=by
 have hb:=hg.jJ.size;have w:=hg.kinds;have N:=hg.gM;have O:=Ut N.1 (by omega);have h5:=E6 N.1 (by omega);have h6:(0:Int)<2 ^ g.gM.toNat:=Int.pow_pos (by decide);have r:∀k:Nat,k<18->0<=gt l k/\gt l k<256:=λk w=>h _ (gA (by omega) (by omega))
 have s:∀k:Nat,k<18->IntKind.i64.wrap (gt l k)=gt l k:=λk w=>by have:=r k w;exact np iE
 have M:=s 16 (by omega);have L:=s 17 (by omega);have Q:=r 16 (by omega);have P:=r 17 (by omega);simp at M L Q P;have Y:=jB (a:=gt l 16) (b:=2 ^ g.gM.toNat) Q.1;have m16:=b9 (gt l 16) (show(2:Int) ^ g.gM.toNat≠0 by omega);have Z:=bT (gt l 16) h6;have X:=jB (a:=gt l 17) (b:=2) P.1;have t:IntKind.i64.wrap (gD (gt l 17) 2)=gD (gt l 17) 2:=np iE;have hR:0<=gD (gt l 16) (2 ^ g.gM.toNat)/\gD (gt l 16) (2 ^ g.gM.toNat)<2 ^ g.gM.toNat:=by omega
 have hS:0<=gD (gt l 17) 2/\gD (gt l 17) 2<=1:=by omega
 refine Yg Mn ?_;simp[Mn,O,hl,M,t];generalize gD (gt l 16) (2 ^ g.gM.toNat)=R at *;generalize gD (gt l 17) 2=S at *;refine Dz O hl M t ?_;refine gp.e ((0,List.replicate g.size.toNat 0):Int×List Int) (λy=>[(2,.ptr 0 0 0),(3,.ptr 1 0 0),(4,.ptr 2 0 0),(5,.ptr 4 0 0),(6,.i y.1)]) (λy=>[.row 43 0 g.cells,.row 30 0 (cl fU l),.row 46 0 [.gg,.gg,.gg,.i 0,.i 0],.row 3 0 (cl f1 y.2),.row 46 0 [.fZ 3 0 1 0 g.size.toNat,.gg,.gg,.i R,.i S]]) (λy=>0<=y.1/\y.1<=6/\y.2.length=g.size.toNat/\∀x∈y.2,0<=x/\x<=2*g.kinds.length) (λy=>6-y.1.toNat) ?_ ?_
 .simp;exact mQ
 rintro⟨i,cs⟩ ⟨i0,q,G,z⟩;dsimp only at i0 q G z ⊢;have c:max i 0=i:=by omega
 by_cases hi:i<6
 .have w1:IntKind.i64.wrap (gt l i)=gt l i:=by have:=s i.toNat (by omega);rwa [cj i0]at this
  have w2:IntKind.i64.wrap (gt l (6+i))=gt l (6+i):=by have:=s (6+i.toNat) (by omega);rwa [show((6+i.toNat:Nat):Int)=6+i by omega]at this
  have u:0<=gt l i:=by have:=r i.toNat (by omega);rw[cj i0]at this;exact this.1
  have U:0<=gt l (6+i):=by have:=r (6+i.toNat) (by omega);rw[show((6+i.toNat:Nat):Int)=6+i by omega]at this;exact this.1
  have F:=jB (a:=gt l i) (b:=g.size+1) u;have e1:=b9 (gt l i) (show g.size+1≠0 by omega);have W:=jB (a:=gt l (6+i)) (b:=g.kinds.length) U;have e2:=b9 (gt l (6+i)) (show(g.kinds.length:Int)≠0 by omega);have e3:=bT (gt l (6+i)) (show(0:Int)<g.kinds.length by omega);have V:=jB (a:=i) (b:=2) i0;simp[hl,c,hi,w1,w2];have K:g.kinds≠[]:=by intro h;simp[h]at w
  obtain⟨A,D⟩:∃A,gD (gt l i) (g.size+1)=A:=⟨_,rfl⟩;obtain⟨B,J⟩:∃B,gD (gt l (6+i)) g.kinds.length=B:=⟨_,rfl⟩;obtain⟨C,I⟩:∃B,gD i 2=B:=⟨_,rfl⟩;rw[D]at F;rw[J]at W;rw[I]at V;simp only[D];(with_reducible repeat' first|refine Xk ?_<;>try simp[hl,c,w1,w2,D,J,I,K]|refine Xs ?_ ?_<;>intro h<;>(try intro E)<;>(try simp[h,hl,c,w1,w2,D,J,I,K])<;>try omega|refine Xg ?_|omega)
  .refine jD K ?_;refine LJ.e (i+1,pt cs A (1+2*B+C)) ?_;dsimp only;have hv:0<=1+2*B+C/\1+2*B+C<=2*g.kinds.length:=by omega
   refine gJ ⟨?_,?_⟩
   .have:=iC (l:=cs) (n:=A) (v:=1+2*B+C) (by omega) (by omega);omega
   .intro x H;rcases aar H with rfl|H
    .exact hv
    .exact z x H
  .refine LJ.e (i+1,cs) ?_;exact gJ ⟨G,z⟩
 simp[hi]
 have z0:su g (List.replicate g.kinds.length 0):=⟨by simp,λk w lW=>by
  have e:gt (List.replicate g.kinds.length (0:Int)) k=0:=by
   simp at lW;have:k.toNat<g.kinds.length:=by omega
   simp[gt,this]
  rw[e];omega⟩
 refine gp.un ?_;refine kS.s (by simp;rfl) ?_;refine kS.u ?_;simp;refine gf ?_;refine gp.e ((0,List.replicate g.kinds.length 0):Int×List Int) (λy=>[(2,.ptr 0 0 0),(3,.ptr 1 0 0),(4,.ptr 2 0 0),(5,.ptr 4 0 0),(8,.i 0),(9,.i y.1)]) (λy=>[.row 43 0 g.cells,.row 30 0 (cl fU l),.row 46 0 [.gg,.gg,.gg,.i 0,.i 0],.row 3 0 (cl f1 cs),.row 46 0 [.fZ 3 0 1 0 g.size.toNat,.fZ 5 0 1 0 g.kinds.length,.gg,.i R,.i S],.row 3 0 (cl f1 y.2)]) (λy=>0<=y.1/\y.1<=g.kinds.length/\su g y.2) (λy=>g.kinds.length-y.1.toNat) ?_ ?_
 .simp;exact z0
 rintro⟨i,h0⟩ ⟨i0,q,j⟩;dsimp only at i0 q j ⊢;have c:max i 0=i:=by omega
 have m:=j.len
 by_cases hi:i<g.kinds.length
 .have f:i<2:=by omega
  have w1:IntKind.i64.wrap (gt l (12+i))=gt l (12+i):=by have:=s (12+i.toNat) (by omega);rwa [show((12+i.toNat:Nat):Int)=12+i by omega]at this
  have u:0<=gt l (12+i):=by have:=r (12+i.toNat) (by omega);rw[show((12+i.toNat:Nat):Int)=12+i by omega]at this;exact this.1
  have F:=jB (a:=gt l (12+i)) (b:=3) u
  by_cases d:(gt g.kinds i).keep=true
  .have p:∀v,(pt h0 i v).length=h0.length:=λv=>iC i0 (by omega);have o:i.toNat<g.kinds.length:=by omega
   simp[hl,c,hi,f,d,w1,p,m,o];(with_reducible repeat' first|refine Xk ?_<;>try simp[hl,c,hi,f,d,w1,p,m,o]|refine Xs ?_ ?_<;>intro h<;>(try intro E)<;>(try simp[h,hl,c,hi,f,d,w1,p,m,o])<;>try omega|refine Xg ?_|omega)
   .refine LJ.e (i+1,pt (pt h0 i (gD (gt l (12+i)) 3)) i 8) ?_;refine gJ ?_;exact(j.set i0 (by omega) (qo (λ_=>d))).set i0 (by rw[iC i0 (by omega)];omega) (qo (λ_=>d))
   .refine LJ.e (i+1,pt h0 i (gD (gt l (12+i)) 3)) ?_;exact gJ (j.set i0 (by omega) (qo (λ_=>d)))
  .simp[hl,c,hi,f,d,w1];(with_reducible repeat' first|refine Xk ?_<;>try simp[hl,c,hi,f,d,w1]|refine Xs ?_ ?_<;>intro h<;>(try intro E)<;>(try simp[h,hl,c,hi,f,d,w1])<;>try omega|refine Xg ?_|omega);refine LJ.e (i+1,h0) ?_;exact gJ j
 simp[hi];refine jD hi ?_;clear hi c i0 q m
 rename su g h0=>ok0
 refine kS.s (by simp;rfl) ?_;refine kS.u ?_;simp;refine gf ?_;refine gp.e ((0,List.replicate g.kinds.length 0):Int×List Int) (λy=>[(2,.ptr 0 0 0),(3,.ptr 1 0 0),(4,.ptr 2 0 0),(5,.ptr 4 0 0),(8,.i 1),(9,.i y.1)]) (λy=>[.row 43 0 g.cells,.row 30 0 (cl fU l),.row 46 0 [.gg,.gg,.gg,.i 0,.i 0],.row 3 0 (cl f1 cs),.row 46 0 [.fZ 3 0 1 0 g.size.toNat,.fZ 5 0 1 0 g.kinds.length,.fZ 6 0 1 0 g.kinds.length,.i R,.i S],.row 3 0 (cl f1 h0),.row 3 0 (cl f1 y.2)]) (λy=>0<=y.1/\y.1<=g.kinds.length/\su g y.2) (λy=>g.kinds.length-y.1.toNat) ?_ ?_
 .simp;exact z0
 rintro⟨i,h1⟩ ⟨i0,q,j⟩;dsimp only at i0 q j ⊢;have c:max (2+i) 0=(2+i):=by omega
 have m:=j.len
 by_cases hi:i<g.kinds.length
 .have f:i<2:=by omega
  have w1:IntKind.i64.wrap (gt l (12+(2+i)))=gt l (12+(2+i)):=by have:=s (12+(2+i).toNat) (by omega);rwa [show((12+(2+i).toNat:Nat):Int)=12+(2+i)by omega]at this
  have u:0<=gt l (12+(2+i)):=by have:=r (12+(2+i).toNat) (by omega);rw[show((12+(2+i).toNat:Nat):Int)=12+(2+i)by omega]at this;exact this.1
  have F:=jB (a:=gt l (12+(2+i))) (b:=3) u
  by_cases d:(gt g.kinds i).keep=true
  .have p:∀v,(pt h1 i v).length=h1.length:=λv=>iC i0 (by omega);have o:i.toNat<g.kinds.length:=by omega
   simp[hl,c,hi,f,d,w1,p,m,o];(with_reducible repeat' first|refine Xk ?_<;>try simp[hl,c,hi,f,d,w1,p,m,o]|refine Xs ?_ ?_<;>intro h<;>(try intro E)<;>(try simp[h,hl,c,hi,f,d,w1,p,m,o])<;>try omega|refine Xg ?_|omega)
   .refine LJ.e (i+1,pt (pt h1 i (gD (gt l (12+(2+i))) 3)) i 8) ?_;refine gJ ?_;exact(j.set i0 (by omega) (qo (λ_=>d))).set i0 (by rw[iC i0 (by omega)];omega) (qo (λ_=>d))
   .refine LJ.e (i+1,pt h1 i (gD (gt l (12+(2+i))) 3)) ?_;exact gJ (j.set i0 (by omega) (qo (λ_=>d)))
  .simp[hl,c,hi,f,d,w1];(with_reducible repeat' first|refine Xk ?_<;>try simp[hl,c,hi,f,d,w1]|refine Xs ?_ ?_<;>intro h<;>(try intro E)<;>(try simp[h,hl,c,hi,f,d,w1])<;>try omega|refine Xg ?_|omega);refine LJ.e (i+1,h1) ?_;exact gJ j
 simp[hi];refine jD hi ?_;clear hi c i0 q m
 rename su g h1=>ok1
 refine kS.s (by simp;rfl) ?_;refine kS.u ?_;simp;refine gf ?_;exact Ey.i ⟨cs,h0,h1,R,S⟩ (by simp[G,ok0.len,ok1.len,dP,Pos.cells]) rfl ⟨by simp only;omega,ok0,ok1,hR,hS,z⟩
end Go.Proofs.YtmehofoficaelaaGreatDoor
namespace Go.AL
open Go
@[simp] theorem aoN(ρ:Nat->Option Nat)(H:U)(k:Nat)(f:Fn)(a b:List D):gq ρ H (k+1) (.fn f a b) = .fn f (a.map (gq ρ H k)) (b.map (gq ρ H k)):=by
 by_cases h:closed (.fn f a b)=true
 .have c:=h;simp only[Wg,Bool.and_eq_true]at c;rw[p6 h,Cx c.1,Cx c.2]
 .rw[gq,if_neg h]
@[simp] theorem azp(ρ:Nat->Option Nat)(H:U)(k:Nat)(cs:List D):gq ρ H (k+1) (.gC cs) = .gC (cs.map (gq ρ H k)):=by
 by_cases h:closed (.gC cs)=true
 .rw[p6 h,Cx (by simpa using h)]
 .rw[gq,if_neg h]
def zG(l:List Int):cl f1 l=l.map λn=>D.i n:=by
 rw[nO]
 induction l with
 | nil=>rfl
 | cons a r b=>simp[<-b]
def ad7{ρ:Nat->Option Nat}{H:U}{k n:Nat}{t:TypeId}{cs:List D}(l:List Int)(h:cs=l.map λn=>D.i n)(a:n=l.length):mK ρ H (k+1) 1 0 n (some (t,cs))=dI l:=by rw[h,<-zG,tM a];rfl
@[simp] theorem az9(a b:ByteArray):Fu .eql a b=some (.b (decide (a=b))):=by
 have:(a.data.toList == b.data.toList)=decide (a=b):=by
  rw[Bool.eq_iff_iff,beq_iff_eq,decide_eq_true_iff];constructor
  .intro h;cases a;cases b;congr 1;exact fy.1 h
  .rintro rfl;rfl
 show some (D.val (.bool _))=_;rw[this]
@[simp] theorem asZ(t:TypeId)(s:ByteArray)(n:Nat):sW t (.val (.string s)) n=some (.ptr n 0 0,.new (.row t 0 [.val (.string s)])):=rfl
@[simp] theorem asW(t:TypeId)(m:Int)(n:Nat):sW t (.i m) n=some (.ptr n 0 0,.new (.row t 0 [.i m])):=rfl
@[simp] theorem at2(l:List (List gd)):closed (dN 1 fP l)=true:=Bg (λa=>by simp[gG]) l
def I6(rf:Nat)(st:qv)(x:Option Ob)(P:Env->Prop):Prop:=∃env,x=some (.im rf env st)/\P env
@[simp] theorem ayI{rf:Nat}{st:qv}{env:Env}{P:Env->Prop}:I6 rf st (some (.im rf env st)) P=P env:=propext ⟨λ⟨_,h,k⟩=>by cases h;exact k,λk=>⟨_,rfl,k⟩⟩
section
variable{T:iD}{v rf:Nat}{b:IR}{dst:Option Nat}{s s1:St}{K:St->Prop}
@[simp] theorem ay4:abq T v rf b dst s K (.norm s1)=I6 rf .ready s1.H[v]? λa=>XC T b { s1 with H:=s1.H.set v (.im rf a .busy) } (CO v rf dst s K):=rfl
@[simp] theorem ay6:CO v rf dst s K (.norm s1)=I6 rf .busy s1.H[v]? λa=>K { s with env:=put s.env dst (.b true),H:=s1.H.set v (.im rf a .ready) }:=rfl
@[simp] theorem ay5{id:Nat}:CO v rf dst s K (.exit id s1)=I6 rf .busy s1.H[v]? λa=>K { s with env:=put s.env dst (.b false),H:=s1.H.set v (.im rf a (.zM id)) }:=rfl
@[simp] theorem ay7:CO v rf dst s K (.ret s1)=I6 rf .busy s1.H[v]? λa=>K { s with env:=put s.env dst (.b false),H:=s1.H.set v (.im rf a .Bk) }:=rfl
@[simp] theorem azb{l:List D}{e:Env}:uC [] l e=e:=by cases l<;>rfl
@[simp] theorem aza{k:Nat}{d:D}{ks:List Nat}{l:List D}{e:Env}:uC (k::ks) (d::l) e=uC ks l ((k,d)::e):=rfl
@[simp] theorem ayG{s:St}:AP s .ready=some (.norm s):=rfl
@[simp] theorem ayF{s:St}{id:Nat}:AP s (.zM id)=some (.exit id s):=rfl
@[simp] theorem ayH{s:St}:AP s .Bk=some (.ret s):=rfl
end
@[simp] theorem axQ(n:Nat):oJ n .jE = []:=rfl
@[simp] theorem axT(n rf:Nat)(e:Env)(st:qv):oJ n (.im rf e st) = []:=rfl
theorem gx.nr{T:iD}{f:FuncId}{args oN:List D}{dst:Option Nat}{s:St}{K:St->Prop}{fn:jo}{d:D}{Hn:U}(g:T.fn f=some fn)(e:fn.full=false)(h:Wf T f oN [] λd' H'=>d'=d/\H'=Hn)
  (hs:args.map (gq (λ_=>none) s.H 40)=oN) (c:(o3 d&&Hn.all pO)=true) (b:(mY d&&Hn.all oy)=true) (k:K { s with env:=put s.env dst (kH s.H.length d),H:=s.H++Hn }):gx T f args dst s K .mk:=by
 refine gx.is g e (K0:=λd' H'=>d'=d/\H'=Hn) (by rw[hs];exact h) ?_;rintro d' i ⟨rfl,rfl⟩;refine⟨_,?_,k⟩;unfold after
 by_cases a:gG args=true
 .rw[if_pos a,if_pos b]
 .rw[if_neg a,if_pos c]
@[simp] theorem axX(v g sz off n:Nat):o3 (.fZ v g sz off n)=true:=rfl
@[simp] theorem auP(t g:Nat)(cs:List D):pO (.row t g cs)=tL cs:=rfl
@[simp] theorem auO(l:List Int):tL (cl f1 l)=true:=by
 rw[zG]
 induction l with
 | nil=>rfl
 | cons a r b=>simpa[tL,flat]using b
end Go.AL
namespace Go.Proofs.YtmehofoficaelaaGreatDoor
open Go Go.AL Classical
set_option maxRecDepth 10000
set_option maxHeartbeats 4000000
def f133(g:gj)(hg:gU g)(n:Int)(a:0<=n/\n<=2*g.kinds.length):Wf T 168 [dG g,.i n] [] (Is (.b true)):=by have b:=hg.kinds;refine Yg KP ?_;simp[KP];exact mQ
def f134(g:gj)(hg:gU g)(n:Int)(a:0<=n/\n<=2*g.kinds.length):Wf T 169 [.i n,.gC [.fn (.func 168) [dG g] []]] [] (Is (.b false)):=by refine Yg KQ ?_;simp[KQ];refine Yc (f133 g hg n a) ?_;simp
def f178(g:gj)(hg:gU g)(l:List Int)(hl:∀n∈l,0<=n/\n<=2*g.kinds.length)(b:l.length<=9):Wf T 230 [dI l,.fn (.func 169) [] [.gC [.fn (.func 168) [dG g] []]]] [] (Is (.i (-1))):=by
 refine Yg Dn ?_;simp[Dn];refine gp.e (0:Int) (λy=>[(0,dI l),(1,.fn (.func 169) [] [.gC [.fn (.func 168) [dG g] []]]),(7,.i l.length),(8,.i y)]) (λy=>[]) (λy=>0<=y/\y<=l.length) (λy=>(l.length-y).toNat) ?_ ?_
 .simp
 rintro i ⟨i0,a⟩;dsimp only at i0 a ⊢
 by_cases hi:i<l.length
 .simp[hi];refine gf ?_;refine Yc (f134 g hg (gt l i) (hl _ (gA i0 hi))) ?_;simp;refine gf ?_;refine LJ.e (i+1) ?_;exact mj
 .simp[hi]
def f135(g:gj)(hg:gU g)(l:List Int)(hl:∀n∈l,0<=n/\n<=2*g.kinds.length)(a:l.length<=9):Wf T 170 [dI l,.fn (.func 169) [] [.gC [.fn (.func 168) [dG g] []]]] [] (Is (.b false)):=by refine Yg Dm ?_;simp[Dm];refine Yc (f178 g hg l hl a) ?_;simp
def f136(g:gj)(hg:gU g)(l:List Int)(hl:su g l):Wf T 171 [dG g,dI l] [] (Is (.b true)):=by
 have k:=hg.kinds;have c:=hl.len;refine Yg KR ?_;simp[KR];(with_reducible repeat' first|refine Xk ?_<;>try simp[c]|refine Xs ?_ ?_<;>intro h<;>(try intro d)<;>(try simp[h,c])<;>try omega|refine Xg ?_|omega);refine gp.e (0:Int) (λy=>[(2,.ptr 0 0 0),(14,dI l),(15,.i g.kinds.length),(16,.i y)]) (λy=>[.row 279 0 g.cells]) (λy=>0<=y/\y<=l.length) (λy=>(l.length-y).toNat) ?_ ?_
 .simp
 rintro i ⟨i0,e⟩;dsimp only at i0 e ⊢
 by_cases hi:i<l.length
 .have f:=hl.at_ i i0 hi;have j:i<g.kinds.length:=by omega
  by_cases a:0<gt l i
  .have b:=f.2.2 a;simp[hi];(with_reducible repeat' first|refine Xk ?_<;>try simp[b,a]|refine Xs ?_ ?_<;>intro h<;>(try intro d)<;>(try simp[h,b,a])<;>try omega|refine Xg ?_|omega);refine LJ.e (i+1) ?_;exact mj
  .simp[hi];(with_reducible repeat' first|refine Xk ?_<;>try simp[a]|refine Xs ?_ ?_<;>intro h<;>(try intro d)<;>(try simp[h,a])<;>try omega|refine Xg ?_|omega);refine LJ.e (i+1) ?_;exact mj
 .simp[show¬i<g.kinds.length by omega]
def f97(g:gj)(hg:gU g)(p:Pos)(a:iz g p):Wf T 109 [dG g,dP p] [] (Is (.b true)):=by
 have f:=hg.kinds;have d:=hg.gM;have e:=a.gM;have hs:=a.side;have c:=a.size;have i:=hg.jJ.size;have b:=Ut d.1 (by omega);refine Yg MF ?_;simp[MF,b,c];refine jh.r rfl rfl (f135 g hg p.cs a.cs (by omega)) (by simp) (by simp[flat]) (by simp) ?_;simp;refine Yt (f136 g hg p.h0 a.h0) ?_;simp;refine Yt (f136 g hg p.h1 a.h1) ?_;simp;(with_reducible repeat' first|refine Xk ?_<;>try simp[b]|refine Xs ?_ ?_<;>intro h<;>(try intro j)<;>(try simp[h,b])<;>try omega|refine Xg ?_|omega)
 .simp[*]
 .have:p.side=1:=by omega
  simp[*]
def f177(n:Int):Wf T 251 [.i n] [] (Is (.b false)):=by refine Yg Ld ?_;simp[Ld]
def f131(a b:Int):Wf T 220 [.i a,.i b] [] (Is (.i (kU a b))):=by
 refine Yg KM ?_;simp[KM];refine Yc (f177 a) ?_;simp;refine Yc (f177 b) ?_;simp;(with_reducible repeat' first|refine Xk ?_<;>try simp|refine Xs ?_ ?_<;>intro h<;>(try intro c)<;>(try simp[h])<;>try omega|refine Xg ?_|omega)
 all_goals
  unfold kU;(repeat' split)<;>(first|rfl|(exfalso;omega))
def f130(a b:List Int)(m:a.length<2 ^ 40)(l:b.length<2 ^ 40):Wf T 219 [dI a,dI b] [] (Is (.i (kP a b))):=by
 refine Yg KL ?_;simp[KL];refine gp.e (0:Int) (λi=>[(0,dI a),(1,dI b),(9,dI a),(10,.i a.length),(11,.i i)]) (λi=>[]) (λi=>0<=i/\i<=a.length/\i<=b.length/\a.take i.toNat=b.take i.toNat) (λi=>a.length-i.toNat) ?_ ?_
 .simp
 rintro i ⟨h0,h1,k,f⟩;have e:=Z' f (by omega) (by omega)
 by_cases hi:i<a.length
 .by_cases d:i<b.length
  .simp[hi,d];(with_reducible repeat' first|refine Xk ?_<;>try simp|refine Xs ?_ ?_<;>intro h<;>(try intro j)<;>(try simp[h])<;>try omega|refine Xg ?_|omega);refine Yc (f131 (gt a i) (gt b i)) ?_;simp
   by_cases c:kU (gt a i) (gt b i)=0
   .simp[c];refine gf ?_;refine LJ.e (i+1) ?_;refine AM ?_;rw[jn h0 hi,jn h0 d,f,yU.1 c]
   .simp[c];rw[e,n5 h0 hi,n5 h0 d,kP,if_neg (λh=>c (yU.2 h))]
  .simp[hi,d];(with_reducible repeat' first|refine Xk ?_<;>try simp|refine Xs ?_ ?_<;>intro h<;>(try intro j)<;>(try simp[h])<;>try omega|refine Xg ?_|omega)
   have g:kU ((a.drop i.toNat).length) ((b.drop i.toNat).length)=1:=by simp only[aQ,kU];rw[if_neg (by omega),if_pos (by omega)]
   rw[e,Tn (by simp only[aQ];omega),g]
 .simp[hi];refine jT ?_ ?_<;>intro h
  all_goals
   rw[e,Tn (by simp only[aQ];omega)];simp only[aQ,kU];(repeat' split)<;>omega
def f129(l:List Int)(hl:l.length<2 ^ 40):Wf T 218 [dI l] [] (Is (.i (nA l))):=by
 refine Yg KG ?_;simp[KG];refine gp.e (0:Int) (λi=>[(3,.i 0),(6,dI l),(7,.i l.length),(8,.i i)]) (λi=>[]) (λi=>0<=i/\i<=l.length/\nA l=nA (l.drop i.toNat)) (λi=>l.length-i.toNat) ?_ ?_
 .simp
 rintro i ⟨h0,h1,b⟩
 by_cases hi:i<l.length
 .rw[n5 h0 hi]at b
  by_cases a:gt l i=0
  .simp[hi,a];refine gf ?_;refine LJ.e (i+1) ?_;refine gJ ?_;rw[b];simp only[nA,a];rw[if_neg (by simp),show(i+1).toNat=i.toNat+1 by omega]
  .simp[hi,a];refine gf ?_;rw[b];simp[nA,a]
 .simp[hi];rw[b,br (by omega)];rfl
def f88(p q:Pos)(b:Small p)(a:Small q):Wf T 152 [dP p,dP q] [] (Is (.i (iH p q))):=by refine Yg Mx ?_;simp[Mx];refine Yt (f130 _ _ b.1 a.1) ?_;simp;refine Yt (f130 _ _ b.2.1 a.2.1) ?_;simp;refine Yt (f130 _ _ b.2.2 a.2.2) ?_;simp;refine Yt (f131 _ _) ?_;simp;refine Yt (f131 _ _) ?_;simp;refine jh.r rfl rfl (f129 [kP p.cs q.cs,kP p.h0 q.h0,kP p.h1 q.h1,kU p.gM q.gM,kU p.side q.side] (by simp)) (by simp;exact ad7 _ rfl rfl) (by simp[flat]) (by simp) ?_;simp;rfl
def f100(l:List Pos)(hl:l.length<2 ^ 40)(hs:∀p∈l,Small p)(a:kX l):Wf T 112 [gZ l] [] (Is (.b true)):=by
 refine Yg JM ?_;simp[JM];refine gf ?_;refine gp.e (0:Int) (λi=>[(0,gZ l),(6,.i (l.length-1)),(7,.i i)]) (λi=>[]) (λi=>0<=i) (λi=>l.length-i.toNat) ?_ ?_
 .simp
 rintro i h0
 by_cases hi:i<l.length-1
 .simp[hi];refine gf ?_;refine Yt (f88 _ _ (hs _ (gA h0 (by omega))) (hs _ (gA (n:=i+1) (by omega) (by omega)))) ?_;simp;have:=a (i+1) (by omega) (by omega);rw[dW]at this;simp[show¬ 0<=iH (gt l i) (gt l (i+1))by omega];refine gf ?_;refine LJ.e (i+1) ?_;exact iE
 .simp[hi]
def f96(g:gj)(hg:gU g)(p:Pos)(a:iz g p):Wf T 108 [dP p,.gC g.cells] [] (Is (.b false)):=by refine Yg ME ?_;simp[ME];refine Yc (f97 g hg p a) ?_;simp
def f147(g:gj)(hg:gU g)(l:List Pos)(hl:∀p∈l,iz g p)(b:l.length<2 ^ 40):Wf T 182 [gZ l,.fn (.func 108) [] [.gC g.cells]] [] (Is (.i (-1))):=by
 refine Yg K4 ?_;simp[K4];refine gp.e (0:Int) (λy=>[(0,gZ l),(1,.fn (.func 108) [] [.gC g.cells]),(7,.i l.length),(8,.i y)]) (λy=>[]) (λy=>0<=y/\y<=l.length) (λy=>(l.length-y).toNat) ?_ ?_
 .simp
 rintro i ⟨i0,a⟩
 by_cases hi:i<l.length
 .simp[hi];refine gf ?_;refine Yc (f96 g hg (gt l i) (hl _ (gA i0 hi))) ?_;simp;refine gf ?_;refine LJ.e (i+1) ?_;exact mj
 .simp[hi]
def f99(g:gj)(hg:gU g)(l:List Pos)(hl:∀p∈l,iz g p)(a:l.length<2 ^ 40):Wf T 111 [gZ l,.fn (.func 108) [] [.gC g.cells]] [] (Is (.b false)):=by refine Yg MH ?_;simp[MH];refine Yc (f147 g hg l hl a) ?_;simp
def pd(l:List gy):D:=dN 8 gy.cells l
@[simp] theorem adJ(l:List gy):closed (pd l)=true:=Bg (λa=>by simp[gy.cells,gG]) l
theorem f132(l:List Int)(h:0<l.length)(b:l.length<2 ^ 40):Wf T 265 [dI l] [] (λd H=>d = .fZ 0 1 1 0 l.length/\H = [.row 3 1 (cl f1 l)]):=by refine Yg KN ?_;simp[KN];refine oA.i (a:=.b false) (by cases l with|nil=>exact absurd h (by simp)|cons a r=>rfl) ?_;simp;exact mQ
def f91(s:gy)(hs:Small s.p)(h0:0<s.p.cs.length/\0<s.p.h0.length/\0<s.p.h1.length):Wf T 215 [.agg s.cells] [] (λd H=>d = .agg [.fZ 0 1 1 0 s.p.cs.length,.fZ 1 1 1 0 s.p.h0.length,.fZ 2 1 1 0 s.p.h1.length,.i s.p.gM,.i s.p.side,.i s.kind,.i s.cur,.b s.jM]/\H = [.row 3 1 (cl f1 s.p.cs),.row 3 1 (cl f1 s.p.h0),.row 3 1 (cl f1 s.p.h1)]):=by refine Yg Mz ?_;simp[Mz,gy.cells];refine Yn (f132 s.p.cs h0.1 hs.1) ?_;simp;refine wZ.n rfl rfl (f132 s.p.h0 h0.2.1 hs.2.1) (by simp) (by simp) ?_;simp;refine wZ.n rfl rfl (f132 s.p.h1 h0.2.2 hs.2.2) (by simp) (by simp) ?_;simp
def f241(s:gy)(b:Bool):Wf T 323 [.agg s.cells,.b b] [] (Is (pd (if b then [s]else []))):=by
 refine Yg LP ?_;simp[LP,gy.cells];cases b
 .simp;rfl
 .simp;rfl
def f243(s:gy)(h:0<=s.cur/\s.cur<s.p.cs.length)(hs:Small s.p):Wf T 325 [.agg s.cells] [] (Is (.tup [.i (gI (gt s.p.cs s.cur)),.i (jZ (gt s.p.cs s.cur))])):=by refine Yg LR ?_;simp[LR,gy.cells];refine gf ?_;refine Yc (f84 _) ?_;simp
def f199(g:gj)(hg:gU g)(s:gy)(hs:km g s)(n:Int):Wf T 300 [.agg s.cells,dG g,.i n] [] (Is (pd (je g s (1,n)))):=by refine Yg Lt ?_;simp[Lt,gy.cells];refine Yc (f240 g hg.jJ s.p.side n s.cur) ?_;simp;refine gx.c rfl rfl (f241 { s with cur:=ml g s.p.side n s.cur } (decide (0<=ml g s.p.side n s.cur))) (by simp[gy.cells]) (by simp) ?_;simp[je]
def f201(g:gj)(hg:gU g)(s:gy)(hs:km g s)(n:Int):Wf T 302 [.agg s.cells,dG g,.i n] [] (Is (pd (je g s (3,n)))):=by have b:=hs.p.size;have a:=hs.cur;refine Yg Lv ?_;simp[Lv,gy.cells];refine gf ?_;refine jh.c rfl rfl (f241 s (decide (gt s.p.cs s.cur=0))) (by simp[gy.cells]) (by simp) ?_;simp[je]
def f202(g:gj)(hg:gU g)(s:gy)(hs:km g s)(n:Int):Wf T 303 [.agg s.cells,dG g,.i n] [] (Is (pd (je g s (4,n)))):=by have c:=hs.p.size;have a:=hs.cur;have b:=hs.p.side;refine Yg Lw ?_;simp[Lw,gy.cells];refine gx.c rfl rfl (f243 s (by omega) (hs.p.small hg)) (by simp[gy.cells]) (by simp) ?_;simp;refine gf ?_;refine gx.c rfl rfl (f241 s (decide (jZ (gt s.p.cs s.cur)=1-s.p.side))) (by simp[gy.cells]) (by simp) ?_;simp[je]
def f203(g:gj)(hg:gU g)(s:gy)(hs:km g s)(n:Int):Wf T 304 [.agg s.cells,dG g,.i n] [] (Is (pd (je g s (5,n)))):=by have b:=hs.p.size;have a:=hs.cur;refine Yg Lx ?_;simp[Lx,gy.cells];refine gx.c rfl rfl (f243 s (by omega) (hs.p.small hg)) (by simp[gy.cells]) (by simp) ?_;simp;refine gx.c rfl rfl (f241 s (decide (jZ (gt s.p.cs s.cur)=s.p.side))) (by simp[gy.cells]) (by simp) ?_;simp[je]
def f206(g:gj)(s:gy)(n:Int):Wf T 307 [.agg s.cells,dG g,.i n] [] (Is (pd (je g s (8,n)))):=by refine Yg Lz ?_;simp[Lz,gy.cells];rfl
def f207(g:gj)(hg:gU g)(s:gy)(hs:km g s)(n:Int)(c:0<=n/\n<g.gM):Wf T 308 [.agg s.cells,dG g,.i n] [] (Is (pd (je g s (9,n)))):=by have b:=hs.p.gM;have a:=hg.gM;have e:=E6 a.1 (by omega);have d:=abk (r:=s.p.gM) (n:=n) b.1 (by omega) c.1 (by omega);refine Yg LC ?_;simp[LC,gy.cells];refine gf ?_;refine jh.c rfl rfl (f241 s (decide (bits BinOp.and IntKind.i64 (mB IntKind.i64 s.p.gM n) 1=1))) (by simp[gy.cells]) (by simp) ?_;simp[je,d]
def f208(g:gj)(hg:gU g)(s:gy)(hs:km g s)(n:Int)(d:0<=n/\n<g.gM):Wf T 309 [.agg s.cells,dG g,.i n] [] (Is (pd (je g s (10,n)))):=by have c:=hs.p.gM;have b:=hg.gM;have e:=E6 b.1 (by omega);have a:=abl (r:=s.p.gM) (n:=n) c.1 (by omega) d.1 (by omega);refine Yg LD ?_;simp[LD,gy.cells,a];refine jD a ?_;rfl
def f205(g:gj)(hg:gU g)(s:gy)(hs:km g s)(n:Int):Wf T 306 [.agg s.cells,dG g,.i n] [] (Is (pd (je g s (7,n)))):=by
 have i:=hs.p.size;have a:=hs.cur;have b:=hs.p.small hg;have c:=hg.jJ.size;have k:=hg.kinds;have f:=hs.p.h0.len;have d:=hs.p.h1.len;have j:=hg.jJ.to s.p.side n s.cur;have e:je g s (7,n)=uA g s n:=by simp[je]
 rw[e];refine Yg Ly ?_;simp[Ly,gy.cells];refine Yc (f240 g hg.jJ s.p.side n s.cur) ?_;simp;(with_reducible repeat' first|refine Xk ?_<;>try simp|refine Xs ?_ ?_<;>intro h<;>(try intro m)<;>(try simp[h])<;>try omega|refine Xg ?_|omega)
 .rw[uA,if_pos (by simp_all)];rfl
 .rw[uA,if_pos (by simp_all)];rfl
 .have q0:=iC (l:=s.p.cs) (n:=ml g s.p.side n s.cur) (v:=gt s.p.cs s.cur) (by omega) (by omega);have q1:=iC (l:=pt s.p.cs (ml g s.p.side n s.cur) (gt s.p.cs s.cur)) (n:=s.cur) (v:=0) a.1 (by omega);refine Yn (f91 s b (by omega)) ?_;simp;refine kJ q0 q1 ?_;simp[uA, *];rfl
 .rw[uA,if_pos (by simp_all)];rfl
def f204(g:gj)(hg:gU g)(s:gy)(hs:km g s)(n:Int):Wf T 305 [.agg s.cells,dG g,.i n] [] (Is (pd (je g s (6,n)))):=by
 have u:=hs.p.size;have c:=hs.cur;have d:=hs.p.small hg;have o:=hg.jJ.size;have f:=hg.kinds;have r:=hs.p.h0.len;have q:=hs.p.h1.len;have i:=hs.p.cs _ (gA c.1 (by omega));have t:=hs.p.side;have e:je g s (6,n)=tA g s:=by simp[je]
 rw[e];refine Yz FQ (iV 52 [2,3,4] FQ.body) ?_;simp[FQ,iV,kq,nb,ng,nD,lV,gy.cells];refine gx.c rfl rfl (f243 s (by omega) d) (by simp[gy.cells]) (by simp) ?_;simp
 by_cases a:jZ (gt s.p.cs s.cur)=1-s.p.side
 .have x:0<=gI (gt s.p.cs s.cur):=by
   unfold jZ at a;unfold gI;split at a<;>rename_i k
   .rw[if_pos k];omega
   .omega
  have w:gI (gt s.p.cs s.cur)<g.kinds.length:=yP i.2 f.1;have m:s.p.side=0\/s.p.side=1:=by omega
  have q0:=iC (l:=s.p.cs) (n:=s.cur) (v:=0) c.1 (by omega);simp[a];refine gf ?_;refine Yn (f91 s d (by omega)) ?_;simp;refine F9 q0 ?_ ?_<;>intro h
  .have b:=h;rcases m with e|e
   .have j:=hs.p.h0.at_ _ (by omega) (show gI (gt s.p.cs s.cur)<s.p.h0.length by omega);have q1:=BC (l:=s.p.h0) (n:=gI (gt s.p.cs s.cur)) (v:=gt s.p.h0 (gI (gt s.p.cs s.cur))+1) (by omega) (by omega);have q2:=iC (l:=s.p.h0) (n:=gI (gt s.p.cs s.cur)) (v:=gt s.p.h0 (gI (gt s.p.cs s.cur))+1) (by omega) (by omega);simp[e,q0,q1,q2];refine qy q0 q1 q2 ?_;refine jh.c rfl rfl (f241 { p:={ s.p with cs:=pt s.p.cs s.cur 0,h0:=pt s.p.h0 (gI (gt s.p.cs s.cur)) (gt s.p.h0 (gI (gt s.p.cs s.cur))+1),side:=0 },kind:=s.kind,cur:=s.cur,jM:=true } (decide (gt s.p.h0 (gI (gt s.p.cs s.cur))+1<=8))) (by simp[gy.cells]) (by simp) ?_;simp[tA,a,b,Pos.hand,Pos.mZ,e];done
   .have j:=hs.p.h1.at_ _ (by omega) (show gI (gt s.p.cs s.cur)<s.p.h1.length by omega);have q1:=BC (l:=s.p.h1) (n:=gI (gt s.p.cs s.cur)) (v:=gt s.p.h1 (gI (gt s.p.cs s.cur))+1) (by omega) (by omega);have q2:=iC (l:=s.p.h1) (n:=gI (gt s.p.cs s.cur)) (v:=gt s.p.h1 (gI (gt s.p.cs s.cur))+1) (by omega) (by omega);simp[e,q0,q1,q2];refine qy q0 q1 q2 ?_;refine jh.c rfl rfl (f241 { p:={ s.p with cs:=pt s.p.cs s.cur 0,h1:=pt s.p.h1 (gI (gt s.p.cs s.cur)) (gt s.p.h1 (gI (gt s.p.cs s.cur))+1),side:=1 },kind:=s.kind,cur:=s.cur,jM:=true } (decide (gt s.p.h1 (gI (gt s.p.cs s.cur))+1<=8))) (by simp[gy.cells]) (by simp) ?_;simp[tA,a,b,Pos.hand,Pos.mZ,e];done
  .simp[tA,a,h,q0];rfl
 .simp[a];refine gf ?_;rw[tA,if_pos a];rfl
def f259(g:gj)(s d c:Int):Wf T 331 [g.jJ,.i s,.i d,.i c] [] (Is (.fn (.func 335) [] [.gC [.i g.size,.sl 1 (g.next.map fI),dI g.jw],.gC [.i s],.gC [.i d],.gC [.i c]])):=by refine Yg L4 ?_;simp[L4]
def f266(l:List Int)(n:Int)(hl:l.length<2 ^ 40):Wf T 336 [dI l,.i n] [] (Ey (λr:Int=>.i r) λr=>0<=r↔n∈l):=by
 refine Yg Dq ?_;simp[Dq];refine gp.e (0:Int) (λy=>[(0,dI l),(1,.i n),(7,.i l.length),(8,.i y)]) (λy=>[]) (λy=>0<=y/\y<=l.length/\n ∉ l.take y.toNat) (λy=>(l.length-y).toNat) ?_ ?_
 .simp
 rintro i ⟨i0,b,a⟩
 by_cases hi:i<l.length
 .simp[hi];refine jT ?_ ?_<;>intro h
  .exact Ey.i i rfl rfl ⟨λ_=>by have:=gA i0 hi;simp_all,λ_=>i0⟩
  .refine LJ.e (i+1) ?_;refine gJ ?_;rw[jn i0 hi];simp[a];omega
 .simp[hi];rw[lr (by omega)]at a;exact Ey.i (-1) rfl rfl ⟨λh=>by omega,λh=>absurd h a⟩
def f260(l:List Int)(n:Int)(hl:l.length<2 ^ 40):Wf T 332 [dI l,.i n] [] (Is (.b (decide (n∈l)))):=by refine Yg Dp ?_;simp[Dp];refine Yq (f266 l n hl) λr a=>?_;simp;simp[a]
def afI(n:Int):Wf T 336 [.gg,.i n] [] (Is (.i (-1))):=by refine Yg Dq ?_;simp[Dq];refine gp.un ?_;refine kS.u ?_;simp
def afH(n:Int):Wf T 332 [.gg,.i n] [] (Is (.b false)):=by refine Yg Dp ?_;simp[Dp];refine Yc (afI n) ?_;simp
def f265(g:gj)(hg:oM g)(s d c:Int):Wf T 335 [.ja 4,.gC [.i g.size,.sl 1 (g.next.map fI),dI g.jw],.gC [.i s],.gC [.i d],.gC [.i c]]
  [.row 39 0 [.i g.size,.sl 1 (g.next.map fI),dI g.jw],.row 3 0 [.i c],.row 37 0 [.gg],.jE,.im 20736 [(7,.ptr 1 0 0),(9,.ptr 2 0 0)] .ready]
  (λ_ H'=>∃st,(st = .ready\/st = .zM 0)/\H' = [.row 39 0 [.i g.size,.sl 1 (g.next.map fI),dI g.jw],.row 3 0 [.i c],.row 37 0 [if lC g s d c = []then .gg else .fZ 5 ((lC g s d c).length-1) 1 0 (lC g s d c).length],.jE,.im 20736 [(7,.ptr 1 0 0),(9,.ptr 2 0 0)] st]++(if lC g s d c = []then []else [.row 3 ((lC g s d c).length-1) (cl f1 (lC g s d c))])):=by
 have r:=hg.size;refine Yg L6 ?_;simp[L6];refine Yr (f240 g hg s d c) ?_;simp;refine gp.e ((0,ml g s d c,[]):Nat×Int×List Int) (λx=>[(0,.ja 4),(1,.gC [.i g.size,.sl 1 (g.next.map fI),dI g.jw]),(2,.gC [.i s]),(3,.gC [.i d]),(6,.i x.2.1)]) (λx=>[.row 39 0 [.i g.size,.sl 1 (g.next.map fI),dI g.jw],.row 3 0 [.i c],.row 37 0 [if x.2.2 = []then .gg else .fZ 5 (x.2.2.length-1) 1 0 x.2.2.length],.jE,.im 20736 [(7,.ptr 1 0 0),(9,.ptr 2 0 0)] .ready]++(if x.2.2 = []then []else [.row 3 (x.2.2.length-1) (cl f1 x.2.2)])) (λx=>x.1=x.2.2.length/\x.2.1<g.size/\x.2.2.Nodup/\(∀y∈x.2.2,0<=y/\y<g.size)/\lC g s d c=ui g s d c (10-x.1) x.2.1 x.2.2) (λx=>10-x.1) ?_ ?_
 .have:=hg.to s d c;simp[lC];omega
 rintro⟨m,x,out⟩ ⟨h0,h1,o,n,l⟩;dsimp only at h0 h1 o n l ⊢;have q:out.length<=9:=AI 9 out o (λy k=>by have:=n y k;omega);have e:=l;rw[show 10-m=(9-m)+1 by omega,ui]at e;have j:=hg.to s d x
 by_cases i:out = []
 .subst i
  by_cases b:0<=x
  .simp[b];refine qx.r (rf:=20736) (env0:=[(7,.ptr 1 0 0),(9,.ptr 2 0 0)]) (Rd:=wW) (by simp) rfl rfl wW.a wW.b (oL rfl) (oL rfl) ?_;simp[wW]
   by_cases a:x=c
   .have f:lC g s d c = []:=by rw[e,if_neg (λh=>h.2.1 a)]
    simp[a,f]
   .have p:lC g s d c=ui g s d c (9-m) (ml g s d x) [x]:=by rw[e,if_pos ⟨b,a,by simp⟩];rfl
    simp[a];refine Yc (afH x) ?_;simp;refine gf ?_;refine Yr (f240 g hg s d x) ?_;simp;refine LJ.i (m+1,ml g s d x,[x]) (by first|rfl|simp[iM]) (by first|rfl|simp[iM]) rfl rfl ?_;dsimp only;refine⟨by simp at h0;omega,by simp at h0;simp;omega,j.2,by simp,by simp;omega,?_⟩;rw[p];congr 1;omega
  .have f:lC g s d c = []:=by rw[e,if_neg (λh=>b h.1)]
   simp[b,f]
 .simp only[if_neg i,bW,aS]
  by_cases b:0<=x
  .simp[b];refine qx.r (rf:=20736) (env0:=[(7,.ptr 1 0 0),(9,.ptr 2 0 0)]) (Rd:=wW) (by simp) rfl rfl wW.a wW.b (oL rfl) (oL rfl) ?_;simp[wW]
   by_cases a:x=c
   .have f:lC g s d c=out:=by rw[e,if_neg (λh=>h.2.1 a)]
    simp[a,f,i]
   .simp[a];refine Yr (f260 out x (by omega)) ?_;simp;refine X2.z a ?_;simp
    by_cases gF:x∈out
    .have f:lC g s d c=out:=by rw[e,if_neg (λh=>h.2.2 gF)]
     simp[gF,f,i]
    .have p:lC g s d c=ui g s d c (9-m) (ml g s d x) (out ++ [x]):=by rw[e,if_pos ⟨b,a,gF⟩]
     have hl:0<out.length:=aw.2 i;simp[gF];refine gf ?_;refine Yr (f240 g hg s d x) ?_;simp;refine LJ.i (m+1,ml g s d x,out ++ [x]) (by first|rfl|simp[show out.length-1+1=out.length by omega]) (by first|rfl|simp[show out.length-1+1=out.length by omega]) rfl rfl ?_;dsimp only;refine⟨by omega,by simp;omega,j.2,?_,λy k=>?_,?_⟩
     .grind
     .grind
     .grind
  .have f:lC g s d c=out:=by rw[e,if_neg (λh=>b h.1)]
   simp[b,f,i]
def f242(g:gj)(hg:oM g)(s d c:Int):Wf T 324 [g.jJ,.i s,.i d,.i c] [] (Is (dN 1 f1 (lC g s d c))):=by
 refine Yg LQ ?_;simp[LQ];refine Yc (f259 g s d c) ?_;simp;refine tC.r (f:=335) (first:=[]) (cap:=[.gC [.i g.size,.sl 1 (g.next.map fI),dI g.jw],.gC [.i s],.gC [.i d],.gC [.i c]]) rfl rfl rfl rfl ?_;simp;refine Wf.mono (f265 g hg s d c) ?_;rintro _ H' ⟨st,b,rfl⟩;refine⟨[(7,.ptr 1 0 0),(9,.ptr 2 0 0)],st,by simp,?_⟩
 by_cases h:lC g s d c = []
 .rcases b with rfl|rfl
  .simp[h];rfl
  .simp[h];rfl
 .have e:dI (lC g s d c)=dN 1 f1 (lC g s d c):=by
   revert h
   cases lC g s d c with
   | nil=>intro h;exact absurd rfl h
   | cons a r=>intro _;rfl
  rcases b with rfl|rfl
  .simp[h,e]
  .simp[h,e]
@[simp] theorem atY(l:List Int):closed (dN 1 f1 l)=true:=Bg (λa=>by simp[gG]) l
theorem QM{l:List gy}(h:l≠[]):kE l=pd l:=by
 cases l with
 | nil=>exact absurd rfl h
 | cons a r=>rfl
def f200(g:gj)(hg:gU g)(s:gy)(hs:km g s)(n:Int):Wf T 301 [.agg s.cells,dG g,.i n] [] (Is (pd (je g s (2,n)))):=by
 have m:=hs.p.size;have k:=hg.jJ.size;have e:je g s (2,n)=qm s (lC g s.p.side n s.cur):=by simp[je]
 have gF:∀y∈lC g s.p.side n s.cur,0<=y/\y<g.size:=λy j=>Tl hg.jJ j;have d:(lC g s.p.side n s.cur).length<=10:=Tm;rw[e];refine Yg Lu ?_;simp[Lu,gy.cells];refine Yc (f242 g hg.jJ s.p.side n s.cur) ?_;simp;generalize lC g s.p.side n s.cur=l at *;refine gp.e ((0,[]):Int×List gy) (λy=>[(3,.ptr 0 0 0),(7,if y.1=0 then .gg else .fZ 2 (y.2.length-1) 8 0 y.2.length),(19,dN 1 f1 l),(20,.i l.length),(21,.i y.1)]) (λy=>.row 330 0 s.cells :: .row 43 0 g.cells::(if y.1=0 then []else [.row 330 (y.2.length-1) (cl gy.cells y.2)])) (λy=>0<=y.1/\y.1<=l.length/\y.2.length=y.1.toNat/\qm s l=y.2++qm s (l.drop y.1.toNat)) (λy=>(l.length-y.1).toNat) ?_ ?_
 .simp
 rintro⟨i,st⟩ ⟨i0,f,c,a⟩;dsimp only at i0 f c a ⊢
 by_cases hi:i<l.length
 .have o:=gF _ (gA i0 hi);rw[n5 i0 hi,qm]at a
  by_cases b:i=0
  .have:st = []:=ax.1 (by omega);subst b;subst this;simp[hi,gy.cells];(with_reducible repeat' first|refine Xk ?_<;>try simp|refine Xs ?_ ?_<;>intro h<;>(try intro p)<;>(try simp[h])<;>try omega|refine Xg ?_|omega)
   .refine LJ.i (1,[{ s with cur:=gt l 0 }]) (by first|rfl|simp[iM,gy.cells]) (by first|rfl|simp[iM,gy.cells]) rfl rfl ?_;refine gJ ⟨rfl,?_⟩;rw[a,if_pos h];rfl
   .rw[a,if_neg h];rfl
  .have hl:0<st.length:=by omega
   rw[if_neg b,if_neg b];simp[hi,gy.cells];refine jT ?_ ?_<;>intro h
   .refine LJ.i (i+1,st ++ [{ s with cur:=gt l i }]) (by first|rfl|simp[show¬(i+1=0)by omega,show st.length-1+1=st.length by omega,gy.cells]) (by first|rfl|simp[show¬(i+1=0)by omega,show st.length-1+1=st.length by omega,gy.cells]) rfl rfl ?_;refine⟨by dsimp only;omega,by dsimp only;omega,by dsimp only;omega,by simp;omega,?_⟩;rw[a,if_pos h,show(i+1).toNat=i.toNat+1 by omega];simp
   .rw[a,if_neg h,<-QM (by simp)];simp[kE,gy.cells]
 .rw[br (by omega),qm,az]at a
  by_cases b:i=0
  .have:st = []:=ax.1 (by omega);subst b;subst this;simp[show¬ 0<l.length by omega,gy.cells];rw[a];rfl
  .rw[if_neg b,if_neg b];simp[hi,gy.cells];rw[a,QM (by intro h;rw[h]at c;simp at c;omega)]
def f164(g:gj)(hg:gU g)(s:gy)(hs:km g s)(x:gd)(b:F8 g x):Wf T 286 [dG g,.agg s.cells,.agg [.i x.1,.i x.2]] [] (Is (pd (je g s x))):=by
 obtain⟨k,n⟩:=x;have a:=b.ok;dsimp only at a ⊢;rcases(show k=1\/k=2\/k=3\/k=4\/k=5\/k=6\/k=7\/k=8\/k=9\/k=10 by omega)with rfl|rfl|rfl|rfl|rfl|rfl|rfl|rfl|rfl|rfl
 all_goals
  refine Yg La ?_;simp[La,gy.cells]
 .refine jh.c rfl rfl (f199 g hg s hs n) (by simp) (by simp) ?_;simp
 .refine jh.c rfl rfl (f200 g hg s hs n) (by simp) (by simp) ?_;simp
 .refine jh.c rfl rfl (f201 g hg s hs n) (by simp) (by simp) ?_;simp
 .refine jh.c rfl rfl (f202 g hg s hs n) (by simp) (by simp) ?_;simp
 .refine jh.c rfl rfl (f203 g hg s hs n) (by simp) (by simp) ?_;simp
 .refine jh.c rfl rfl (f204 g hg s hs n) (by simp) (by simp) ?_;simp
 .refine jh.c rfl rfl (f205 g hg s hs n) (by simp) (by simp) ?_;simp
 .refine jh.c rfl rfl (f206 g s n) (by simp) (by simp) ?_;simp
 .refine jh.c rfl rfl (f207 g hg s hs n (by omega)) (by simp) (by simp) ?_;simp
 .refine jh.c rfl rfl (f208 g hg s hs n (by omega)) (by simp) (by simp) ?_;simp
@[simp] theorem ar7(t sz bytes:Nat)(z:List D)(m:Int)(a:Nat):MP t sz bytes z .gg (.val (.int .i64 m)) a=if 0<m/\rm (m*bytes) 140737488355328/\rm m 9223372036854775807 then some (.fZ a 0 sz 0 m.toNat,.new (.row t 0 (List.replicate m.toNat z).flatten))else none:=rfl
theorem f191(n:Int)(a:0<n/\n<1000):Wf T 212 [.gg,.i n] [] (λd H=>d = .fZ 0 0 1 0 0/\H = [.row 3 0 (cl f1 (List.replicate n.toNat 0))]):=by refine Yg Lo ?_;simp[Lo];exact mQ
@[irreducible] def fl(l:List (List Int)):List Int:=l.flatten
theorem zS(l:List (List Int)):fl l=l.flatten:=by unfold fl;rfl
@[simp] theorem auM:fl [] = []:=by simp[zS]
theorem XA{l:List (List Int)}{i:Int}(h0:0<=i)(h:i<l.length):fl (l.take (i+1).toNat)=fl (l.take i.toNat)++gt l i:=by rw[jn h0 h];simp[zS]
def Xz(l:List (List Int))(n:Nat):(fl (l.take n)).length<=(fl l).length:=by
 simp only[zS]
 conv=>rhs;rw[<-bY n l]
 simp only[eT,aj];omega
def f148(l:List (List Int))(hl:l.length<=10)(m:0<(fl l).length/\(fl l).length<1000):Wf T 147 [.sl 1 (l.map fI)] [] (λd H=>d = .fZ 0 l.length 1 0 (fl l).length/\H = [.row 3 l.length (cl f1 (fl l))]):=by
 have p:0<l.length:=by
  cases l with
  | nil=>simp at m
  | cons a r=>simp
 refine Yg K5 ?_;simp[K5];refine gp.e (0:Int) (λi=>[(0,.sl 1 (l.map fI)),(3,.i (fl (l.take i.toNat)).length),(9,.sl 1 (l.map fI)),(10,.i l.length),(11,.i i)]) (λi=>[]) (λi=>0<=i/\i<=l.length) (λi=>(l.length-i).toNat) ?_ ?_
 .simp
 rintro i ⟨i0,n⟩
 by_cases hi:i<l.length
 .have h1:=XA i0 hi;have c:=Xz l (i+1).toNat;rw[h1,aj]at c;simp[hi];(with_reducible repeat' first|refine Xk ?_<;>try simp|refine Xs ?_ ?_<;>intro h<;>(try intro o)<;>(try simp[h])<;>try omega|refine Xg ?_|omega);refine LJ.i (i+1) (by first|rfl|simp[h1]) (by first|rfl|simp[h1]) rfl rfl ?_;exact mj
 .have f:(l.take i.toNat)=l:=lr (by omega);simp[hi,f];refine Yn (f191 (fl l).length (by omega)) ?_;simp;refine gp.e (0:Int) (λj=>[(6,.fZ 0 j.toNat 1 0 (fl (l.take j.toNat)).length),(25,.sl 1 (l.map fI)),(26,.i l.length),(27,.i j)]) (λj=>[.row 3 j.toNat (if j=0 then cl f1 (List.replicate (fl l).length 0)else cl f1 (fl (l.take j.toNat)))]) (λj=>0<=j/\j<=l.length) (λj=>(l.length-j).toNat) ?_ ?_
  .simp
  rintro j ⟨j0,j1⟩
  by_cases b:j<l.length
  .have h1:=XA j0 b;have c:=Xz l (j+1).toNat;rw[h1,aj]at c
   by_cases g:j=0
   .subst g;simp at h1 c;simp[b];refine gf ?_;refine LJ.i (1) (by first|rfl|simp[h1]) (by first|rfl|simp[h1]) rfl rfl ?_;exact mj
   .rw[if_neg g];simp[b];refine gf ?_;have e:(j+1).toNat=j.toNat+1:=by omega
    rw[e]at h1;refine LJ.i (j+1) (by first|rfl|simp[h1,e,show¬(j+1=0)by omega]) (by first|rfl|simp[h1,e,show¬(j+1=0)by omega]) rfl rfl ?_;exact mj
  .have f:(l.take j.toNat)=l:=lr (by omega);have k:j.toNat=l.length:=by omega
   rw[if_neg (by omega)];simp[b,f,k]
@[irreducible] def oo(p:Pos):List Int:=fl [p.cs,p.h0,p.h1,[p.gM,p.side]]
theorem Ct(p:Pos):oo p=fl [p.cs,p.h0,p.h1,[p.gM,p.side]]:=by unfold oo;rfl
def oG(p:Pos):ByteArray:=((oo p).map λn=>IntKind.u8.wrap n).foldl (λr n=>r.push (UInt8.ofNat n.toNat)) ByteArray.empty
@[simp] theorem ady(l:List Int)(n:Int):cl fU l ++ [.val (.int .u8 n)]=cl fU (l ++ [n]):=by rw[<-p9,zQ]
@[simp] theorem adf:∀l:List Int,bytesOf (cl fU l)=some l
 | []=>by simp[bytesOf]
 | a::r=>by rw[mD,zQ,eI,bytesOf,adf r]
def f101(p:Pos)(h:0<p.cs.length)(hl:(oo p).length<1000):Wf T 93 [dP p] [] (Is (.val (.string (oG p)))):=by
 have f:0<(oo p).length:=by simp[Ct,zS];omega
 have d:=f148 [p.cs,p.h0,p.h1,[p.gM,p.side]] (by simp) (by rw[<-Ct];exact⟨f,hl⟩);rw[<-Ct]at d;refine Yg JN ?_;simp[JN];refine gx.nr rfl rfl d (by simp[mK,chunks];unfold dI;simp only[List.map_cons,List.map_nil,zO]) (by simp) (by simp) ?_;simp;refine gp.e (0:Int) (λy=>[(3,if y=0 then .gg else .fZ 4 (y.toNat-1) 1 0 y.toNat),(20,.fZ 3 4 1 0 (oo p).length),(21,.i (oo p).length),(22,.i y)]) (λy=>[.row 46 0 p.cells,.row 3 0 [.i p.gM,.i p.side],.row 37 0 [dI p.cs,dI p.h0,dI p.h1,.fZ 1 0 1 0 2],.row 3 4 (cl f1 (oo p))]++(if y=0 then []else [.row 5 (y.toNat-1) (cl fU (((oo p).take y.toNat).map λn=>IntKind.u8.wrap n))])) (λy=>0<=y/\y<=(oo p).length) (λy=>((oo p).length-y).toNat) ?_ ?_
 .simp
 rintro i ⟨i0,k⟩
 by_cases hi:i<(oo p).length
 .have a:(List.take (i.toNat+1) (oo p)).map (λn=>IntKind.u8.wrap n)=(List.take i.toNat (oo p)).map (λn=>IntKind.u8.wrap n) ++ [IntKind.u8.wrap (gt (oo p) i)]:=by rw[<-show(i+1).toNat=i.toNat+1 by omega,jn i0 hi];simp
  have b:(i+1).toNat=i.toNat+1:=by omega
  by_cases c:i=0
  .rw[if_pos c,if_pos c];have g:i.toNat=0:=by omega
   rw[g]at a b;simp at a;simp[hi];refine gf ?_;refine LJ.i (i+1) (by first|rfl|simp[show¬(i+1=0)by omega,b,a,iM]) (by first|rfl|simp[show¬(i+1=0)by omega,b,a,iM]) rfl rfl ?_;exact mj
  .rw[if_neg c,if_neg c];simp[hi];refine gf ?_;have e:i.toNat-1+1=i.toNat:=by omega
   simp at a;refine LJ.i (i+1) (by first|rfl|simp[show¬(i+1=0)by omega,b,a,e,ef]) (by first|rfl|simp[show¬(i+1=0)by omega,b,a,e,ef]) rfl rfl ?_;exact mj
 .rw[if_neg (by omega),if_neg (by omega)];have j:i.toNat=(oo p).length:=by omega
  simp[hi,DE,j];rfl
set_option maxRecDepth 100000
def GM(n:Int):ByteArray:=⟨#[UInt8.ofNat (48+n.toNat)]⟩
def f209(n:Int)(a:0<=n/\n<=9):Wf T 310 [.i n] [] (Is (.val (.string (GM n)))):=by
 rcases(show n=0\/n=1\/n=2\/n=3\/n=4\/n=5\/n=6\/n=7\/n=8\/n=9 by omega)with rfl|rfl|rfl|rfl|rfl|rfl|rfl|rfl|rfl|rfl
 all_goals exact o6 (k:=100) (by kernel_rfl)
def zz(b:Bool):ByteArray:=if b then⟨#[116,114,117,101]⟩else⟨#[102,97,108,115,101]⟩
def f210(b:Bool):Wf T 311 [.b b] [] (Is (.val (.string (zz b)))):=by
 cases b
 .exact o6 (k:=100) (by kernel_rfl)
 .exact o6 (k:=100) (by kernel_rfl)
@[simp] theorem az8(a b:ByteArray):Fu .add a b=if rm ((a.size+b.size:Nat):Int) 9223372036854775807 then some (.val (.string (a++b)))else none:=rfl
theorem foldl_push(l:List Int):∀r:ByteArray,(l.foldl (λr n=>r.push (UInt8.ofNat n.toNat)) r).data.toList=r.data.toList++l.map λn=>UInt8.ofNat n.toNat:=by
 induction l with
 | nil=>intro r;simp
 | cons a l b=>intro r;rw[cu,b];simp[ByteArray.push]
def ZR(p:Pos):(oG p).data.toList=(oo p).map λn=>UInt8.ofNat (IntKind.u8.wrap n).toNat:=by unfold oG;rw[foldl_push];simp[ByteArray.empty,ByteArray.emptyWithCapacity];rfl
@[simp] theorem av4(p:Pos):(oG p).size=(oo p).length:=by show(oG p).data.size=_;rw[<-dq,ZR,List.length_map]
@[simp] theorem azE(a:Array UInt8):ByteArray.size ⟨a⟩=a.size:=rfl
@[simp] theorem aup(n:Int):(GM n).size=1:=rfl
@[simp] theorem ac7(b:Bool):(zz b).size<=5:=by cases b<;>decide
def oX(s:gy):ByteArray:=GM s.kind++⟨#[32]⟩++GM s.cur++⟨#[32]⟩++zz s.jM++⟨#[32]⟩++oG s.p
def f165(s:gy)(h1:0<=s.kind/\s.kind<=9)(a:0<=s.cur/\s.cur<=9)(h:0<s.p.cs.length)(hl:(oo s.p).length<1000):Wf T 287 [.agg s.cells] [] (Is (.val (.string (oX s)))):=by have b:=ac7 s.jM;refine Yg Lb ?_;simp[Lb,gy.cells];refine Yt (f209 s.kind h1) ?_;simp;refine gf ?_;refine Yt (f209 s.cur a) ?_;simp;refine gf ?_;refine Yt (f210 s.jM) ?_;simp;refine gf ?_;refine Yt (f101 s.p h hl) ?_;simp;refine gf ?_;rfl
def ofNat_inj{m n:Nat}(b:m<256)(a:n<256)(h:UInt8.ofNat m=UInt8.ofNat n):m=n:=by have:=congrArg UInt8.toNat h;simp only[UInt8.toNat_ofNat']at this;omega
def ack{n:Int}(h:0<=n/\n<256):IntKind.u8.wrap n=n:=by simp only[IntKind.wrap,IntKind.bits,IntKind.signed];simp;omega
theorem aaq:∀ {a b:List Int},(∀n∈a,0<=n/\n<256)->(∀n∈b,0<=n/\n<256)->(a.map λn=>UInt8.ofNat (IntKind.u8.wrap n).toNat)=(b.map λn=>UInt8.ofNat (IntKind.u8.wrap n).toNat)->a=b
 | [],[],_,_,_=>rfl
 | [],_::_,_,_,h=>by simp at h
 | _::_,[],_,_,h=>by simp at h
 | x::a,y::b,ha,hb,h=>by simp only[List.map_cons,cS]at h;have f:=ha x (by simp);have d:=hb y (by simp);rw[ack f,ack d]at h;have e:=ofNat_inj (by omega) (by omega) h.1;rw[aaq (λn c=>ha n (by simp[c])) (λn c=>hb n (by simp[c])) h.2,show x=y by omega]
def Tc{g:gj}(hg:gU g){p:Pos}(b:iz g p):∀n∈oo p,0<=n/\n<256:=by
 have e:=hg.kinds;have d:=hg.gM;have f:=E6 d.1 (by omega)
 have c:∀ {l:List Int},su g l->∀n∈l,0<=n/\n<256:=λ{l} h n a=>by obtain⟨i,h0,h1,rfl⟩:=um.1 a;have:=h.at_ i h0 h1;omega
 intro n a;rw[Ct,zS]at a;simp only[aZ,dJ,List.mem_append,ao,eE,or_false]at a;have j:=b.gM;have k:=b.side;rcases a with a|a|a|rfl|rfl
 .have:=b.cs n a;omega
 .exact c b.h0 n a
 .exact c b.h1 n a
 .omega
 .omega
def ahL{g:gj}{p q:Pos}(b:iz g p)(a:iz g q)(h:oo p=oo q):p=q:=by rw[Ct,Ct,zS,zS]at h;simp only[aZ,dJ,az]at h;have k:=b.size;have j:=a.size;have i:=b.h0.len;have b2:=a.h0.len;have f:=b.h1.len;have c2:=a.h1.len;obtain⟨e,h⟩:=fG h (by omega);obtain⟨d,h⟩:=fG h (by omega);obtain⟨c,h⟩:=fG h (by omega);simp only[cS,and_true]at h;cases p;cases q;simp_all
def ZQ{g:gj}(hg:gU g){p q:Pos}(c:iz g p)(a:iz g q)(h:oG p=oG q):p=q:=by have d:=congrArg (λb:ByteArray=>b.data.toList) h;simp only[ZR]at d;exact ahL c a (aaq (Tc hg c) (Tc hg a) d)
def ahM(s:gy):(oX s).data.toList=UInt8.ofNat (48+s.kind.toNat)::32::UInt8.ofNat (48+s.cur.toNat)::32::((zz s.jM).data.toList++32::(oG s.p).data.toList):=by unfold oX GM;simp
def ZV{g:gj}(hg:gU g){s t:gy}(hs:km g s)(e:km g t)(h:oX s=oX t):s=t:=by
 have i:=congrArg (λb:ByteArray=>b.data.toList) h;simp only[ahM,cS,true_and]at i;obtain⟨r,q,d⟩:=i;have w:=hg.kinds;have x:=hg.jJ.size;have k1:=hs.kind;have k2:=e.kind;have v:=hs.cur;have u:=e.cur;have f1:=ofNat_inj (by omega) (by omega) r;have f2:=ofNat_inj (by omega) (by omega) q;obtain⟨p,k,c,b⟩:=s;obtain⟨a,l,c',j⟩:=t;dsimp only at *
 have f:b=j/\oG p=oG a:=by
  cases b<;>cases j
  .simp[zz]at d;exact⟨rfl,by cases n:oG p;cases m:oG a;simp_all [fy]⟩
  .simp[zz]at d
  .simp[zz]at d
  .simp[zz]at d;exact⟨rfl,by cases n:oG p;cases m:oG a;simp_all [fy]⟩
 have o:p=a:=ZQ hg hs.p e.p f.2;rw[f.1,o,show k=l by omega,show c=c' by omega]
def OR(a b:ByteArray):nW (.string a) (.string b)=decide (a=b):=by obtain⟨a⟩:=a;obtain⟨b⟩:=b;show(a == b)=_;rw[Bool.eq_iff_iff,beq_iff_eq,decide_eq_true_iff,ByteArray.mk.injEq]
theorem Tz{g:gj}(hg:gU g){t:gy}(b:km g t):∀ {l:List gy},(∀s∈l,km g s)->rr (l.map λs=>((.string (oX s):Value),D.b true)) (.string (oX t))=if t∈l then some (.b true)else none
 | [],_=>by simp[rr]
 | a::l,h=>by
  rw[List.map_cons,rr,OR,Tz hg b λs hs=>h s (by simp[hs])]
  by_cases e:t=a
  .subst e;simp
  .have:¬oX t=oX a:=λk=>e (ZV hg b (h a (by simp)) k);simp[this,e]
theorem TF{g:gj}(hg:gU g){t:gy}(b:km g t):∀ {l:List gy},(∀s∈l,km g s)->t ∉ l->mz (l.map λs=>((.string (oX s):Value),D.b true)) (.string (oX t)) (.b true)=(l ++ [t]).map λs=>((.string (oX s):Value),D.b true)
 | [],_,_=>by simp[mz]
 | a::l,h,hn=>by simp only[ao,not_or]at hn;have:¬oX t=oX a:=λk=>hn.1 (ZV hg b (h a (by simp)) k);rw[List.map_cons,mz,OR,TF hg b (λs hs=>h s (by simp[hs])) hn.2];simp[this]
set_option maxRecDepth 10000
set_option maxHeartbeats 8000000
def gx.inl{T:iD}{f:FuncId}{args:List D}{dst:Option Nat}{s:St}{K:St->Prop}(fn:jo)(a:T.fn f=some fn)(c:fn.full=true)(hl:args.length<=fn.ntmps)(b:uu fn.body=true)
  (h:XC T fn.body { env:=uo args,H:=s.H } (zR fn.results fn.own s.H.length λd H'=>K { s with env:=put s.env dst d,H:=H' })):gx T f args dst s K .mk:=.inr ⟨fn,a,c,Wf.x a hl h b⟩
abbrev yn(g:gj)(p:Pos)(st:gy)(outs:D):U:=[.row 43 0 g.cells,.row 46 0 p.cells,.row 256 0 [outs],.row 43 0 g.cells,.row 46 0 p.cells,.dead,.dead,.dead,.row 330 0 st.cells,.dead]
def afr(g:gj)(hg:gU g)(p:Pos)(e:iz g p)(st t:gy)(a:km g t):Wf T 260 [.agg t.cells,.agg [.i 0,.i 0],.ptr 1 0 0,.ptr 2 0 0] (yn g p st .gg ++ [.row 330 0 t.cells])
  (λ_ H'=>match oz p.side t with
   | none=>H'=yn g p st .gg ++ [.row 330 0 t.cells]
   | some o=>H'=yn g p st (.fZ 11 0 6 0 1) ++ [.row 330 0 t.cells,.row 259 0 (cl gQ.cells [o])]):=by
 have m:=a.p.size;have c:=a.cur;have d:=a.p.small hg;have h:=hg.jJ.size;have q:=hg.kinds;have j:=a.p.h0.len;have i:=a.p.h1.len;have b:=e.side;have f:=a.p.side;refine Yz sQ (iV 37 [13,14,15] sQ.body) ?_;simp[sQ,iV,kq,nb,ng,nD,lV,yn,gy.cells]
 by_cases h0:gt t.p.cs t.cur=0
 .simp[h0];refine gf ?_;refine Yn (f91 t d (by omega)) ?_;simp;refine gf ?_;refine Yt (f92 (k:=t.kind) (s:=p.side) a.kind.1 (by have:=a.kind;omega) b.1 b.2) ?_;simp;refine gf ?_;have q0:=iC (l:=t.p.cs) (n:=t.cur) (v:=1+2*t.kind+p.side) c.1 (by omega);simp[oz,h0,lU,iM,q0]
 .simp[h0,oz];exact mQ
def afs(g:gj)(hg:gU g)(p:Pos)(e:iz g p)(st t:gy)(a:km g t)(outs:List gQ)(u:outs.length<2 ^ 39)(f:0<outs.length):Wf T 260 [.agg t.cells,.agg [.i 0,.i 0],.ptr 1 0 0,.ptr 2 0 0] (yn g p st (.fZ 10 (outs.length-1) 6 0 outs.length) ++ [.row 259 (outs.length-1) (cl gQ.cells outs),.row 330 0 t.cells])
  (λ_ H'=>match oz p.side t with
   | none=>H'=yn g p st (.fZ 10 (outs.length-1) 6 0 outs.length) ++ [.row 259 (outs.length-1) (cl gQ.cells outs),.row 330 0 t.cells]
   | some o=>H'=yn g p st (.fZ 10 (outs ++ [o]).length.pred 6 0 (outs ++ [o]).length) ++ [.row 259 (outs ++ [o]).length.pred (cl gQ.cells (outs ++ [o])),.row 330 0 t.cells]):=by
 have r:=a.p.size;have c:=a.cur;have d:=a.p.small hg;have j:=hg.jJ.size;have w:=hg.kinds;have q:=a.p.h0.len;have m:=a.p.h1.len;have b:=e.side;have i:=a.p.side;refine Yz sQ (iV 37 [14,15,16] sQ.body) ?_;simp[sQ,iV,kq,nb,ng,nD,lV,yn,gy.cells]
 by_cases h0:gt t.p.cs t.cur=0
 .simp[h0];refine gf ?_;refine Yn (f91 t d (by omega)) ?_;simp;refine gf ?_;refine Yt (f92 (k:=t.kind) (s:=p.side) a.kind.1 (by have:=a.kind;omega) b.1 b.2) ?_;simp;refine gf ?_;have q0:=iC (l:=t.p.cs) (n:=t.cur) (v:=1+2*t.kind+p.side) c.1 (by omega);simp[oz,h0,lU,q0];(with_reducible repeat' first|refine Xk ?_<;>try simp[show outs.length-1+1=outs.length by omega]|refine Xs ?_ ?_<;>intro h<;>(try intro x)<;>(try simp[h,show outs.length-1+1=outs.length by omega])<;>try omega|refine Xg ?_|omega)
 .simp[h0,oz];exact mQ
