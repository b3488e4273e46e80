/- Part 16 of DisputeHonest. -/
import Derived.Test.YtmehofoficaelaaGreatDoorH15
set_option linter.all false
namespace Go.Proofs.YtmehofoficaelaaGreatDoor
open Go Go.AL Classical
set_option maxRecDepth 10000
set_option maxHeartbeats 1000000
@[simp] theorem ao8(n:Int)(nx:List (List Int))(tn:List Int):closed (bD n nx tn)=true:=by simp[bD]
theorem f104(w d c:Int)(g:0<=w/\w<256)(i:0<=d/\d<256)(j:0<=c/\c<256):Wf T 159 [.val (.int .u8 w),.val (.int .u8 d),.val (.int .u8 c)] [] (Ey (λx:Int×List (List Int)×List Int=>bD x.1 x.2.1 x.2.2) λx=>nv (Av x.1 x.2.1 x.2.2)):=by
 have w1:=iV (a:=w) (b:=3) g.1;have h1:=iV (a:=d) (b:=3) i.1;have w2:IntKind.i64.wrap (fJ w 3)=fJ w 3:=mL ie;have k:IntKind.i64.wrap (fJ d 3)=fJ d 3:=mL ie;have c2:IntKind.i64.wrap c=c:=mL ie;refine Yg GR ?_;simp[GR,w2,k];refine fo ?_;obtain⟨n,nx,tn,hg,e⟩:=f149 (1+fJ w 3) (1+fJ d 3) (by omega) (by omega);have o:1<=n/\n<=9:=e.size;refine fL.c rfl rfl hg (by simp) (by simp[bD]) ?_;simp[bD,c2];refine ju ?_ ?_<;>intro h
 .rw[c2];have m:=iV (a:=c) (b:=n) j.1;have l:=bO c (show n≠0 by omega);have p:=bH c (show 0<n by omega);refine Yv (f150 n nx tn e (fJ c n) (by omega)) λx f=>?_;simp;simp[bD];exact Ey.i (n,x,tn) rfl rfl f
 .exact Ey.i (n,nx,tn) rfl rfl e
theorem jY.s{T:gO}{n:Nat}{live:List Nat}{a:IR}{s b:St}{K:iq}(hs:s=b)(h:jY T n live a b K .mk):jY T n live a s K .mk:=by subst hs;exact h
theorem fE.s{T:gO}{live:List Nat}{a:IR}{s b:St}{K:iq}(hs:s=b)(h:fE T live a b K .mk):fE T live a s K .mk:=by subst hs;exact h
theorem SF(l:List Int):cl fU l=l.map λn=>D.val (.int .u8 n):=by
 rw[na]
 induction l with
 | nil=>rfl
 | cons a r b=>simp[<-b]
@[simp] theorem aev{l:List Int}{k:Nat}{P:D->Prop}:oA (cl fU l)[k]? P .mk=(k<l.length/\P (.val (.int .u8 (gt l k)))):=by
 rw[SF]
 by_cases h:k<l.length
 .simp[h,gt]
 .simp[h]
@[simp] theorem anN{l:List Int}{k:Nat}(h:k<(cl fU l).length):(cl fU l)[k] = .val (.int .u8 (gt l k)):=by
 have a:k<l.length:=by simpa using h
 simp[SF,gt,a]
theorem f59(g:fu)(hg:gu g)(l:List Int)(hl:l.length=18)(h:∀n∈l,0<=n/\n<256) :
  Wf T 100 [dG g,.agg (cl fU l)] [] (Ey dP (gJ g)):=by
 have hb:=hg.jb.size;have u:=hg.kinds;have M:=hg.fY;have N:=QT M.1 (by omega);have h5:=CF M.1 (by omega);have h6:(0:Int)<2 ^ g.fY.toNat:=Int.pow_pos (by decide);have q:∀k:Nat,k<18->0<=gt l k/\gt l k<256:=λk u=>h _ (fM (by omega) (by omega))
 have s:∀k:Nat,k<18->IntKind.i64.wrap (gt l k)=gt l k:=λk u=>by have:=q k u;exact mL ie
 have L:=s 16 (by omega);have K:=s 17 (by omega);have Q:=q 16 (by omega);have P:=q 17 (by omega);simp at L K Q P;have Y:=iV (a:=gt l 16) (b:=2 ^ g.fY.toNat) Q.1;have m16:=bO (gt l 16) (show(2:Int) ^ g.fY.toNat≠0 by omega);have Z:=bH (gt l 16) h6;have X:=iV (a:=gt l 17) (b:=2) P.1;have O:IntKind.i64.wrap (fJ (gt l 17) 2)=fJ (gt l 17) 2:=mL ie;have hR:0<=fJ (gt l 16) (2 ^ g.fY.toNat)/\fJ (gt l 16) (2 ^ g.fY.toNat)<2 ^ g.fY.toNat:=by omega
 have hS:0<=fJ (gt l 17) 2/\fJ (gt l 17) 2<=1:=by omega
 refine Yg Je ?_;simp[Je,N,hl,L,O];generalize fJ (gt l 16) (2 ^ g.fY.toNat)=R at *;generalize fJ (gt l 17) 2=S at *;refine Bl N hl L O ?_;refine fE.e ((0,List.replicate g.size.toNat 0):Int×List Int) (λy=>[(2,.ptr 0 0 0),(3,.ptr 1 0 0),(4,.ptr 2 0 0),(5,.ptr 4 0 0),(6,.i y.1)]) (λy=>[.row 43 0 g.cells,.row 30 0 (cl fU l),.row 46 0 [.fw,.fw,.fw,.i 0,.i 0],.row 3 0 (cl f1 y.2),.row 46 0 [.fm 3 0 1 0 g.size.toNat,.fw,.fw,.i R,.i S]]) (λy=>0<=y.1/\y.1<=6/\y.2.length=g.size.toNat/\∀x∈y.2,0<=x/\x<=2*g.kinds.length) (λy=>6-y.1.toNat) ?_ ?_
 .simp;exact lZ
 rintro⟨i,cs⟩ ⟨i0,p,F,w⟩;dsimp only at i0 p F w ⊢;have c:max i 0=i:=by omega
 by_cases hi:i<6
 .have w1:IntKind.i64.wrap (gt l i)=gt l i:=by have:=s i.toNat (by omega);rwa [bS i0]at this
  have w2:IntKind.i64.wrap (gt l (6+i))=gt l (6+i):=by have:=s (6+i.toNat) (by omega);rwa [show((6+i.toNat:Nat):Int)=6+i by omega]at this
  have t:0<=gt l i:=by have:=q i.toNat (by omega);rw[bS i0]at this;exact this.1
  have U:0<=gt l (6+i):=by have:=q (6+i.toNat) (by omega);rw[show((6+i.toNat:Nat):Int)=6+i by omega]at this;exact this.1
  have E:=iV (a:=gt l i) (b:=g.size+1) t;have e1:=bO (gt l i) (show g.size+1≠0 by omega);have W:=iV (a:=gt l (6+i)) (b:=g.kinds.length) U;have e2:=bO (gt l (6+i)) (show(g.kinds.length:Int)≠0 by omega);have e3:=bH (gt l (6+i)) (show(0:Int)<g.kinds.length by omega);have V:=iV (a:=i) (b:=2) i0;simp[hl,c,hi,w1,w2];have J:g.kinds≠[]:=by intro h;simp[h]at u
  obtain⟨A,z⟩:∃A,fJ (gt l i) (g.size+1)=A:=⟨_,rfl⟩;obtain⟨B,I⟩:∃B,fJ (gt l (6+i)) g.kinds.length=B:=⟨_,rfl⟩;obtain⟨C,H⟩:∃B,fJ i 2=B:=⟨_,rfl⟩;rw[z]at E;rw[I]at W;rw[H]at V;simp only[z];(with_reducible repeat' first|refine Xk ?_<;>try simp[hl,c,w1,w2,z,I,H,J]|refine Xs ?_ ?_<;>intro h<;>(try intro D)<;>(try simp[h,hl,c,w1,w2,z,I,H,J])<;>try omega|refine Xg ?_|omega)
  .refine ja J ?_;refine LJ.e (i+1,pt cs A (1+2*B+C)) ?_;dsimp only;have hv:0<=1+2*B+C/\1+2*B+C<=2*g.kinds.length:=by omega
   refine gg ⟨?_,?_⟩
   .have:=ig (l:=cs) (n:=A) (v:=1+2*B+C) (by omega) (by omega);omega
   .intro x G;rcases Wn G with rfl|G
    .exact hv
    .exact w x G
  .refine LJ.e (i+1,cs) ?_;exact gg ⟨F,w⟩
 simp[hi]
 have z0:qj g (List.replicate g.kinds.length 0):=⟨by simp,λk u l7=>by
  have e:gt (List.replicate g.kinds.length (0:Int)) k=0:=by
   simp at l7;have:k.toNat<g.kinds.length:=by omega
   simp[gt,this]
  rw[e];omega⟩
 refine fE.un ?_;refine jY.s (by simp;rfl) ?_;refine jY.u ?_;simp;refine fo ?_;refine fE.e ((0,List.replicate g.kinds.length 0):Int×List Int) (λy=>[(2,.ptr 0 0 0),(3,.ptr 1 0 0),(4,.ptr 2 0 0),(5,.ptr 4 0 0),(8,.i 0),(9,.i y.1)]) (λy=>[.row 43 0 g.cells,.row 30 0 (cl fU l),.row 46 0 [.fw,.fw,.fw,.i 0,.i 0],.row 3 0 (cl f1 cs),.row 46 0 [.fm 3 0 1 0 g.size.toNat,.fm 5 0 1 0 g.kinds.length,.fw,.i R,.i S],.row 3 0 (cl f1 y.2)]) (λy=>0<=y.1/\y.1<=g.kinds.length/\qj g y.2) (λy=>g.kinds.length-y.1.toNat) ?_ ?_
 .simp;exact z0
 rintro⟨i,h0⟩ ⟨i0,p,j⟩;dsimp only at i0 p j ⊢;have c:max i 0=i:=by omega
 have m:=j.len
 by_cases hi:i<g.kinds.length
 .have f:i<2:=by omega
  have w1:IntKind.i64.wrap (gt l (12+i))=gt l (12+i):=by have:=s (12+i.toNat) (by omega);rwa [show((12+i.toNat:Nat):Int)=12+i by omega]at this
  have t:0<=gt l (12+i):=by have:=q (12+i.toNat) (by omega);rw[show((12+i.toNat:Nat):Int)=12+i by omega]at this;exact this.1
  have E:=iV (a:=gt l (12+i)) (b:=3) t
  by_cases d:(gt g.kinds i).keep=true
  .have r:∀v,(pt h0 i v).length=h0.length:=λv=>ig i0 (by omega);have o:i.toNat<g.kinds.length:=by omega
   simp[hl,c,hi,f,d,w1,r,m,o];(with_reducible repeat' first|refine Xk ?_<;>try simp[hl,c,hi,f,d,w1,r,m,o]|refine Xs ?_ ?_<;>intro h<;>(try intro D)<;>(try simp[h,hl,c,hi,f,d,w1,r,m,o])<;>try omega|refine Xg ?_|omega)
   .refine LJ.e (i+1,pt (pt h0 i (fJ (gt l (12+i)) 3)) i 8) ?_;refine gg ?_;exact(j.set i0 (by omega) (qe (λ_=>d))).set i0 (by rw[ig i0 (by omega)];omega) (qe (λ_=>d))
   .refine LJ.e (i+1,pt h0 i (fJ (gt l (12+i)) 3)) ?_;exact gg (j.set i0 (by omega) (qe (λ_=>d)))
  .simp[hl,c,hi,f,d,w1];(with_reducible repeat' first|refine Xk ?_<;>try simp[hl,c,hi,f,d,w1]|refine Xs ?_ ?_<;>intro h<;>(try intro D)<;>(try simp[h,hl,c,hi,f,d,w1])<;>try omega|refine Xg ?_|omega);refine LJ.e (i+1,h0) ?_;exact gg j
 simp[hi];refine ja hi ?_;clear hi c i0 p m
 rename qj g h0=>WE
 refine jY.s (by simp;rfl) ?_;refine jY.u ?_;simp;refine fo ?_;refine fE.e ((0,List.replicate g.kinds.length 0):Int×List Int) (λy=>[(2,.ptr 0 0 0),(3,.ptr 1 0 0),(4,.ptr 2 0 0),(5,.ptr 4 0 0),(8,.i 1),(9,.i y.1)]) (λy=>[.row 43 0 g.cells,.row 30 0 (cl fU l),.row 46 0 [.fw,.fw,.fw,.i 0,.i 0],.row 3 0 (cl f1 cs),.row 46 0 [.fm 3 0 1 0 g.size.toNat,.fm 5 0 1 0 g.kinds.length,.fm 6 0 1 0 g.kinds.length,.i R,.i S],.row 3 0 (cl f1 h0),.row 3 0 (cl f1 y.2)]) (λy=>0<=y.1/\y.1<=g.kinds.length/\qj g y.2) (λy=>g.kinds.length-y.1.toNat) ?_ ?_
 .simp;exact z0
 rintro⟨i,h1⟩ ⟨i0,p,j⟩;dsimp only at i0 p j ⊢;have c:max (2+i) 0=(2+i):=by omega
 have m:=j.len
 by_cases hi:i<g.kinds.length
 .have f:i<2:=by omega
  have w1:IntKind.i64.wrap (gt l (12+(2+i)))=gt l (12+(2+i)):=by have:=s (12+(2+i).toNat) (by omega);rwa [show((12+(2+i).toNat:Nat):Int)=12+(2+i)by omega]at this
  have t:0<=gt l (12+(2+i)):=by have:=q (12+(2+i).toNat) (by omega);rw[show((12+(2+i).toNat:Nat):Int)=12+(2+i)by omega]at this;exact this.1
  have E:=iV (a:=gt l (12+(2+i))) (b:=3) t
  by_cases d:(gt g.kinds i).keep=true
  .have r:∀v,(pt h1 i v).length=h1.length:=λv=>ig i0 (by omega);have o:i.toNat<g.kinds.length:=by omega
   simp[hl,c,hi,f,d,w1,r,m,o];(with_reducible repeat' first|refine Xk ?_<;>try simp[hl,c,hi,f,d,w1,r,m,o]|refine Xs ?_ ?_<;>intro h<;>(try intro D)<;>(try simp[h,hl,c,hi,f,d,w1,r,m,o])<;>try omega|refine Xg ?_|omega)
   .refine LJ.e (i+1,pt (pt h1 i (fJ (gt l (12+(2+i))) 3)) i 8) ?_;refine gg ?_;exact(j.set i0 (by omega) (qe (λ_=>d))).set i0 (by rw[ig i0 (by omega)];omega) (qe (λ_=>d))
   .refine LJ.e (i+1,pt h1 i (fJ (gt l (12+(2+i))) 3)) ?_;exact gg (j.set i0 (by omega) (qe (λ_=>d)))
  .simp[hl,c,hi,f,d,w1];(with_reducible repeat' first|refine Xk ?_<;>try simp[hl,c,hi,f,d,w1]|refine Xs ?_ ?_<;>intro h<;>(try intro D)<;>(try simp[h,hl,c,hi,f,d,w1])<;>try omega|refine Xg ?_|omega);refine LJ.e (i+1,h1) ?_;exact gg j
 simp[hi];refine ja hi ?_;clear hi c i0 p m
 rename qj g h1=>WG
 refine jY.s (by simp;rfl) ?_;refine jY.u ?_;simp;refine fo ?_;exact Ey.i ⟨cs,h0,h1,R,S⟩ (by simp[F,WE.len,WG.len,dP,Pos.cells]) rfl ⟨by simp only;omega,WE,WG,hR,hS,w⟩
end Go.Proofs.YtmehofoficaelaaGreatDoor
namespace Go.AL
open Go
@[simp] theorem auM(ρ:Nat->Option Nat)(H:U)(k:Nat)(f:Fn)(a b:List D):fy ρ H (k+1) (.fn f a b) = .fn f (a.map (fy ρ H k)) (b.map (fy ρ H k)):=by
 by_cases h:closed (.fn f a b)=true
 .have c:=h;simp only[SK,Bool.and_eq_true]at c;rw[pj h,Au c.1,Au c.2]
 .rw[fy,if_neg h]
@[simp] theorem auN(ρ:Nat->Option Nat)(H:U)(k:Nat)(cs:List D):fy ρ H (k+1) (.fH cs) = .fH (cs.map (fy ρ H k)):=by
 by_cases h:closed (.fH cs)=true
 .rw[pj h,Au (by simpa using h)]
 .rw[fy,if_neg h]
theorem Nd(l:List Int):cl f1 l=l.map λn=>D.i n:=by
 rw[na]
 induction l with
 | nil=>rfl
 | cons a r b=>simp[<-b]
theorem Z7{ρ:Nat->Option Nat}{H:U}{k n:Nat}{t:TypeId}{cs:List D}(l:List Int)(h:cs=l.map λn=>D.i n)(a:n=l.length):l6 ρ H (k+1) 1 0 n (some (t,cs))=dI l:=by rw[h,<-Nd,tS a];rfl
@[simp] theorem avy(a b:ByteArray):CX .eql a b=some (.b (decide (a=b))):=by
 have:(a.data.toList == b.data.toList)=decide (a=b):=by
  rw[Bool.eq_iff_iff,beq_iff_eq,decide_eq_true_iff];constructor
  .intro h;cases a;cases b;congr 1;exact eT.1 h
  .rintro rfl;rfl
 show some (D.val (.bool _))=_;rw[this]
@[simp] theorem aoh(t:TypeId)(s:ByteArray)(n:Nat):rX t (.val (.string s)) n=some (.ptr n 0 0,.new (.row t 0 [.val (.string s)])):=rfl
@[simp] theorem aoe(t:TypeId)(m:Int)(n:Nat):rX t (.i m) n=some (.ptr n 0 0,.new (.row t 0 [.i m])):=rfl
@[simp] theorem aph(l:List (List fq)):closed (dN 1 fP l)=true:=zd (λa=>by simp[fR]) l
def FZ(rf:Nat)(st:rT)(x:Option Ob)(P:Env->Prop):Prop:=∃env,x=some (.gM rf env st)/\P env
@[simp] theorem at2{rf:Nat}{st:rT}{env:Env}{P:Env->Prop}:FZ rf st (some (.gM rf env st)) P=P env:=propext ⟨λ⟨_,h,k⟩=>by cases h;exact k,λk=>⟨_,rfl,k⟩⟩
section
variable{T:gO}{v rf:Nat}{b:IR}{dst:Option Nat}{s s1:St}{K:St->Prop}
@[simp] theorem auq:Xv T v rf b dst s K (.norm s1)=FZ rf .ready s1.H[v]? λa=>XC T b { s1 with H:=s1.H.set v (.gM rf a .busy) } (AM v rf dst s K):=rfl
@[simp] theorem aus:AM v rf dst s K (.norm s1)=FZ rf .busy s1.H[v]? λa=>K { s with env:=put s.env dst (.b true),H:=s1.H.set v (.gM rf a .ready) }:=rfl
@[simp] theorem aur{id:Nat}:AM v rf dst s K (.exit id s1)=FZ rf .busy s1.H[v]? λa=>K { s with env:=put s.env dst (.b false),H:=s1.H.set v (.gM rf a (.xQ id)) }:=rfl
@[simp] theorem aut:AM v rf dst s K (.ret s1)=FZ rf .busy s1.H[v]? λa=>K { s with env:=put s.env dst (.b false),H:=s1.H.set v (.gM rf a .zh) }:=rfl
@[simp] theorem auy{l:List D}{e:Env}:sQ [] l e=e:=by cases l<;>rfl
@[simp] theorem auw{k:Nat}{d:D}{ks:List Nat}{l:List D}{e:Env}:sQ (k::ks) (d::l) e=sQ ks l ((k,d)::e):=rfl
@[simp] theorem at0{s:St}:AJ s .ready=some (.norm s):=rfl
@[simp] theorem atZ{s:St}{id:Nat}:AJ s (.xQ id)=some (.exit id s):=rfl
@[simp] theorem at1{s:St}:AJ s .zh=some (.ret s):=rfl
end
@[simp] theorem as5(n:Nat):nN n .km = []:=rfl
@[simp] theorem as8(n rf:Nat)(e:Env)(st:rT):nN n (.gM rf e st) = []:=rfl
theorem fL.nr{T:gO}{f:FuncId}{args ny:List D}{dst:Option Nat}{s:St}{K:St->Prop}{fn:iE}{d:D}{Hn:U}(g:T.fn f=some fn)(e:fn.full=false)(h:Wf T f ny [] λd' H'=>d'=d/\H'=Hn)
  (hs:args.map (fy (λ_=>none) s.H 40)=ny) (c:(nO d&&Hn.all oJ)=true) (b:(ma d&&Hn.all nb)=true) (k:K { s with env:=put s.env dst (jQ s.H.length d),H:=s.H++Hn }):fL T f args dst s K .mk:=by
 refine fL.is g e (K0:=λd' H'=>d'=d/\H'=Hn) (by rw[hs];exact h) ?_;rintro d' i ⟨rfl,rfl⟩;refine⟨_,?_,k⟩;unfold after
 by_cases a:fR args=true
 .rw[if_pos a,if_pos b]
 .rw[if_neg a,if_pos c]
@[simp] theorem atd(v g sz off n:Nat):nO (.fm v g sz off n)=true:=rfl
@[simp] theorem ap1(t g:Nat)(cs:List D):oJ (.row t g cs)=s9 cs:=rfl
@[simp] theorem ap0(l:List Int):s9 (cl f1 l)=true:=by
 rw[Nd]
 induction l with
 | nil=>rfl
 | cons a r b=>simpa[s9,flat]using b
end Go.AL
namespace Go.Proofs.YtmehofoficaelaaGreatDoor
open Go Go.AL Classical
set_option maxRecDepth 10000
set_option maxHeartbeats 4000000
theorem f133(g:fu)(hg:gu g)(n:Int)(a:0<=n/\n<=2*g.kinds.length):Wf T 168 [dG g,.i n] [] (Is (.b true)):=by have b:=hg.kinds;refine Yg HO ?_;simp[HO];exact lZ
theorem f134(g:fu)(hg:gu g)(n:Int)(a:0<=n/\n<=2*g.kinds.length):Wf T 169 [.i n,.fH [.fn (.func 168) [dG g] []]] [] (Is (.b false)):=by refine Yg HP ?_;simp[HP];refine Yc (f133 g hg n a) ?_;simp
theorem f178(g:fu)(hg:gu g)(l:List Int)(hl:∀n∈l,0<=n/\n<=2*g.kinds.length)(b:l.length<=9):Wf T 230 [dI l,.fn (.func 169) [] [.fH [.fn (.func 168) [dG g] []]]] [] (Is (.i (-1))):=by
 refine Yg Bc ?_;simp[Bc];refine fE.e (0:Int) (λy=>[(0,dI l),(1,.fn (.func 169) [] [.fH [.fn (.func 168) [dG g] []]]),(7,.i l.length),(8,.i y)]) (λy=>[]) (λy=>0<=y/\y<=l.length) (λy=>(l.length-y).toNat) ?_ ?_
 .simp
 rintro i ⟨i0,a⟩;dsimp only at i0 a ⊢
 by_cases hi:i<l.length
 .simp[hi];refine fo ?_;refine Yc (f134 g hg (gt l i) (hl _ (fM i0 hi))) ?_;simp;refine fo ?_;refine LJ.e (i+1) ?_;exact mb
 .simp[hi]
theorem f135(g:fu)(hg:gu g)(l:List Int)(hl:∀n∈l,0<=n/\n<=2*g.kinds.length)(a:l.length<=9):Wf T 170 [dI l,.fn (.func 169) [] [.fH [.fn (.func 168) [dG g] []]]] [] (Is (.b false)):=by refine Yg Bb ?_;simp[Bb];refine Yc (f178 g hg l hl a) ?_;simp
theorem f136(g:fu)(hg:gu g)(l:List Int)(hl:qj g l):Wf T 171 [dG g,dI l] [] (Is (.b true)):=by
 have j:=hg.kinds;have c:=hl.len;refine Yg HQ ?_;simp[HQ];(with_reducible repeat' first|refine Xk ?_<;>try simp[c]|refine Xs ?_ ?_<;>intro h<;>(try intro d)<;>(try simp[h,c])<;>try omega|refine Xg ?_|omega);refine fE.e (0:Int) (λy=>[(2,.ptr 0 0 0),(14,dI l),(15,.i g.kinds.length),(16,.i y)]) (λy=>[.row 279 0 g.cells]) (λy=>0<=y/\y<=l.length) (λy=>(l.length-y).toNat) ?_ ?_
 .simp
 rintro i ⟨i0,e⟩;dsimp only at i0 e ⊢
 by_cases hi:i<l.length
 .have f:=hl.at_ i i0 hi;have k:i<g.kinds.length:=by omega
  by_cases a:0<gt l i
  .have b:=f.2.2 a;simp[hi];(with_reducible repeat' first|refine Xk ?_<;>try simp[b,a]|refine Xs ?_ ?_<;>intro h<;>(try intro d)<;>(try simp[h,b,a])<;>try omega|refine Xg ?_|omega);refine LJ.e (i+1) ?_;exact mb
  .simp[hi];(with_reducible repeat' first|refine Xk ?_<;>try simp[a]|refine Xs ?_ ?_<;>intro h<;>(try intro d)<;>(try simp[h,a])<;>try omega|refine Xg ?_|omega);refine LJ.e (i+1) ?_;exact mb
 .simp[show¬i<g.kinds.length by omega]
theorem f97(g:fu)(hg:gu g)(p:Pos)(a:gJ g p):Wf T 109 [dG g,dP p] [] (Is (.b true)):=by
 have f:=hg.kinds;have d:=hg.fY;have e:=a.fY;have hs:=a.side;have c:=a.size;have i:=hg.jb.size;have b:=QT d.1 (by omega);refine Yg Jw ?_;simp[Jw,b,c];refine iy.r rfl rfl (f135 g hg p.cs a.cs (by omega)) (by simp) (by simp[flat]) (by simp) ?_;simp;refine Yt (f136 g hg p.h0 a.h0) ?_;simp;refine Yt (f136 g hg p.h1 a.h1) ?_;simp;(with_reducible repeat' first|refine Xk ?_<;>try simp[b]|refine Xs ?_ ?_<;>intro h<;>(try intro j)<;>(try simp[h,b])<;>try omega|refine Xg ?_|omega)
 .simp[*]
 .have:p.side=1:=by omega
  simp[*]
theorem f177(n:Int):Wf T 251 [.i n] [] (Is (.b false)):=by refine Yg Ig ?_;simp[Ig]
theorem f131(a b:Int):Wf T 220 [.i a,.i b] [] (Is (.i (ka a b))):=by
 refine Yg HM ?_;simp[HM];refine Yc (f177 a) ?_;simp;refine Yc (f177 b) ?_;simp;(with_reducible repeat' first|refine Xk ?_<;>try simp|refine Xs ?_ ?_<;>intro h<;>(try intro c)<;>(try simp[h])<;>try omega|refine Xg ?_|omega)
 all_goals
  unfold ka;(repeat' split)<;>(first|rfl|(exfalso;omega))
theorem f130(a b:List Int)(l:a.length<2 ^ 40)(k:b.length<2 ^ 40):Wf T 219 [dI a,dI b] [] (Is (.i (jW a b))):=by
 refine Yg HL ?_;simp[HL];refine fE.e (0:Int) (λi=>[(0,dI a),(1,dI b),(9,dI a),(10,.i a.length),(11,.i i)]) (λi=>[]) (λi=>0<=i/\i<=a.length/\i<=b.length/\a.take i.toNat=b.take i.toNat) (λi=>a.length-i.toNat) ?_ ?_
 .simp
 rintro i ⟨h0,h1,m,f⟩;have e:=V8 f (by omega) (by omega)
 by_cases hi:i<a.length
 .by_cases d:i<b.length
  .simp[hi,d];(with_reducible repeat' first|refine Xk ?_<;>try simp|refine Xs ?_ ?_<;>intro h<;>(try intro j)<;>(try simp[h])<;>try omega|refine Xg ?_|omega);refine Yc (f131 (gt a i) (gt b i)) ?_;simp
   by_cases c:ka (gt a i) (gt b i)=0
   .simp[c];refine fo ?_;refine LJ.e (i+1) ?_;refine yG ?_;rw[iD h0 hi,iD h0 d,f,w7.1 c]
   .simp[c];rw[e,mP h0 hi,mP h0 d,jW,if_neg (λh=>c (w7.2 h))]
  .simp[hi,d];(with_reducible repeat' first|refine Xk ?_<;>try simp|refine Xs ?_ ?_<;>intro h<;>(try intro j)<;>(try simp[h])<;>try omega|refine Xg ?_|omega)
   have g:ka ((a.drop i.toNat).length) ((b.drop i.toNat).length)=1:=by simp only[aQ,ka];rw[if_neg (by omega),if_pos (by omega)]
   rw[e,PM (by simp only[aQ];omega),g]
 .simp[hi];refine ju ?_ ?_<;>intro h
  all_goals
   rw[e,PM (by simp only[aQ];omega)];simp only[aQ,ka];(repeat' split)<;>omega
theorem f129(l:List Int)(hl:l.length<2 ^ 40):Wf T 218 [dI l] [] (Is (.i (mo l))):=by
 refine Yg HH ?_;simp[HH];refine fE.e (0:Int) (λi=>[(3,.i 0),(6,dI l),(7,.i l.length),(8,.i i)]) (λi=>[]) (λi=>0<=i/\i<=l.length/\mo l=mo (l.drop i.toNat)) (λi=>l.length-i.toNat) ?_ ?_
 .simp
 rintro i ⟨h0,h1,b⟩
 by_cases hi:i<l.length
 .rw[mP h0 hi]at b
  by_cases a:gt l i=0
  .simp[hi,a];refine fo ?_;refine LJ.e (i+1) ?_;refine gg ?_;rw[b];simp only[mo,a];rw[if_neg (by simp),show(i+1).toNat=i.toNat+1 by omega]
  .simp[hi,a];refine fo ?_;rw[b];simp[mo,a]
 .simp[hi];rw[b,bJ (by omega)];rfl
theorem f88(p q:Pos)(b:Small p)(a:Small q):Wf T 152 [dP p,dP q] [] (Is (.i (gP p q))):=by refine Yg Jo ?_;simp[Jo];refine Yt (f130 _ _ b.1 a.1) ?_;simp;refine Yt (f130 _ _ b.2.1 a.2.1) ?_;simp;refine Yt (f130 _ _ b.2.2 a.2.2) ?_;simp;refine Yt (f131 _ _) ?_;simp;refine Yt (f131 _ _) ?_;simp;refine iy.r rfl rfl (f129 [jW p.cs q.cs,jW p.h0 q.h0,jW p.h1 q.h1,ka p.fY q.fY,ka p.side q.side] (by simp)) (by simp;exact Z7 _ rfl rfl) (by simp[flat]) (by simp) ?_;simp;rfl
theorem f100(l:List Pos)(hl:l.length<2 ^ 40)(hs:∀p∈l,Small p)(a:kd l):Wf T 112 [gC l] [] (Is (.b true)):=by
 refine Yg GJ ?_;simp[GJ];refine fo ?_;refine fE.e (0:Int) (λi=>[(0,gC l),(6,.i (l.length-1)),(7,.i i)]) (λi=>[]) (λi=>0<=i) (λi=>l.length-i.toNat) ?_ ?_
 .simp
 rintro i h0
 by_cases hi:i<l.length-1
 .simp[hi];refine fo ?_;refine Yt (f88 _ _ (hs _ (fM h0 (by omega))) (hs _ (fM (n:=i+1) (by omega) (by omega)))) ?_;simp;have:=a (i+1) (by omega) (by omega);rw[dw]at this;simp[show¬ 0<=gP (gt l i) (gt l (i+1))by omega];refine fo ?_;refine LJ.e (i+1) ?_;exact ie
 .simp[hi]
theorem f96(g:fu)(hg:gu g)(p:Pos)(a:gJ g p):Wf T 108 [dP p,.fH g.cells] [] (Is (.b false)):=by refine Yg Jv ?_;simp[Jv];refine Yc (f97 g hg p a) ?_;simp
theorem f147(g:fu)(hg:gu g)(l:List Pos)(hl:∀p∈l,gJ g p)(b:l.length<2 ^ 40):Wf T 182 [gC l,.fn (.func 108) [] [.fH g.cells]] [] (Is (.i (-1))):=by
 refine Yg H6 ?_;simp[H6];refine fE.e (0:Int) (λy=>[(0,gC l),(1,.fn (.func 108) [] [.fH g.cells]),(7,.i l.length),(8,.i y)]) (λy=>[]) (λy=>0<=y/\y<=l.length) (λy=>(l.length-y).toNat) ?_ ?_
 .simp
 rintro i ⟨i0,a⟩
 by_cases hi:i<l.length
 .simp[hi];refine fo ?_;refine Yc (f96 g hg (gt l i) (hl _ (fM i0 hi))) ?_;simp;refine fo ?_;refine LJ.e (i+1) ?_;exact mb
 .simp[hi]
theorem f99(g:fu)(hg:gu g)(l:List Pos)(hl:∀p∈l,gJ g p)(a:l.length<2 ^ 40):Wf T 111 [gC l,.fn (.func 108) [] [.fH g.cells]] [] (Is (.b false)):=by refine Yg Jy ?_;simp[Jy];refine Yc (f147 g hg l hl a) ?_;simp
def nZ(l:List fF):D:=dN 8 fF.cells l
@[simp] theorem ZK(l:List fF):closed (nZ l)=true:=zd (λa=>by simp[fF.cells,fR]) l
theorem f132(l:List Int)(h:0<l.length)(b:l.length<2 ^ 40):Wf T 265 [dI l] [] (λd H=>d = .fm 0 1 1 0 l.length/\H = [.row 3 1 (cl f1 l)]):=by refine Yg HN ?_;simp[HN];refine oA.i (a:=.b false) (by cases l with|nil=>exact absurd h (by simp)|cons a r=>rfl) ?_;simp;exact lZ
theorem f91(s:fF)(hs:Small s.p)(h0:0<s.p.cs.length/\0<s.p.h0.length/\0<s.p.h1.length):Wf T 215 [.agg s.cells] [] (λd H=>d = .agg [.fm 0 1 1 0 s.p.cs.length,.fm 1 1 1 0 s.p.h0.length,.fm 2 1 1 0 s.p.h1.length,.i s.p.fY,.i s.p.side,.i s.kind,.i s.cur,.b s.je]/\H = [.row 3 1 (cl f1 s.p.cs),.row 3 1 (cl f1 s.p.h0),.row 3 1 (cl f1 s.p.h1)]):=by refine Yg Jq ?_;simp[Jq,fF.cells];refine Yn (f132 s.p.cs h0.1 hs.1) ?_;simp;refine uW.n rfl rfl (f132 s.p.h0 h0.2.1 hs.2.1) (by simp) (by simp) ?_;simp;refine uW.n rfl rfl (f132 s.p.h1 h0.2.2 hs.2.2) (by simp) (by simp) ?_;simp
theorem f241(s:fF)(b:Bool):Wf T 323 [.agg s.cells,.b b] [] (Is (nZ (if b then [s]else []))):=by
 refine Yg IN ?_;simp[IN,fF.cells];cases b
 .simp;rfl
 .simp;rfl
theorem f243(s:fF)(h:0<=s.cur/\s.cur<s.p.cs.length)(hs:Small s.p):Wf T 325 [.agg s.cells] [] (Is (.tup [.i (fX (gt s.p.cs s.cur)),.i (jr (gt s.p.cs s.cur))])):=by refine Yg IQ ?_;simp[IQ,fF.cells];refine fo ?_;refine Yc (f84 _) ?_;simp
theorem f199(g:fu)(hg:gu g)(s:fF)(hs:jE g s)(n:Int):Wf T 300 [.agg s.cells,dG g,.i n] [] (Is (nZ (im g s (1,n)))):=by refine Yg Iy ?_;simp[Iy,fF.cells];refine Yc (f240 g hg.jb s.p.side n s.cur) ?_;simp;refine fL.c rfl rfl (f241 { s with cur:=ly g s.p.side n s.cur } (decide (0<=ly g s.p.side n s.cur))) (by simp[fF.cells]) (by simp) ?_;simp[im]
theorem f201(g:fu)(hg:gu g)(s:fF)(hs:jE g s)(n:Int):Wf T 302 [.agg s.cells,dG g,.i n] [] (Is (nZ (im g s (3,n)))):=by have b:=hs.p.size;have a:=hs.cur;refine Yg IA ?_;simp[IA,fF.cells];refine fo ?_;refine iy.c rfl rfl (f241 s (decide (gt s.p.cs s.cur=0))) (by simp[fF.cells]) (by simp) ?_;simp[im]
theorem f202(g:fu)(hg:gu g)(s:fF)(hs:jE g s)(n:Int):Wf T 303 [.agg s.cells,dG g,.i n] [] (Is (nZ (im g s (4,n)))):=by have c:=hs.p.size;have a:=hs.cur;have b:=hs.p.side;refine Yg IB ?_;simp[IB,fF.cells];refine fL.c rfl rfl (f243 s (by omega) (hs.p.small hg)) (by simp[fF.cells]) (by simp) ?_;simp;refine fo ?_;refine fL.c rfl rfl (f241 s (decide (jr (gt s.p.cs s.cur)=1-s.p.side))) (by simp[fF.cells]) (by simp) ?_;simp[im]
theorem f203(g:fu)(hg:gu g)(s:fF)(hs:jE g s)(n:Int):Wf T 304 [.agg s.cells,dG g,.i n] [] (Is (nZ (im g s (5,n)))):=by have b:=hs.p.size;have a:=hs.cur;refine Yg IC ?_;simp[IC,fF.cells];refine fL.c rfl rfl (f243 s (by omega) (hs.p.small hg)) (by simp[fF.cells]) (by simp) ?_;simp;refine fL.c rfl rfl (f241 s (decide (jr (gt s.p.cs s.cur)=s.p.side))) (by simp[fF.cells]) (by simp) ?_;simp[im]
theorem f206(g:fu)(s:fF)(n:Int):Wf T 307 [.agg s.cells,dG g,.i n] [] (Is (nZ (im g s (8,n)))):=by refine Yg IE ?_;simp[IE,fF.cells];rfl
theorem f207(g:fu)(hg:gu g)(s:fF)(hs:jE g s)(n:Int)(c:0<=n/\n<g.fY):Wf T 308 [.agg s.cells,dG g,.i n] [] (Is (nZ (im g s (9,n)))):=by have b:=hs.p.fY;have a:=hg.fY;have e:=CF a.1 (by omega);have d:=Xr (r:=s.p.fY) (n:=n) b.1 (by omega) c.1 (by omega);refine Yg IF ?_;simp[IF,fF.cells];refine fo ?_;refine iy.c rfl rfl (f241 s (decide (bits BinOp.and IntKind.i64 (lK IntKind.i64 s.p.fY n) 1=1))) (by simp[fF.cells]) (by simp) ?_;simp[im,d]
theorem f208(g:fu)(hg:gu g)(s:fF)(hs:jE g s)(n:Int)(d:0<=n/\n<g.fY):Wf T 309 [.agg s.cells,dG g,.i n] [] (Is (nZ (im g s (10,n)))):=by have c:=hs.p.fY;have b:=hg.fY;have e:=CF b.1 (by omega);have a:=Xt (r:=s.p.fY) (n:=n) c.1 (by omega) d.1 (by omega);refine Yg IG ?_;simp[IG,fF.cells,a];refine ja a ?_;rfl
theorem f205(g:fu)(hg:gu g)(s:fF)(hs:jE g s)(n:Int):Wf T 306 [.agg s.cells,dG g,.i n] [] (Is (nZ (im g s (7,n)))):=by
 have m:=hs.p.size;have a:=hs.cur;have b:=hs.p.small hg;have c:=hg.jb.size;have j:=hg.kinds;have f:=hs.p.h0.len;have d:=hs.p.h1.len;have i:=hg.jb.to s.p.side n s.cur;have e:im g s (7,n)=sO g s n:=by simp[im]
 rw[e];refine Yg ID ?_;simp[ID,fF.cells];refine Yc (f240 g hg.jb s.p.side n s.cur) ?_;simp;(with_reducible repeat' first|refine Xk ?_<;>try simp|refine Xs ?_ ?_<;>intro h<;>(try intro k)<;>(try simp[h])<;>try omega|refine Xg ?_|omega)
 .rw[sO,if_pos (by simp_all)];rfl
 .rw[sO,if_pos (by simp_all)];rfl
 .have q0:=ig (l:=s.p.cs) (n:=ly g s.p.side n s.cur) (v:=gt s.p.cs s.cur) (by omega) (by omega);have q1:=ig (l:=pt s.p.cs (ly g s.p.side n s.cur) (gt s.p.cs s.cur)) (n:=s.cur) (v:=0) a.1 (by omega);refine Yn (f91 s b (by omega)) ?_;simp;refine kl q0 q1 ?_;simp[sO, *];rfl
 .rw[sO,if_pos (by simp_all)];rfl
theorem f204(g:fu)(hg:gu g)(s:fF)(hs:jE g s)(n:Int):Wf T 305 [.agg s.cells,dG g,.i n] [] (Is (nZ (im g s (6,n)))):=by
 have x:=hs.p.size;have c:=hs.cur;have d:=hs.p.small hg;have q:=hg.jb.size;have f:=hg.kinds;have t:=hs.p.h0.len;have r:=hs.p.h1.len;have i:=hs.p.cs _ (fM c.1 (by omega));have u:=hs.p.side;have e:im g s (6,n)=rS g s:=by simp[im]
 rw[e];refine Yz Df (ik 52 [2,3,4] Df.body) ?_;simp[Df,ik,jG,me,mg,mq,kQ,fF.cells];refine fL.c rfl rfl (f243 s (by omega) d) (by simp[fF.cells]) (by simp) ?_;simp
 by_cases a:jr (gt s.p.cs s.cur)=1-s.p.side
 .have o:0<=fX (gt s.p.cs s.cur):=by
   unfold jr at a;unfold fX;split at a<;>rename_i k
   .rw[if_pos k];omega
   .omega
  have w:fX (gt s.p.cs s.cur)<g.kinds.length:=wY i.2 f.1;have m:s.p.side=0\/s.p.side=1:=by omega
  have q0:=ig (l:=s.p.cs) (n:=s.cur) (v:=0) c.1 (by omega);simp[a];refine fo ?_;refine Yn (f91 s d (by omega)) ?_;simp;refine JE q0 ?_ ?_<;>intro h
  .have b:=h;rcases m with e|e
   .have j:=hs.p.h0.at_ _ (by omega) (show fX (gt s.p.cs s.cur)<s.p.h0.length by omega);have q1:=BK (l:=s.p.h0) (n:=fX (gt s.p.cs s.cur)) (v:=gt s.p.h0 (fX (gt s.p.cs s.cur))+1) (by omega) (by omega);have q2:=ig (l:=s.p.h0) (n:=fX (gt s.p.cs s.cur)) (v:=gt s.p.h0 (fX (gt s.p.cs s.cur))+1) (by omega) (by omega);simp[e,q0,q1,q2];refine pR q0 q1 q2 ?_;refine iy.c rfl rfl (f241 { p:={ s.p with cs:=pt s.p.cs s.cur 0,h0:=pt s.p.h0 (fX (gt s.p.cs s.cur)) (gt s.p.h0 (fX (gt s.p.cs s.cur))+1),side:=0 },kind:=s.kind,cur:=s.cur,je:=true } (decide (gt s.p.h0 (fX (gt s.p.cs s.cur))+1<=8))) (by simp[fF.cells]) (by simp) ?_;simp[rS,a,b,Pos.hand,Pos.mc,e];done
   .have j:=hs.p.h1.at_ _ (by omega) (show fX (gt s.p.cs s.cur)<s.p.h1.length by omega);have q1:=BK (l:=s.p.h1) (n:=fX (gt s.p.cs s.cur)) (v:=gt s.p.h1 (fX (gt s.p.cs s.cur))+1) (by omega) (by omega);have q2:=ig (l:=s.p.h1) (n:=fX (gt s.p.cs s.cur)) (v:=gt s.p.h1 (fX (gt s.p.cs s.cur))+1) (by omega) (by omega);simp[e,q0,q1,q2];refine pR q0 q1 q2 ?_;refine iy.c rfl rfl (f241 { p:={ s.p with cs:=pt s.p.cs s.cur 0,h1:=pt s.p.h1 (fX (gt s.p.cs s.cur)) (gt s.p.h1 (fX (gt s.p.cs s.cur))+1),side:=1 },kind:=s.kind,cur:=s.cur,je:=true } (decide (gt s.p.h1 (fX (gt s.p.cs s.cur))+1<=8))) (by simp[fF.cells]) (by simp) ?_;simp[rS,a,b,Pos.hand,Pos.mc,e];done
  .simp[rS,a,h,q0];rfl
 .simp[a];refine fo ?_;rw[rS,if_pos a];rfl
theorem f259(g:fu)(s d c:Int):Wf T 331 [g.jb,.i s,.i d,.i c] [] (Is (.fn (.func 335) [] [.fH [.i g.size,.sl 1 (g.next.map fI),dI g.iO],.fH [.i s],.fH [.i d],.fH [.i c]])):=by refine Yg IZ ?_;simp[IZ]
theorem f266(l:List Int)(n:Int)(hl:l.length<2 ^ 40):Wf T 336 [dI l,.i n] [] (Ey (λr:Int=>.i r) λr=>0<=r↔n∈l):=by
 refine Yg Be ?_;simp[Be];refine fE.e (0:Int) (λy=>[(0,dI l),(1,.i n),(7,.i l.length),(8,.i y)]) (λy=>[]) (λy=>0<=y/\y<=l.length/\n ∉ l.take y.toNat) (λy=>(l.length-y).toNat) ?_ ?_
 .simp
 rintro i ⟨i0,b,a⟩
 by_cases hi:i<l.length
 .simp[hi];refine ju ?_ ?_<;>intro h
  .exact Ey.i i rfl rfl ⟨λ_=>by have:=fM i0 hi;simp_all,λ_=>i0⟩
  .refine LJ.e (i+1) ?_;refine gg ?_;rw[iD i0 hi];simp[a];omega
 .simp[hi];rw[kq (by omega)]at a;exact Ey.i (-1) rfl rfl ⟨λh=>by omega,λh=>absurd h a⟩
theorem f260(l:List Int)(n:Int)(hl:l.length<2 ^ 40):Wf T 332 [dI l,.i n] [] (Is (.b (decide (n∈l)))):=by refine Yg Bd ?_;simp[Bd];refine Yq (f266 l n hl) λr a=>?_;simp;simp[a]
theorem abD(n:Int):Wf T 336 [.fw,.i n] [] (Is (.i (-1))):=by refine Yg Be ?_;simp[Be];refine fE.un ?_;refine jY.u ?_;simp
theorem abC(n:Int):Wf T 332 [.fw,.i n] [] (Is (.b false)):=by refine Yg Bd ?_;simp[Bd];refine Yc (abD n) ?_;simp
theorem f265(g:fu)(hg:nv g)(s d c:Int):Wf T 335 [.iw 4,.fH [.i g.size,.sl 1 (g.next.map fI),dI g.iO],.fH [.i s],.fH [.i d],.fH [.i c]]
  [.row 39 0 [.i g.size,.sl 1 (g.next.map fI),dI g.iO],.row 3 0 [.i c],.row 37 0 [.fw],.km,.gM 20736 [(7,.ptr 1 0 0),(9,.ptr 2 0 0)] .ready]
  (λ_ H'=>∃st,(st = .ready\/st = .xQ 0)/\H' = [.row 39 0 [.i g.size,.sl 1 (g.next.map fI),dI g.iO],.row 3 0 [.i c],.row 37 0 [if kA g s d c = []then .fw else .fm 5 ((kA g s d c).length-1) 1 0 (kA g s d c).length],.km,.gM 20736 [(7,.ptr 1 0 0),(9,.ptr 2 0 0)] st]++(if kA g s d c = []then []else [.row 3 ((kA g s d c).length-1) (cl f1 (kA g s d c))])):=by
 have r:=hg.size;refine Yg I1 ?_;simp[I1];refine Yr (f240 g hg s d c) ?_;simp;refine fE.e ((0,ly g s d c,[]):Nat×Int×List Int) (λx=>[(0,.iw 4),(1,.fH [.i g.size,.sl 1 (g.next.map fI),dI g.iO]),(2,.fH [.i s]),(3,.fH [.i d]),(6,.i x.2.1)]) (λx=>[.row 39 0 [.i g.size,.sl 1 (g.next.map fI),dI g.iO],.row 3 0 [.i c],.row 37 0 [if x.2.2 = []then .fw else .fm 5 (x.2.2.length-1) 1 0 x.2.2.length],.km,.gM 20736 [(7,.ptr 1 0 0),(9,.ptr 2 0 0)] .ready]++(if x.2.2 = []then []else [.row 3 (x.2.2.length-1) (cl f1 x.2.2)])) (λx=>x.1=x.2.2.length/\x.2.1<g.size/\x.2.2.Nodup/\(∀y∈x.2.2,0<=y/\y<g.size)/\kA g s d c=sG g s d c (10-x.1) x.2.1 x.2.2) (λx=>10-x.1) ?_ ?_
 .have:=hg.to s d c;simp[kA];omega
 rintro⟨m,x,out⟩ ⟨h0,h1,o,n,l⟩;dsimp only at h0 h1 o n l ⊢;have q:out.length<=9:=AB 9 out o (λy k=>by have:=n y k;omega);have e:=l;rw[show 10-m=(9-m)+1 by omega,sG]at e;have j:=hg.to s d x
 by_cases i:out = []
 .subst i
  by_cases b:0<=x
  .simp[b];refine rl.r (rf:=20736) (env0:=[(7,.ptr 1 0 0),(9,.ptr 2 0 0)]) (Rd:=uT) (by simp) rfl rfl uT.a uT.b (oB rfl) (oB rfl) ?_;simp[uT]
   by_cases a:x=c
   .have f:kA g s d c = []:=by rw[e,if_neg (λh=>h.2.1 a)]
    simp[a,f]
   .have p:kA g s d c=sG g s d c (9-m) (ly g s d x) [x]:=by rw[e,if_pos ⟨b,a,by simp⟩];rfl
    simp[a];refine Yc (abC x) ?_;simp;refine fo ?_;refine Yr (f240 g hg s d x) ?_;simp;refine LJ.i (m+1,ly g s d x,[x]) (by first|rfl|simp[iF]) (by first|rfl|simp[iF]) rfl rfl ?_;dsimp only;refine⟨by simp at h0;omega,by simp at h0;simp;omega,j.2,by simp,by simp;omega,?_⟩;rw[p];congr 1;omega
  .have f:kA g s d c = []:=by rw[e,if_neg (λh=>b h.1)]
   simp[b,f]
 .simp only[if_neg i,bP,br]
  by_cases b:0<=x
  .simp[b];refine rl.r (rf:=20736) (env0:=[(7,.ptr 1 0 0),(9,.ptr 2 0 0)]) (Rd:=uT) (by simp) rfl rfl uT.a uT.b (oB rfl) (oB rfl) ?_;simp[uT]
   by_cases a:x=c
   .have f:kA g s d c=out:=by rw[e,if_neg (λh=>h.2.1 a)]
    simp[a,f,i]
   .simp[a];refine Yr (f260 out x (by omega)) ?_;simp;refine X2.z a ?_;simp
    by_cases fZ:x∈out
    .have f:kA g s d c=out:=by rw[e,if_neg (λh=>h.2.2 fZ)]
     simp[fZ,f,i]
    .have p:kA g s d c=sG g s d c (9-m) (ly g s d x) (out ++ [x]):=by rw[e,if_pos ⟨b,a,fZ⟩]
     have hl:0<out.length:=av.2 i;simp[fZ];refine fo ?_;refine Yr (f240 g hg s d x) ?_;simp;refine LJ.i (m+1,ly g s d x,out ++ [x]) (by first|rfl|simp[show out.length-1+1=out.length by omega]) (by first|rfl|simp[show out.length-1+1=out.length by omega]) rfl rfl ?_;dsimp only;refine⟨by omega,by simp;omega,j.2,?_,λy k=>?_,?_⟩
     .grind
     .grind
     .grind
  .have f:kA g s d c=out:=by rw[e,if_neg (λh=>b h.1)]
   simp[b,f,i]
theorem f242(g:fu)(hg:nv g)(s d c:Int):Wf T 324 [g.jb,.i s,.i d,.i c] [] (Is (dN 1 f1 (kA g s d c))):=by
 refine Yg IP ?_;simp[IP];refine Yc (f259 g s d c) ?_;simp;refine xC.r (f:=335) (first:=[]) (cap:=[.fH [.i g.size,.sl 1 (g.next.map fI),dI g.iO],.fH [.i s],.fH [.i d],.fH [.i c]]) rfl rfl rfl rfl ?_;simp;refine Wf.mono (f265 g hg s d c) ?_;rintro _ H' ⟨st,b,rfl⟩;refine⟨[(7,.ptr 1 0 0),(9,.ptr 2 0 0)],st,by simp,?_⟩
 by_cases h:kA g s d c = []
 .rcases b with rfl|rfl
  .simp[h];rfl
  .simp[h];rfl
 .have e:dI (kA g s d c)=dN 1 f1 (kA g s d c):=by
   revert h
   cases kA g s d c with
   | nil=>intro h;exact absurd rfl h
   | cons a r=>intro _;rfl
  rcases b with rfl|rfl
  .simp[h,e]
  .simp[h,e]
@[simp] theorem apd(l:List Int):closed (dN 1 f1 l)=true:=zd (λa=>by simp[fR]) l
theorem Nq{l:List fF}(h:l≠[]):jN l=nZ l:=by
 cases l with
 | nil=>exact absurd rfl h
 | cons a r=>rfl
theorem f200(g:fu)(hg:gu g)(s:fF)(hs:jE g s)(n:Int):Wf T 301 [.agg s.cells,dG g,.i n] [] (Is (nZ (im g s (2,n)))):=by
 have p:=hs.p.size;have k:=hg.jb.size;have e:im g s (2,n)=pe s (kA g s.p.side n s.cur):=by simp[im]
 have fZ:∀y∈kA g s.p.side n s.cur,0<=y/\y<g.size:=λy j=>PK hg.jb j;have d:(kA g s.p.side n s.cur).length<=10:=PL;rw[e];refine Yg Iz ?_;simp[Iz,fF.cells];refine Yc (f242 g hg.jb s.p.side n s.cur) ?_;simp;generalize kA g s.p.side n s.cur=l at *;refine fE.e ((0,[]):Int×List fF) (λy=>[(3,.ptr 0 0 0),(7,if y.1=0 then .fw else .fm 2 (y.2.length-1) 8 0 y.2.length),(19,dN 1 f1 l),(20,.i l.length),(21,.i y.1)]) (λy=>.row 330 0 s.cells :: .row 43 0 g.cells::(if y.1=0 then []else [.row 330 (y.2.length-1) (cl fF.cells y.2)])) (λy=>0<=y.1/\y.1<=l.length/\y.2.length=y.1.toNat/\pe s l=y.2++pe s (l.drop y.1.toNat)) (λy=>(l.length-y.1).toNat) ?_ ?_
 .simp
 rintro⟨i,st⟩ ⟨i0,f,c,a⟩;dsimp only at i0 f c a ⊢
 by_cases hi:i<l.length
 .have m:=fZ _ (fM i0 hi);rw[mP i0 hi,pe]at a
  by_cases b:i=0
  .have:st = []:=az.1 (by omega);subst b;subst this;simp[hi,fF.cells];(with_reducible repeat' first|refine Xk ?_<;>try simp|refine Xs ?_ ?_<;>intro h<;>(try intro o)<;>(try simp[h])<;>try omega|refine Xg ?_|omega)
   .refine LJ.i (1,[{ s with cur:=gt l 0 }]) (by first|rfl|simp[iF,fF.cells]) (by first|rfl|simp[iF,fF.cells]) rfl rfl ?_;refine gg ⟨rfl,?_⟩;rw[a,if_pos h];rfl
   .rw[a,if_neg h];rfl
  .have hl:0<st.length:=by omega
   rw[if_neg b,if_neg b];simp[hi,fF.cells];refine ju ?_ ?_<;>intro h
   .refine LJ.i (i+1,st ++ [{ s with cur:=gt l i }]) (by first|rfl|simp[show¬(i+1=0)by omega,show st.length-1+1=st.length by omega,fF.cells]) (by first|rfl|simp[show¬(i+1=0)by omega,show st.length-1+1=st.length by omega,fF.cells]) rfl rfl ?_;refine⟨by dsimp only;omega,by dsimp only;omega,by dsimp only;omega,by simp;omega,?_⟩;rw[a,if_pos h,show(i+1).toNat=i.toNat+1 by omega];simp
   .rw[a,if_neg h,<-Nq (by simp)];simp[jN,fF.cells]
 .rw[bJ (by omega),pe,ay]at a
  by_cases b:i=0
  .have:st = []:=az.1 (by omega);subst b;subst this;simp[show¬ 0<l.length by omega,fF.cells];rw[a];rfl
  .rw[if_neg b,if_neg b];simp[hi,fF.cells];rw[a,Nq (by intro h;rw[h]at c;simp at c;omega)]
theorem f164(g:fu)(hg:gu g)(s:fF)(hs:jE g s)(x:fq)(b:Dv g x):Wf T 286 [dG g,.agg s.cells,.agg [.i x.1,.i x.2]] [] (Is (nZ (im g s x))):=by
 obtain⟨k,n⟩:=x;have a:=b.ok;dsimp only at a ⊢;rcases(show k=1\/k=2\/k=3\/k=4\/k=5\/k=6\/k=7\/k=8\/k=9\/k=10 by omega)with rfl|rfl|rfl|rfl|rfl|rfl|rfl|rfl|rfl|rfl
 all_goals
  refine Yg Ic ?_;simp[Ic,fF.cells]
 .refine iy.c rfl rfl (f199 g hg s hs n) (by simp) (by simp) ?_;simp
 .refine iy.c rfl rfl (f200 g hg s hs n) (by simp) (by simp) ?_;simp
 .refine iy.c rfl rfl (f201 g hg s hs n) (by simp) (by simp) ?_;simp
 .refine iy.c rfl rfl (f202 g hg s hs n) (by simp) (by simp) ?_;simp
 .refine iy.c rfl rfl (f203 g hg s hs n) (by simp) (by simp) ?_;simp
 .refine iy.c rfl rfl (f204 g hg s hs n) (by simp) (by simp) ?_;simp
 .refine iy.c rfl rfl (f205 g hg s hs n) (by simp) (by simp) ?_;simp
 .refine iy.c rfl rfl (f206 g s n) (by simp) (by simp) ?_;simp
 .refine iy.c rfl rfl (f207 g hg s hs n (by omega)) (by simp) (by simp) ?_;simp
 .refine iy.c rfl rfl (f208 g hg s hs n (by omega)) (by simp) (by simp) ?_;simp
@[simp] theorem anq(t sz bytes:Nat)(z:List D)(m:Int)(a:Nat):JG t sz bytes z .fw (.val (.int .i64 m)) a=if 0<m/\pE (m*bytes) 140737488355328/\pE m 9223372036854775807 then some (.fm a 0 sz 0 m.toNat,.new (.row t 0 (List.replicate m.toNat z).flatten))else none:=rfl
theorem f191(n:Int)(a:0<n/\n<1000):Wf T 212 [.fw,.i n] [] (λd H=>d = .fm 0 0 1 0 0/\H = [.row 3 0 (cl f1 (List.replicate n.toNat 0))]):=by refine Yg Ir ?_;simp[Ir];exact lZ
@[irreducible] def fl(l:List (List Int)):List Int:=l.flatten
theorem xV(l:List (List Int)):fl l=l.flatten:=by unfold fl;rfl
@[simp] theorem apY:fl [] = []:=by simp[xV]
theorem TW{l:List (List Int)}{i:Int}(h0:0<=i)(h:i<l.length):fl (l.take (i+1).toNat)=fl (l.take i.toNat)++gt l i:=by rw[iD h0 h];simp[xV]
theorem TV(l:List (List Int))(n:Nat):(fl (l.take n)).length<=(fl l).length:=by
 simp only[xV]
 conv=>rhs;rw[<-bM n l]
 simp only[ec,ar];omega
theorem f148(l:List (List Int))(hl:l.length<=10)(m:0<(fl l).length/\(fl l).length<1000):Wf T 147 [.sl 1 (l.map fI)] [] (λd H=>d = .fm 0 l.length 1 0 (fl l).length/\H = [.row 3 l.length (cl f1 (fl l))]):=by
 have p:0<l.length:=by
  cases l with
  | nil=>simp at m
  | cons a r=>simp
 refine Yg H7 ?_;simp[H7];refine fE.e (0:Int) (λi=>[(0,.sl 1 (l.map fI)),(3,.i (fl (l.take i.toNat)).length),(9,.sl 1 (l.map fI)),(10,.i l.length),(11,.i i)]) (λi=>[]) (λi=>0<=i/\i<=l.length) (λi=>(l.length-i).toNat) ?_ ?_
 .simp
 rintro i ⟨i0,n⟩
 by_cases hi:i<l.length
 .have h1:=TW i0 hi;have c:=TV l (i+1).toNat;rw[h1,ar]at c;simp[hi];(with_reducible repeat' first|refine Xk ?_<;>try simp|refine Xs ?_ ?_<;>intro h<;>(try intro o)<;>(try simp[h])<;>try omega|refine Xg ?_|omega);refine LJ.i (i+1) (by first|rfl|simp[h1]) (by first|rfl|simp[h1]) rfl rfl ?_;exact mb
 .have f:(l.take i.toNat)=l:=kq (by omega);simp[hi,f];refine Yn (f191 (fl l).length (by omega)) ?_;simp;refine fE.e (0:Int) (λj=>[(6,.fm 0 j.toNat 1 0 (fl (l.take j.toNat)).length),(25,.sl 1 (l.map fI)),(26,.i l.length),(27,.i j)]) (λj=>[.row 3 j.toNat (if j=0 then cl f1 (List.replicate (fl l).length 0)else cl f1 (fl (l.take j.toNat)))]) (λj=>0<=j/\j<=l.length) (λj=>(l.length-j).toNat) ?_ ?_
  .simp
  rintro j ⟨j0,j1⟩
  by_cases b:j<l.length
  .have h1:=TW j0 b;have c:=TV l (j+1).toNat;rw[h1,ar]at c
   by_cases g:j=0
   .subst g;simp at h1 c;simp[b];refine fo ?_;refine LJ.i (1) (by first|rfl|simp[h1]) (by first|rfl|simp[h1]) rfl rfl ?_;exact mb
   .rw[if_neg g];simp[b];refine fo ?_;have e:(j+1).toNat=j.toNat+1:=by omega
    rw[e]at h1;refine LJ.i (j+1) (by first|rfl|simp[h1,e,show¬(j+1=0)by omega]) (by first|rfl|simp[h1,e,show¬(j+1=0)by omega]) rfl rfl ?_;exact mb
  .have f:(l.take j.toNat)=l:=kq (by omega);have k:j.toNat=l.length:=by omega
   rw[if_neg (by omega)];simp[b,f,k]
@[irreducible] def mY(p:Pos):List Int:=fl [p.cs,p.h0,p.h1,[p.fY,p.side]]
theorem Aq(p:Pos):mY p=fl [p.cs,p.h0,p.h1,[p.fY,p.side]]:=by unfold mY;rfl
def np(p:Pos):ByteArray:=((mY p).map λn=>IntKind.u8.wrap n).foldl (λr n=>r.push (UInt8.ofNat n.toNat)) ByteArray.empty
@[simp] theorem Zz(l:List Int)(n:Int):cl fU l ++ [.val (.int .u8 n)]=cl fU (l ++ [n]):=by rw[<-oZ,xT]
@[simp] theorem Zh:∀l:List Int,bytesOf (cl fU l)=some l
 | []=>by simp[bytesOf]
 | a::r=>by rw[mm,xT,eY,bytesOf,Zh r]
theorem f101(p:Pos)(h:0<p.cs.length)(hl:(mY p).length<1000):Wf T 93 [dP p] [] (Is (.val (.string (np p)))):=by
 have f:0<(mY p).length:=by simp[Aq,xV];omega
 have d:=f148 [p.cs,p.h0,p.h1,[p.fY,p.side]] (by simp) (by rw[<-Aq];exact⟨f,hl⟩);rw[<-Aq]at d;refine Yg GK ?_;simp[GK];refine fL.nr rfl rfl d (by simp[l6,chunks];unfold dI;simp only[List.map_cons,List.map_nil,BF]) (by simp) (by simp) ?_;simp;refine fE.e (0:Int) (λy=>[(3,if y=0 then .fw else .fm 4 (y.toNat-1) 1 0 y.toNat),(20,.fm 3 4 1 0 (mY p).length),(21,.i (mY p).length),(22,.i y)]) (λy=>[.row 46 0 p.cells,.row 3 0 [.i p.fY,.i p.side],.row 37 0 [dI p.cs,dI p.h0,dI p.h1,.fm 1 0 1 0 2],.row 3 4 (cl f1 (mY p))]++(if y=0 then []else [.row 5 (y.toNat-1) (cl fU (((mY p).take y.toNat).map λn=>IntKind.u8.wrap n))])) (λy=>0<=y/\y<=(mY p).length) (λy=>((mY p).length-y).toNat) ?_ ?_
 .simp
 rintro i ⟨i0,k⟩
 by_cases hi:i<(mY p).length
 .have a:(List.take (i.toNat+1) (mY p)).map (λn=>IntKind.u8.wrap n)=(List.take i.toNat (mY p)).map (λn=>IntKind.u8.wrap n) ++ [IntKind.u8.wrap (gt (mY p) i)]:=by rw[<-show(i+1).toNat=i.toNat+1 by omega,iD i0 hi];simp
  have b:(i+1).toNat=i.toNat+1:=by omega
  by_cases c:i=0
  .rw[if_pos c,if_pos c];have g:i.toNat=0:=by omega
   rw[g]at a b;simp at a;simp[hi];refine fo ?_;refine LJ.i (i+1) (by first|rfl|simp[show¬(i+1=0)by omega,b,a,iF]) (by first|rfl|simp[show¬(i+1=0)by omega,b,a,iF]) rfl rfl ?_;exact mb
  .rw[if_neg c,if_neg c];simp[hi];refine fo ?_;have e:i.toNat-1+1=i.toNat:=by omega
   simp at a;refine LJ.i (i+1) (by first|rfl|simp[show¬(i+1=0)by omega,b,a,e,dz]) (by first|rfl|simp[show¬(i+1=0)by omega,b,a,e,dz]) rfl rfl ?_;exact mb
 .rw[if_neg (by omega),if_neg (by omega)];have j:i.toNat=(mY p).length:=by omega
  simp[hi,Bp,j];rfl
set_option maxRecDepth 100000
def DZ(n:Int):ByteArray:=⟨#[UInt8.ofNat (48+n.toNat)]⟩
theorem f209(n:Int)(a:0<=n/\n<=9):Wf T 310 [.i n] [] (Is (.val (.string (DZ n)))):=by
 rcases(show n=0\/n=1\/n=2\/n=3\/n=4\/n=5\/n=6\/n=7\/n=8\/n=9 by omega)with rfl|rfl|rfl|rfl|rfl|rfl|rfl|rfl|rfl|rfl
 all_goals exact nS (k:=100) (by kernel_rfl)
def xF(b:Bool):ByteArray:=if b then⟨#[116,114,117,101]⟩else⟨#[102,97,108,115,101]⟩
theorem f210(b:Bool):Wf T 311 [.b b] [] (Is (.val (.string (xF b)))):=by
 cases b
 .exact nS (k:=100) (by kernel_rfl)
 .exact nS (k:=100) (by kernel_rfl)
@[simp] theorem avx(a b:ByteArray):CX .add a b=if pE ((a.size+b.size:Nat):Int) 9223372036854775807 then some (.val (.string (a++b)))else none:=rfl
theorem foldl_push(l:List Int):∀r:ByteArray,(l.foldl (λr n=>r.push (UInt8.ofNat n.toNat)) r).data.toList=r.data.toList++l.map λn=>UInt8.ofNat n.toNat:=by
 induction l with
 | nil=>intro r;simp
 | cons a l b=>intro r;rw[bT,b];simp[ByteArray.push]
theorem VO(p:Pos):(np p).data.toList=(mY p).map λn=>UInt8.ofNat (IntKind.u8.wrap n).toNat:=by unfold np;rw[foldl_push];simp[ByteArray.empty,ByteArray.emptyWithCapacity];rfl
@[simp] theorem arf(p:Pos):(np p).size=(mY p).length:=by show(np p).data.size=_;rw[<-cS,VO,List.length_map]
@[simp] theorem au2(a:Array UInt8):ByteArray.size ⟨a⟩=a.size:=rfl
@[simp] theorem apD(n:Int):(DZ n).size=1:=rfl
@[simp] theorem Za(b:Bool):(xF b).size<=5:=by cases b<;>decide
def nH(s:fF):ByteArray:=DZ s.kind++⟨#[32]⟩++DZ s.cur++⟨#[32]⟩++xF s.je++⟨#[32]⟩++np s.p
theorem f165(s:fF)(h1:0<=s.kind/\s.kind<=9)(a:0<=s.cur/\s.cur<=9)(h:0<s.p.cs.length)(hl:(mY s.p).length<1000):Wf T 287 [.agg s.cells] [] (Is (.val (.string (nH s)))):=by have b:=Za s.je;refine Yg Ie ?_;simp[Ie,fF.cells];refine Yt (f209 s.kind h1) ?_;simp;refine fo ?_;refine Yt (f209 s.cur a) ?_;simp;refine fo ?_;refine Yt (f210 s.je) ?_;simp;refine fo ?_;refine Yt (f101 s.p h hl) ?_;simp;refine fo ?_;rfl
theorem ofNat_inj{m n:Nat}(b:m<256)(a:n<256)(h:UInt8.ofNat m=UInt8.ofNat n):m=n:=by have:=congrArg UInt8.toNat h;simp only[UInt8.toNat_ofNat']at this;omega
theorem Yp{n:Int}(h:0<=n/\n<256):IntKind.u8.wrap n=n:=by simp only[IntKind.wrap,IntKind.bits,IntKind.signed];simp;omega
theorem Wl:∀ {a b:List Int},(∀n∈a,0<=n/\n<256)->(∀n∈b,0<=n/\n<256)->(a.map λn=>UInt8.ofNat (IntKind.u8.wrap n).toNat)=(b.map λn=>UInt8.ofNat (IntKind.u8.wrap n).toNat)->a=b
 | [],[],_,_,_=>rfl
 | [],_::_,_,_,h=>by simp at h
 | _::_,[],_,_,h=>by simp at h
 | x::a,y::b,ha,hb,h=>by simp only[List.map_cons,cW]at h;have f:=ha x (by simp);have d:=hb y (by simp);rw[Yp f,Yp d]at h;have e:=ofNat_inj (by omega) (by omega) h.1;rw[Wl (λn c=>ha n (by simp[c])) (λn c=>hb n (by simp[c])) h.2,show x=y by omega]
theorem PE{g:fu}(hg:gu g){p:Pos}(b:gJ g p):∀n∈mY p,0<=n/\n<256:=by
 have e:=hg.kinds;have d:=hg.fY;have f:=CF d.1 (by omega)
 have c:∀ {l:List Int},qj g l->∀n∈l,0<=n/\n<256:=λ{l} h n a=>by obtain⟨i,h0,h1,rfl⟩:=w6.1 a;have:=h.at_ i h0 h1;omega
 intro n a;rw[Aq,xV]at a;simp only[aP,dO,List.mem_append,aw,dM,or_false]at a;have j:=b.fY;have k:=b.side;rcases a with a|a|a|rfl|rfl
 .have:=b.cs n a;omega
 .exact c b.h0 n a
 .exact c b.h1 n a
 .omega
 .omega
theorem adE{g:fu}{p q:Pos}(b:gJ g p)(a:gJ g q)(h:mY p=mY q):p=q:=by rw[Aq,Aq,xV,xV]at h;simp only[aP,dO,ay]at h;have k:=b.size;have j:=a.size;have i:=b.h0.len;have b2:=a.h0.len;have f:=b.h1.len;have c2:=a.h1.len;obtain⟨e,h⟩:=eV h (by omega);obtain⟨d,h⟩:=eV h (by omega);obtain⟨c,h⟩:=eV h (by omega);simp only[cW,and_true]at h;cases p;cases q;simp_all
theorem VN{g:fu}(hg:gu g){p q:Pos}(c:gJ g p)(a:gJ g q)(h:np p=np q):p=q:=by have d:=congrArg (λb:ByteArray=>b.data.toList) h;simp only[VO]at d;exact adE c a (Wl (PE hg c) (PE hg a) d)
theorem adF(s:fF):(nH s).data.toList=UInt8.ofNat (48+s.kind.toNat)::32::UInt8.ofNat (48+s.cur.toNat)::32::((xF s.je).data.toList++32::(np s.p).data.toList):=by unfold nH DZ;simp
theorem VT{g:fu}(hg:gu g){s t:fF}(hs:jE g s)(e:jE g t)(h:nH s=nH t):s=t:=by
 have i:=congrArg (λb:ByteArray=>b.data.toList) h;simp only[adF,cW,true_and]at i;obtain⟨r,q,d⟩:=i;have w:=hg.kinds;have x:=hg.jb.size;have k1:=hs.kind;have k2:=e.kind;have v:=hs.cur;have u:=e.cur;have f1:=ofNat_inj (by omega) (by omega) r;have f2:=ofNat_inj (by omega) (by omega) q;obtain⟨p,k,c,b⟩:=s;obtain⟨a,l,c',j⟩:=t;dsimp only at *
 have f:b=j/\np p=np a:=by
  cases b<;>cases j
  .simp[xF]at d;exact⟨rfl,by cases n:np p;cases m:np a;simp_all [eT]⟩
  .simp[xF]at d
  .simp[xF]at d
  .simp[xF]at d;exact⟨rfl,by cases n:np p;cases m:np a;simp_all [eT]⟩
 have o:p=a:=VN hg hs.p e.p f.2;rw[f.1,o,show k=l by omega,show c=c' by omega]
theorem Lx(a b:ByteArray):mJ (.string a) (.string b)=decide (a=b):=by obtain⟨a⟩:=a;obtain⟨b⟩:=b;show(a == b)=_;rw[Bool.eq_iff_iff,beq_iff_eq,decide_eq_true_iff,ByteArray.mk.injEq]
theorem PY{g:fu}(hg:gu g){t:fF}(b:jE g t):∀ {l:List fF},(∀s∈l,jE g s)->pG (l.map λs=>((.string (nH s):Value),D.b true)) (.string (nH t))=if t∈l then some (.b true)else none
 | [],_=>by simp[pG]
 | a::l,h=>by
  rw[List.map_cons,pG,Lx,PY hg b λs hs=>h s (by simp[hs])]
  by_cases e:t=a
  .subst e;simp
  .have:¬nH t=nH a:=λk=>e (VT hg b (h a (by simp)) k);simp[this,e]
theorem P4{g:fu}(hg:gu g){t:fF}(b:jE g t):∀ {l:List fF},(∀s∈l,jE g s)->t ∉ l->lI (l.map λs=>((.string (nH s):Value),D.b true)) (.string (nH t)) (.b true)=(l ++ [t]).map λs=>((.string (nH s):Value),D.b true)
 | [],_,_=>by simp[lI]
 | a::l,h,hn=>by simp only[aw,not_or]at hn;have:¬nH t=nH a:=λk=>hn.1 (VT hg b (h a (by simp)) k);rw[List.map_cons,lI,Lx,P4 hg b (λs hs=>h s (by simp[hs])) hn.2];simp[this]
set_option maxRecDepth 10000
set_option maxHeartbeats 8000000
theorem fL.inl{T:gO}{f:FuncId}{args:List D}{dst:Option Nat}{s:St}{K:St->Prop}(fn:iE)(a:T.fn f=some fn)(c:fn.full=true)(hl:args.length<=fn.ntmps)(b:sL fn.body=true)
  (h:XC T fn.body { env:=sJ args,H:=s.H } (xU fn.results fn.own s.H.length λd H'=>K { s with env:=put s.env dst d,H:=H' })):fL T f args dst s K .mk:=.inr ⟨fn,a,c,Wf.x a hl h b⟩
abbrev wC(g:fu)(p:Pos)(st:fF)(outs:D):U:=[.row 43 0 g.cells,.row 46 0 p.cells,.row 256 0 [outs],.row 43 0 g.cells,.row 46 0 p.cells,.dead,.dead,.dead,.row 330 0 st.cells,.dead]
theorem abm(g:fu)(hg:gu g)(p:Pos)(e:gJ g p)(st t:fF)(a:jE g t):Wf T 260 [.agg t.cells,.agg [.i 0,.i 0],.ptr 1 0 0,.ptr 2 0 0] (wC g p st .fw ++ [.row 330 0 t.cells])
  (λ_ H'=>match nc p.side t with
   | none=>H'=wC g p st .fw ++ [.row 330 0 t.cells]
   | some o=>H'=wC g p st (.fm 11 0 6 0 1) ++ [.row 330 0 t.cells,.row 259 0 (cl gh.cells [o])]):=by
 have q:=a.p.size;have c:=a.cur;have d:=a.p.small hg;have h:=hg.jb.size;have m:=hg.kinds;have j:=a.p.h0.len;have i:=a.p.h1.len;have b:=e.side;have f:=a.p.side;refine Yz ri (ik 37 [13,14,15] ri.body) ?_;simp[ri,ik,jG,me,mg,mq,kQ,wC,fF.cells]
 by_cases h0:gt t.p.cs t.cur=0
 .simp[h0];refine fo ?_;refine Yn (f91 t d (by omega)) ?_;simp;refine fo ?_;refine Yt (f92 (k:=t.kind) (s:=p.side) a.kind.1 (by have:=a.kind;omega) b.1 b.2) ?_;simp;refine fo ?_;have q0:=ig (l:=t.p.cs) (n:=t.cur) (v:=1+2*t.kind+p.side) c.1 (by omega);simp[nc,h0,kO,iF,q0]
 .simp[h0,nc];exact lZ
theorem abn(g:fu)(hg:gu g)(p:Pos)(e:gJ g p)(st t:fF)(a:jE g t)(outs:List gh)(r:outs.length<2 ^ 39)(f:0<outs.length):Wf T 260 [.agg t.cells,.agg [.i 0,.i 0],.ptr 1 0 0,.ptr 2 0 0] (wC g p st (.fm 10 (outs.length-1) 6 0 outs.length) ++ [.row 259 (outs.length-1) (cl gh.cells outs),.row 330 0 t.cells])
  (λ_ H'=>match nc p.side t with
   | none=>H'=wC g p st (.fm 10 (outs.length-1) 6 0 outs.length) ++ [.row 259 (outs.length-1) (cl gh.cells outs),.row 330 0 t.cells]
   | some o=>H'=wC g p st (.fm 10 (outs ++ [o]).length.pred 6 0 (outs ++ [o]).length) ++ [.row 259 (outs ++ [o]).length.pred (cl gh.cells (outs ++ [o])),.row 330 0 t.cells]):=by
 have x:=a.p.size;have c:=a.cur;have d:=a.p.small hg;have j:=hg.jb.size;have u:=hg.kinds;have q:=a.p.h0.len;have m:=a.p.h1.len;have b:=e.side;have i:=a.p.side;refine Yz ri (ik 37 [14,15,16] ri.body) ?_;simp[ri,ik,jG,me,mg,mq,kQ,wC,fF.cells]
 by_cases h0:gt t.p.cs t.cur=0
 .simp[h0];refine fo ?_;refine Yn (f91 t d (by omega)) ?_;simp;refine fo ?_;refine Yt (f92 (k:=t.kind) (s:=p.side) a.kind.1 (by have:=a.kind;omega) b.1 b.2) ?_;simp;refine fo ?_;have q0:=ig (l:=t.p.cs) (n:=t.cur) (v:=1+2*t.kind+p.side) c.1 (by omega);simp[nc,h0,kO,q0];(with_reducible repeat' first|refine Xk ?_<;>try simp[show outs.length-1+1=outs.length by omega]|refine Xs ?_ ?_<;>intro h<;>(try intro w)<;>(try simp[h,show outs.length-1+1=outs.length by omega])<;>try omega|refine Xg ?_|omega)
 .simp[h0,nc];exact lZ
