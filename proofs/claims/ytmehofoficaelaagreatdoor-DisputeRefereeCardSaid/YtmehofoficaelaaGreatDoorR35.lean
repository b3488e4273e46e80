/- Part 35 of DisputeReferee. -/
import Derived.Test.YtmehofoficaelaaGreatDoorR25
set_option linter.all false
namespace Go.Proofs.YtmehofoficaelaaGreatDoor
open Go Go.AL
def yZ:List Int:=[1116352408,1899447441,3049323471,3921009573,961987163,1508970993,2453635748,2870763221,3624381080,310598401,607225278,1426881987,1925078388,2162078206,2614888103,3248222580,3835390401,4022224774,264347078,604807628,770255983,1249150122,1555081692,1996064986,2554220882,2821834349,2952996808,3210313671,3336571891,3584528711,113926993,338241895,666307205,773529912,1294757372,1396182291,1695183700,1986661051,2177026350,2456956037,2730485921,2820302411,3259730800,3345764771,3516065817,3600352804,4094571909,275423344,430227734,506948616,659060556,883997877,958139571,1322822218,1537002063,1747873779,1955562222,2024104815,2227730452,2361852424,2428436474,2756734187,3204031479,3329325298]
def Ac:List Int:=[1779033703,3144134277,1013904242,2773480762,1359893119,2600822924,528734635,1541459225]
def tn(n x:Int):Int:=bits .or .u32 (l4 .u32 x n) (xF .u32 x (32-n))
def xr(a b:Int):Int:=bits .xor .u32 a b
def ad(a b:Int):Int:=IntKind.u32.wrap (a+b)
def mx(x a b c:Int):Int:=xr (xr (tn a x) (tn b x)) (tn c x)
def wp(w:List Int)(n:Nat)(b:Int):List Int:=pt w (n / 4:Nat) (bits .or .u32 (xF .u32 (gt w (n / 4:Nat)) 8) b)
def Nc(b:List Int):Nat->List Int
 | 0=>List.replicate 64 0
 | n+1=>wp (Nc b n) n (IntKind.u32.wrap (gt b n))
@[irreducible] def w1(b:List Int)(n:Nat):List Int:=Nc b n
def wn(w:List Int)(t:Nat):List Int:=pt w t (ad (ad (ad (gt w (t-16:Nat)) (gt w (t-7:Nat))) (xr (xr (tn 7 (gt w (t-15:Nat))) (tn 18 (gt w (t-15:Nat)))) (l4 .u32 (gt w (t-15:Nat)) 3)))
 (xr (xr (tn 17 (gt w (t-2:Nat))) (tn 19 (gt w (t-2:Nat)))) (l4 .u32 (gt w (t-2:Nat)) 10)))
def Nd(w:List Int):Nat->List Int
 | 0=>w
 | m+1=>wn (Nd w m) (m+16)
@[irreducible] def w2(w:List Int)(n:Nat):List Int:=Nd w n
@[irreducible] def tT(b:List Int):List Int:=w2 (w1 b 64) 48
def zd(c:List Int)(k w:Int):List Int:=match c with
 | [c0,c1,c2,c3,c4,c5,c6,c7]=>
  let x:=ad (ad (ad (ad c7 (mx c4 6 11 25)) (xr (bits .and .u32 c4 c5) (bits .and .u32 (bits .xor .u32 IntKind.u32.max c4) c6))) k) w
  let y:=ad (mx c0 2 13 22) (xr (xr (bits .and .u32 c0 c1) (bits .and .u32 c0 c2)) (bits .and .u32 c1 c2))
  [ad x y,c0,c1,c2,ad c3 x,c4,c5,c6]
 | _=>[]
def Mx(w c:List Int):Nat->List Int
 | 0=>c
 | n+1=>zd (Mx w c n) (gt yZ n) (gt w n)
@[irreducible] def qz(w c:List Int)(n:Nat):List Int:=Mx w c n
@[irreducible] def sA(s b:List Int):List Int:=List.zipWith ad (qz (tT b) s 64) s
def Kd(b:List Int)(s:List Int):Nat->List Int
 | 0=>s
 | n+1=>sA (Kd b s n) ((b.drop (64*n)).take 64)
@[irreducible] def pg(b s:List Int)(n:Nat):List Int:=Kd b s n
def zc(n:Nat):Nat:=63-(n+8) % 64
def wF(n:Int):List Int:=[56,48,40,32,24,16,8,0].map λs:Int=>IntKind.u8.wrap (l4 .u64 n s)
@[irreducible] def pad(b:List Int):List Int:=b++128::(List.replicate (zc b.length) 0++wF (8*b.length))
@[irreducible] def xC(s:List Int):List Int:=(upto 32).map λi=>IntKind.u8.wrap (l4 .u32 (gt s (i / 4)) (24-8*(i % 4)))
@[irreducible] def jV(b:List Int):List Int:=xC (pg (pad b) Ac ((pad b).length / 64))
def rR(n:Nat):Nat:=2 ^ (Nat.log2 (n-1))
def Dj:Nat->List (List Int)->List Int
 | 0,_=>[]
 | _+1,[]=>jV []
 | _+1,[x]=>jV (0::x)
 | k+1,l=>jV (1::(Dj k (l.take (rR l.length))++Dj k (l.drop (rR l.length))))
@[irreducible] def nL(k:Nat)(l:List (List Int)):List Int:=Dj k l
def qf(r:fE):List Int:=IntKind.u8.wrap r.1 :: [24,16,8,0].map λs:Int=>IntKind.u8.wrap (l4 .i64 r.2 s)
end Go.Proofs.YtmehofoficaelaaGreatDoor
namespace Go.AL
open Go
@[irreducible] def fW(n:Int):List D:=[.val (.int .u32 n)]
@[simp] theorem Ud(n:Int):fW n = [.val (.int .u32 n)]:=by unfold fW;rfl
instance:Fl fW 1:=⟨λ_=>by simp,λ_=>by simp[gh]⟩
@[simp] theorem atk{l:List Int}{n:Int}{P:D->Prop}:oA (cl fW l)[n.toNat]? P .mk=(n.toNat<l.length/\P (.val (.int .u32 (gt l n)))):=by have:=Kq (f:=fW) (l:=l) (n:=n) (j:=0) (by decide) (P:=P);simpa using this
theorem B2(l:List Int):(l.map λn=>D.val (.int .u32 n))=cl fW l:=by
 rw[mY]
 induction l with
 | nil=>rfl
 | cons a r b=>simp[b]
theorem yf(l:List Int):(l.map λn=>D.val (.int .u8 n))=cl fU l:=by
 rw[mY]
 induction l with
 | nil=>rfl
 | cons a r b=>simp[b]
@[irreducible] def zs(n:Nat):List Int:=List.replicate n 0
theorem tV(n:Nat):zs n=List.replicate n 0:=by unfold zs;rfl
@[simp] theorem awZ(n:Nat):(zs n).length=n:=by rw[tV,dY]
@[simp] theorem awY(n:Nat):(zs n).drop n = []:=aU (by simp)
theorem fO.st{T:ia}{live:List Nat}{a:IR}{s b:St}{K:iE}(hs:s=b)(h:fO T live a b K .mk):fO T live a s K .mk:=by subst hs;exact h
@[simp] theorem an3(n:Nat):Zw n=cl fW (zs n):=by rw[<-B2,tV,dB];rfl
@[simp] theorem an2(n:Nat):Zb n=cl fU (zs n):=by rw[<-yf,tV,dB];rfl
@[simp] theorem apF(a b:List Int)(n:Int):cl fW a ++ .val (.int .u32 n)::cl fW b=cl fW (a++n::b):=by rw[<-yg,mi,Ud];rfl
@[simp] theorem Z'(l:List Int)(n:Int):cl fU l ++ [.val (.int .u8 n)]=cl fU (l ++ [n]):=by rw[<-ph,yq]
@[simp] theorem afd{l:List Int}{n:Int}{P:D->Prop}:oA (cl fU l)[n.toNat]? P .mk=(n.toNat<l.length/\P (.val (.int .u8 (gt l n)))):=by have:=Kq (f:=fU) (l:=l) (n:=n) (j:=0) (by decide) (P:=P);simpa using this
@[simp] theorem aog(a b:Int):jx .add .u32 a b=some (.val (.int .u32 (Proofs.YtmehofoficaelaaGreatDoor.ad a b))):=rfl
@[simp high] theorem ase(n:Nat)(t:TypeId)(l:List Int):tL n 0 (some (t,cl fW l))=if n<=l.length then some (.agg (cl fW (l.take n)))else none:=by simp_all
@[simp high] theorem asd(n:Nat)(t:TypeId)(l:List Int):tL n 0 (some (t,cl fU l))=if n<=l.length then some (.agg (cl fU (l.take n)))else none:=by simp_all
@[simp] theorem aoY(t:TypeId)(m:Int)(n:Nat):sB t (.val (.int .u32 m)) n=some (.ptr n 0 0,.new (.row t 0 [.val (.int .u32 m)])):=rfl
@[simp] theorem aqe(sz v g off len:Nat)(y:D)(H:U):yl sz (.fy v g sz off len) y H=(ko sz H y).bind λq=>(rowAt H v g).bind λr=>if (off+len)*sz<=r.2.length then some (.i (min q.2 len:Nat),.obj v (.row r.1 g (r.2.take (off*sz)++q.1.take (min q.2 len*sz)++r.2.drop (off*sz+min q.2 len*sz))))else none:=by
 simp only[yl]
 cases ko sz H y with
 | none=>rfl
 | some q=>
  dsimp only
  cases rowAt H v g with
  | none=>rfl
  | some p=>simp
def cB(l:List Int):D:=.lD (l.map λn=>Value.int .u8 n)
@[simp] theorem aal(l:List Int):closed (cB l)=true:=rfl
theorem YL:∀l:List Int,Dz (l.map fU)=some (l.map λn=>Value.int .u8 n)
 | []=>rfl
 | a::r=>by rw[List.map_cons,yq];unfold Dz;rw[YL r];rfl
@[simp] theorem aaf(l:List Int):clip 1 (l.map fU)=cB l:=by unfold clip;rw[YL];rfl
@[simp] theorem atq{l:List Int}{n:Int}{k:IntKind}{P:D->Prop}:oA (ma 1 (cB l) (.val (.int k n))) P .mk=((0<=n/\n<l.length)/\P (.fV [.val (.int .u8 (gt l n))])):=by
 unfold cB;rw[ad3,A9,y9,List.length_map];refine propext ⟨λ⟨h,a⟩=>⟨h,?_⟩,λ⟨h,a⟩=>⟨h,?_⟩⟩
 .rw[List.getD_eq_getElem?_getD,ar,List.getElem?_eq_getElem (by omega),aD,aP]at a;rw[jc h.1 h.2];exact a
 .rw[List.getD_eq_getElem?_getD,ar,List.getElem?_eq_getElem (by omega),aD,aP];rw[jc h.1 h.2]at a;exact a
@[simp] theorem awk(n:Nat)(l:List Int):iT n (cB l) = []:=rfl
@[simp] theorem apb(l:List Int):cellsOf (cB l)=some [cB l]:=rfl
@[simp] theorem aub(l:List Int):one (cB l)=true:=rfl
@[simp] theorem awN(l:List Int):mN (cB l) = []:=rfl
@[simp] theorem an7(t bytes:Nat)(l:List Int)(y:D)(H:U)(a:Nat):rN t 1 bytes (cB l) y H a=(ko 1 H y).bind λq=>if q.2≠0/\(l.length+q.2)*bytes<=140737488355328/\l.length+q.2<=9223372036854775807 then some (.fy a 0 1 0 (l.length+q.2),.new (.row t 0 (cl fU l++q.1)))else none:=by unfold cB;rw[Zn,List.length_map,List.map_map,<-yf];rfl
theorem aeq:Cr=cl fW Proofs.YtmehofoficaelaaGreatDoor.yZ:=B2 _
theorem SL:Cj=cl fW Proofs.YtmehofoficaelaaGreatDoor.Ac:=B2 _
end Go.AL
namespace Go.Proofs.YtmehofoficaelaaGreatDoor
open Go Go.AL Classical
set_option maxRecDepth 10000
set_option maxHeartbeats 4000000
theorem akx:∀m:Nat,m<31->bits .and .u64 (IntKind.u64.wrap (-((m:Int)+1))) 31=32-((m:Int)+1)/\IntKind.u64.wrap (32-(32-((m:Int)+1)))=(m:Int)+1:=by decide
theorem ajQ(a b:Int):bits .or .u32 a b=bits .or .u32 b a:=by simp only[bits,BitVec.or_comm]
theorem EH(x n:Int)(b:1<=n/\n<=31):Wf T 292 [.val (.int .u32 x),.i (-n)] [] (Is (.val (.int .u32 (tn n x)))):=by obtain⟨h1,a⟩:=akx (n-1).toNat (by omega);rw[show(((n-1).toNat:Nat):Int)+1=n by omega]at h1 a;have e:bits .or .u32 (xF .u32 x (32-n)) (l4 .u32 x n)=tn n x:=ajQ _ _;refine Yg Ii ?_;simp[Ii,h1,a,jx,e];exact mE
theorem N'(x n:Int)(a:1<=n/\n<=31):Wf T 293 [.i n,.fV [.val (.int .u32 x)]] [] (Is (.val (.int .u32 (tn n x)))):=by refine Yg Ij ?_;simp[Ij];refine fD ?_;refine Yc (EH x n a) ?_;simp
theorem T9(x a b c:Int)(f:1<=a/\a<=31)(e:1<=b/\b<=31)(d:1<=c/\c<=31):Wf T 276 [.val (.int .u32 x),.i a,.i b,.i c] [] (Is (.val (.int .u32 (mx x a b c)))):=by refine Yg Ie ?_;simp[Ie];refine Yr (N' x a f) ?_;simp;refine Yr (N' x b e) ?_;simp;refine Yr (N' x c d) ?_;simp;rfl
theorem vA(x n:Int)(a:1<=n/\n<=31):Wf T 258 [.i n,.val (.int .u32 x)] [] (Is (.val (.int .u32 (tn n x)))):=by refine Yg H9 ?_;simp[H9];refine fD ?_;rfl
@[simp] theorem awL(b:List Int):w1 b 0=zs 64:=by rw[w1,Nc,tV]
theorem YQ(b:List Int)(n:Nat):w1 b (n+1)=wp (w1 b n) n (IntKind.u32.wrap (gt b n)):=by rw[w1,w1,Nc]
@[simp] theorem alC(w:List Int):w2 w 0=w:=by rw[w2,Nd]
theorem YS(w:List Int)(n:Nat):w2 w (n+1)=wn (w2 w n) (n+16):=by rw[w2,w2,Nd]
theorem DA(b:List Int):∀n:Nat,n<=64->(w1 b n).length=64
 | 0,_=>by simp
 | n+1,h=>by rw[YQ,wp,iq (by omega) (by rw[DA b n (by omega)];omega),DA b n (by omega)]
theorem G8{w:List Int}(h:w.length=64):∀m:Nat,m<=48->(w2 w m).length=64
 | 0,_=>by rw[alC];exact h
 | m+1,hm=>by rw[YS,wn,iq (by omega) (by rw[G8 h m (by omega)];omega),G8 h m (by omega)]
theorem YR{b:List Int}{i:Int}(i0:0<=i):w1 b (i+1).toNat=pt (w1 b i.toNat) (i / 4) (bits .or .u32 (xF .u32 (gt (w1 b i.toNat) (i / 4)) 8) (IntKind.u32.wrap (gt b i))):=by rw[show(i+1).toNat=i.toNat+1 by omega,YQ,wp,show((i.toNat / 4:Nat):Int)=i / 4 by omega,show((i.toNat:Nat):Int)=i by omega]
theorem YT{w:List Int}{i:Int}(i0:16<=i):w2 w (i+1-16).toNat=pt (w2 w (i-16).toNat) i (ad (ad (ad (gt (w2 w (i-16).toNat) (i-16)) (gt (w2 w (i-16).toNat) (i-7)))
  (xr (xr (tn 7 (gt (w2 w (i-16).toNat) (i-15))) (tn 18 (gt (w2 w (i-16).toNat) (i-15)))) (l4 .u32 (gt (w2 w (i-16).toNat) (i-15)) 3)))
  (xr (xr (tn 17 (gt (w2 w (i-16).toNat) (i-2))) (tn 19 (gt (w2 w (i-16).toNat) (i-2)))) (l4 .u32 (gt (w2 w (i-16).toNat) (i-2)) 10))):=by
 rw[show(i+1-16).toNat=(i-16).toNat+1 by omega,YS,wn]
 rw[show(((i-16).toNat+16:Nat):Int)=i by omega,show(((i-16).toNat+16-16:Nat):Int)=i-16 by omega,show(((i-16).toNat+16-7:Nat):Int)=i-7 by omega,
  show(((i-16).toNat+16-15:Nat):Int)=i-15 by omega,show(((i-16).toNat+16-2:Nat):Int)=i-2 by omega]
theorem Rx(b:List Int):tT b=w2 (w1 b 64) 48:=by rw[tT]
theorem Yy(b:List Int):(tT b).length=64:=by rw[Rx];exact G8 (DA b 64 (Nat.le_refl _)) 48 (Nat.le_refl _)
theorem ab5(b:List Int)(l:b.length=64):Wf T 275 [cB b] [] (Is (.agg (cl fW (tT b)))):=by
 obtain⟨W,g⟩:∃W,tT b=W:=⟨_,rfl⟩;rw[g];rw[Rx]at g;refine Yg Ic ?_;simp[Ic];refine fO.e ((0,zs 64):Int×List Int) (λy=>[(0,cB b),(2,.ptr 0 0 0),(3,.ptr 1 0 0),(10,.i y.1)]) (λy=>[.row 375 0 (cl fW (zs 64)),.row 375 0 (cl fW y.2)]) (λy=>(0<=y.1/\y.1<=64)/\y.2=w1 b y.1.toNat) (λy=>(64-y.1).toNat) ?_ ?_
 .simp
 rintro⟨i,w⟩ ⟨⟨i0,f⟩,c⟩;dsimp only at i0 f c ⊢;have hl:w.length=64:=by rw[c];exact DA b i.toNat (by omega)
 by_cases hi:i<64
 .have h:tN i 4=i / 4:=tO i0 (by omega) (by omega);have hs:=YR (b:=b) i0;rw[<-c]at hs;simp[hi,h];refine jw h ?_;refine LJ.e (i+1,pt w (i / 4) (bits .or .u32 (xF .u32 (gt w (i / 4)) 8) (IntKind.u32.wrap (gt b i)))) ?_;exact⟨by omega,ic,hs.symm⟩
 .have d:i=64:=by omega
  subst d;simp;refine fO.st (by simp;rfl) ?_;refine fO.e ((16,w):Int×List Int) (λy=>[(2,.ptr 0 0 0),(3,.ptr 1 0 0),(5,.i y.1)]) (λy=>[.row 375 0 (cl fW (zs 64)),.row 375 0 (cl fW y.2)]) (λy=>(16<=y.1/\y.1<=64)/\y.2=w2 w (y.1-16).toNat) (λy=>(64-y.1).toNat) ?_ ?_
  .simp
  rintro⟨i,x⟩ ⟨⟨i0,f⟩,a⟩;dsimp only at i0 f a ⊢;have j:x.length=64:=by rw[a];exact G8 hl (i-16).toNat (by omega)
  by_cases hi:i<64
  .have hs:=YT (w:=w) i0;rw[<-a]at hs;simp[hi];refine fD ?_;refine Yc (EH _ 7 (by omega)) ?_;simp;refine Yc (EH _ 18 (by omega)) ?_;simp;refine fD ?_;refine Yc (EH _ 17 (by omega)) ?_;simp;refine Yc (EH _ 19 (by omega)) ?_;simp;refine fD ?_;refine LJ.i (i+1,w2 w (i+1-16).toNat) (by first|rfl|simp[hs,xr]) (by first|rfl|simp[hs,xr]) rfl rfl ?_;exact⟨by omega,ic,rfl⟩
  .have d:i=64:=by omega
   subst d;have e:x=W:=by rw[a,<-g,c,show((64:Int)-16).toNat=48 from rfl,show(64:Int).toNat=64 from rfl]
   subst e;have k:x.take 64=x:=af (by omega);simp[j,k]
theorem ab2(b:List Int)(o:b.length=64):Wf T 256 [dU b] [] (Is (.agg (cl fW (tT b)))):=by
 obtain⟨W,h⟩:∃W,tT b=W:=⟨_,rfl⟩;rw[h];rw[Rx]at h;refine Yg H8 ?_;simp[H8];refine fO.e ((0,zs 64):Int×List Int) (λy=>[(0,dU b),(2,.ptr 0 0 0),(3,.ptr 1 0 0),(4,.i y.1)]) (λy=>[.row 375 0 (cl fW (zs 64)),.row 375 0 (cl fW y.2)]) (λy=>(0<=y.1/\y.1<=16)/\y.2=w1 b (4*y.1).toNat) (λy=>(16-y.1).toNat) ?_ ?_
 .simp
 rintro⟨i,w⟩ ⟨⟨i0,g⟩,c⟩;dsimp only at i0 g c ⊢
 by_cases hi:i<16
 .simp[hi];refine fO.e ((0,w):Int×List Int) (λy=>[(0,dU b),(2,.ptr 0 0 0),(3,.ptr 1 0 0),(4,.i i),(5,.i y.1)]) (λy=>[.row 375 0 (cl fW (zs 64)),.row 375 0 (cl fW y.2)]) (λy=>(0<=y.1/\y.1<=4)/\y.2=w1 b (4*i+y.1).toNat) (λy=>(4-y.1).toNat) ?_ ?_
  .simp[c]
  rintro⟨k,u⟩ ⟨⟨k0,k1⟩,d⟩;dsimp only at k0 k1 d ⊢;have hl:u.length=64:=by rw[d];exact DA b (4*i+k).toNat (by omega)
  by_cases l:k<4
  .have e:=YR (b:=b) (i:=4*i+k) (by omega);rw[<-d,show(4*i+k) / 4=i by omega,show 4*i+k+1=4*i+(k+1)by omega]at e;simp[l];refine fD ?_;refine LJ.i (k+1,w1 b (4*i+(k+1)).toNat) (by first|rfl|simp[e]) (by first|rfl|simp[e]) rfl rfl ?_;exact⟨by omega,ic,rfl⟩
  .have n:k=4:=by omega
   subst n;simp;refine fD ?_;refine LJ.e (i+1,u) ?_;exact⟨by omega,ic,by rw[d,show 4*(i+1)=4*i+4 by omega]⟩
 .have f:i=16:=by omega
  subst f;have hl:w.length=64:=by rw[c];exact DA b _ (by omega)
  simp;refine fO.st (by simp;rfl) ?_;refine fO.e ((16,w):Int×List Int) (λy=>[(2,.ptr 0 0 0),(3,.ptr 1 0 0),(6,.i y.1)]) (λy=>[.row 375 0 (cl fW (zs 64)),.row 375 0 (cl fW y.2)]) (λy=>(16<=y.1/\y.1<=64)/\y.2=w2 w (y.1-16).toNat) (λy=>(64-y.1).toNat) ?_ ?_
  .simp
  rintro⟨i,x⟩ ⟨⟨i0,g⟩,a⟩;dsimp only at i0 g a ⊢;have j:x.length=64:=by rw[a];exact G8 hl (i-16).toNat (by omega)
  by_cases hi:i<64
  .have hs:=YT (w:=w) i0;rw[<-a]at hs;simp[hi];refine fD ?_;refine Yt (vA _ 7 (by omega)) ?_;simp;refine Yt (vA _ 18 (by omega)) ?_;simp;refine Yt (vA _ 17 (by omega)) ?_;simp;refine Yt (vA _ 19 (by omega)) ?_;simp;refine fD ?_;refine LJ.i (i+1,w2 w (i+1-16).toNat) (by first|rfl|simp[hs,xr]) (by first|rfl|simp[hs,xr]) rfl rfl ?_;exact⟨by omega,ic,rfl⟩
  .have f:i=64:=by omega
   subst f;have e:x=W:=by rw[a,<-h,c,show((64:Int)-16).toNat=48 from rfl,show(4*16:Int).toNat=64 from rfl]
   subst e;have m:x.take 64=x:=af (by omega);simp[j,m]
theorem len8{l:List Int}(h:l.length=8):∃a b c d e f g i,l = [a,b,c,d,e,f,g,i]:=by
 match l,h with
 | [a,b,c,d,e,f,g,i],_=>exact⟨a,b,c,d,e,f,g,i,rfl⟩
theorem B1(a b c d e f g i:Int):cl fW [a,b,c,d,e,f,g,i] = [.val (.int .u32 a),.val (.int .u32 b),.val (.int .u32 c),.val (.int .u32 d),.val (.int .u32 e),.val (.int .u32 f),.val (.int .u32 g),.val (.int .u32 i)]:=(B2 _).symm
theorem akb{c:List Int}(h:c.length=8)(k w:Int):(zd c k w).length=8:=by obtain⟨_,_,_,_,_,_,_,_,rfl⟩:=len8 h;rfl
theorem QU(w c:List Int):qz w c 0=c:=by rw[qz,Mx]
theorem XM(w c:List Int)(n:Nat):qz w c (n+1)=zd (qz w c n) (gt yZ n) (gt w n):=by rw[qz,qz,Mx]
theorem De(w:List Int){c:List Int}(h:c.length=8):∀n,(qz w c n).length=8
 | 0=>by rw[QU];exact h
 | n+1=>by rw[XM];exact akb (De w h n) _ _
theorem XP{w c:List Int}{i:Int}(i0:0<=i):qz w c (i+1).toNat=zd (qz w c i.toNat) (gt yZ i) (gt w i):=by rw[show(i+1).toNat=i.toNat+1 by omega,XM,show((i.toNat:Nat):Int)=i by omega]
@[simp] theorem auO(H:U)(b:List Int):gZ H 40 (cB b) = []:=by unfold gZ;rw[if_pos (aal b)]
@[simp] theorem awJ(n:Int):Dx .xor (.val (.int .u32 n))=some (.val (.int .u32 (bits .xor .u32 IntKind.u32.max n))):=rfl
@[simp] theorem atl{l:List Int}{n:Int}{P:D->Prop}:oA (cl fW (l.drop n.toNat))[0]? P .mk=(n.toNat<l.length/\P (.val (.int .u32 (gt l n)))):=by
 by_cases h:n.toNat<l.length
 .rw[bL h,mi,Ud];have:gt l n=l[n.toNat]:=by unfold gt;rw[List.getD_eq_getElem?_getD,List.getElem?_eq_getElem h];rfl
  rw[this];simp[h]
 .rw[aU (by omega)];simp[h]
theorem V8:yZ.length=64:=rfl
def ZW(c s:List Int)(i:Int)(u:List Int):Prop:=u.length=8/\∀j:Int,0<=j->gt u j=if j<i then ad (gt c j) (gt s j)else gt c j
theorem ZW.z{c s:List Int}(h:c.length=8):ZW c s 0 c:=⟨h,λj j0=>by rw[if_neg (by omega)]⟩
theorem ZW.n{c s u:List Int}{i:Int}(h:ZW c s i u)(i0:0<=i)(b:i<8):ZW c s (i+1) (pt u i (ad (gt u i) (gt s i))):=by
 have h1:=h.1;refine⟨by rw[iq i0 (by omega)];exact h1,λj j0=>?_⟩;rw[oz i0 (by omega) j0];have a:=h.2 j j0
 by_cases e:j=i
 .subst e;rw[if_pos rfl,if_pos (by omega),a,if_neg (by omega)]
 .rw[if_neg e,a]
  by_cases q:j<i
  .rw[if_pos q,if_pos (by omega)]
  .rw[if_neg q,if_neg (by omega)]
theorem ZW.e{c s u:List Int}(h:ZW c s 8 u)(hs:s.length=8)(b:c.length=8):u=List.zipWith ad c s:=by have h1:=h.1;refine bQ (by rw[List.length_zipWith];omega) λj j0 j1=>?_;have a:=h.2 j (by omega);rw[if_pos (by omega),jc (by omega) (by omega),jc (by omega) (by omega),jc (by omega) (by omega)]at a;rw[List.getElem_zipWith];exact a
theorem abZ(s b:List Int)(hs:s.length=8)(v:b.length=64):Wf T 223 [.agg (cl fW s),cB b] [] (Is (.agg (cl fW (sA s b)))):=by
 have c:=ab5 b v;have l:=Yy b;obtain⟨r,j⟩:∃r,sA s b=r:=⟨_,rfl⟩;have f:List.zipWith ad (qz (tT b) s 64) s=r:=by rw[<-j,sA]
 rw[j];obtain⟨w,m⟩:∃w,tT b=w:=⟨_,rfl⟩;rw[m]at c l f;clear m j;obtain⟨K,k⟩:∃K,yZ=K:=⟨_,rfl⟩;have B:K.length=64:=by rw[<-k];exact V8
 have o:s.take 8=s:=af (by omega);refine Yg H6 ?_;simp[H6,aeq,k];refine Yt (c) ?_;simp[o,hs,l];refine fO.e ((0,s):Int×List Int) (λy=>[(2,.ptr 0 0 0),(4,.ptr 1 0 0),(5,.ptr 2 0 0),(6,.ptr 3 0 0),(14,.i y.1)]) (λy=>[.row 323 0 (cl fW s),.row 323 0 (cl fW (zs 8)),.row 375 0 (cl fW w),.row 323 0 (cl fW y.2)]) (λy=>(0<=y.1/\y.1<=64)/\y.2=qz w s y.1.toNat) (λy=>(64-y.1).toNat) ?_ ?_
 .simp[QU]
 rintro⟨i,c⟩ ⟨⟨i0,h⟩,a⟩;dsimp only at i0 h a ⊢
 by_cases hi:i<64
 .have e:=XP (w:=w) (c:=s) i0;rw[<-a,k]at e;obtain⟨A,G,c2,F,z,E,D,C,x⟩:=len8 (show c.length=8 by rw[a];exact De w hs _);subst x;rw[B1];simp[hi];refine Yt (T9 z 6 11 25 (by omega) (by omega) (by omega)) ?_;simp;refine fD ?_;refine Yt (T9 A 2 13 22 (by omega) (by omega) (by omega)) ?_;simp;refine fD ?_;refine LJ.i (i+1,qz w s (i+1).toNat) (by first|rfl|simp[e,zd,B1,xr]) (by first|rfl|simp[e,zd,B1,xr]) rfl rfl ?_;exact⟨by omega,ic,rfl⟩
 .have g:i=64:=by omega
  subst g;have n:c.length=8:=by rw[a];exact De w hs _
  have q:List.zipWith ad c s=r:=by rw[a];exact f
  clear a f;simp;refine fO.st (by simp;rfl) ?_;refine fO.e ((0,c):Int×List Int) (λy=>[(2,.ptr 0 0 0),(4,.ptr 1 0 0),(6,.ptr 3 0 0),(78,.i y.1)]) (λy=>[.row 323 0 (cl fW s),.row 323 0 (cl fW (zs 8)),.row 375 0 (cl fW w),.row 323 0 (cl fW y.2)]) (λy=>(0<=y.1/\y.1<=8)/\ZW c s y.1 y.2) (λy=>(8-y.1).toNat) ?_ ?_
  .exact⟨by simp,ZW.z n⟩
  rintro⟨i,u⟩ ⟨⟨i0,h⟩,d⟩;dsimp only at i0 h d ⊢;have p:=d.1
  by_cases hi:i<8
  .simp[hi];refine fD ?_;refine LJ.e (i+1,pt u i (ad (gt u i) (gt s i))) ?_;exact⟨by omega,ic,d.n i0 hi⟩
  .have g:i=8:=by omega
   subst g;have e:u=r:=by rw[<-q];exact d.e hs n
   subst e;have t:u.take 8=u:=af (by omega);simp[p,t]
theorem ab3:Wf T 257 [] [] (Is (.agg (cl fW yZ))):=by rw[<-B2];exact od (k:=20) (by kernel_rfl)
theorem T2:Wf T 208 [] [] (Is (.agg (cl fW Ac))):=by rw[<-B2];exact od (k:=20) (by kernel_rfl)
theorem T5(s b:List Int)(hs:s.length=8)(A:b.length=64):Wf T 209 [.agg (cl fW s),dU b] [] (Is (.agg (cl fW (sA s b)))):=by
 have c:=ab2 b A;have f:=Yy b;have ck:=ab3;obtain⟨r,k⟩:∃r,sA s b=r:=⟨_,rfl⟩;have g:List.zipWith ad (qz (tT b) s 64) s=r:=by rw[<-k,sA]
 rw[k];obtain⟨w,p⟩:∃w,tT b=w:=⟨_,rfl⟩;rw[p]at c f g;clear p k;obtain⟨K,l⟩:∃K,yZ=K:=⟨_,rfl⟩;have x:K.length=64:=by rw[<-l];exact V8
 rw[l]at ck;have o:s.take 8=s:=af (by omega);refine Yg HX ?_;simp[HX];refine Yc (c) ?_;simp[o,hs,f];refine Yc (ck) ?_;simp[o,hs,f,x];refine fO.e ((0,s):Int×List Int) (λy=>[(2,.ptr 0 0 0),(4,.ptr 1 0 0),(5,.ptr 2 0 0),(6,.ptr 3 0 0),(7,.ptr 4 0 0),(8,.i y.1)]) (λy=>[.row 323 0 (cl fW s),.row 323 0 (cl fW (zs 8)),.row 375 0 (cl fW w),.row 375 0 (cl fW K),.row 323 0 (cl fW y.2)]) (λy=>(0<=y.1/\y.1<=64)/\y.2=qz w s y.1.toNat) (λy=>(64-y.1).toNat) ?_ ?_
 .simp[QU]
 rintro⟨i,c⟩ ⟨⟨i0,j⟩,a⟩;dsimp only at i0 j a ⊢
 by_cases hi:i<64
 .have e:=XP (w:=w) (c:=s) i0;rw[<-a,l]at e;obtain⟨n,G,c2,F,m,E,D,C,B⟩:=len8 (show c.length=8 by rw[a];exact De w hs _);subst B;rw[B1];simp[hi];refine Yt (vA m 6 (by omega)) ?_;simp;refine Yt (vA m 11 (by omega)) ?_;simp;refine Yt (vA m 25 (by omega)) ?_;simp;refine fD ?_;refine Yt (vA n 2 (by omega)) ?_;simp;refine Yt (vA n 13 (by omega)) ?_;simp;refine Yt (vA n 22 (by omega)) ?_;simp;refine fD ?_;refine LJ.i (i+1,qz w s (i+1).toNat) (by first|rfl|simp[e,zd,B1,xr,mx]) (by first|rfl|simp[e,zd,B1,xr,mx]) rfl rfl ?_;exact⟨by omega,ic,rfl⟩
 .have h:i=64:=by omega
  subst h;have q:c.length=8:=by rw[a];exact De w hs _
  have v:List.zipWith ad c s=r:=by rw[a];exact g
  clear a g;simp;refine fO.st (by simp;rfl) ?_;refine fO.e ((0,c):Int×List Int) (λy=>[(2,.ptr 0 0 0),(4,.ptr 1 0 0),(7,.ptr 4 0 0),(11,.i y.1)]) (λy=>[.row 323 0 (cl fW s),.row 323 0 (cl fW (zs 8)),.row 375 0 (cl fW w),.row 375 0 (cl fW K),.row 323 0 (cl fW y.2)]) (λy=>(0<=y.1/\y.1<=8)/\ZW c s y.1 y.2) (λy=>(8-y.1).toNat) ?_ ?_
  .exact⟨by simp,ZW.z q⟩
  rintro⟨i,u⟩ ⟨⟨i0,j⟩,d⟩;dsimp only at i0 j d ⊢;have t:=d.1
  by_cases hi:i<8
  .simp[hi];refine fD ?_;refine LJ.e (i+1,pt u i (ad (gt u i) (gt s i))) ?_;exact⟨by omega,ic,d.n i0 hi⟩
  .have h:i=8:=by omega
   subst h;have e:u=r:=by rw[<-v];exact d.e hs q
   subst e;have z:u.take 8=u:=af (by omega);simp[t,z]
@[simp] theorem av7(H:U)(l:List Int):ko 1 H (dU l)=some (cl fU l,l.length):=by unfold dU;exact Dr ..
theorem Nh(n:Nat):zs n ++ [0]=zs (n+1):=by rw[tV,tV,ea]
@[simp] theorem awX:zs 0 = []:=by rw[tV];rfl
theorem ZA(n:Int):(wF n).length=8:=rfl
theorem J'(n:Int){i:Int}(i0:0<=i)(a:i<8):gt (wF n) i=IntKind.u8.wrap (l4 .u64 n (56-8*i)):=by
 have:i=0\/i=1\/i=2\/i=3\/i=4\/i=5\/i=6\/i=7:=by omega
 rcases this with rfl|rfl|rfl|rfl|rfl|rfl|rfl|rfl<;>rfl
theorem M6{l:List Int}{i:Int}(i0:0<=i)(a:i<l.length):l.take (i+1).toNat=l.take i.toNat ++ [gt l i]:=by rw[show(i+1).toNat=i.toNat+1 by omega,eJ,List.getElem?_eq_getElem (by omega),eD,<-jc i0 a]
@[simp] theorem aoo(a b:Int):jx .mul .u64 a b=some (.val (.int .u64 (IntKind.u64.wrap (a*b)))):=rfl
theorem wrap_u64{s:Int}(h0:0<=s)(h1:s<9223372036854775808):IntKind.u64.wrap s=s:=by show s % 18446744073709551616=s;omega
theorem abT(b:List Int)(A:b.length<=4000000000):Wf T 207 [dU b] [] (Is (dU (pad b))):=by
 obtain⟨B,d⟩:∃B,wF (8*b.length)=B:=⟨_,rfl⟩;have E:B.length=8:=by rw[<-d];rfl
 have x:∀i:Int,0<=i->i<8->gt B i=IntKind.u8.wrap (l4 .u64 (8*b.length) (56-8*i)):=λi i0 f=>by rw[<-d];exact J' _ i0 f
 obtain⟨p,j⟩:∃p,zc b.length=p:=⟨_,rfl⟩;have D:p=63-(b.length+8) % 64:=by rw[<-j];rfl
 have hP:pad b=b++128::zs p++B:=by rw[pad,d,j,tV];simp
 obtain⟨C,o⟩:∃C,b++128::zs p=C:=⟨_,rfl⟩;rw[hP,o];clear hP d j;have n:IntKind.u64.wrap (b.length:Int)=b.length:=wrap_u64 (by omega) (by omega);have m:IntKind.u64.wrap (8*(b.length:Int))=8*b.length:=wrap_u64 (by omega) (by omega);refine Yg BF ?_;simp[BF];refine fD ?_;refine fO.e ((2,b ++ [128]):Nat×List Int) (λy=>[(0,dU b),(3,.fy 0 y.1 1 0 y.2.length)]) (λy=>[.row 5 y.1 (cl fU y.2),.row 5 0 [.val (.int .u8 128)]]) (λy=>∃k:Nat,k<=p/\y.2=b++128::zs k) (λy=>b.length+1+p-y.2.length) ?_ ?_
 .exact⟨0,by omega,by simp⟩
 rintro⟨g,q⟩ ⟨k,k0,a⟩;dsimp only at k0 a ⊢;have F:q.length=b.length+1+k:=by rw[a];simp;omega
 have h:fX ((q.length:Int)+8) 64=((q.length:Int)+8) % 64:=jd (by omega)
 by_cases v:k<p
 .have h1:¬((q.length:Int)+8) % 64=0:=by omega
  have t:q ++ [0]=b++128::zs (k+1):=by rw[a,<-Nh];simp
  simp[h,h1];refine jw h ?_;refine LJ.e (g+1,q ++ [0]) ?_;exact⟨by simp;omega,k+1,v,t⟩
 .have r:k=p:=by omega
  subst r;have h1:((q.length:Int)+8) % 64=0:=by omega
  rw[o]at a;subst a;simp[h,h1,n,m];refine ku n m ?_;refine fO.e ((0,g,q):Int×Nat×List Int) (λy=>[(3,.fy 0 y.2.1 1 0 y.2.2.length),(4,.val (.int .u64 (8*b.length))),(5,.i y.1)]) (λy=>[.row 5 y.2.1 (cl fU y.2.2),.row 5 0 [.val (.int .u8 128)]]) (λy=>(0<=y.1/\y.1<=8)/\y.2.2=q++B.take y.1.toNat) (λy=>(8-y.1).toNat) ?_ ?_
  .simp
  rintro⟨i,w,u⟩ ⟨⟨i0,f⟩,c⟩;dsimp only at i0 f c ⊢;have z:u.length=q.length+i.toNat:=by rw[c];simp;omega
  by_cases hi:i<8
  .have e:=M6 (l:=B) i0 (by omega);rw[x i i0 hi]at e;simp[hi];refine fD ?_;refine LJ.e (i+1,w+1,u ++ [IntKind.u8.wrap (l4 .u64 (8*b.length) (56-8*i))]) ?_;exact⟨by omega,ic,by rw[e,c,aI]⟩
  .have s:i=8:=by omega
   subst s;have e:u=q++B:=by rw[c,af (by omega)]
   subst e;simp;refine fD ?_;rw[wM,List.map_append]
@[simp] theorem avZ(f:gD)(l:List Int)(lo hi:Option X):tg f 1 (dU l) lo hi=(gN f lo 0).bind λa=>(gN f hi l.length).bind λh=>if 0<=a/\a<=h/\h<=l.length then some (dU ((l.drop a.toNat).take (h.toNat-a.toNat)))else none:=by unfold dU;rw[Rr,List.length_map];simp only[MT]
theorem Xu(b:List Int):(pad b).length % 64=0/\(pad b).length<=b.length+73:=by rw[pad];have h:zc b.length=63-(b.length+8) % 64:=rfl;have a:=ZA (8*b.length);simp only[au,aG,dY,a];omega
theorem J8{s b:List Int}(h:s.length=8):(sA s b).length=8:=by rw[sA,List.length_zipWith,De _ h];omega
theorem Kb(b s:List Int):pg b s 0=s:=by rw[pg,Kd]
theorem Kc(b s:List Int)(n:Nat):pg b s (n+1)=sA (pg b s n) ((b.drop (64*n)).take 64):=by rw[pg,pg,Kd]
theorem BX(b:List Int){s:List Int}(h:s.length=8):∀n,(pg b s n).length=8
 | 0=>by rw[Kb];exact h
 | n+1=>by rw[Kc];exact J8 (BX b h n)
theorem C'(s:List Int):(xC s).length=32:=by rw[xC,List.length_map];rfl
theorem Mq(s:List Int){i:Int}(i0:0<=i)(a:i<32):gt (xC s) i=IntKind.u8.wrap (l4 .u32 (gt s (i / 4)) (24-8*(i % 4))):=by
 have hl:(upto 32).length=32:=rfl;rw[jc i0 (by rw[C'];omega)]
 have e:(upto 32)[i.toNat]'(by omega)=i:=by unfold upto;simp;omega
 simp only[xC,List.getElem_map,e]
theorem TZ(b:List Int)(I:b.length<=4000000000):Wf T 141 [dU b] [] (Is (.agg (cl fU (jV b)))):=by
 have p:=abT b I;have q:=T2;have J:=Xu b;obtain⟨P,hP⟩:∃P,pad b=P:=⟨_,rfl⟩;obtain⟨S,hS⟩:∃S,Ac=S:=⟨_,rfl⟩;have v:S.length=8:=by rw[<-hS];rfl
 obtain⟨r,o⟩:∃r,jV b=r:=⟨_,rfl⟩;have d:xC (pg P S (P.length / 64))=r:=by rw[<-o,jV,hP,hS]
 rw[hP]at p J;rw[hS]at q;rw[o];clear hP hS o;refine Yg BD ?_;simp[BD];refine Yc (p) ?_;simp;refine Yc (q) ?_;simp[v];refine fO.e ((0,S):Int×List Int) (λy=>[(2,.ptr 0 0 0),(3,dU P),(4,.ptr 1 0 0),(5,.i y.1)]) (λy=>[.row 70 0 (cl fU (zs 32)),.row 323 0 (cl fW y.2)]) (λy=>∃n:Nat,y.1=64*n/\y.1<=P.length/\y.2=pg P S n) (λy=>(P.length+64-y.1).toNat) ?_ ?_
 .exact⟨0,by simp,by simp,by simp[Kb]⟩
 rintro⟨i,s⟩ ⟨n,gq,l,hs⟩;dsimp only at gq l hs ⊢;have a:s.length=8:=by rw[hs];exact BX P v n
 by_cases hi:i<P.length
 .have f:s.take 8=s:=af (by omega);have x:((P.drop i.toNat).take 64).length=64:=by rw[aJ,aR];omega
  have e:=Kc P S n;rw[<-hs,show 64*n=i.toNat by omega]at e;have F:(i+64).toNat-i.toNat=64:=by omega
  obtain⟨B,D⟩:∃B,(P.drop i.toNat).take 64=B:=⟨_,rfl⟩;rw[D]at x e;have c:=T5 s B a x;have E:=J8 (s:=s) (b:=B) a;obtain⟨A,H⟩:∃A,sA s B=A:=⟨_,rfl⟩;rw[H]at c e E;simp[hi,a,f];refine pe a f F ?_;rw[F,D];have w:s.drop 8 = []:=aU (by omega);refine Yt (c) ?_;simp[E,a,f];refine fD ?_;refine LJ.i (i+64,A) (by first|rfl|simp[w]) (by first|rfl|simp[w]) rfl rfl ?_;exact⟨by omega,n+1,by omega,by omega,e.symm⟩
 .have k:n=P.length / 64:=by omega
  rw[<-k,<-hs]at d;have K:r.length=32:=by rw[<-d];exact C' s
  have t:∀j:Int,0<=j->j<32->gt r j=IntKind.u8.wrap (l4 .u32 (gt s (j / 4)) (24-8*(j % 4))):=λj j0 j1=>by rw[<-d];exact Mq s j0 j1
  clear d hs p q;simp[hi];refine fD ?_;refine fO.e ((0,zs 32):Int×List Int) (λy=>[(2,.ptr 0 0 0),(4,.ptr 1 0 0),(6,.ptr 2 0 0),(7,.i y.1)]) (λy=>[.row 70 0 (cl fU (zs 32)),.row 323 0 (cl fW s),.row 70 0 (cl fU y.2)]) (λy=>(0<=y.1/\y.1<=32)/\y.2.length=32/\∀j:Int,0<=j->j<y.1->gt y.2 j=gt r j) (λy=>(32-y.1).toNat) ?_ ?_
  .exact⟨by simp,by simp,λj j0 j1=>absurd j1 (by dsimp only;omega)⟩
  rintro⟨i,u⟩ ⟨⟨i0,l⟩,g,m⟩;dsimp only at i0 l g m ⊢
  by_cases hi:i<32
  .have z:tN i 4=i / 4:=tO i0 (by omega) (by omega);have C:fX i 4=i % 4:=jd i0;simp[hi,z,C];refine ku z C ?_;refine LJ.i (i+1,pt u i (gt r i)) (by first|rfl|simp[t i i0 hi]) (by first|rfl|simp[t i i0 hi]) rfl rfl ?_;refine⟨by omega,ic,by rw[iq i0 (by omega)];exact g,λj j0 j1=>?_⟩;dsimp only at j1 ⊢;rw[oz i0 (by omega) j0]
   by_cases e:j=i
   .rw[if_pos e,e]
   .rw[if_neg e];exact m j j0 (by omega)
  .have k:i=32:=by omega
   subst k
   have e:u=r:=by refine bQ (by omega) λj j0 j1=>?_;have h:=m j (by omega) (by omega);rw[jc (by omega) (by omega),jc (by omega) (by omega)]at h;exact h
   subst e;have G:u.take 32=u:=af (by omega);simp[g,G]
def Ow(v:List fE)(b:List Bool):Nat->Int
 | 0 => -1
 | n+1=>if gt b (n:Int)=false/\(gt v (n:Int)).1≠2 then max (Ow v b n) (gt v (n:Int)).2 else Ow v b n
@[simp] theorem aq8(v:List fE)(b:List Bool):Ow v b 0 = -1:=rfl
def L5(b:List Bool)(part:List Int)(n:Int):Nat->Int×Int
 | 0=>(0,-1)
 | k+1=>if gt b (gt part (k:Int))=true/\tN (gt part (k:Int)) n≠(L5 b part n k).2 then((L5 b part n k).1+1,tN (gt part (k:Int)) n)else L5 b part n k
@[simp] theorem asi(b:List Bool)(part:List Int)(n:Int):L5 b part n 0=(0,-1):=rfl
noncomputable def zP(g:fH)(p:Pos):Int:=if ended g p then(gt g.clauses (tw g p)).out else 0
theorem aaZ{g:fH}{p:Pos}{i:Int}(i0:0<=i)(hi:i<g.clauses.length)(d:∀c∈g.clauses.take i.toNat,¬kz p c)(h:kz p (gt g.clauses i)):zP g p=(gt g.clauses i).out:=by
 have a:ended g p:=⟨_,fZ i0 hi,h⟩
 have b:g.clauses.findIdx (λc=>decide (kz p c))=i.toNat:=by
  rw[List.findIdx_eq (by omega)];refine⟨?_,λj e=>?_⟩
  .have:gt g.clauses i=g.clauses[i.toNat]:=by unfold gt;rw[List.getD_eq_getElem?_getD,List.getElem?_eq_getElem (by omega)];rfl
   rw[<-this];simpa using h
  .simp only[decide_eq_false_iff_not];refine d _ ?_;rw[dw];exact⟨j,by omega,rfl⟩
 unfold zP tw;rw[if_pos a,if_pos a,b];congr 1
theorem ack(g:fH)(hg:gF g)(p:Pos)(l:gT g p):Wf T 113 [dG g,dP p] [] (Is (.tup [.i (zP g p),.b (decide (ended g p))])):=by
 have r:=hg.clauses;refine Yg BM ?_;simp[BM];refine fO.e (0:Int) (λy=>[(2,.ptr 0 0 0),(3,.ptr 1 0 0),(9,dN 4 Clause.cells g.clauses),(10,.i g.clauses.length),(11,.i y)]) (λy=>[.row 43 0 g.cells,.row 46 0 p.cells]) (λy=>0<=y/\y<=g.clauses.length/\∀c∈g.clauses.take y.toNat,¬kz p c) (λy=>(g.clauses.length-y).toNat) ?_ ?_
 .simp
 rintro i ⟨i0,o,k⟩
 by_cases hi:i<g.clauses.length
 .have m:=fZ i0 hi;have d:=hg.clause _ m;have q:=d.ok;have s:kz p (gt g.clauses i)->decide (ended g p)=true:=λh=>decide_eq_true ⟨_,m,h⟩;have n:kz p (gt g.clauses i)->ended g p:=λh=>⟨_,m,h⟩;have f:kz p (gt g.clauses i)->zP g p=(gt g.clauses i).out:=λh=>aaZ i0 hi k h
  have j:¬kz p (gt g.clauses i)->∀c∈g.clauses.take (i+1).toNat,¬kz p c:=λh c d=>by
   rw[iO i0 hi]at d;rcases List.mem_append.1 d with d|d
   .exact k c d
   .rw[List.mem_singleton.1 d];exact h
  simp[hi];refine fD ?_;rcases(show(gt g.clauses i).cond=1\/(gt g.clauses i).cond=2\/(gt g.clauses i).cond=3 by omega)with e|e|e
  .simp[e];refine Yt (f294 g hg p l ⟨1,(gt g.clauses i).kind,(gt g.clauses i).n,(gt g.clauses i).out⟩ (by dsimp only;omega)) ?_;simp;have b:kz p (gt g.clauses i)=(rC p p.side (gt g.clauses i).kind=0):=by simp[kz,e]
   by_cases a:rC p p.side (gt g.clauses i).kind=0
   .simp[a];exact⟨(f (b▸a)).symm,n (b▸a)⟩
   .simp[a];refine fD ?_;refine LJ.e (i+1) ?_;exact gx (j (b▸a))
  .simp[e];refine Yt (f296 g hg p l ⟨2,(gt g.clauses i).kind,(gt g.clauses i).n,(gt g.clauses i).out⟩ (by dsimp only;omega) (by dsimp only;omega)) ?_;simp;have b:kz p (gt g.clauses i)=(gt p.cs (gt g.clauses i).n=lj (gt g.clauses i).kind (1-p.side)):=by simp[kz,e]
   by_cases a:gt p.cs (gt g.clauses i).n=lj (gt g.clauses i).kind (1-p.side)
   .simp[a];exact⟨(f (b▸a)).symm,n (b▸a)⟩
   .simp[a];refine fD ?_;refine LJ.e (i+1) ?_;exact gx (j (b▸a))
  .simp[e];refine Yt (f297 g hg p l ⟨3,(gt g.clauses i).kind,(gt g.clauses i).n,(gt g.clauses i).out⟩) ?_;simp;have b:kz p (gt g.clauses i)=(rC p p.side (-1)<=(gt g.clauses i).n):=by simp[kz,e]
   by_cases a:rC p p.side (-1)<=(gt g.clauses i).n
   .simp[a];exact⟨(f (b▸a)).symm,n (b▸a)⟩
   .simp[a];refine fD ?_;refine LJ.e (i+1) ?_;exact gx (j (b▸a))
 .simp[hi];have:¬ended g p:=λ⟨c,d,h⟩=>k c (by rw[kG (by omega)];exact d) h;simp[zP,this]
theorem f54(g:fH)(hg:gF g)(p:Pos)(a:gT g p):Wf T 58 [dG g,dP p] [] (Is (.tup [.i (stat g p).1,.b (stat g p).2])):=by
 have b:ended g p->iz g p = []:=Me;refine Yg JE ?_;simp[JE];refine Yc (ack g hg p a) ?_;simp
 by_cases h0:ended g p
 .simp[h0,stat,zP,b h0]
 .simp[h0,stat,zP];refine Yc (f26 g hg p a) ?_;simp;refine jF ?_ ?_<;>intro h
  all_goals simp[h0, *]
set_option maxHeartbeats 8000000
def lg(v:List fE)(b:List Bool)(x:List Int):Nat->Int×Int
 | 0=>(0,-1)
 | j+1=>if gt b (gt x (j:Int))=false/\(gt v (gt x (j:Int))).1=1 then((lg v b x j).1+1,max (lg v b x j).2 (gt v (gt x (j:Int))).2)else lg v b x j
@[simp] theorem awW(v:List fE)(b:List Bool)(x:List Int):lg v b x 0=(0,-1):=rfl
theorem alF{v:List fE}{b:List Bool}{x:List Int}{i:Int}(i0:0<=i):lg v b x (i+1).toNat=if gt b (gt x i)=false/\(gt v (gt x i)).1=1 then((lg v b x i.toNat).1+1,max (lg v b x i.toNat).2 (gt v (gt x i)).2)else lg v b x i.toNat:=by
 have h:(i+1).toNat=i.toNat+1:=by omega
 have a:((i.toNat:Nat):Int)=i:=by omega
 rw[h,lg,a]
def A0(v:List fE)(b:List Bool)(x:List Int)(n:Int):Prop:=∃k∈x,gt b k=false/\gt v k=(3,n-1)
noncomputable def ot(g:fH)(p:Pos)(v:List fE)(b:List Bool)(x:List Int)(n:Int):fE×Bool:=
 if n=0 then(((stat g p).1,0),(stat g p).2)else
 if A0 v b x n then((1,n),true)else((3,n),decide (0<x.length/\(lg v b x x.length).1=x.length/\(lg v b x x.length).2=n-1))
theorem Nf(v:List fE)(b:List Bool)(x:List Int):∀k:Nat,0<=(lg v b x k).1/\(lg v b x k).1<=k
 | 0=>by simp
 | k+1=>by
  have:=Nf v b x k;unfold lg;split
  .dsimp only;omega
  .omega
end Go.Proofs.YtmehofoficaelaaGreatDoor
namespace Go.AL
open Go
section
variable{T:ia}{live:List Nat}{a:IR}{s:St}{K:iE}{α:Type}
theorem fO.kg(ms:List Nat)(rd:Bool)(b:α)(E:α->Env)(c:α->U)(P:α->Prop)(d:α->Nat)
  (h0:P b) (l:forget ((E b).map (·.1)) s.env=E b) (j:s.H=c b) (i:s.marks=ms) (g:s.ik=rd) (f:(((E b).map (·.1)).all λk=>live.contains k)=true)
  (h:∀x,P x->XC T a { env:=E x,H:=c x,marks:=ms,ik:=rd } (xq s.H.length live ((E b).map (·.1)) (LJ E c ms rd (λe=>d e<d x/\P e) .mk) K)):fO T live a s K .mk:=
 fO.j b E c P d h0 l j f (by rw[i,g];exact h)
end
def KM(H:U):Option Ob->Option D
 | some (.jb (.gg m) since seen)=>(kY H m).bind λp=>seen.getLast?.bind λi=>p.2[i]?.bind λe=>if p.2.length=since then some (.tup [rz e.1,e.2])else none
 | _=>none
theorem aa0(H:U)(x:Option Ob):(match x with
  | some (.jb (.gg m) since seen)=>(match kY H m,seen.getLast? with
   | some (_,es),some i=>(match es[i]? with
    | some (k,d)=>if es.length=since then some (.tup [rz k,d])else none
    | none=>none)
   | _,_=>none)
  | _=>none)=KM H x:=by
 unfold KM;split
 .rename_i m since seen
  cases a:kY H m with
  | none=>simp
  | some p=>
   cases hs:seen.getLast? with
   | none=>simp
   | some i=>
    simp only[Option.bind_some];cases p.2[i]? <;> rfl
 .rfl
@[simp] theorem aqk(v:Nat)(H:U):KN (.ptr v 0 0) H=KM H H[v]? := aa0 H H[v]?
@[simp] theorem aqj(H:U)(m since:Nat)(seen:List Nat):KM H (some (.jb (.gg m) since seen))=(kY H m).bind λp=>seen.getLast?.bind λi=>p.2[i]?.bind λe=>if p.2.length=since then some (.tup [rz e.1,e.2])else none:=rfl
@[simp] theorem auH(m:Nat)(H:U)(a:Nat):Gs (.gg m) H a=(kY H m).bind λp=>some (.ptr a 0 0,.new (.jb (.gg m) p.2.length [])):=by simp only[Gs];cases kY H m<;>rfl
theorem tZ.at{v m since:Nat}{seen:List Nat}{kk:KK}{es:List (Value×D)}{dst:Option Nat}{s:St}{K:St->Prop}(a:s.H[v]? = some (.jb (.gg m) since seen))(b:s.H[m]? = some (.map kk es))(hs:es.length=since)
  (h0:(∀i,i<es.length->i∈seen)->K { s with env:=put s.env dst (.tup [.b false]) })
  (h1:∀i k d,es[i]? = some (k,d)->i ∉ seen->K { s with env:=put s.env dst (.tup [.b true,rz k,d]),H:=s.H.set v (.jb (.gg m) since (seen ++ [i])) }):tZ (.ptr v 0 0) dst s K .mk:=
 ⟨v,m,since,seen,kk,es,rfl,a,b,hs,h0,h1⟩
@[simp] theorem aoW(t:TypeId)(v k o n:Nat):sB t (.ptr v k o) n=some (.ptr n 0 0,.new (.row t 0 [.ptr v k o])):=rfl
@[simp] theorem atO(n:Nat)(m:D)(since:Nat)(seen:List Nat):nZ n (.jb m since seen) = []:=rfl
@[simp] theorem avm(ρ:Nat->Option Nat)(H:U)(m:D)(since:Nat)(seen:List Nat):tS ρ H (some (.jb m since seen)) = .jb (fL ρ H 40 m) since seen:=rfl
end Go.AL
namespace Go.Proofs.YtmehofoficaelaaGreatDoor
open Go Go.AL Classical
set_option maxRecDepth 10000
set_option maxHeartbeats 8000000
def u0{α:Type}(v:List α)(a:Int->α):List Int->List α
 | []=>v
 | i::r=>u0 (pt v i (a i)) a r
@[simp] theorem auE{α:Type}(a:Int->α)(v:List α):u0 v a []=v:=rfl
theorem Gm{α:Type}[Inhabited α](a:Int->α):∀(r:List Int) (v:List α),(∀i∈r,0<=i/\i<v.length)->(u0 v a r).length=v.length
 | [],v,_=>rfl
 | i::r,v,h=>by have h1:=h i (by simp);have b:=iq (v:=a i) h1.1 h1.2;rw[u0,Gm a r _ λj c=>by rw[b];exact h j (by simp[c]),b]
theorem ER{α:Type}[Inhabited α](a:Int->α):∀(r:List Int) (v:List α),(∀i∈r,0<=i/\i<v.length)->∀j:Int,0<=j->j<v.length->gt (u0 v a r) j=if j∈r then a j else gt v j
 | [],v,_,j,_,_=>by simp[u0]
 | i::r,v,h,j,j0,j1=>by
  have h1:=h i (by simp);have d:=iq (v:=a i) h1.1 h1.2;rw[u0,ER a r _ (λk c=>by rw[d];exact h k (by simp[c])) j j0 (by omega),oz h1.1 h1.2 j0]
  by_cases b:j∈r
  .simp[b]
  .by_cases e:j=i
   .subst e;simp[b]
   .simp[b,e]
def esD(a:Int->fE)(ds:List Int):List (Value×D):=ds.map λi=>(.int .i64 i,.agg [.i (a i).1,.i (a i).2])
@[simp] theorem aqo(a:Int->fE):esD a [] = []:=rfl
section
variable(g:fH)(l:List Pos)(nx:List (List Int))(part:List Int)
noncomputable def KJ(v:List fE)(b:List Bool)(n:Int)(i:Int):fE:=(ot g (gt l i) v b (gt nx i) n).1
noncomputable def QG(v:List fE)(b:List Bool)(n:Int)(i:Int):Bool:=(ot g (gt l i) v b (gt nx i) n).2&&gt b i
noncomputable def rm(v:List fE)(b:List Bool)(n:Int):List Int:=part.filter (QG g l nx v b n)
noncomputable def rV(v:List fE)(b:List Bool)(n:Int):List fE:=u0 v (KJ g l nx v b n) (rm g l nx part v b n)
noncomputable def rB(v:List fE)(b:List Bool)(n:Int):List Bool:=u0 b (λ_=>false) (rm g l nx part v b n)
def vB(v:List fE)(b:List Bool):List fE×List Bool:=(u0 v (λ_=>(2,0)) (part.filter λi=>gt b i),u0 b (λ_=>false) (part.filter λi=>gt b i))
@[simp] theorem aqy(v:List fE)(b:List Bool):vB [] v b=(v,b):=rfl
end
def gk(ds:List Int)(a:List Nat):List Int:=a.map λj:Nat=>gt ds (j:Int)
@[simp] theorem aqY(ds:List Int):gk ds [] = []:=rfl
theorem ND{l:List fE}{n:Int}(a b:Int):(cl fS l).take (n.toNat*2) ++ .i a :: .i b::(cl fS l).drop (n.toNat*2+2)=cl fS (pt l n (a,b)):=by rw[show n.toNat*2+2=(n.toNat+1)*2 by omega,uf,wK];unfold pt;rw[<-yg,mi,Cd];rfl
theorem aaN{g:fH}{l:List Pos}{nx:List (List Int)}{part:List Int}{v:List fE}{b:List Bool}{n i:Int}(h:i∈rm g l nx part v b n):i∈part:=(aO.1 h).1
def M4(w:Bool)(g:fH)(l:List Pos)(nx:List (List Int)):List D:=[.fy (bif w then 3 else 4) (bif w then 0 else 1) 2 0 l.length,.fy (bif w then 4 else 3) 0 1 0 l.length,.i g.size,.sl 1 (g.next.map fI),dI g.iX,.sl 3 (g.kinds.map Kind.cells),.i g.gj,.b g.nJ,dN 4 Clause.cells g.clauses,.i g.blocked,.i g.uk,gJ l,.sl 1 (nx.map fN)]
def tp(w:Bool):D:=.ptr (bif w then 2 else 1) 0 0
def H5(w:Bool)(z:List fE)(g:fH)(l:List Pos)(nx:List (List Int))(m:List Int)(v:List fE)(b:List Bool):U:=
 bif w then [.row 43 0 g.cells,.row 56 0 [dI m],.row 132 0 (M4 w g l nx),.row 86 0 (cl fS v),.row 4 0 (cl fB b)]else [.row 43 0 g.cells,.row 132 0 (M4 w g l nx),.row 86 0 (cl fS z),.row 4 0 (cl fB b),.row 86 1 (cl fS v)]
def HF(w:Bool)(z:List fE)(g:fH)(l:List Pos)(nx:List (List Int))(m:List Int)(part:List Int)(n t:Int)(v:List fE)(b:List Bool)(st:sw):U:=
 H5 w z g l nx m v b ++ [.row 125 0 [tp w],.row 37 0 [dI part],.row 3 0 [.i n],.row 3 0 [.i t],.row 125 0 [tp w],.kD,.gV 3456 [(3,.ptr 5 0 0),(4,.ptr 6 0 0),(5,.ptr 7 0 0),(9,.ptr 8 0 0)] st]
structure wx(g:fH)(l:List Pos)(nx:List (List Int))(part:List Int)(bu:Int):Prop where
 gm:gF g
 ps:∀p∈l,gT g p
 len:l.length<=4000
 nxl:nx.length=l.length
 W6:∀i:Int,0<=i->i<l.length->(∀k∈gt nx i,0<=k/\k<l.length)/\(gt nx i).length<=4000000000
 prt:∀i∈part,0<=i/\i<l.length
 nd:part.Nodup
 pl:part.length<=4000
 bu:1<=bu/\bu<=9223372036854775807
end Go.Proofs.YtmehofoficaelaaGreatDoor
namespace Go.Proofs.YtmehofoficaelaaGreatDoor
open Go Go.AL Classical
set_option maxRecDepth 10000
set_option maxHeartbeats 4000000
@[simp] theorem aoS(t:TypeId)(l:List Int)(n:Nat):sB t (dU l) n=some (.ptr n 0 0,.new (.row t 0 [dU l])):=rfl
@[simp] theorem avU(f:gD)(l:List Int)(lo:Option X)(hi mx:X):xG f 1 (dU l) lo hi mx=(gN f lo 0).bind λa=>(sZ (ev f hi)).bind λh=>(sZ (ev f mx)).bind λm=>if 0<=a/\a<=h/\h=m/\m<=l.length then some (cB ((l.drop a.toNat).take (h.toNat-a.toNat)))else none:=by unfold dU;rw[ak2,List.length_map];simp only[MT,aaf]
theorem fY.n{T:ia}{f:FuncId}{args:List D}{dst:Option Nat}{s a:St}{K:St->Prop}(hs:s=a)(h:fY T f args dst a K .mk):fY T f args dst s K .mk:=by subst hs;exact h
theorem abX(b:List Int):Wf T 221 [dU b] [] (Is (cB b)):=by refine Yg BG ?_;simp[BG]
theorem abY:Wf T 221 [.fJ] [] (Is .fJ):=by refine Yg BG ?_;simp[BG]
theorem T6(b:List Int):Wf T 222 [dU b,.i 64] [] (Is (.fn (.func 274) [] [.fV [dU b],.fV [.i 64]])):=by refine Yg H4 ?_;simp[H4]
theorem T8(P S:List Int)(hl:P.length % 64=0)(p:P.length<=4000001000)(hS:S.length=8):Wf T 274 [.iH 5,.fV [dU P],.fV [.i 64]]
  [.row 70 0 (cl fU (zs 32)),.row 5 0 [.val (.int .u8 128)],.dead,.row 323 0 (cl fW S),.kD,.gV 9920 [(5,.ptr 3 0 0)] .ready]
  (λ_ H'=>H' = [.row 70 0 (cl fU (zs 32)),.row 5 0 [.val (.int .u8 128)],.dead,.row 323 0 (cl fW (pg P S (P.length / 64))),.kD,.gV 9920 [(5,.ptr 3 0 0)] .ready]):=by
 refine Yg Ib ?_;simp[Ib];refine fO.e ((0,S):Int×List Int) (λy=>[(0,.iH 5),(1,.fV [dU P]),(2,.fV [.i 64]),(4,.i y.1)]) (λy=>[.row 70 0 (cl fU (zs 32)),.row 5 0 [.val (.int .u8 128)],.dead,.row 323 0 (cl fW y.2),.kD,.gV 9920 [(5,.ptr 3 0 0)] .ready]) (λy=>∃n:Nat,y.1=64*n/\y.1<=P.length/\y.2=pg P S n) (λy=>(P.length+64-y.1).toNat) ?_ ?_
 .exact⟨0,by simp,by simp,by simp[Kb]⟩
 rintro⟨i,s⟩ ⟨n,gq,l,hs⟩;dsimp only at gq l hs ⊢;have a:s.length=8:=by rw[hs];exact BX P hS n
 by_cases hi:i<P.length
 .have d:s.take 8=s:=af (by omega);have j:s.drop 8 = []:=aU (by omega);have f:((P.drop i.toNat).take 64).length=64:=by rw[aJ,aR];omega
  have e:=Kc P S n;rw[<-hs,show 64*n=i.toNat by omega]at e;have o:(i+64).toNat-i.toNat=64:=by omega
  have em:min 64 ((P.length-i.toNat:Nat):Int)=64:=by omega
  obtain⟨B,g⟩:∃B,(P.drop i.toNat).take 64=B:=⟨_,rfl⟩;rw[g]at f e;have c:=abZ s B a f;have h:=J8 (s:=s) (b:=B) a;obtain⟨A,m⟩:∃A,sA s B=A:=⟨_,rfl⟩;rw[m]at c e h;simp[hi,em];refine jw em ?_;simp only[em,o,g];refine rK.r (rf:=9920) (env0:=[(5,.ptr 3 0 0)]) (Rd:=BR) (by simp) rfl rfl BR.a BR.b (oP rfl) (oP rfl) ?_;simp[BR,a,d];refine Yc (c) ?_;simp[h,a,d,j];refine fD ?_;refine LJ.e (i+64,A) ?_;exact⟨by omega,n+1,by omega,by omega,e.symm⟩
 .have k:n=P.length / 64:=by omega
  subst k;simp[hi,hs]
theorem T0(b:List Int)(V:b.length<=4000000000):Wf T 155 [dU b] [] (Is (.agg (cl fU (jV b)))):=by
 have R:=abX b;obtain⟨B,w⟩:∃B,wF (8*b.length)=B:=⟨_,rfl⟩;have Z:B.length=8:=by rw[<-w];rfl
 have U:∀i:Int,0<=i->i<8->gt B i=IntKind.u8.wrap (l4 .u64 (8*b.length) (56-8*i)):=λi i0 o=>by rw[<-w];exact J' _ i0 o
 obtain⟨p,D⟩:∃p,zc b.length=p:=⟨_,rfl⟩;have X:p=63-(b.length+8) % 64:=by rw[<-D];rfl
 have hP:pad b=b++128::zs p++B:=by rw[pad,w,D,tV];simp
 obtain⟨C,E⟩:∃C,b++128::zs p=C:=⟨_,rfl⟩;rw[E]at hP;have Cl:C.length=b.length+1+p:=by rw[<-E];simp;omega
 obtain⟨r,A⟩:∃r,jV b=r:=⟨_,rfl⟩;obtain⟨S,hS⟩:∃S,Ac=S:=⟨_,rfl⟩;have x:S.length=8:=by rw[<-hS];rfl
 have n:xC (pg (C++B) S ((C++B).length / 64))=r:=by rw[<-A,jV,hP,hS]
 rw[A];clear hP w D A;have J:S.take 8=S:=af (by omega);have s:IntKind.u64.wrap (b.length:Int)=b.length:=wrap_u64 (by omega) (by omega);have m:IntKind.u64.wrap (8*(b.length:Int))=8*b.length:=wrap_u64 (by omega) (by omega);refine Yz xT (iB 36 [2] xT.body) ?_;simp[xT,iB,jN,mw,mz,mH,lq,SL,hS];refine Yc (R) ?_;simp;refine fD ?_;refine fO.e ((0,b ++ [128]):Nat×List Int) (λy=>[(0,dU b),(2,.ptr 0 0 0),(3,.fy 2 y.1 1 0 y.2.length)]) (λy=>[.row 70 0 (cl fU (zs 32)),.row 5 0 [.val (.int .u8 128)],.row 5 y.1 (cl fU y.2)]) (λy=>∃k:Nat,k<=p/\y.2=b++128::zs k) (λy=>b.length+1+p-y.2.length) ?_ ?_
 .exact⟨0,by omega,by simp⟩
 rintro⟨g,q⟩ ⟨k,k0,t⟩;dsimp only at k0 t ⊢;have CG:q.length=b.length+1+k:=by rw[t];simp;omega
 have c:fX ((q.length:Int)+8) 64=((q.length:Int)+8) % 64:=jd (by omega)
 by_cases N:k<p
 .have h1:¬((q.length:Int)+8) % 64=0:=by omega
  have M:q ++ [0]=b++128::zs (k+1):=by rw[t,<-Nh];simp
  simp[c,h1];refine jw c ?_;refine LJ.e (g+1,q ++ [0]) ?_;exact⟨by simp;omega,k+1,N,M⟩
 .have I:k=p:=by omega
  subst I;have h1:((q.length:Int)+8) % 64=0:=by omega
  rw[E]at t;subst t;simp[c,h1,s,m];refine ku s m ?_;refine fO.st (by simp;rfl) ?_;refine fO.e ((0,g,q):Int×Nat×List Int) (λy=>[(0,dU b),(2,.ptr 0 0 0),(3,.fy 2 y.2.1 1 0 y.2.2.length),(4,.i (56-8*y.1))]) (λy=>[.row 70 0 (cl fU (zs 32)),.row 5 0 [.val (.int .u8 128)],.row 5 y.2.1 (cl fU y.2.2)]) (λy=>(0<=y.1/\y.1<=8)/\y.2.2=q++B.take y.1.toNat) (λy=>(8-y.1).toNat) ?_ ?_
  .simp
  rintro⟨i,Q,u⟩ ⟨⟨i0,o⟩,a⟩;dsimp only at i0 o a ⊢;have d:u.length=q.length+i.toNat:=by rw[a];simp;omega
  by_cases hi:i<8
  .have e:=M6 (l:=B) i0 (by omega);rw[U i i0 hi]at e;have K:0<=56-8*i:=by omega
   simp[K,m,s];(with_reducible repeat' first|refine Xk ?_<;>try simp[m,s]|refine Xs ?_ ?_<;>intro h<;>(try intro W)<;>(try simp[h,m,s])<;>try omega|refine Xg ?_|omega);refine LJ.i (i+1,Q+1,u ++ [IntKind.u8.wrap (l4 .u64 (8*b.length) (56-8*i))]) (by first|rfl|simp[show 56-8*(i+1)=56-8*i-8 by omega]) (by first|rfl|simp[show 56-8*(i+1)=56-8*i-8 by omega]) rfl rfl ?_;exact⟨by omega,ic,by rw[e,a,aI]⟩
  .have z:i=8:=by omega
   subst z;obtain⟨P,hP⟩:∃P,q++B=P:=⟨_,rfl⟩;have Lo:P.length=q.length+8:=by rw[<-hP];simp;omega
   have e:u=P:=by rw[a,af (by omega),hP]
   rw[hP]at n;clear d a hP;subst e;simp;refine fD ?_;refine fY.n (by simp[x,J];rfl) ?_;rw[<-wM];refine Yc (T6 u) ?_;simp;refine x4.r (f:=274) (first:=[]) (cap:=[.fV [dU u],.fV [.i 64]]) rfl rfl rfl rfl ?_;simp;refine Wf.mono (T8 u S (by omega) (by omega) x) ?_;rintro _ H' rfl;have L:=BX u x (u.length / 64);obtain⟨v,G⟩:∃v,pg u S (u.length / 64)=v:=⟨_,rfl⟩;rw[G]at n L ⊢;clear G;have Y:r.length=32:=by rw[<-n];exact C' v
   have F:∀j:Int,0<=j->j<32->gt r j=IntKind.u8.wrap (l4 .u32 (gt v (j / 4)) (24-8*(j % 4))):=λj j0 j1=>by rw[<-n];exact Mq v j0 j1
   clear n;refine⟨[(5,.ptr 3 0 0)],.ready,by simp,?_⟩;simp;refine fO.st (by simp;rfl) ?_;refine fO.kg [4] false ((0,zs 32):Int×List Int) (λy=>[(2,.ptr 0 0 0),(5,.ptr 3 0 0),(7,.ptr 5 0 0),(42,.i y.1)]) (λy=>[.row 70 0 (cl fU (zs 32)),.row 5 0 [.val (.int .u8 128)],.dead,.row 323 0 (cl fW v),.kD,.row 70 0 (cl fU y.2)]) (λy=>(0<=y.1/\y.1<=32)/\y.2.length=32/\∀j:Int,0<=j->j<y.1->gt y.2 j=gt r j) (λy=>(32-y.1).toNat) ?_ (by simp) (by first|rfl|(simp[iQ];done)|(simp[*];done)) rfl rfl rfl ?_
   .exact⟨by simp,by simp,λj j0 j1=>absurd j1 (by dsimp only;omega)⟩
   rintro⟨i,u⟩ ⟨⟨i0,o⟩,d,a⟩;dsimp only at i0 o d a ⊢
   by_cases hi:i<32
   .have c:tN i 4=i / 4:=tO i0 (by omega) (by omega);have H:fX i 4=i % 4:=jd i0;simp[hi,c,H];refine ku c H ?_;refine LJ.i (i+1,pt u i (gt r i)) (by first|rfl|simp[F i i0 hi]) (by first|rfl|simp[F i i0 hi]) rfl rfl ?_;refine⟨by omega,ic,by rw[iq i0 (by omega)];exact d,λj j0 j1=>?_⟩;dsimp only at j1 ⊢;rw[oz i0 (by omega) j0]
    by_cases e:j=i
    .rw[if_pos e,e]
    .rw[if_neg e];exact a j j0 (by omega)
   .have z:i=32:=by omega
    subst z
    have e:u=r:=by refine bQ (by omega) λj j0 j1=>?_;have h:=a j (by omega) (by omega);rw[jc (by omega) (by omega),jc (by omega) (by omega)]at h;exact h
    subst e;have O:u.take 32=u:=af (by omega);simp[d,O]
