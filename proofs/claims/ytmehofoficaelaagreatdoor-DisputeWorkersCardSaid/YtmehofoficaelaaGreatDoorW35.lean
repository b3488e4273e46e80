/- Part 35 of DisputeWorkers. -/
import Derived.Test.YtmehofoficaelaaGreatDoorW25
set_option linter.all false
namespace Go.Proofs.YtmehofoficaelaaGreatDoor
open Go Go.AL
def Ap:List Int:=[1116352408,1899447441,3049323471,3921009573,961987163,1508970993,2453635748,2870763221,3624381080,310598401,607225278,1426881987,1925078388,2162078206,2614888103,3248222580,3835390401,4022224774,264347078,604807628,770255983,1249150122,1555081692,1996064986,2554220882,2821834349,2952996808,3210313671,3336571891,3584528711,113926993,338241895,666307205,773529912,1294757372,1396182291,1695183700,1986661051,2177026350,2456956037,2730485921,2820302411,3259730800,3345764771,3516065817,3600352804,4094571909,275423344,430227734,506948616,659060556,883997877,958139571,1322822218,1537002063,1747873779,1955562222,2024104815,2227730452,2361852424,2428436474,2756734187,3204031479,3329325298]
def Br:List Int:=[1779033703,3144134277,1013904242,2773480762,1359893119,2600822924,528734635,1541459225]
def tn(n x:Int):Int:=bits .or .u32 (my .u32 x n) (yS .u32 x (32-n))
def xr(a b:Int):Int:=bits .xor .u32 a b
def ad(a b:Int):Int:=IntKind.u32.wrap (a+b)
def mx(x a b c:Int):Int:=xr (xr (tn a x) (tn b x)) (tn c x)
def wp(w:List Int)(n:Nat)(b:Int):List Int:=pt w (n / 4:Nat) (bits .or .u32 (yS .u32 (gt w (n / 4:Nat)) 8) b)
def Ps(b:List Int):Nat->List Int
 | 0=>List.replicate 64 0
 | n+1=>wp (Ps b n) n (IntKind.u32.wrap (gt b n))
@[irreducible] def w1(b:List Int)(n:Nat):List Int:=Ps b n
def wn(w:List Int)(t:Nat):List Int:=pt w t (ad (ad (ad (gt w (t-16:Nat)) (gt w (t-7:Nat))) (xr (xr (tn 7 (gt w (t-15:Nat))) (tn 18 (gt w (t-15:Nat)))) (my .u32 (gt w (t-15:Nat)) 3)))
 (xr (xr (tn 17 (gt w (t-2:Nat))) (tn 19 (gt w (t-2:Nat)))) (my .u32 (gt w (t-2:Nat)) 10)))
def Pt(w:List Int):Nat->List Int
 | 0=>w
 | m+1=>wn (Pt w m) (m+16)
@[irreducible] def w2(w:List Int)(n:Nat):List Int:=Pt w n
@[irreducible] def u7(b:List Int):List Int:=w2 (w1 b 64) 48
def AB(c:List Int)(k w:Int):List Int:=match c with
 | [c0,c1,c2,c3,c4,c5,c6,c7]=>
  let x:=ad (ad (ad (ad c7 (mx c4 6 11 25)) (xr (bits .and .u32 c4 c5) (bits .and .u32 (bits .xor .u32 IntKind.u32.max c4) c6))) k) w
  let y:=ad (mx c0 2 13 22) (xr (xr (bits .and .u32 c0 c1) (bits .and .u32 c0 c2)) (bits .and .u32 c1 c2))
  [ad x y,c0,c1,c2,ad c3 x,c4,c5,c6]
 | _=>[]
def ON(w c:List Int):Nat->List Int
 | 0=>c
 | n+1=>AB (ON w c n) (gt Ap n) (gt w n)
@[irreducible] def sh(w c:List Int)(n:Nat):List Int:=ON w c n
@[irreducible] def tA(s b:List Int):List Int:=List.zipWith ad (sh (u7 b) s 64) s
def Mv(b:List Int)(s:List Int):Nat->List Int
 | 0=>s
 | n+1=>tA (Mv b s n) ((b.drop (64*n)).take 64)
@[irreducible] def qc(b s:List Int)(n:Nat):List Int:=Mv b s n
def Az(n:Nat):Nat:=63-(n+8) % 64
def xR(n:Int):List Int:=[56,48,40,32,24,16,8,0].map λs:Int=>IntKind.u8.wrap (my .u64 n s)
@[irreducible] def pad(b:List Int):List Int:=b++128::(List.replicate (Az b.length) 0++xR (8*b.length))
@[irreducible] def yP(s:List Int):List Int:=(upto 32).map λi=>IntKind.u8.wrap (my .u32 (gt s (i / 4)) (24-8*(i % 4)))
@[irreducible] def kz(b:List Int):List Int:=yP (qc (pad b) Br ((pad b).length / 64))
def sY(n:Nat):Nat:=2 ^ (Nat.log2 (n-1))
def ES:Nat->List (List Int)->List Int
 | 0,_=>[]
 | _+1,[]=>kz []
 | _+1,[x]=>kz (0::x)
 | k+1,l=>kz (1::(ES k (l.take (sY l.length))++ES k (l.drop (sY l.length))))
@[irreducible] def oL(k:Nat)(l:List (List Int)):List Int:=ES k l
def rM(r:fZ):List Int:=IntKind.u8.wrap r.1 :: [24,16,8,0].map λs:Int=>IntKind.u8.wrap (my .i64 r.2 s)
end Go.Proofs.YtmehofoficaelaaGreatDoor
namespace Go.AL
open Go
@[irreducible] def fW(n:Int):List D:=[.val (.int .u32 n)]
@[simp] theorem Wv(n:Int):fW n = [.val (.int .u32 n)]:=by unfold fW;rfl
instance:Fl fW 1:=⟨λ_=>by simp,λ_=>by simp[gF]⟩
@[simp] theorem awy{l:List Int}{n:Int}{P:D->Prop}:oA (cl fW l)[n.toNat]? P .mk=(n.toNat<l.length/\P (.val (.int .u32 (gt l n)))):=by have:=MI (f:=fW) (l:=l) (n:=n) (j:=0) (by decide) (P:=P);simpa using this
theorem Dt(l:List Int):(l.map λn=>D.val (.int .u32 n))=cl fW l:=by
 rw[oC]
 induction l with
 | nil=>rfl
 | cons a r b=>simp[b]
theorem zr(l:List Int):(l.map λn=>D.val (.int .u8 n))=cl fU l:=by
 rw[oC]
 induction l with
 | nil=>rfl
 | cons a r b=>simp[b]
@[irreducible] def zs(n:Nat):List Int:=List.replicate n 0
theorem vb(n:Nat):zs n=List.replicate n 0:=by unfold zs;rfl
@[simp] theorem aAb(n:Nat):(zs n).length=n:=by rw[vb,eE]
@[simp] theorem aAa(n:Nat):(zs n).drop n = []:=bV (by simp)
theorem gj.st{T:iB}{live:List Nat}{a:IR}{s b:St}{K:iY}(hs:s=b)(h:gj T live a b K .mk):gj T live a s K .mk:=by subst hs;exact h
@[simp] theorem ara(n:Nat):Zw n=cl fW (zs n):=by rw[<-Dt,vb,dS];rfl
@[simp] theorem aq9(n:Nat):Zb n=cl fU (zs n):=by rw[<-zr,vb,dS];rfl
@[simp] theorem asQ(a b:List Int)(n:Int):cl fW a ++ .val (.int .u32 n)::cl fW b=cl fW (a++n::b):=by rw[<-A3,nM,Wv];rfl
@[simp] theorem acx(l:List Int)(n:Int):cl fU l ++ [.val (.int .u8 n)]=cl fU (l ++ [n]):=by rw[<-q',zD]
@[simp] theorem ahO{l:List Int}{n:Int}{P:D->Prop}:oA (cl fU l)[n.toNat]? P .mk=(n.toNat<l.length/\P (.val (.int .u8 (gt l n)))):=by have:=MI (f:=fU) (l:=l) (n:=n) (j:=0) (by decide) (P:=P);simpa using this
@[simp] theorem arq(a b:Int):jU .add .u32 a b=some (.val (.int .u32 (Proofs.YtmehofoficaelaaGreatDoor.ad a b))):=rfl
@[simp high] theorem avs(n:Nat)(t:TypeId)(l:List Int):uZ n 0 (some (t,cl fW l))=if n<=l.length then some (.agg (cl fW (l.take n)))else none:=by simp_all
@[simp high] theorem avr(n:Nat)(t:TypeId)(l:List Int):uZ n 0 (some (t,cl fU l))=if n<=l.length then some (.agg (cl fU (l.take n)))else none:=by simp_all
@[simp] theorem ar9(t:TypeId)(m:Int)(n:Nat):rK t (.val (.int .u32 m)) n=some (.ptr n 0 0,.new (.row t 0 [.val (.int .u32 m)])):=rfl
@[simp] theorem atq(sz v g off len:Nat)(y:D)(H:U):zy sz (.fY v g sz off len) y H=(kS sz H y).bind λq=>(rowAt H v g).bind λr=>if (off+len)*sz<=r.2.length then some (.i (min q.2 len:Nat),.obj v (.row r.1 g (r.2.take (off*sz)++q.1.take (min q.2 len*sz)++r.2.drop (off*sz+min q.2 len*sz))))else none:=by
 simp only[zy]
 cases kS sz H y with
 | none=>rfl
 | some q=>
  dsimp only
  cases rowAt H v g with
  | none=>rfl
  | some p=>simp
def cB(l:List Int):D:=.l4 (l.map λn=>Value.int .u8 n)
@[simp] theorem acH(l:List Int):closed (cB l)=true:=rfl
theorem abg:∀l:List Int,Fa (l.map fU)=some (l.map λn=>Value.int .u8 n)
 | []=>rfl
 | a::r=>by rw[List.map_cons,zD];unfold Fa;rw[abg r];rfl
@[simp] theorem acB(l:List Int):clip 1 (l.map fU)=cB l:=by unfold clip;rw[abg];rfl
@[simp] theorem awE{l:List Int}{n:Int}{k:IntKind}{P:D->Prop}:oA (mH 1 (cB l) (.val (.int k n))) P .mk=((0<=n/\n<l.length)/\P (.gu [.val (.int .u8 (gt l n))])):=by
 unfold cB;rw[agz,Cl,Aw,List.length_map];refine propext ⟨λ⟨h,a⟩=>⟨h,?_⟩,λ⟨h,a⟩=>⟨h,?_⟩⟩
 .rw[List.getD_eq_getElem?_getD,au,List.getElem?_eq_getElem (by omega),aH,aZ]at a;rw[jg h.1 h.2];exact a
 .rw[List.getD_eq_getElem?_getD,au,List.getElem?_eq_getElem (by omega),aH,aZ];rw[jg h.1 h.2]at a;exact a
@[simp] theorem azv(n:Nat)(l:List Int):jv n (cB l) = []:=rfl
@[simp] theorem asn(l:List Int):cellsOf (cB l)=some [cB l]:=rfl
@[simp] theorem axj(l:List Int):one (cB l)=true:=rfl
@[simp] theorem azZ(l:List Int):nJ (cB l) = []:=rfl
@[simp] theorem arf(t bytes:Nat)(l:List Int)(y:D)(H:U)(a:Nat):sW t 1 bytes (cB l) y H a=(kS 1 H y).bind λq=>if q.2≠0/\(l.length+q.2)*bytes<=140737488355328/\l.length+q.2<=9223372036854775807 then some (.fY a 0 1 0 (l.length+q.2),.new (.row t 0 (cl fU l++q.1)))else none:=by unfold cB;rw[abR,List.length_map,cz,<-zr];rfl
theorem agW:DS=cl fW Proofs.YtmehofoficaelaaGreatDoor.Ap:=Dt _
theorem UZ:DJ=cl fW Proofs.YtmehofoficaelaaGreatDoor.Br:=Dt _
end Go.AL
namespace Go.Proofs.YtmehofoficaelaaGreatDoor
open Go Go.AL Classical
set_option maxRecDepth 10000
set_option maxHeartbeats 4000000
theorem anx:∀m:Nat,m<31->bits .and .u64 (IntKind.u64.wrap (-((m:Int)+1))) 31=32-((m:Int)+1)/\IntKind.u64.wrap (32-(32-((m:Int)+1)))=(m:Int)+1:=by decide
theorem amK(a b:Int):bits .or .u32 a b=bits .or .u32 b a:=by simp only[bits,BitVec.or_comm]
theorem Gs(x n:Int)(b:1<=n/\n<=31):Wf T 292 [.val (.int .u32 x),.i (-n)] [] (Is (.val (.int .u32 (tn n x)))):=by obtain⟨h1,a⟩:=anx (n-1).toNat (by omega);rw[show(((n-1).toNat:Nat):Int)+1=n by omega]at h1 a;have e:bits .or .u32 (yS .u32 x (32-n)) (my .u32 x n)=tn n x:=amK _ _;refine Yg Kh ?_;simp[Kh,h1,a,jU,e];exact mK
theorem Qm(x n:Int)(a:1<=n/\n<=31):Wf T 293 [.i n,.gu [.val (.int .u32 x)]] [] (Is (.val (.int .u32 (tn n x)))):=by refine Yg Ki ?_;simp[Ki];refine gd ?_;refine Yc (Gs x n a) ?_;simp
theorem Wp(x a b c:Int)(f:1<=a/\a<=31)(e:1<=b/\b<=31)(d:1<=c/\c<=31):Wf T 276 [.val (.int .u32 x),.i a,.i b,.i c] [] (Is (.val (.int .u32 (mx x a b c)))):=by refine Yg Ke ?_;simp[Ke];refine Yr (Qm x a f) ?_;simp;refine Yr (Qm x b e) ?_;simp;refine Yr (Qm x c d) ?_;simp;rfl
theorem wU(x n:Int)(a:1<=n/\n<=31):Wf T 258 [.i n,.val (.int .u32 x)] [] (Is (.val (.int .u32 (tn n x)))):=by refine Yg Ka ?_;simp[Ka];refine gd ?_;rfl
@[simp] theorem azX(b:List Int):w1 b 0=zs 64:=by rw[w1,Ps,vb]
theorem abl(b:List Int)(n:Nat):w1 b (n+1)=wp (w1 b n) n (IntKind.u32.wrap (gt b n)):=by rw[w1,w1,Ps]
@[simp] theorem aoH(w:List Int):w2 w 0=w:=by rw[w2,Pt]
theorem abn(w:List Int)(n:Nat):w2 w (n+1)=wn (w2 w n) (n+16):=by rw[w2,w2,Pt]
theorem Fb(b:List Int):∀n:Nat,n<=64->(w1 b n).length=64
 | 0,_=>by simp
 | n+1,h=>by rw[abl,wp,iP (by omega) (by rw[Fb b n (by omega)];omega),Fb b n (by omega)]
theorem Je{w:List Int}(h:w.length=64):∀m:Nat,m<=48->(w2 w m).length=64
 | 0,_=>by rw[aoH];exact h
 | m+1,hm=>by rw[abn,wn,iP (by omega) (by rw[Je h m (by omega)];omega),Je h m (by omega)]
theorem abm{b:List Int}{i:Int}(i0:0<=i):w1 b (i+1).toNat=pt (w1 b i.toNat) (i / 4) (bits .or .u32 (yS .u32 (gt (w1 b i.toNat) (i / 4)) 8) (IntKind.u32.wrap (gt b i))):=by rw[show(i+1).toNat=i.toNat+1 by omega,abl,wp,show((i.toNat / 4:Nat):Int)=i / 4 by omega,show((i.toNat:Nat):Int)=i by omega]
theorem abo{w:List Int}{i:Int}(i0:16<=i):w2 w (i+1-16).toNat=pt (w2 w (i-16).toNat) i (ad (ad (ad (gt (w2 w (i-16).toNat) (i-16)) (gt (w2 w (i-16).toNat) (i-7)))
  (xr (xr (tn 7 (gt (w2 w (i-16).toNat) (i-15))) (tn 18 (gt (w2 w (i-16).toNat) (i-15)))) (my .u32 (gt (w2 w (i-16).toNat) (i-15)) 3)))
  (xr (xr (tn 17 (gt (w2 w (i-16).toNat) (i-2))) (tn 19 (gt (w2 w (i-16).toNat) (i-2)))) (my .u32 (gt (w2 w (i-16).toNat) (i-2)) 10))):=by
 rw[show(i+1-16).toNat=(i-16).toNat+1 by omega,abn,wn]
 rw[show(((i-16).toNat+16:Nat):Int)=i by omega,show(((i-16).toNat+16-16:Nat):Int)=i-16 by omega,show(((i-16).toNat+16-7:Nat):Int)=i-7 by omega,
  show(((i-16).toNat+16-15:Nat):Int)=i-15 by omega,show(((i-16).toNat+16-2:Nat):Int)=i-2 by omega]
theorem TP(b:List Int):u7 b=w2 (w1 b 64) 48:=by rw[u7]
theorem aaX(b:List Int):(u7 b).length=64:=by rw[TP];exact Je (Fb b 64 (Nat.le_refl _)) 48 (Nat.le_refl _)
theorem aeF(b:List Int)(l:b.length=64):Wf T 275 [cB b] [] (Is (.agg (cl fW (u7 b)))):=by
 obtain⟨W,g⟩:∃W,u7 b=W:=⟨_,rfl⟩;rw[g];rw[TP]at g;refine Yg Kd ?_;simp[Kd];refine gj.e ((0,zs 64):Int×List Int) (λy=>[(0,cB b),(2,.ptr 0 0 0),(3,.ptr 1 0 0),(10,.i y.1)]) (λy=>[.row 375 0 (cl fW (zs 64)),.row 375 0 (cl fW y.2)]) (λy=>(0<=y.1/\y.1<=64)/\y.2=w1 b y.1.toNat) (λy=>(64-y.1).toNat) ?_ ?_
 .simp
 rintro⟨i,w⟩ ⟨⟨i0,f⟩,c⟩;dsimp only at i0 f c ⊢;have hl:w.length=64:=by rw[c];exact Fb b i.toNat (by omega)
 by_cases hi:i<64
 .have h:uq i 4=i / 4:=uu i0 (by omega) (by omega);have hs:=abm (b:=b) i0;rw[<-c]at hs;simp[hi,h];refine jP h ?_;refine LJ.e (i+1,pt w (i / 4) (bits .or .u32 (yS .u32 (gt w (i / 4)) 8) (IntKind.u32.wrap (gt b i)))) ?_;exact⟨by omega,iy,hs.symm⟩
 .have d:i=64:=by omega
  subst d;simp;refine gj.st (by simp;rfl) ?_;refine gj.e ((16,w):Int×List Int) (λy=>[(2,.ptr 0 0 0),(3,.ptr 1 0 0),(5,.i y.1)]) (λy=>[.row 375 0 (cl fW (zs 64)),.row 375 0 (cl fW y.2)]) (λy=>(16<=y.1/\y.1<=64)/\y.2=w2 w (y.1-16).toNat) (λy=>(64-y.1).toNat) ?_ ?_
  .simp
  rintro⟨i,x⟩ ⟨⟨i0,f⟩,a⟩;dsimp only at i0 f a ⊢;have j:x.length=64:=by rw[a];exact Je hl (i-16).toNat (by omega)
  by_cases hi:i<64
  .have hs:=abo (w:=w) i0;rw[<-a]at hs;simp[hi];refine gd ?_;refine Yc (Gs _ 7 (by omega)) ?_;simp;refine Yc (Gs _ 18 (by omega)) ?_;simp;refine gd ?_;refine Yc (Gs _ 17 (by omega)) ?_;simp;refine Yc (Gs _ 19 (by omega)) ?_;simp;refine gd ?_;refine LJ.i (i+1,w2 w (i+1-16).toNat) (by first|rfl|simp[hs,xr]) (by first|rfl|simp[hs,xr]) rfl rfl ?_;exact⟨by omega,iy,rfl⟩
  .have d:i=64:=by omega
   subst d;have e:x=W:=by rw[a,<-g,c,show((64:Int)-16).toNat=48 from rfl,show(64:Int).toNat=64 from rfl]
   subst e;have k:x.take 64=x:=af (by omega);simp[j,k]
theorem aeC(b:List Int)(o:b.length=64):Wf T 256 [dU b] [] (Is (.agg (cl fW (u7 b)))):=by
 obtain⟨W,h⟩:∃W,u7 b=W:=⟨_,rfl⟩;rw[h];rw[TP]at h;refine Yg J' ?_;simp[J'];refine gj.e ((0,zs 64):Int×List Int) (λy=>[(0,dU b),(2,.ptr 0 0 0),(3,.ptr 1 0 0),(4,.i y.1)]) (λy=>[.row 375 0 (cl fW (zs 64)),.row 375 0 (cl fW y.2)]) (λy=>(0<=y.1/\y.1<=16)/\y.2=w1 b (4*y.1).toNat) (λy=>(16-y.1).toNat) ?_ ?_
 .simp
 rintro⟨i,w⟩ ⟨⟨i0,g⟩,c⟩;dsimp only at i0 g c ⊢
 by_cases hi:i<16
 .simp[hi];refine gj.e ((0,w):Int×List Int) (λy=>[(0,dU b),(2,.ptr 0 0 0),(3,.ptr 1 0 0),(4,.i i),(5,.i y.1)]) (λy=>[.row 375 0 (cl fW (zs 64)),.row 375 0 (cl fW y.2)]) (λy=>(0<=y.1/\y.1<=4)/\y.2=w1 b (4*i+y.1).toNat) (λy=>(4-y.1).toNat) ?_ ?_
  .simp[c]
  rintro⟨k,u⟩ ⟨⟨k0,k1⟩,d⟩;dsimp only at k0 k1 d ⊢;have hl:u.length=64:=by rw[d];exact Fb b (4*i+k).toNat (by omega)
  by_cases m:k<4
  .have e:=abm (b:=b) (i:=4*i+k) (by omega);rw[<-d,show(4*i+k) / 4=i by omega,show 4*i+k+1=4*i+(k+1)by omega]at e;simp[m];refine gd ?_;refine LJ.i (k+1,w1 b (4*i+(k+1)).toNat) (by first|rfl|simp[e]) (by first|rfl|simp[e]) rfl rfl ?_;exact⟨by omega,iy,rfl⟩
  .have j:k=4:=by omega
   subst j;simp;refine gd ?_;refine LJ.e (i+1,u) ?_;exact⟨by omega,iy,by rw[d,show 4*(i+1)=4*i+4 by omega]⟩
 .have f:i=16:=by omega
  subst f;have hl:w.length=64:=by rw[c];exact Fb b _ (by omega)
  simp;refine gj.st (by simp;rfl) ?_;refine gj.e ((16,w):Int×List Int) (λy=>[(2,.ptr 0 0 0),(3,.ptr 1 0 0),(6,.i y.1)]) (λy=>[.row 375 0 (cl fW (zs 64)),.row 375 0 (cl fW y.2)]) (λy=>(16<=y.1/\y.1<=64)/\y.2=w2 w (y.1-16).toNat) (λy=>(64-y.1).toNat) ?_ ?_
  .simp
  rintro⟨i,x⟩ ⟨⟨i0,g⟩,a⟩;dsimp only at i0 g a ⊢;have l:x.length=64:=by rw[a];exact Je hl (i-16).toNat (by omega)
  by_cases hi:i<64
  .have hs:=abo (w:=w) i0;rw[<-a]at hs;simp[hi];refine gd ?_;refine Yt (wU _ 7 (by omega)) ?_;simp;refine Yt (wU _ 18 (by omega)) ?_;simp;refine Yt (wU _ 17 (by omega)) ?_;simp;refine Yt (wU _ 19 (by omega)) ?_;simp;refine gd ?_;refine LJ.i (i+1,w2 w (i+1-16).toNat) (by first|rfl|simp[hs,xr]) (by first|rfl|simp[hs,xr]) rfl rfl ?_;exact⟨by omega,iy,rfl⟩
  .have f:i=64:=by omega
   subst f;have e:x=W:=by rw[a,<-h,c,show((64:Int)-16).toNat=48 from rfl,show(4*16:Int).toNat=64 from rfl]
   subst e;have n:x.take 64=x:=af (by omega);simp[l,n]
theorem len8{l:List Int}(h:l.length=8):∃a b c d e f g i,l = [a,b,c,d,e,f,g,i]:=by
 match l,h with
 | [a,b,c,d,e,f,g,i],_=>exact⟨a,b,c,d,e,f,g,i,rfl⟩
theorem Ds(a b c d e f g i:Int):cl fW [a,b,c,d,e,f,g,i] = [.val (.int .u32 a),.val (.int .u32 b),.val (.int .u32 c),.val (.int .u32 d),.val (.int .u32 e),.val (.int .u32 f),.val (.int .u32 g),.val (.int .u32 i)]:=(Dt _).symm
theorem am7{c:List Int}(h:c.length=8)(k w:Int):(AB c k w).length=8:=by obtain⟨_,_,_,_,_,_,_,_,rfl⟩:=len8 h;rfl
theorem Ti(w c:List Int):sh w c 0=c:=by rw[sh,ON]
theorem aam(w c:List Int)(n:Nat):sh w c (n+1)=AB (sh w c n) (gt Ap n) (gt w n):=by rw[sh,sh,ON]
theorem EM(w:List Int){c:List Int}(h:c.length=8):∀n,(sh w c n).length=8
 | 0=>by rw[Ti];exact h
 | n+1=>by rw[aam];exact am7 (EM w h n) _ _
theorem aan{w c:List Int}{i:Int}(i0:0<=i):sh w c (i+1).toNat=AB (sh w c i.toNat) (gt Ap i) (gt w i):=by rw[show(i+1).toNat=i.toNat+1 by omega,aam,show((i.toNat:Nat):Int)=i by omega]
@[simp] theorem axW(H:U)(b:List Int):iC H 40 (cB b) = []:=by unfold iC;rw[if_pos (acH b)]
@[simp] theorem azU(n:Int):E9 .xor (.val (.int .u32 n))=some (.val (.int .u32 (bits .xor .u32 IntKind.u32.max n))):=rfl
@[simp] theorem awz{l:List Int}{n:Int}{P:D->Prop}:oA (cl fW (l.drop n.toNat))[0]? P .mk=(n.toNat<l.length/\P (.val (.int .u32 (gt l n)))):=by
 by_cases h:n.toNat<l.length
 .rw[bK h,nM,Wv];have:gt l n=l[n.toNat]:=by unfold gt;rw[List.getD_eq_getElem?_getD,List.getElem?_eq_getElem h];rfl
  rw[this];simp[h]
 .rw[bV (by omega)];simp[h]
theorem YL:Ap.length=64:=rfl
def ZW(c s:List Int)(i:Int)(u:List Int):Prop:=u.length=8/\∀j:Int,0<=j->gt u j=if j<i then ad (gt c j) (gt s j)else gt c j
theorem ZW.z{c s:List Int}(h:c.length=8):ZW c s 0 c:=⟨h,λj j0=>by rw[if_neg (by omega)]⟩
theorem ZW.n{c s u:List Int}{i:Int}(h:ZW c s i u)(i0:0<=i)(b:i<8):ZW c s (i+1) (pt u i (ad (gt u i) (gt s i))):=by
 have h1:=h.1;refine⟨by rw[iP i0 (by omega)];exact h1,λj j0=>?_⟩;rw[pR i0 (by omega) j0];have a:=h.2 j j0
 by_cases e:j=i
 .subst e;rw[if_pos rfl,if_pos (by omega),a,if_neg (by omega)]
 .rw[if_neg e,a]
  by_cases q:j<i
  .rw[if_pos q,if_pos (by omega)]
  .rw[if_neg q,if_neg (by omega)]
theorem ZW.e{c s u:List Int}(h:ZW c s 8 u)(hs:s.length=8)(b:c.length=8):u=List.zipWith ad c s:=by have h1:=h.1;refine br (by rw[List.length_zipWith];omega) λj j0 j1=>?_;have a:=h.2 j (by omega);rw[if_pos (by omega),jg (by omega) (by omega),jg (by omega) (by omega),jg (by omega) (by omega)]at a;rw[List.getElem_zipWith];exact a
theorem aex(s b:List Int)(hs:s.length=8)(v:b.length=64):Wf T 223 [.agg (cl fW s),cB b] [] (Is (.agg (cl fW (tA s b)))):=by
 have c:=aeF b v;have l:=aaX b;obtain⟨r,j⟩:∃r,tA s b=r:=⟨_,rfl⟩;have f:List.zipWith ad (sh (u7 b) s 64) s=r:=by rw[<-j,tA]
 rw[j];obtain⟨w,m⟩:∃w,u7 b=w:=⟨_,rfl⟩;rw[m]at c l f;clear m j;obtain⟨K,k⟩:∃K,Ap=K:=⟨_,rfl⟩;have B:K.length=64:=by rw[<-k];exact YL
 have o:s.take 8=s:=af (by omega);refine Yg J6 ?_;simp[J6,agW,k];refine Yt (c) ?_;simp[o,hs,l];refine gj.e ((0,s):Int×List Int) (λy=>[(2,.ptr 0 0 0),(4,.ptr 1 0 0),(5,.ptr 2 0 0),(6,.ptr 3 0 0),(14,.i y.1)]) (λy=>[.row 323 0 (cl fW s),.row 323 0 (cl fW (zs 8)),.row 375 0 (cl fW w),.row 323 0 (cl fW y.2)]) (λy=>(0<=y.1/\y.1<=64)/\y.2=sh w s y.1.toNat) (λy=>(64-y.1).toNat) ?_ ?_
 .simp[Ti]
 rintro⟨i,c⟩ ⟨⟨i0,h⟩,a⟩;dsimp only at i0 h a ⊢
 by_cases hi:i<64
 .have e:=aan (w:=w) (c:=s) i0;rw[<-a,k]at e;obtain⟨A,G,c2,F,z,E,D,C,x⟩:=len8 (show c.length=8 by rw[a];exact EM w hs _);subst x;rw[Ds];simp[hi];refine Yt (Wp z 6 11 25 (by omega) (by omega) (by omega)) ?_;simp;refine gd ?_;refine Yt (Wp A 2 13 22 (by omega) (by omega) (by omega)) ?_;simp;refine gd ?_;refine LJ.i (i+1,sh w s (i+1).toNat) (by first|rfl|simp[e,AB,Ds,xr]) (by first|rfl|simp[e,AB,Ds,xr]) rfl rfl ?_;exact⟨by omega,iy,rfl⟩
 .have g:i=64:=by omega
  subst g;have n:c.length=8:=by rw[a];exact EM w hs _
  have q:List.zipWith ad c s=r:=by rw[a];exact f
  clear a f;simp;refine gj.st (by simp;rfl) ?_;refine gj.e ((0,c):Int×List Int) (λy=>[(2,.ptr 0 0 0),(4,.ptr 1 0 0),(6,.ptr 3 0 0),(78,.i y.1)]) (λy=>[.row 323 0 (cl fW s),.row 323 0 (cl fW (zs 8)),.row 375 0 (cl fW w),.row 323 0 (cl fW y.2)]) (λy=>(0<=y.1/\y.1<=8)/\ZW c s y.1 y.2) (λy=>(8-y.1).toNat) ?_ ?_
  .exact⟨by simp,ZW.z n⟩
  rintro⟨i,u⟩ ⟨⟨i0,h⟩,d⟩;dsimp only at i0 h d ⊢;have p:=d.1
  by_cases hi:i<8
  .simp[hi];refine gd ?_;refine LJ.e (i+1,pt u i (ad (gt u i) (gt s i))) ?_;exact⟨by omega,iy,d.n i0 hi⟩
  .have g:i=8:=by omega
   subst g;have e:u=r:=by rw[<-q];exact d.e hs n
   subst e;have t:u.take 8=u:=af (by omega);simp[p,t]
theorem aeD:Wf T 257 [] [] (Is (.agg (cl fW Ap))):=by rw[<-Dt];exact o5 (k:=20) (by kernel_rfl)
theorem Wh:Wf T 208 [] [] (Is (.agg (cl fW Br))):=by rw[<-Dt];exact o5 (k:=20) (by kernel_rfl)
theorem Wi(s b:List Int)(hs:s.length=8)(A:b.length=64):Wf T 209 [.agg (cl fW s),dU b] [] (Is (.agg (cl fW (tA s b)))):=by
 have c:=aeC b A;have f:=aaX b;have ck:=aeD;obtain⟨r,k⟩:∃r,tA s b=r:=⟨_,rfl⟩;have g:List.zipWith ad (sh (u7 b) s 64) s=r:=by rw[<-k,tA]
 rw[k];obtain⟨w,p⟩:∃w,u7 b=w:=⟨_,rfl⟩;rw[p]at c f g;clear p k;obtain⟨K,l⟩:∃K,Ap=K:=⟨_,rfl⟩;have x:K.length=64:=by rw[<-l];exact YL
 rw[l]at ck;have o:s.take 8=s:=af (by omega);refine Yg J2 ?_;simp[J2];refine Yc (c) ?_;simp[o,hs,f];refine Yc (ck) ?_;simp[o,hs,f,x];refine gj.e ((0,s):Int×List Int) (λy=>[(2,.ptr 0 0 0),(4,.ptr 1 0 0),(5,.ptr 2 0 0),(6,.ptr 3 0 0),(7,.ptr 4 0 0),(8,.i y.1)]) (λy=>[.row 323 0 (cl fW s),.row 323 0 (cl fW (zs 8)),.row 375 0 (cl fW w),.row 375 0 (cl fW K),.row 323 0 (cl fW y.2)]) (λy=>(0<=y.1/\y.1<=64)/\y.2=sh w s y.1.toNat) (λy=>(64-y.1).toNat) ?_ ?_
 .simp[Ti]
 rintro⟨i,c⟩ ⟨⟨i0,j⟩,a⟩;dsimp only at i0 j a ⊢
 by_cases hi:i<64
 .have e:=aan (w:=w) (c:=s) i0;rw[<-a,l]at e;obtain⟨n,G,c2,F,m,E,D,C,B⟩:=len8 (show c.length=8 by rw[a];exact EM w hs _);subst B;rw[Ds];simp[hi];refine Yt (wU m 6 (by omega)) ?_;simp;refine Yt (wU m 11 (by omega)) ?_;simp;refine Yt (wU m 25 (by omega)) ?_;simp;refine gd ?_;refine Yt (wU n 2 (by omega)) ?_;simp;refine Yt (wU n 13 (by omega)) ?_;simp;refine Yt (wU n 22 (by omega)) ?_;simp;refine gd ?_;refine LJ.i (i+1,sh w s (i+1).toNat) (by first|rfl|simp[e,AB,Ds,xr,mx]) (by first|rfl|simp[e,AB,Ds,xr,mx]) rfl rfl ?_;exact⟨by omega,iy,rfl⟩
 .have h:i=64:=by omega
  subst h;have q:c.length=8:=by rw[a];exact EM w hs _
  have v:List.zipWith ad c s=r:=by rw[a];exact g
  clear a g;simp;refine gj.st (by simp;rfl) ?_;refine gj.e ((0,c):Int×List Int) (λy=>[(2,.ptr 0 0 0),(4,.ptr 1 0 0),(7,.ptr 4 0 0),(11,.i y.1)]) (λy=>[.row 323 0 (cl fW s),.row 323 0 (cl fW (zs 8)),.row 375 0 (cl fW w),.row 375 0 (cl fW K),.row 323 0 (cl fW y.2)]) (λy=>(0<=y.1/\y.1<=8)/\ZW c s y.1 y.2) (λy=>(8-y.1).toNat) ?_ ?_
  .exact⟨by simp,ZW.z q⟩
  rintro⟨i,u⟩ ⟨⟨i0,j⟩,d⟩;dsimp only at i0 j d ⊢;have t:=d.1
  by_cases hi:i<8
  .simp[hi];refine gd ?_;refine LJ.e (i+1,pt u i (ad (gt u i) (gt s i))) ?_;exact⟨by omega,iy,d.n i0 hi⟩
  .have h:i=8:=by omega
   subst h;have e:u=r:=by rw[<-v];exact d.e hs q
   subst e;have z:u.take 8=u:=af (by omega);simp[t,z]
@[simp] theorem azi(H:U)(l:List Int):kS 1 H (dU l)=some (cl fU l,l.length):=by unfold dU;exact EY ..
theorem Pw(n:Nat):zs n ++ [0]=zs (n+1):=by rw[vb,vb,eH]
@[simp] theorem az9:zs 0 = []:=by rw[vb];rfl
theorem ab2(n:Int):(xR n).length=8:=rfl
theorem Mr(n:Int){i:Int}(i0:0<=i)(a:i<8):gt (xR n) i=IntKind.u8.wrap (my .u64 n (56-8*i)):=by
 have:i=0\/i=1\/i=2\/i=3\/i=4\/i=5\/i=6\/i=7:=by omega
 rcases this with rfl|rfl|rfl|rfl|rfl|rfl|rfl|rfl<;>rfl
theorem Pm{l:List Int}{i:Int}(i0:0<=i)(a:i<l.length):l.take (i+1).toNat=l.take i.toNat ++ [gt l i]:=by rw[show(i+1).toNat=i.toNat+1 by omega,dp,List.getElem?_eq_getElem (by omega),dT,<-jg i0 a]
@[simp] theorem arA(a b:Int):jU .mul .u64 a b=some (.val (.int .u64 (IntKind.u64.wrap (a*b)))):=rfl
theorem wrap_u64{s:Int}(h0:0<=s)(h1:s<9223372036854775808):IntKind.u64.wrap s=s:=by show s % 18446744073709551616=s;omega
theorem aer(b:List Int)(D:b.length<=4000000000):Wf T 207 [dU b] [] (Is (dU (pad b))):=by
 obtain⟨B,d⟩:∃B,xR (8*b.length)=B:=⟨_,rfl⟩;have E:B.length=8:=by rw[<-d];rfl
 have x:∀i:Int,0<=i->i<8->gt B i=IntKind.u8.wrap (my .u64 (8*b.length) (56-8*i)):=λi i0 f=>by rw[<-d];exact Mr _ i0 f
 obtain⟨p,j⟩:∃p,Az b.length=p:=⟨_,rfl⟩;have A:p=63-(b.length+8) % 64:=by rw[<-j];rfl
 have hP:pad b=b++128::zs p++B:=by rw[pad,d,j,vb];simp
 obtain⟨C,o⟩:∃C,b++128::zs p=C:=⟨_,rfl⟩;rw[hP,o];clear hP d j;have n:IntKind.u64.wrap (b.length:Int)=b.length:=wrap_u64 (by omega) (by omega);have m:IntKind.u64.wrap (8*(b.length:Int))=8*b.length:=wrap_u64 (by omega) (by omega);refine Yg C5 ?_;simp[C5];refine gd ?_;refine gj.e ((2,b ++ [128]):Nat×List Int) (λy=>[(0,dU b),(3,.fY 0 y.1 1 0 y.2.length)]) (λy=>[.row 5 y.1 (cl fU y.2),.row 5 0 [.val (.int .u8 128)]]) (λy=>∃k:Nat,k<=p/\y.2=b++128::zs k) (λy=>b.length+1+p-y.2.length) ?_ ?_
 .exact⟨0,by omega,by simp⟩
 rintro⟨g,q⟩ ⟨k,k0,a⟩;dsimp only at k0 a ⊢;have F:q.length=b.length+1+k:=by rw[a];simp;omega
 have h:gA ((q.length:Int)+8) 64=((q.length:Int)+8) % 64:=jH (by omega)
 by_cases v:k<p
 .have h1:¬((q.length:Int)+8) % 64=0:=by omega
  have t:q ++ [0]=b++128::zs (k+1):=by rw[a,<-Pw];simp
  simp[h,h1];refine jP h ?_;refine LJ.e (g+1,q ++ [0]) ?_;exact⟨by simp;omega,k+1,v,t⟩
 .have r:k=p:=by omega
  subst r;have h1:((q.length:Int)+8) % 64=0:=by omega
  rw[o]at a;subst a;simp[h,h1,n,m];refine lh n m ?_;refine gj.e ((0,g,q):Int×Nat×List Int) (λy=>[(3,.fY 0 y.2.1 1 0 y.2.2.length),(4,.val (.int .u64 (8*b.length))),(5,.i y.1)]) (λy=>[.row 5 y.2.1 (cl fU y.2.2),.row 5 0 [.val (.int .u8 128)]]) (λy=>(0<=y.1/\y.1<=8)/\y.2.2=q++B.take y.1.toNat) (λy=>(8-y.1).toNat) ?_ ?_
  .simp
  rintro⟨i,w,u⟩ ⟨⟨i0,f⟩,c⟩;dsimp only at i0 f c ⊢;have z:u.length=q.length+i.toNat:=by rw[c];simp;omega
  by_cases hi:i<8
  .have e:=Pm (l:=B) i0 (by omega);rw[x i i0 hi]at e;simp[hi];refine gd ?_;refine LJ.e (i+1,w+1,u ++ [IntKind.u8.wrap (my .u64 (8*b.length) (56-8*i))]) ?_;exact⟨by omega,iy,by rw[e,c,aL]⟩
  .have s:i=8:=by omega
   subst s;have e:u=q++B:=by rw[c,af (by omega)]
   subst e;simp;refine gd ?_;rw[xZ,List.map_append]
@[simp] theorem aza(f:gP)(l:List Int)(lo hi:Option X):tq f 1 (dU l) lo hi=(ig f lo 0).bind λa=>(ig f hi l.length).bind λh=>if 0<=a/\a<=h/\h<=l.length then some (dU ((l.drop a.toNat).take (h.toNat-a.toNat)))else none:=by unfold dU;rw[O8,List.length_map];simp only[IX]
theorem aac(b:List Int):(pad b).length % 64=0/\(pad b).length<=b.length+73:=by rw[pad];have h:Az b.length=63-(b.length+8) % 64:=rfl;have a:=ab2 (8*b.length);simp only[ak,aJ,eE,a];omega
theorem Mp{s b:List Int}(h:s.length=8):(tA s b).length=8:=by rw[tA,List.length_zipWith,EM _ h];omega
theorem Mt(b s:List Int):qc b s 0=s:=by rw[qc,Mv]
theorem Mu(b s:List Int)(n:Nat):qc b s (n+1)=tA (qc b s n) ((b.drop (64*n)).take 64):=by rw[qc,qc,Mv]
theorem Dp(b:List Int){s:List Int}(h:s.length=8):∀n,(qc b s n).length=8
 | 0=>by rw[Mt];exact h
 | n+1=>by rw[Mu];exact Mp (Dp b h n)
theorem EG(s:List Int):(yP s).length=32:=by rw[yP,List.length_map];rfl
theorem OG(s:List Int){i:Int}(i0:0<=i)(a:i<32):gt (yP s) i=IntKind.u8.wrap (my .u32 (gt s (i / 4)) (24-8*(i % 4))):=by
 have hl:(upto 32).length=32:=rfl;rw[jg i0 (by rw[EG];omega)]
 have e:(upto 32)[i.toNat]'(by omega)=i:=by unfold upto;simp;omega
 simp only[yP,List.getElem_map,e]
theorem Wd(b:List Int)(J:b.length<=4000000000):Wf T 141 [dU b] [] (Is (.agg (cl fU (kz b)))):=by
 have p:=aer b J;have q:=Wh;have G:=aac b;obtain⟨P,hP⟩:∃P,pad b=P:=⟨_,rfl⟩;obtain⟨S,hS⟩:∃S,Br=S:=⟨_,rfl⟩;have v:S.length=8:=by rw[<-hS];rfl
 obtain⟨r,o⟩:∃r,kz b=r:=⟨_,rfl⟩;have d:yP (qc P S (P.length / 64))=r:=by rw[<-o,kz,hP,hS]
 rw[hP]at p G;rw[hS]at q;rw[o];clear hP hS o;refine Yg C3 ?_;simp[C3];refine Yc (p) ?_;simp;refine Yc (q) ?_;simp[v];refine gj.e ((0,S):Int×List Int) (λy=>[(2,.ptr 0 0 0),(3,dU P),(4,.ptr 1 0 0),(5,.i y.1)]) (λy=>[.row 70 0 (cl fU (zs 32)),.row 323 0 (cl fW y.2)]) (λy=>∃n:Nat,y.1=64*n/\y.1<=P.length/\y.2=qc P S n) (λy=>(P.length+64-y.1).toNat) ?_ ?_
 .exact⟨0,by simp,by simp,by simp[Mt]⟩
 rintro⟨i,s⟩ ⟨n,gH,l,hs⟩;dsimp only at gH l hs ⊢;have a:s.length=8:=by rw[hs];exact Dp P v n
 by_cases hi:i<P.length
 .have f:s.take 8=s:=af (by omega);have x:((P.drop i.toNat).take 64).length=64:=by rw[aK,aR];omega
  have e:=Mu P S n;rw[<-hs,show 64*n=i.toNat by omega]at e;have F:(i+64).toNat-i.toNat=64:=by omega
  obtain⟨B,E⟩:∃B,(P.drop i.toNat).take 64=B:=⟨_,rfl⟩;rw[E]at x e;have c:=Wi s B a x;have z:=Mp (s:=s) (b:=B) a;obtain⟨A,I⟩:∃A,tA s B=A:=⟨_,rfl⟩;rw[I]at c e z;simp[hi,a,f];refine qz a f F ?_;rw[F,E];have w:s.drop 8 = []:=bV (by omega);refine Yt (c) ?_;simp[z,a,f];refine gd ?_;refine LJ.i (i+64,A) (by first|rfl|simp[w]) (by first|rfl|simp[w]) rfl rfl ?_;exact⟨by omega,n+1,by omega,by omega,e.symm⟩
 .have k:n=P.length / 64:=by omega
  rw[<-k,<-hs]at d;have K:r.length=32:=by rw[<-d];exact EG s
  have t:∀j:Int,0<=j->j<32->gt r j=IntKind.u8.wrap (my .u32 (gt s (j / 4)) (24-8*(j % 4))):=λj j0 j1=>by rw[<-d];exact OG s j0 j1
  clear d hs p q;simp[hi];refine gd ?_;refine gj.e ((0,zs 32):Int×List Int) (λy=>[(2,.ptr 0 0 0),(4,.ptr 1 0 0),(6,.ptr 2 0 0),(7,.i y.1)]) (λy=>[.row 70 0 (cl fU (zs 32)),.row 323 0 (cl fW s),.row 70 0 (cl fU y.2)]) (λy=>(0<=y.1/\y.1<=32)/\y.2.length=32/\∀j:Int,0<=j->j<y.1->gt y.2 j=gt r j) (λy=>(32-y.1).toNat) ?_ ?_
  .exact⟨by simp,by simp,λj j0 j1=>absurd j1 (by dsimp only;omega)⟩
  rintro⟨i,u⟩ ⟨⟨i0,l⟩,g,m⟩;dsimp only at i0 l g m ⊢
  by_cases hi:i<32
  .have C:uq i 4=i / 4:=uu i0 (by omega) (by omega);have D:gA i 4=i % 4:=jH i0;simp[hi,C,D];refine lh C D ?_;refine LJ.i (i+1,pt u i (gt r i)) (by first|rfl|simp[t i i0 hi]) (by first|rfl|simp[t i i0 hi]) rfl rfl ?_;refine⟨by omega,iy,by rw[iP i0 (by omega)];exact g,λj j0 j1=>?_⟩;dsimp only at j1 ⊢;rw[pR i0 (by omega) j0]
   by_cases e:j=i
   .rw[if_pos e,e]
   .rw[if_neg e];exact m j j0 (by omega)
  .have k:i=32:=by omega
   subst k
   have e:u=r:=by refine br (by omega) λj j0 j1=>?_;have h:=m j (by omega) (by omega);rw[jg (by omega) (by omega),jg (by omega) (by omega)]at h;exact h
   subst e;have H:u.take 32=u:=af (by omega);simp[g,H]
def QD(v:List fZ)(b:List Bool):Nat->Int
 | 0 => -1
 | n+1=>if gt b (n:Int)=false/\(gt v (n:Int)).1≠2 then max (QD v b n) (gt v (n:Int)).2 else QD v b n
@[simp] theorem auq(v:List fZ)(b:List Bool):QD v b 0 = -1:=rfl
def Od(b:List Bool)(part:List Int)(n:Int):Nat->Int×Int
 | 0=>(0,-1)
 | k+1=>if gt b (gt part (k:Int))=true/\uq (gt part (k:Int)) n≠(Od b part n k).2 then((Od b part n k).1+1,uq (gt part (k:Int)) n)else Od b part n k
@[simp] theorem avw(b:List Bool)(part:List Int)(n:Int):Od b part n 0=(0,-1):=rfl
noncomputable def A'(g:gi)(p:Pos):Int:=if ended g p then(gt g.clauses (uM g p)).out else 0
theorem adp{g:gi}{p:Pos}{i:Int}(i0:0<=i)(hi:i<g.clauses.length)(d:∀c∈g.clauses.take i.toNat,¬kX p c)(h:kX p (gt g.clauses i)):A' g p=(gt g.clauses i).out:=by
 have a:ended g p:=⟨_,gy i0 hi,h⟩
 have b:g.clauses.findIdx (λc=>decide (kX p c))=i.toNat:=by
  rw[List.findIdx_eq (by omega)];refine⟨?_,λj e=>?_⟩
  .have:gt g.clauses i=g.clauses[i.toNat]:=by unfold gt;rw[List.getD_eq_getElem?_getD,List.getElem?_eq_getElem (by omega)];rfl
   rw[<-this];simpa using h
  .simp only[decide_eq_false_iff_not];refine d _ ?_;rw[dK];exact⟨j,by omega,rfl⟩
 unfold A' uM;rw[if_pos a,if_pos a,b];congr 1
theorem aeU(g:gi)(hg:gV g)(p:Pos)(l:iw g p):Wf T 113 [dG g,dP p] [] (Is (.tup [.i (A' g p),.b (decide (ended g p))])):=by
 have r:=hg.clauses;refine Yg Db ?_;simp[Db];refine gj.e (0:Int) (λy=>[(2,.ptr 0 0 0),(3,.ptr 1 0 0),(9,dN 4 Clause.cells g.clauses),(10,.i g.clauses.length),(11,.i y)]) (λy=>[.row 43 0 g.cells,.row 46 0 p.cells]) (λy=>0<=y/\y<=g.clauses.length/\∀c∈g.clauses.take y.toNat,¬kX p c) (λy=>(g.clauses.length-y).toNat) ?_ ?_
 .simp
 rintro i ⟨i0,o,k⟩
 by_cases hi:i<g.clauses.length
 .have m:=gy i0 hi;have d:=hg.clause _ m;have q:=d.ok;have s:kX p (gt g.clauses i)->decide (ended g p)=true:=λh=>decide_eq_true ⟨_,m,h⟩;have n:kX p (gt g.clauses i)->ended g p:=λh=>⟨_,m,h⟩;have f:kX p (gt g.clauses i)->A' g p=(gt g.clauses i).out:=λh=>adp i0 hi k h
  have j:¬kX p (gt g.clauses i)->∀c∈g.clauses.take (i+1).toNat,¬kX p c:=λh c d=>by
   rw[jq i0 hi]at d;rcases List.mem_append.1 d with d|d
   .exact k c d
   .rw[List.mem_singleton.1 d];exact h
  simp[hi];refine gd ?_;rcases(show(gt g.clauses i).cond=1\/(gt g.clauses i).cond=2\/(gt g.clauses i).cond=3 by omega)with e|e|e
  .simp[e];refine Yt (f294 g hg p l ⟨1,(gt g.clauses i).kind,(gt g.clauses i).n,(gt g.clauses i).out⟩ (by dsimp only;omega)) ?_;simp;have b:kX p (gt g.clauses i)=(sL p p.side (gt g.clauses i).kind=0):=by simp[kX,e]
   by_cases a:sL p p.side (gt g.clauses i).kind=0
   .simp[a];exact⟨(f (b▸a)).symm,n (b▸a)⟩
   .simp[a];refine gd ?_;refine LJ.e (i+1) ?_;exact gO (j (b▸a))
  .simp[e];refine Yt (f296 g hg p l ⟨2,(gt g.clauses i).kind,(gt g.clauses i).n,(gt g.clauses i).out⟩ (by dsimp only;omega) (by dsimp only;omega)) ?_;simp;have b:kX p (gt g.clauses i)=(gt p.cs (gt g.clauses i).n=lQ (gt g.clauses i).kind (1-p.side)):=by simp[kX,e]
   by_cases a:gt p.cs (gt g.clauses i).n=lQ (gt g.clauses i).kind (1-p.side)
   .simp[a];exact⟨(f (b▸a)).symm,n (b▸a)⟩
   .simp[a];refine gd ?_;refine LJ.e (i+1) ?_;exact gO (j (b▸a))
  .simp[e];refine Yt (f297 g hg p l ⟨3,(gt g.clauses i).kind,(gt g.clauses i).n,(gt g.clauses i).out⟩) ?_;simp;have b:kX p (gt g.clauses i)=(sL p p.side (-1)<=(gt g.clauses i).n):=by simp[kX,e]
   by_cases a:sL p p.side (-1)<=(gt g.clauses i).n
   .simp[a];exact⟨(f (b▸a)).symm,n (b▸a)⟩
   .simp[a];refine gd ?_;refine LJ.e (i+1) ?_;exact gO (j (b▸a))
 .simp[hi];have:¬ended g p:=λ⟨c,d,h⟩=>k c (by rw[ln (by omega)];exact d) h;simp[A',this]
theorem f54(g:gi)(hg:gV g)(p:Pos)(a:iw g p):Wf T 58 [dG g,dP p] [] (Is (.tup [.i (stat g p).1,.b (stat g p).2])):=by
 have b:ended g p->iS g p = []:=Ot;refine Yg LP ?_;simp[LP];refine Yc (aeU g hg p a) ?_;simp
 by_cases h0:ended g p
 .simp[h0,stat,A',b h0]
 .simp[h0,stat,A'];refine Yc (f26 g hg p a) ?_;simp;refine j' ?_ ?_<;>intro h
  all_goals simp[h0, *]
set_option maxHeartbeats 8000000
def lO(v:List fZ)(b:List Bool)(x:List Int):Nat->Int×Int
 | 0=>(0,-1)
 | j+1=>if gt b (gt x (j:Int))=false/\(gt v (gt x (j:Int))).1=1 then((lO v b x j).1+1,max (lO v b x j).2 (gt v (gt x (j:Int))).2)else lO v b x j
@[simp] theorem az8(v:List fZ)(b:List Bool)(x:List Int):lO v b x 0=(0,-1):=rfl
theorem aoK{v:List fZ}{b:List Bool}{x:List Int}{i:Int}(i0:0<=i):lO v b x (i+1).toNat=if gt b (gt x i)=false/\(gt v (gt x i)).1=1 then((lO v b x i.toNat).1+1,max (lO v b x i.toNat).2 (gt v (gt x i)).2)else lO v b x i.toNat:=by
 have h:(i+1).toNat=i.toNat+1:=by omega
 have a:((i.toNat:Nat):Int)=i:=by omega
 rw[h,lO,a]
def Cc(v:List fZ)(b:List Bool)(x:List Int)(n:Int):Prop:=∃k∈x,gt b k=false/\gt v k=(3,n-1)
noncomputable def pg(g:gi)(p:Pos)(v:List fZ)(b:List Bool)(x:List Int)(n:Int):fZ×Bool:=
 if n=0 then(((stat g p).1,0),(stat g p).2)else
 if Cc v b x n then((1,n),true)else((3,n),decide (0<x.length/\(lO v b x x.length).1=x.length/\(lO v b x x.length).2=n-1))
theorem Pu(v:List fZ)(b:List Bool)(x:List Int):∀k:Nat,0<=(lO v b x k).1/\(lO v b x k).1<=k
 | 0=>by simp
 | k+1=>by
  have:=Pu v b x k;unfold lO;split
  .dsimp only;omega
  .omega
end Go.Proofs.YtmehofoficaelaaGreatDoor
namespace Go.AL
open Go
section
variable{T:iB}{live:List Nat}{a:IR}{s:St}{K:iY}{α:Type}
theorem gj.kg(ms:List Nat)(rd:Bool)(b:α)(E:α->Env)(c:α->U)(P:α->Prop)(d:α->Nat)
  (h0:P b) (l:forget ((E b).map (·.1)) s.env=E b) (j:s.H=c b) (i:s.marks=ms) (g:s.iD=rd) (f:(((E b).map (·.1)).all λk=>live.contains k)=true)
  (h:∀x,P x->XC T a { env:=E x,H:=c x,marks:=ms,iD:=rd } (wi s.H.length live ((E b).map (·.1)) (LJ E c ms rd (λe=>d e<d x/\P e) .mk) K)):gj T live a s K .mk:=
 gj.j b E c P d h0 l j f (by rw[i,g];exact h)
end
def M3(H:U):Option Ob->Option D
 | some (.jl (.gD m) since seen)=>(lM H m).bind λp=>seen.getLast?.bind λi=>p.2[i]?.bind λe=>if p.2.length=since then some (.tup [sJ e.1,e.2])else none
 | _=>none
theorem adq(H:U)(x:Option Ob):(match x with
  | some (.jl (.gD m) since seen)=>(match lM H m,seen.getLast? with
   | some (_,es),some i=>(match es[i]? with
    | some (k,d)=>if es.length=since then some (.tup [sJ k,d])else none
    | none=>none)
   | _,_=>none)
  | _=>none)=M3 H x:=by
 unfold M3;split
 .rename_i m since seen
  cases a:lM H m with
  | none=>simp
  | some p=>
   cases hs:seen.getLast? with
   | none=>simp
   | some i=>
    simp only[Option.bind_some];cases p.2[i]? <;> rfl
 .rfl
@[simp] theorem atw(v:Nat)(H:U):M4 (.ptr v 0 0) H=M3 H H[v]? := adq H H[v]?
@[simp] theorem atv(H:U)(m since:Nat)(seen:List Nat):M3 H (some (.jl (.gD m) since seen))=(lM H m).bind λp=>seen.getLast?.bind λi=>p.2[i]?.bind λe=>if p.2.length=since then some (.tup [sJ e.1,e.2])else none:=rfl
@[simp] theorem axP(m:Nat)(H:U)(a:Nat):ID (.gD m) H a=(lM H m).bind λp=>some (.ptr a 0 0,.new (.jl (.gD m) p.2.length [])):=by simp only[ID];cases lM H m<;>rfl
theorem uE.at{v m since:Nat}{seen:List Nat}{kk:KK}{es:List (Value×D)}{dst:Option Nat}{s:St}{K:St->Prop}(a:s.H[v]? = some (.jl (.gD m) since seen))(b:s.H[m]? = some (.map kk es))(hs:es.length=since)
  (h0:(∀i,i<es.length->i∈seen)->K { s with env:=put s.env dst (.tup [.b false]) })
  (h1:∀i k d,es[i]? = some (k,d)->i ∉ seen->K { s with env:=put s.env dst (.tup [.b true,sJ k,d]),H:=s.H.set v (.jl (.gD m) since (seen ++ [i])) }):uE (.ptr v 0 0) dst s K .mk:=
 ⟨v,m,since,seen,kk,es,rfl,a,b,hs,h0,h1⟩
@[simp] theorem ar7(t:TypeId)(v k o n:Nat):rK t (.ptr v k o) n=some (.ptr n 0 0,.new (.row t 0 [.ptr v k o])):=rfl
@[simp] theorem aw0(n:Nat)(m:D)(since:Nat)(seen:List Nat):oZ n (.jl m since seen) = []:=rfl
@[simp] theorem ayv(ρ:Nat->Option Nat)(H:U)(m:D)(since:Nat)(seen:List Nat):u6 ρ H (some (.jl m since seen)) = .jl (gq ρ H 40 m) since seen:=rfl
end Go.AL
namespace Go.Proofs.YtmehofoficaelaaGreatDoor
open Go Go.AL Classical
set_option maxRecDepth 10000
set_option maxHeartbeats 8000000
theorem QG{α:Type}[Inhabited α]{l a:List α}(h:l.length=a.length)(k:∀j:Int,0<=j->j<l.length->gt l j=gt a j):l=a:=
 br h λi h1 b=>by have:=k i (by omega) (by omega);rwa [Bp h1,Bp b]at this
def wv{α:Type}(v:List α)(a:Int->α):List Int->List α
 | []=>v
 | i::r=>wv (pt v i (a i)) a r
@[simp] theorem axM{α:Type}(a:Int->α)(v:List α):wv v a []=v:=rfl
theorem Iy{α:Type}[Inhabited α](a:Int->α):∀(r:List Int) (v:List α),(∀i∈r,0<=i/\i<v.length)->(wv v a r).length=v.length
 | [],v,_=>rfl
 | i::r,v,h=>by have h1:=h i (by simp);have b:=iP (v:=a i) h1.1 h1.2;rw[wv,Iy a r _ λj c=>by rw[b];exact h j (by simp[c]),b]
theorem GJ{α:Type}[Inhabited α](a:Int->α):∀(r:List Int) (v:List α),(∀i∈r,0<=i/\i<v.length)->∀j:Int,0<=j->j<v.length->gt (wv v a r) j=if j∈r then a j else gt v j
 | [],v,_,j,_,_=>by simp[wv]
 | i::r,v,h,j,j0,j1=>by
  have h1:=h i (by simp);have d:=iP (v:=a i) h1.1 h1.2;rw[wv,GJ a r _ (λk c=>by rw[d];exact h k (by simp[c])) j j0 (by omega),pR h1.1 h1.2 j0]
  by_cases b:j∈r
  .simp[b]
  .by_cases e:j=i
   .subst e;simp[b]
   .simp[b,e]
def esD(a:Int->fZ)(ds:List Int):List (Value×D):=ds.map λi=>(.int .i64 i,.agg [.i (a i).1,.i (a i).2])
@[simp] theorem atA(a:Int->fZ):esD a [] = []:=rfl
section
variable(g:gi)(l:List Pos)(nx:List (List Int))(part:List Int)
noncomputable def M0(v:List fZ)(b:List Bool)(n:Int)(i:Int):fZ:=(pg g (gt l i) v b (gt nx i) n).1
noncomputable def S5(v:List fZ)(b:List Bool)(n:Int)(i:Int):Bool:=(pg g (gt l i) v b (gt nx i) n).2&&gt b i
noncomputable def sv(v:List fZ)(b:List Bool)(n:Int):List Int:=part.filter (S5 g l nx v b n)
noncomputable def rV(v:List fZ)(b:List Bool)(n:Int):List fZ:=wv v (M0 g l nx v b n) (sv g l nx part v b n)
noncomputable def rB(v:List fZ)(b:List Bool)(n:Int):List Bool:=wv b (λ_=>false) (sv g l nx part v b n)
def wV(v:List fZ)(b:List Bool):List fZ×List Bool:=(wv v (λ_=>(2,0)) (part.filter λi=>gt b i),wv b (λ_=>false) (part.filter λi=>gt b i))
@[simp] theorem atM(v:List fZ)(b:List Bool):wV [] v b=(v,b):=rfl
end
def gk(ds:List Int)(a:List Nat):List Int:=a.map λj:Nat=>gt ds (j:Int)
@[simp] theorem aug(ds:List Int):gk ds [] = []:=rfl
theorem F9{l:List fZ}{n:Int}(a b:Int):(cl fS l).take (n.toNat*2) ++ .i a :: .i b::(cl fS l).drop (n.toNat*2+2)=cl fS (pt l n (a,b)):=by rw[show n.toNat*2+2=(n.toNat+1)*2 by omega,uK,xW];unfold pt;rw[<-A3,nM,Bi];rfl
theorem ada{g:gi}{l:List Pos}{nx:List (List Int)}{part:List Int}{v:List fZ}{b:List Bool}{n i:Int}(h:i∈sv g l nx part v b n):i∈part:=(aN.1 h).1
def Pj(w:Bool)(g:gi)(l:List Pos)(nx:List (List Int)):List D:=[.fY (bif w then 3 else 4) (bif w then 0 else 1) 2 0 l.length,.fY (bif w then 4 else 3) 0 1 0 l.length,.i g.size,.sl 1 (g.next.map fI),dI g.jy,.sl 3 (g.kinds.map Kind.cells),.i g.gL,.b g.oK,dN 4 Clause.cells g.clauses,.i g.blocked,.i g.vo,gZ l,.sl 1 (nx.map fN)]
def tp(w:Bool):D:=.ptr (bif w then 2 else 1) 0 0
def H5(w:Bool)(z:List fZ)(g:gi)(l:List Pos)(nx:List (List Int))(m:List Int)(v:List fZ)(b:List Bool):U:=
 bif w then [.row 43 0 g.cells,.row 56 0 [dI m],.row 132 0 (Pj w g l nx),.row 86 0 (cl fS v),.row 4 0 (cl fB b)]else [.row 43 0 g.cells,.row 132 0 (Pj w g l nx),.row 86 0 (cl fS z),.row 4 0 (cl fB b),.row 86 1 (cl fS v)]
def HF(w:Bool)(z:List fZ)(g:gi)(l:List Pos)(nx:List (List Int))(m:List Int)(part:List Int)(n t:Int)(v:List fZ)(b:List Bool)(st:qx):U:=
 H5 w z g l nx m v b ++ [.row 125 0 [tp w],.row 37 0 [dI part],.row 3 0 [.i n],.row 3 0 [.i t],.row 125 0 [tp w],.ja,.ib 3456 [(3,.ptr 5 0 0),(4,.ptr 6 0 0),(5,.ptr 7 0 0),(9,.ptr 8 0 0)] st]
structure xH(g:gi)(l:List Pos)(nx:List (List Int))(part:List Int)(bu:Int):Prop where
 gm:gV g
 ps:∀p∈l,iw g p
 len:l.length<=4000
 nxl:nx.length=l.length
 ZM:∀i:Int,0<=i->i<l.length->(∀k∈gt nx i,0<=k/\k<l.length)/\(gt nx i).length<=4000000000
 prt:∀i∈part,0<=i/\i<l.length
 nd:part.Nodup
 pl:part.length<=4000
 bu:1<=bu/\bu<=9223372036854775807
end Go.Proofs.YtmehofoficaelaaGreatDoor
namespace Go.Proofs.YtmehofoficaelaaGreatDoor
open Go Go.AL Classical
set_option maxRecDepth 10000
set_option maxHeartbeats 4000000
@[simp] theorem ar3(t:TypeId)(l:List Int)(n:Nat):rK t (dU l) n=some (.ptr n 0 0,.new (.row t 0 [dU l])):=rfl
@[simp] theorem ay4(f:gP)(l:List Int)(lo:Option X)(hi mx:X):yT f 1 (dU l) lo hi mx=(ig f lo 0).bind λa=>(tZ (ev f hi)).bind λh=>(tZ (ev f mx)).bind λm=>if 0<=a/\a<=h/\h=m/\m<=l.length then some (cB ((l.drop a.toNat).take (h.toNat-a.toNat)))else none:=by unfold dU;rw[an3,List.length_map];simp only[IX,acB]
theorem gx.n{T:iB}{f:FuncId}{args:List D}{dst:Option Nat}{s a:St}{K:St->Prop}(hs:s=a)(h:gx T f args dst a K .mk):gx T f args dst s K .mk:=by subst hs;exact h
theorem aev(b:List Int):Wf T 221 [dU b] [] (Is (cB b)):=by refine Yg C6 ?_;simp[C6]
theorem aew:Wf T 221 [.gg] [] (Is .gg):=by refine Yg C6 ?_;simp[C6]
theorem Wj(b:List Int):Wf T 222 [dU b,.i 64] [] (Is (.fn (.func 274) [] [.gu [dU b],.gu [.i 64]])):=by refine Yg J5 ?_;simp[J5]
theorem Wn(P S:List Int)(hl:P.length % 64=0)(p:P.length<=4000001000)(hS:S.length=8):Wf T 274 [.iT 5,.gu [dU P],.gu [.i 64]]
  [.row 70 0 (cl fU (zs 32)),.row 5 0 [.val (.int .u8 128)],.dead,.row 323 0 (cl fW S),.ja,.ib 9920 [(5,.ptr 3 0 0)] .ready]
  (λ_ H'=>H' = [.row 70 0 (cl fU (zs 32)),.row 5 0 [.val (.int .u8 128)],.dead,.row 323 0 (cl fW (qc P S (P.length / 64))),.ja,.ib 9920 [(5,.ptr 3 0 0)] .ready]):=by
 refine Yg Kc ?_;simp[Kc];refine gj.e ((0,S):Int×List Int) (λy=>[(0,.iT 5),(1,.gu [dU P]),(2,.gu [.i 64]),(4,.i y.1)]) (λy=>[.row 70 0 (cl fU (zs 32)),.row 5 0 [.val (.int .u8 128)],.dead,.row 323 0 (cl fW y.2),.ja,.ib 9920 [(5,.ptr 3 0 0)] .ready]) (λy=>∃n:Nat,y.1=64*n/\y.1<=P.length/\y.2=qc P S n) (λy=>(P.length+64-y.1).toNat) ?_ ?_
 .exact⟨0,by simp,by simp,by simp[Mt]⟩
 rintro⟨i,s⟩ ⟨n,gH,l,hs⟩;dsimp only at gH l hs ⊢;have a:s.length=8:=by rw[hs];exact Dp P hS n
 by_cases hi:i<P.length
 .have d:s.take 8=s:=af (by omega);have j:s.drop 8 = []:=bV (by omega);have f:((P.drop i.toNat).take 64).length=64:=by rw[aK,aR];omega
  have e:=Mu P S n;rw[<-hs,show 64*n=i.toNat by omega]at e;have o:(i+64).toNat-i.toNat=64:=by omega
  have em:min 64 ((P.length-i.toNat:Nat):Int)=64:=by omega
  obtain⟨B,h⟩:∃B,(P.drop i.toNat).take 64=B:=⟨_,rfl⟩;rw[h]at f e;have c:=aex s B a f;have g:=Mp (s:=s) (b:=B) a;obtain⟨A,m⟩:∃A,tA s B=A:=⟨_,rfl⟩;rw[m]at c e g;simp[hi,em];refine jP em ?_;simp only[em,o,h];refine na.r (rf:=9920) (env0:=[(5,.ptr 3 0 0)]) (Rd:=Di) (by simp) rfl rfl Di.a Di.b (nj rfl) (nj rfl) ?_;simp[Di,a,d];refine Yc (c) ?_;simp[g,a,d,j];refine gd ?_;refine LJ.e (i+64,A) ?_;exact⟨by omega,n+1,by omega,by omega,e.symm⟩
 .have k:n=P.length / 64:=by omega
  subst k;simp[hi,hs]
theorem We(b:List Int)(Y:b.length<=4000000000):Wf T 155 [dU b] [] (Is (.agg (cl fU (kz b)))):=by
 have R:=aev b;obtain⟨B,w⟩:∃B,xR (8*b.length)=B:=⟨_,rfl⟩;have QT:B.length=8:=by rw[<-w];rfl
 have U:∀i:Int,0<=i->i<8->gt B i=IntKind.u8.wrap (my .u64 (8*b.length) (56-8*i)):=λi i0 o=>by rw[<-w];exact Mr _ i0 o
 obtain⟨p,D⟩:∃p,Az b.length=p:=⟨_,rfl⟩;have X:p=63-(b.length+8) % 64:=by rw[<-D];rfl
 have hP:pad b=b++128::zs p++B:=by rw[pad,w,D,vb];simp
 obtain⟨C,E⟩:∃C,b++128::zs p=C:=⟨_,rfl⟩;rw[E]at hP;have V:C.length=b.length+1+p:=by rw[<-E];simp;omega
 obtain⟨r,A⟩:∃r,kz b=r:=⟨_,rfl⟩;obtain⟨S,hS⟩:∃S,Br=S:=⟨_,rfl⟩;have x:S.length=8:=by rw[<-hS];rfl
 have n:yP (qc (C++B) S ((C++B).length / 64))=r:=by rw[<-A,kz,hP,hS]
 rw[A];clear hP w D A;have J:S.take 8=S:=af (by omega);have s:IntKind.u64.wrap (b.length:Int)=b.length:=wrap_u64 (by omega) (by omega);have m:IntKind.u64.wrap (8*(b.length:Int))=8*b.length:=wrap_u64 (by omega) (by omega);refine Yz zb (iZ 36 [2] zb.body) ?_;simp[zb,iZ,kD,np,nz,nP,ma,UZ,hS];refine Yc (R) ?_;simp;refine gd ?_;refine gj.e ((0,b ++ [128]):Nat×List Int) (λy=>[(0,dU b),(2,.ptr 0 0 0),(3,.fY 2 y.1 1 0 y.2.length)]) (λy=>[.row 70 0 (cl fU (zs 32)),.row 5 0 [.val (.int .u8 128)],.row 5 y.1 (cl fU y.2)]) (λy=>∃k:Nat,k<=p/\y.2=b++128::zs k) (λy=>b.length+1+p-y.2.length) ?_ ?_
 .exact⟨0,by omega,by simp⟩
 rintro⟨g,q⟩ ⟨k,k0,t⟩;dsimp only at k0 t ⊢;have D9:q.length=b.length+1+k:=by rw[t];simp;omega
 have c:gA ((q.length:Int)+8) 64=((q.length:Int)+8) % 64:=jH (by omega)
 by_cases N:k<p
 .have h1:¬((q.length:Int)+8) % 64=0:=by omega
  have M:q ++ [0]=b++128::zs (k+1):=by rw[t,<-Pw];simp
  simp[c,h1];refine jP c ?_;refine LJ.e (g+1,q ++ [0]) ?_;exact⟨by simp;omega,k+1,N,M⟩
 .have I:k=p:=by omega
  subst I;have h1:((q.length:Int)+8) % 64=0:=by omega
  rw[E]at t;subst t;simp[c,h1,s,m];refine lh s m ?_;refine gj.st (by simp;rfl) ?_;refine gj.e ((0,g,q):Int×Nat×List Int) (λy=>[(0,dU b),(2,.ptr 0 0 0),(3,.fY 2 y.2.1 1 0 y.2.2.length),(4,.i (56-8*y.1))]) (λy=>[.row 70 0 (cl fU (zs 32)),.row 5 0 [.val (.int .u8 128)],.row 5 y.2.1 (cl fU y.2.2)]) (λy=>(0<=y.1/\y.1<=8)/\y.2.2=q++B.take y.1.toNat) (λy=>(8-y.1).toNat) ?_ ?_
  .simp
  rintro⟨i,Q,u⟩ ⟨⟨i0,o⟩,a⟩;dsimp only at i0 o a ⊢;have d:u.length=q.length+i.toNat:=by rw[a];simp;omega
  by_cases hi:i<8
  .have e:=Pm (l:=B) i0 (by omega);rw[U i i0 hi]at e;have K:0<=56-8*i:=by omega
   simp[K,m,s];(with_reducible repeat' first|refine Xk ?_<;>try simp[m,s]|refine Xs ?_ ?_<;>intro h<;>(try intro Z)<;>(try simp[h,m,s])<;>try omega|refine Xg ?_|omega);refine LJ.i (i+1,Q+1,u ++ [IntKind.u8.wrap (my .u64 (8*b.length) (56-8*i))]) (by first|rfl|simp[show 56-8*(i+1)=56-8*i-8 by omega]) (by first|rfl|simp[show 56-8*(i+1)=56-8*i-8 by omega]) rfl rfl ?_;exact⟨by omega,iy,by rw[e,a,aL]⟩
  .have z:i=8:=by omega
   subst z;obtain⟨P,hP⟩:∃P,q++B=P:=⟨_,rfl⟩;have Bw:P.length=q.length+8:=by rw[<-hP];simp;omega
   have e:u=P:=by rw[a,af (by omega),hP]
   rw[hP]at n;clear d a hP;subst e;simp;refine gd ?_;refine gx.n (by simp[x,J];rfl) ?_;rw[<-xZ];refine Yc (Wj u) ?_;simp;refine sT.r (f:=274) (first:=[]) (cap:=[.gu [dU u],.gu [.i 64]]) rfl rfl rfl rfl ?_;simp;refine Wf.mono (Wn u S (by omega) (by omega) x) ?_;rintro _ H' rfl;have L:=Dp u x (u.length / 64);obtain⟨v,G⟩:∃v,qc u S (u.length / 64)=v:=⟨_,rfl⟩;rw[G]at n L ⊢;clear G;have W:r.length=32:=by rw[<-n];exact EG v
   have F:∀j:Int,0<=j->j<32->gt r j=IntKind.u8.wrap (my .u32 (gt v (j / 4)) (24-8*(j % 4))):=λj j0 j1=>by rw[<-n];exact OG v j0 j1
   clear n;refine⟨[(5,.ptr 3 0 0)],.ready,by simp,?_⟩;simp;refine gj.st (by simp;rfl) ?_;refine gj.kg [4] false ((0,zs 32):Int×List Int) (λy=>[(2,.ptr 0 0 0),(5,.ptr 3 0 0),(7,.ptr 5 0 0),(42,.i y.1)]) (λy=>[.row 70 0 (cl fU (zs 32)),.row 5 0 [.val (.int .u8 128)],.dead,.row 323 0 (cl fW v),.ja,.row 70 0 (cl fU y.2)]) (λy=>(0<=y.1/\y.1<=32)/\y.2.length=32/\∀j:Int,0<=j->j<y.1->gt y.2 j=gt r j) (λy=>(32-y.1).toNat) ?_ (by simp) (by first|rfl|(simp[iQ];done)|(simp[*];done)) rfl rfl rfl ?_
   .exact⟨by simp,by simp,λj j0 j1=>absurd j1 (by dsimp only;omega)⟩
   rintro⟨i,u⟩ ⟨⟨i0,o⟩,d,a⟩;dsimp only at i0 o d a ⊢
   by_cases hi:i<32
   .have c:uq i 4=i / 4:=uu i0 (by omega) (by omega);have H:gA i 4=i % 4:=jH i0;simp[hi,c,H];refine lh c H ?_;refine LJ.i (i+1,pt u i (gt r i)) (by first|rfl|simp[F i i0 hi]) (by first|rfl|simp[F i i0 hi]) rfl rfl ?_;refine⟨by omega,iy,by rw[iP i0 (by omega)];exact d,λj j0 j1=>?_⟩;dsimp only at j1 ⊢;rw[pR i0 (by omega) j0]
    by_cases e:j=i
    .rw[if_pos e,e]
    .rw[if_neg e];exact a j j0 (by omega)
   .have z:i=32:=by omega
    subst z
    have e:u=r:=by refine br (by omega) λj j0 j1=>?_;have h:=a j (by omega) (by omega);rw[jg (by omega) (by omega),jg (by omega) (by omega)]at h;exact h
    subst e;have O:u.take 32=u:=af (by omega);simp[d,O]
@[irreducible] def fB(l:List Int):List D:=[dU l]
@[simp] theorem Gt(l:List Int):fB l = [dU l]:=by unfold fB;rfl
instance:Fl fB 1:=⟨λ_=>by simp,λ_=>by simp[gF]⟩
@[irreducible] def pd(L:List (List Int)):D:=.sl 1 (L.map fB)
theorem Dx(L:List (List Int)):pd L = .sl 1 (L.map fB):=by unfold pd;rfl
@[simp] theorem as1(L:List (List Int)):closed (pd L)=true:=by unfold pd;exact wP L
@[simp] theorem avE(L:List (List Int))(H:U):mX .slice (pd L) H=some (.i L.length):=by unfold pd;simp
@[simp] theorem ay7(f:gP)(l:List (List Int))(lo hi:Option X):tq f 1 (pd l) lo hi=(ig f lo 0).bind λa=>(ig f hi l.length).bind λh=>if 0<=a/\a<=h/\h<=l.length then some (pd ((l.drop a.toNat).take (h.toNat-a.toNat)))else none:=by unfold pd;rw[O8,List.length_map];simp only[IX]
@[simp] theorem awD{l:List (List Int)}{n:Int}{k:IntKind}{P:D->Prop}:oA (mH 1 (pd l) (.val (.int k n))) P .mk=((0<=n/\n<l.length)/\P (.gu [dU (gt l n)])):=by unfold pd;simp
theorem Vf(l:List Int)(n:Int):D.val (.int .u8 n)::cl fU l=cl fU (n::l):=by rw[nM,zD];rfl
theorem rD(b:List Int):(kz b).length=32:=by rw[kz];exact EG _
theorem aet(b:List Int)(a:b.length<=4000000000):Wf T 210 [dU b] [] (Is (dU (0::b))):=by refine Yg J3 ?_;simp[J3];refine gd ?_;rw[Vf];exact vu (k:=38) (by simp;omega)
theorem aeg(b:List Int)(e:b.length<=3000000000):Wf T 142 [dU b] [] (Is (.agg (cl fU (kz (0::b))))):=by have c:=Wd (0::b) (by simp;omega);have hl:=rD (0::b);obtain⟨r,d⟩:∃r,kz (0::b)=r:=⟨_,rfl⟩;rw[d]at c hl ⊢;have a:r.take 32=r:=af (by omega);refine Yg JT ?_;simp[JT];refine Yc (aet b (by omega)) ?_;simp;refine Yc (c) ?_;simp[hl,a]
theorem aeu(a b:List Int)(f:a.length=32)(e:b.length=32):Wf T 211 [.agg (cl fU a),.agg (cl fU b)] [] (Is (dU (1::(a++b)))):=by have c:a.take 32=a:=af (by omega);have d:b.take 32=b:=af (by omega);refine Yg J4 ?_;simp[J4];refine FK f e c d ?_;rw[Vf,c,c,d];exact vu (k:=38) (by simp;omega)
theorem aei(a b:List Int)(f:a.length=32)(e:b.length=32):Wf T 144 [.agg (cl fU a),.agg (cl fU b)] [] (Is (.agg (cl fU (kz (1::(a++b)))))):=by have c:=Wd (1::(a++b)) (by simp;omega);have hl:=rD (1::(a++b));obtain⟨r,i⟩:∃r,kz (1::(a++b))=r:=⟨_,rfl⟩;rw[i]at c hl ⊢;have h:r.take 32=r:=af (by omega);have d:a.take 32=a:=af (by omega);have g:b.take 32=b:=af (by omega);refine Yg JU ?_;simp[JU,f,e,d,g];refine Yc (aeu a b f e) ?_;simp[d,g];refine Yc (c) ?_;simp[hl,h]
def rI(r:Option (List (D×U))):Option Int:=match r with
 | some [(.val (.int .i64 n),[])]=>some n
 | _=>none
theorem aak{r:Option (List (D×U))}{n:Int}(h:rI r=some n):r=some [(.i n,[])]:=by
 unfold rI at h;split at h
 .cases h;rfl
 .cases h
theorem ac2:(List.range 65).all (λn=>Nat.ble n 1||decide (rI (run T [] 40 143 [.i n] [])=some (sY n)))=true:=by kernel_rfl
theorem aeh(n:Nat)(h0:2<=n)(h1:n<=64):Wf T 143 [.i n] [] (Is (.i (sY n))):=by
 have h:=ac2;rw[List.all_eq_true]at h;have h:=h n (bj.2 (by omega));rw[bQ,decide_eq_true_eq]at h;rcases h with h|h
 .exact absurd (cZ h) (by omega)
 .exact o5 (aak h)
theorem VA{n:Nat}(h:2<=n):1<=sY n/\sY n<n:=by unfold sY;have h1:=Nat.log2_self_le (n:=n-1) (by omega);have a:0<2 ^ (Nat.log2 (n-1)):=Nat.pow_pos (by decide);omega
theorem aaF(k:Nat):oL (k+1) []=kz []:=by rw[oL,ES]
theorem Ts(k:Nat)(x:List Int):oL (k+1) [x]=kz (0::x):=by rw[oL,ES]
theorem Tt(k:Nat){l:List (List Int)}(h:2<=l.length):oL (k+1) l=kz (1::(oL k (l.take (sY l.length))++oL k (l.drop (sY l.length)))):=by
 match l,h with
 | a::b::r,_=>rw[oL,oL,oL,ES]<;>simp
theorem IJ{k:Nat}{l:List (List Int)}(h:l.length<k):(oL k l).length=32:=by
 match k,l with
 | 0,_=>omega
 | k+1,[]=>rw[aaF];exact rD _
 | k+1,[x]=>rw[Ts];exact rD _
 | k+1,a::b::r=>rw[Tt k (by simp)];exact rD _
theorem Qi:∀(k:Nat) (l:List (List Int)),l.length<k->0<l.length->l.length<=64->(∀x∈l,x.length<=3000000000)->Wf T 88 [pd l] [] (Is (.agg (cl fU (oL k l))))
 | 0,l,h,_,_,_=>by omega
 | k+1,l,hk,h0,zK,hx=>by
  by_cases h1:l.length=1
  .obtain⟨x,rfl⟩:∃x,l = [x]:=by
    match l,h1 with
    | [x],_=>exact⟨x,rfl⟩
   rw[Ts];have c:=aeg x (hx x (by simp));have hl:=rD (0::x);obtain⟨r,b⟩:∃r,kz (0::x)=r:=⟨_,rfl⟩;rw[b]at c hl ⊢;have a:r.take 32=r:=af (by omega);refine Yg y8 ?_;simp[y8];refine Yc (c) ?_;simp[hl,a]
  .have o:=VA (n:=l.length) (by omega);have cm:=aeh l.length (by omega) zK;rw[Tt k (by omega)];obtain⟨m,j⟩:∃m,sY l.length=m:=⟨_,rfl⟩;rw[j]at o cm ⊢;have v:(l.take m).length=m:=by rw[aK];omega
   have t:(l.drop m).length=l.length-m:=by rw[aR]
   have i:=Qi k (l.take m) (by omega) (by omega) (by omega) λx h=>hx x (aW h);have g:=Qi k (l.drop m) (by omega) (by omega) (by omega) λx h=>hx x (bw h);have e:=IJ (k:=k) (l:=l.take m) (by omega);have d:=IJ (k:=k) (l:=l.drop m) (by omega);obtain⟨A,q⟩:∃A,oL k (l.take m)=A:=⟨_,rfl⟩;obtain⟨B,p⟩:∃B,oL k (l.drop m)=B:=⟨_,rfl⟩;rw[q]at i e ⊢;rw[p]at g d ⊢;have f:=aei A B e d;have hl:=rD (1::(A++B));obtain⟨r,b⟩:∃r,kz (1::(A++B))=r:=⟨_,rfl⟩;rw[b]at f hl ⊢;have a:r.take 32=r:=af (by omega);have n0:¬l.length=0:=by omega
   have s:(l.drop m).take (l.length-m)=l.drop m:=af (by omega);refine Yg y8 ?_;simp[y8,n0,h1];(with_reducible repeat' first|refine Xk ?_<;>try simp|refine Xs ?_ ?_<;>intro h<;>(try intro u)<;>(try simp[h])<;>try omega|refine Xg ?_|omega);refine Yc (cm) ?_;simp;refine gd ?_;refine Yt (i) ?_;simp;refine jP s ?_
   trace_state
   refine Yt (g) ?_;simp;refine Yt (f) ?_;simp[hl,a]
