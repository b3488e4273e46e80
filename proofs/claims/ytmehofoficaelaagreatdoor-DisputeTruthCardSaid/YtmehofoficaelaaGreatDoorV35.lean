/- Part 35 of DisputeTruth. -/
import Derived.Test.YtmehofoficaelaaGreatDoorV25
set_option linter.all false
namespace Go.Proofs.YtmehofoficaelaaGreatDoor
open Go Go.AL
def zP:List Int:=[1116352408,1899447441,3049323471,3921009573,961987163,1508970993,2453635748,2870763221,3624381080,310598401,607225278,1426881987,1925078388,2162078206,2614888103,3248222580,3835390401,4022224774,264347078,604807628,770255983,1249150122,1555081692,1996064986,2554220882,2821834349,2952996808,3210313671,3336571891,3584528711,113926993,338241895,666307205,773529912,1294757372,1396182291,1695183700,1986661051,2177026350,2456956037,2730485921,2820302411,3259730800,3345764771,3516065817,3600352804,4094571909,275423344,430227734,506948616,659060556,883997877,958139571,1322822218,1537002063,1747873779,1955562222,2024104815,2227730452,2361852424,2428436474,2756734187,3204031479,3329325298]
def A1:List Int:=[1779033703,3144134277,1013904242,2773480762,1359893119,2600822924,528734635,1541459225]
def tn(n x:Int):Int:=bits .or .u32 (mj .u32 x n) (yv .u32 x (32-n))
def xr(a b:Int):Int:=bits .xor .u32 a b
def ad(a b:Int):Int:=IntKind.u32.wrap (a+b)
def mx(x a b c:Int):Int:=xr (xr (tn a x) (tn b x)) (tn c x)
def wp(w:List Int)(n:Nat)(b:Int):List Int:=pt w (n / 4:Nat) (bits .or .u32 (yv .u32 (gt w (n / 4:Nat)) 8) b)
def OQ(b:List Int):Nat->List Int
 | 0=>List.replicate 64 0
 | n+1=>wp (OQ b n) n (IntKind.u32.wrap (gt b n))
@[irreducible] def w1(b:List Int)(n:Nat):List Int:=OQ b n
def wn(w:List Int)(t:Nat):List Int:=pt w t (ad (ad (ad (gt w (t-16:Nat)) (gt w (t-7:Nat))) (xr (xr (tn 7 (gt w (t-15:Nat))) (tn 18 (gt w (t-15:Nat)))) (mj .u32 (gt w (t-15:Nat)) 3)))
 (xr (xr (tn 17 (gt w (t-2:Nat))) (tn 19 (gt w (t-2:Nat)))) (mj .u32 (gt w (t-2:Nat)) 10)))
def OR(w:List Int):Nat->List Int
 | 0=>w
 | m+1=>wn (OR w m) (m+16)
@[irreducible] def w2(w:List Int)(n:Nat):List Int:=OR w n
@[irreducible] def uM(b:List Int):List Int:=w2 (w1 b 64) 48
def z7(c:List Int)(k w:Int):List Int:=match c with
 | [c0,c1,c2,c3,c4,c5,c6,c7]=>
  let x:=ad (ad (ad (ad c7 (mx c4 6 11 25)) (xr (bits .and .u32 c4 c5) (bits .and .u32 (bits .xor .u32 IntKind.u32.max c4) c6))) k) w
  let y:=ad (mx c0 2 13 22) (xr (xr (bits .and .u32 c0 c1) (bits .and .u32 c0 c2)) (bits .and .u32 c1 c2))
  [ad x y,c0,c1,c2,ad c3 x,c4,c5,c6]
 | _=>[]
def N7(w c:List Int):Nat->List Int
 | 0=>c
 | n+1=>z7 (N7 w c n) (gt zP n) (gt w n)
@[irreducible] def rJ(w c:List Int)(n:Nat):List Int:=N7 w c n
@[irreducible] def s0(s b:List Int):List Int:=List.zipWith ad (rJ (uM b) s 64) s
def LO(b:List Int)(s:List Int):Nat->List Int
 | 0=>s
 | n+1=>s0 (LO b s n) ((b.drop (64*n)).take 64)
@[irreducible] def pK(b s:List Int)(n:Nat):List Int:=LO b s n
def zZ(n:Nat):Nat:=63-(n+8) % 64
def xq(n:Int):List Int:=[56,48,40,32,24,16,8,0].map λs:Int=>IntKind.u8.wrap (mj .u64 n s)
@[irreducible] def pad(b:List Int):List Int:=b++128::(List.replicate (zZ b.length) 0++xq (8*b.length))
@[irreducible] def yp(s:List Int):List Int:=(upto 32).map λi=>IntKind.u8.wrap (mj .u32 (gt s (i / 4)) (24-8*(i % 4)))
@[irreducible] def km(b:List Int):List Int:=yp (pK (pad b) A1 ((pad b).length / 64))
def sC(n:Nat):Nat:=2 ^ (Nat.log2 (n-1))
def Em:Nat->List (List Int)->List Int
 | 0,_=>[]
 | _+1,[]=>km []
 | _+1,[x]=>km (0::x)
 | k+1,l=>km (1::(Em k (l.take (sC l.length))++Em k (l.drop (sC l.length))))
@[irreducible] def oj(k:Nat)(l:List (List Int)):List Int:=Em k l
def q'(r:fO):List Int:=IntKind.u8.wrap r.1 :: [24,16,8,0].map λs:Int=>IntKind.u8.wrap (mj .i64 r.2 s)
end Go.Proofs.YtmehofoficaelaaGreatDoor
namespace Go.AL
open Go
@[irreducible] def fW(n:Int):List D:=[.val (.int .u32 n)]
@[simp] theorem V6(n:Int):fW n = [.val (.int .u32 n)]:=by unfold fW;rfl
instance:Fl fW 1:=⟨λ_=>by simp,λ_=>by simp[gw]⟩
@[simp] theorem avQ{l:List Int}{n:Int}{P:D->Prop}:oA (cl fW l)[n.toNat]? P .mk=(n.toNat<l.length/\P (.val (.int .u32 (gt l n)))):=by have:=L4 (f:=fW) (l:=l) (n:=n) (j:=0) (by decide) (P:=P);simpa using this
theorem CY(l:List Int):(l.map λn=>D.val (.int .u32 n))=cl fW l:=by
 rw[nX]
 induction l with
 | nil=>rfl
 | cons a r b=>simp[b]
theorem yW(l:List Int):(l.map λn=>D.val (.int .u8 n))=cl fU l:=by
 rw[nX]
 induction l with
 | nil=>rfl
 | cons a r b=>simp[b]
@[irreducible] def zs(n:Nat):List Int:=List.replicate n 0
theorem uO(n:Nat):zs n=List.replicate n 0:=by unfold zs;rfl
@[simp] theorem azo(n:Nat):(zs n).length=n:=by rw[uO,ey]
@[simp] theorem azn(n:Nat):(zs n).drop n = []:=bR (by simp)
theorem fZ.st{T:il}{live:List Nat}{a:IR}{s b:St}{K:iQ}(hs:s=b)(h:fZ T live a b K .mk):fZ T live a s K .mk:=by subst hs;exact h
@[simp] theorem aqs(n:Nat):Zw n=cl fW (zs n):=by rw[<-CY,uO,dO];rfl
@[simp] theorem aqr(n:Nat):Zb n=cl fU (zs n):=by rw[<-yW,uO,dO];rfl
@[simp] theorem ar7(a b:List Int)(n:Int):cl fW a ++ .val (.int .u32 n)::cl fW b=cl fW (a++n::b):=by rw[<-AA,mO,V6];rfl
@[simp] theorem ace(l:List Int)(n:Int):cl fU l ++ [.val (.int .u8 n)]=cl fU (l ++ [n]):=by rw[<-pL,y8]
@[simp] theorem ahi{l:List Int}{n:Int}{P:D->Prop}:oA (cl fU l)[n.toNat]? P .mk=(n.toNat<l.length/\P (.val (.int .u8 (gt l n)))):=by have:=L4 (f:=fU) (l:=l) (n:=n) (j:=0) (by decide) (P:=P);simpa using this
@[simp] theorem aqF(a b:Int):jN .add .u32 a b=some (.val (.int .u32 (Proofs.YtmehofoficaelaaGreatDoor.ad a b))):=rfl
@[simp high] theorem auL(n:Nat)(t:TypeId)(l:List Int):uE n 0 (some (t,cl fW l))=if n<=l.length then some (.agg (cl fW (l.take n)))else none:=by simp_all
@[simp high] theorem auK(n:Nat)(t:TypeId)(l:List Int):uE n 0 (some (t,cl fU l))=if n<=l.length then some (.agg (cl fU (l.take n)))else none:=by simp_all
@[simp] theorem arp(t:TypeId)(m:Int)(n:Nat):sA t (.val (.int .u32 m)) n=some (.ptr n 0 0,.new (.row t 0 [.val (.int .u32 m)])):=rfl
@[simp] theorem asH(sz v g off len:Nat)(y:D)(H:U):y5 sz (.fM v g sz off len) y H=(kR sz H y).bind λq=>(rowAt H v g).bind λr=>if (off+len)*sz<=r.2.length then some (.i (min q.2 len:Nat),.obj v (.row r.1 g (r.2.take (off*sz)++q.1.take (min q.2 len*sz)++r.2.drop (off*sz+min q.2 len*sz))))else none:=by
 simp only[y5]
 cases kR sz H y with
 | none=>rfl
 | some q=>
  dsimp only
  cases rowAt H v g with
  | none=>rfl
  | some p=>simp
def cB(l:List Int):D:=.lS (l.map λn=>Value.int .u8 n)
@[simp] theorem acp(l:List Int):closed (cB l)=true:=rfl
theorem aaX:∀l:List Int,EF (l.map fU)=some (l.map λn=>Value.int .u8 n)
 | []=>rfl
 | a::r=>by rw[List.map_cons,y8];unfold EF;rw[aaX r];rfl
@[simp] theorem aci(l:List Int):clip 1 (l.map fU)=cB l:=by unfold clip;rw[aaX];rfl
@[simp] theorem avW{l:List Int}{n:Int}{k:IntKind}{P:D->Prop}:oA (mB 1 (cB l) (.val (.int k n))) P .mk=((0<=n/\n<l.length)/\P (.gi [.val (.int .u8 (gt l n))])):=by
 unfold cB;rw[af1,BT,zW,List.length_map];refine propext ⟨λ⟨h,a⟩=>⟨h,?_⟩,λ⟨h,a⟩=>⟨h,?_⟩⟩
 .rw[List.getD_eq_getElem?_getD,av,List.getElem?_eq_getElem (by omega),aG,aW]at a;rw[jb h.1 h.2];exact a
 .rw[List.getD_eq_getElem?_getD,av,List.getElem?_eq_getElem (by omega),aG,aW];rw[jb h.1 h.2]at a;exact a
@[simp] theorem ayI(n:Nat)(l:List Int):ji n (cB l) = []:=rfl
@[simp] theorem arE(l:List Int):cellsOf (cB l)=some [cB l]:=rfl
@[simp] theorem awA(l:List Int):one (cB l)=true:=rfl
@[simp] theorem azc(l:List Int):nv (cB l) = []:=rfl
@[simp] theorem aqw(t bytes:Nat)(l:List Int)(y:D)(H:U)(a:Nat):sy t 1 bytes (cB l) y H a=(kR 1 H y).bind λq=>if q.2≠0/\(l.length+q.2)*bytes<=140737488355328/\l.length+q.2<=9223372036854775807 then some (.fM a 0 1 0 (l.length+q.2),.new (.row t 0 (cl fU l++q.1)))else none:=by unfold cB;rw[abA,List.length_map,bY,<-yW];rfl
theorem agq:Dp=cl fW Proofs.YtmehofoficaelaaGreatDoor.zP:=CY _
theorem UG:Dd=cl fW Proofs.YtmehofoficaelaaGreatDoor.A1:=CY _
end Go.AL
namespace Go.Proofs.YtmehofoficaelaaGreatDoor
open Go Go.AL Classical
set_option maxRecDepth 10000
set_option maxHeartbeats 4000000
theorem amS:∀m:Nat,m<31->bits .and .u64 (IntKind.u64.wrap (-((m:Int)+1))) 31=32-((m:Int)+1)/\IntKind.u64.wrap (32-(32-((m:Int)+1)))=(m:Int)+1:=by decide
theorem al5(a b:Int):bits .or .u32 a b=bits .or .u32 b a:=by simp only[bits,BitVec.or_comm]
theorem FU(x n:Int)(b:1<=n/\n<=31):Wf T 292 [.val (.int .u32 x),.i (-n)] [] (Is (.val (.int .u32 (tn n x)))):=by obtain⟨h1,a⟩:=amS (n-1).toNat (by omega);rw[show(((n-1).toNat:Nat):Int)+1=n by omega]at h1 a;have e:bits .or .u32 (yv .u32 x (32-n)) (mj .u32 x n)=tn n x:=al5 _ _;refine Yg JH ?_;simp[JH,h1,a,jN,e];exact mE
theorem PW(x n:Int)(a:1<=n/\n<=31):Wf T 293 [.i n,.gi [.val (.int .u32 x)]] [] (Is (.val (.int .u32 (tn n x)))):=by refine Yg JI ?_;simp[JI];refine fQ ?_;refine Yc (FU x n a) ?_;simp
theorem V1(x a b c:Int)(f:1<=a/\a<=31)(e:1<=b/\b<=31)(d:1<=c/\c<=31):Wf T 276 [.val (.int .u32 x),.i a,.i b,.i c] [] (Is (.val (.int .u32 (mx x a b c)))):=by refine Yg JE ?_;simp[JE];refine Yr (PW x a f) ?_;simp;refine Yr (PW x b e) ?_;simp;refine Yr (PW x c d) ?_;simp;rfl
theorem wA(x n:Int)(a:1<=n/\n<=31):Wf T 258 [.i n,.val (.int .u32 x)] [] (Is (.val (.int .u32 (tn n x)))):=by refine Yg JA ?_;simp[JA];refine fQ ?_;rfl
@[simp] theorem aza(b:List Int):w1 b 0=zs 64:=by rw[w1,OQ,uO]
theorem aa2(b:List Int)(n:Nat):w1 b (n+1)=wp (w1 b n) n (IntKind.u32.wrap (gt b n)):=by rw[w1,w1,OQ]
@[simp] theorem an1(w:List Int):w2 w 0=w:=by rw[w2,OR]
theorem aa4(w:List Int)(n:Nat):w2 w (n+1)=wn (w2 w n) (n+16):=by rw[w2,w2,OR]
theorem EG(b:List Int):∀n:Nat,n<=64->(w1 b n).length=64
 | 0,_=>by simp
 | n+1,h=>by rw[aa2,wp,iH (by omega) (by rw[EG b n (by omega)];omega),EG b n (by omega)]
theorem IF{w:List Int}(h:w.length=64):∀m:Nat,m<=48->(w2 w m).length=64
 | 0,_=>by rw[an1];exact h
 | m+1,hm=>by rw[aa4,wn,iH (by omega) (by rw[IF h m (by omega)];omega),IF h m (by omega)]
theorem aa3{b:List Int}{i:Int}(i0:0<=i):w1 b (i+1).toNat=pt (w1 b i.toNat) (i / 4) (bits .or .u32 (yv .u32 (gt (w1 b i.toNat) (i / 4)) 8) (IntKind.u32.wrap (gt b i))):=by rw[show(i+1).toNat=i.toNat+1 by omega,aa2,wp,show((i.toNat / 4:Nat):Int)=i / 4 by omega,show((i.toNat:Nat):Int)=i by omega]
theorem aa5{w:List Int}{i:Int}(i0:16<=i):w2 w (i+1-16).toNat=pt (w2 w (i-16).toNat) i (ad (ad (ad (gt (w2 w (i-16).toNat) (i-16)) (gt (w2 w (i-16).toNat) (i-7)))
  (xr (xr (tn 7 (gt (w2 w (i-16).toNat) (i-15))) (tn 18 (gt (w2 w (i-16).toNat) (i-15)))) (mj .u32 (gt (w2 w (i-16).toNat) (i-15)) 3)))
  (xr (xr (tn 17 (gt (w2 w (i-16).toNat) (i-2))) (tn 19 (gt (w2 w (i-16).toNat) (i-2)))) (mj .u32 (gt (w2 w (i-16).toNat) (i-2)) 10))):=by
 rw[show(i+1-16).toNat=(i-16).toNat+1 by omega,aa4,wn]
 rw[show(((i-16).toNat+16:Nat):Int)=i by omega,show(((i-16).toNat+16-16:Nat):Int)=i-16 by omega,show(((i-16).toNat+16-7:Nat):Int)=i-7 by omega,
  show(((i-16).toNat+16-15:Nat):Int)=i-15 by omega,show(((i-16).toNat+16-2:Nat):Int)=i-2 by omega]
theorem Tt(b:List Int):uM b=w2 (w1 b 64) 48:=by rw[uM]
theorem aaH(b:List Int):(uM b).length=64:=by rw[Tt];exact IF (EG b 64 (Nat.le_refl _)) 48 (Nat.le_refl _)
theorem aec(b:List Int)(l:b.length=64):Wf T 275 [cB b] [] (Is (.agg (cl fW (uM b)))):=by
 obtain⟨W,g⟩:∃W,uM b=W:=⟨_,rfl⟩;rw[g];rw[Tt]at g;refine Yg JD ?_;simp[JD];refine fZ.e ((0,zs 64):Int×List Int) (λy=>[(0,cB b),(2,.ptr 0 0 0),(3,.ptr 1 0 0),(10,.i y.1)]) (λy=>[.row 375 0 (cl fW (zs 64)),.row 375 0 (cl fW y.2)]) (λy=>(0<=y.1/\y.1<=64)/\y.2=w1 b y.1.toNat) (λy=>(64-y.1).toNat) ?_ ?_
 .simp
 rintro⟨i,w⟩ ⟨⟨i0,f⟩,c⟩;dsimp only at i0 f c ⊢;have hl:w.length=64:=by rw[c];exact EG b i.toNat (by omega)
 by_cases hi:i<64
 .have h:uG i 4=i / 4:=uH i0 (by omega) (by omega);have hs:=aa3 (b:=b) i0;rw[<-c]at hs;simp[hi,h];refine jH h ?_;refine LJ.e (i+1,pt w (i / 4) (bits .or .u32 (yv .u32 (gt w (i / 4)) 8) (IntKind.u32.wrap (gt b i)))) ?_;exact⟨by omega,im,hs.symm⟩
 .have d:i=64:=by omega
  subst d;simp;refine fZ.st (by simp;rfl) ?_;refine fZ.e ((16,w):Int×List Int) (λy=>[(2,.ptr 0 0 0),(3,.ptr 1 0 0),(5,.i y.1)]) (λy=>[.row 375 0 (cl fW (zs 64)),.row 375 0 (cl fW y.2)]) (λy=>(16<=y.1/\y.1<=64)/\y.2=w2 w (y.1-16).toNat) (λy=>(64-y.1).toNat) ?_ ?_
  .simp
  rintro⟨i,x⟩ ⟨⟨i0,f⟩,a⟩;dsimp only at i0 f a ⊢;have j:x.length=64:=by rw[a];exact IF hl (i-16).toNat (by omega)
  by_cases hi:i<64
  .have hs:=aa5 (w:=w) i0;rw[<-a]at hs;simp[hi];refine fQ ?_;refine Yc (FU _ 7 (by omega)) ?_;simp;refine Yc (FU _ 18 (by omega)) ?_;simp;refine fQ ?_;refine Yc (FU _ 17 (by omega)) ?_;simp;refine Yc (FU _ 19 (by omega)) ?_;simp;refine fQ ?_;refine LJ.i (i+1,w2 w (i+1-16).toNat) (by first|rfl|simp[hs,xr]) (by first|rfl|simp[hs,xr]) rfl rfl ?_;exact⟨by omega,im,rfl⟩
  .have d:i=64:=by omega
   subst d;have e:x=W:=by rw[a,<-g,c,show((64:Int)-16).toNat=48 from rfl,show(64:Int).toNat=64 from rfl]
   subst e;have k:x.take 64=x:=af (by omega);simp[j,k]
theorem ad9(b:List Int)(o:b.length=64):Wf T 256 [dU b] [] (Is (.agg (cl fW (uM b)))):=by
 obtain⟨W,h⟩:∃W,uM b=W:=⟨_,rfl⟩;rw[h];rw[Tt]at h;refine Yg Jz ?_;simp[Jz];refine fZ.e ((0,zs 64):Int×List Int) (λy=>[(0,dU b),(2,.ptr 0 0 0),(3,.ptr 1 0 0),(4,.i y.1)]) (λy=>[.row 375 0 (cl fW (zs 64)),.row 375 0 (cl fW y.2)]) (λy=>(0<=y.1/\y.1<=16)/\y.2=w1 b (4*y.1).toNat) (λy=>(16-y.1).toNat) ?_ ?_
 .simp
 rintro⟨i,w⟩ ⟨⟨i0,g⟩,c⟩;dsimp only at i0 g c ⊢
 by_cases hi:i<16
 .simp[hi];refine fZ.e ((0,w):Int×List Int) (λy=>[(0,dU b),(2,.ptr 0 0 0),(3,.ptr 1 0 0),(4,.i i),(5,.i y.1)]) (λy=>[.row 375 0 (cl fW (zs 64)),.row 375 0 (cl fW y.2)]) (λy=>(0<=y.1/\y.1<=4)/\y.2=w1 b (4*i+y.1).toNat) (λy=>(4-y.1).toNat) ?_ ?_
  .simp[c]
  rintro⟨k,u⟩ ⟨⟨k0,k1⟩,d⟩;dsimp only at k0 k1 d ⊢;have hl:u.length=64:=by rw[d];exact EG b (4*i+k).toNat (by omega)
  by_cases m:k<4
  .have e:=aa3 (b:=b) (i:=4*i+k) (by omega);rw[<-d,show(4*i+k) / 4=i by omega,show 4*i+k+1=4*i+(k+1)by omega]at e;simp[m];refine fQ ?_;refine LJ.i (k+1,w1 b (4*i+(k+1)).toNat) (by first|rfl|simp[e]) (by first|rfl|simp[e]) rfl rfl ?_;exact⟨by omega,im,rfl⟩
  .have j:k=4:=by omega
   subst j;simp;refine fQ ?_;refine LJ.e (i+1,u) ?_;exact⟨by omega,im,by rw[d,show 4*(i+1)=4*i+4 by omega]⟩
 .have f:i=16:=by omega
  subst f;have hl:w.length=64:=by rw[c];exact EG b _ (by omega)
  simp;refine fZ.st (by simp;rfl) ?_;refine fZ.e ((16,w):Int×List Int) (λy=>[(2,.ptr 0 0 0),(3,.ptr 1 0 0),(6,.i y.1)]) (λy=>[.row 375 0 (cl fW (zs 64)),.row 375 0 (cl fW y.2)]) (λy=>(16<=y.1/\y.1<=64)/\y.2=w2 w (y.1-16).toNat) (λy=>(64-y.1).toNat) ?_ ?_
  .simp
  rintro⟨i,x⟩ ⟨⟨i0,g⟩,a⟩;dsimp only at i0 g a ⊢;have l:x.length=64:=by rw[a];exact IF hl (i-16).toNat (by omega)
  by_cases hi:i<64
  .have hs:=aa5 (w:=w) i0;rw[<-a]at hs;simp[hi];refine fQ ?_;refine Yt (wA _ 7 (by omega)) ?_;simp;refine Yt (wA _ 18 (by omega)) ?_;simp;refine Yt (wA _ 17 (by omega)) ?_;simp;refine Yt (wA _ 19 (by omega)) ?_;simp;refine fQ ?_;refine LJ.i (i+1,w2 w (i+1-16).toNat) (by first|rfl|simp[hs,xr]) (by first|rfl|simp[hs,xr]) rfl rfl ?_;exact⟨by omega,im,rfl⟩
  .have f:i=64:=by omega
   subst f;have e:x=W:=by rw[a,<-h,c,show((64:Int)-16).toNat=48 from rfl,show(4*16:Int).toNat=64 from rfl]
   subst e;have n:x.take 64=x:=af (by omega);simp[l,n]
theorem len8{l:List Int}(h:l.length=8):∃a b c d e f g i,l = [a,b,c,d,e,f,g,i]:=by
 match l,h with
 | [a,b,c,d,e,f,g,i],_=>exact⟨a,b,c,d,e,f,g,i,rfl⟩
theorem CX(a b c d e f g i:Int):cl fW [a,b,c,d,e,f,g,i] = [.val (.int .u32 a),.val (.int .u32 b),.val (.int .u32 c),.val (.int .u32 d),.val (.int .u32 e),.val (.int .u32 f),.val (.int .u32 g),.val (.int .u32 i)]:=(CY _).symm
theorem amt{c:List Int}(h:c.length=8)(k w:Int):(z7 c k w).length=8:=by obtain⟨_,_,_,_,_,_,_,_,rfl⟩:=len8 h;rfl
theorem SS(w c:List Int):rJ w c 0=c:=by rw[rJ,N7]
theorem Z5(w c:List Int)(n:Nat):rJ w c (n+1)=z7 (rJ w c n) (gt zP n) (gt w n):=by rw[rJ,rJ,N7]
theorem Eg(w:List Int){c:List Int}(h:c.length=8):∀n,(rJ w c n).length=8
 | 0=>by rw[SS];exact h
 | n+1=>by rw[Z5];exact amt (Eg w h n) _ _
theorem Z6{w c:List Int}{i:Int}(i0:0<=i):rJ w c (i+1).toNat=z7 (rJ w c i.toNat) (gt zP i) (gt w i):=by rw[show(i+1).toNat=i.toNat+1 by omega,Z5,show((i.toNat:Nat):Int)=i by omega]
@[simp] theorem axc(H:U)(b:List Int):iv H 40 (cB b) = []:=by unfold iv;rw[if_pos (acp b)]
@[simp] theorem ay7(n:Int):ED .xor (.val (.int .u32 n))=some (.val (.int .u32 (bits .xor .u32 IntKind.u32.max n))):=rfl
@[simp] theorem avR{l:List Int}{n:Int}{P:D->Prop}:oA (cl fW (l.drop n.toNat))[0]? P .mk=(n.toNat<l.length/\P (.val (.int .u32 (gt l n)))):=by
 by_cases h:n.toNat<l.length
 .rw[bH h,mO,V6];have:gt l n=l[n.toNat]:=by unfold gt;rw[List.getD_eq_getElem?_getD,List.getElem?_eq_getElem h];rfl
  rw[this];simp[h]
 .rw[bR (by omega)];simp[h]
theorem Yk:zP.length=64:=rfl
def ZW(c s:List Int)(i:Int)(u:List Int):Prop:=u.length=8/\∀j:Int,0<=j->gt u j=if j<i then ad (gt c j) (gt s j)else gt c j
theorem ZW.z{c s:List Int}(h:c.length=8):ZW c s 0 c:=⟨h,λj j0=>by rw[if_neg (by omega)]⟩
theorem ZW.n{c s u:List Int}{i:Int}(h:ZW c s i u)(i0:0<=i)(b:i<8):ZW c s (i+1) (pt u i (ad (gt u i) (gt s i))):=by
 have h1:=h.1;refine⟨by rw[iH i0 (by omega)];exact h1,λj j0=>?_⟩;rw[pq i0 (by omega) j0];have a:=h.2 j j0
 by_cases e:j=i
 .subst e;rw[if_pos rfl,if_pos (by omega),a,if_neg (by omega)]
 .rw[if_neg e,a]
  by_cases q:j<i
  .rw[if_pos q,if_pos (by omega)]
  .rw[if_neg q,if_neg (by omega)]
theorem ZW.e{c s u:List Int}(h:ZW c s 8 u)(hs:s.length=8)(b:c.length=8):u=List.zipWith ad c s:=by have h1:=h.1;refine bC (by rw[List.length_zipWith];omega) λj j0 j1=>?_;have a:=h.2 j (by omega);rw[if_pos (by omega),jb (by omega) (by omega),jb (by omega) (by omega),jb (by omega) (by omega)]at a;rw[List.getElem_zipWith];exact a
theorem ad6(s b:List Int)(hs:s.length=8)(v:b.length=64):Wf T 223 [.agg (cl fW s),cB b] [] (Is (.agg (cl fW (s0 s b)))):=by
 have c:=aec b v;have l:=aaH b;obtain⟨r,j⟩:∃r,s0 s b=r:=⟨_,rfl⟩;have f:List.zipWith ad (rJ (uM b) s 64) s=r:=by rw[<-j,s0]
 rw[j];obtain⟨w,m⟩:∃w,uM b=w:=⟨_,rfl⟩;rw[m]at c l f;clear m j;obtain⟨K,k⟩:∃K,zP=K:=⟨_,rfl⟩;have B:K.length=64:=by rw[<-k];exact Yk
 have o:s.take 8=s:=af (by omega);refine Yg Jx ?_;simp[Jx,agq,k];refine Yt (c) ?_;simp[o,hs,l];refine fZ.e ((0,s):Int×List Int) (λy=>[(2,.ptr 0 0 0),(4,.ptr 1 0 0),(5,.ptr 2 0 0),(6,.ptr 3 0 0),(14,.i y.1)]) (λy=>[.row 323 0 (cl fW s),.row 323 0 (cl fW (zs 8)),.row 375 0 (cl fW w),.row 323 0 (cl fW y.2)]) (λy=>(0<=y.1/\y.1<=64)/\y.2=rJ w s y.1.toNat) (λy=>(64-y.1).toNat) ?_ ?_
 .simp[SS]
 rintro⟨i,c⟩ ⟨⟨i0,h⟩,a⟩;dsimp only at i0 h a ⊢
 by_cases hi:i<64
 .have e:=Z6 (w:=w) (c:=s) i0;rw[<-a,k]at e;obtain⟨A,G,c2,F,z,E,D,C,x⟩:=len8 (show c.length=8 by rw[a];exact Eg w hs _);subst x;rw[CX];simp[hi];refine Yt (V1 z 6 11 25 (by omega) (by omega) (by omega)) ?_;simp;refine fQ ?_;refine Yt (V1 A 2 13 22 (by omega) (by omega) (by omega)) ?_;simp;refine fQ ?_;refine LJ.i (i+1,rJ w s (i+1).toNat) (by first|rfl|simp[e,z7,CX,xr]) (by first|rfl|simp[e,z7,CX,xr]) rfl rfl ?_;exact⟨by omega,im,rfl⟩
 .have g:i=64:=by omega
  subst g;have n:c.length=8:=by rw[a];exact Eg w hs _
  have q:List.zipWith ad c s=r:=by rw[a];exact f
  clear a f;simp;refine fZ.st (by simp;rfl) ?_;refine fZ.e ((0,c):Int×List Int) (λy=>[(2,.ptr 0 0 0),(4,.ptr 1 0 0),(6,.ptr 3 0 0),(78,.i y.1)]) (λy=>[.row 323 0 (cl fW s),.row 323 0 (cl fW (zs 8)),.row 375 0 (cl fW w),.row 323 0 (cl fW y.2)]) (λy=>(0<=y.1/\y.1<=8)/\ZW c s y.1 y.2) (λy=>(8-y.1).toNat) ?_ ?_
  .exact⟨by simp,ZW.z n⟩
  rintro⟨i,u⟩ ⟨⟨i0,h⟩,d⟩;dsimp only at i0 h d ⊢;have p:=d.1
  by_cases hi:i<8
  .simp[hi];refine fQ ?_;refine LJ.e (i+1,pt u i (ad (gt u i) (gt s i))) ?_;exact⟨by omega,im,d.n i0 hi⟩
  .have g:i=8:=by omega
   subst g;have e:u=r:=by rw[<-q];exact d.e hs n
   subst e;have t:u.take 8=u:=af (by omega);simp[p,t]
theorem aea:Wf T 257 [] [] (Is (.agg (cl fW zP))):=by rw[<-CY];exact oL (k:=20) (by kernel_rfl)
theorem VW:Wf T 208 [] [] (Is (.agg (cl fW A1))):=by rw[<-CY];exact oL (k:=20) (by kernel_rfl)
theorem VX(s b:List Int)(hs:s.length=8)(A:b.length=64):Wf T 209 [.agg (cl fW s),dU b] [] (Is (.agg (cl fW (s0 s b)))):=by
 have c:=ad9 b A;have f:=aaH b;have ck:=aea;obtain⟨r,k⟩:∃r,s0 s b=r:=⟨_,rfl⟩;have g:List.zipWith ad (rJ (uM b) s 64) s=r:=by rw[<-k,s0]
 rw[k];obtain⟨w,p⟩:∃w,uM b=w:=⟨_,rfl⟩;rw[p]at c f g;clear p k;obtain⟨K,l⟩:∃K,zP=K:=⟨_,rfl⟩;have x:K.length=64:=by rw[<-l];exact Yk
 rw[l]at ck;have o:s.take 8=s:=af (by omega);refine Yg Jt ?_;simp[Jt];refine Yc (c) ?_;simp[o,hs,f];refine Yc (ck) ?_;simp[o,hs,f,x];refine fZ.e ((0,s):Int×List Int) (λy=>[(2,.ptr 0 0 0),(4,.ptr 1 0 0),(5,.ptr 2 0 0),(6,.ptr 3 0 0),(7,.ptr 4 0 0),(8,.i y.1)]) (λy=>[.row 323 0 (cl fW s),.row 323 0 (cl fW (zs 8)),.row 375 0 (cl fW w),.row 375 0 (cl fW K),.row 323 0 (cl fW y.2)]) (λy=>(0<=y.1/\y.1<=64)/\y.2=rJ w s y.1.toNat) (λy=>(64-y.1).toNat) ?_ ?_
 .simp[SS]
 rintro⟨i,c⟩ ⟨⟨i0,j⟩,a⟩;dsimp only at i0 j a ⊢
 by_cases hi:i<64
 .have e:=Z6 (w:=w) (c:=s) i0;rw[<-a,l]at e;obtain⟨n,G,c2,F,m,E,D,C,B⟩:=len8 (show c.length=8 by rw[a];exact Eg w hs _);subst B;rw[CX];simp[hi];refine Yt (wA m 6 (by omega)) ?_;simp;refine Yt (wA m 11 (by omega)) ?_;simp;refine Yt (wA m 25 (by omega)) ?_;simp;refine fQ ?_;refine Yt (wA n 2 (by omega)) ?_;simp;refine Yt (wA n 13 (by omega)) ?_;simp;refine Yt (wA n 22 (by omega)) ?_;simp;refine fQ ?_;refine LJ.i (i+1,rJ w s (i+1).toNat) (by first|rfl|simp[e,z7,CX,xr,mx]) (by first|rfl|simp[e,z7,CX,xr,mx]) rfl rfl ?_;exact⟨by omega,im,rfl⟩
 .have h:i=64:=by omega
  subst h;have q:c.length=8:=by rw[a];exact Eg w hs _
  have v:List.zipWith ad c s=r:=by rw[a];exact g
  clear a g;simp;refine fZ.st (by simp;rfl) ?_;refine fZ.e ((0,c):Int×List Int) (λy=>[(2,.ptr 0 0 0),(4,.ptr 1 0 0),(7,.ptr 4 0 0),(11,.i y.1)]) (λy=>[.row 323 0 (cl fW s),.row 323 0 (cl fW (zs 8)),.row 375 0 (cl fW w),.row 375 0 (cl fW K),.row 323 0 (cl fW y.2)]) (λy=>(0<=y.1/\y.1<=8)/\ZW c s y.1 y.2) (λy=>(8-y.1).toNat) ?_ ?_
  .exact⟨by simp,ZW.z q⟩
  rintro⟨i,u⟩ ⟨⟨i0,j⟩,d⟩;dsimp only at i0 j d ⊢;have t:=d.1
  by_cases hi:i<8
  .simp[hi];refine fQ ?_;refine LJ.e (i+1,pt u i (ad (gt u i) (gt s i))) ?_;exact⟨by omega,im,d.n i0 hi⟩
  .have h:i=8:=by omega
   subst h;have e:u=r:=by rw[<-v];exact d.e hs q
   subst e;have z:u.take 8=u:=af (by omega);simp[t,z]
@[simp] theorem ayv(H:U)(l:List Int):kR 1 H (dU l)=some (cl fU l,l.length):=by unfold dU;exact Il ..
theorem OU(n:Nat):zs n ++ [0]=zs (n+1):=by rw[uO,uO,eC]
@[simp] theorem azm:zs 0 = []:=by rw[uO];rfl
theorem abL(n:Int):(xq n).length=8:=rfl
theorem LI(n:Int){i:Int}(i0:0<=i)(a:i<8):gt (xq n) i=IntKind.u8.wrap (mj .u64 n (56-8*i)):=by
 have:i=0\/i=1\/i=2\/i=3\/i=4\/i=5\/i=6\/i=7:=by omega
 rcases this with rfl|rfl|rfl|rfl|rfl|rfl|rfl|rfl<;>rfl
theorem OI{l:List Int}{i:Int}(i0:0<=i)(a:i<l.length):l.take (i+1).toNat=l.take i.toNat ++ [gt l i]:=by rw[show(i+1).toNat=i.toNat+1 by omega,dm,List.getElem?_eq_getElem (by omega),dQ,<-jb i0 a]
@[simp] theorem aqN(a b:Int):jN .mul .u64 a b=some (.val (.int .u64 (IntKind.u64.wrap (a*b)))):=rfl
theorem wrap_u64{s:Int}(h0:0<=s)(h1:s<9223372036854775808):IntKind.u64.wrap s=s:=by show s % 18446744073709551616=s;omega
theorem ad0(b:List Int)(D:b.length<=4000000000):Wf T 207 [dU b] [] (Is (dU (pad b))):=by
 obtain⟨B,d⟩:∃B,xq (8*b.length)=B:=⟨_,rfl⟩;have E:B.length=8:=by rw[<-d];rfl
 have x:∀i:Int,0<=i->i<8->gt B i=IntKind.u8.wrap (mj .u64 (8*b.length) (56-8*i)):=λi i0 f=>by rw[<-d];exact LI _ i0 f
 obtain⟨p,j⟩:∃p,zZ b.length=p:=⟨_,rfl⟩;have A:p=63-(b.length+8) % 64:=by rw[<-j];rfl
 have hP:pad b=b++128::zs p++B:=by rw[pad,d,j,uO];simp
 obtain⟨C,o⟩:∃C,b++128::zs p=C:=⟨_,rfl⟩;rw[hP,o];clear hP d j;have n:IntKind.u64.wrap (b.length:Int)=b.length:=wrap_u64 (by omega) (by omega);have m:IntKind.u64.wrap (8*(b.length:Int))=8*b.length:=wrap_u64 (by omega) (by omega);refine Yg Cu ?_;simp[Cu];refine fQ ?_;refine fZ.e ((2,b ++ [128]):Nat×List Int) (λy=>[(0,dU b),(3,.fM 0 y.1 1 0 y.2.length)]) (λy=>[.row 5 y.1 (cl fU y.2),.row 5 0 [.val (.int .u8 128)]]) (λy=>∃k:Nat,k<=p/\y.2=b++128::zs k) (λy=>b.length+1+p-y.2.length) ?_ ?_
 .exact⟨0,by omega,by simp⟩
 rintro⟨g,q⟩ ⟨k,k0,a⟩;dsimp only at k0 a ⊢;have F:q.length=b.length+1+k:=by rw[a];simp;omega
 have h:gp ((q.length:Int)+8) 64=((q.length:Int)+8) % 64:=jt (by omega)
 by_cases v:k<p
 .have h1:¬((q.length:Int)+8) % 64=0:=by omega
  have t:q ++ [0]=b++128::zs (k+1):=by rw[a,<-OU];simp
  simp[h,h1];refine jH h ?_;refine LJ.e (g+1,q ++ [0]) ?_;exact⟨by simp;omega,k+1,v,t⟩
 .have r:k=p:=by omega
  subst r;have h1:((q.length:Int)+8) % 64=0:=by omega
  rw[o]at a;subst a;simp[h,h1,n,m];refine kM n m ?_;refine fZ.e ((0,g,q):Int×Nat×List Int) (λy=>[(3,.fM 0 y.2.1 1 0 y.2.2.length),(4,.val (.int .u64 (8*b.length))),(5,.i y.1)]) (λy=>[.row 5 y.2.1 (cl fU y.2.2),.row 5 0 [.val (.int .u8 128)]]) (λy=>(0<=y.1/\y.1<=8)/\y.2.2=q++B.take y.1.toNat) (λy=>(8-y.1).toNat) ?_ ?_
  .simp
  rintro⟨i,w,u⟩ ⟨⟨i0,f⟩,c⟩;dsimp only at i0 f c ⊢;have z:u.length=q.length+i.toNat:=by rw[c];simp;omega
  by_cases hi:i<8
  .have e:=OI (l:=B) i0 (by omega);rw[x i i0 hi]at e;simp[hi];refine fQ ?_;refine LJ.e (i+1,w+1,u ++ [IntKind.u8.wrap (mj .u64 (8*b.length) (56-8*i))]) ?_;exact⟨by omega,im,by rw[e,c,aJ]⟩
  .have s:i=8:=by omega
   subst s;have e:u=q++B:=by rw[c,af (by omega)]
   subst e;simp;refine fQ ?_;rw[xC,List.map_append]
@[simp] theorem ayo(f:gL)(l:List Int)(lo hi:Option X):tS f 1 (dU l) lo hi=(gY f lo 0).bind λa=>(gY f hi l.length).bind λh=>if 0<=a/\a<=h/\h<=l.length then some (dU ((l.drop a.toNat).take (h.toNat-a.toNat)))else none:=by unfold dU;rw[To,List.length_map];simp only[Ow]
theorem ZN(b:List Int):(pad b).length % 64=0/\(pad b).length<=b.length+73:=by rw[pad];have h:zZ b.length=63-(b.length+8) % 64:=rfl;have a:=abL (8*b.length);simp only[aj,aH,ey,a];omega
theorem LF{s b:List Int}(h:s.length=8):(s0 s b).length=8:=by rw[s0,List.length_zipWith,Eg _ h];omega
theorem LL(b s:List Int):pK b s 0=s:=by rw[pK,LO]
theorem LN(b s:List Int)(n:Nat):pK b s (n+1)=s0 (pK b s n) ((b.drop (64*n)).take 64):=by rw[pK,pK,LO]
theorem CS(b:List Int){s:List Int}(h:s.length=8):∀n,(pK b s n).length=8
 | 0=>by rw[LL];exact h
 | n+1=>by rw[LN];exact LF (CS b h n)
theorem Ea(s:List Int):(yp s).length=32:=by rw[yp,List.length_map];rfl
theorem N1(s:List Int){i:Int}(i0:0<=i)(a:i<32):gt (yp s) i=IntKind.u8.wrap (mj .u32 (gt s (i / 4)) (24-8*(i % 4))):=by
 have hl:(upto 32).length=32:=rfl;rw[jb i0 (by rw[Ea];omega)]
 have e:(upto 32)[i.toNat]'(by omega)=i:=by unfold upto;simp;omega
 simp only[yp,List.getElem_map,e]
theorem VT(b:List Int)(J:b.length<=4000000000):Wf T 141 [dU b] [] (Is (.agg (cl fU (km b)))):=by
 have p:=ad0 b J;have q:=VW;have G:=ZN b;obtain⟨P,hP⟩:∃P,pad b=P:=⟨_,rfl⟩;obtain⟨S,hS⟩:∃S,A1=S:=⟨_,rfl⟩;have v:S.length=8:=by rw[<-hS];rfl
 obtain⟨r,o⟩:∃r,km b=r:=⟨_,rfl⟩;have d:yp (pK P S (P.length / 64))=r:=by rw[<-o,km,hP,hS]
 rw[hP]at p G;rw[hS]at q;rw[o];clear hP hS o;refine Yg Cs ?_;simp[Cs];refine Yc (p) ?_;simp;refine Yc (q) ?_;simp[v];refine fZ.e ((0,S):Int×List Int) (λy=>[(2,.ptr 0 0 0),(3,dU P),(4,.ptr 1 0 0),(5,.i y.1)]) (λy=>[.row 70 0 (cl fU (zs 32)),.row 323 0 (cl fW y.2)]) (λy=>∃n:Nat,y.1=64*n/\y.1<=P.length/\y.2=pK P S n) (λy=>(P.length+64-y.1).toNat) ?_ ?_
 .exact⟨0,by simp,by simp,by simp[LL]⟩
 rintro⟨i,s⟩ ⟨n,gy,l,hs⟩;dsimp only at gy l hs ⊢;have a:s.length=8:=by rw[hs];exact CS P v n
 by_cases hi:i<P.length
 .have f:s.take 8=s:=af (by omega);have x:((P.drop i.toNat).take 64).length=64:=by rw[aK,aR];omega
  have e:=LN P S n;rw[<-hs,show 64*n=i.toNat by omega]at e;have F:(i+64).toNat-i.toNat=64:=by omega
  obtain⟨B,E⟩:∃B,(P.drop i.toNat).take 64=B:=⟨_,rfl⟩;rw[E]at x e;have c:=VX s B a x;have z:=LF (s:=s) (b:=B) a;obtain⟨A,I⟩:∃A,s0 s B=A:=⟨_,rfl⟩;rw[I]at c e z;simp[hi,a,f];refine qJ a f F ?_;rw[F,E];have w:s.drop 8 = []:=bR (by omega);refine Yt (c) ?_;simp[z,a,f];refine fQ ?_;refine LJ.i (i+64,A) (by first|rfl|simp[w]) (by first|rfl|simp[w]) rfl rfl ?_;exact⟨by omega,n+1,by omega,by omega,e.symm⟩
 .have k:n=P.length / 64:=by omega
  rw[<-k,<-hs]at d;have K:r.length=32:=by rw[<-d];exact Ea s
  have t:∀j:Int,0<=j->j<32->gt r j=IntKind.u8.wrap (mj .u32 (gt s (j / 4)) (24-8*(j % 4))):=λj j0 j1=>by rw[<-d];exact N1 s j0 j1
  clear d hs p q;simp[hi];refine fQ ?_;refine fZ.e ((0,zs 32):Int×List Int) (λy=>[(2,.ptr 0 0 0),(4,.ptr 1 0 0),(6,.ptr 2 0 0),(7,.i y.1)]) (λy=>[.row 70 0 (cl fU (zs 32)),.row 323 0 (cl fW s),.row 70 0 (cl fU y.2)]) (λy=>(0<=y.1/\y.1<=32)/\y.2.length=32/\∀j:Int,0<=j->j<y.1->gt y.2 j=gt r j) (λy=>(32-y.1).toNat) ?_ ?_
  .exact⟨by simp,by simp,λj j0 j1=>absurd j1 (by dsimp only;omega)⟩
  rintro⟨i,u⟩ ⟨⟨i0,l⟩,g,m⟩;dsimp only at i0 l g m ⊢
  by_cases hi:i<32
  .have C:uG i 4=i / 4:=uH i0 (by omega) (by omega);have D:gp i 4=i % 4:=jt i0;simp[hi,C,D];refine kM C D ?_;refine LJ.i (i+1,pt u i (gt r i)) (by first|rfl|simp[t i i0 hi]) (by first|rfl|simp[t i i0 hi]) rfl rfl ?_;refine⟨by omega,im,by rw[iH i0 (by omega)];exact g,λj j0 j1=>?_⟩;dsimp only at j1 ⊢;rw[pq i0 (by omega) j0]
   by_cases e:j=i
   .rw[if_pos e,e]
   .rw[if_neg e];exact m j j0 (by omega)
  .have k:i=32:=by omega
   subst k
   have e:u=r:=by refine bC (by omega) λj j0 j1=>?_;have h:=m j (by omega) (by omega);rw[jb (by omega) (by omega),jb (by omega) (by omega)]at h;exact h
   subst e;have H:u.take 32=u:=af (by omega);simp[g,H]
def Qb(v:List fO)(b:List Bool):Nat->Int
 | 0 => -1
 | n+1=>if gt b (n:Int)=false/\(gt v (n:Int)).1≠2 then max (Qb v b n) (gt v (n:Int)).2 else Qb v b n
@[simp] theorem atC(v:List fO)(b:List Bool):Qb v b 0 = -1:=rfl
def NC(b:List Bool)(part:List Int)(n:Int):Nat->Int×Int
 | 0=>(0,-1)
 | k+1=>if gt b (gt part (k:Int))=true/\uG (gt part (k:Int)) n≠(NC b part n k).2 then((NC b part n k).1+1,uG (gt part (k:Int)) n)else NC b part n k
@[simp] theorem auP(b:List Bool)(part:List Int)(n:Int):NC b part n 0=(0,-1):=rfl
noncomputable def AI(g:fY)(p:Pos):Int:=if ended g p then(gt g.clauses (uh g p)).out else 0
theorem ac2{g:fY}{p:Pos}{i:Int}(i0:0<=i)(hi:i<g.clauses.length)(d:∀c∈g.clauses.take i.toNat,¬kO p c)(h:kO p (gt g.clauses i)):AI g p=(gt g.clauses i).out:=by
 have a:ended g p:=⟨_,gq i0 hi,h⟩
 have b:g.clauses.findIdx (λc=>decide (kO p c))=i.toNat:=by
  rw[List.findIdx_eq (by omega)];refine⟨?_,λj e=>?_⟩
  .have:gt g.clauses i=g.clauses[i.toNat]:=by unfold gt;rw[List.getD_eq_getElem?_getD,List.getElem?_eq_getElem (by omega)];rfl
   rw[<-this];simpa using h
  .simp only[decide_eq_false_iff_not];refine d _ ?_;rw[dH];exact⟨j,by omega,rfl⟩
 unfold AI uh;rw[if_pos a,if_pos a,b];congr 1
theorem aer(g:fY)(hg:gN g)(p:Pos)(l:ij g p):Wf T 113 [dG g,dP p] [] (Is (.tup [.i (AI g p),.b (decide (ended g p))])):=by
 have r:=hg.clauses;refine Yg CE ?_;simp[CE];refine fZ.e (0:Int) (λy=>[(2,.ptr 0 0 0),(3,.ptr 1 0 0),(9,dN 4 Clause.cells g.clauses),(10,.i g.clauses.length),(11,.i y)]) (λy=>[.row 43 0 g.cells,.row 46 0 p.cells]) (λy=>0<=y/\y<=g.clauses.length/\∀c∈g.clauses.take y.toNat,¬kO p c) (λy=>(g.clauses.length-y).toNat) ?_ ?_
 .simp
 rintro i ⟨i0,o,k⟩
 by_cases hi:i<g.clauses.length
 .have m:=gq i0 hi;have d:=hg.clause _ m;have q:=d.ok;have s:kO p (gt g.clauses i)->decide (ended g p)=true:=λh=>decide_eq_true ⟨_,m,h⟩;have n:kO p (gt g.clauses i)->ended g p:=λh=>⟨_,m,h⟩;have f:kO p (gt g.clauses i)->AI g p=(gt g.clauses i).out:=λh=>ac2 i0 hi k h
  have j:¬kO p (gt g.clauses i)->∀c∈g.clauses.take (i+1).toNat,¬kO p c:=λh c d=>by
   rw[jd i0 hi]at d;rcases List.mem_append.1 d with d|d
   .exact k c d
   .rw[List.mem_singleton.1 d];exact h
  simp[hi];refine fQ ?_;rcases(show(gt g.clauses i).cond=1\/(gt g.clauses i).cond=2\/(gt g.clauses i).cond=3 by omega)with e|e|e
  .simp[e];refine Yt (f294 g hg p l ⟨1,(gt g.clauses i).kind,(gt g.clauses i).n,(gt g.clauses i).out⟩ (by dsimp only;omega)) ?_;simp;have b:kO p (gt g.clauses i)=(sh p p.side (gt g.clauses i).kind=0):=by simp[kO,e]
   by_cases a:sh p p.side (gt g.clauses i).kind=0
   .simp[a];exact⟨(f (b▸a)).symm,n (b▸a)⟩
   .simp[a];refine fQ ?_;refine LJ.e (i+1) ?_;exact gI (j (b▸a))
  .simp[e];refine Yt (f296 g hg p l ⟨2,(gt g.clauses i).kind,(gt g.clauses i).n,(gt g.clauses i).out⟩ (by dsimp only;omega) (by dsimp only;omega)) ?_;simp;have b:kO p (gt g.clauses i)=(gt p.cs (gt g.clauses i).n=lI (gt g.clauses i).kind (1-p.side)):=by simp[kO,e]
   by_cases a:gt p.cs (gt g.clauses i).n=lI (gt g.clauses i).kind (1-p.side)
   .simp[a];exact⟨(f (b▸a)).symm,n (b▸a)⟩
   .simp[a];refine fQ ?_;refine LJ.e (i+1) ?_;exact gI (j (b▸a))
  .simp[e];refine Yt (f297 g hg p l ⟨3,(gt g.clauses i).kind,(gt g.clauses i).n,(gt g.clauses i).out⟩) ?_;simp;have b:kO p (gt g.clauses i)=(sh p p.side (-1)<=(gt g.clauses i).n):=by simp[kO,e]
   by_cases a:sh p p.side (-1)<=(gt g.clauses i).n
   .simp[a];exact⟨(f (b▸a)).symm,n (b▸a)⟩
   .simp[a];refine fQ ?_;refine LJ.e (i+1) ?_;exact gI (j (b▸a))
 .simp[hi];have:¬ended g p:=λ⟨c,d,h⟩=>k c (by rw[kW (by omega)];exact d) h;simp[AI,this]
theorem f54(g:fY)(hg:gN g)(p:Pos)(a:ij g p):Wf T 58 [dG g,dP p] [] (Is (.tup [.i (stat g p).1,.b (stat g p).2])):=by
 have b:ended g p->iJ g p = []:=NO;refine Yg K7 ?_;simp[K7];refine Yc (aer g hg p a) ?_;simp
 by_cases h0:ended g p
 .simp[h0,stat,AI,b h0]
 .simp[h0,stat,AI];refine Yc (f26 g hg p a) ?_;simp;refine jU ?_ ?_<;>intro h
  all_goals simp[h0, *]
set_option maxHeartbeats 8000000
def lF(v:List fO)(b:List Bool)(x:List Int):Nat->Int×Int
 | 0=>(0,-1)
 | j+1=>if gt b (gt x (j:Int))=false/\(gt v (gt x (j:Int))).1=1 then((lF v b x j).1+1,max (lF v b x j).2 (gt v (gt x (j:Int))).2)else lF v b x j
@[simp] theorem azl(v:List fO)(b:List Bool)(x:List Int):lF v b x 0=(0,-1):=rfl
theorem an4{v:List fO}{b:List Bool}{x:List Int}{i:Int}(i0:0<=i):lF v b x (i+1).toNat=if gt b (gt x i)=false/\(gt v (gt x i)).1=1 then((lF v b x i.toNat).1+1,max (lF v b x i.toNat).2 (gt v (gt x i)).2)else lF v b x i.toNat:=by
 have h:(i+1).toNat=i.toNat+1:=by omega
 have a:((i.toNat:Nat):Int)=i:=by omega
 rw[h,lF,a]
def BK(v:List fO)(b:List Bool)(x:List Int)(n:Int):Prop:=∃k∈x,gt b k=false/\gt v k=(3,n-1)
noncomputable def oU(g:fY)(p:Pos)(v:List fO)(b:List Bool)(x:List Int)(n:Int):fO×Bool:=
 if n=0 then(((stat g p).1,0),(stat g p).2)else
 if BK v b x n then((1,n),true)else((3,n),decide (0<x.length/\(lF v b x x.length).1=x.length/\(lF v b x x.length).2=n-1))
theorem OS(v:List fO)(b:List Bool)(x:List Int):∀k:Nat,0<=(lF v b x k).1/\(lF v b x k).1<=k
 | 0=>by simp
 | k+1=>by
  have:=OS v b x k;unfold lF;split
  .dsimp only;omega
  .omega
end Go.Proofs.YtmehofoficaelaaGreatDoor
namespace Go.AL
open Go
section
variable{T:il}{live:List Nat}{a:IR}{s:St}{K:iQ}{α:Type}
theorem fZ.kg(ms:List Nat)(rd:Bool)(b:α)(E:α->Env)(c:α->U)(P:α->Prop)(d:α->Nat)
  (h0:P b) (l:forget ((E b).map (·.1)) s.env=E b) (j:s.H=c b) (i:s.marks=ms) (g:s.iq=rd) (f:(((E b).map (·.1)).all λk=>live.contains k)=true)
  (h:∀x,P x->XC T a { env:=E x,H:=c x,marks:=ms,iq:=rd } (vJ s.H.length live ((E b).map (·.1)) (LJ E c ms rd (λe=>d e<d x/\P e) .mk) K)):fZ T live a s K .mk:=
 fZ.j b E c P d h0 l j f (by rw[i,g];exact h)
end
def Mo(H:U):Option Ob->Option D
 | some (.iX (.gx m) since seen)=>(lD H m).bind λp=>seen.getLast?.bind λi=>p.2[i]?.bind λe=>if p.2.length=since then some (.tup [se e.1,e.2])else none
 | _=>none
theorem ac3(H:U)(x:Option Ob):(match x with
  | some (.iX (.gx m) since seen)=>(match lD H m,seen.getLast? with
   | some (_,es),some i=>(match es[i]? with
    | some (k,d)=>if es.length=since then some (.tup [se k,d])else none
    | none=>none)
   | _,_=>none)
  | _=>none)=Mo H x:=by
 unfold Mo;split
 .rename_i m since seen
  cases a:lD H m with
  | none=>simp
  | some p=>
   cases hs:seen.getLast? with
   | none=>simp
   | some i=>
    simp only[Option.bind_some];cases p.2[i]? <;> rfl
 .rfl
@[simp] theorem asN(v:Nat)(H:U):Mp (.ptr v 0 0) H=Mo H H[v]? := ac3 H H[v]?
@[simp] theorem asM(H:U)(m since:Nat)(seen:List Nat):Mo H (some (.iX (.gx m) since seen))=(lD H m).bind λp=>seen.getLast?.bind λi=>p.2[i]?.bind λe=>if p.2.length=since then some (.tup [se e.1,e.2])else none:=rfl
@[simp] theorem aw5(m:Nat)(H:U)(a:Nat):HV (.gx m) H a=(lD H m).bind λp=>some (.ptr a 0 0,.new (.iX (.gx m) p.2.length [])):=by simp only[HV];cases lD H m<;>rfl
theorem tX.at{v m since:Nat}{seen:List Nat}{kk:KK}{es:List (Value×D)}{dst:Option Nat}{s:St}{K:St->Prop}(a:s.H[v]? = some (.iX (.gx m) since seen))(b:s.H[m]? = some (.map kk es))(hs:es.length=since)
  (h0:(∀i,i<es.length->i∈seen)->K { s with env:=put s.env dst (.tup [.b false]) })
  (h1:∀i k d,es[i]? = some (k,d)->i ∉ seen->K { s with env:=put s.env dst (.tup [.b true,se k,d]),H:=s.H.set v (.iX (.gx m) since (seen ++ [i])) }):tX (.ptr v 0 0) dst s K .mk:=
 ⟨v,m,since,seen,kk,es,rfl,a,b,hs,h0,h1⟩
@[simp] theorem arn(t:TypeId)(v k o n:Nat):sA t (.ptr v k o) n=some (.ptr n 0 0,.new (.row t 0 [.ptr v k o])):=rfl
@[simp] theorem awi(n:Nat)(m:D)(since:Nat)(seen:List Nat):oG n (.iX m since seen) = []:=rfl
@[simp] theorem axL(ρ:Nat->Option Nat)(H:U)(m:D)(since:Nat)(seen:List Nat):uL ρ H (some (.iX m since seen)) = .iX (gd ρ H 40 m) since seen:=rfl
end Go.AL
namespace Go.Proofs.YtmehofoficaelaaGreatDoor
open Go Go.AL Classical
set_option maxRecDepth 10000
set_option maxHeartbeats 8000000
theorem Qe{α:Type}[Inhabited α]{l a:List α}(h:l.length=a.length)(k:∀j:Int,0<=j->j<l.length->gt l j=gt a j):l=a:=
 bC h λi h1 b=>by have:=k i (by omega) (by omega);rwa [AZ h1,AZ b]at this
def vN{α:Type}(v:List α)(a:Int->α):List Int->List α
 | []=>v
 | i::r=>vN (pt v i (a i)) a r
@[simp] theorem aw2{α:Type}(a:Int->α)(v:List α):vN v a []=v:=rfl
theorem HQ{α:Type}[Inhabited α](a:Int->α):∀(r:List Int) (v:List α),(∀i∈r,0<=i/\i<v.length)->(vN v a r).length=v.length
 | [],v,_=>rfl
 | i::r,v,h=>by have h1:=h i (by simp);have b:=iH (v:=a i) h1.1 h1.2;rw[vN,HQ a r _ λj c=>by rw[b];exact h j (by simp[c]),b]
theorem F9{α:Type}[Inhabited α](a:Int->α):∀(r:List Int) (v:List α),(∀i∈r,0<=i/\i<v.length)->∀j:Int,0<=j->j<v.length->gt (vN v a r) j=if j∈r then a j else gt v j
 | [],v,_,j,_,_=>by simp[vN]
 | i::r,v,h,j,j0,j1=>by
  have h1:=h i (by simp);have d:=iH (v:=a i) h1.1 h1.2;rw[vN,F9 a r _ (λk c=>by rw[d];exact h k (by simp[c])) j j0 (by omega),pq h1.1 h1.2 j0]
  by_cases b:j∈r
  .simp[b]
  .by_cases e:j=i
   .subst e;simp[b]
   .simp[b,e]
def esD(a:Int->fO)(ds:List Int):List (Value×D):=ds.map λi=>(.int .i64 i,.agg [.i (a i).1,.i (a i).2])
@[simp] theorem asR(a:Int->fO):esD a [] = []:=rfl
section
variable(g:fY)(l:List Pos)(nx:List (List Int))(part:List Int)
noncomputable def Mm(v:List fO)(b:List Bool)(n:Int)(i:Int):fO:=(oU g (gt l i) v b (gt nx i) n).1
noncomputable def SD(v:List fO)(b:List Bool)(n:Int)(i:Int):Bool:=(oU g (gt l i) v b (gt nx i) n).2&&gt b i
noncomputable def rR(v:List fO)(b:List Bool)(n:Int):List Int:=part.filter (SD g l nx v b n)
noncomputable def rV(v:List fO)(b:List Bool)(n:Int):List fO:=vN v (Mm g l nx v b n) (rR g l nx part v b n)
noncomputable def rB(v:List fO)(b:List Bool)(n:Int):List Bool:=vN b (λ_=>false) (rR g l nx part v b n)
def wC(v:List fO)(b:List Bool):List fO×List Bool:=(vN v (λ_=>(2,0)) (part.filter λi=>gt b i),vN b (λ_=>false) (part.filter λi=>gt b i))
@[simp] theorem as2(v:List fO)(b:List Bool):wC [] v b=(v,b):=rfl
end
def gk(ds:List Int)(a:List Nat):List Int:=a.map λj:Nat=>gt ds (j:Int)
@[simp] theorem ats(ds:List Int):gk ds [] = []:=rfl
theorem Pm{l:List fO}{n:Int}(a b:Int):(cl fS l).take (n.toNat*2) ++ .i a :: .i b::(cl fS l).drop (n.toNat*2+2)=cl fS (pt l n (a,b)):=by rw[show n.toNat*2+2=(n.toNat+1)*2 by omega,uf,xy];unfold pt;rw[<-AA,mO,AS];rfl
theorem acQ{g:fY}{l:List Pos}{nx:List (List Int)}{part:List Int}{v:List fO}{b:List Bool}{n i:Int}(h:i∈rR g l nx part v b n):i∈part:=(aM.1 h).1
def OG(w:Bool)(g:fY)(l:List Pos)(nx:List (List Int)):List D:=[.fM (bif w then 3 else 4) (bif w then 0 else 1) 2 0 l.length,.fM (bif w then 4 else 3) 0 1 0 l.length,.i g.size,.sl 1 (g.next.map fI),dI g.jn,.sl 3 (g.kinds.map Kind.cells),.i g.gD,.b g.oi,dN 4 Clause.cells g.clauses,.i g.blocked,.i g.uY,gQ l,.sl 1 (nx.map fN)]
def tp(w:Bool):D:=.ptr (bif w then 2 else 1) 0 0
def H5(w:Bool)(z:List fO)(g:fY)(l:List Pos)(nx:List (List Int))(m:List Int)(v:List fO)(b:List Bool):U:=
 bif w then [.row 43 0 g.cells,.row 56 0 [dI m],.row 132 0 (OG w g l nx),.row 86 0 (cl fS v),.row 4 0 (cl fB b)]else [.row 43 0 g.cells,.row 132 0 (OG w g l nx),.row 86 0 (cl fS z),.row 4 0 (cl fB b),.row 86 1 (cl fS v)]
def HF(w:Bool)(z:List fO)(g:fY)(l:List Pos)(nx:List (List Int))(m:List Int)(part:List Int)(n t:Int)(v:List fO)(b:List Bool)(st:p9):U:=
 H5 w z g l nx m v b ++ [.row 125 0 [tp w],.row 37 0 [dI part],.row 3 0 [.i n],.row 3 0 [.i t],.row 125 0 [tp w],.jv,.ia 3456 [(3,.ptr 5 0 0),(4,.ptr 6 0 0),(5,.ptr 7 0 0),(9,.ptr 8 0 0)] st]
structure xf(g:fY)(l:List Pos)(nx:List (List Int))(part:List Int)(bu:Int):Prop where
 gm:gN g
 ps:∀p∈l,ij g p
 len:l.length<=4000
 nxl:nx.length=l.length
 Zo:∀i:Int,0<=i->i<l.length->(∀k∈gt nx i,0<=k/\k<l.length)/\(gt nx i).length<=4000000000
 prt:∀i∈part,0<=i/\i<l.length
 nd:part.Nodup
 pl:part.length<=4000
 bu:1<=bu/\bu<=9223372036854775807
end Go.Proofs.YtmehofoficaelaaGreatDoor
namespace Go.Proofs.YtmehofoficaelaaGreatDoor
open Go Go.AL Classical
set_option maxRecDepth 10000
set_option maxHeartbeats 4000000
@[simp] theorem ari(t:TypeId)(l:List Int)(n:Nat):sA t (dU l) n=some (.ptr n 0 0,.new (.row t 0 [dU l])):=rfl
@[simp] theorem ayj(f:gL)(l:List Int)(lo:Option X)(hi mx:X):yw f 1 (dU l) lo hi mx=(gY f lo 0).bind λa=>(tE (ev f hi)).bind λh=>(tE (ev f mx)).bind λm=>if 0<=a/\a<=h/\h=m/\m<=l.length then some (cB ((l.drop a.toNat).take (h.toNat-a.toNat)))else none:=by unfold dU;rw[ano,List.length_map];simp only[Ow,aci]
theorem gj.n{T:il}{f:FuncId}{args:List D}{dst:Option Nat}{s a:St}{K:St->Prop}(hs:s=a)(h:gj T f args dst a K .mk):gj T f args dst s K .mk:=by subst hs;exact h
theorem ad4(b:List Int):Wf T 221 [dU b] [] (Is (cB b)):=by refine Yg Cv ?_;simp[Cv]
theorem ad5:Wf T 221 [.fX] [] (Is .fX):=by refine Yg Cv ?_;simp[Cv]
theorem VY(b:List Int):Wf T 222 [dU b,.i 64] [] (Is (.fn (.func 274) [] [.gi [dU b],.gi [.i 64]])):=by refine Yg Jw ?_;simp[Jw]
theorem V0(P S:List Int)(hl:P.length % 64=0)(p:P.length<=4000001000)(hS:S.length=8):Wf T 274 [.iP 5,.gi [dU P],.gi [.i 64]]
  [.row 70 0 (cl fU (zs 32)),.row 5 0 [.val (.int .u8 128)],.dead,.row 323 0 (cl fW S),.jv,.ia 9920 [(5,.ptr 3 0 0)] .ready]
  (λ_ H'=>H' = [.row 70 0 (cl fU (zs 32)),.row 5 0 [.val (.int .u8 128)],.dead,.row 323 0 (cl fW (pK P S (P.length / 64))),.jv,.ia 9920 [(5,.ptr 3 0 0)] .ready]):=by
 refine Yg JC ?_;simp[JC];refine fZ.e ((0,S):Int×List Int) (λy=>[(0,.iP 5),(1,.gi [dU P]),(2,.gi [.i 64]),(4,.i y.1)]) (λy=>[.row 70 0 (cl fU (zs 32)),.row 5 0 [.val (.int .u8 128)],.dead,.row 323 0 (cl fW y.2),.jv,.ia 9920 [(5,.ptr 3 0 0)] .ready]) (λy=>∃n:Nat,y.1=64*n/\y.1<=P.length/\y.2=pK P S n) (λy=>(P.length+64-y.1).toNat) ?_ ?_
 .exact⟨0,by simp,by simp,by simp[LL]⟩
 rintro⟨i,s⟩ ⟨n,gy,l,hs⟩;dsimp only at gy l hs ⊢;have a:s.length=8:=by rw[hs];exact CS P hS n
 by_cases hi:i<P.length
 .have d:s.take 8=s:=af (by omega);have j:s.drop 8 = []:=bR (by omega);have f:((P.drop i.toNat).take 64).length=64:=by rw[aK,aR];omega
  have e:=LN P S n;rw[<-hs,show 64*n=i.toNat by omega]at e;have o:(i+64).toNat-i.toNat=64:=by omega
  have em:min 64 ((P.length-i.toNat:Nat):Int)=64:=by omega
  obtain⟨B,h⟩:∃B,(P.drop i.toNat).take 64=B:=⟨_,rfl⟩;rw[h]at f e;have c:=ad6 s B a f;have g:=LF (s:=s) (b:=B) a;obtain⟨A,m⟩:∃A,s0 s B=A:=⟨_,rfl⟩;rw[m]at c e g;simp[hi,em];refine jH em ?_;simp only[em,o,h];refine qc.r (rf:=9920) (env0:=[(5,.ptr 3 0 0)]) (Rd:=CM) (by simp) rfl rfl CM.a CM.b (om rfl) (om rfl) ?_;simp[CM,a,d];refine Yc (c) ?_;simp[g,a,d,j];refine fQ ?_;refine LJ.e (i+64,A) ?_;exact⟨by omega,n+1,by omega,by omega,e.symm⟩
 .have k:n=P.length / 64:=by omega
  subst k;simp[hi,hs]
theorem VU(b:List Int)(X:b.length<=4000000000):Wf T 155 [dU b] [] (Is (.agg (cl fU (km b)))):=by
 have R:=ad4 b;obtain⟨B,w⟩:∃B,xq (8*b.length)=B:=⟨_,rfl⟩;have Z:B.length=8:=by rw[<-w];rfl
 have U:∀i:Int,0<=i->i<8->gt B i=IntKind.u8.wrap (mj .u64 (8*b.length) (56-8*i)):=λi i0 o=>by rw[<-w];exact LI _ i0 o
 obtain⟨p,D⟩:∃p,zZ b.length=p:=⟨_,rfl⟩;have V:p=63-(b.length+8) % 64:=by rw[<-D];rfl
 have hP:pad b=b++128::zs p++B:=by rw[pad,w,D,uO];simp
 obtain⟨C,E⟩:∃C,b++128::zs p=C:=⟨_,rfl⟩;rw[E]at hP;have Dg:C.length=b.length+1+p:=by rw[<-E];simp;omega
 obtain⟨r,A⟩:∃r,km b=r:=⟨_,rfl⟩;obtain⟨S,hS⟩:∃S,A1=S:=⟨_,rfl⟩;have x:S.length=8:=by rw[<-hS];rfl
 have n:yp (pK (C++B) S ((C++B).length / 64))=r:=by rw[<-A,km,hP,hS]
 rw[A];clear hP w D A;have J:S.take 8=S:=af (by omega);have s:IntKind.u64.wrap (b.length:Int)=b.length:=wrap_u64 (by omega) (by omega);have m:IntKind.u64.wrap (8*(b.length:Int))=8*b.length:=wrap_u64 (by omega) (by omega);refine Yz yI (iO 36 [2] yI.body) ?_;simp[yI,iO,kh,mN,mQ,nf,lK,UG,hS];refine Yc (R) ?_;simp;refine fQ ?_;refine fZ.e ((0,b ++ [128]):Nat×List Int) (λy=>[(0,dU b),(2,.ptr 0 0 0),(3,.fM 2 y.1 1 0 y.2.length)]) (λy=>[.row 70 0 (cl fU (zs 32)),.row 5 0 [.val (.int .u8 128)],.row 5 y.1 (cl fU y.2)]) (λy=>∃k:Nat,k<=p/\y.2=b++128::zs k) (λy=>b.length+1+p-y.2.length) ?_ ?_
 .exact⟨0,by omega,by simp⟩
 rintro⟨g,q⟩ ⟨k,k0,t⟩;dsimp only at k0 t ⊢;have DI:q.length=b.length+1+k:=by rw[t];simp;omega
 have c:gp ((q.length:Int)+8) 64=((q.length:Int)+8) % 64:=jt (by omega)
 by_cases N:k<p
 .have h1:¬((q.length:Int)+8) % 64=0:=by omega
  have M:q ++ [0]=b++128::zs (k+1):=by rw[t,<-OU];simp
  simp[c,h1];refine jH c ?_;refine LJ.e (g+1,q ++ [0]) ?_;exact⟨by simp;omega,k+1,N,M⟩
 .have I:k=p:=by omega
  subst I;have h1:((q.length:Int)+8) % 64=0:=by omega
  rw[E]at t;subst t;simp[c,h1,s,m];refine kM s m ?_;refine fZ.st (by simp;rfl) ?_;refine fZ.e ((0,g,q):Int×Nat×List Int) (λy=>[(0,dU b),(2,.ptr 0 0 0),(3,.fM 2 y.2.1 1 0 y.2.2.length),(4,.i (56-8*y.1))]) (λy=>[.row 70 0 (cl fU (zs 32)),.row 5 0 [.val (.int .u8 128)],.row 5 y.2.1 (cl fU y.2.2)]) (λy=>(0<=y.1/\y.1<=8)/\y.2.2=q++B.take y.1.toNat) (λy=>(8-y.1).toNat) ?_ ?_
  .simp
  rintro⟨i,Q,u⟩ ⟨⟨i0,o⟩,a⟩;dsimp only at i0 o a ⊢;have d:u.length=q.length+i.toNat:=by rw[a];simp;omega
  by_cases hi:i<8
  .have e:=OI (l:=B) i0 (by omega);rw[U i i0 hi]at e;have K:0<=56-8*i:=by omega
   simp[K,m,s];(with_reducible repeat' first|refine Xk ?_<;>try simp[m,s]|refine Xs ?_ ?_<;>intro h<;>(try intro Y)<;>(try simp[h,m,s])<;>try omega|refine Xg ?_|omega);refine LJ.i (i+1,Q+1,u ++ [IntKind.u8.wrap (mj .u64 (8*b.length) (56-8*i))]) (by first|rfl|simp[show 56-8*(i+1)=56-8*i-8 by omega]) (by first|rfl|simp[show 56-8*(i+1)=56-8*i-8 by omega]) rfl rfl ?_;exact⟨by omega,im,by rw[e,a,aJ]⟩
  .have z:i=8:=by omega
   subst z;obtain⟨P,hP⟩:∃P,q++B=P:=⟨_,rfl⟩;have MU:P.length=q.length+8:=by rw[<-hP];simp;omega
   have e:u=P:=by rw[a,af (by omega),hP]
   rw[hP]at n;clear d a hP;subst e;simp;refine fQ ?_;refine gj.n (by simp[x,J];rfl) ?_;rw[<-xC];refine Yc (VY u) ?_;simp;refine sZ.r (f:=274) (first:=[]) (cap:=[.gi [dU u],.gi [.i 64]]) rfl rfl rfl rfl ?_;simp;refine Wf.mono (V0 u S (by omega) (by omega) x) ?_;rintro _ H' rfl;have L:=CS u x (u.length / 64);obtain⟨v,G⟩:∃v,pK u S (u.length / 64)=v:=⟨_,rfl⟩;rw[G]at n L ⊢;clear G;have W:r.length=32:=by rw[<-n];exact Ea v
   have F:∀j:Int,0<=j->j<32->gt r j=IntKind.u8.wrap (mj .u32 (gt v (j / 4)) (24-8*(j % 4))):=λj j0 j1=>by rw[<-n];exact N1 v j0 j1
   clear n;refine⟨[(5,.ptr 3 0 0)],.ready,by simp,?_⟩;simp;refine fZ.st (by simp;rfl) ?_;refine fZ.kg [4] false ((0,zs 32):Int×List Int) (λy=>[(2,.ptr 0 0 0),(5,.ptr 3 0 0),(7,.ptr 5 0 0),(42,.i y.1)]) (λy=>[.row 70 0 (cl fU (zs 32)),.row 5 0 [.val (.int .u8 128)],.dead,.row 323 0 (cl fW v),.jv,.row 70 0 (cl fU y.2)]) (λy=>(0<=y.1/\y.1<=32)/\y.2.length=32/\∀j:Int,0<=j->j<y.1->gt y.2 j=gt r j) (λy=>(32-y.1).toNat) ?_ (by simp) (by first|rfl|(simp[iI];done)|(simp[*];done)) rfl rfl rfl ?_
   .exact⟨by simp,by simp,λj j0 j1=>absurd j1 (by dsimp only;omega)⟩
   rintro⟨i,u⟩ ⟨⟨i0,o⟩,d,a⟩;dsimp only at i0 o d a ⊢
   by_cases hi:i<32
   .have c:uG i 4=i / 4:=uH i0 (by omega) (by omega);have H:gp i 4=i % 4:=jt i0;simp[hi,c,H];refine kM c H ?_;refine LJ.i (i+1,pt u i (gt r i)) (by first|rfl|simp[F i i0 hi]) (by first|rfl|simp[F i i0 hi]) rfl rfl ?_;refine⟨by omega,im,by rw[iH i0 (by omega)];exact d,λj j0 j1=>?_⟩;dsimp only at j1 ⊢;rw[pq i0 (by omega) j0]
    by_cases e:j=i
    .rw[if_pos e,e]
    .rw[if_neg e];exact a j j0 (by omega)
   .have z:i=32:=by omega
    subst z
    have e:u=r:=by refine bC (by omega) λj j0 j1=>?_;have h:=a j (by omega) (by omega);rw[jb (by omega) (by omega),jb (by omega) (by omega)]at h;exact h
    subst e;have O:u.take 32=u:=af (by omega);simp[d,O]
